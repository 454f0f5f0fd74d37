import Derived.Test.YtgaaopjagcaojaaGreatAa
import Derived.WalkKit
set_option linter.unusedSimpArgs false
set_option linter.unusedVariables false
namespace Go.Proofs.YtgaaopjagcaojaaGreat
def dg(l:List Nat)(i:Nat):Nat:=l.getD i 0
theorem tx{l:List Nat}{i:Nat}(h:i<l.length):dg l i=l[i]:=by simp[dg,h]
theorem je{l:List Nat}{B:Nat}(h:∀d∈l,d<B)(hB:0<B)(i:Nat):dg l i<B:=by
 by_cases hi:i<l.length
 ·rw[tx hi];exact h _ (dW hi)
 ·simp[dg,lO (gY hi),hB]
def val(B:Nat):List Nat→Nat
 | []=>0
 |d::l=>d+B*val B l
theorem KA(B:Nat):val B []=0:=rfl
theorem k9(B d:Nat)(l:List Nat):val B (d::l)=d+B*val B l:=rfl
theorem BY(B:Nat)(l m:List Nat):val B (l++m)=val B l+B^l.length*val B m:=by
 induction l with
 |nil=>simp[val]
 |cons d l ih=>
  simp only[dO,k9,ih,aF,eB];grind
theorem kH(B:Nat)(l:List Nat)(d:Nat):val B (l++[d])=val B l+B^l.length*d:=by
 rw[BY];simp[val]
theorem mj(B:Nat)(l:List Nat)(h:∀d∈l,d<B):val B l<B^l.length:=by
 induction l with
 |nil=>simp[val]
 |cons d l ih=>
  have h1:d<B:=h d (by simp);have h2:=ih (fun x hx=>h x (by simp[hx]));simp only[k9,aF,eB];have h3:B*(val B l+1)≤B*B^l.length:=cJ B h2;grind
theorem yE(B:Nat)(l:List Nat)(h:∀d∈l,d=0):val B l=0:=by
 induction l with
 |nil=>rfl
 |cons d l ih=>simp[val,h d (by simp),ih (fun x hx=>h x (by simp[hx]))]
theorem vr(B n:Nat):val B (List.replicate n 0)=0:=yE B _ (by simp)
theorem iD(B:Nat)(l:List Nat)(k:Nat)(hk:k≤l.length):val B l=val B (l.take k)+B^k*val B (l.drop k):=by
 conv=>lhs;rw[←jY k l,BY]
 simp[fu hk]
theorem qI(B:Nat)(l:List Nat)(k:Nat)(hk:k<l.length):val B (l.take (k+1))=val B (l.take k)+B^k*dg l k:=by
 rw[List.take_succ_eq_append_getElem hk,kH];simp[fu (gf hk),dg,hk]
theorem eN(B:Nat)(l:List Nat)(k:Nat)(hk:l.length≤k):val B (l.take k)=val B l:=by
 rw[aW hk]
theorem ET(B:Nat)(l:List Nat)(k:Nat)(hk:l.length≤k):val B (l.take (k+1))=val B (l.take k):=by
 rw[aW hk,aW (by omega)]
def qO(l:List Nat):Prop:=l.getLast?≠some 0
theorem Gw:qO []:=by simp[qO]
theorem qO.pos(B:Nat){l:List Nat}(h:qO l)(hl:l≠ []):B^(l.length-1)≤val B l:=by
 obtain⟨m,d,rfl⟩:∃m d,l=m++[d]:=⟨l.dropLast,l.getLast hl,(List.dropLast_concat_getLast hl).symm⟩;have hd:d≠0:=by simpa [qO]using h
 simp only[kH,az,aF,bE];have:B^m.length*1≤B^m.length*d:=cJ _ (by omega);simp only[cz,eI];omega
theorem qO.zero_iff{B:Nat}{l:List Nat}(hB:0<B)(h:qO l):val B l=0↔l=[]:=by
 constructor
 ·intro h0;by_cases hl:l=[]
  ·exact hl
  ·have:=h.pos B hl;have:=gZ (n:=l.length-1) hB;omega
 ·rintro rfl;rfl
theorem qO.len_lt{B:Nat}{l m:List Nat}(hB:0<B)(hm:qO m)(hl:∀d∈l,d<B)(h:l.length<m.length):val B l<val B m:=by
 have h1:=mj B l hl;have h2:=hm.pos B (fun e=>by simp[e]at h);have h3:B^l.length≤B^(m.length-1):=cY hB (by omega);omega
theorem qO.len_le{B:Nat}{l m:List Nat}(hB:0<B)(hl:qO l)(hm:∀d∈m,d<B)(h:val B l≤val B m):l.length≤m.length:=by
 by_cases hh:m.length<l.length
 ·have:=hl.len_lt hB hm hh;omega
 ·omega
theorem qO.len_of_lt{B:Nat}{l:List Nat}{k:Nat}(hB:1<B)(hl:qO l)(h:val B l<B^k):l.length≤k:=by
 by_cases hh:l=[]
 ·simp[hh]
 ·have:=hl.pos B hh;have h2:B^(l.length-1)<B^k:=iN this h;have:=(Nat.pow_lt_pow_iff_right hB).1 h2;omega
theorem Lu{l:List Nat}{k:Nat}(hk:k≤l.length)(hz:∀i,k≤i→i<l.length→dg l i=0)(hp:0<k→dg l (k-1)≠0)(B:Nat):
  qO (l.take k)∧val B (l.take k)=val B l:=by
 constructor
 ·intro h;rw[gj]at h;simp only[dF,fu hk]at h;by_cases h0:0<k
  ·have:=hp h0;rw[List.getElem?_take_of_lt (by omega)]at h;simp[dg,h]at this
  ·obtain rfl:k=0:=by omega
   simp at h
 ·rw[iD B l k hk,yE B (l.drop k)]
  ·simp
  ·intro d hd;obtain⟨i,hi,rfl⟩:=List.mem_iff_getElem.1 hd;simp only[jG]at hi;have:=hz (k+i) (by omega) (by omega);simpa [dg,show k+i<l.length by omega]using this
theorem Dw{B:Nat}{l m:List Nat}{i:Nat}(hlen:l.length=m.length)(hi:i<l.length)(hl:∀d∈l,d<B)
  (hlt:dg l i<dg m i)(hs:∀j,i<j→j<l.length→dg l j=dg m j):val B l<val B m:=by
 have e:l.drop (i+1)=m.drop (i+1):=by
  apply rC (by simp[hlen]);intro j h1 h2;simp only[jG]at h1;have:=hs (i+1+j) (by omega) (by omega);simpa [dg,show i+1+j<l.length by omega,show i+1+j<m.length by omega]using this
 rw[iD B l (i+1) (by omega),iD B m (i+1) (by omega),e,qI B l i hi,qI B m i (by omega)];have h1:val B (l.take i)<B^(l.take i).length:=mj B _ (fun d hd=>hl d (dI hd));simp only[dF,fu (gf hi)]at h1;have h2:B^i*(dg l i+1)≤B^i*dg m i:=cJ _ hlt;rw[fD]at h2;omega
theorem D5{l m:List Nat}(hlen:l.length=m.length)(hs:∀j,j<l.length→dg l j=dg m j):l=m:=by
 apply rC hlen;intro j h1 h2;simpa [dg,h1,h2]using hs j h1
theorem tu{l:List Nat}{k:Nat}(h:l.length≤k):dg l k=0:=by simp[dg,lO h]
theorem da(B:Nat)(l:List Nat)(k:Nat):val B (l.take (k+1))=val B (l.take k)+B^k*dg l k:=by
 by_cases h:k<l.length
 ·exact qI B l k h
 ·rw[ET B l k (by omega),tu (by omega)];simp
theorem wu{B k q x y z:Nat}{o l r:List Nat}(hlen:o.length=k)(hx:dg l k=x)(hy:dg r k=y)(hz:q+x+y=z)(h:val B o+B^k*q=val B (l.take k)+val B (r.take k)):
  val B (o++[z % B])+B^(k+1)*(z/B)=val B (l.take (k+1))+val B (r.take (k+1)):=by
 rw[kH,hlen,da B l k,da B r k,hx,hy,eB];have h1:=fU z B;generalize z/B=u at*;generalize z % B=v at*;grind
theorem A0{B k q x y:Nat}{o l r:List Nat}(hlen:o.length=k)(hx:dg l k=x)(hy:dg r k=y)(hz:q+y≤x)(h:val B (l.take k)+B^k*q=val B o+val B (r.take k)):
  val B (l.take (k+1))+B^(k+1)*0=val B (o++[x-(q+y)])+val B (r.take (k+1)):=by
 rw[kH,hlen,da B l k,da B r k,hx,hy];obtain⟨z,rfl⟩:∃z,x=q+y+z:=⟨x-(q+y),by omega⟩;rw[Nat.add_sub_cancel_left];grind
theorem A5{B k q x y:Nat}{o l r:List Nat}(hlen:o.length=k)(hx:dg l k=x)(hy:dg r k=y)(hz:q+y≤x+B)(h:val B (l.take k)+B^k*q=val B o+val B (r.take k)):
  val B (l.take (k+1))+B^(k+1)*1=val B (o++[x+B-(q+y)])+val B (r.take (k+1)):=by
 rw[kH,hlen,da B l k,da B r k,hx,hy,eB];obtain⟨z,hz'⟩:∃z,x+B=q+y+z:=⟨x+B-(q+y),by omega⟩;rw[hz',Nat.add_sub_cancel_left];have h2:B^k*(x+B)=B^k*(q+y+z):=by rw[hz']
 grind
theorem N_{B n q:Nat}{o l r:List Nat}(ho:∀d∈o,d<B)(hol:o.length=n)(hrl:val B r≤val B l)(h:val B l+B^n*q=val B o+val B r):val B o=val B l-val B r:=by
 have h1:=mj B o ho;rw[hol]at h1;cases q with
 |zero=>simp at h;omega
 |succ q=>
  have:B^n*1≤B^n*(q+1):=cJ _ (by omega);omega
theorem Rc{B d j q x:Nat}{o l:List Nat}(hj:j<l.length)(hlen:l.length=o.length)(hx:dg l j=x)(h:val B (l.drop (j+1))=d*val B (o.drop (j+1))+q):
  val B (l.drop j)=d*val B ((o.set j ((q*B+x)/d)).drop j)+(q*B+x) % d:=by
 have h1:=fU (q*B+x) d;generalize(q*B+x)/d=u at*;generalize(q*B+x) % d=v at*;have h2:j<(o.set j u).length:=by rw[ft];omega
 have h3:(o.set j u).drop j=u::o.drop (j+1):=by
  rw[bI h2,List.getElem_set_self,List.drop_set_of_lt (by omega)]
 rw[tx hj]at hx;rw[h3,bI hj,k9,h,k9,hx];grind
theorem Ng{q x d:Nat}(hq:q<d)(hx:x<4294967296):(q*4294967296+x)/d<4294967296:=by
 rw[eU (by omega)];have:(q+1)*4294967296≤d*4294967296:=bZ _ hq;grind
theorem pC{B:Nat}{o:List Nat}{j d:Nat}(h:∀x∈o,x<B)(hd:d<B):∀x∈o.set j d,x<B:=by
 intro x hx;rcases List.mem_or_eq_of_mem_set hx with hx|rfl
 ·exact h x hx
 ·exact hd
theorem jT{B:Nat}{o:List Nat}{d:Nat}(h:∀x∈o,x<B)(hd:d<B):∀x∈o++[d],x<B:=by
 intro x hx;rcases List.mem_append.1 hx with hx|hx
 ·exact h x hx
 ·simp at hx;omega
theorem Oy(q x:Nat)(hx:x<4294967296):q*4294967296|||x=q*4294967296+x:=by
 have h:=Nat.two_pow_add_eq_or_of_lt (i:=32) (b:=x) (by omega) q;rw[show(2:Nat)^32=4294967296 from rfl,eA]at h;exact h.symm
theorem zP(q x:Nat)(hq:q<4294967296)(hx:x<4294967296):bits .or .u64 ((q:Int)*4294967296) (x:Int)=((q*4294967296+x:Nat):Int):=by
 have h:=u64_or_nat (q*4294967296) x (by omega) (by omega);rw[Oy q x hx]at h;rw[←h];rfl
def mK(x y:Nat):Int:=if x<y then-1 else if x=y then 0 else 1
theorem wF{x y:Nat}(h:x<y):mK x y= -1:=by simp[mK,h]
theorem uD{x y:Nat}(h:y<x):mK x y=1:=by unfold mK;rw[if_neg (by omega),if_neg (by omega)]
theorem wE(x:Nat):mK x x=0:=by unfold mK;rw[if_neg (by omega),if_pos rfl]
theorem SE(B a b:Nat):val B [a,b]=a+B*b:=by simp[val]
theorem uU{B:Nat}{l:List Nat}{j:Nat}(h:l.length=j+1):val B l=val B (l.take j)+B^j*dg l j:=by
 have h1:=da B l j;rw[eN B l (j+1) (by omega)]at h1;exact h1
theorem GI(q x:Nat)(hq:q<4294967296)(hx:x<4294967296):bits .or .u64 (q:Int) ((x:Int)*4294967296)=((q+x*4294967296:Nat):Int):=by
 have h:=u64_or_nat q (x*4294967296) (by omega) (by omega);rw[Nat.or_comm,Oy x q hq]at h;rw[Nat.add_comm,←h];rfl
theorem Lw(x:Nat)(hx:x<18446744073709551616):bits .or .u64 0 (x:Int)=(x:Int):=by
 have h:=u64_or_nat 0 x (by omega) hx;simpa using h
theorem sj(B:Nat)(l:List Nat)(j d:Nat)(hj:j<l.length):val B (l.set j d)+B^j*dg l j=val B l+B^j*d:=by
 have h1:=iD B l j (by omega);have h2:=iD B (l.set j d) j (by simp;omega);rw[bI hj,k9]at h1;have h3:(l.set j d).drop j=d::l.drop (j+1):=by
  rw[bI (by simp;omega),List.getElem_set_self,List.drop_set_of_lt (by omega)]
 rw[List.take_set_of_le (by omega),h3,k9]at h2;rw[h1,h2,tx hj];grind
theorem oH{l:List Nat}{i j d:Nat}(h:i≠j):dg (l.set i d) j=dg l j:=by simp[dg,List.getElem?_set_ne h]
theorem Ls(q x y z:Nat)(hq:q<4294967296)(hx:x<4294967296)(hy:y<4294967296)(hz:z<4294967296):(q+(x*y+z))/4294967296<4294967296∧q+(x*y+z)<18446744073709551616:=by
 have:x*y≤4294967295*4294967295:=aR (by omega) (by omega);omega
theorem Og{B i k q x y z a:Nat}{o r:List Nat}(hp:i+k<o.length)(hy:dg r k=y)(hz:dg o (i+k)=z)
  (h:val B o+B^(i+k)*q=a+B^i*x*val B (r.take k)):
  val B (o.set (i+k) ((q+(x*y+z)) % B))+B^(i+(k+1))*((q+(x*y+z))/B)=a+B^i*x*val B (r.take (k+1)):=by
 have h1:=sj B o (i+k) ((q+(x*y+z)) % B) hp;rw[hz]at h1;rw[da B r k,hy];have h2:=fU (q+(x*y+z)) B;generalize(q+(x*y+z))/B=u at*;generalize(q+(x*y+z)) % B=v at*;have e1:B^(i+(k+1))=B^(i+k)*B:=by rw[←ij,eB]
 have e2:B^(i+k)=B^i*B^k:=cR B i k;have h3:B^(i+k)*(B*u+v)=B^(i+k)*(q+(x*y+z)):=by rw[h2]
 rw[e1];have h4:val B (o.set (i+k) v)+B^(i+k)*z+B^(i+k)*(B*u)=val B o+B^(i+k)*(q+(x*y+z)):=by rw[←h3,h1];grind
 have h5:val B (o.set (i+k) v)+B^(i+k)*(B*u)=val B o+B^(i+k)*q+B^(i+k)*(x*y):=by grind
 rw[lM,h5,h,e2];grind
theorem RJ{B i m q x:Nat}{o l r:List Nat}(hp:i+m<o.length)(hm:r.length=m)(hx:dg l i=x)(hz:dg o (i+m)=0)
  (h:val B o+B^(i+m)*q=val B (l.take i)*val B r+B^i*x*val B (r.take m)):
  val B (o.set (i+m) q)=val B (l.take (i+1))*val B r:=by
 have h1:=sj B o (i+m) q hp;rw[hz]at h1;rw[eN B r m (by omega)]at h;rw[da B l i,hx];grind
theorem PM{q x sh:Nat}(hq:q<2^sh)(hx:x<4294967296)(hs:sh<32):q+x*2^sh<18446744073709551616∧(q+x*2^sh)/4294967296<2^sh∧q<4294967296:=by
 have h1:2^sh≤2^31:=cY (by omega) (by omega);have h2:(x+1)*2^sh≤4294967296*2^sh:=bZ _ hx;rw[ed]at h2;refine⟨by omega,?_,by omega⟩;rw[eU (by omega)];omega
theorem OA(q x sh:Nat)(hq:q<2^sh)(hx:x<4294967296)(hs:sh<32):bits .or .u64 (q:Int) (IntKind.u64.wrap ((x:Int)*2^sh))=((q+x*2^sh:Nat):Int):=by
 obtain⟨h1,_,h2⟩:=PM hq hx hs;have e:(x:Int)*2^sh=((x*2^sh:Nat):Int):=by simp
 rw[e,IntWalk.u64_in _ (by omega),u64_or_nat q (x*2^sh) (by omega) (by omega)];congr 1;have h:=Nat.two_pow_add_eq_or_of_lt hq x;rw[eA,Nat.or_comm,←h,Nat.add_comm,eA]
theorem SC{B K k q x P N:Nat}{o l:List Nat}(hlen:o.length=K+k)(hx:dg l k=x)(hN:q+x*P=N)(h:val B o+B^(K+k)*q=B^K*(val B (l.take k)*P)):
  val B (o++[N % B])+B^(K+(k+1))*(N/B)=B^K*(val B (l.take (k+1))*P):=by
 rw[kH,hlen,da B l k,hx];have h1:=fU N B;generalize N/B=u at*;generalize N % B=v at*;have e1:B^(K+(k+1))=B^(K+k)*B:=by rw[←ij,eB]
 have e2:B^(K+k)=B^K*B^k:=cR B K k;have h3:B^(K+k)*(B*u+v)=B^(K+k)*(q+x*P):=by rw[h1,hN]
 have h4:val B o+B^(K+k)*v+B^(K+(k+1))*u=val B o+B^(K+k)*q+B^(K+k)*(x*P):=by rw[e1];grind
 rw[h4,h,e2];grind
theorem zO(x m:Nat)(hx:x<4294967296)(hm:m<4294967296):0≤(x:Int)*m∧(x:Int)*m≤18446744065119617025:=by
 have h:x*m≤18446744065119617025:=by
  have:x*m≤4294967295*4294967295:=aR (by omega) (by omega);omega
 rw[←dp];omega
theorem Ia{B P Q m y R:Nat}(hB:B=P*Q)(hP:0<P):(m+B*(y+B*R))/P % B=(m+B*y)/P % B:=by
 have e:m+B*(y+B*R)=(m+B*y)+P*(B*(Q*R)):=by subst hB;grind
 rw[e,mG _ _ hP,Nat.add_mul_mod_self_left]
theorem CN{B P Q k x y:Nat}{o l:List Nat}(hB:B=P*Q)(hP:0<P)(xO:0<B)(hlen:o.length=k)(hk:k<l.length)(hx:dg l k=x)(hy:dg l (k+1)=y)(hl:∀d∈l,d<B)
  (h:val B o+B^k*(val B (l.drop k)/P)=val B l/P):
  val B (o++[(x+y*B)/P % B])+B^(k+1)*(val B (l.drop (k+1))/P)=val B l/P:=by
 have e1:val B (l.drop k)=x+B*val B (l.drop (k+1)):=by
  rw[bI hk,k9,←tx hk,hx]
 have hx':x<B:=by rw[←hx];exact je hl xO k
 obtain⟨R,e2⟩:∃R,val B (l.drop (k+1))=y+B*R:=by
  by_cases h2:k+1<l.length
  ·exact⟨val B (l.drop (k+1+1)),by rw[bI h2,k9,←tx h2,hy]⟩
  ·refine⟨0,?_⟩;rw[bu (by omega),←hy,tu (by omega)];rfl
 have e3:val B (l.drop k)/P % B=(x+y*B)/P % B:=by rw[e1,e2,Ia hB hP,eA y B]
 have e4:val B (l.drop k)/P/B=val B (l.drop (k+1))/P:=by
  rw[Nat.div_div_eq_div_mul,eA P B,←Nat.div_div_eq_div_mul,e1,mG _ _ xO,jH hx',cz]
 rw[kH,hlen,←e3,←e4,←h,eB];have h1:=fU (val B (l.drop k)/P) B;generalize val B (l.drop k)/P=D at*;generalize D/B=u at*;generalize D % B=v at*;rw[←h1];grind
theorem Hm(B:Nat)(hB:0<B)(l:List Nat)(k:Nat)(hl:∀d∈l,d<B):val B (l.drop k)=val B l/B^k:=by
 by_cases hk:k≤l.length
 ·have h1:=iD B l k hk;have h2:=mj B (l.take k) (fun d hd=>hl d (dI hd));simp only[dF,fu hk]at h2;rw[h1,mG _ _ (gZ hB),jH h2,cz]
 ·have h1:=mj B l hl;have h2:B^l.length≤B^k:=cY hB (by omega);rw[bu (by omega),jH (by omega)];rfl
theorem wH(l:List Nat)(k i:Nat):dg (l.drop k) i=dg l (k+i):=by simp[dg]
theorem LH{sh:Nat}(hs:sh≤32):4294967296=2^sh*2^(32-sh):=by
 rw[←cR,show sh+(32-sh)=32 from by omega]
theorem Nb{B m:Nat}{l:List Nat}(hB:0<B)(h:val B l<B^m)(j:Nat)(hj:m≤j):dg l j=0:=by
 by_cases hl:j<l.length
 ·apply Nat.eq_zero_of_not_pos;intro hp;have h1:=iD B l j (by omega);rw[bI hl,k9,←tx hl]at h1;have h2:B^m≤B^j:=cY hB hj;have h3:B^j*1≤B^j*(dg l j+B*val B (l.drop (j+1))):=cJ _ (by omega);omega
 ·exact tu (by omega)
theorem BZ{B:Nat}{l:List Nat}(m:Nat)(h:∀j,m≤j→dg l j=0):val B l=val B (l.take m):=by
 by_cases hm:m≤l.length
 ·rw[iD B l m hm,yE B (l.drop m)]
  ·simp
  ·intro d hd;obtain⟨i,hi,rfl⟩:=List.mem_iff_getElem.1 hd;simp only[jG]at hi;have:=h (m+i) (by omega);rw[tx (by omega)]at this;simpa using this
 ·rw[eN _ _ _ (by omega)]
theorem xF{B:Nat}{l:List Nat}(hB:0<B)(hl:∀d∈l,d<B)(m:Nat):val B (l.take m)<B^m:=by
 have h1:=mj B (l.take m) (fun d hd=>hl d (dI hd));have h2:B^(l.take m).length≤B^m:=cY hB (by simp;omega);omega
section
variable{B P t s D2 D two x W2 W:Nat}
theorem Nx(hD:D=(t*B+s)*P+D2)(hW:W=(two*B+x)*P+W2)(ht:0<t)(hx:x<B)(hW2:W2<P):W/D≤two/t:=by
 rw[jZ ht];have h1:W/D*D≤W:=Nat.div_mul_le_self W D;generalize W/D=g at*;apply gY;intro hlt;have h2:(two+1)*(B*P)≤g*t*(B*P):=bZ _ hlt;have h3:g*t*(B*P)≤g*D:=by
  rw[hD];have:t*(B*P)≤(t*B+s)*P+D2:=by
   have:t*B*P≤(t*B+s)*P:=bZ _ (by omega);rw[←lM];omega
  rw[lM];exact cJ _ this
 have h4:W<(two+1)*(B*P):=by
  rw[hW];have:(two*B+x+1)*P≤(two*B+B)*P:=bZ _ (by omega);have e:(two+1)*(B*P)=(two*B+B)*P:=by grind
  rw[e];rw[ed _ 1]at this;omega
 omega
theorem CS{g left:Nat}(hD:D=(t*B+s)*P+D2)(hW:W=(two*B+x)*P+W2)(hW2:W2<P)(hD0:0<D)(hWB:W<B*D)(_hg:W/D≤g)(hl:g*t+left=two)
  (hc:B≤g∨left*B+x<g*s):W/D≤g-1∧0<g:=by
 have key:W<g*D:=by
  rcases hc with hc|hc
  ·exact cQ hWB (bZ _ hc)
  ·have h1:two*B+x+1≤g*(t*B+s):=by
    rw[←hl];have:g*(t*B+s)=g*t*B+g*s:=by grind
    rw[this,ed];omega
   have h2:(two*B+x+1)*P≤g*(t*B+s)*P:=bZ _ h1;have h3:g*(t*B+s)*P≤g*D:=by
    rw[hD,lM];exact cJ _ (by omega)
   rw[ed _ 1]at h2;omega
 have:W/D<g:=by
  rw[eU hD0];exact key
 generalize W/D=q at*;omega
theorem AK{g left:Nat}(hD:D=(t*B+s)*P+D2)(hW:W=(two*B+x)*P+W2)(hD2:D2<P)(ht:0<t)(hD0:0<D)(hl:g*t+left=two)(hgB:g≤B)
  (hc:g*s≤left*B+x):g≤W/D+1:=by
 have h1:g*(t*B+s)≤two*B+x:=by
  rw[←hl];have:g*(t*B+s)=g*t*B+g*s:=by grind
  rw[this,ed];omega
 have h2:g*(t*B+s)*P≤(two*B+x)*P:=bZ _ h1;have h3:g*D=g*(t*B+s)*P+g*D2:=by rw[hD];grind
 have h4:g*D2≤B*D2:=bZ _ hgB;have h5:B*D2≤B*P:=cJ _ (by omega);have h6:B*P≤D:=by
  rw[hD];have:1*(B*P)≤t*(B*P):=bZ _ ht;have e:(t*B+s)*P=t*(B*P)+s*P:=by grind
  rw[e];omega
 have h7:g*D≤W+D:=by omega
 have h8:(g-1)*D≤W:=by
  rw[Nat.sub_mul,la];omega
 have:=(jZ hD0).2 h8;omega
theorem yR{g left:Nat}(hgB:g≤B)(hs:s<B)(hl:B≤left):g*s≤left*B+x:=by
 have h1:g*s≤B*B:=aR hgB (by omega);have h2:B*B≤left*B:=bZ _ hl;omega
theorem FP(hD:D=(t*B+s)*P+D2)(hW:W=(two*B+x)*P+W2)(hs:s<B)(hD2:D2<P)(TL:B≤2*t)(_hB:0<B)(hWB:W<B*D):two/t≤B+1:=by
 have ht:0<t:=by omega
 have h1:two<(t+1)*B:=by
  apply Nat.lt_of_not_le;intro hle;have h2:(t+1)*B*(B*P)≤two*(B*P):=bZ _ hle;have h3:two*(B*P)≤W:=by
   rw[hW];have:two*B*P≤(two*B+x)*P:=bZ _ (by omega);rw[←lM];omega
  have h4:D<(t+1)*B*P:=by
   rw[hD];have:(t*B+s+1)*P≤(t+1)*B*P:=bZ _ (by rw[ed];omega);rw[ed _ 1]at this;omega
  have h5:B*D≤B*((t+1)*B*P):=cJ _ (by omega);have e:(t+1)*B*(B*P)=B*((t+1)*B*P):=by grind
  omega
 have h6:two/t<B+2:=by
  rw[eU ht];have:(t+1)*B=t*B+B:=by grind
  have:(B+2)*t=t*B+2*t:=by grind
  omega
 omega
end
theorem C6{B i k g c bo bo' y z x' R:Nat}{p d:List Nat}(hp:i+k<p.length)(hz:dg p (i+k)=z)(hy:dg d k=y)
  (hx:x'+(c+g*y) % B+bo=z+B*bo')
  (h:val B p+B^i*(g*val B (d.take k))=R+B^(i+k)*(c+bo)):
  val B (p.set (i+k) x')+B^i*(g*val B (d.take (k+1)))=R+B^(i+(k+1))*((c+g*y)/B+bo'):=by
 have h1:=sj B p (i+k) x' hp;rw[hz]at h1;rw[da B d k,hy];have h2:=fU (c+g*y) B;generalize(c+g*y)/B=u at*;generalize(c+g*y) % B=v at*;have e1:B^(i+(k+1))=B^(i+k)*B:=by rw[←ij,eB]
 have e2:B^(i+k)=B^i*B^k:=cR B i k;have e3:B^i*(g*(val B (d.take k)+B^k*y))=B^i*(g*val B (d.take k))+B^(i+k)*(g*y):=by rw[e2];grind
 rw[e3,e1];generalize B^i*(g*val B (d.take k))=S at*;generalize B^(i+k)=Q at*;generalize val B (p.set (i+k) x')=V' at*;generalize val B p=V at*;have h3:Q*(x'+v+bo)=Q*(z+B*bo'):=by rw[hx]
 have h4:Q*(B*u+v)=Q*(c+g*y):=by rw[h2]
 generalize g*y=G at*;grind
theorem Lp{B i n z cb R S:Nat}{p:List Nat}(hp:i+n<p.length)(hz:dg p (i+n)=z)(hzc:cb≤z)
  (h:val B p+S=R+B^(i+n)*cb):val B (p.set (i+n) (z-cb))+S=R:=by
 have h1:=sj B p (i+n) (z-cb) hp;rw[hz]at h1;obtain⟨y,rfl⟩:∃y,z=cb+y:=⟨z-cb,by omega⟩;rw[Nat.add_sub_cancel_left]at*;rw[fD]at h1;omega
theorem Lq{B i n z cb R S:Nat}{p:List Nat}(hp:i+n<p.length)(hz:dg p (i+n)=z)(hzc:z<cb)(hcb:cb≤z+B)
  (h:val B p+S=R+B^(i+n)*cb):val B (p.set (i+n) (z+B-cb))+S=R+B^(i+n)*B:=by
 have h1:=sj B p (i+n) (z+B-cb) hp;rw[hz]at h1;obtain⟨y,hy⟩:∃y,z+B=cb+y:=⟨z+B-cb,by omega⟩;have e:z+B-cb=y:=by omega
 rw[e]at h1⊢;have h2:B^(i+n)*(z+B)=B^(i+n)*(cb+y):=by rw[hy]
 rw[fD,fD]at h2;omega
theorem KQ{B i k c y z R:Nat}{p d:List Nat}(hp:i+k<p.length)(hz:dg p (i+k)=z)(hy:dg d k=y)
  (h:val B p+B^(i+k)*c=R+B^i*val B (d.take k)):
  val B (p.set (i+k) ((c+(z+y)) % B))+B^(i+(k+1))*((c+(z+y))/B)=R+B^i*val B (d.take (k+1)):=by
 have h1:=sj B p (i+k) ((c+(z+y)) % B) hp;rw[hz]at h1;rw[da B d k,hy];have h2:=fU (c+(z+y)) B;generalize(c+(z+y))/B=u at*;generalize(c+(z+y)) % B=v at*;have e1:B^(i+(k+1))=B^(i+k)*B:=by rw[←ij,eB]
 have e2:B^(i+k)=B^i*B^k:=cR B i k;have e3:B^i*(val B (d.take k)+B^k*y)=B^i*val B (d.take k)+B^(i+k)*y:=by rw[e2];grind
 rw[e3,e1];generalize B^i*val B (d.take k)=S at*;generalize B^(i+k)=Q at*;have h4:Q*(B*u+v)=Q*(c+(z+y)):=by rw[h2]
 grind
theorem MK{B m z c T:Nat}{p:List Nat}(hB:1<B)(hp:m<p.length)(hl:∀d∈p,d<B)(hz:dg p m=z)(hab:∀j,m<j→dg p j=0)(hT:T<B^m)
  (h:val B p+B^m*c=T+B^m*B):z+c=B∧val B (p.set m 0)=T:=by
 have h1:=sj B p m 0 hp;rw[hz]at h1;have h2:val B p=val B (p.take m)+B^m*z:=by
  rw[BZ (B:=B) (m+1) (fun j hj=>hab j (by omega)),da,hz]
 have h3:=xF (B:=B) (by omega) hl m;have hP:0<B^m:=gZ (by omega);have h4:val B (p.take m)+B^m*(z+c)=T+B^m*B:=by rw[fD];omega
 have h5:z+c=B:=by
  have e1:(val B (p.take m)+B^m*(z+c))/B^m=z+c:=by rw[mG _ _ hP,jH h3,cz]
  have e2:(T+B^m*B)/B^m=B:=by rw[mG _ _ hP,jH hT,cz]
  rw[←e1,h4,e2]
 refine⟨h5,?_⟩;rw[h5]at h4;omega
theorem Xn{B i n:Nat}{p:List Nat}(hB:0<B)(hl:∀d∈p,d<B)(hab:∀j,i+(n+2)<j→dg p j=0)(_hi:i≤p.length):
  val B p/B^i=((dg p (i+(n+2))*B+dg p (i+(n+1)))*B+dg p (i+n))*B^n+val B ((p.drop i).take n):=by
 rw[←Hm B hB p i hl];have h1:val B (p.drop i)=val B ((p.drop i).take (n+3)):=BZ (n+3) (fun j hj=>by rw[wH];exact hab _ (by omega));rw[h1,da,da,da,wH,wH,wH];have e1:B^(n+1)=B^n*B:=eB ..;have e2:B^(n+2)=B^n*B*B:=by rw[show n+2=(n+1)+1 from rfl,eB,eB]
 rw[show n+1+1=n+2 from rfl,e1,e2];grind
theorem Ss{B n:Nat}{d:List Nat}(h:d.length=n+2):val B d=(dg d (n+1)*B+dg d n)*B^n+val B (d.take n):=by
 have h1:val B d=val B (d.take (n+2)):=by rw[eN _ _ _ (by omega)]
 rw[h1,da,da,eB];grind
theorem vJ{B i g D R V:Nat}(hD:0<D)(hB:0<B^i)(hlo:R/B^i/D≤g)(h:V+B^i*(g*D)=R):g=R/B^i/D∧V<D*B^i:=by
 have h1:g*D≤R/B^i:=by
  rw[jZ hB,eA];omega
 have h2:g≤R/B^i/D:=by rw[jZ hD];exact h1
 have h3:g=R/B^i/D:=by omega
 refine⟨h3,?_⟩;have h4:R/B^i<(g+1)*D:=by
  rw[h3,←eU hD];omega
 have h5:R<(g+1)*D*B^i:=by
  rw[←eU hB];exact h4
 have e:(g+1)*D*B^i=B^i*(g*D)+D*B^i:=by grind
 omega
theorem Jr{B j g D R U V:Nat}{qs:List Nat}(hj:j<qs.length)(h1:V+B^j*(g*D)=R)(h2:R+D*(B^(j+1)*val B (qs.drop (j+1)))=U):
  V+D*(B^j*val B ((qs.set j g).drop j))=U:=by
 have h3:(qs.set j g).drop j=g::qs.drop (j+1):=by
  rw[bI (by simp;omega),List.getElem_set_self,List.drop_set_of_lt (by omega)]
 rw[h3,k9,←h2,←h1,eB];grind
theorem Lr{B j M g D z cb R:Nat}{p:List Nat}(hB:1<B)(hl:∀d∈p,d<B)(hz:dg p M=z)(hzc:z<cb)(hab:∀j',M<j'→dg p j'=0)(hD:0<D)
  (h:val B p+B^j*(g*D)=R+B^M*cb):R/B^j/D<g:=by
 have h2:val B p=val B (p.take M)+B^M*z:=by
  rw[BZ (B:=B) (M+1) (fun j' hj=>hab j' (by omega)),da,hz]
 have h3:=xF (B:=B) (by omega) hl M;have h4:B^M*(z+1)≤B^M*cb:=cJ _ hzc;rw[fD,fO]at h4;rw[eU hD,eU (gZ (by omega))];have e:g*D*B^j=B^j*(g*D):=eA _ _;omega
theorem U1{B j M g D R V V3 c:Nat}(hB:1<B)(hD:0<D)(hDM:D*B^j≤B^M)(hg:R/B^j/D=g)(h:V+B^j*((g+1)*D)=R+B^M*B)(h3:V3+B^M*c=V+B^j*D):
  ∃T,V3+B^M*c=T+B^M*B∧T<B^M∧T+B^j*(g*D)=R:=by
 have hP:0<B^j:=gZ (by omega);have h4:B^j*(g*D)≤R:=by
  have h5:g*D≤R/B^j:=by rw[←hg];exact Nat.div_mul_le_self _ _
  have:=(jZ hP).1 h5;rw[eA];exact this
 obtain⟨T,hT⟩:∃T,R=T+B^j*(g*D):=⟨R-B^j*(g*D),by omega⟩;have h6:T<D*B^j:=(vJ (B:=B) (i:=j) (g:=g) (D:=D) (R:=R) (V:=T) hD hP (by omega) hT.symm).2;refine⟨T,?_,by omega,hT.symm⟩;have e:B^j*((g+1)*D)=B^j*(g*D)+B^j*D:=by grind
 omega
theorem FL{p q x y P:Nat}(hP:0<P)(hy:0<y)(h:p+y*P*q=x*P)(hp:p<y*P):q=x/y∧p/P=x % y:=by
 have e:x*P=y*P*q+p:=by omega
 have h1:x*P/(y*P)=q:=by
  rw[e,Nat.mul_add_div (iz hy hP),jH hp,fm]
 have h2:x*P % (y*P)=p:=by
  rw[e,Nat.mul_add_mod,Nat.mod_eq_of_lt hp]
 rw[Nat.mul_div_mul_right _ _ hP]at h1;rw[Nat.mul_mod_mul_right]at h2;exact⟨h1.symm,by rw[←h2,Nat.mul_div_cancel _ hP]⟩
def dl(x:Nat):List Nat:=if h:x=0 then []else x % 10::dl (x/10)
termination_by x
decreasing_by exact Nat.div_lt_self (by omega) (by omega)
def DB(l:List Nat):Prop:=∀d∈l,48≤d∧d≤57
theorem DB.nil:DB []:=by intro d h;simp at h
theorem DB.take{a:List Nat}(h:DB a)(k:Nat):DB (a.take k):=fun d hd=>h d (dI hd)
theorem DB.drop{a:List Nat}(h:DB a)(k:Nat):DB (a.drop k):=fun d hd=>h d (mE hd)
theorem Cf{a b:Int}(ha:0≤a)(hb:b≠0):
  (a/b=if b<0 then-((a.natAbs/b.natAbs:Nat):Int)else((a.natAbs/b.natAbs:Nat):Int))∧a % b=((a.natAbs % b.natAbs:Nat):Int):=by
 obtain⟨n,rfl⟩:=Int.eq_ofNat_of_zero_le ha;by_cases h:b<0
 ·obtain⟨m,rfl⟩:∃m:Nat,b= -(m:Int):=⟨b.natAbs,by omega⟩;simp only[Int.ediv_neg,Int.emod_neg,Int.natAbs_neg,Int.natAbs_natCast,if_pos h];exact⟨by rw[kP],by rw[ry]⟩
 ·obtain⟨m,rfl⟩:=Int.eq_ofNat_of_zero_le (Int.not_lt.1 h);simp only[Int.natAbs_natCast,if_neg h];exact⟨by rw[kP],by rw[ry]⟩
theorem AI{a b:Int}(ha:a<0)(hb:b≠0)(hr:a.natAbs % b.natAbs=0):
  (a/b=if b<0 then((a.natAbs/b.natAbs:Nat):Int)else-((a.natAbs/b.natAbs:Nat):Int))∧a % b=0:=by
 have hd:b∣a:=Int.natAbs_dvd_natAbs.1 (Nat.dvd_of_mod_eq_zero hr);have h0:a % b=0:=Int.emod_eq_zero_of_dvd hd;refine⟨?_,h0⟩;have h1:=fU a.natAbs b.natAbs;have h2:=Int.mul_ediv_add_emod a b;have h3:((a.natAbs:Nat):Int)= -a:=by omega
 have h4:((b.natAbs*(a.natAbs/b.natAbs):Nat):Int)= -a:=by rw[←h3];congr 1;omega
 rw[dp]at h4;split
 ·rename_i h;have h5:((b.natAbs:Nat):Int)= -b:=by omega
  rw[h5]at h4;have:b*(a/b)=b*((a.natAbs/b.natAbs:Nat):Int):=by rw[Int.neg_mul]at h4;omega
  exact Int.eq_of_mul_eq_mul_left hb this
 ·rename_i h;have h5:((b.natAbs:Nat):Int)=b:=by omega
  rw[h5]at h4;have:b*(a/b)=b* -((a.natAbs/b.natAbs:Nat):Int):=by rw[Int.mul_neg];omega
  exact Int.eq_of_mul_eq_mul_left hb this
theorem Cd{a b:Int}(ha:a<0)(hb:b≠0)(hr:a.natAbs % b.natAbs≠0):
  (a/b=if b<0 then((a.natAbs/b.natAbs:Nat):Int)+1 else-((a.natAbs/b.natAbs:Nat):Int)-1)∧a % b=((b.natAbs:Nat):Int)-((a.natAbs % b.natAbs:Nat):Int):=by
 have h1:=fU a.natAbs b.natAbs;have hb0:0<b.natAbs:=by omega
 have hlt:=fF a.natAbs hb0;have h3:((a.natAbs:Nat):Int)= -a:=by omega
 have h4:((b.natAbs*(a.natAbs/b.natAbs):Nat):Int)= -a-((a.natAbs % b.natAbs:Nat):Int):=by rw[←h3];omega
 rw[dp]at h4;generalize((a.natAbs/b.natAbs:Nat):Int)=q at*;have sN:((a.natAbs % b.natAbs:Nat):Int)<((b.natAbs:Nat):Int):=by omega
 have hr':0<((a.natAbs % b.natAbs:Nat):Int):=by omega
 generalize((a.natAbs % b.natAbs:Nat):Int)=r at*;split
 ·rename_i h;have h5:((b.natAbs:Nat):Int)= -b:=by omega
  rw[h5]at h4 sN⊢;have e:a=b*(q+1)+(-b-r):=by rw[Int.mul_add,Int.mul_one];rw[Int.neg_mul]at h4;omega
  have:=(Int.ediv_emod_unique' (a:=a) (b:=b) (r:= -b-r) (q:=q+1) h).2 ⟨by omega,by omega,by omega⟩;exact⟨this.1,this.2⟩
 ·rename_i h;have h5:((b.natAbs:Nat):Int)=b:=by omega
  rw[h5]at h4 sN⊢;have e:a=b*(-q-1)+(b-r):=by rw[Int.mul_sub,Int.mul_one,Int.mul_neg];omega
  have:=(Int.ediv_emod_unique (a:=a) (b:=b) (r:=b-r) (q:= -q-1) (by omega)).2 ⟨by omega,by omega,by omega⟩;exact⟨this.1,this.2⟩
end Go.Proofs.YtgaaopjagcaojaaGreat
