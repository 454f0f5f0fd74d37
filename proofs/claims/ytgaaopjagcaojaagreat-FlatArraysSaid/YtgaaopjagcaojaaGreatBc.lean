import Derived.Test.YtgaaopjagcaojaaGreatMq
import Derived.Test.YtgaaopjagcaojaaGreatLs
import Derived.Test.YtgaaopjagcaojaaGreatLe
import Derived.Lib.SmallJoins
set_option linter.unusedSimpArgs false
set_option linter.unusedVariables false
set_option maxHeartbeats 4000000
namespace Go.Proofs.YtgaaopjagcaojaaGreat
open Go.RowKit Go.IntWalk
theorem C_(c:Ce):∀(l:List Ce) (i:Nat) (nm:List (ByteArray×Int)),ye (l++[c]) i nm=if(gG (D4 c) (ye l i nm)).isSome then ye l i nm else kV (D4 c) ((i+l.length:Nat):Int) (ye l i nm)
 | [],i,nm=>rfl
 |a::l,i,nm=>by
  simp only[dO,ye,aF];rw[C_ c l (i+1),show i+1+l.length=i+(l.length+1)by omega]<;>rfl
theorem Ll{t:List Ce}{n e:Int}(h:yQ t n=.error e):e≠0:=by
 unfold yQ at h;split at h
 ·injection h with h;omega
 ·split at h
  ·injection h with h;omega
  ·split at h
   ·injection h with h;omega
   ·split at h
    ·injection h with h;omega
    ·have:=uu (A:=fun e=>e=25∨e=26) (fun c _ e' he=>by
      unfold Gi at he;split at he
      ·simp at he
      ·exact oy _ _ _ _ he) h
     omega
theorem aaS{s:Sl}{r:Re}{I:fZ}{w:World}(h:(xS s r).p I w):MJ r:=h.2.2.2.2.1
theorem II{α β:Type}{R:kU α}{num:α→β}{s:Sl}{l:List β}{I:fZ}{w:World}(h:(LF R num s l).p I w){Q:β→Prop}(hq:∀e:α,(R.fact 0 e).p I w→Q (num e)):∀x∈l,Q x:=fun x hx=>by
 obtain⟨es,rfl,_,_,h4,_⟩:=h;obtain⟨e,he,rfl⟩:=List.mem_map.1 hx;exact hq e (h4 e he)
theorem Zn{h i:Sl}{x:Ce}{I:fZ}{w:World}(hf:(xM h i x).p I w):Ya x:=
 II hf.2 (Q:=fun y=>∀r∈y.f,MJ r) fun e he=>II (show(nU e.f e.x.f).p I w from he.1) (Q:=MJ) fun e' he'=>aaS he'
theorem aae{h c:Sl}{t:Li}{I:fZ}{w:World}(hf:(HK h c t).p I w):∀x∈t.c,Ya x:=
 II hf.2 (Q:=Ya) fun e he=>Zn he
theorem Lm(f:List Re){l:List Ce}{c:Ce}(h:c∈l):c.i.length≤(l.flatMap gh).length:=by
 obtain⟨a,b,rfl⟩:=vC h;have h1:=tH qY c.i;simp only[bA,bh,az];have:(gh c).length=c.h.length+((c.i.flatMap eP).length+1):=by simp[gh]
 omega
theorem V7{t:Li}(hv:oh t=true)(hl:(jo t).length≤100000)(hb:∀x∈t.c,Ya x):Tp t.c:=by
 have h1:=(uz.1 hv).2;have h2:(t.c.flatMap gh).length≤100000:=by
  have:(jo t).length=t.h.length+((t.c.flatMap gh).length+1):=by simp[jo]
  omega
 exact⟨fun c hc=>(h1 c hc).2,fun c hc=>aP (Lm [] hc) h2,aP (tH qX t.c) h2,hb⟩
def Mz(r:LR)(v:Value)(Δ:List aE):Prop:=
 (∃e,r=.error e∧v=.tuple #[.slice none 0 0,.int .i64 e]∧Δ=[])∨∃(l:List Sh) (s:Sl),r=.ok l∧v=.tuple #[bz s,.int .i64 0]∧Δ=[LF oR qO.x s l]
section
variable{Γ:List aE}
theorem LZ(ha:Option Addr)(hn hc':Nat)(ca:Option Addr)(cl cc:Nat)(n:Int){t:Li} [hF:aY (HK ⟨ha,hn,hc'⟩ ⟨ca,cl,cc⟩) t Γ](hl:(jo t).length≤100000)(hW:oh t=true→zx t.c≤160):au KH Tryz.prog 12 [mo ⟨ha,hn,hc'⟩ ⟨ca,cl,cc⟩,.int .i64 n] Γ (Mz (yP t n)):=by
 obtain⟨R,hR⟩:∃R,yP t n=R:=⟨_,rfl⟩;have hR2:=hR;unfold yP at hR2;rw[hR];refine au.of_W bK Tryz.func12 rfl ?_ (fun _ h=>h.1);refine qz (∀x∈t.c,Ya x) rfl (fun I w _ hh=>aae (hF.p hh)) (fun hb=>?_);by_cases h1:n<0
 ·rw[if_pos (.inl h1)]at hR2;refine bD [] 15 (decide (n<0)) (aw h1) ?_;exact W.r [12,15] (.tuple #[.slice none 0 0,.int .i64 1]) (.inl ⟨1,hR2.symm,rfl,rfl⟩) bU
 refine aS [] 15 (decide (n<0)) (ak h1) ?_;by_cases h2:n>100000
 ·rw[if_pos (.inr h2)]at hR2;refine bD [15] 12 (decide (n>100000)) (aw h2) ?_;exact W.r [12] (.tuple #[.slice none 0 0,.int .i64 1]) (.inl ⟨1,hR2.symm,rfl,rfl⟩) bU
 rw[if_neg (by omega)]at hR2;refine aS [15] 12 (decide (n>100000)) (ak h2) ?_;refine aj [12] (SL ⟨ha,hn,hc'⟩ ⟨ca,cl,cc⟩ (t:=t) hl).mF ?_;rintro _ _ ⟨rfl,rfl⟩;cases hv:oh t with
 |false=>
  rw[if_pos hv]at hR2;refine bD [] 19 (!false) rfl ?_;exact W.r [19] (.tuple #[.slice none 0 0,.int .i64 20]) (.inl ⟨20,hR2.symm,rfl,rfl⟩) bU
 |true=>
 rw[if_neg (by rw[hv];simp)]at hR2;have hfit:=V7 hv hl hb;refine aS [] 19 (!true) rfl ?_;refine W.more (Δ:=[pF ⟨ca,cl,cc⟩ t.c]) (by kernel_rfl) (fun I w _ hh=>aU (hF.p hh).2) ?_;refine Jl [19] [] [] (fun bn=>?_);refine Jl [] [] [(bn,[])] (fun cn=>?_);refine Jl [] [] [(cn,[]),(bn,[])] (fun dn=>?_);refine Fg [] [34] (fun a:Yb=>[(34,.int .i64 a.z)]) (fun _=>[]) (fun _=>[]) (fun a=>[(dn,[]),(cn,[]),(bn,bM dT (b_ (ye (t.c.take a.j) 0 [])))]) (fun _=>[pF ⟨ca,cl,cc⟩ t.c]) (fun a=>a.z=a.j∧a.j≤cl) (fun a=>cl-a.j) ⟨0,0,false,[]⟩ ⟨rfl,aM _⟩ (eC eK eE) ?_;rintro⟨j,z,g,nm⟩ K ⟨hz,hj⟩ close;simp only at hz hj;refine W.len pH qi.x ⟨ca,cl,cc⟩ rfl (fun c1 c2 c3=>?_);simp only at c1 c2 c3;by_cases hlt:j<cl
 ·obtain⟨x,hx⟩:∃x,t.c[j]? =some x:=⟨_,ar (by omega)⟩;have hst:=C_ x (t.c.take j) 0 [];rw[←fy hx,dF,cz,fu (by omega)]at hst;obtain⟨N,hN⟩:∃N,ye (t.c.take j) 0 []=N:=⟨_,rfl⟩;rw[hN]at hst;refine wv ⟨ca,cl,cc⟩ hx (fun b off fh fi ha=>?_);simp only at ha;subst ha;refine bD [] 35 (decide (z<(cl:Int))) (aw (by omega)) ?_;refine cA [35] 2 b off cl cc .i64 j z hz bK hlt ?_;refine dd [] b (off+j*2) [bz fh,bz fi] bK (dL b (off+j*2)) ?_;refine aj [] (Ex fh fi (x:=x)).mF ?_;rintro _ _ ⟨rfl,rfl⟩;refine vk [] dT 69 9 3 true [] [(dn,[]),(cn,[]),(bn,bM dT (b_ N))] bn (D4 x) (b_ N) (.int .i64 0) bK (h:=(by rw[←hN];kernel_rfl)) (.tail _ (.tail _ (.head _))) ?_;rw[mE];cases hg:gG (D4 x) N with
  |some v=>
   rw[hg]at hst;refine aS [] 50 (!true) rfl ?_;exact close [50] _ _ ⟨j+1,IntKind.i64.wrap (z+1),false,[]⟩ (by kernel_rfl) (by simp only;rw[hst];kernel_rfl) ⟨by simp only[ah];omega,hlt⟩ (by simp only;omega) (eC eK eE)
  |none=>
   rw[hg]at hst;refine bD [] 50 (!false) rfl ?_;refine aj [50] (Ex fh fi (x:=x)).mF ?_;rintro _ _ ⟨rfl,rfl⟩;refine Ct [] dT 69 9 3 [] [(dn,[]),(cn,[])] [] bn (D4 x) (.int .i64 z) (b_ N) ?_;rw[qU];exact close [] _ _ ⟨j+1,IntKind.i64.wrap (z+1),false,[]⟩ (by kernel_rfl) (by simp only;rw[hst,←hz];kernel_rfl) ⟨by simp only[ah];omega,hlt⟩ (by simp only;omega) (eC eK eE)
 ·obtain rfl:j=cl:=by omega
  refine aS [] 35 (decide (z<(j:Int))) (ak (by omega)) ?_;refine vl 30 (fun fb=>?_);have hnm:ye (t.c.take j) 0 []=cw t.c:=by rw[aV (by omega)];rfl
  have pc:=DJ (Ss fb bn cn dn ca j cc n hfit (by omega) (hW hv) [pF ⟨ca,j,cc⟩ t.c]) (M':=[(dn,[]),(cn,[]),(bn,bM dT (b_ (cw t.c)))]) (List.perm_append_comm (l₁:=[(bn,bM dT (b_ (cw t.c)))]) (l₂:=[(dn,[]),(cn,[])]));refine cZ [35] [] (FO fb ⟨ca,j,cc⟩ bn cn dn n (.slice none 0 0)) [] [] [(dn,[]),(cn,[]),(bn,bM dT (b_ (cw t.c)))] [] ⟨rfl,by rfl,trivial⟩ (em:=(by rw[←hnm];kernel_rfl)) pc ?_;rintro _ _ M _ ⟨s,O2,es2,hes,rfl,rfl,hg,rfl⟩;rw[af (FO fb ⟨ca,j,cc⟩ bn cn dn n (bz s)++O2)];cases hRr:yQ t.c n with
  |error e=>
   rw[hRr]at hR2;refine bD [] 62 (e != 0) (by simpa using Ll hRr) ?_;exact W.r [62] (.tuple #[.slice none 0 0,.int .i64 e]) (.inl ⟨e,hR2.symm,rfl,rfl⟩) bU
  |ok l=>
   rw[hRr]at hR2 hes;refine aS [] 62 ((0:Int) != 0) (by decide) ?_;refine cr [62] 5 fb 0 bK ?_;refine dQ [] (FO fb ⟨ca,j,cc⟩ bn cn dn n (bz s)++O2) fb (0+5) 1 [.slice ca j cc,.map (some bn),.map (some cn),.map (some dn),.int .i64 n,bz s] (bz s) bK (.head _) rfl ?_;refine lQ (FO fb ⟨ca,j,cc⟩ bn cn dn n (bz s)) O2 [] (by rw[af O2];kernel_rfl) hg (fun g5 g1 g2=>?_);exact W.r [] (.tuple #[bz s,.int .i64 0]) (.inr ⟨l,s,hR2.symm,rfl,rfl⟩) (fun I w hd hh=>aU (by
    rw[←hes l rfl];obtain⟨sa,sn,sc⟩:=s;exact JW oR qO.x (v:=bz ⟨sa,sn,sc⟩) g5 g1 g2 (aY.p (k:=rB oR (bz ⟨sa,sn,sc⟩)) inferInstance hh) (aY.p (k:=RA sa) inferInstance hh)))
end
section
variable{Γ:List aE}
theorem nA(h c:Sl)(n:Int){t:Li} [hF:aY (HK h c) t Γ](hl:(jo t).length≤100000)(hW:oh t=true→zx t.c≤160):au tb Tryz.prog 12 [mo h c,.int .i64 n] Γ (Mz (yP t n)):=by
 obtain⟨ha,hn,hc'⟩:=h;obtain⟨ca,cl,cc⟩:=c;exact LZ ha hn hc' ca cl cc n (t:=t) hl hW
end
theorem xE{α:Type}{f:α→LR}{w:α→Int}:∀{l:List α} {s:List Sh},(∀a∈l,∀s,f a=.ok s→(s.length:Int)=w a)→iC f l=.ok s→(s.length:Int)=(l.map w).sum
 | [],s,_,h=>by
  simp only[iC,oD]at h;subst h;simp
 |a::l,s,hw,h=>by
  unfold iC at h;cases hf:f a with
  |error e=>rw[hf]at h;simp at h
  |ok s1=>
   rw[hf]at h;cases hs:iC f l with
   |error e=>rw[hs]at h;simp at h
   |ok s2=>
    rw[hs]at h;simp only[oD]at h;subst h;have h1:=hw a (by simp) s1 hf;have h2:=xE (fun b hb=>hw b (by simp[hb])) hs;simp only[az,cj,fS];omega
theorem zy.item_eq{t:List Ce}(hD:zy t){n:Nat}{g:Nat→On→LR}(hg:∀c V s,g c V=.ok s→(s.length:Int)=jY t n c){x:Im}(hr:gQ x=true){V:On}{s:List Sh}(h:jH t n g V x=.ok s):(s.length:Int)=jF t (jY t n) x:=by
 unfold jH at h;unfold jF;by_cases h8:cC x=8∨cC x=45
 ·rw[if_pos h8]at h⊢;rw[uW h];rfl
 ·rw[if_neg h8]at h⊢;by_cases h9:cC x=9
  ·rw[if_pos h9]at h⊢;split at h
   ·split at h
    ·rename_i hp;injection h with h;subst h;simp[hp]
    ·rename_i hp;rw[if_neg hp,uW h];rfl
   ·split at h<;>simp at h
  ·rw[if_neg h9]at h⊢;by_cases hk:cC x=10∨cC x=11
   ·rw[if_pos hk]at h⊢;obtain⟨_,h1,h2,_⟩:=oK hr hk;unfold nR at h;cases hkn:qJ t x with
    |none=>
     rw[hkn]at h;injection h with h;subst h;simp
    |some c=>
     rw[hkn]at h;simp only at h⊢;split at h
     ·rename_i h0;injection h with h;subst h;rw[h0];simp
     ·have key:=xE (w:=fun _:Nat=>((aZ x).1.toNat:Int)*jY t n c) (fun a _ s' hs'=>by
       have:=xE (w:=fun _:Nat=>jY t n c) (fun b _ s'' hs''=>hg _ _ _ hs'') hs';rw[oP,dX]at this;exact this) h
      rw[oP,dX]at key;rw[nG (qp h1),nG (qp h2)]at key;have e:(aZ x).2*((aZ x).1*jY t n c)=jY t n c*(aZ x).1*(aZ x).2:=by
       rw[ik (aZ x).1,ik (aZ x).2]
      omega
   ·rw[if_neg hk]at h⊢;injection h with h;subst h;simp
theorem zy.lay_eq{t:List Ce}(hD:zy t):∀(n c:Nat) (V:On) (s:List Sh),gB t n c V=.ok s→(s.length:Int)=jY t n c
 |0,c,V,s,h=>by
  simp only[gB,oD]at h;subst h;simp[jY]
 |n+1,c,V,s,h=>by
  unfold gB at h;unfold jY;refine xE (fun x hx s' hs'=>?_) h;obtain⟨c',hc',hx'⟩:=x_ hx;exact hD.item_eq (hD.lay_eq n) (hD.right c' hc' x hx') hs'
theorem VT{t:List Ce}(h1:lost t=false)(h3:¬CP t=true)(h4:¬Nu t):zy t:=by
 refine⟨h1,fun c hc x hx=>?_,fun i hi=>?_⟩
 ·unfold CP at h3;rw[eu,not_or]at h3;have h:=h3.2;simp only[ME,cF,not_exists,not_and,Bool.not_eq_false]at h;exact h c hc x hx
 ·cases hd:dep t 64 i with
  |none=>exact absurd ⟨i,hi,hd⟩ h4
  |some d=>exact⟨d,rfl⟩
theorem LG{t:List Ce}(hD:zy t){l:List Sh}(h:OK t=.ok l):(l.length:Int)=total t:=by
 unfold OK at h;unfold total;refine xE (fun c _ s hs=>?_) h;unfold Gi at hs;unfold ou;split at hs
 ·rename_i hn;rw[if_pos hn];injection hs with hs;subst hs;rfl
 ·rename_i hn;rw[if_neg hn];exact hD.lay_eq 64 c Es s hs
def mu(s:ByteArray):List Int:=if s.size % 2=0 then jb s else jb s++[0]
theorem zk(s:ByteArray):ke (mu s):=by
 unfold mu;split
 ·exact tt s
 ·intro z hz;simp only[ez,aD,aC,bp]at hz;rcases hz with hz|rfl
  ·exact tt s z hz
  ·decide
theorem Cm{P:Program}(w:World)(t ty e:TypeId)(i:TypeInfo)(ht:P.underlying t=some (.slice e))(hi:P.info? e=some i)(hs:i.size=1)
  (g n cap:Nat)(cur:Array Value)(p q:Nat)(hg:w.heap[g]? =some (.cells cur e (p,q)))(x:Value)(hx:x.oneCell'=true)(a:Addr)(c:Nat)(ha:w.cell? a=some x)
  (hroom:n+1≤cap)(hn:n<cur.size)(hp:n<p):
  (Builtin.append_ #[t,t] ty #[.slice (some ⟨g,0,none⟩) n cap,.slice (some a) 1 c]).run P w=.ok (.slice (some ⟨g,0,none⟩) (n+1) cap) (w.setCell ⟨g,n,none⟩ x):=by
 have hf:=run_firstCells_some (P:=P) w 1 1 a 1 c [x] rfl (fun j v hv=>by
  cases j with
  |zero=>
   simp at hv;subst hv;simpa [Addr.add]using ha
  |succ j=>simp at hv)
 have c1:w.cell? ⟨g,n,none⟩=some (cur[n]'hn):=by simp[World.cell?,hg,hn]
 have z1:w.frozen? ⟨g,n,none⟩=false:=by
  simp[World.frozen?,hg];omega
 have hst:=run_store P w ⟨g,n,none⟩ x;simp[Builtin.append_,cP ht,sizeOf,typeInfo,hi,hs,Builtin.lenOf,hroom,hf,Addr.add_lit,storeCells,run_store,hx,c1,z1]
theorem Qi(w:World)(ty:TypeId)(B n cap:Nat)(cur:Array Value)(p q:Nat)(hg:w.heap[B]? =some (.cells cur 5 (p,q)))(x:Value)(hx:x.oneCell'=true)(a:Addr)(c:Nat)(ha:w.cell? a=some x)
  (hcap:n≤cap)(hcm:cap≤maxLen)(hn:cap≤cur.size)(hp:cap≤p)(hs:n+1≤1000000000):
  ∃(u:Sl) (w':World),(Builtin.append_ #[28,28] ty #[.slice (some ⟨B,0,none⟩) n cap,.slice (some a) 1 c]).run Tryz.prog w=.ok (bz u) w'∧Below B w w'∧u.n=n+1∧u.n≤u.c∧u.c≤maxLen∧
   ∃g,u.ao=some ⟨g,0,none⟩∧B≤g∧∀i v,(cur.toList.take n++[x])[i]? =some v→w'.cell? ⟨g,i,none⟩=some v:=by
 obtain⟨i0,hi0,hz0,hz1,hz2⟩:=info_parts EP.inf;have hBl:=rN hg;have htl:(cur.toList.take n).length=n:=by rw[dF,uB];omega
 by_cases hroom:n+1≤cap
 ·have hr:=Cm (P:=Tryz.prog) w 28 ty 5 i0 EP.ut hi0 hz1 B n cap cur p q hg x hx a c ha hroom (by omega) (by omega);refine⟨⟨some ⟨B,0,none⟩,n+1,cap⟩,_,hr,⟨rfl,rfl,rfl,by rw[pM];omega,fun k hk=>eQ (by omega)⟩,rfl,hroom,hcm,B,rfl,ai _,fun i v hv=>?_⟩;have h2:(w.setCell ⟨B,n,none⟩ x).heap[B]? =some (.cells (cur.setIfInBounds n x) 5 (p,q)):=by simp[World.setCell,jV,hg]
  have hi:i<n+1:=by
   have:=(List.getElem?_eq_some_iff.1 hv).1;simp only[az,htl,aF,bE]at this;omega
  simp only[World.cell?,h2,lr,iK,ea];rw[Array.getElem?_setIfInBounds];by_cases hin:i=n
  ·subst hin;rw[e8 (by omega),htl,qy]at hv;rw[if_pos rfl,if_pos (by omega)];exact hv
  ·rw[dD (by omega),de,if_pos (by omega),eS]at hv;rw[if_neg (by omega)];exact hv
 ·obtain rfl:n=cap:=by omega
  have holds:∀j v,(cur.toList.take n)[j]? =some v→w.cell? ((⟨B,0,none⟩:Addr).add j)=some v:=fun j v hv=>by
   have hj:j<n:=by
    have:=(List.getElem?_eq_some_iff.1 hv).1;omega
   rw[de,if_pos hj,eS]at hv;rw[show(⟨B,0,none⟩:Addr).add j=⟨B,j,none⟩from by unfold Addr.add;split<;>simp_all];simp only[World.cell?,hg,lr,iK,ea];exact hv
  have hr:=run_append_grow (P:=Tryz.prog) w 28 ty 5 i0 (.int .u8 0) EP.ut hi0 hz0 ⟨B,0,none⟩ n n (cur.toList.take n) (by rw[htl,hz1,fL]) holds a 1 c [x] (by rw[hz1];rfl) (fun j v hv=>by
   cases j with
   |zero=>
    simp at hv;subst hv;simpa [Addr.add]using ha
   |succ j=>simp at hv) (by omega) (by omega) (growslice_fits (by omega) (by rw[hz2];omega))
  have hge:=grownCap_ge w (n+1) n 5;have hle:=grownCap_le_maxLen w (n+1) n 5 (by unfold maxLen;omega);refine⟨⟨some ⟨w.heap.size,0,none⟩,n+1,grownCap w (n+1) n 5⟩,_,hr,⟨rfl,rfl,rfl,by simp,fun k hk=>by
   rw[jx (show k<w.drew.heap.size from Nat.lt_trans hk hBl)];rfl⟩,rfl,hge,hle,w.heap.size,rfl,by omega,fun i v hv=>?_⟩
  have h2:=mN w.drew (.cells ((cur.toList.take n).toArray++[x].toArray++Builtin.zeroCells (Value.int IntKind.u8 0).cells (grownCap w (n+1) n 5-(n+1))) 5);have e:w.drew.heap.size=w.heap.size:=rfl;rw[e]at h2;simp only[World.cell?,h2,lr,iK,ea];rw[←eS,Array.toList_append,Array.toList_append,dD (by
   have:=(List.getElem?_eq_some_iff.1 hv).1;simpa using this)]
  exact hv
theorem Hy{w:World}{ops:Array Oper}{rest:List Oper}{o:Oper}{a:Act}{Q:Exit→Act→World→Prop}(hgd:o.guard=none)(s y:Operand)
  (ho:o.op=.call {callee:=.builtin .append,args:= #[s,y],argTypes:= #[28,28]})(B n cap:Nat)(cur:Array Value)(p q:Nat)(x:Value)(ad:Addr)(c:Nat)(hs:a.eval s=.slice (some ⟨B,0,none⟩) n cap)(hy:a.eval y=.slice (some ad) 1 c)
  (hg:w.heap[B]? =some (.cells cur 5 (p,q)))(hx:x.oneCell'=true)(ha:w.cell? ad=some x)
  (hcap:n≤cap)(hcm:cap≤maxLen)(hn:cap≤cur.size)(hp:cap≤p)(hl:n+1≤1000000000)
  (h:∀(u:Sl) (w':World),Below B w w'→u.n=n+1→u.n≤u.c→u.c≤maxLen→(∃g,u.ao=some ⟨g,0,none⟩∧B≤g∧∀i v,(cur.toList.take n++[x])[i]? =some v→w'.cell? ⟨g,i,none⟩=some v)→wpList Tryz.prog ops Q rest (a.put o.dst (.slice u.ao u.n u.c)) w'):
  wpList Tryz.prog ops Q (o::rest) a w:=
 wpList_plain hgd fun _ hK=>by
  obtain⟨u,w',hr,h1,h2,h3,h4,h5⟩:=Qi w o.type B n cap cur p q hg x hx ad c ha hcap hcm hn hp hl;unfold Oper.wp execOp;simp only[ho,resolve,invoke,builtin,cB,dS,bC,List.map_toArray,cj,di,hs,hy,hr];exact hK _ _ (h u w' h1 h2 h3 h4 h5)
section
variable{Γ:List aE}
set_option maxRecDepth 100000 in
theorem xi(s:ByteArray)(hz:s.size≤1000000):au tb Tryz.prog 22 [.string s] Γ (fun v Δ=>∃u:Sl,v=bz u∧Δ=[BF u (mu s)]):=by
 refine⟨⟨_,Tryz.func22,by kernel_rfl,by kernel_rfl⟩,fun I w hd hh=>?_⟩;have hcv:=Lib.run_convert_string_bytes (P:=Tryz.prog) w 9 28 5 s (u:=.string) Tryz.underlying9 Tryz.underlying28 Tryz.underlying5;have hb1:Below w.heap.size w (Lib.bytesWorld w 5 s):=⟨rfl,rfl,rfl,by rw[Lib.bytesWorld_size];omega,fun k hk=>Lib.bytesWorld_at_old w _ s k hk⟩;have hg:=Lib.bytesWorld_at_new w 5 s;have hge:=grownCap_ge w s.size 0 5;have hle:=grownCap_le_maxLen w s.size 0 5 (by unfold maxLen;omega);have hcs:(Lib.bytesCells w 5 s).size=grownCap w s.size 0 5:=by
  unfold Lib.bytesCells;simp only[Array.size_append,Array.size_map,Array.size_replicate];have:s.data.size=s.size:=rfl;omega
 have htk:(Lib.bytesCells w 5 s).toList.take s.size=(jb s).map (Value.int .u8):=by
  unfold Lib.bytesCells jb;rw[Array.toList_append,List.take_left' (by rw[uB,Array.size_map];rfl),Array.toList_map,List.map_map];rfl
 rw[hcs]at hg;generalize Lib.bytesWorld w 5 s=W1 at*;generalize Lib.bytesCells w 5 s=cur at*;generalize grownCap w s.size 0 5=cap at*;have hsz1:w.heap.size<W1.heap.size:=rN hg
 go_enter Tryz.func22,Tryz.ntmps22
 go_wp2_with (refine Hy rfl (.tmp 10) (.tmp 11) rfl w.heap.size s.size cap cur cap (cap+1) (.int .u8 0) ⟨W1.heap.size,0,none⟩ 1 rfl rfl (kC hg) rfl (by simp only[World.cell?,mN];rfl) hge hle (by omega) (ai _) (by omega) ?_;intro u w2 hb2 hu1 hu2 hu3 hu4)
 ·rename_i hodd
  go_ret
  obtain⟨ao,un,uc⟩:=u;obtain rfl:un=s.size+1:=hu1;obtain⟨g,hao,hgB,hcell⟩:=hu4;have hao:ao=some ⟨g,0,none⟩:=hao;subst hao;have hpar:¬s.size % 2=0:=by
   intro h0;rw[bne_iff_ne]at hodd;omega
  have ht:mu s=jb s++[0]:=by unfold mu;rw[if_neg hpar]
  refine⟨_,[BF ⟨some ⟨g,0,none⟩,s.size+1,uc⟩ (mu s)],rfl,⟨⟨some ⟨g,0,none⟩,s.size+1,uc⟩,rfl,rfl⟩,hb1.trans (((Below.refl w.heap.size W1).alloc (by omega) _).trans hb2),aU ⟨?_,⟨hu2,hu3⟩,zk s,fun hne=>⟨g,0,rfl,fun hlt=>absurd hlt (by omega),fun i v hv=>?_⟩⟩⟩
  ·rw[ht,az,uE];rfl
  ·rw[cz];refine hcell i v ?_;rw[htk,←hv,ht,aW];rfl
 ·rename_i heven
  go_ret
  have hpar:s.size % 2=0:=by
   have h1:((s.size:Int) % 2 != 0)=false:=by simpa using heven
   rw[bne_eq_false_iff_eq]at h1;omega
  have ht:mu s=jb s:=by unfold mu;rw[if_pos hpar]
  refine⟨_,[BF ⟨some ⟨w.heap.size,0,none⟩,s.size,cap⟩ (mu s)],rfl,⟨⟨some ⟨w.heap.size,0,none⟩,s.size,cap⟩,rfl,rfl⟩,hb1,aU ⟨by rw[ht,uE],⟨hge,hle⟩,zk s,fun hne=>⟨w.heap.size,0,rfl,fun hlt=>absurd hlt (by omega),fun i v hv=>?_⟩⟩⟩;rw[ht,←htk,de]at hv;split at hv
  ·rw[cz];simp only[World.cell?,hg,lr,iK,ea];rw[←eS];exact hv
  ·simp at hv
end
def sB(z:Int):List Int:=[z/256 % 256,z % 256]
def lB(z:Int):List Int:=[z/16777216 % 256,z/65536 % 256,z/256 % 256,z % 256]
theorem Qj(l:List Int):ke (l.flatMap sB):=by
 intro z hz;obtain⟨x,_,hx⟩:=List.mem_flatMap.1 hz;simp only[sB,aD,aC,bp]at hx;rcases hx with rfl|rfl<;>omega
theorem OH(l:List Int):ke (l.flatMap lB):=by
 intro z hz;obtain⟨x,_,hx⟩:=List.mem_flatMap.1 hz;simp only[lB,aD,aC,bp]at hx;rcases hx with rfl|rfl|rfl|rfl<;>omega
theorem XD(l:List Int):(l.flatMap sB).length=2*l.length:=by
 induction l with
 |nil=>rfl
 |cons z l ih=>
  rw[bh,az,ih];simp only[sB,aF,bE];omega
theorem OI(l:List Int):(l.flatMap lB).length=4*l.length:=by
 induction l with
 |nil=>rfl
 |cons z l ih=>
  rw[bh,az,ih];simp only[lB,aF,bE];omega
theorem Mi{l:List Int}(h:∀z∈l,-32768≤z∧z<32768):dM (l.flatMap sB)=l:=by
 induction l with
 |nil=>rfl
 |cons z l ih=>
  have h1:=h z (by simp);show SU _ _::dM (l.flatMap sB)=z::l;rw[ih (fun y hy=>h y (by simp[hy]))];congr 1;unfold SU;split<;>omega
theorem Bd{l:List Int}(h:∀z∈l,-2147483648≤z∧z<2147483648):e_ (l.flatMap lB)=l:=by
 induction l with
 |nil=>rfl
 |cons z l ih=>
  have h1:=h z (by simp);show SW _ _ _ _::e_ (l.flatMap lB)=z::l;rw[ih (fun y hy=>h y (by simp[hy]))];congr 1;unfold SW;split<;>omega
theorem KK{l:List Int}:∀u∈l.map (Value.int .u8),u.oneCell'=true:=fun u hu=>by
 obtain⟨z,_,rfl⟩:=List.mem_map.1 hu;rfl
theorem yE{α β:Type}{l:List α}{i:Nat}{x:α}(f:α→List β)(h:l[i]? =some x):(l.take (i+1)).flatMap f=(l.take i).flatMap f++f x:=by
 rw[lG h,bA];simp
section
variable{Γ:List aE}
theorem ph(s:Sl){l:List Int} [h:aY (NL s) l Γ](hl:l.length≤100000):au tb Tryz.prog 23 [bz s] Γ (fun v Δ=>∃u:Sl,v=bz u∧Δ=[BF u (l.flatMap sB)]):=by
 refine au.of_W aB Tryz.func23 rfl ?_;refine MU s rfl (fun h1 h2 h4=>?_);refine jZ [] [3,8] (fun a:Tq=>[(3,a.v),(8,.int .i64 a.z)]) (fun _=>[]) (fun a=>a.O) (fun _=>[NL s l]) (fun a=>a.z=(a.i:Int)∧a.i≤l.length∧cG 1 a.O a.v (2*a.i) (((l.take a.i).flatMap sB).map (Value.int .u8))) (fun a=>l.length-a.i) ⟨0,0,.slice none 0 0,[]⟩ ⟨rfl,aM _,cG.nil 1⟩ (eC eK eE) ?_;rintro⟨i,z,v,O⟩ K ⟨hz,hi,hg⟩ close;simp only at hz hi hg;by_cases hlt:i<l.length
 ·obtain⟨x,hx⟩:∃x,l[i]? =some x:=⟨_,ar hlt⟩;obtain⟨bb,off,hao⟩:=h4 (by rintro rfl;simp at hlt);obtain⟨sa,sn,sc⟩:=s;simp only at h1 h2 hao;subst hao;refine bD [] 9 (decide (z<(sn:Int))) (aw (by omega)) ?_;refine cA [9] 1 bb off sn sc .i64 i z hz aB (by omega) ?_;refine eg [] 1 bb (off+i*1) (.int .i64 x) aB (sK bb off sn sc hx) ?_;refine W.shr [] .i64 .u64 x 8 (x/256) (by decide) (by rw[show(min (8:Int).toNat IntKind.i64.bits)=8 by decide,mz _ (by decide)];rfl) ?_;refine cI [] 2 [.int .u8 (IntKind.u8.wrap (x/256)),.int .u8 (IntKind.u8.wrap x)] aB (fun B=>?_);refine W.app [] O [] O [] 1 1 (2*i) 2 v (.slice (some ⟨B,0,none⟩) 2 2) (((l.take i).flatMap sB).map (Value.int .u8)) [.int .u8 (IntKind.u8.wrap (x/256)),.int .u8 (IntKind.u8.wrap x)] aB (by simp) hg (bW B O 2 1 rfl 2) (KK (l:=[IntKind.u8.wrap (x/256),IntKind.u8.wrap x])) (by omega) (by decide) (fun v' O' hg'=>?_);refine close [] _ _ ⟨i+1,IntKind.i64.wrap (z+1),v',O'⟩ (by kernel_rfl) (by simp only[aA,af];kernel_rfl) ⟨by simp only[ah];omega,by simp only;omega,cG.cast ?_ (by simp only;omega) hg'⟩ (by simp only;omega) (eC eK eE);simp only;rw[yE sB hx,aW,ml,ml];rfl
 ·refine aS [] 9 (decide (z<(s.n:Int))) (ak (by omega)) ?_;rw[aV (by omega)]at hg;refine lP (by simp only[aA,af];kernel_rfl) hg (fun ao c' hv hc'=>?_);subst hv;have hcm:c'≤maxLen:=oZ hg;exact W.r [9] (.slice ao (2*i) c') ⟨⟨ao,2*i,c'⟩,rfl,rfl⟩ (fun I w _ hh=>aU (show(BF ⟨ao,2*i,c'⟩ (l.flatMap sB)).p I w from⟨by rw[XD];simp only;omega,⟨hc',hcm⟩,Qj l,aY.p (k:=RA ao) (a:=(l.flatMap sB).map (Value.int .u8)) inferInstance hh⟩))
theorem rn(s:Sl){l:List Int} [h:aY (NL s) l Γ](hl:l.length≤100000):au tb Tryz.prog 24 [bz s] Γ (fun v Δ=>∃u:Sl,v=bz u∧Δ=[BF u (l.flatMap lB)]):=by
 refine au.of_W aB Tryz.func24 rfl ?_;refine MU s rfl (fun h1 h2 h4=>?_);refine jZ [] [3,8] (fun a:Tq=>[(3,a.v),(8,.int .i64 a.z)]) (fun _=>[]) (fun a=>a.O) (fun _=>[NL s l]) (fun a=>a.z=(a.i:Int)∧a.i≤l.length∧cG 1 a.O a.v (4*a.i) (((l.take a.i).flatMap lB).map (Value.int .u8))) (fun a=>l.length-a.i) ⟨0,0,.slice none 0 0,[]⟩ ⟨rfl,aM _,cG.nil 1⟩ (eC eK eE) ?_;rintro⟨i,z,v,O⟩ K ⟨hz,hi,hg⟩ close;simp only at hz hi hg;by_cases hlt:i<l.length
 ·obtain⟨x,hx⟩:∃x,l[i]? =some x:=⟨_,ar hlt⟩;obtain⟨bb,off,hao⟩:=h4 (by rintro rfl;simp at hlt);obtain⟨sa,sn,sc⟩:=s;simp only at h1 h2 hao;subst hao;refine bD [] 9 (decide (z<(sn:Int))) (aw (by omega)) ?_;refine cA [9] 1 bb off sn sc .i64 i z hz aB (by omega) ?_;refine eg [] 1 bb (off+i*1) (.int .i64 x) aB (sK bb off sn sc hx) ?_;refine W.shr [] .i64 .u64 x 24 (x/16777216) (by decide) (by rw[show(min (24:Int).toNat IntKind.i64.bits)=24 by decide,mz _ (by decide)];rfl) ?_;refine W.shr [] .i64 .u64 x 16 (x/65536) (by decide) (by rw[show(min (16:Int).toNat IntKind.i64.bits)=16 by decide,mz _ (by decide)];rfl) ?_;refine W.shr [] .i64 .u64 x 8 (x/256) (by decide) (by rw[show(min (8:Int).toNat IntKind.i64.bits)=8 by decide,mz _ (by decide)];rfl) ?_;refine cI [] 4 [.int .u8 (IntKind.u8.wrap (x/16777216)),.int .u8 (IntKind.u8.wrap (x/65536)),.int .u8 (IntKind.u8.wrap (x/256)),.int .u8 (IntKind.u8.wrap x)] aB (fun B=>?_);refine W.app [] O [] O [] 1 1 (4*i) 4 v (.slice (some ⟨B,0,none⟩) 4 4) (((l.take i).flatMap lB).map (Value.int .u8)) [.int .u8 (IntKind.u8.wrap (x/16777216)),.int .u8 (IntKind.u8.wrap (x/65536)),.int .u8 (IntKind.u8.wrap (x/256)),.int .u8 (IntKind.u8.wrap x)] aB (by simp) hg (bW B O 4 1 rfl 4) (KK (l:=[IntKind.u8.wrap (x/16777216),IntKind.u8.wrap (x/65536),IntKind.u8.wrap (x/256),IntKind.u8.wrap x])) (by omega) (by decide) (fun v' O' hg'=>?_)
  refine close [] _ _ ⟨i+1,IntKind.i64.wrap (z+1),v',O'⟩ (by kernel_rfl) (by simp only[aA,af];kernel_rfl) ⟨by simp only[ah];omega,by simp only;omega,cG.cast ?_ (by simp only;omega) hg'⟩ (by simp only;omega) (eC eK eE);simp only;rw[yE lB hx,aW,ml,ml,ml,ml];rfl
 ·refine aS [] 9 (decide (z<(s.n:Int))) (ak (by omega)) ?_;rw[aV (by omega)]at hg;refine lP (by simp only[aA,af];kernel_rfl) hg (fun ao c' hv hc'=>?_);subst hv;have hcm:c'≤maxLen:=oZ hg;exact W.r [9] (.slice ao (4*i) c') ⟨⟨ao,4*i,c'⟩,rfl,rfl⟩ (fun I w _ hh=>aU (show(BF ⟨ao,4*i,c'⟩ (l.flatMap lB)).p I w from⟨by rw[OI];simp only;omega,⟨hc',hcm⟩,OH l,aY.p (k:=RA ao) (a:=(l.flatMap lB).map (Value.int .u8)) inferInstance hh⟩))
theorem gJ(k d:Int)(u:Sl):au tb Tryz.prog 21 [.int .u8 k,.int .u8 d,bz u] Γ (js (.agg #[.int .u8 k,.int .u8 d,bz u])):=by
 refine au.of_W aB Tryz.func21 rfl ?_;exact W.r [] (.agg #[.int .u8 k,.int .u8 d,.slice u.ao u.n u.c]) ⟨rfl,rfl⟩ bU
end
theorem si{b:Nat}(es:List dJ){I:fZ}{w:World}(hm:es.length≤1000)(h:(dY b (es.flatMap dw.cells)).p I w)(hf:∀e∈es,(xS e.s e.r).p I w):(nU ⟨some ⟨b,0,none⟩,es.length,es.length⟩ (es.map dJ.r)).p I w:=
 l_ (v:=.int .i64 0) rfl (ai _) (by unfold maxLen;omega) (fun e he=>hf e he) (RA.of_row h fun _ _ hv=>hv)
theorem xD(I:fZ)(w:World):(nU ⟨none,0,0⟩ []).p I w:=⟨[],rfl,rfl,⟨ai _,aM _⟩,fun e he=>by simp at he,RA.nil _ _ _⟩
theorem g_{s:Sl}{k d:Int}{b:List Int}{I:fZ}{w:World}(hk:0≤k∧k<256)(hd:0≤d∧d<256)(h:(BF s b).p I w):(xS s ⟨k,d,b⟩).p I w:=⟨hk,hd,h⟩
theorem Jw{g n:Nat}{I:fZ}{w:World}(hn:n≤1000000)(h:(dY g (List.replicate n (.int .u8 0))).p I w):(BF ⟨some ⟨g,0,none⟩,n,n⟩ (List.replicate n 0)).p I w:=
 ⟨by simp,⟨ai _,by simp only;unfold maxLen;omega⟩,fun z hz=>by
  obtain rfl:=List.eq_of_mem_replicate hz;decide,by
  rw[List.map_replicate];exact RA.of_row h fun _ _ hv=>hv⟩
theorem tS{b:Nat}{l:List Int}{I:fZ}{w:World}(hl:l.length≤1000)(h:(dY b (l.map (Value.int .i64))).p I w):(NL ⟨some ⟨b,0,none⟩,l.length,l.length⟩ l).p I w:=
 ⟨rfl,⟨ai _,by simp only;unfold maxLen;omega⟩,RA.of_row h fun _ _ hv=>hv⟩
def AM(s:ByteArray):List Re:=[⟨5,2,List.replicate 24 0⟩,⟨6,6,mu s⟩]
def fm(s:ByteArray)(l:List Im):Ce:=⟨AM s,l⟩
def k9(s:ByteArray)(x y:Int):Im:=⟨[⟨10,0,[]⟩,⟨18,6,mu s⟩,⟨16,3,[x,y].flatMap lB⟩],[]⟩
def pQ(d:Dp):List Int:=[d.x,d.y]
def gX(l:List Dp):List Dp:=l++l.take 1
def cL(a k:Int)(l:List Dp):Im:=⟨[⟨8,0,[]⟩,⟨13,2,[a].flatMap sB⟩,⟨14,2,[k].flatMap sB⟩,⟨16,3,((gX l).flatMap pQ).flatMap lB⟩],[]⟩
def CC:List Re:=[⟨0,2,List.replicate 2 0⟩,⟨1,2,List.replicate 24 0⟩,⟨2,6,[108,98]⟩,⟨3,5,List.replicate 16 0⟩]
theorem yN(l:List Dp):(l.flatMap pQ).map (Value.int .i64)=l.flatMap d_:=by
 induction l with
 |nil=>rfl
 |cons d l ih=>
  rw[bh,aW,ih];rfl
theorem RR{P:Program}{ops:Array Oper}{Q:Exit→Act→World→Prop}{i:Nat}{rest:List Nat}{o:Oper}{a:Act}{w w':World}(hi:ops[i]? =some o)(hg:o.guard=none)(hr:(execOp a.eval o).run P w=.ok .skip w')(hk:wpOps P ops Q rest (a.put o.dst undef) w'):wpOps P ops Q (i::rest) a w:=by
 rw[wpOps_cons];unfold wpOp;rw[hi];simp only;rw[show Region.wanted o (yielded ops a.tmps)=true from by unfold Region.wanted;rw[hg],if_pos rfl];left;unfold Oper.wp;rw[hr];exact hk
section
variable{Γ:List aE}
theorem EB(k d:Int)(n:Nat)(hn:n≤1000):au tb Tryz.prog 71 [.int .u8 k,.int .u8 d,.int .i64 (n:Int)] Γ (fun v Δ=>∃u:Sl,v=.agg #[.int .u8 k,.int .u8 d,bz u]∧Δ=[BF u (List.replicate n 0)]):=by
 refine au.of_W aB Tryz.func71 rfl ?_;refine TD [] [] 1 1 n [.int .u8 0] (List.replicate n (.int .u8 0)) .i64 .i64 aB (by simp[madeCells,Nat.mod_one,List.map_const']) (by omega) (by decide) (fun g=>?_);refine DN [] [] g (List.replicate n (.int .u8 0)) ?_;exact W.r [] (.agg #[.int .u8 k,.int .u8 d,.slice (some ⟨g,0,none⟩) n n]) ⟨⟨some ⟨g,0,none⟩,n,n⟩,rfl,rfl⟩ (fun I w _ hh=>aU (Jw (by omega) hh.h0'))
theorem lY(s:ByteArray)(i:Sl){l:List Im} [h:aY (uC i) l Γ](hs:s.size≤1000000):au tb Tryz.prog 19 [.string s,bz i] Γ (fun v Δ=>∃u:Sl,v=mo u i∧Δ=[xM u i (fm s l)]):=by
 refine au.of_W aB Tryz.func19 rfl ?_;refine TD [] [] 1 1 24 [.int .u8 0] (List.replicate 24 (.int .u8 0)) .i64 .i64 aB (by kernel_rfl) (by decide) (by decide) (fun g=>?_);refine aj [] (gJ 5 2 ⟨some ⟨g,0,none⟩,24,24⟩) ?_;rintro _ _ ⟨rfl,rfl⟩;refine aj [] (xi s hs) ?_;rintro _ _ ⟨u3,rfl,rfl⟩;refine aj [] (gJ 6 6 u3) ?_;rintro _ _ ⟨rfl,rfl⟩;refine cI [] 2 [.int .u8 5,.int .u8 2,.slice (some ⟨g,0,none⟩) 24 24,.int .u8 6,.int .u8 6,bz u3] aB (fun B=>?_);refine DN [] [] g (List.replicate 24 (.int .u8 0)) ?_;exact W.r [] (.agg #[.slice (some ⟨B,0,none⟩) 2 2,bz i]) ⟨⟨some ⟨B,0,none⟩,2,2⟩,rfl,rfl⟩ (fun I w _ hh=>aU ⟨si [⟨⟨some ⟨g,0,none⟩,24,24⟩,⟨5,2,List.replicate 24 0⟩⟩,⟨u3,⟨6,6,mu s⟩⟩] (by simp) (aY.p (k:=dY B) inferInstance hh) (fun e he=>by
  simp only[aD,aC,bp]at he;rcases he with rfl|rfl
  ·exact g_ (by decide) (by decide) (Jw (by decide) hh.h0')
  ·exact g_ (by decide) (by decide) (aY.p (k:=BF u3) inferInstance hh)),h.p (fun F hF=>hh F (by simp[hF]))⟩)
theorem SJ(s:ByteArray)(x y:Int)(hs:s.size≤1000000):au tb Tryz.prog 18 [.string s,.int .i64 x,.int .i64 y] Γ (fun v Δ=>∃u:Sl,v=mo u ⟨none,0,0⟩∧Δ=[mq u ⟨none,0,0⟩ (k9 s x y)]):=by
 refine au.of_W aB Tryz.func18 rfl ?_;refine aj [] (gJ 10 0 ⟨none,0,0⟩) ?_;rintro _ _ ⟨rfl,rfl⟩;refine aj [] (xi s hs) ?_;rintro _ _ ⟨u2,rfl,rfl⟩;refine aj [] (gJ 18 6 u2) ?_;rintro _ _ ⟨rfl,rfl⟩;refine cI [] 2 [.int .i64 x,.int .i64 y] aB (fun b4=>?_);refine gF [] (Γ':=[NL ⟨some ⟨b4,0,none⟩,2,2⟩ [x,y]]) (fun I w _ hh=>aU (tS (l:=[x,y]) (by simp) hh.h0')) (rn ⟨some ⟨b4,0,none⟩,2,2⟩ (l:=[x,y]) (by simp)) ?_;rintro _ _ ⟨u5,rfl,rfl⟩;refine aj [] (gJ 16 3 u5) ?_;rintro _ _ ⟨rfl,rfl⟩;refine cI [] 3 [.int .u8 10,.int .u8 0,.slice none 0 0,.int .u8 18,.int .u8 6,bz u2,.int .u8 16,.int .u8 3,bz u5] aB (fun B=>?_);exact W.r [] (.agg #[.slice (some ⟨B,0,none⟩) 3 3,.slice none 0 0]) ⟨⟨some ⟨B,0,none⟩,3,3⟩,rfl,rfl⟩ (fun I w _ hh=>aU ⟨si [⟨⟨none,0,0⟩,⟨10,0,[]⟩⟩,⟨u2,⟨18,6,mu s⟩⟩,⟨u5,⟨16,3,[x,y].flatMap lB⟩⟩] (by simp) (aY.p (k:=dY B) inferInstance hh) (fun e he=>by
  simp only[aD,aC,bp]at he;rcases he with rfl|rfl|rfl
  ·exact g_ (by decide) (by decide) (qD _ _ _)
  ·exact g_ (by decide) (by decide) (aY.p (k:=BF u2) inferInstance hh)
  ·exact g_ (by decide) (by decide) (aY.p (k:=BF u5) inferInstance hh)),xD _ _⟩)
theorem X_{fn:Func}{rc:Code}{c:VS}{post:Value→List aE→Prop}{I:fZ}{w w1:World}{a:Act}{ρ:Nat→Nat}(h:W tb Tryz.prog (Fin tb fn post) ⟨c,[.code rc]⟩ Γ)(hs:iv tb w ⟨I,fun _=>False,[]⟩ Γ c a w1 ρ):
  rc.wp Tryz.prog (bodyPost Tryz.prog fn fun e w'=>∃v Δ,e=.returned v∧post v Δ∧Below w.heap.size w w'∧aG Δ (fun b=>b<w.heap.size→I b) w') a w1:=by
 have:=h.sound (w0:=w) (I0:=⟨I,fun _=>False,[]⟩) (Q:=bodyPost Tryz.prog fn fun e w'=>∃v Δ,e=.returned v∧post v Δ∧Below w.heap.size w w'∧aG Δ (fun b=>b<w.heap.size→I b) w') aB (fun l a w h=>h) (fun s Γ a w' ρ hfin hs=>by
  obtain⟨v,Δ,hv,hp,hd'⟩:=hfin;have hr:=zY aB hs hv;have hpost:∃v' Δ',Ending.returned v=.returned v'∧post v' Δ'∧Below w.heap.size w w'∧aG Δ' (fun b=>b<w.heap.size→I b) w':=
   ⟨v,Δ,rfl,hp,hs.below.below,(hd' _ _ hs.dataOK hs.facts).up (fun b _ hI hl=>(hI.1 hl).elim id (fun h=>h.elim)) (fun _ _ _=>rfl) (ai _)⟩
  exact⟨⟨hs.defers,v,hr,hpost⟩,⟨hs.defers,v,hr,hpost⟩⟩) (fun ch _ _ h _ _=>h.elim) rfl
 rw[dB rfl]at this;exact this a w1 ρ hs
def nW(b1:Nat):VS:=⟨[.ptr 0 0,.ptr 1 0,.val (.slice (some ⟨b1,0,none⟩) 2 2),.val (.slice (some ⟨b1,0,none⟩) 2 2),.val (.agg #[.int .u8 2,.int .u8 6,.slice (some ⟨b1,0,none⟩) 2 2])]++List.replicate 6 (.val undef),
 [some [.slice none 0 0,.slice none 0 0],some [.int .u8 2,.int .u8 6,.slice (some ⟨b1,0,none⟩) 2 2]]++List.replicate 9 none,[],[]⟩
theorem K8(b1:Nat){Γ:List aE} [h:aY (BF ⟨some ⟨b1,0,none⟩,2,2⟩) [108,98] Γ]:
  W tb Tryz.prog (Fin tb Tryz.f40 (fun v Δ=>∃u:Sl,v=mo u ⟨none,0,0⟩∧Δ=[nU u CC])) ⟨nW b1,[.code (I6 Tryz.f40)]⟩ Γ:=by
 refine aj [] (EB 0 2 2 (by decide)) ?_;rintro _ _ ⟨u3,rfl,rfl⟩;refine aj [] (EB 1 2 24 (by decide)) ?_;rintro _ _ ⟨u4,rfl,rfl⟩;refine aj [] (EB 3 5 16 (by decide)) ?_;rintro _ _ ⟨u5,rfl,rfl⟩;refine cI [] 4 [.int .u8 0,.int .u8 2,bz u3,.int .u8 1,.int .u8 2,bz u4,.int .u8 2,.int .u8 6,.slice (some ⟨b1,0,none⟩) 2 2,.int .u8 3,.int .u8 5,bz u5] aB (fun B=>?_);exact W.r [] (.agg #[.slice (some ⟨B,0,none⟩) 4 4,.slice none 0 0]) ⟨⟨some ⟨B,0,none⟩,4,4⟩,rfl,rfl⟩ (fun I w _ hh=>aU (si [⟨u3,⟨0,2,List.replicate 2 0⟩⟩,⟨u4,⟨1,2,List.replicate 24 0⟩⟩,⟨⟨some ⟨b1,0,none⟩,2,2⟩,⟨2,6,[108,98]⟩⟩,⟨u5,⟨3,5,List.replicate 16 0⟩⟩] (by simp) (aY.p (k:=dY B) inferInstance hh) (fun e he=>by
  simp only[aD,aC,bp]at he;rcases he with rfl|rfl|rfl|rfl
  ·exact g_ (by decide) (by decide) (aY.p (k:=BF u3) inferInstance hh)
  ·exact g_ (by decide) (by decide) (aY.p (k:=BF u4) inferInstance hh)
  ·exact g_ (by decide) (by decide) (aY.p (k:=BF ⟨some ⟨b1,0,none⟩,2,2⟩) inferInstance hh)
  ·exact g_ (by decide) (by decide) (aY.p (k:=BF u5) inferInstance hh))))
theorem W_:au tb Tryz.prog 40 [] Γ (fun v Δ=>∃u:Sl,v=mo u ⟨none,0,0⟩∧Δ=[nU u CC]):=by
 refine⟨⟨_,Tryz.func40,by kernel_rfl,by kernel_rfl⟩,fun I w hd hh=>?_⟩;obtain⟨w1,hw1⟩:∃w1,w1=w.alloc (.cells #[.slice none 0 0,.slice none 0 0] 25):=⟨_,rfl⟩;obtain⟨b0,hb0⟩:∃b,b=w.heap.size:=⟨_,rfl⟩;obtain⟨b1,hb1⟩:∃b,b=w1.heap.size:=⟨_,rfl⟩;obtain⟨w3,hw3⟩:∃w3,w3=w1.alloc (.cells #[.int .u8 108,.int .u8 98] 5 (2,3)):=⟨_,rfl⟩;obtain⟨b2,hb2⟩:∃b,b=w3.heap.size:=⟨_,rfl⟩;obtain⟨w4,hw4⟩:∃w4,w4=w3.alloc (.cells #[.int .u8 0,.int .u8 0,.slice none 0 0] 45):=⟨_,rfl⟩;obtain⟨w5,hw5⟩:∃w5,w5=((w4.setCell ⟨b2,0,none⟩ (.int .u8 2)).setCell ⟨b2,1,none⟩ (.int .u8 6)).setCell ⟨b2,2,none⟩ (.slice (some ⟨b1,0,none⟩) 2 2):=⟨_,rfl⟩;have hs1:w1.heap.size=w.heap.size+1:=by rw[hw1];simp
 have hs3:w3.heap.size=w.heap.size+2:=by rw[hw3,World.size_alloc,hs1]
 have hs4:w4.heap.size=w.heap.size+3:=by rw[hw4,World.size_alloc,hs3]
 have hs5:w5.heap.size=w.heap.size+3:=by rw[hw5,pM,pM,pM,hs4]
 have q0:w4.heap[b2]? =some (.cells #[.int .u8 0,.int .u8 0,.slice none 0 0] 45 (0,0)):=by rw[hw4,hb2];exact mN _ _
 have q1:=jk (o:=0) (v:=.int .u8 2) q0;have q2:=jk (o:=1) (v:=.int .u8 6) q1;have q3:=jk (o:=2) (v:=.slice (some ⟨b1,0,none⟩) 2 2) q2;rw[←hw5]at q3;have old5:∀k,k≠b2→w5.heap[k]? =w4.heap[k]? :=fun k hk=>by rw[hw5,eQ hk,eQ hk,eQ hk]
 have g1:w5.heap[b1]? =some (.cells #[.int .u8 108,.int .u8 98] 5 (2,3)):=by
  rw[old5 b1 (by omega),hw4,jx (by omega),hw3,hb1];exact mN _ _
 have g0:w5.heap[b0]? =some (.cells #[.slice none 0 0,.slice none 0 0] 25 (0,0)):=by
  rw[old5 b0 (by omega),hw4,jx (by omega),hw3,jx (by omega),hw1,hb0];exact mN _ _
 have hold:∀k,k<w.heap.size→w5.heap[k]? =w.heap[k]? :=fun k hk=>by
  rw[old5 k (by omega),hw4,jx (by omega),hw3,jx (by omega),hw1,jx hk]
 have key:=X_ (I:=I) (w:=w) (w1:=w5) (a:={tmps:= #[fp b0,fp b2,.slice (some ⟨b1,0,none⟩) 2 2,.slice (some ⟨b1,0,none⟩) 2 2,.agg #[.int .u8 2,.int .u8 6,.slice (some ⟨b1,0,none⟩) 2 2],undef,undef,undef,undef,undef,undef],defers:=[]})
  (ρ:=fun t=>if t=0 then b0 else b2) (K8 b1 (Γ:=BF ⟨some ⟨b1,0,none⟩,2,2⟩ [108,98]::Γ)) ?_
 ·refine calls_of_wp Tryz.func40 rfl ?_;refine wp_seq (wp_region ?_);show wpOps Tryz.prog _ _ [0] _ _;refine tK (v:=fp b0) (w':=w1) rfl rfl (by rw[hb0,hw1];kernel_rfl) ?_;refine wp_seq (wp_region ?_);show wpOps Tryz.prog _ _ [0,1,2,3,4] _ _;refine tK (v:=.slice (some ⟨b1,0,none⟩) 2 2) (w':=w1.alloc (.cells #[.int .u8 108,.int .u8 98] 5)) rfl rfl (by rw[hb1];kernel_rfl) ?_;refine tK (v:=.slice (some ⟨b1,0,none⟩) 2 2) (w':=w3) rfl rfl (by
   have hcv:=Joins.run_convert_bytes_const_at (P:=Tryz.prog) w1 28 5 #[.int .u8 108,.int .u8 98] 2 2 b1 hb1 Tryz.underlying28 Tryz.underlying5;simp[execOp,go_sem,hcv,hw3]) ?_
  refine tK (v:=.agg #[.int .u8 2,.int .u8 6,.slice (some ⟨b1,0,none⟩) 2 2]) (w':=w3) rfl rfl (by kernel_rfl) ?_;refine tK (v:=fp b2) (w':=w4) rfl rfl (by rw[hb2,hw4];kernel_rfl) ?_;refine RR (w':=w5) rfl rfl (by
   have c0:=oq (o:=0) q0;have z0:=uK (o:=0) q0;have c1:=oq (o:=1) q1;have z1:=uK (o:=1) q1;have c2:=oq (o:=2) q2;have z2:=uK (o:=2) q2;rw[hw5];simp[execOp,go_sem,storeCells,c0,z0,c1,z1,c2,z2]) ?_
  refine Eq.mp ?_ key;kernel_rfl
 ·have hbx:∀t cs,(nW b1).boxes[t]? =some (some cs)→(t=0∧cs=[.slice none 0 0,.slice none 0 0])∨(t=1∧cs=[.int .u8 2,.int .u8 6,.slice (some ⟨b1,0,none⟩) 2 2]):=fun t cs ht=>by
   match t,ht with
   |0,ht=>exact .inl ⟨rfl,by injection ht with ht;injection ht with ht;exact ht.symm⟩
   |1,ht=>exact .inr ⟨rfl,by injection ht with ht;injection ht with ht;exact ht.symm⟩
   |t+2,ht=>
    exfalso
    have:(List.replicate 9 (none:Option (List Value)))[t]? =some (some cs):=ht;rw[cW]at this;split at this<;>simp at this
  refine⟨rfl,rfl,fun i sv hi=>?_,?_,fun t cs ht=>?_,fun t u cs cs' ht hu e=>?_,fun i t off hi=>?_,hd,?_,fun b cs hc=>by simp[nW]at hc,fun b cs hc=>by simp[nW]at hc,fun b cs hc=>by simp[nW]at hc,by simp[nW],fun b m hm=>by simp[nW]at hm,fun b m hm=>by simp[nW]at hm,by simp[nW]⟩
  ·match i,hi with
   |0,hi=>injection hi with hi;subst hi;rfl
   |1,hi=>injection hi with hi;subst hi;rfl
   |2,hi=>injection hi with hi;subst hi;rfl
   |3,hi=>injection hi with hi;subst hi;rfl
   |4,hi=>injection hi with hi;subst hi;rfl
   |5,hi=>injection hi with hi;subst hi;rfl
   |6,hi=>injection hi with hi;subst hi;rfl
   |7,hi=>injection hi with hi;subst hi;rfl
   |8,hi=>injection hi with hi;subst hi;rfl
   |9,hi=>injection hi with hi;subst hi;rfl
   |10,hi=>injection hi with hi;subst hi;rfl
   |i+11,hi=>exact absurd hi (by simp[nW])
  ·exact⟨by rw[hw5,hw4,hw3,hw1];rfl,by rw[hw5,hw4,hw3,hw1];rfl,by rw[hw5,hw4,hw3,hw1];rfl,by omega,fun k hk _=>hold k hk⟩
  ·rcases hbx t cs ht with⟨rfl,rfl⟩|⟨rfl,rfl⟩
   ·exact⟨by simp only[eV];omega,_,(by decide+kernel:tb.dat 25=false),g0⟩
   ·exact⟨by simp only[Nat.one_ne_zero,ea];omega,_,(by decide+kernel:tb.dat 45=false),q3⟩
  ·rcases hbx t cs ht with⟨rfl,_⟩|⟨rfl,_⟩<;>rcases hbx u cs' hu with⟨rfl,_⟩|⟨rfl,_⟩
   ·rfl
   ·simp only[eV,Nat.one_ne_zero,ea]at e;omega
   ·simp only[eV,Nat.one_ne_zero,ea]at e;omega
   ·rfl
  ·match i,hi with
   |0,hi=>injection hi with hi;injection hi with h1 h2;subst h1;exact⟨_,rfl⟩
   |1,hi=>injection hi with hi;injection hi with h1 h2;subst h1;exact⟨_,rfl⟩
   |2,hi=>simp[nW]at hi
   |3,hi=>simp[nW]at hi
   |4,hi=>simp[nW]at hi
   |i+5,hi=>
    exfalso
    have:(List.replicate 6 (SV.val undef))[i]? =some (.ptr t off):=hi;rw[cW]at this;split at this<;>simp at this
  ·have hI:∀b,(b<w.heap.size∧I b)∨b=b1→U6 w ⟨I,fun _=>False,[]⟩ (fun t=>if t=0 then b0 else b2) (nW b1) b:=fun b hb=>by
    refine⟨fun hl=>.inl ?_,fun t cs ht e=>?_,fun cs hc=>by simp[nW]at hc,fun m hm=>by simp[nW]at hm⟩
    ·rcases hb with h|h
     ·exact h.2
     ·omega
    ·rcases hbx t cs ht with⟨rfl,_⟩|⟨rfl,_⟩
     ·simp only[eV]at e;rcases hb with h|h<;>omega
     ·simp only[Nat.one_ne_zero,ea]at e;rcases hb with h|h<;>omega
   refine aG.cons ⟨rfl,⟨ai _,by show 2≤maxLen;decide⟩,fun z hz=>?_,fun _=>⟨b1,0,rfl,hI b1 (.inr rfl),fun i v hv=>?_⟩⟩ (hh.up (fun b hb h=>hI b (.inl ⟨hb,h⟩)) (fun b hb _=>hold b hb) (by omega))
   ·simp only[aD,aC,bp]at hz;rcases hz with rfl|rfl<;>decide
   ·rw[cz];simp only[World.cell?,g1,lr,iK,ea];rw[←eS];exact hv
theorem xg(c:Sl){cs:List Ce} [h:aY (pF c) cs Γ]:au tb Tryz.prog 25 [bz c] Γ (fun v Δ=>∃u:Sl,v=mo u c∧Δ=[HK u c ⟨CC,cs⟩]):=by
 refine au.of_W aB Tryz.func25 rfl ?_;refine aj [] W_ ?_;rintro _ _ ⟨u,rfl,rfl⟩;exact W.r [] (.agg #[bz u,bz c]) ⟨u,rfl,rfl⟩ (fun I w _ hh=>aU ⟨hh.h0',h.p (fun F hF=>hh F (by simp[hF]))⟩)
end
end Go.Proofs.YtgaaopjagcaojaaGreat
