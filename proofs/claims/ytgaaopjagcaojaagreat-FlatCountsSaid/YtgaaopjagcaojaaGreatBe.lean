import Derived.Test.YtgaaopjagcaojaaGreatMq
import Derived.Test.YtgaaopjagcaojaaGreatLs
import Derived.Test.YtgaaopjagcaojaaGreatLe
import Derived.Lib.SmallJoins
set_option linter.unusedSimpArgs false
set_option linter.unusedVariables false
set_option maxHeartbeats 4000000
namespace Go.Proofs.YtgaaopjagcaojaaGreat
open Go.RowKit Go.IntWalk
theorem CO(c:Ce):∀(l:List Ce) (i:Nat) (nm:List (ByteArray×Int)),xO (l++[c]) i nm=if(gl (Fj c) (xO l i nm)).isSome then xO l i nm else kL (Fj c) ((i+l.length:Nat):Int) (xO l i nm)
 | [],i,nm=>rfl
 |a::l,i,nm=>by
  simp only[dR,xO,aD];rw[CO c l (i+1),show i+1+l.length=i+(l.length+1)by omega]<;>rfl
theorem Cy{t:List Ce}{n e:Int}(h:pJ t n=.error e):e≠0:=by
 unfold pJ at h;split at h
 ·injection h with h;omega
 ·split at h
  ·injection h with h;omega
  ·split at h
   ·injection h with h;omega
   ·split at h
    ·injection h with h;omega
    ·have:=tP (A:=fun e=>e=25∨e=26) (fun c _ e' he=>by
      unfold FX at he;split at he
      ·simp at he
      ·exact nU _ _ _ _ he) h
     omega
theorem aaJ{s:Sl}{r:Re}{I:fN}{w:World}(h:(xu s r).p I w):Mr r:=h.2.2.2.2.1
theorem Iq{α β:Type}{R:kK α}{num:α→β}{s:Sl}{l:List β}{I:fN}{w:World}(h:(LF R num s l).p I w){Q:β→Prop}(hq:∀e:α,(R.fact 0 e).p I w→Q (num e)):∀x∈l,Q x:=fun x hx=>by
 obtain⟨es,rfl,_,_,h4,_⟩:=h;obtain⟨e,he,rfl⟩:=List.mem_map.1 hx;exact hq e (h4 e he)
theorem Za{h i:Sl}{x:Ce}{I:fN}{w:World}(hf:(za h i x).p I w):XN x:=
 Iq hf.2 (Q:=fun y=>∀r∈y.f,Mr r) fun e he=>Iq (show(kH e.f e.x.f).p I w from he.1) (Q:=Mr) fun e' he'=>aaJ he'
theorem Z9{h c:Sl}{t:Li}{I:fN}{w:World}(hf:(B8 h c t).p I w):∀x∈t.c,XN x:=
 Iq hf.2 (Q:=XN) fun e he=>Za he
theorem KZ(f:List Re){l:List Ce}{c:Ce}(h:c∈l):c.i.length≤(l.flatMap fS).length:=by
 obtain⟨a,b,rfl⟩:=vn h;have h1:=s8 qF c.i;simp only[bB,bL,aA];have:(fS c).length=c.h.length+((c.i.flatMap fD).length+1):=by simp[fS]
 omega
theorem VI{t:Li}(hv:nk t=true)(hl:(iH t).length≤100000)(hb:∀x∈t.c,XN x):S_ t.c:=by
 have h1:=(yU.1 hv).2;have h2:(t.c.flatMap fS).length≤100000:=by
  have:(iH t).length=t.h.length+((t.c.flatMap fS).length+1):=by simp[iH]
  omega
 exact⟨fun c hc=>(h1 c hc).2,fun c hc=>aP (KZ [] hc) h2,aP (s8 qE t.c) h2,hb⟩
def Mi(r:LR)(v:Value)(Δ:List aC):Prop:=
 (∃e,r=.error e∧v=.tuple #[.slice none 0 0,.int .i64 e]∧Δ=[])∨∃(l:List Sh) (s:Sl),r=.ok l∧v=.tuple #[a_ s,.int .i64 0]∧Δ=[LF oB qt.x s l]
section
variable{Γ:List aC}
theorem LC(ha:Option Addr)(hn hc':Nat)(ca:Option Addr)(cl cc:Nat)(n:Int){t:Li} [hF:aY (B8 ⟨ha,hn,hc'⟩ ⟨ca,cl,cc⟩) t Γ](hl:(iH t).length≤100000)(hW:nk t=true→yb t.c≤160):aw Km Tryz.prog 12 [lO ⟨ha,hn,hc'⟩ ⟨ca,cl,cc⟩,.int .i64 n] Γ (Mi (pI t n)):=by
 obtain⟨R,hR⟩:∃R,pI t n=R:=⟨_,rfl⟩;have hR2:=hR;unfold pI at hR2;rw[hR];refine aw.of_W bG Tryz.func12 rfl ?_ (fun _ h=>h.1);refine p6 (∀x∈t.c,XN x) rfl (fun I w _ hh=>Z9 (hF.p hh)) (fun hb=>?_);by_cases h1:n<0
 ·rw[if_pos (.inl h1)]at hR2;refine bk [] 15 (decide (n<0)) (ar h1) ?_;exact W.r [12,15] (.tuple #[.slice none 0 0,.int .i64 1]) (.inl ⟨1,hR2.symm,rfl,rfl⟩) bR
 refine aR [] 15 (decide (n<0)) (ai h1) ?_;by_cases h2:n>100000
 ·rw[if_pos (.inr h2)]at hR2;refine bk [15] 12 (decide (n>100000)) (ar h2) ?_;exact W.r [12] (.tuple #[.slice none 0 0,.int .i64 1]) (.inl ⟨1,hR2.symm,rfl,rfl⟩) bR
 rw[if_neg (by omega)]at hR2;refine aR [15] 12 (decide (n>100000)) (ai h2) ?_;refine aq [12] (SD ⟨ha,hn,hc'⟩ ⟨ca,cl,cc⟩ (t:=t) hl).mF ?_;rintro _ _ ⟨rfl,rfl⟩;cases hv:nk t with
 |false=>
  rw[if_pos hv]at hR2;refine bk [] 19 (!false) rfl ?_;exact W.r [19] (.tuple #[.slice none 0 0,.int .i64 20]) (.inl ⟨20,hR2.symm,rfl,rfl⟩) bR
 |true=>
 rw[if_neg (by rw[hv];simp)]at hR2;have hfit:=VI hv hl hb;refine aR [] 19 (!true) rfl ?_;refine W.more (Δ:=[lC ⟨ca,cl,cc⟩ t.c]) (by kernel_rfl) (fun I w _ hh=>aU (hF.p hh).2) ?_;refine I4 [19] [] [] (fun bn=>?_);refine I4 [] [] [(bn,[])] (fun cn=>?_);refine I4 [] [] [(cn,[]),(bn,[])] (fun dn=>?_);refine ER [] [34] (fun a:XO=>[(34,.int .i64 a.z)]) (fun _=>[]) (fun _=>[]) (fun a=>[(dn,[]),(cn,[]),(bn,bJ dO (bZ (xO (t.c.take a.j) 0 [])))]) (fun _=>[lC ⟨ca,cl,cc⟩ t.c]) (fun a=>a.z=a.j∧a.j≤cl) (fun a=>cl-a.j) ⟨0,0,false,[]⟩ ⟨rfl,aJ _⟩ (eC eK eE) ?_;rintro⟨j,z,g,nm⟩ K ⟨hz,hj⟩ close;simp only at hz hj;refine W.len lF pd.x ⟨ca,cl,cc⟩ rfl (fun c1 c2 c3=>?_);simp only at c1 c2 c3;by_cases hlt:j<cl
 ·obtain⟨x,hx⟩:∃x,t.c[j]? =some x:=⟨_,ak (by omega)⟩;have hst:=CO x (t.c.take j) 0 [];rw[←fr hx,dE,cu,fm (by omega)]at hst;obtain⟨N,hN⟩:∃N,xO (t.c.take j) 0 []=N:=⟨_,rfl⟩;rw[hN]at hst;refine uR ⟨ca,cl,cc⟩ hx (fun b off fh fi ha=>?_);simp only at ha;subst ha;refine bk [] 35 (decide (z<(cl:Int))) (ar (by omega)) ?_;refine bY [35] 2 b off cl cc .i64 j z hz bG hlt ?_;refine cY [] b (off+j*2) [a_ fh,a_ fi] bG (cB b (off+j*2)) ?_;refine aq [] (D_ fh fi (x:=x)).mF ?_;rintro _ _ ⟨rfl,rfl⟩;refine uS [] dO 69 9 3 true [] [(dn,[]),(cn,[]),(bn,bJ dO (bZ N))] bn (Fj x) (bZ N) (.int .i64 0) bG (h:=(by rw[←hN];kernel_rfl)) (.tail _ (.tail _ (.head _))) ?_;rw[mq];cases hg:gl (Fj x) N with
  |some v=>
   rw[hg]at hst;refine aR [] 50 (!true) rfl ?_;exact close [50] _ _ ⟨j+1,IntKind.i64.wrap (z+1),false,[]⟩ (by kernel_rfl) (by simp only;rw[hst];kernel_rfl) ⟨by simp only[af];omega,hlt⟩ (by simp only;omega) (eC eK eE)
  |none=>
   rw[hg]at hst;refine bk [] 50 (!false) rfl ?_;refine aq [50] (D_ fh fi (x:=x)).mF ?_;rintro _ _ ⟨rfl,rfl⟩;refine Ca [] dO 69 9 3 [] [(dn,[]),(cn,[])] [] bn (Fj x) (.int .i64 z) (bZ N) ?_;rw[qC];exact close [] _ _ ⟨j+1,IntKind.i64.wrap (z+1),false,[]⟩ (by kernel_rfl) (by simp only;rw[hst,←hz];kernel_rfl) ⟨by simp only[af];omega,hlt⟩ (by simp only;omega) (eC eK eE)
 ·obtain rfl:j=cl:=by omega
  refine aR [] 35 (decide (z<(j:Int))) (ai (by omega)) ?_;refine uT 30 (fun fb=>?_);have hnm:xO (t.c.take j) 0 []=cr t.c:=by rw[aS (by omega)];rfl
  have pc:=Dn (Sj fb bn cn dn ca j cc n hfit (by omega) (hW hv) [lC ⟨ca,j,cc⟩ t.c]) (M':=[(dn,[]),(cn,[]),(bn,bJ dO (bZ (cr t.c)))]) (List.perm_append_comm (l₁:=[(bn,bJ dO (bZ (cr t.c)))]) (l₂:=[(dn,[]),(cn,[])]));refine cX [35] [] (FO fb ⟨ca,j,cc⟩ bn cn dn n (.slice none 0 0)) [] [] [(dn,[]),(cn,[]),(bn,bJ dO (bZ (cr t.c)))] [] ⟨rfl,by rfl,trivial⟩ (em:=(by rw[←hnm];kernel_rfl)) pc ?_;rintro _ _ M _ ⟨s,O2,es2,hes,rfl,rfl,hg,rfl⟩;rw[ah (FO fb ⟨ca,j,cc⟩ bn cn dn n (a_ s)++O2)];cases hRr:pJ t.c n with
  |error e=>
   rw[hRr]at hR2;refine bk [] 62 (e != 0) (by simpa using Cy hRr) ?_;exact W.r [62] (.tuple #[.slice none 0 0,.int .i64 e]) (.inl ⟨e,hR2.symm,rfl,rfl⟩) bR
  |ok l=>
   rw[hRr]at hR2 hes;refine aR [] 62 ((0:Int) != 0) (by decide) ?_;refine bW [62] 5 fb 0 bG ?_;refine dK [] (FO fb ⟨ca,j,cc⟩ bn cn dn n (a_ s)++O2) fb (0+5) 1 [.slice ca j cc,.map (some bn),.map (some cn),.map (some dn),.int .i64 n,a_ s] (a_ s) bG (.head _) rfl ?_;refine mo (FO fb ⟨ca,j,cc⟩ bn cn dn n (a_ s)) O2 [] (by rw[ah O2];kernel_rfl) hg (fun g5 g1 g2=>?_);exact W.r [] (.tuple #[a_ s,.int .i64 0]) (.inr ⟨l,s,hR2.symm,rfl,rfl⟩) (fun I w hd hh=>aU (by
    rw[←hes l rfl];obtain⟨sa,sn,sc⟩:=s;exact Ot oB qt.x (v:=a_ ⟨sa,sn,sc⟩) g5 g1 g2 (aY.p (k:=sK oB (a_ ⟨sa,sn,sc⟩)) inferInstance hh) (aY.p (k:=RA sa) inferInstance hh)))
end
section
variable{Γ:List aC}
theorem lR(h c:Sl)(n:Int){t:Li} [hF:aY (B8 h c) t Γ](hl:(iH t).length≤100000)(hW:nk t=true→yb t.c≤160):aw tb Tryz.prog 12 [lO h c,.int .i64 n] Γ (Mi (pI t n)):=by
 obtain⟨ha,hn,hc'⟩:=h;obtain⟨ca,cl,cc⟩:=c;exact LC ha hn hc' ca cl cc n (t:=t) hl hW
end
theorem xd{α:Type}{f:α→LR}{w:α→Int}:∀{l:List α} {s:List Sh},(∀a∈l,∀s,f a=.ok s→(s.length:Int)=w a)→lA f l=.ok s→(s.length:Int)=(l.map w).sum
 | [],s,_,h=>by
  simp only[lA,nX]at h;subst h;simp
 |a::l,s,hw,h=>by
  unfold lA at h;cases hf:f a with
  |error e=>rw[hf]at h;simp at h
  |ok s1=>
   rw[hf]at h;cases hs:lA f l with
   |error e=>rw[hs]at h;simp at h
   |ok s2=>
    rw[hs]at h;simp only[nX]at h;subst h;have h1:=hw a (by simp) s1 hf;have h2:=xd (fun b hb=>hw b (by simp[hb])) hs;simp only[aA,cA,gj];omega
theorem zL.item_eq{t:List Ce}(hD:zL t){n:Nat}{g:Nat→On→LR}(hg:∀c V s,g c V=.ok s→(s.length:Int)=jT t n c){x:Im}(hr:j1 x=true){V:On}{s:List Sh}(h:js t n g V x=.ok s):(s.length:Int)=jA t (jT t n) x:=by
 unfold js at h;unfold jA;by_cases h8:cE x=8∨cE x=45
 ·rw[if_pos h8]at h⊢;rw[uE h];rfl
 ·rw[if_neg h8]at h⊢;by_cases h9:cE x=9
  ·rw[if_pos h9]at h⊢;split at h
   ·split at h
    ·rename_i hp;injection h with h;subst h;simp[hp]
    ·rename_i hp;rw[if_neg hp,uE h];rfl
   ·split at h<;>simp at h
  ·rw[if_neg h9]at h⊢;by_cases hk:cE x=10∨cE x=11
   ·rw[if_pos hk]at h⊢;obtain⟨_,h1,h2,_⟩:=ou hr hk;unfold nA at h;cases hkn:rn t x with
    |none=>
     rw[hkn]at h;injection h with h;subst h;simp
    |some c=>
     rw[hkn]at h;simp only at h⊢;split at h
     ·rename_i h0;injection h with h;subst h;rw[h0];simp
     ·have key:=xd (w:=fun _:Nat=>((bI x).1.toNat:Int)*jT t n c) (fun a _ s' hs'=>by
       have:=xd (w:=fun _:Nat=>jT t n c) (fun b _ s'' hs''=>hg _ _ _ hs'') hs';rw[qS,gU]at this;exact this) h
      rw[qS,gU]at key;rw[ns (pV h1),ns (pV h2)]at key;have e:(bI x).2*((bI x).1*jT t n c)=jT t n c*(bI x).1*(bI x).2:=by
       rw[k7 (bI x).1,k7 (bI x).2]
      omega
   ·rw[if_neg hk]at h⊢;injection h with h;subst h;simp
theorem zL.lay_eq{t:List Ce}(hD:zL t):∀(n c:Nat) (V:On) (s:List Sh),gg t n c V=.ok s→(s.length:Int)=jT t n c
 |0,c,V,s,h=>by
  simp only[gg,nX]at h;subst h;simp[jT]
 |n+1,c,V,s,h=>by
  unfold gg at h;unfold jT;refine xd (fun x hx s' hs'=>?_) h;obtain⟨c',hc',hx'⟩:=xJ hx;exact hD.item_eq (hD.lay_eq n) (hD.right c' hc' x hx') hs'
theorem Ng{t:List Ce}(h1:lost t=false)(h3:¬Ap t=true)(h4:¬Ji t):zL t:=by
 refine⟨h1,fun c hc x hx=>?_,fun i hi=>?_⟩
 ·unfold Ap at h3;rw[dZ,not_or]at h3;have h:=h3.2;simp only[Mn,cD,not_exists,not_and,Bool.not_eq_false]at h;exact h c hc x hx
 ·cases hd:dep t 64 i with
  |none=>exact absurd ⟨i,hi,hd⟩ h4
  |some d=>exact⟨d,rfl⟩
theorem Aq{t:List Ce}{n:Int}{l:List Sh}(h:pJ t n=.ok l):lost t=false∧¬cyc t∧¬Ap t=true∧¬Ji t∧ve t≤n∧Lm t=.ok l:=by
 unfold pJ at h;split at h
 ·simp at h
 ·rename_i h1;split at h
  ·simp at h
  ·rename_i h2;split at h
   ·simp at h
   ·rename_i h3;split at h
    ·simp at h
    ·rename_i h4;exact⟨by simpa using h1,h2,fun h=>h3 (.inl h),fun h=>h3 (.inr h),by omega,h⟩
theorem KY{t:List Ce}{n m:Int}{l:List Sh}(h:pJ t n=.ok l):pJ t m=if ve t>m then .error 27 else .ok l:=by
 obtain⟨h1,h2,h3,h4,_,h6⟩:=Aq h;unfold pJ;rw[if_neg (by rw[h1];simp),if_neg h2,if_neg (by rintro(h|h);exact h3 h;exact h4 h),h6]
theorem CH{t:List Ce}(hD:zL t){l:List Sh}(h:Lm t=.ok l):(l.length:Int)=ve t:=by
 unfold Lm at h;unfold ve;refine xd (fun c _ s hs=>?_) h;unfold FX at hs;unfold pq;split at hs
 ·rename_i hn;rw[if_pos hn];injection hs with hs;subst hs;rfl
 ·rename_i hn;rw[if_neg hn];exact hD.lay_eq 64 c Un s hs
theorem Fw{t:Li}{n:Int}{l:List Sh}(h:pI t n=.ok l):0≤n∧n≤100000∧nk t=true∧pJ t.c n=.ok l:=by
 unfold pI at h;split at h
 ·simp at h
 ·rename_i h1;split at h
  ·simp at h
  ·rename_i h2;exact⟨by omega,by omega,by simpa using h2,h⟩
theorem Cx{t:Li}{n m:Int}{l:List Sh}(h:pI t n=.ok l)(h0:0≤m)(h1:m≤100000):pI t m=if(l.length:Int)>m then .error 27 else .ok l:=by
 obtain⟨_,_,hv,hs⟩:=Fw h;obtain⟨a1,a2,a3,a4,_,a6⟩:=Aq hs;unfold pI;rw[if_neg (by omega),if_neg (by rw[hv];simp),KY hs,CH (Ng a1 a3 a4) a6]
theorem KW{t:Li}{n:Int}{l:List Sh}(h:pI t n=.ok l):(l.length:Int)≤n:=by
 obtain⟨_,_,hv,hs⟩:=Fw h;obtain⟨a1,a2,a3,a4,a5,a6⟩:=Aq hs;rw[CH (Ng a1 a3 a4) a6];exact a5
def pU(s:ByteArray):List Int:=if s.size % 2=0 then iM s else iM s++[0]
theorem yT(s:ByteArray):kJ (pU s):=by
 unfold pU;split
 ·exact sS s
 ·intro z hz;simp only[dU,aH,aI,bU]at hz;rcases hz with hz|rfl
  ·exact sS s z hz
  ·decide
theorem BX{P:Program}(w:World)(t ty e:TypeId)(i:TypeInfo)(ht:P.underlying t=some (.slice e))(hi:P.info? e=some i)(hs:i.size=1)
  (g n cap:Nat)(cur:Array Value)(p q:Nat)(hg:w.heap[g]? =some (.cells cur e (p,q)))(x:Value)(hx:x.oneCell'=true)(a:Addr)(c:Nat)(ha:w.cell? a=some x)
  (hroom:n+1≤cap)(hn:n<cur.size)(hp:n<p):
  (Builtin.append_ #[t,t] ty #[.slice (some ⟨g,0,none⟩) n cap,.slice (some a) 1 c]).run P w=.ok (.slice (some ⟨g,0,none⟩) (n+1) cap) (w.setCell ⟨g,n,none⟩ x):=by
 have hf:=run_firstCells_some (P:=P) w 1 1 a 1 c [x] rfl (fun j v hv=>by
  cases j with
  |zero=>
   simp at hv;subst hv;simpa [Addr.add]using ha
  |succ j=>simp at hv)
 have c1:w.cell? ⟨g,n,none⟩=some (cur[n]'hn):=by simp[World.cell?,hg,hn]
 have z1:w.frozen? ⟨g,n,none⟩=false:=by
  simp[World.frozen?,hg];omega
 have hst:=run_store P w ⟨g,n,none⟩ x;simp[Builtin.append_,cL ht,sizeOf,typeInfo,hi,hs,Builtin.lenOf,hroom,hf,Addr.add_lit,storeCells,run_store,hx,c1,z1]
theorem P5(w:World)(ty:TypeId)(B n cap:Nat)(cur:Array Value)(p q:Nat)(hg:w.heap[B]? =some (.cells cur 5 (p,q)))(x:Value)(hx:x.oneCell'=true)(a:Addr)(c:Nat)(ha:w.cell? a=some x)
  (hcap:n≤cap)(hcm:cap≤maxLen)(hn:cap≤cur.size)(hp:cap≤p)(hs:n+1≤1000000000):
  ∃(u:Sl) (w':World),(Builtin.append_ #[28,28] ty #[.slice (some ⟨B,0,none⟩) n cap,.slice (some a) 1 c]).run Tryz.prog w=.ok (a_ u) w'∧Below B w w'∧u.n=n+1∧u.n≤u.c∧u.c≤maxLen∧
   ∃g,u.ao=some ⟨g,0,none⟩∧B≤g∧∀i v,(cur.toList.take n++[x])[i]? =some v→w'.cell? ⟨g,i,none⟩=some v:=by
 obtain⟨i0,hi0,hz0,hz1,hz2⟩:=info_parts Et.inf;have hBl:=rf hg;have htl:(cur.toList.take n).length=n:=by rw[dE,tT];omega
 by_cases hroom:n+1≤cap
 ·have hr:=BX (P:=Tryz.prog) w 28 ty 5 i0 Et.ut hi0 hz1 B n cap cur p q hg x hx a c ha hroom (by omega) (by omega);refine⟨⟨some ⟨B,0,none⟩,n+1,cap⟩,_,hr,⟨rfl,rfl,rfl,by rw[pB];omega,fun k hk=>eF (by omega)⟩,rfl,hroom,hcm,B,rfl,aj _,fun i v hv=>?_⟩;have h2:(w.setCell ⟨B,n,none⟩ x).heap[B]? =some (.cells (cur.setIfInBounds n x) 5 (p,q)):=by simp[World.setCell,jL,hg]
  have hi:i<n+1:=by
   have:=(List.getElem?_eq_some_iff.1 hv).1;simp only[aA,htl,aD,bh]at this;omega
  simp only[World.cell?,h2,k8,ij,dW];rw[Array.getElem?_setIfInBounds];by_cases hin:i=n
  ·subst hin;rw[eQ (by omega),htl,p5]at hv;rw[if_pos rfl,if_pos (by omega)];exact hv
  ·rw[dk (by omega),dw,if_pos (by omega),eH]at hv;rw[if_neg (by omega)];exact hv
 ·obtain rfl:n=cap:=by omega
  have holds:∀j v,(cur.toList.take n)[j]? =some v→w.cell? ((⟨B,0,none⟩:Addr).add j)=some v:=fun j v hv=>by
   have hj:j<n:=by
    have:=(List.getElem?_eq_some_iff.1 hv).1;omega
   rw[dw,if_pos hj,eH]at hv;rw[show(⟨B,0,none⟩:Addr).add j=⟨B,j,none⟩from by unfold Addr.add;split<;>simp_all];simp only[World.cell?,hg,k8,ij,dW];exact hv
  have hr:=run_append_grow (P:=Tryz.prog) w 28 ty 5 i0 (.int .u8 0) Et.ut hi0 hz0 ⟨B,0,none⟩ n n (cur.toList.take n) (by rw[htl,hz1,fE]) holds a 1 c [x] (by rw[hz1];rfl) (fun j v hv=>by
   cases j with
   |zero=>
    simp at hv;subst hv;simpa [Addr.add]using ha
   |succ j=>simp at hv) (by omega) (by omega) (growslice_fits (by omega) (by rw[hz2];omega))
  have hge:=grownCap_ge w (n+1) n 5;have hle:=grownCap_le_maxLen w (n+1) n 5 (by unfold maxLen;omega);refine⟨⟨some ⟨w.heap.size,0,none⟩,n+1,grownCap w (n+1) n 5⟩,_,hr,⟨rfl,rfl,rfl,by simp,fun k hk=>by
   rw[jj (show k<w.drew.heap.size from Nat.lt_trans hk hBl)];rfl⟩,rfl,hge,hle,w.heap.size,rfl,by omega,fun i v hv=>?_⟩
  have h2:=mE w.drew (.cells ((cur.toList.take n).toArray++[x].toArray++Builtin.zeroCells (Value.int IntKind.u8 0).cells (grownCap w (n+1) n 5-(n+1))) 5);have e:w.drew.heap.size=w.heap.size:=rfl;rw[e]at h2;simp only[World.cell?,h2,k8,ij,dW];rw[←eH,Array.toList_append,Array.toList_append,dk (by
   have:=(List.getElem?_eq_some_iff.1 hv).1;simpa using this)]
  exact hv
theorem Hb{w:World}{ops:Array Oper}{rest:List Oper}{o:Oper}{a:Act}{Q:Exit→Act→World→Prop}(hgd:o.guard=none)(s y:Operand)
  (ho:o.op=.call {callee:=.builtin .append,args:= #[s,y],argTypes:= #[28,28]})(B n cap:Nat)(cur:Array Value)(p q:Nat)(x:Value)(ad:Addr)(c:Nat)(hs:a.eval s=.slice (some ⟨B,0,none⟩) n cap)(hy:a.eval y=.slice (some ad) 1 c)
  (hg:w.heap[B]? =some (.cells cur 5 (p,q)))(hx:x.oneCell'=true)(ha:w.cell? ad=some x)
  (hcap:n≤cap)(hcm:cap≤maxLen)(hn:cap≤cur.size)(hp:cap≤p)(hl:n+1≤1000000000)
  (h:∀(u:Sl) (w':World),Below B w w'→u.n=n+1→u.n≤u.c→u.c≤maxLen→(∃g,u.ao=some ⟨g,0,none⟩∧B≤g∧∀i v,(cur.toList.take n++[x])[i]? =some v→w'.cell? ⟨g,i,none⟩=some v)→wpList Tryz.prog ops Q rest (a.put o.dst (.slice u.ao u.n u.c)) w'):
  wpList Tryz.prog ops Q (o::rest) a w:=
 wpList_plain hgd fun _ hK=>by
  obtain⟨u,w',hr,h1,h2,h3,h4,h5⟩:=P5 w o.type B n cap cur p q hg x hx ad c ha hcap hcm hn hp hl;unfold Oper.wp execOp;simp only[ho,resolve,invoke,builtin,cw,dL,bu,List.map_toArray,cA,dA,hs,hy,hr];exact hK _ _ (h u w' h1 h2 h3 h4 h5)
section
variable{Γ:List aC}
set_option maxRecDepth 100000 in
theorem GC(s:ByteArray)(hz:s.size≤1000000):aw tb Tryz.prog 22 [.string s] Γ (fun v Δ=>∃u:Sl,v=a_ u∧Δ=[BF u (pU s)]):=by
 refine⟨⟨_,Tryz.func22,by kernel_rfl,by kernel_rfl⟩,fun I w hd hh=>?_⟩;have hcv:=Lib.run_convert_string_bytes (P:=Tryz.prog) w 9 28 5 s (u:=.string) Tryz.underlying9 Tryz.underlying28 Tryz.underlying5;have hb1:Below w.heap.size w (Lib.bytesWorld w 5 s):=⟨rfl,rfl,rfl,by rw[Lib.bytesWorld_size];omega,fun k hk=>Lib.bytesWorld_at_old w _ s k hk⟩;have hg:=Lib.bytesWorld_at_new w 5 s;have hge:=grownCap_ge w s.size 0 5;have hle:=grownCap_le_maxLen w s.size 0 5 (by unfold maxLen;omega);have hcs:(Lib.bytesCells w 5 s).size=grownCap w s.size 0 5:=by
  unfold Lib.bytesCells;simp only[Array.size_append,Array.size_map,Array.size_replicate];have:s.data.size=s.size:=rfl;omega
 have htk:(Lib.bytesCells w 5 s).toList.take s.size=(iM s).map (Value.int .u8):=by
  unfold Lib.bytesCells iM;rw[Array.toList_append,List.take_left' (by rw[tT,Array.size_map];rfl),Array.toList_map,List.map_map];rfl
 rw[hcs]at hg;generalize Lib.bytesWorld w 5 s=W1 at*;generalize Lib.bytesCells w 5 s=cur at*;generalize grownCap w s.size 0 5=cap at*;have hsz1:w.heap.size<W1.heap.size:=rf hg
 go_enter Tryz.func22,Tryz.ntmps22
 go_wp2_with (refine Hb rfl (.tmp 10) (.tmp 11) rfl w.heap.size s.size cap cur cap (cap+1) (.int .u8 0) ⟨W1.heap.size,0,none⟩ 1 rfl rfl (kh hg) rfl (by simp only[World.cell?,mE];rfl) hge hle (by omega) (aj _) (by omega) ?_;intro u w2 hb2 hu1 hu2 hu3 hu4)
 ·rename_i hodd
  go_ret
  obtain⟨ao,un,uc⟩:=u;obtain rfl:un=s.size+1:=hu1;obtain⟨g,hao,hgB,hcell⟩:=hu4;have hao:ao=some ⟨g,0,none⟩:=hao;subst hao;have hpar:¬s.size % 2=0:=by
   intro h0;rw[bne_iff_ne]at hodd;omega
  have ht:pU s=iM s++[0]:=by unfold pU;rw[if_neg hpar]
  refine⟨_,[BF ⟨some ⟨g,0,none⟩,s.size+1,uc⟩ (pU s)],rfl,⟨⟨some ⟨g,0,none⟩,s.size+1,uc⟩,rfl,rfl⟩,hb1.trans (((Below.refl w.heap.size W1).alloc (by omega) _).trans hb2),aU ⟨?_,⟨hu2,hu3⟩,yT s,fun hne=>⟨g,0,rfl,fun hlt=>absurd hlt (by omega),fun i v hv=>?_⟩⟩⟩
  ·rw[ht,aA,tW];rfl
  ·rw[cu];refine hcell i v ?_;rw[htk,←hv,ht,aX];rfl
 ·rename_i heven
  go_ret
  have hpar:s.size % 2=0:=by
   have h1:((s.size:Int) % 2 != 0)=false:=by simpa using heven
   rw[bne_eq_false_iff_eq]at h1;omega
  have ht:pU s=iM s:=by unfold pU;rw[if_pos hpar]
  refine⟨_,[BF ⟨some ⟨w.heap.size,0,none⟩,s.size,cap⟩ (pU s)],rfl,⟨⟨some ⟨w.heap.size,0,none⟩,s.size,cap⟩,rfl,rfl⟩,hb1,aU ⟨by rw[ht,tW],⟨hge,hle⟩,yT s,fun hne=>⟨w.heap.size,0,rfl,fun hlt=>absurd hlt (by omega),fun i v hv=>?_⟩⟩⟩;rw[ht,←htk,dw]at hv;split at hv
  ·rw[cu];simp only[World.cell?,hg,k8,ij,dW];rw[←eH];exact hv
  ·simp at hv
end
def sB(z:Int):List Int:=[z/256 % 256,z % 256]
def lB(z:Int):List Int:=[z/16777216 % 256,z/65536 % 256,z/256 % 256,z % 256]
theorem P6(l:List Int):kJ (l.flatMap sB):=by
 intro z hz;obtain⟨x,_,hx⟩:=List.mem_flatMap.1 hz;simp only[sB,aH,aI,bU]at hx;rcases hx with rfl|rfl<;>omega
theorem Ol(l:List Int):kJ (l.flatMap lB):=by
 intro z hz;obtain⟨x,_,hx⟩:=List.mem_flatMap.1 hz;simp only[lB,aH,aI,bU]at hx;rcases hx with rfl|rfl|rfl|rfl<;>omega
theorem Xo(l:List Int):(l.flatMap sB).length=2*l.length:=by
 induction l with
 |nil=>rfl
 |cons z l ih=>
  rw[bL,aA,ih];simp only[sB,aD,bh];omega
theorem Wh(l:List Int):(l.flatMap lB).length=4*l.length:=by
 induction l with
 |nil=>rfl
 |cons z l ih=>
  rw[bL,aA,ih];simp only[lB,aD,bh];omega
theorem Kn{l:List Int}:∀u∈l.map (Value.int .u8),u.oneCell'=true:=fun u hu=>by
 obtain⟨z,_,rfl⟩:=List.mem_map.1 hu;rfl
theorem ya{α β:Type}{l:List α}{i:Nat}{x:α}(f:α→List β)(h:l[i]? =some x):(l.take (i+1)).flatMap f=(l.take i).flatMap f++f x:=by
 rw[lq h,bB];simp
section
variable{Γ:List aC}
theorem rB(s:Sl){l:List Int} [h:aY (NL s) l Γ](hl:l.length≤100000):aw tb Tryz.prog 23 [a_ s] Γ (fun v Δ=>∃u:Sl,v=a_ u∧Δ=[BF u (l.flatMap sB)]):=by
 refine aw.of_W az Tryz.func23 rfl ?_;refine MB s rfl (fun h1 h2 h4=>?_);refine gO [] [3,8] (fun a:Ta=>[(3,a.v),(8,.int .i64 a.z)]) (fun _=>[]) (fun a=>a.O) (fun _=>[NL s l]) (fun a=>a.z=(a.i:Int)∧a.i≤l.length∧cH 1 a.O a.v (2*a.i) (((l.take a.i).flatMap sB).map (Value.int .u8))) (fun a=>l.length-a.i) ⟨0,0,.slice none 0 0,[]⟩ ⟨rfl,aJ _,cH.nil 1⟩ (eC eK eE) ?_;rintro⟨i,z,v,O⟩ K ⟨hz,hi,hg⟩ close;simp only at hz hi hg;by_cases hlt:i<l.length
 ·obtain⟨x,hx⟩:∃x,l[i]? =some x:=⟨_,ak hlt⟩;obtain⟨bb,off,hao⟩:=h4 (by rintro rfl;simp at hlt);obtain⟨sa,sn,sc⟩:=s;simp only at h1 h2 hao;subst hao;refine bk [] 9 (decide (z<(sn:Int))) (ar (by omega)) ?_;refine bY [9] 1 bb off sn sc .i64 i z hz az (by omega) ?_;refine dB [] 1 bb (off+i*1) (.int .i64 x) az (r_ bb off sn sc hx) ?_;refine W.shr [] .i64 .u64 x 8 (x/256) (by decide) (by rw[show(min (8:Int).toNat IntKind.i64.bits)=8 by decide,mh _ (by decide)];rfl) ?_;refine cQ [] 2 [.int .u8 (IntKind.u8.wrap (x/256)),.int .u8 (IntKind.u8.wrap x)] az (fun B=>?_);refine W.app [] O [] O [] 1 1 (2*i) 2 v (.slice (some ⟨B,0,none⟩) 2 2) (((l.take i).flatMap sB).map (Value.int .u8)) [.int .u8 (IntKind.u8.wrap (x/256)),.int .u8 (IntKind.u8.wrap x)] az (by simp) hg (b_ B O 2 1 rfl 2) (Kn (l:=[IntKind.u8.wrap (x/256),IntKind.u8.wrap x])) (by omega) (by decide) (fun v' O' hg'=>?_);refine close [] _ _ ⟨i+1,IntKind.i64.wrap (z+1),v',O'⟩ (by kernel_rfl) (by simp only[aB,ah];kernel_rfl) ⟨by simp only[af];omega,by simp only;omega,cH.cast ?_ (by simp only;omega) hg'⟩ (by simp only;omega) (eC eK eE);simp only;rw[ya sB hx,aX,l9,l9];rfl
 ·refine aR [] 9 (decide (z<(s.n:Int))) (ai (by omega)) ?_;rw[aS (by omega)]at hg;refine lJ (by simp only[aB,ah];kernel_rfl) hg (fun ao c' hv hc'=>?_);subst hv;have hcm:c'≤maxLen:=oM hg;exact W.r [9] (.slice ao (2*i) c') ⟨⟨ao,2*i,c'⟩,rfl,rfl⟩ (fun I w _ hh=>aU (show(BF ⟨ao,2*i,c'⟩ (l.flatMap sB)).p I w from⟨by rw[Xo];simp only;omega,⟨hc',hcm⟩,P6 l,aY.p (k:=RA ao) (a:=(l.flatMap sB).map (Value.int .u8)) inferInstance hh⟩))
theorem xT(s:Sl){l:List Int} [h:aY (NL s) l Γ](hl:l.length≤100000):aw tb Tryz.prog 24 [a_ s] Γ (fun v Δ=>∃u:Sl,v=a_ u∧Δ=[BF u (l.flatMap lB)]):=by
 refine aw.of_W az Tryz.func24 rfl ?_;refine MB s rfl (fun h1 h2 h4=>?_);refine gO [] [3,8] (fun a:Ta=>[(3,a.v),(8,.int .i64 a.z)]) (fun _=>[]) (fun a=>a.O) (fun _=>[NL s l]) (fun a=>a.z=(a.i:Int)∧a.i≤l.length∧cH 1 a.O a.v (4*a.i) (((l.take a.i).flatMap lB).map (Value.int .u8))) (fun a=>l.length-a.i) ⟨0,0,.slice none 0 0,[]⟩ ⟨rfl,aJ _,cH.nil 1⟩ (eC eK eE) ?_;rintro⟨i,z,v,O⟩ K ⟨hz,hi,hg⟩ close;simp only at hz hi hg;by_cases hlt:i<l.length
 ·obtain⟨x,hx⟩:∃x,l[i]? =some x:=⟨_,ak hlt⟩;obtain⟨bb,off,hao⟩:=h4 (by rintro rfl;simp at hlt);obtain⟨sa,sn,sc⟩:=s;simp only at h1 h2 hao;subst hao;refine bk [] 9 (decide (z<(sn:Int))) (ar (by omega)) ?_;refine bY [9] 1 bb off sn sc .i64 i z hz az (by omega) ?_;refine dB [] 1 bb (off+i*1) (.int .i64 x) az (r_ bb off sn sc hx) ?_;refine W.shr [] .i64 .u64 x 24 (x/16777216) (by decide) (by rw[show(min (24:Int).toNat IntKind.i64.bits)=24 by decide,mh _ (by decide)];rfl) ?_;refine W.shr [] .i64 .u64 x 16 (x/65536) (by decide) (by rw[show(min (16:Int).toNat IntKind.i64.bits)=16 by decide,mh _ (by decide)];rfl) ?_;refine W.shr [] .i64 .u64 x 8 (x/256) (by decide) (by rw[show(min (8:Int).toNat IntKind.i64.bits)=8 by decide,mh _ (by decide)];rfl) ?_;refine cQ [] 4 [.int .u8 (IntKind.u8.wrap (x/16777216)),.int .u8 (IntKind.u8.wrap (x/65536)),.int .u8 (IntKind.u8.wrap (x/256)),.int .u8 (IntKind.u8.wrap x)] az (fun B=>?_);refine W.app [] O [] O [] 1 1 (4*i) 4 v (.slice (some ⟨B,0,none⟩) 4 4) (((l.take i).flatMap lB).map (Value.int .u8)) [.int .u8 (IntKind.u8.wrap (x/16777216)),.int .u8 (IntKind.u8.wrap (x/65536)),.int .u8 (IntKind.u8.wrap (x/256)),.int .u8 (IntKind.u8.wrap x)] az (by simp) hg (b_ B O 4 1 rfl 4) (Kn (l:=[IntKind.u8.wrap (x/16777216),IntKind.u8.wrap (x/65536),IntKind.u8.wrap (x/256),IntKind.u8.wrap x])) (by omega) (by decide) (fun v' O' hg'=>?_)
  refine close [] _ _ ⟨i+1,IntKind.i64.wrap (z+1),v',O'⟩ (by kernel_rfl) (by simp only[aB,ah];kernel_rfl) ⟨by simp only[af];omega,by simp only;omega,cH.cast ?_ (by simp only;omega) hg'⟩ (by simp only;omega) (eC eK eE);simp only;rw[ya lB hx,aX,l9,l9,l9,l9];rfl
 ·refine aR [] 9 (decide (z<(s.n:Int))) (ai (by omega)) ?_;rw[aS (by omega)]at hg;refine lJ (by simp only[aB,ah];kernel_rfl) hg (fun ao c' hv hc'=>?_);subst hv;have hcm:c'≤maxLen:=oM hg;exact W.r [9] (.slice ao (4*i) c') ⟨⟨ao,4*i,c'⟩,rfl,rfl⟩ (fun I w _ hh=>aU (show(BF ⟨ao,4*i,c'⟩ (l.flatMap lB)).p I w from⟨by rw[Wh];simp only;omega,⟨hc',hcm⟩,Ol l,aY.p (k:=RA ao) (a:=(l.flatMap lB).map (Value.int .u8)) inferInstance hh⟩))
theorem jF(k d:Int)(u:Sl):aw tb Tryz.prog 21 [.int .u8 k,.int .u8 d,a_ u] Γ (jf (.agg #[.int .u8 k,.int .u8 d,a_ u])):=by
 refine aw.of_W az Tryz.func21 rfl ?_;exact W.r [] (.agg #[.int .u8 k,.int .u8 d,.slice u.ao u.n u.c]) ⟨rfl,rfl⟩ bR
end
theorem xc{b:Nat}(es:List dp){I:fN}{w:World}(hm:es.length≤1000)(h:(d_ b (es.flatMap c_.cells)).p I w)(hf:∀e∈es,(xu e.s e.r).p I w):(kH ⟨some ⟨b,0,none⟩,es.length,es.length⟩ (es.map dp.r)).p I w:=
 lW (v:=.int .i64 0) rfl (aj _) (by unfold maxLen;omega) (fun e he=>hf e he) (RA.of_row h fun _ _ hv=>hv)
theorem Ew(I:fN)(w:World):(kH ⟨none,0,0⟩ []).p I w:=⟨[],rfl,rfl,⟨aj _,aJ _⟩,fun e he=>by simp at he,RA.nil _ _ _⟩
theorem jG{s:Sl}{k d:Int}{b:List Int}{I:fN}{w:World}(hk:0≤k∧k<256)(hd:0≤d∧d<256)(h:(BF s b).p I w):(xu s ⟨k,d,b⟩).p I w:=⟨hk,hd,h⟩
theorem Je{g n:Nat}{I:fN}{w:World}(hn:n≤1000000)(h:(d_ g (List.replicate n (.int .u8 0))).p I w):(BF ⟨some ⟨g,0,none⟩,n,n⟩ (List.replicate n 0)).p I w:=
 ⟨by simp,⟨aj _,by simp only;unfold maxLen;omega⟩,fun z hz=>by
  obtain rfl:=List.eq_of_mem_replicate hz;decide,by
  rw[List.map_replicate];exact RA.of_row h fun _ _ hv=>hv⟩
theorem AX{b:Nat}{l:List Int}{I:fN}{w:World}(hl:l.length≤1000)(h:(d_ b (l.map (Value.int .i64))).p I w):(NL ⟨some ⟨b,0,none⟩,l.length,l.length⟩ l).p I w:=
 ⟨rfl,⟨aj _,by simp only;unfold maxLen;omega⟩,RA.of_row h fun _ _ hv=>hv⟩
def VT(s:ByteArray):List Re:=[⟨5,2,List.replicate 24 0⟩,⟨6,6,pU s⟩]
def oG(s:ByteArray)(l:List Im):Ce:=⟨VT s,l⟩
def uV(d:Dp):List Int:=[d.x,d.y]
def jz(l:List Dp):List Dp:=l++l.take 1
def ir(a k:Int)(l:List Dp):Im:=⟨[⟨8,0,[]⟩,⟨13,2,[a].flatMap sB⟩,⟨14,2,[k].flatMap sB⟩,⟨16,3,((jz l).flatMap uV).flatMap lB⟩],[]⟩
def Jc:List Re:=[⟨0,2,List.replicate 2 0⟩,⟨1,2,List.replicate 24 0⟩,⟨2,6,[108,98]⟩,⟨3,5,List.replicate 16 0⟩]
theorem yq(l:List Dp):(l.flatMap uV).map (Value.int .i64)=l.flatMap dY:=by
 induction l with
 |nil=>rfl
 |cons d l ih=>
  rw[bL,aX,ih];rfl
theorem RE{P:Program}{ops:Array Oper}{Q:Exit→Act→World→Prop}{i:Nat}{rest:List Nat}{o:Oper}{a:Act}{w w':World}(hi:ops[i]? =some o)(hg:o.guard=none)(hr:(execOp a.eval o).run P w=.ok .skip w')(hk:wpOps P ops Q rest (a.put o.dst undef) w'):wpOps P ops Q (i::rest) a w:=by
 rw[wpOps_cons];unfold wpOp;rw[hi];simp only;rw[show Region.wanted o (yielded ops a.tmps)=true from by unfold Region.wanted;rw[hg],if_pos rfl];left;unfold Oper.wp;rw[hr];exact hk
section
variable{Γ:List aC}
theorem Ee(k d:Int)(n:Nat)(hn:n≤1000):aw tb Tryz.prog 71 [.int .u8 k,.int .u8 d,.int .i64 (n:Int)] Γ (fun v Δ=>∃u:Sl,v=.agg #[.int .u8 k,.int .u8 d,a_ u]∧Δ=[BF u (List.replicate n 0)]):=by
 refine aw.of_W az Tryz.func71 rfl ?_;refine Tl [] [] 1 1 n [.int .u8 0] (List.replicate n (.int .u8 0)) .i64 .i64 az (by simp[madeCells,Nat.mod_one,List.map_const']) (by omega) (by decide) (fun g=>?_);refine Ds [] [] g (List.replicate n (.int .u8 0)) ?_;exact W.r [] (.agg #[.int .u8 k,.int .u8 d,.slice (some ⟨g,0,none⟩) n n]) ⟨⟨some ⟨g,0,none⟩,n,n⟩,rfl,rfl⟩ (fun I w _ hh=>aU (Je (by omega) hh.h0'))
theorem qN(s:ByteArray)(i:Sl){l:List Im} [h:aY (qy i) l Γ](hs:s.size≤1000000):aw tb Tryz.prog 19 [.string s,a_ i] Γ (fun v Δ=>∃u:Sl,v=lO u i∧Δ=[za u i (oG s l)]):=by
 refine aw.of_W az Tryz.func19 rfl ?_;refine Tl [] [] 1 1 24 [.int .u8 0] (List.replicate 24 (.int .u8 0)) .i64 .i64 az (by kernel_rfl) (by decide) (by decide) (fun g=>?_);refine aq [] (jF 5 2 ⟨some ⟨g,0,none⟩,24,24⟩) ?_;rintro _ _ ⟨rfl,rfl⟩;refine aq [] (GC s hs) ?_;rintro _ _ ⟨u3,rfl,rfl⟩;refine aq [] (jF 6 6 u3) ?_;rintro _ _ ⟨rfl,rfl⟩;refine cQ [] 2 [.int .u8 5,.int .u8 2,.slice (some ⟨g,0,none⟩) 24 24,.int .u8 6,.int .u8 6,a_ u3] az (fun B=>?_);refine Ds [] [] g (List.replicate 24 (.int .u8 0)) ?_;exact W.r [] (.agg #[.slice (some ⟨B,0,none⟩) 2 2,a_ i]) ⟨⟨some ⟨B,0,none⟩,2,2⟩,rfl,rfl⟩ (fun I w _ hh=>aU ⟨xc [⟨⟨some ⟨g,0,none⟩,24,24⟩,⟨5,2,List.replicate 24 0⟩⟩,⟨u3,⟨6,6,pU s⟩⟩] (by simp) (aY.p (k:=d_ B) inferInstance hh) (fun e he=>by
  simp only[aH,aI,bU]at he;rcases he with rfl|rfl
  ·exact jG (by decide) (by decide) (Je (by decide) hh.h0')
  ·exact jG (by decide) (by decide) (aY.p (k:=BF u3) inferInstance hh)),h.p (fun F hF=>hh F (by simp[hF]))⟩)
theorem XM{fn:Func}{rc:Code}{c:VS}{post:Value→List aC→Prop}{I:fN}{w w1:World}{a:Act}{ρ:Nat→Nat}(h:W tb Tryz.prog (Fin tb fn post) ⟨c,[.code rc]⟩ Γ)(hs:gW tb w ⟨I,fun _=>False,[]⟩ Γ c a w1 ρ):
  rc.wp Tryz.prog (bodyPost Tryz.prog fn fun e w'=>∃v Δ,e=.returned v∧post v Δ∧Below w.heap.size w w'∧aE Δ (fun b=>b<w.heap.size→I b) w') a w1:=by
 have:=h.sound (w0:=w) (I0:=⟨I,fun _=>False,[]⟩) (Q:=bodyPost Tryz.prog fn fun e w'=>∃v Δ,e=.returned v∧post v Δ∧Below w.heap.size w w'∧aE Δ (fun b=>b<w.heap.size→I b) w') az (fun l a w h=>h) (fun s Γ a w' ρ hfin hs=>by
  obtain⟨v,Δ,hv,hp,hd'⟩:=hfin;have hr:=zD az hs hv;have hpost:∃v' Δ',Ending.returned v=.returned v'∧post v' Δ'∧Below w.heap.size w w'∧aE Δ' (fun b=>b<w.heap.size→I b) w':=
   ⟨v,Δ,rfl,hp,hs.below.below,(hd' _ _ hs.dataOK hs.facts).up (fun b _ hI hl=>(hI.1 hl).elim id (fun h=>h.elim)) (fun _ _ _=>rfl) (aj _)⟩
  exact⟨⟨hs.defers,v,hr,hpost⟩,⟨hs.defers,v,hr,hpost⟩⟩) (fun ch _ _ h _ _=>h.elim) rfl
 rw[di rfl]at this;exact this a w1 ρ hs
def nG(b1:Nat):VS:=⟨[.ptr 0 0,.ptr 1 0,.val (.slice (some ⟨b1,0,none⟩) 2 2),.val (.slice (some ⟨b1,0,none⟩) 2 2),.val (.agg #[.int .u8 2,.int .u8 6,.slice (some ⟨b1,0,none⟩) 2 2])]++List.replicate 6 (.val undef),
 [some [.slice none 0 0,.slice none 0 0],some [.int .u8 2,.int .u8 6,.slice (some ⟨b1,0,none⟩) 2 2]]++List.replicate 9 none,[],[]⟩
theorem KI(b1:Nat){Γ:List aC} [h:aY (BF ⟨some ⟨b1,0,none⟩,2,2⟩) [108,98] Γ]:
  W tb Tryz.prog (Fin tb Tryz.f40 (fun v Δ=>∃u:Sl,v=lO u ⟨none,0,0⟩∧Δ=[kH u Jc])) ⟨nG b1,[.code (IP Tryz.f40)]⟩ Γ:=by
 refine aq [] (Ee 0 2 2 (by decide)) ?_;rintro _ _ ⟨u3,rfl,rfl⟩;refine aq [] (Ee 1 2 24 (by decide)) ?_;rintro _ _ ⟨u4,rfl,rfl⟩;refine aq [] (Ee 3 5 16 (by decide)) ?_;rintro _ _ ⟨u5,rfl,rfl⟩;refine cQ [] 4 [.int .u8 0,.int .u8 2,a_ u3,.int .u8 1,.int .u8 2,a_ u4,.int .u8 2,.int .u8 6,.slice (some ⟨b1,0,none⟩) 2 2,.int .u8 3,.int .u8 5,a_ u5] az (fun B=>?_);exact W.r [] (.agg #[.slice (some ⟨B,0,none⟩) 4 4,.slice none 0 0]) ⟨⟨some ⟨B,0,none⟩,4,4⟩,rfl,rfl⟩ (fun I w _ hh=>aU (xc [⟨u3,⟨0,2,List.replicate 2 0⟩⟩,⟨u4,⟨1,2,List.replicate 24 0⟩⟩,⟨⟨some ⟨b1,0,none⟩,2,2⟩,⟨2,6,[108,98]⟩⟩,⟨u5,⟨3,5,List.replicate 16 0⟩⟩] (by simp) (aY.p (k:=d_ B) inferInstance hh) (fun e he=>by
  simp only[aH,aI,bU]at he;rcases he with rfl|rfl|rfl|rfl
  ·exact jG (by decide) (by decide) (aY.p (k:=BF u3) inferInstance hh)
  ·exact jG (by decide) (by decide) (aY.p (k:=BF u4) inferInstance hh)
  ·exact jG (by decide) (by decide) (aY.p (k:=BF ⟨some ⟨b1,0,none⟩,2,2⟩) inferInstance hh)
  ·exact jG (by decide) (by decide) (aY.p (k:=BF u5) inferInstance hh))))
theorem WM:aw tb Tryz.prog 40 [] Γ (fun v Δ=>∃u:Sl,v=lO u ⟨none,0,0⟩∧Δ=[kH u Jc]):=by
 refine⟨⟨_,Tryz.func40,by kernel_rfl,by kernel_rfl⟩,fun I w hd hh=>?_⟩;obtain⟨w1,hw1⟩:∃w1,w1=w.alloc (.cells #[.slice none 0 0,.slice none 0 0] 25):=⟨_,rfl⟩;obtain⟨b0,hb0⟩:∃b,b=w.heap.size:=⟨_,rfl⟩;obtain⟨b1,hb1⟩:∃b,b=w1.heap.size:=⟨_,rfl⟩;obtain⟨w3,hw3⟩:∃w3,w3=w1.alloc (.cells #[.int .u8 108,.int .u8 98] 5 (2,3)):=⟨_,rfl⟩;obtain⟨b2,hb2⟩:∃b,b=w3.heap.size:=⟨_,rfl⟩;obtain⟨w4,hw4⟩:∃w4,w4=w3.alloc (.cells #[.int .u8 0,.int .u8 0,.slice none 0 0] 45):=⟨_,rfl⟩;obtain⟨w5,hw5⟩:∃w5,w5=((w4.setCell ⟨b2,0,none⟩ (.int .u8 2)).setCell ⟨b2,1,none⟩ (.int .u8 6)).setCell ⟨b2,2,none⟩ (.slice (some ⟨b1,0,none⟩) 2 2):=⟨_,rfl⟩;have hs1:w1.heap.size=w.heap.size+1:=by rw[hw1];simp
 have hs3:w3.heap.size=w.heap.size+2:=by rw[hw3,World.size_alloc,hs1]
 have hs4:w4.heap.size=w.heap.size+3:=by rw[hw4,World.size_alloc,hs3]
 have hs5:w5.heap.size=w.heap.size+3:=by rw[hw5,pB,pB,pB,hs4]
 have q0:w4.heap[b2]? =some (.cells #[.int .u8 0,.int .u8 0,.slice none 0 0] 45 (0,0)):=by rw[hw4,hb2];exact mE _ _
 have q1:=iZ (o:=0) (v:=.int .u8 2) q0;have q2:=iZ (o:=1) (v:=.int .u8 6) q1;have q3:=iZ (o:=2) (v:=.slice (some ⟨b1,0,none⟩) 2 2) q2;rw[←hw5]at q3;have old5:∀k,k≠b2→w5.heap[k]? =w4.heap[k]? :=fun k hk=>by rw[hw5,eF hk,eF hk,eF hk]
 have g1:w5.heap[b1]? =some (.cells #[.int .u8 108,.int .u8 98] 5 (2,3)):=by
  rw[old5 b1 (by omega),hw4,jj (by omega),hw3,hb1];exact mE _ _
 have g0:w5.heap[b0]? =some (.cells #[.slice none 0 0,.slice none 0 0] 25 (0,0)):=by
  rw[old5 b0 (by omega),hw4,jj (by omega),hw3,jj (by omega),hw1,hb0];exact mE _ _
 have hold:∀k,k<w.heap.size→w5.heap[k]? =w.heap[k]? :=fun k hk=>by
  rw[old5 k (by omega),hw4,jj (by omega),hw3,jj (by omega),hw1,jj hk]
 have key:=XM (I:=I) (w:=w) (w1:=w5) (a:={tmps:= #[fg b0,fg b2,.slice (some ⟨b1,0,none⟩) 2 2,.slice (some ⟨b1,0,none⟩) 2 2,.agg #[.int .u8 2,.int .u8 6,.slice (some ⟨b1,0,none⟩) 2 2],undef,undef,undef,undef,undef,undef],defers:=[]})
  (ρ:=fun t=>if t=0 then b0 else b2) (KI b1 (Γ:=BF ⟨some ⟨b1,0,none⟩,2,2⟩ [108,98]::Γ)) ?_
 ·refine calls_of_wp Tryz.func40 rfl ?_;refine wp_seq (wp_region ?_);show wpOps Tryz.prog _ _ [0] _ _;refine td (v:=fg b0) (w':=w1) rfl rfl (by rw[hb0,hw1];kernel_rfl) ?_;refine wp_seq (wp_region ?_);show wpOps Tryz.prog _ _ [0,1,2,3,4] _ _;refine td (v:=.slice (some ⟨b1,0,none⟩) 2 2) (w':=w1.alloc (.cells #[.int .u8 108,.int .u8 98] 5)) rfl rfl (by rw[hb1];kernel_rfl) ?_;refine td (v:=.slice (some ⟨b1,0,none⟩) 2 2) (w':=w3) rfl rfl (by
   have hcv:=Joins.run_convert_bytes_const_at (P:=Tryz.prog) w1 28 5 #[.int .u8 108,.int .u8 98] 2 2 b1 hb1 Tryz.underlying28 Tryz.underlying5;simp[execOp,go_sem,hcv,hw3]) ?_
  refine td (v:=.agg #[.int .u8 2,.int .u8 6,.slice (some ⟨b1,0,none⟩) 2 2]) (w':=w3) rfl rfl (by kernel_rfl) ?_;refine td (v:=fg b2) (w':=w4) rfl rfl (by rw[hb2,hw4];kernel_rfl) ?_;refine RE (w':=w5) rfl rfl (by
   have c0:=nR (o:=0) q0;have z0:=ug (o:=0) q0;have c1:=nR (o:=1) q1;have z1:=ug (o:=1) q1;have c2:=nR (o:=2) q2;have z2:=ug (o:=2) q2;rw[hw5];simp[execOp,go_sem,storeCells,c0,z0,c1,z1,c2,z2]) ?_
  refine Eq.mp ?_ key;kernel_rfl
 ·have hbx:∀t cs,(nG b1).boxes[t]? =some (some cs)→(t=0∧cs=[.slice none 0 0,.slice none 0 0])∨(t=1∧cs=[.int .u8 2,.int .u8 6,.slice (some ⟨b1,0,none⟩) 2 2]):=fun t cs ht=>by
   match t,ht with
   |0,ht=>exact .inl ⟨rfl,by injection ht with ht;injection ht with ht;exact ht.symm⟩
   |1,ht=>exact .inr ⟨rfl,by injection ht with ht;injection ht with ht;exact ht.symm⟩
   |t+2,ht=>
    exfalso
    have:(List.replicate 9 (none:Option (List Value)))[t]? =some (some cs):=ht;rw[cV]at this;split at this<;>simp at this
  refine⟨rfl,rfl,fun i sv hi=>?_,?_,fun t cs ht=>?_,fun t u cs cs' ht hu e=>?_,fun i t off hi=>?_,hd,?_,fun b cs hc=>by simp[nG]at hc,fun b cs hc=>by simp[nG]at hc,fun b cs hc=>by simp[nG]at hc,by simp[nG],fun b m hm=>by simp[nG]at hm,fun b m hm=>by simp[nG]at hm,by simp[nG]⟩
  ·match i,hi with
   |0,hi=>injection hi with hi;subst hi;rfl
   |1,hi=>injection hi with hi;subst hi;rfl
   |2,hi=>injection hi with hi;subst hi;rfl
   |3,hi=>injection hi with hi;subst hi;rfl
   |4,hi=>injection hi with hi;subst hi;rfl
   |5,hi=>injection hi with hi;subst hi;rfl
   |6,hi=>injection hi with hi;subst hi;rfl
   |7,hi=>injection hi with hi;subst hi;rfl
   |8,hi=>injection hi with hi;subst hi;rfl
   |9,hi=>injection hi with hi;subst hi;rfl
   |10,hi=>injection hi with hi;subst hi;rfl
   |i+11,hi=>exact absurd hi (by simp[nG])
  ·exact⟨by rw[hw5,hw4,hw3,hw1];rfl,by rw[hw5,hw4,hw3,hw1];rfl,by rw[hw5,hw4,hw3,hw1];rfl,by omega,fun k hk _=>hold k hk⟩
  ·rcases hbx t cs ht with⟨rfl,rfl⟩|⟨rfl,rfl⟩
   ·exact⟨by simp only[eX];omega,_,(by decide+kernel:tb.dat 25=false),g0⟩
   ·exact⟨by simp only[Nat.one_ne_zero,dW];omega,_,(by decide+kernel:tb.dat 45=false),q3⟩
  ·rcases hbx t cs ht with⟨rfl,_⟩|⟨rfl,_⟩<;>rcases hbx u cs' hu with⟨rfl,_⟩|⟨rfl,_⟩
   ·rfl
   ·simp only[eX,Nat.one_ne_zero,dW]at e;omega
   ·simp only[eX,Nat.one_ne_zero,dW]at e;omega
   ·rfl
  ·match i,hi with
   |0,hi=>injection hi with hi;injection hi with h1 h2;subst h1;exact⟨_,rfl⟩
   |1,hi=>injection hi with hi;injection hi with h1 h2;subst h1;exact⟨_,rfl⟩
   |2,hi=>simp[nG]at hi
   |3,hi=>simp[nG]at hi
   |4,hi=>simp[nG]at hi
   |i+5,hi=>
    exfalso
    have:(List.replicate 6 (SV.val undef))[i]? =some (.ptr t off):=hi;rw[cV]at this;split at this<;>simp at this
  ·have hI:∀b,(b<w.heap.size∧I b)∨b=b1→UM w ⟨I,fun _=>False,[]⟩ (fun t=>if t=0 then b0 else b2) (nG b1) b:=fun b hb=>by
    refine⟨fun hl=>.inl ?_,fun t cs ht e=>?_,fun cs hc=>by simp[nG]at hc,fun m hm=>by simp[nG]at hm⟩
    ·rcases hb with h|h
     ·exact h.2
     ·omega
    ·rcases hbx t cs ht with⟨rfl,_⟩|⟨rfl,_⟩
     ·simp only[eX]at e;rcases hb with h|h<;>omega
     ·simp only[Nat.one_ne_zero,dW]at e;rcases hb with h|h<;>omega
   refine aE.cons ⟨rfl,⟨aj _,by show 2≤maxLen;decide⟩,fun z hz=>?_,fun _=>⟨b1,0,rfl,hI b1 (.inr rfl),fun i v hv=>?_⟩⟩ (hh.up (fun b hb h=>hI b (.inl ⟨hb,h⟩)) (fun b hb _=>hold b hb) (by omega))
   ·simp only[aH,aI,bU]at hz;rcases hz with rfl|rfl<;>decide
   ·rw[cu];simp only[World.cell?,g1,k8,ij,dW];rw[←eH];exact hv
theorem Ea(c:Sl){cs:List Ce} [h:aY (lC c) cs Γ]:aw tb Tryz.prog 25 [a_ c] Γ (fun v Δ=>∃u:Sl,v=lO u c∧Δ=[B8 u c ⟨Jc,cs⟩]):=by
 refine aw.of_W az Tryz.func25 rfl ?_;refine aq [] WM ?_;rintro _ _ ⟨u,rfl,rfl⟩;exact W.r [] (.agg #[a_ u,a_ c]) ⟨u,rfl,rfl⟩ (fun I w _ hh=>aU ⟨hh.h0',h.p (fun F hF=>hh F (by simp[hF]))⟩)
end
theorem uf(l:List Dp):(l.flatMap uV).length=2*l.length:=by
 induction l with
 |nil=>rfl
 |cons d l ih=>
  rw[bL,aA,ih];simp only[uV,aD,bh];omega
theorem DG:∀{l:List Dp} {i:Nat} {x:Dp},l[i]? =some x→∀(j:Nat) (v:Value),(dY x)[j]? =some v→(l.flatMap dY)[i*2+j]? =some v
 | [],i,x,h,j,v,hv=>by simp at h
 |d::l,0,x,h,j,v,hv=>by
  simp only[fB,au]at h;subst h;rw[bL,mU,cu,dk (List.getElem?_eq_some_iff.1 hv).1];exact hv
 |d::l,i+1,x,h,j,v,hv=>by
  rw[bL,eQ (by simp;omega)];have:=DG (l:=l) (i:=i) h j v hv;rw[←this];congr 1;simp;omega
theorem zi{T:Tb}{Γ:List aC}(b off:Nat){l:List Dp} [h:aY (RA (some ⟨b,off,none⟩)) (l.flatMap dY) Γ]{i:Nat}{x:Dp}(hx:l[i]? =some x)(j:Nat){v:Value}(hv:(dY x)[j]? =some v):∀I w,br T I w→aE Γ I w→w.cell? ⟨b,off+i*2+j,none⟩=some v:=fun I w _ hh=>by
 rw[gN];exact RA.cell (h.p hh) (DG hx j v hv)
section
variable{Γ:List aC}
theorem OZ(a k:Int)(po:Option Addr)(pn pc:Nat){ps:List Dp} [h:aY (RA po) (ps.flatMap dY) Γ](hn:pn=ps.length)(hl:ps.length≤1000):
  aw tb Tryz.prog 20 [.int .i64 a,.int .i64 k,.slice po pn pc] Γ (fun v Δ=>∃u:Sl,v=lO u ⟨none,0,0⟩∧Δ=[mK u ⟨none,0,0⟩ (ir a k ps)]):=by
 refine aw.of_W az Tryz.func20 rfl ?_;refine gO [] [7,8] (fun q:Ta=>[(7,q.v),(8,.int .i64 q.z)]) (fun _=>[]) (fun q=>q.O) (fun _=>[RA po (ps.flatMap dY)]) (fun q=>q.z=(q.i:Int)∧q.i≤ps.length∧cH 1 q.O q.v (2*q.i) ((ps.take q.i).flatMap dY)) (fun q=>ps.length-q.i) ⟨0,0,.slice none 0 0,[]⟩ ⟨rfl,aJ _,cH.nil 1⟩ (eC eK eE) ?_;rintro⟨i,z,v,O⟩ K ⟨hz,hi,hg⟩ close;simp only at hz hi hg;by_cases hlt:i<ps.length
 ·obtain⟨x,hx⟩:∃x,ps[i]? =some x:=⟨_,ak hlt⟩;refine Hs po (xs:=ps.flatMap dY) (by kernel_rfl) (fun e=>by
   have:=DG hx 0 _ rfl;rw[e]at this;simp at this) ?_
  rintro b off rfl;refine bk [] 12 (decide (z<(pn:Int))) (ar (by omega)) ?_;refine bY [12] 2 b off pn pc .i64 i z hz az (by omega) ?_;refine bW [] 0 b (off+i*2) az ?_;refine dB [] 1 b (off+i*2+0) (.int .i64 x.x) az (zi b off hx 0 rfl) ?_;refine bY [] 2 b off pn pc .i64 i z hz az (by omega) ?_;refine bW [] 1 b (off+i*2) az ?_;refine dB [] 1 b (off+i*2+1) (.int .i64 x.y) az (zi b off hx 1 rfl) ?_;refine cQ [] 2 [.int .i64 x.x,.int .i64 x.y] az (fun B=>?_);refine W.app [] O [] O [] 1 8 (2*i) 2 v (.slice (some ⟨B,0,none⟩) 2 2) ((ps.take i).flatMap dY) [.int .i64 x.x,.int .i64 x.y] az (by simp) hg (b_ B O 2 1 rfl 2) (FQ (l:=[x.x,x.y])) (by omega) (by decide) (fun v' O' hg'=>?_);refine close [] _ _ ⟨i+1,IntKind.i64.wrap (z+1),v',O'⟩ (by kernel_rfl) (by simp only[aB,ah];kernel_rfl) ⟨by simp only[af];omega,by simp only;omega,cH.cast ?_ (by simp only;omega) hg'⟩ (by simp only;omega) (eC eK eE);simp only;rw[ya dY hx]
 refine aR [] 12 (decide (z<(pn:Int))) (ai (by omega)) ?_;obtain rfl:i=ps.length:=by omega
 rw[aS (aj _)]at hg;by_cases h0:0<ps.length
 ·obtain⟨x,hx⟩:∃x,ps[0]? =some x:=⟨_,ak h0⟩;have hc:jz ps=ps++[x]:=by
   unfold jz;cases ps with
   |nil=>simp at h0
   |cons d l=>
    simp only[fB,au]at hx;subst hx;rfl
  have hcl:(jz ps).length=ps.length+1:=by rw[hc];simp
  have hcd:(jz ps).flatMap dY=ps.flatMap dY++[.int .i64 x.x,.int .i64 x.y]:=by rw[hc,bB];simp
  refine Hs po (xs:=ps.flatMap dY) (by kernel_rfl) (fun e=>by
   have:=DG hx 0 _ rfl;rw[e]at this;simp at this) ?_
  rintro b off rfl;refine bk [12] 30 (decide ((pn:Int)>0)) (ar (by omega)) ?_;refine bY [30] 2 b off pn pc .i64 0 0 rfl az (by omega) ?_;refine bW [] 0 b (off+0*2) az ?_;refine dB [] 1 b (off+0*2+0) (.int .i64 x.x) az (zi b off hx 0 rfl) ?_;refine bY [] 2 b off pn pc .i64 0 0 rfl az (by omega) ?_;refine bW [] 1 b (off+0*2) az ?_;refine dB [] 1 b (off+0*2+1) (.int .i64 x.y) az (zi b off hx 1 rfl) ?_;refine cQ [] 2 [.int .i64 x.x,.int .i64 x.y] az (fun B0=>?_);refine W.app [] O [] O [] 1 8 (2*ps.length) 2 v (.slice (some ⟨B0,0,none⟩) 2 2) (ps.flatMap dY) [.int .i64 x.x,.int .i64 x.y] az (by simp) hg (b_ B0 O 2 1 rfl 2) (FQ (l:=[x.x,x.y])) (by omega) (by decide) (fun v' O' hg'=>?_);have hg2:=hg';refine lJ (by simp only[aB,ah];kernel_rfl) hg2 (fun ao c' hv hc'=>?_);subst hv;have hcm:c'≤maxLen:=oM hg2;refine aq [] (jF 8 0 ⟨none,0,0⟩) ?_;rintro _ _ ⟨rfl,rfl⟩;refine cQ [] 1 [.int .i64 a] az (fun b15=>?_);refine gX [] (Γ':=[NL ⟨some ⟨b15,0,none⟩,1,1⟩ [a]]) (fun I w _ hh=>aU (AX (l:=[a]) (by simp) hh.h0')) (rB ⟨some ⟨b15,0,none⟩,1,1⟩ (l:=[a]) (by simp)) ?_;rintro _ _ ⟨u16,rfl,rfl⟩;refine aq [] (jF 13 2 u16) ?_;rintro _ _ ⟨rfl,rfl⟩;refine cQ [] 1 [.int .i64 k] az (fun b18=>?_);refine gX [] (Γ':=[NL ⟨some ⟨b18,0,none⟩,1,1⟩ [k]]) (fun I w _ hh=>aU (AX (l:=[k]) (by simp) hh.h0')) (rB ⟨some ⟨b18,0,none⟩,1,1⟩ (l:=[k]) (by simp)) ?_
  rintro _ _ ⟨u19,rfl,rfl⟩;refine aq [] (jF 14 2 u19) ?_;rintro _ _ ⟨rfl,rfl⟩;refine gX [] (Γ':=[NL ⟨ao,(2*ps.length+2),c'⟩ ((jz ps).flatMap uV)]) (fun I w _ hh=>aU ⟨by have e:=uf (jz ps);rw[hcl]at e;simp only;omega,⟨hc',hcm⟩,by rw[yq,hcd];exact aY.p (k:=RA ao) inferInstance hh⟩) (xT ⟨ao,(2*ps.length+2),c'⟩ (l:=(jz ps).flatMap uV) (by rw[uf,hcl];omega)) ?_;rintro _ _ ⟨u21,rfl,rfl⟩;refine aq [] (jF 16 3 u21) ?_;rintro _ _ ⟨rfl,rfl⟩;refine cQ [] 4 [.int .u8 8,.int .u8 0,.slice none 0 0,.int .u8 13,.int .u8 2,a_ u16,.int .u8 14,.int .u8 2,a_ u19,.int .u8 16,.int .u8 3,a_ u21] az (fun B=>?_);exact W.r [] (.agg #[.slice (some ⟨B,0,none⟩) 4 4,.slice none 0 0]) ⟨⟨some ⟨B,0,none⟩,4,4⟩,rfl,rfl⟩ (fun I w _ hh=>aU ⟨xc [⟨⟨none,0,0⟩,⟨8,0,[]⟩⟩,⟨u16,⟨13,2,[a].flatMap sB⟩⟩,⟨u19,⟨14,2,[k].flatMap sB⟩⟩,⟨u21,⟨16,3,((jz ps).flatMap uV).flatMap lB⟩⟩] (by simp) (aY.p (k:=d_ B) inferInstance hh) (fun e he=>by
   simp only[aH,aI,bU]at he;rcases he with rfl|rfl|rfl|rfl
   ·exact jG (by decide) (by decide) (sQ _ _ _)
   ·exact jG (by decide) (by decide) (aY.p (k:=BF u16) inferInstance hh)
   ·exact jG (by decide) (by decide) (aY.p (k:=BF u19) inferInstance hh)
   ·exact jG (by decide) (by decide) (aY.p (k:=BF u21) inferInstance hh)),Ew _ _⟩)
 ·have hps:ps=[]:=aM (by omega);have hcl:(jz ps).length=ps.length:=by rw[hps];rfl
  have hcd:(jz ps).flatMap dY=ps.flatMap dY:=by rw[hps];rfl
  refine aR [12] 30 (decide ((pn:Int)>0)) (ai (by omega)) ?_;have hg2:=hg;refine lJ (by simp only[aB,ah];kernel_rfl) hg2 (fun ao c' hv hc'=>?_);subst hv;have hcm:c'≤maxLen:=oM hg2;refine aq [30] (jF 8 0 ⟨none,0,0⟩) ?_;rintro _ _ ⟨rfl,rfl⟩;refine cQ [] 1 [.int .i64 a] az (fun b15=>?_);refine gX [] (Γ':=[NL ⟨some ⟨b15,0,none⟩,1,1⟩ [a]]) (fun I w _ hh=>aU (AX (l:=[a]) (by simp) hh.h0')) (rB ⟨some ⟨b15,0,none⟩,1,1⟩ (l:=[a]) (by simp)) ?_;rintro _ _ ⟨u16,rfl,rfl⟩;refine aq [] (jF 13 2 u16) ?_;rintro _ _ ⟨rfl,rfl⟩;refine cQ [] 1 [.int .i64 k] az (fun b18=>?_);refine gX [] (Γ':=[NL ⟨some ⟨b18,0,none⟩,1,1⟩ [k]]) (fun I w _ hh=>aU (AX (l:=[k]) (by simp) hh.h0')) (rB ⟨some ⟨b18,0,none⟩,1,1⟩ (l:=[k]) (by simp)) ?_;rintro _ _ ⟨u19,rfl,rfl⟩;refine aq [] (jF 14 2 u19) ?_;rintro _ _ ⟨rfl,rfl⟩;refine gX [] (Γ':=[NL ⟨ao,(2*ps.length),c'⟩ ((jz ps).flatMap uV)]) (fun I w _ hh=>aU ⟨by have e:=uf (jz ps);rw[hcl]at e;simp only;omega,⟨hc',hcm⟩,by rw[yq,hcd];exact aY.p (k:=RA ao) inferInstance hh⟩) (xT ⟨ao,(2*ps.length),c'⟩ (l:=(jz ps).flatMap uV) (by rw[uf,hcl];omega)) ?_;rintro _ _ ⟨u21,rfl,rfl⟩;refine aq [] (jF 16 3 u21) ?_;rintro _ _ ⟨rfl,rfl⟩;refine cQ [] 4 [.int .u8 8,.int .u8 0,.slice none 0 0,.int .u8 13,.int .u8 2,a_ u16,.int .u8 14,.int .u8 2,a_ u19,.int .u8 16,.int .u8 3,a_ u21] az (fun B=>?_)
  exact W.r [] (.agg #[.slice (some ⟨B,0,none⟩) 4 4,.slice none 0 0]) ⟨⟨some ⟨B,0,none⟩,4,4⟩,rfl,rfl⟩ (fun I w _ hh=>aU ⟨xc [⟨⟨none,0,0⟩,⟨8,0,[]⟩⟩,⟨u16,⟨13,2,[a].flatMap sB⟩⟩,⟨u19,⟨14,2,[k].flatMap sB⟩⟩,⟨u21,⟨16,3,((jz ps).flatMap uV).flatMap lB⟩⟩] (by simp) (aY.p (k:=d_ B) inferInstance hh) (fun e he=>by
   simp only[aH,aI,bU]at he;rcases he with rfl|rfl|rfl|rfl
   ·exact jG (by decide) (by decide) (sQ _ _ _)
   ·exact jG (by decide) (by decide) (aY.p (k:=BF u16) inferInstance hh)
   ·exact jG (by decide) (by decide) (aY.p (k:=BF u19) inferInstance hh)
   ·exact jG (by decide) (by decide) (aY.p (k:=BF u21) inferInstance hh)),Ew _ _⟩)
end
def Mc:ByteArray:=⟨#[97]⟩
def yJ:ByteArray:=⟨#[116,111,112]⟩
def jI:Im:=⟨[⟨10,0,[]⟩,⟨18,6,pU Mc⟩,⟨26,1,[0,0]⟩,⟨28,5,[66,90,0,0,0,0,0,0]⟩,⟨16,3,[100,0].flatMap lB⟩],[]⟩
def kj:Li:=⟨Jc,[oG Mc [ir 1 0 [⟨0,0⟩,⟨10,0⟩,⟨10,10⟩,⟨0,10⟩]],oG yJ [jI]]⟩
theorem FW:nk kj=true:=by decide+kernel
theorem Ij:lost kj.c=false:=by decide+kernel
theorem AI:dep kj.c 64 0=some 1:=by decide+kernel
theorem AJ:dep kj.c 64 1=some 2:=by decide+kernel
theorem Ii:Ap kj.c=false:=by decide+kernel
theorem FV:ve kj.c=1:=by decide+kernel
def ki:List Dp:=[⟨100,0⟩,⟨100,10⟩,⟨90,10⟩,⟨90,0⟩]
theorem Ll:Lm kj.c=.ok [⟨1,0,ki⟩]:=by kernel_rfl
theorem mC(n:Int)(h0:0≤n)(h1:n≤100000):pI kj n=if 1>n then .error 27 else .ok [⟨1,0,ki⟩]:=by
 have hl:kj.c.length=2:=rfl;unfold pI;rw[if_neg (by omega),if_neg (by rw[FW];simp)];unfold pJ;rw[Ij,if_neg (by simp),if_neg (by
  rintro⟨c,hc,h⟩;rw[hl]at hc;have:c=0∨c=1:=by omega
  rcases this with rfl|rfl
  ·exact h 1 ⟨64,AI⟩
  ·exact h 2 ⟨64,AJ⟩),if_neg (by
  rintro(h|⟨c,hc,h⟩)
  ·rw[Ii]at h;simp at h
  ·rw[hl]at hc;have:c=0∨c=1:=by omega
   rcases this with rfl|rfl
   ·rw[AI]at h;simp at h
   ·rw[AJ]at h;simp at h),FV,Ll]
end Go.Proofs.YtgaaopjagcaojaaGreat
