import Derived.Test.YtgaaopjagcaojaaGreatVk
import Derived.Test.YtgaaopjagcaojaaGreatMj
set_option linter.unusedSimpArgs false
set_option linter.unusedVariables false
set_option maxHeartbeats 8000000
namespace Go.Proofs.YtgaaopjagcaojaaGreat
open Go.RowKit
def VS.setMaps(s:VS)(M:List (Nat×List (Value×Value))):VS:=⟨s.tmps,s.boxes,s.own,M⟩
section
variable{T:Tb}{P:Program}{fin:VS→List aE→Prop}{c:fM}{Γ:List aE}
theorem Fa(D:List Nat){α:Type}(N:List Nat)(V:α→List (Nat×Value))(X:α→List (Nat×List Value))(O:α→List (Nat×List Value))(Q:α→List (Nat×List (Value×Value)))(G:α→List aE)(inv:α→Prop)(μ:α→Nat)(a0:α)
  
  
  (i0:inv a0)(f0:∀I w,bB T I w→aG Γ I w→aG (G a0) I w)
  (hr:∀(a:α) (R:VS→List aE→Prop),inv a→
   (∀(D':List Nat) (c':fM) (Γ':List aE) (a':α),qz (aJ T (bh T D' 999 c'))=some R→
    (qA (aJ T (bh T D' 999 c'))).map (jz (aJ T (bh T D 999 c)) N)=some (((((jz (aJ T (bh T D 999 c)) N (nD (aJ T (bh T D 999 c)))).puts (V a')).boxs (X a')).setOwn (O a')).setMaps (Q a'))→
    inv a'→μ a'<μ a→(∀I w,bB T I w→aG Γ' I w→aG (G a') I w)→W T P fin c' Γ')→
   W T P fin ⟨((((jz (aJ T (bh T D 999 c)) N (nD (aJ T (bh T D 999 c)))).puts (V a)).boxs (X a)).setOwn (O a)).setMaps (Q a),.code (vS (aJ T (bh T D 999 c)))::.again R::Gj (aJ T (bh T D 999 c))⟩ (G a))(h:qF (aJ T (bh T D 999 c))=true:=by kernel_rfl)(h0:jz (aJ T (bh T D 999 c)) N (nD (aJ T (bh T D 999 c)))=((((jz (aJ T (bh T D 999 c)) N (nD (aJ T (bh T D 999 c)))).puts (V a0)).boxs (X a0)).setOwn (O a0)).setMaps (Q a0):=by kernel_rfl):W T P fin c Γ:=by
 refine eF D 999 ?_;generalize bh T D 999 c=c1 at*;generalize he:aJ T c1=e at*;cases e with
 |loop b c'=>
  generalize hst:jz (Ev.loop b c') N (nD (Ev.loop b c'))=S at*;have key:∀(m:Nat) (s:VS) (Γ':List aE),(∃a,jz (Ev.loop b c') N s=(((S.puts (V a)).boxs (X a)).setOwn (O a)).setMaps (Q a)∧inv a∧μ a=m∧∀I w,bB T I w→aG Γ' I w→aG (G a) I w)→
    W T P fin ⟨s,.code b::.again (fun s' Γ'=>∃m',m'<m∧∃a,jz (Ev.loop b c') N s'=(((S.puts (V a)).boxs (X a)).setOwn (O a)).setMaps (Q a)∧inv a∧μ a=m'∧∀I w,bB T I w→aG Γ' I w→aG (G a) I w)::c'.k⟩ Γ':=by
   rintro m s Γ' ⟨a,hs,hi,rfl,hf⟩;refine W.forget (jW N (km b)) (jt b) rfl ?_;rw[show s.forget (jW N (km b)) (jt b)=(((S.puts (V a)).boxs (X a)).setOwn (O a)).setMaps (Q a)from hs];refine W.sub rfl hf ?_;refine hr a _ hi (fun D' c' Γ' a' hR hS hi' hl' hf'=>?_);refine eF D' 999 ?_;generalize bh T D' 999 c'=c2 at*;cases hv:aJ T c2<;>rw[hv]at hR hS<;>simp[qz,qA]at hR hS;subst hR;exact W.again hv ⟨μ a',hl',a',hS,hi',rfl,hf'⟩
  refine W.loop (fun m s Γ'=>∃a,jz (Ev.loop b c') N s=(((S.puts (V a)).boxs (X a)).setOwn (O a)).setMaps (Q a)∧inv a∧μ a=m∧∀I w,bB T I w→aG Γ' I w→aG (G a) I w) (μ a0) he ⟨a0,?_,i0,rfl,f0⟩ key;rw[←h0];exact hst
 |_=>simp[qF]at h
end
open Go.RowKit Go.IntWalk
theorem Dm{α:Type}{f:α→LR}{l:List α}{j:Nat}{a:α}(h:l[j]? =some a):gl f (l.drop j)=match f a with
  | .error e=>.error e
  | .ok s=>match gl f (l.drop (j+1))with
   | .error e=>.error e
   | .ok s'=>.ok (s++s'):=by
 obtain⟨h1,h2⟩:=List.getElem?_eq_some_iff.1 h;rw[bI h1,h2];rfl
def B_{α:Type}(f:α→LR)(l:List α)(R:LR)(j:Nat)(E:List qK):Prop:=R=match gl f (l.drop j)with
  | .error e=>.error e
  | .ok s=>.ok (E.map qK.x++s)
theorem rB{α:Type}(f:α→LR)(l:List α):B_ f l (gl f l) 0 []:=by
 unfold B_;rw[ir];cases gl f l<;>rfl
theorem B_.step{α:Type}{f:α→LR}{l:List α}{R:LR}{j:Nat}{E es:List qK}{a:α}{s:List Sh}(h:B_ f l R j E)(ha:l[j]? =some a)(hf:f a=.ok s)(he:es.map qK.x=s):B_ f l R (j+1) (E++es):=by
 unfold B_ at h⊢;rw[h,Dm ha,hf];cases gl f (l.drop (j+1))with
 |error e=>rfl
 |ok s'=>simp only[aX,he,aU]
theorem B_.err{α:Type}{f:α→LR}{l:List α}{R:LR}{j:Nat}{E:List qK}{a:α}{e:Int}(h:B_ f l R j E)(ha:l[j]? =some a)(hf:f a=.error e):R=.error e:=by
 unfold B_ at h;rw[h,Dm ha,hf]
theorem B_.fin{α:Type}{f:α→LR}{l:List α}{R:LR}{j:Nat}{E:List qK}(h:B_ f l R j E)(hj:l.length≤j):R=.ok (E.map qK.x):=by
 unfold B_ at h;rw[h,bu hj];simp[gl]
theorem xE{α:Type}{f:α→LR}{w:α→Int}:∀{l:List α} {s:List Sh},(∀a∈l,∀s,f a=.ok s→(s.length:Int)≤w a)→gl f l=.ok s→(s.length:Int)≤(l.map w).sum
 | [],s,_,h=>by
  simp only[gl,oE]at h;subst h;simp
 |a::l,s,hw,h=>by
  unfold gl at h;cases hf:f a with
  |error e=>rw[hf]at h;simp at h
  |ok s1=>
   rw[hf]at h;cases hs:gl f l with
   |error e=>rw[hs]at h;simp at h
   |ok s2=>
    rw[hs]at h;simp only[oE]at h;subst h;have h1:=hw a (by simp) s1 hf;have h2:=xE (fun b hb=>hw b (by simp[hb])) hs;simp only[az,b_,fA];omega
theorem oP{α:Type}(w:Int):∀l:List α,(l.map fun _=>w).sum=(l.length:Int)*w
 | []=>by simp
 |a::l=>by
  simp only[b_,fA,aF,oP w l];rw[Int.natCast_add,Int.add_mul];omega
theorem uR{x:Im}{l:List (Sn×Sn)}{s:List Sh}(h:fy x l=.ok s):s.length=1:=by
 unfold fy at h;split at h
 ·injection h with h;subst h;rfl
 ·simp at h
theorem zu.item_len{t:List Ce}(hD:zu t){n:Nat}{g:Nat→On→LR}(hg:∀c V s,g c V=.ok s→(s.length:Int)≤jF t n c){x:Im}(hr:gU x=true){V:On}{s:List Sh}(h:iW t n g V x=.ok s):(s.length:Int)≤jd t (jF t n) x:=by
 unfold iW at h;unfold jd;by_cases h8:cC x=8∨cC x=45
 ·rw[if_pos h8]at h⊢;rw[uR h];omega
 ·rw[if_neg h8]at h⊢;by_cases h9:cC x=9
  ·rw[if_pos h9]at h⊢;split at h
   ·split at h
    ·rename_i hp;injection h with h;subst h;simp[hp]
    ·rename_i hp;rw[if_neg hp,uR h];omega
   ·split at h<;>simp at h
  ·rw[if_neg h9]at h⊢;by_cases hk:cC x=10∨cC x=11
   ·rw[if_pos hk]at h⊢;obtain⟨_,h1,h2,_⟩:=oL hr hk;unfold mY at h;cases hkn:mu t x with
    |none=>
     rw[hkn]at h;injection h with h;subst h;simp
    |some c=>
     rw[hkn]at h;simp only at h⊢;split at h
     ·rename_i h0;injection h with h;subst h;rw[h0];simp
     ·have key:=xE (w:=fun _:Nat=>((aT x).1.toNat:Int)*jF t n c) (fun a _ s' hs'=>by
       have:=xE (w:=fun _:Nat=>jF t n c) (fun b _ s'' hs''=>hg _ _ _ hs'') hs';rw[oP,dX]at this;exact this) h
      rw[oP,dX]at key;rw[nN (qi h1),nN (qi h2)]at key;have e:(aT x).2*((aT x).1*jF t n c)=jF t n c*(aT x).1*(aT x).2:=by
       rw[iq (aT x).1,iq (aT x).2]
      omega
   ·rw[if_neg hk]at h⊢;injection h with h;subst h;simp
theorem zu.lay_len{t:List Ce}(hD:zu t):∀(n c:Nat) (V:On) (s:List Sh),fH t n c V=.ok s→(s.length:Int)≤jF t n c
 |0,c,V,s,h=>by
  simp only[fH,oE]at h;subst h;simp[jF]
 |n+1,c,V,s,h=>by
  unfold fH at h;unfold jF;refine xE (fun x hx s' hs'=>?_) h;obtain⟨c',hc',hx'⟩:=x7 hx;exact hD.item_len (hD.lay_len n) (hD.right c' hc' x hx') hs'
theorem ui{α:Type}{f:α→LR}{A:Int→Prop}:∀{l:List α} {e:Int},(∀a∈l,∀e,f a=.error e→A e)→gl f l=.error e→A e
 | [],e,_,h=>by simp[gl]at h
 |a::l,e,hw,h=>by
  unfold gl at h;cases hf:f a with
  |error e'=>
   rw[hf]at h;injection h with h;subst h;exact hw a (by simp) e' hf
  |ok s1=>
   rw[hf]at h;cases hs:gl f l with
   |error e'=>
    rw[hs]at h;injection h with h;subst h;exact ui (fun b hb=>hw b (by simp[hb])) hs
   |ok s2=>rw[hs]at h;simp at h
theorem uH:∀{l:List (Sn×Sn)} {e:Int},iZ l=.error e→e=26
 | [],e,h=>by simp[iZ]at h
 |p::r,e,h=>by
  unfold iZ at h;split at h
  ·cases hg:iZ r with
   |ok l=>rw[hg]at h;simp at h
   |error e'=>
    rw[hg]at h;injection h with h;subst h;exact uH hg
  ·injection h with h;exact h.symm
theorem Dn{x:Im}{l:List (Sn×Sn)}{e:Int}(h:fy x l=.error e):e=26:=by
 unfold fy at h;cases hg:iZ l with
 |ok p=>rw[hg]at h;simp at h
 |error e'=>
  rw[hg]at h;injection h with h;subst h;exact uH hg
theorem qX{t:List Ce}{n:Nat}{g:Nat→On→LR}(hg:∀c V e,g c V=.error e→e=25∨e=26){x:Im}{V:On}{e:Int}(h:iW t n g V x=.error e):e=25∨e=26:=by
 unfold iW at h;split at h
 ·exact .inr (Dn h)
 ·split at h
  ·split at h
   ·split at h
    ·simp at h
    ·exact .inr (Dn h)
   ·cases hq:iZ (uZ V (ji x)).1 with
    |ok p=>
     rw[hq]at h;injection h with h;exact .inl h.symm
    |error e'=>
     rw[hq]at h;injection h with h;subst h;exact .inr (uH hq)
  ·split at h
   ·unfold mY at h;split at h
    ·simp at h
    ·split at h
     ·simp at h
     ·exact ui (A:=fun e=>e=25∨e=26) (fun a _ e' he=>ui (A:=fun e=>e=25∨e=26) (fun b _ e'' he'=>hg _ _ _ he') he) h
   ·simp at h
theorem oA{t:List Ce}:∀(n c:Nat) (V:On) (e:Int),fH t n c V=.error e→e=25∨e=26
 |0,c,V,e,h=>by simp[fH]at h
 |n+1,c,V,e,h=>by
  unfold fH at h;exact ui (A:=fun e=>e=25∨e=26) (fun x _ e' he=>qX (oA n) he) h
def LyX(t:List Ce)(most:Int)(r:LR)(FB:Value→List (Nat×List Value))(b1 b2:Nat×List (Value×Value))(cn:Nat)(es:List qK)(v:Value)(O:List (Nat×List Value))(M:List (Nat×List (Value×Value)))(Δ:List aE):Prop:=
 ∃cm:List (Int×Int),we t most cm∧M=[b1,b2,(cn,bM dA (cf cm))]∧DF r FB es v O Δ
structure Mi where
 j:Nat
 z:Int
 cm:List (Int×Int)
 s:Sl
 O:List (Nat×List Value)
 E:List qK
abbrev XM(n:Sl)(a:Bool)(m:Sl)(b:Bool):List Value:=[.slice n.ao n.n n.c,.bool a,.slice m.ao m.n m.c,.bool b]
abbrev otc(V:On)(x:Q5):List Value:=[.bool V.f,.int .i64 V.o]++XM x.g.n x.g.a x.g.m x.g.b++XM x.a.n x.a.a x.a.m x.a.b++XM x.b.n x.b.a x.b.m x.b.b++XM x.c.n x.c.a x.c.m x.c.b++XM x.d.n x.d.a x.d.m x.d.b
def QI(fb bn cn dn:Nat)(ca:Option Addr)(cl cc:Nat)(most:Int)(dm:List (Value×Value))(t:List Ce)(n:Nat):Prop:=
 ∀(Γ:List aE) [aZ (pE ⟨ca,cl,cc⟩) t Γ] (c:Int) (i d:Nat),c=i→i<t.length→dep t n i=some d→∀(V:On) (bx:Q5) (Lb e:Nat) [aZ (OF bx) (Lb,V) Γ],(0≤V.o∧V.o≤7)→Lb≤10000→sw e V→e≤45*SA t d→
  ∀cm:List (Int×Int),we t most cm→∀(s0:Sl) (O:List (Nat×List Value)) (es:List qK) [aZ (ru oR (bz s0)) es Γ],cG 3 O (bz s0) es.length (es.flatMap oR.cells)→(es.length:Int)+jF t 64 i≤100000→
  dC Kt Tryz.prog 48 [fp fb,.int .i64 c,Hx V bx] (FO fb ⟨ca,cl,cc⟩ bn cn dn most (bz s0)++O) [(bn,bM dT (cf (cw t))),(dn,dm),(cn,bM dA (cf cm))] Γ
   (LyX t most (fH t 64 i V) (fun v=>FO fb ⟨ca,cl,cc⟩ bn cn dn most v) (bn,bM dT (cf (cw t))) (dn,dm) cn es)
def rfU(fb zm sS b16:Nat)(k:Int)(f:Bool)(o rows:Int):Mi→List (Nat×SV):=fun a=>[(0,.val (fp fb)),(5,.ptr 5 0),(9,.val (.int .i64 k)),(10,.val (fp zm)),(12,.val (.bool f)),(13,.ptr 13 0),(14,.val (.int .i64 o)),
 (17,.val (.func (.func 153) #[] #[fp b16,fp zm,fp sS])),(53,.val (.int .i64 rows)),(6,.val (.int .i64 0)),(54,.val (.int .i64 a.z))]
def rfX(V:On)(bx:Q5)(n:Sl)(a:Bool)(m:Sl)(b:Bool):Mi→List (Nat×List Value):=fun _=>[(5,otc V bx),(13,XM n a m b)]
theorem K_{j q rows eH c N:Nat}(hj:j<rows)(hq:q<eH)(h:N≤(j*eH+q)*c):N+c≤(j*eH+(q+1))*c∧(j*eH+(q+1))*c≤rows*eH*c:=by
 have h1:(j*eH+(q+1))*c=(j*eH+q)*c+c:=by rw[←ij,ed,la]
 have h2:(j+1)*eH≤rows*eH:=bZ _ hj;rw[ed,la]at h2;exact⟨by omega,bZ _ (by omega)⟩
section
theorem J7(fb bn cn dn:Nat)(ca:Option Addr)(cl cc:Nat)(most:Int)(dm:List (Value×Value)){t:List Ce}(hF:SN t)(hD:zu t)(hmost:0≤most∧most≤100000)(hW:zr t≤160)(n:Nat)(ih:QI fb bn cn dn ca cl cc most dm t n)
  (Γ:List aE) [aZ (pE ⟨ca,cl,cc⟩) t Γ](xf xp:Sl){x:Im} [aZ (mr xf xp) x Γ]{i d:Nat}{cx:Ce}(hcx:t[i]? =some cx)(hxm:x∈cx.i)(hk:cC x=10∨cC x=11)(sM:dep t (n+1) i=some d)
  (V:On)(bx:Q5)(Lb e:Nat) [aZ (OF bx) (Lb,V) Γ](ho:0≤V.o∧V.o≤7)(hLb:Lb≤10000)(Qt:sw e V)(heb:e≤45*SA t d)(cm:List (Int×Int))(hcm:we t most cm)(s0:Sl)(O:List (Nat×List Value))(es:List qK) [aZ (ru oR (bz s0)) es Γ]
  (hg:cG 3 O (bz s0) es.length (es.flatMap oR.cells))(Rp:(es.length:Int)+jd t (jF t 64) x≤100000):
  dC Kt Tryz.prog 90 [fp fb,mq xf xp,Hx V bx] (FO fb ⟨ca,cl,cc⟩ bn cn dn most (bz s0)++O) [(bn,bM dT (cf (cw t))),(dn,dm),(cn,bM dA (cf cm))] Γ
   (LyX t most (mY t 64 (fH t 64) x V) (fun v=>FO fb ⟨ca,cl,cc⟩ bn cn dn most v) (bn,bM dT (cf (cw t))) (dn,dm) cn es):=by
 have hce:=aO hcx;have TN:=hF.ok cx hce x hxm;have Lh:=TN.im;have hxr:=hD.right cx hce x hxm;have hxb:=hF.by' cx hce x hxm;obtain⟨F0,hg1,hg2,TI⟩:=oL hxr hk;obtain⟨abW,abX⟩:=wM hxb;obtain⟨iP,ab4⟩:=I5 F0;obtain⟨s,hs⟩:=TN.ref hk;obtain⟨k,hkn,Zc,hkm⟩:=hD.kid hcx hxm hs;have XC:=wX hkm;have hc0:=hD.cnt_nn 64 k;have hil:i<t.length:=(List.getElem?_eq_some_iff.1 hcx).1;obtain⟨d',hkd,hdd⟩:∃d',dep t n k=some d'∧d'<d:=by
  unfold dep at sM;cases hq:js (dep t n) (fB t i) 0 with
  |none=>rw[hq]at sM;simp at sM
  |some r=>
   rw[hq]at sM;simp only[dq,aq]at sM;obtain⟨e',he,hle⟩:=(lU hq).2 k hkm;exact⟨e',he,by omega⟩
 have hup:=P_ hil ⟨n+1,sM⟩ hdd;have ack:SA t d'≤160:=aP P9 hW;have hwx:wI x≤wC t i:=aal (by rw[tJ hcx];exact hxm);have TC:jd t (jF t 64) x=jF t 64 k*(aT x).1*(aT x).2:=by
  unfold jd;have h1:¬(cC x=8∨cC x=45):=by omega
  have h2:¬cC x=9:=by omega
  rw[if_neg h1,if_neg h2,if_pos hk,hkn]
 obtain⟨R,hR⟩:∃R,mY t 64 (fH t 64) x V=R:=⟨_,rfl⟩;have hR2:=hR;unfold mY at hR2;rw[hkn]at hR2;simp only at hR2;rw[hR];have pn:∀(Γ':List aE) [aZ (mr xf xp) x Γ'],au tb Tryz.prog 79 [mq xf xp] Γ' (jv (.tuple #[.string (strOfNums s),.bool true])):=fun Γ' _=>by
  have:=xg (Γ:=Γ') xf xp Lh;rw[hs]at this;exact this
 refine dC.of_W bK Tryz.func90 rfl ?_;refine aj [] (pn _).mF ?_;rintro _ _ ⟨rfl,rfl⟩;refine cr [] 1 fb 0 bK ?_;refine dQ [] (FO fb ⟨ca,cl,cc⟩ bn cn dn most (bz s0)++O) fb (0+1) 1 [.slice ca cl cc,.map (some bn),.map (some cn),.map (some dn),.int .i64 most,bz s0] (.map (some bn)) bK (.head _) rfl ?_;refine ve [] dT 69 9 3 false (FO fb ⟨ca,cl,cc⟩ bn cn dn most (bz s0)++O) [(bn,bM dT (cf (cw t))),(dn,dm),(cn,bM dA (cf cm))] bn (strOfNums s) (cf (cw t)) (.int .i64 0) bK (.head _) ?_;rw[Bd Zc];obtain⟨d64,abN⟩:=hD.deep k XC;refine c_ [] [] (FO fb ⟨ca,cl,cc⟩ bn cn dn most (bz s0)) O [] [(bn,bM dT (cf (cw t))),(dn,dm),(cn,bM dA (cf cm))] [] ⟨rfl,by rfl,trivial⟩ (JX fb bn cn dn ca cl cc most (bz s0) dm hF hD hmost 64 _ (k:Int) k rfl XC ⟨d64,abN⟩ cm hcm) ?_;rintro _ _ _ _ ⟨cm2,hcm2,rfl,rfl,rfl,rfl⟩;by_cases h0:jF t 64 k=0
 ·rw[if_pos h0]at hR2;refine bD [] 37 (min (jF t 64 k) (most+1)==0) (by rw[h0,Int.min_eq_left (by omega)];rfl) ?_;exact j1 [37] (.int .i64 0) (FO fb ⟨ca,cl,cc⟩ bn cn dn most (bz s0)++O) [(bn,bM dT (cf (cw t))),(dn,dm),(cn,bM dA (cf cm2))] ⟨cm2,hcm2,rfl,s0,O,[],fun q hq=>by rw[←hR2]at hq;injection hq,by rw[←hR2];rfl,rfl,by rw[af];exact hg,rfl⟩ (eC (by rw[af];exact eK) eE)
 rw[if_neg h0]at hR2;refine aS [] 37 (min (jF t 64 k) (most+1)==0) (by rw[fE];omega) ?_;refine aj [37] (tR xf xp (x:=x) Lh).mF ?_;rintro _ _ ⟨rfl,rfl⟩;refine aj [] (xk xf xp (x:=x) Lh).mF ?_;rintro _ _ (⟨hb,n',a',m',b',rfl,rfl⟩|⟨hb,qn,qa,qm,qb,rfl,rfl⟩)
 ·rw[iP]at hb;simp at hb
 refine aj [] (oJ xf xp (x:=x) Lh).mF ?_;rintro _ _ ⟨u,⟨u1,u2,u3⟩,rfl,rfl⟩;obtain⟨eH,CT⟩:∃c:Nat,(aT x).1=c:=⟨(aT x).1.toNat,by omega⟩;obtain⟨rows,CU⟩:∃c:Nat,(aT x).2=c:=⟨(aT x).2.toNat,by omega⟩;obtain⟨C,hC⟩:∃C:Nat,jF t 64 k=C:=⟨(jF t 64 k).toNat,by omega⟩;have hown:∀{a b:Int},0≤a∧a<(aT x).1→0≤b∧b<(aT x).2→∃e,sw e (lz x a b)∧e+4≤45*wI x:=fun ha hb=>OE TN hxb hk hg1 hg2 ha hb;have Zl:∀a b:Int,lz x a b=⟨oY x,gH x,jK x,oC Dp.x (a_ x) eH rows a b,0,oC Dp.y (a_ x) eH rows a b,0⟩:=fun a b=>by unfold lz;rw[CT,CU]
 have Le:=uM hxb;rw[CT,CU]at hown;rw[CT,CU,hC]at TC;rw[CT,CU,gB,gB]at hR2;rw[CT]at hg1 abW;rw[CU]at hg2 abX;rw[CT,CU];have hbig:es.length+rows*eH*C≤100000:=by
  rw[TC]at Rp;have e1:(C:Int)*eH*rows=((rows*eH*C:Nat):Int):=by
   rw[dp,dp,iq (C:Int),iq ((eH:Int)*C),←Int.mul_assoc]
  rw[e1]at Rp;omega
 refine W.revp 10 [.int .i64 (eH:Int)] (fun zm=>?_);refine W.revp 11 [.int .i64 (rows:Int)] (fun sS=>?_);refine W.revp 16 [bz u] (fun b16=>?_);refine eg [] 1 sS 0 (.int .i64 (rows:Int)) bK (gS sS rfl) ?_;refine kA [] Tryz.f90 0 87 87 [0,5,9,10,12,13,14,17,53,6,54] [5,13] (rfU fb zm sS b16 (k:Int) (oY x) (gH x) rows) (rfX V bx qn qa qm qb) (fun a=>FO fb ⟨ca,cl,cc⟩ bn cn dn most (bz a.s)++a.O) (fun a=>[(bn,bM dT (cf (cw t))),(dn,dm),(cn,bM dA (cf a.cm))])
  (fun a=>[OF bx (Lb,V),QF qn qa qm qb (50,jK x),dY zm [.int .i64 (eH:Int)],dY sS [.int .i64 (rows:Int)],dY b16 [bz u],zw u (a_ x),pE ⟨ca,cl,cc⟩ t,ru oR (bz a.s) (es++a.E)])
  (fun a=>a.z=a.j∧a.j≤rows∧we t most a.cm∧cG 3 a.O (bz a.s) (es++a.E).length ((es++a.E).flatMap oR.cells)∧a.E.length≤(a.j*eH+0)*C∧B_ (fun k':Nat=>gl (fun i':Nat=>fH t 64 k ((lz x i' k').then V)) (List.range eH)) (List.range rows) R a.j a.E)
  (fun a=>rows-a.j) ⟨0,0,cm2,s0,O,[]⟩ ⟨rfl,aM _,hcm2,by rw[af];exact hg,aM _,by rw[←hR2];exact rB _ _⟩ (eC eK (eC eK (eC eK (eC eK (eC eK (eC eK (eC eK (eC (by rw[af];exact eK) eE)))))))) ?_
 rintro⟨j,z,MX,s1,O1,E1⟩ K ⟨hz,hj,D8,x5,hE1,hl1⟩ close;simp only at hz hj D8 x5 hE1 hl1;by_cases hlt:j<rows
 ·refine bD [] 55 (decide (z<(rows:Int))) (aw (by omega)) ?_;refine eg [55] 1 zm 0 (.int .i64 (eH:Int)) bK (gS zm rfl) ?_;have hra:(List.range rows)[j]? =some j:=nP hlt;obtain⟨R2,hRr⟩:∃R2,gl (fun i':Nat=>fH t 64 k ((lz x i' j).then V)) (List.range eH)=R2:=⟨_,rfl⟩;refine Fa [] [6,58] (fun a:Mi=>[(6,.int .i64 0),(58,.int .i64 a.z)]) (fun _=>[]) (fun a=>FO fb ⟨ca,cl,cc⟩ bn cn dn most (bz a.s)++a.O) (fun a=>[(bn,bM dT (cf (cw t))),(dn,dm),(cn,bM dA (cf a.cm))])
   (fun a=>[OF bx (Lb,V),QF qn qa qm qb (50,jK x),dY zm [.int .i64 (eH:Int)],dY sS [.int .i64 (rows:Int)],dY b16 [bz u],zw u (a_ x),pE ⟨ca,cl,cc⟩ t,ru oR (bz a.s) ((es++E1)++a.E)])
   (fun a=>a.z=a.j∧a.j≤eH∧we t most a.cm∧cG 3 a.O (bz a.s) ((es++E1)++a.E).length (((es++E1)++a.E).flatMap oR.cells)∧E1.length+a.E.length≤(j*eH+a.j)*C∧B_ (fun i':Nat=>fH t 64 k ((lz x i' j).then V)) (List.range eH) R2 a.j a.E)
   (fun a=>eH-a.j) ⟨0,0,MX,s1,O1,[]⟩ ⟨rfl,aM _,D8,by rw[af];exact x5,by simpa using hE1,by rw[←hRr];exact rB _ _⟩ (eC eK (eC eK (eC eK (eC eK (eC eK (eC eK (eC eK (eC (by rw[af];exact eK) eE)))))))) ?_
  rintro⟨q,y,cm4,s2,O2,E2⟩ K2 ⟨hy,hq,hcm4,hg4,hE2,hl2⟩ close2;simp only at hy hq hcm4 hg4 hE2 hl2;by_cases hlq:q<eH
  ·have Qr:(List.range eH)[q]? =some q:=nP hlq;obtain⟨ew,hwo,hew⟩:=hown (a:=y) (b:=z) (by omega) (by omega);have NV:=hwo.then Qt;have hox:=Wf x;have hth:=Zl y z;rw[hth]at NV;obtain⟨st1,st2⟩:=K_ hlt hlq hE2;have acj:=KH (⟨oY x,gH x,jK x,oC Dp.x (a_ x) eH rows y z,0,oC Dp.y (a_ x) eH rows y z,0⟩:On) V;refine bD [] 59 (decide (y<(eH:Int))) (aw (by omega)) ?_;refine aj [59] (Wy b16 zm sS y z eH rows u TI Le (by omega) (by omega) (by omega) (by omega)).mF ?_;rintro _ _ ⟨n2,a2,m2,d2,rfl,rfl⟩;refine aj [] (Wz b16 zm sS y z eH rows u TI Le (by omega) (by omega) (by omega) (by omega)).mF ?_;rintro _ _ ⟨n3,a3,m3,d3,rfl,rfl⟩;refine aj [] (R4 (oY x) ⟨qn,qa,qm,qb⟩ (gH x) ⟨n2,a2,m2,d2⟩ ⟨n3,a3,m3,d3⟩ (X:=jK x) (Y:=oC Dp.x (a_ x) eH rows y z) (Z:=oC Dp.y (a_ x) eH rows y z) hox ab4).mF ?_;rintro _ _ ⟨rfl,rfl⟩;refine aj [] (OW ⟨oY x,gH x,jK x,oC Dp.x (a_ x) eH rows y z,0,oC Dp.y (a_ x) eH rows y z,0⟩ V ⟨⟨qn,qa,qm,qb⟩,⟨n2,a2,m2,d2⟩,bV,⟨n3,a3,m3,d3⟩,bV⟩ bx NV.bO hox ho).mF ?_;rintro _ _ ⟨bq',rfl,rfl⟩;refine c_ [] [] (FO fb ⟨ca,cl,cc⟩ bn cn dn most (bz s2)++O2) [] [] [(bn,bM dT (cf (cw t))),(dn,dm),(cn,bM dA (cf cm4))] [] ⟨rfl,by rfl,trivial⟩ (eo:=(by simp only[af];kernel_rfl)) (ih _ (k:Int) k d' rfl XC hkd _ bq' _ _ acj (by omega) NV (by omega) cm4 hcm4 s2 O2 ((es++E1)++E2) hg4 (by rw[hC];simp only[az];omega)) ?_
   rintro _ _ _ _ ⟨cm5,hcm5,rfl,s3,O3,jy,vP,rfl,rfl,hg5,rfl⟩;rw[af (FO fb ⟨ca,cl,cc⟩ bn cn dn most (bz s3)++O3)];rw[←hth]at vP⊢;cases hlr:fH t 64 k ((lz x y z).then V)with
   |error er=>
    have VH:fH t 64 k ((lz x (q:Int) (j:Int)).then V)=.error er:=by rw[←hy,←hz];exact hlr
    have her:=oA _ _ _ _ hlr;have hRe:R=.error er:=hl1.err hra (by rw[hRr];exact hl2.err Qr VH);refine bD [] 83 (er != 0) (by rcases her with rfl|rfl<;>rfl) ?_;refine j1 [83] (.int .i64 er) (FO fb ⟨ca,cl,cc⟩ bn cn dn most (bz s3)++O3) [(bn,bM dT (cf (cw t))),(dn,dm),(cn,bM dA (cf cm5))] ⟨cm5,hcm5,rfl,s3,O3,E1++E2++jy,fun q h=>by rw[hRe]at h;simp at h,by rw[hRe];rfl,rfl,?_,rfl⟩ (eC (by rw[show es++(E1++E2++jy)=((es++E1)++E2)++jy by simp];exact eK) eE);rw[show es++(E1++E2++jy)=((es++E1)++E2)++jy by simp];exact hg5
   |ok sr=>
    have VH:fH t 64 k ((lz x (q:Int) (j:Int)).then V)=.ok sr:=by rw[←hy,←hz];exact hlr
    have hsl:=hD.lay_len _ _ _ _ hlr;have YV:jy.length=sr.length:=by rw[←vP sr hlr,bL]
    refine aS [] 83 ((0:Int) != 0) (by decide) ?_;refine close2 [83] _ _ ⟨q+1,IntKind.i64.wrap (y+1),cm5,s3,O3,E2++jy⟩ (by kernel_rfl) (by kernel_rfl) ⟨by simp only[ah];omega,hlq,hcm5,?_,?_,hl2.step Qr VH (vP sr hlr)⟩ (by simp only;omega) (eC eK (eC eK (eC eK (eC eK (eC eK (eC eK (eC eK (eC (by rw[show(es++E1)++(E2++jy)=((es++E1)++E2)++jy by simp];exact eK) eE))))))))
    ·simp only;rw[show(es++E1)++(E2++jy)=((es++E1)++E2)++jy by simp];exact hg5
    ·simp only[az];omega
  ·obtain rfl:q=eH:=by omega
   have hR2:R2=.ok (E2.map qK.x):=hl2.fin (by rw[dX];exact ai _);refine aS [] 59 (decide (y<(q:Int))) (ak (by omega)) ?_;refine close [59] _ _ ⟨j+1,IntKind.i64.wrap (z+1),cm4,s2,O2,E1++E2⟩ (by kernel_rfl) (by kernel_rfl) ⟨by simp only[ah];omega,hlt,hcm4,?_,?_,hl1.step hra (by rw[hRr];exact hR2) rfl⟩ (by simp only;omega) (eC eK (eC eK (eC eK (eC eK (eC eK (eC eK (eC eK (eC (by rw[←aU];exact eK) eE))))))))
   ·simp only;rw[←aU];exact hg4
   ·simp only[az];rw[show(j+1)*q+0=j*q+q by rw[ed];omega];omega
 ·obtain rfl:j=rows:=by omega
  have hRo:R=.ok (E1.map qK.x):=hl1.fin (by rw[dX];exact ai _);refine aS [] 55 (decide (z<(j:Int))) (ak (by omega)) ?_;exact j1 [55] (.int .i64 0) (FO fb ⟨ca,cl,cc⟩ bn cn dn most (bz s1)++O1) [(bn,bM dT (cf (cw t))),(dn,dm),(cn,bM dA (cf MX))] ⟨MX,D8,rfl,s1,O1,E1,fun q h=>by rw[hRo]at h;injection h,by rw[hRo];rfl,rfl,x5,rfl⟩ (eC eK eE)
end
theorem BD{x:Im}(h:qN x):(a_ x).length≤8191:=by
 unfold a_;cases hf:dK x 16 with
 |none=>simp
 |some r=>
  have:=p9 (h.2 r (kK hf).1);simp only[yq,qY];omega
theorem K0{V:On}{l:List (Sn×Sn)}{j:Nat}{p:Sn×Sn}(h:l[j]? =some p):uZ V (l.drop j)=match farP V p with
  |some q=>(q::(uZ V (l.drop (j+1))).1,(uZ V (l.drop (j+1))).2)
  |none=>([],false):=by
 obtain⟨h1,h2⟩:=List.getElem?_eq_some_iff.1 h;rw[bI h1,h2];rfl
structure Uz where
 j:Nat
 z:Int
 s:Sl
 O:List (Nat×List Value)
 l:List jJ
def lyU(fb:Nat)(u:Sl):Mi→List (Nat×SV):=fun a=>[(0,.val (fp fb)),(5,.ptr 5 0),(28,.val (bz u)),(29,.val (.int .i64 u.n)),(6,.val (.int .i64 0)),(30,.val (.int .i64 a.z))]
theorem Bh{T:Tb}{Γ:List aE}{L:Nat}{l:List jJ}{X Y:Sw}{q:Sn×Sn} [h:aZ (OS gD) (L,l) Γ] [hx:aZ (SF X) (L,q.1) Γ] [hy:aZ (SF Y) (L,q.2) Γ]:∀(I:f_) (w:World),bB T I w→aG Γ I w→(OS gD (L,l++[⟨X,Y,q.1,q.2⟩])).p I w:=fun I w _ hh e he=>by
 rcases List.mem_append.1 he with he|he
 ·exact h.p hh e he
 ·simp only[aD,aC,bp]at he;subst he;exact⟨hx.p hh,hy.p hh⟩
theorem JQ{T:Tb}{Γ:List aE}{L:Nat}{l:List jJ}{ao:Option Addr} [h:aZ (OS gD) (L,l) Γ] [hr:aZ (RA ao) (l.flatMap gD.cells) Γ]:∀(I:f_) (w:World),bB T I w→aG Γ I w→aG [OL gD ao (L,l)] I w:=fun I w _ hh=>aV ⟨fun e he=>h.p hh e he,hr.p hh⟩
theorem D6{l:List jJ}{e:Nat}(h:∀q∈l.map jJ.num,Cq e q):UA (l.map jJ.num):=fun q hq=>(h q hq).f
section
variable{Γ:List aE}{L:Nat}
theorem OU(V:On)(x:Q5)(d:Dp){e:Nat} [aZ (OF x) (L,V) Γ](ho:0≤V.o∧V.o≤7)(hw:sw e V)(hx:d.x.natAbs≤2^31)(hy:d.y.natAbs≤2^31)(hL:L≤10000:=by omega):
  au tb Tryz.prog 86 [Hx V x,.agg #[.int .i64 d.x,.int .i64 d.y]] Γ (vE ((e+190)/32+1) (s_ V d).1 (s_ V d).2):=by
 have hok:=MI hw hx hy;have e1:(2:Nat)^31=2147483648:=by decide
 rw[e1]at hx hy;have h:=Z2 (Γ:=Γ) V x d.x d.y ho (by omega) (by omega) hL;exact h.plT hok.b1 hok.b2
end
section
theorem Wt(fb bn cn dn:Nat)(ca:Option Addr)(cl cc:Nat)(most:Int)(dm:List (Value×Value)){t:List Ce}(hF:SN t)(hD:zu t)(hmost:0≤most∧most≤100000)(hW:zr t≤160)(n:Nat)(ih:QI fb bn cn dn ca cl cc most dm t n):QI fb bn cn dn ca cl cc most dm t (n+1):=by
 intro Γ hcs c i d hc hi sM V bx Lb e hof ho hLb Qt heb cm hcm s0 O es hos hg Rp;obtain⟨x,hx⟩:∃x,t[i]? =some x:=⟨_,ar hi⟩;have hxm:=aO hx;have D_:=tJ hx;have Nz:=hD.cnt64 hi;rw[D_]at Nz;have VE:=hD.lay64 hi V;rw[D_]at VE;have ack:SA t d≤160:=aP P9 hW;obtain⟨R,hR⟩:∃R,fH t 64 i V=R:=⟨_,rfl⟩;rw[hR]at VE⊢;rw[Nz]at Rp;have hlen:x.i.length≤100000:=hF.len x hxm;refine dC.of_W bK Tryz.func48 rfl ?_;refine W.len pG qg.x ⟨ca,cl,cc⟩ rfl (fun h1 h2 h3=>?_);simp only at h1 h2 h3;have hil:i<cl:=by rw[h1];exact hi
 refine wj ⟨ca,cl,cc⟩ hx (fun b off fh fi ha=>?_);simp only at ha;subst ha;refine W.more (Δ:=[uv fi x.i]) rfl (fun I w _ hh=>aV (aZ.p (k:=xL fh fi) (a:=x) inferInstance hh).2) ?_;obtain⟨ia,im,ic⟩:=fi;refine W.len lJ nj.x ⟨ia,im,ic⟩ rfl (fun i1 i2 i3=>?_);simp only at i1 i2 i3;refine cr [] 0 fb 0 bK ?_;refine dQ [] (FO fb ⟨some ⟨b,off,none⟩,cl,cc⟩ bn cn dn most (bz s0)++O) fb (0+0) 1 [.slice (some ⟨b,off,none⟩) cl cc,.map (some bn),.map (some cn),.map (some dn),.int .i64 most,bz s0] (.slice (some ⟨b,off,none⟩) cl cc) bK (.head _) rfl ?_;refine cA [] 2 b off cl cc .i64 i c hc bK hil ?_;refine cr [] 1 b (off+i*2) bK ?_;refine eg [] 1 b (off+i*2+1) (.slice ia im ic) bK (fun I w hd hh=>dL (T:=Kt) b (off+i*2) I w hd hh 1 _ rfl) ?_;refine kA [] Tryz.f48 0 112 112 [0,5,28,29,6,30] [5] (lyU fb ⟨ia,im,ic⟩) (fun _=>[(5,otc V bx)]) (fun a=>FO fb ⟨some ⟨b,off,none⟩,cl,cc⟩ bn cn dn most (bz a.s)++a.O) (fun a=>[(bn,bM dT (cf (cw t))),(dn,dm),(cn,bM dA (cf a.cm))])
  (fun a=>[OF bx (Lb,V),uv ⟨ia,im,ic⟩ x.i,pE ⟨some ⟨b,off,none⟩,cl,cc⟩ t,ru oR (bz a.s) (es++a.E)])
  (fun a=>a.z=a.j∧a.j≤im∧we t most a.cm∧cG 3 a.O (bz a.s) (es++a.E).length ((es++a.E).flatMap oR.cells)∧(a.E.length:Int)≤((x.i.take a.j).map (jd t (jF t 64))).sum∧B_ (iW t 64 (fH t 64) V) x.i R a.j a.E)
  (fun a=>im-a.j) ⟨0,0,cm,s0,O,[]⟩ ⟨rfl,aM _,hcm,by rw[af];exact hg,by simp,by rw[VE];exact rB _ _⟩ (eC eK (eC eK (eC eK (eC (by rw[af];exact eK) eE)))) ?_
 rintro⟨j,z,zo,s1,O1,E1⟩ K ⟨hz,hj,vN,hg1,hE1,hl1⟩ close;simp only at hz hj vN hg1 hE1 hl1;by_cases hlt:j<im
 ·obtain⟨y,hy⟩:∃y,x.i[j]? =some y:=⟨_,ar (by omega)⟩;have Mc:=aO hy;have VO:=hF.ok x hxm y Mc;have lL:=VO.im;have VP:=hD.right x hxm y Mc;have hyb:=hF.by' x hxm y Mc;have htot:((x.i.take (j+1)).map (jd t (jF t 64))).sum≤(x.i.map (jd t (jF t 64))).sum:=by
   have e0:(x.i.map (jd t (jF t 64))).sum=((x.i.take (j+1)).map (jd t (jF t 64))).sum+((x.i.drop (j+1)).map (jd t (jF t 64))).sum:=by
    rw[←sX,←aX,jY]
   have e1:0≤((x.i.drop (j+1)).map (jd t (jF t 64))).sum:=BS fun q hq=>by
    obtain⟨y',hy',rfl⟩:=List.mem_map.1 hq;exact zB (hD.cnt_nn 64) (hD.right x hxm y' (mE hy'))
   omega
  have aci:((x.i.take (j+1)).map (jd t (jF t 64))).sum=((x.i.take j).map (jd t (jF t 64))).sum+jd t (jF t 64) y:=by
   rw[fz hy,aX,sX];simp
  have hcy:=zB (t:=t) (hD.cnt_nn 64) VP;have hfit:((es++E1).length:Int)+jd t (jF t 64) y≤100000:=by rw[az];omega
  have next:∀(jy:List qK) (sr:List Sh),iW t 64 (fH t 64) V y=.ok sr→jy.map qK.x=sr→((E1++jy).length:Int)≤((x.i.take (j+1)).map (jd t (jF t 64))).sum∧B_ (iW t 64 (fH t 64) V) x.i R (j+1) (E1++jy):=fun jy sr h1 h2=>by
   have h3:=hD.item_len (hD.lay_len 64) VP h1;have h4:jy.length=sr.length:=by rw[←h2,bL]
   refine⟨?_,hl1.step hy h1 h2⟩;rw[aci,az];omega
  refine Al ⟨ia,im,ic⟩ hy (fun b2 off2 yf yp ha=>?_);simp only at ha;subst ha;refine bD [] 31 (decide (z<(im:Int))) (aw (by omega)) ?_;refine cA [31] 2 b2 off2 im ic .i64 j z hz bK hlt ?_;refine de [] b2 (off2+j*2) [bz yf,bz yp] bK (dL b2 (off2+j*2)) ?_;obtain⟨LI,hLI⟩:∃LI,iW t 64 (fH t 64) V y=LI:=⟨_,rfl⟩;rcases VO.kind with hk|hk|hk|hk|hk|hk|hk
  ·have pk:∀(Γ':List aE) [aZ (mr yf yp) y Γ'],au tb Tryz.prog 81 [mq yf yp] Γ' (jv (.int .u8 8)):=fun Γ' _=>by rw[←hk];exact gP yf yp lL
   refine aj [] (pk _).mF ?_;rintro _ _ ⟨rfl,rfl⟩;have h4:=xB VP (.inl hk);have hpl:=BD lL;have hI:iW t 64 (fH t 64) V y=fy y ((a_ y).dropLast.map (s_ V)):=by unfold iW;rw[if_pos (.inl hk)]
   refine aj [36] (oJ yf yp (x:=y) lL).mF ?_;rintro _ _ ⟨u,⟨u1,u2,u3⟩,rfl,rfl⟩;obtain⟨pb,po,hao⟩:=u3 (by intro e';rw[e']at h4;simp at h4);obtain⟨ua,un,uc⟩:=u;simp only at u1 u2 hao;subst hao;have hdl:(a_ y).dropLast.length=un-1:=by rw[List.length_dropLast,u1]
   refine Cw [] 2 pb po un uc none (some (.int .i64 (IntKind.i64.wrap ((un:Int)-1)))) 0 (un-1) bK (.inr ⟨rfl,rfl⟩) (.inl (by rw[ah];congr;omega)) (aM _) (by omega) (by omega) ?_;refine j0 [] [9,47] (fun a:Uz=>[(9,bz a.s),(47,.int .i64 a.z)]) (fun _=>[]) (fun a=>(FO fb ⟨some ⟨b,off,none⟩,cl,cc⟩ bn cn dn most (bz s1)++O1)++a.O)
    (fun a=>[OF bx (Lb,V),uv ⟨some ⟨b2,off2,none⟩,im,ic⟩ x.i,mr yf yp y,pE ⟨some ⟨b,off,none⟩,cl,cc⟩ t,ru oR (bz s1) (es++E1),zw ⟨some ⟨pb,po,none⟩,un,uc⟩ (a_ y),OS gD ((e+190)/32+1,a.l)])
    (fun a=>a.z=a.j∧a.j≤un-1∧a.l.length=a.j∧cG 40 a.O (bz a.s) a.l.length (a.l.flatMap gD.cells)∧a.l.map jJ.num=((a_ y).dropLast.take a.j).map (s_ V)∧∀q∈a.l.map jJ.num,Cq e q)
    (fun a=>un-1-a.j) ⟨0,0,⟨none,0,0⟩,[],[]⟩ (h0:=(by simp only[af];kernel_rfl)) ⟨rfl,aM _,rfl,cG.nil 40,rfl,fun q hq=>by simp at hq⟩ (eC eK (eC eK (eC eK (eC eK (eC eK (eC eK (eC (fun I w hd hh e he=>by simp at he) eE))))))) ?_
   rintro⟨q,y2,s2,O2,l⟩ K2 ⟨hy2,hq,hll,hg2,Ec,hok⟩ close2;simp only at hy2 hq hll hg2 Ec hok;by_cases hlq:q<un-1
   ·obtain⟨p,hp⟩:∃p,(a_ y)[q]? =some p:=⟨_,ar (by omega)⟩;have hdp:(a_ y).dropLast[q]? =some p:=by rw[List.getElem?_dropLast,if_pos (by omega)];exact hp
    have hpi:=uM hyb p (aO hp);have ex:p.x.natAbs≤2^31:=by show p.x.natAbs≤2147483648;omega
    have ey:p.y.natAbs≤2^31:=by show p.y.natAbs≤2147483648;omega
    refine bD [] 48 (decide (y2<((un-1-0:Nat):Int))) (aw (by omega)) ?_;refine cA [48] 2 pb (po+0*2) (un-1-0) (uc-0) .i64 q y2 hy2 bK (by omega) ?_;refine de [] pb (po+0*2+q*2) (d_ p) bK (fun I w hd hh k v hv=>by
     rw[ln,fm];exact oh pb po un uc hp I w hd hh k v hv) ?_
    refine aj [] (OU V bx p ho Qt ex ey).mF ?_;rintro _ _ ⟨X,Y,rfl,rfl⟩;refine cI [] 1 (gD.cells ⟨X,Y,(s_ V p).1,(s_ V p).2⟩) bK (fun b8=>?_);refine W.app [] ((FO fb ⟨some ⟨b,off,none⟩,cl,cc⟩ bn cn dn most (bz s1)++O1)++O2) (FO fb ⟨some ⟨b,off,none⟩,cl,cc⟩ bn cn dn most (bz s1)++O1) O2 [] 40 640 l.length 1 (bz s2) (.slice (some ⟨b8,0,none⟩) 1 1) (l.flatMap gD.cells) (gD.cells ⟨X,Y,(s_ V p).1,(s_ V p).2⟩) bK (by simp) hg2 (bW b8 _ 1 40 rfl 1) (pt _) (by omega) (by decide) (fun v' O' hg'=>?_);obtain⟨s',rfl⟩:=iA hg';rw[af ((FO fb ⟨some ⟨b,off,none⟩,cl,cc⟩ bn cn dn most (bz s1)++O1)++O')];refine close2 [] _ _ ⟨q+1,IntKind.i64.wrap (y2+1),s',O',l++[⟨X,Y,(s_ V p).1,(s_ V p).2⟩]⟩ (by kernel_rfl) (by kernel_rfl) ⟨by simp only[ah];omega,by simp only;omega,by simp[hll],?_,?_,?_⟩ (by simp only;omega) (eC eK (eC eK (eC eK (eC eK (eC eK (eC eK (eC Bh eE)))))))
    ·simp only[az,bA,aF,bE,bj,iL,af];exact hg'
    ·simp only;rw[fz hdp,aX,aX,Ec];rfl
    ·intro w hw;simp only[aX,ez]at hw;rcases hw with hw|hw
     ·exact hok w hw
     ·simp only[b_,cZ,aD,aC,bp]at hw;subst hw;exact MI Qt ex ey
   ·obtain rfl:q=un-1:=by omega
    have htk:(a_ y).dropLast.take (un-1)=(a_ y).dropLast:=aW (by omega);rw[htk]at Ec;refine aS [] 48 (decide (y2<((un-1-0:Nat):Int))) (ak (by omega)) ?_;refine lR (FO fb ⟨some ⟨b,off,none⟩,cl,cc⟩ bn cn dn most (bz s1)++O1) O2 [] (by rw[af];kernel_rfl) hg2 (fun g5 g1 g2=>?_);refine qy (FO fb ⟨some ⟨b,off,none⟩,cl,cc⟩ bn cn dn most (bz s1)++O1) ?_;obtain⟨sa,sn,sc⟩:=s2;simp only at g5 g1 g2;subst g5;refine W.more (by kernel_rfl) (JQ (ao:=sa) (l:=l) (L:=(e+190)/32+1)) ?_;refine c_ [48] [] (FO fb ⟨some ⟨b,off,none⟩,cl,cc⟩ bn cn dn most (bz s1)++O1) [] [(bn,bM dT (cf (cw t))),(dn,dm),(cn,bM dA (cf zo))] [] [] ⟨rfl,by rfl,trivial⟩ (eo:=(by simp only[af];kernel_rfl)) (Ex fb bn cn dn ⟨some ⟨b,off,none⟩,cl,cc⟩ most s1 yf yp O1 (es++E1) sa sc l (x:=y) (L:=(e+190)/32+1) lL (D6 hok) (by omega) (by omega) (by omega) hg1) ?_;rintro _ _ _ _ ⟨rfl,s3,O3,jy,vP,rfl,rfl,hg5,rfl⟩;rw[af (FO fb ⟨some ⟨b,off,none⟩,cl,cc⟩ bn cn dn most (bz s3)++O3)];rw[Ec]at vP⊢;cases hlr:fy y ((a_ y).dropLast.map (s_ V))with
    |error er=>
     have wc:iW t 64 (fH t 64) V y=.error er:=by rw[hI,hlr]
     have her:er=25∨er=26:=qX (oA 64) wc;have hRe:R=.error er:=hl1.err hy wc;refine bD [] 109 (er != 0) (by rcases her with rfl|rfl<;>rfl) ?_;refine j1 [109] (.int .i64 er) (FO fb ⟨some ⟨b,off,none⟩,cl,cc⟩ bn cn dn most (bz s3)++O3) [(bn,bM dT (cf (cw t))),(dn,dm),(cn,bM dA (cf zo))] ⟨zo,vN,rfl,s3,O3,E1++jy,fun q h=>by rw[hRe]at h;simp at h,by rw[hRe];rfl,rfl,?_,rfl⟩ (eC (by rw[show es++(E1++jy)=(es++E1)++jy by simp];exact eK) eE);rw[show es++(E1++jy)=(es++E1)++jy by simp];exact hg5
    |ok sr=>
     have wc:iW t 64 (fH t 64) V y=.ok sr:=by rw[hI,hlr]
     obtain⟨n1,n2⟩:=next jy sr wc (vP sr hlr)
     refine aS [] 109 ((0:Int) != 0) (by decide) ?_;refine close [109] _ _ ⟨j+1,IntKind.i64.wrap (z+1),zo,s3,O3,E1++jy⟩ (by kernel_rfl) (by kernel_rfl) ⟨by simp only[ah];omega,hlt,vN,?_,n1,n2⟩ (by simp only;omega) (eC eK (eC eK (eC eK (eC (by rw[show es++(E1++jy)=(es++E1)++jy by simp];exact eK) eE))));simp only;rw[show es++(E1++jy)=(es++E1)++jy by simp];exact hg5
  ·have pk:∀(Γ':List aE) [aZ (mr yf yp) y Γ'],au tb Tryz.prog 81 [mq yf yp] Γ' (jv (.int .u8 9)):=fun Γ' _=>by rw[←hk];exact gP yf yp lL
   refine aj [] (pk _).mF ?_;rintro _ _ ⟨rfl,rfl⟩;obtain⟨hPC,hPl⟩:=WM (x:=y);have hI:iW t 64 (fH t 64) V y=(if(uZ V (ji y)).2=true then(if ji y=[]then .ok []else fy y (uZ V (ji y)).1)
      else match iZ (uZ V (ji y)).1 with
      | .ok _=>.error 25
      | .error e=>.error e):=by unfold iW;rw[if_neg (by omega),if_pos hk];rfl
   refine aj [62,36] (IF yf yp (x:=y) lL).mF ?_;rintro _ _ ⟨ao,pc,pl,rfl,NQ,hpl,rfl⟩;have ace:pl.length=(ji y).length:=by rw[←hpl,bL]
   refine j0 [] [6,9,71] (fun a:Uz=>[(6,.int .i64 0),(9,bz a.s),(71,.int .i64 a.z)]) (fun _=>[]) (fun a=>(FO fb ⟨some ⟨b,off,none⟩,cl,cc⟩ bn cn dn most (bz s1)++O1)++a.O)
    (fun a=>[OF bx (Lb,V),uv ⟨some ⟨b2,off2,none⟩,im,ic⟩ x.i,mr yf yp y,pE ⟨some ⟨b,off,none⟩,cl,cc⟩ t,ru oR (bz s1) (es++E1),OL gD ao (130,pl),OS gD ((e+190)/32+1,a.l)])
    (fun a=>a.z=a.j∧a.j≤pl.length∧a.l.length=a.j∧cG 40 a.O (bz a.s) a.l.length (a.l.flatMap gD.cells)∧uZ V (ji y)=(a.l.map jJ.num++(uZ V ((ji y).drop a.j)).1,(uZ V ((ji y).drop a.j)).2)∧∀q∈a.l.map jJ.num,Cq e q)
    (fun a=>pl.length-a.j) ⟨0,0,⟨none,0,0⟩,[],[]⟩ (h0:=(by simp only[af];kernel_rfl)) ⟨rfl,aM _,rfl,cG.nil 40,rfl,fun q hq=>by simp at hq⟩ (eC eK (eC eK (eC eK (eC eK (eC eK (eC eK (eC (fun I w hd hh e he=>by simp at he) eE))))))) ?_
   rintro⟨q,y2,s2,O2,l⟩ K2 ⟨hy2,hq,hll,hg2,zp,hok⟩ close2;simp only at hy2 hq hll hg2 zp hok;by_cases hlq:q<pl.length
   ·obtain⟨pe,Qq⟩:∃pe,pl[q]? =some pe:=⟨_,ar hlq⟩;have Lf:(ji y)[q]? =some (pe.X,pe.Y):=by rw[←hpl];exact Ei Qq
    have hPq:=hPC _ (aO Lf);rw[K0 Lf]at zp;refine QP ao Qq rfl (fun pb po hao=>?_);subst hao;refine bD [] 72 (decide (y2<(pl.length:Int))) (aw (by omega)) ?_;refine cA [72] 40 pb po pl.length pc .i64 q y2 hy2 bK hlq ?_;refine de [] pb (po+q*40) (gD.cells pe) bK (zU pb po Qq) ?_;cases YX:farP V (pe.X,pe.Y)with
    |none=>
     rw[YX]at zp;simp only[af]at zp;refine aj [] (R1 V bx pe.x pe.y (P:=(pe.X,pe.Y)) ho hPq YX).mF ?_;rintro _ _ ⟨rfl,rfl⟩;refine bD [] 82 ((6:Int) != 0) (by decide) ?_;refine lR (FO fb ⟨some ⟨b,off,none⟩,cl,cc⟩ bn cn dn most (bz s1)++O1) O2 [] (by rw[af];kernel_rfl) hg2 (fun g5 g1 g2=>?_);refine qy (FO fb ⟨some ⟨b,off,none⟩,cl,cc⟩ bn cn dn most (bz s1)++O1) ?_;obtain⟨sa,sn,sc⟩:=s2;simp only at g5 g1 g2;subst g5;refine W.more (by kernel_rfl) (JQ (ao:=sa) (l:=l) (L:=(e+190)/32+1)) ?_;refine aj [82] (RU fb sa sc l (L:=(e+190)/32+1) (D6 hok) (by omega) (by omega)).mF ?_;rintro _ _ ⟨rfl,rfl⟩;have Vt:iW t 64 (fH t 64) V y=match iZ (l.map jJ.num)with
      | .ok _=>.error 25
      | .error e=>.error e:=by rw[hI,zp];rfl
     cases VB:iZ (l.map jJ.num)with
     |error er=>
      rw[VB]at Vt;have her:=uH VB;have hRe:R=.error er:=hl1.err hy Vt;subst her;refine bD [] 87 ((26:Int) != 0) (by decide) ?_;exact j1 [87] (.int .i64 26) (FO fb ⟨some ⟨b,off,none⟩,cl,cc⟩ bn cn dn most (bz s1)++O1) [(bn,bM dT (cf (cw t))),(dn,dm),(cn,bM dA (cf zo))] ⟨zo,vN,rfl,s1,O1,E1,fun q h=>by rw[hRe]at h;simp at h,by rw[hRe];rfl,rfl,hg1,rfl⟩ (eC eK eE)
     |ok gr=>
      rw[VB]at Vt;have hRe:R=.error 25:=hl1.err hy Vt;refine aS [] 87 ((0:Int) != 0) (by decide) ?_;exact j1 [87] (.int .i64 25) (FO fb ⟨some ⟨b,off,none⟩,cl,cc⟩ bn cn dn most (bz s1)++O1) [(bn,bM dT (cf (cw t))),(dn,dm),(cn,bM dA (cf zo))] ⟨zo,vN,rfl,s1,O1,E1,fun q h=>by rw[hRe]at h;simp at h,by rw[hRe];rfl,rfl,hg1,rfl⟩ (eC eK eE)
    |some fq=>
     rw[YX]at zp;simp only at zp;refine aj [] (R3 V bx pe.x pe.y (P:=(pe.X,pe.Y)) ho hPq Qt YX).mF ?_;rintro _ _ ⟨X,Y,rfl,rfl⟩;refine aS [] 82 ((0:Int) != 0) (by decide) ?_;refine cI [82] 1 (gD.cells ⟨X,Y,fq.1,fq.2⟩) bK (fun b8=>?_);refine W.app [] ((FO fb ⟨some ⟨b,off,none⟩,cl,cc⟩ bn cn dn most (bz s1)++O1)++O2) (FO fb ⟨some ⟨b,off,none⟩,cl,cc⟩ bn cn dn most (bz s1)++O1) O2 [] 40 640 l.length 1 (bz s2) (.slice (some ⟨b8,0,none⟩) 1 1) (l.flatMap gD.cells) (gD.cells ⟨X,Y,fq.1,fq.2⟩) bK (by simp) hg2 (bW b8 _ 1 40 rfl 1) (pt _) (by omega) (by decide) (fun v' O' hg'=>?_);obtain⟨s',rfl⟩:=iA hg';rw[af ((FO fb ⟨some ⟨b,off,none⟩,cl,cc⟩ bn cn dn most (bz s1)++O1)++O')];refine close2 [] _ _ ⟨q+1,IntKind.i64.wrap (y2+1),s',O',l++[⟨X,Y,fq.1,fq.2⟩]⟩ (by kernel_rfl) (by kernel_rfl) ⟨by simp only[ah];omega,by simp only;omega,by simp[hll],?_,?_,?_⟩ (by simp only;omega) (eC eK (eC eK (eC eK (eC eK (eC eK (eC eK (eC Bh eE)))))))
     ·simp only[az,bA,aF,bE,bj,iL,af];exact hg'
     ·simp only;rw[zp,aX,aU];rfl
     ·intro w hw;simp only[aX,ez]at hw;rcases hw with hw|hw
      ·exact hok w hw
      ·simp only[b_,cZ,aD,aC,bp]at hw;subst hw;exact Nq Qt hPq YX
   ·obtain rfl:q=pl.length:=by omega
    rw[bu (by omega)]at zp;simp only[uZ,af]at zp;refine aS [] 72 (decide (y2<(pl.length:Int))) (ak (by omega)) ?_;by_cases h0:0<pl.length
    ·have hne:ji y≠ []:=fun e'=>by rw[e',bE]at ace;omega
     have Vt:iW t 64 (fH t 64) V y=fy y (l.map jJ.num):=by rw[hI,zp,if_pos rfl,if_neg hne]
     refine bD [72] 96 (decide ((pl.length:Int)>0)) (aw (by omega)) ?_;refine lR (FO fb ⟨some ⟨b,off,none⟩,cl,cc⟩ bn cn dn most (bz s1)++O1) O2 [] (by rw[af];kernel_rfl) hg2 (fun g5 g1 g2=>?_);refine qy (FO fb ⟨some ⟨b,off,none⟩,cl,cc⟩ bn cn dn most (bz s1)++O1) ?_;obtain⟨sa,sn,sc⟩:=s2;simp only at g5 g1 g2;subst g5;refine W.more (by kernel_rfl) (JQ (ao:=sa) (l:=l) (L:=(e+190)/32+1)) ?_;refine c_ [96] [] (FO fb ⟨some ⟨b,off,none⟩,cl,cc⟩ bn cn dn most (bz s1)++O1) [] [(bn,bM dT (cf (cw t))),(dn,dm),(cn,bM dA (cf zo))] [] [] ⟨rfl,by rfl,trivial⟩ (eo:=(by simp only[af];kernel_rfl)) (Ex fb bn cn dn ⟨some ⟨b,off,none⟩,cl,cc⟩ most s1 yf yp O1 (es++E1) sa sc l (x:=y) (L:=(e+190)/32+1) lL (D6 hok) (by omega) (by omega) (by omega) hg1) ?_;rintro _ _ _ _ ⟨rfl,s3,O3,jy,vP,rfl,rfl,hg5,rfl⟩;rw[af (FO fb ⟨some ⟨b,off,none⟩,cl,cc⟩ bn cn dn most (bz s3)++O3)];cases hlr:fy y (l.map jJ.num)with
     |error er=>
      have wc:iW t 64 (fH t 64) V y=.error er:=by rw[Vt,hlr]
      have her:er=25∨er=26:=qX (oA 64) wc;have hRe:R=.error er:=hl1.err hy wc;refine bD [] 109 (er != 0) (by rcases her with rfl|rfl<;>rfl) ?_;refine j1 [109] (.int .i64 er) (FO fb ⟨some ⟨b,off,none⟩,cl,cc⟩ bn cn dn most (bz s3)++O3) [(bn,bM dT (cf (cw t))),(dn,dm),(cn,bM dA (cf zo))] ⟨zo,vN,rfl,s3,O3,E1++jy,fun q h=>by rw[hRe]at h;simp at h,by rw[hRe];rfl,rfl,?_,rfl⟩ (eC (by rw[show es++(E1++jy)=(es++E1)++jy by simp];exact eK) eE);rw[show es++(E1++jy)=(es++E1)++jy by simp];exact hg5
     |ok sr=>
      have wc:iW t 64 (fH t 64) V y=.ok sr:=by rw[Vt,hlr]
      obtain⟨n1,n2⟩:=next jy sr wc (vP sr hlr)
      refine aS [] 109 ((0:Int) != 0) (by decide) ?_;refine close [109] _ _ ⟨j+1,IntKind.i64.wrap (z+1),zo,s3,O3,E1++jy⟩ (by kernel_rfl) (by kernel_rfl) ⟨by simp only[ah];omega,hlt,vN,?_,n1,n2⟩ (by simp only;omega) (eC eK (eC eK (eC eK (eC (by rw[show es++(E1++jy)=(es++E1)++jy by simp];exact eK) eE))));simp only;rw[show es++(E1++jy)=(es++E1)++jy by simp];exact hg5
    ·have hne:ji y=[]:=aL (by omega);have wc:iW t 64 (fH t 64) V y=.ok []:=by rw[hI,zp,if_pos rfl,if_pos hne]
     obtain⟨n1,n2⟩:=next [] [] wc rfl
     rw[af]at n1 n2;refine aS [72] 96 (decide ((pl.length:Int)>0)) (ak (by omega)) ?_;refine rF (FO fb ⟨some ⟨b,off,none⟩,cl,cc⟩ bn cn dn most (bz s1)++O1) O2 [] (by rw[af];kernel_rfl) ?_;refine qy (FO fb ⟨some ⟨b,off,none⟩,cl,cc⟩ bn cn dn most (bz s1)++O1) ?_;exact close [109,96] _ _ ⟨j+1,IntKind.i64.wrap (z+1),zo,s1,O1,E1⟩ (by kernel_rfl) (by kernel_rfl) ⟨by simp only[ah];omega,hlt,vN,hg1,n1,n2⟩ (by simp only;omega) (eC eK (eC eK (eC eK (eC eK eE))))
  ·have pk:∀(Γ':List aE) [aZ (mr yf yp) y Γ'],au tb Tryz.prog 81 [mq yf yp] Γ' (jv (.int .u8 10)):=fun Γ' _=>by rw[←hk];exact gP yf yp lL
   refine aj [] (pk _).mF ?_;rintro _ _ ⟨rfl,rfl⟩;have hI:iW t 64 (fH t 64) V y=mY t 64 (fH t 64) y V:=by unfold iW;rw[if_neg (by omega),if_neg (by omega),if_pos (.inl hk)]
   refine c_ [101,62,36] [] (FO fb ⟨some ⟨b,off,none⟩,cl,cc⟩ bn cn dn most (bz s1)++O1) [] [] [(bn,bM dT (cf (cw t))),(dn,dm),(cn,bM dA (cf zo))] [] ⟨rfl,by rfl,trivial⟩ (eo:=(by simp only[af];kernel_rfl)) (J7 fb bn cn dn (some ⟨b,off,none⟩) cl cc most dm hF hD hmost hW n ih _ yf yp (x:=y) hx Mc (.inl hk) sM V bx Lb e ho hLb Qt heb zo vN s1 O1 (es++E1) hg1 hfit) ?_;rintro _ _ _ _ ⟨MX,D8,rfl,s3,O3,jy,vP,rfl,rfl,hg5,rfl⟩;rw[af (FO fb ⟨some ⟨b,off,none⟩,cl,cc⟩ bn cn dn most (bz s3)++O3)];cases hlr:mY t 64 (fH t 64) y V with
   |error er=>
    have wc:iW t 64 (fH t 64) V y=.error er:=by rw[hI,hlr]
    have her:er=25∨er=26:=qX (oA 64) wc;have hRe:R=.error er:=hl1.err hy wc;refine bD [] 109 (er != 0) (by rcases her with rfl|rfl<;>rfl) ?_;refine j1 [109] (.int .i64 er) (FO fb ⟨some ⟨b,off,none⟩,cl,cc⟩ bn cn dn most (bz s3)++O3) [(bn,bM dT (cf (cw t))),(dn,dm),(cn,bM dA (cf MX))] ⟨MX,D8,rfl,s3,O3,E1++jy,fun q h=>by rw[hRe]at h;simp at h,by rw[hRe];rfl,rfl,?_,rfl⟩ (eC (by rw[show es++(E1++jy)=(es++E1)++jy by simp];exact eK) eE);rw[show es++(E1++jy)=(es++E1)++jy by simp];exact hg5
   |ok sr=>
    have wc:iW t 64 (fH t 64) V y=.ok sr:=by rw[hI,hlr]
    obtain⟨n1,n2⟩:=next jy sr wc (vP sr hlr)
    refine aS [] 109 ((0:Int) != 0) (by decide) ?_;refine close [109] _ _ ⟨j+1,IntKind.i64.wrap (z+1),MX,s3,O3,E1++jy⟩ (by kernel_rfl) (by kernel_rfl) ⟨by simp only[ah];omega,hlt,D8,?_,n1,n2⟩ (by simp only;omega) (eC eK (eC eK (eC eK (eC (by rw[show es++(E1++jy)=(es++E1)++jy by simp];exact eK) eE))));simp only;rw[show es++(E1++jy)=(es++E1)++jy by simp];exact hg5
  ·have pk:∀(Γ':List aE) [aZ (mr yf yp) y Γ'],au tb Tryz.prog 81 [mq yf yp] Γ' (jv (.int .u8 11)):=fun Γ' _=>by rw[←hk];exact gP yf yp lL
   refine aj [] (pk _).mF ?_;rintro _ _ ⟨rfl,rfl⟩;have hI:iW t 64 (fH t 64) V y=mY t 64 (fH t 64) y V:=by unfold iW;rw[if_neg (by omega),if_neg (by omega),if_pos (.inr hk)]
   refine c_ [101,62,36] [] (FO fb ⟨some ⟨b,off,none⟩,cl,cc⟩ bn cn dn most (bz s1)++O1) [] [] [(bn,bM dT (cf (cw t))),(dn,dm),(cn,bM dA (cf zo))] [] ⟨rfl,by rfl,trivial⟩ (eo:=(by simp only[af];kernel_rfl)) (J7 fb bn cn dn (some ⟨b,off,none⟩) cl cc most dm hF hD hmost hW n ih _ yf yp (x:=y) hx Mc (.inr hk) sM V bx Lb e ho hLb Qt heb zo vN s1 O1 (es++E1) hg1 hfit) ?_;rintro _ _ _ _ ⟨MX,D8,rfl,s3,O3,jy,vP,rfl,rfl,hg5,rfl⟩;rw[af (FO fb ⟨some ⟨b,off,none⟩,cl,cc⟩ bn cn dn most (bz s3)++O3)];cases hlr:mY t 64 (fH t 64) y V with
   |error er=>
    have wc:iW t 64 (fH t 64) V y=.error er:=by rw[hI,hlr]
    have her:er=25∨er=26:=qX (oA 64) wc;have hRe:R=.error er:=hl1.err hy wc;refine bD [] 109 (er != 0) (by rcases her with rfl|rfl<;>rfl) ?_;refine j1 [109] (.int .i64 er) (FO fb ⟨some ⟨b,off,none⟩,cl,cc⟩ bn cn dn most (bz s3)++O3) [(bn,bM dT (cf (cw t))),(dn,dm),(cn,bM dA (cf MX))] ⟨MX,D8,rfl,s3,O3,E1++jy,fun q h=>by rw[hRe]at h;simp at h,by rw[hRe];rfl,rfl,?_,rfl⟩ (eC (by rw[show es++(E1++jy)=(es++E1)++jy by simp];exact eK) eE);rw[show es++(E1++jy)=(es++E1)++jy by simp];exact hg5
   |ok sr=>
    have wc:iW t 64 (fH t 64) V y=.ok sr:=by rw[hI,hlr]
    obtain⟨n1,n2⟩:=next jy sr wc (vP sr hlr)
    refine aS [] 109 ((0:Int) != 0) (by decide) ?_;refine close [109] _ _ ⟨j+1,IntKind.i64.wrap (z+1),MX,s3,O3,E1++jy⟩ (by kernel_rfl) (by kernel_rfl) ⟨by simp only[ah];omega,hlt,D8,?_,n1,n2⟩ (by simp only;omega) (eC eK (eC eK (eC eK (eC (by rw[show es++(E1++jy)=(es++E1)++jy by simp];exact eK) eE))));simp only;rw[show es++(E1++jy)=(es++E1)++jy by simp];exact hg5
  ·have pk:∀(Γ':List aE) [aZ (mr yf yp) y Γ'],au tb Tryz.prog 81 [mq yf yp] Γ' (jv (.int .u8 12)):=fun Γ' _=>by rw[←hk];exact gP yf yp lL
   refine aj [] (pk _).mF ?_;rintro _ _ ⟨rfl,rfl⟩;have wc:iW t 64 (fH t 64) V y=.ok []:=by unfold iW;rw[if_neg (by omega),if_neg (by omega),if_neg (by omega)]
   obtain⟨n1,n2⟩:=next [] [] wc rfl
   rw[af]at n1 n2;exact close [109,101,62,36] _ _ ⟨j+1,IntKind.i64.wrap (z+1),zo,s1,O1,E1⟩ (by kernel_rfl) (by kernel_rfl) ⟨by simp only[ah];omega,hlt,vN,hg1,n1,n2⟩ (by simp only;omega) (eC eK (eC eK (eC eK (eC eK eE))))
  ·have pk:∀(Γ':List aE) [aZ (mr yf yp) y Γ'],au tb Tryz.prog 81 [mq yf yp] Γ' (jv (.int .u8 21)):=fun Γ' _=>by rw[←hk];exact gP yf yp lL
   refine aj [] (pk _).mF ?_;rintro _ _ ⟨rfl,rfl⟩;have wc:iW t 64 (fH t 64) V y=.ok []:=by unfold iW;rw[if_neg (by omega),if_neg (by omega),if_neg (by omega)]
   obtain⟨n1,n2⟩:=next [] [] wc rfl
   rw[af]at n1 n2;exact close [109,101,62,36] _ _ ⟨j+1,IntKind.i64.wrap (z+1),zo,s1,O1,E1⟩ (by kernel_rfl) (by kernel_rfl) ⟨by simp only[ah];omega,hlt,vN,hg1,n1,n2⟩ (by simp only;omega) (eC eK (eC eK (eC eK (eC eK eE))))
  ·have pk:∀(Γ':List aE) [aZ (mr yf yp) y Γ'],au tb Tryz.prog 81 [mq yf yp] Γ' (jv (.int .u8 45)):=fun Γ' _=>by rw[←hk];exact gP yf yp lL
   refine aj [] (pk _).mF ?_;rintro _ _ ⟨rfl,rfl⟩;have h4:=xB VP (.inr hk);have hpl:=BD lL;have hI:iW t 64 (fH t 64) V y=fy y ((a_ y).dropLast.map (s_ V)):=by unfold iW;rw[if_pos (.inr hk)]
   refine aj [36] (oJ yf yp (x:=y) lL).mF ?_;rintro _ _ ⟨u,⟨u1,u2,u3⟩,rfl,rfl⟩;obtain⟨pb,po,hao⟩:=u3 (by intro e';rw[e']at h4;simp at h4);obtain⟨ua,un,uc⟩:=u;simp only at u1 u2 hao;subst hao;have hdl:(a_ y).dropLast.length=un-1:=by rw[List.length_dropLast,u1]
   refine Cw [] 2 pb po un uc none (some (.int .i64 (IntKind.i64.wrap ((un:Int)-1)))) 0 (un-1) bK (.inr ⟨rfl,rfl⟩) (.inl (by rw[ah];congr;omega)) (aM _) (by omega) (by omega) ?_;refine j0 [] [9,47] (fun a:Uz=>[(9,bz a.s),(47,.int .i64 a.z)]) (fun _=>[]) (fun a=>(FO fb ⟨some ⟨b,off,none⟩,cl,cc⟩ bn cn dn most (bz s1)++O1)++a.O)
    (fun a=>[OF bx (Lb,V),uv ⟨some ⟨b2,off2,none⟩,im,ic⟩ x.i,mr yf yp y,pE ⟨some ⟨b,off,none⟩,cl,cc⟩ t,ru oR (bz s1) (es++E1),zw ⟨some ⟨pb,po,none⟩,un,uc⟩ (a_ y),OS gD ((e+190)/32+1,a.l)])
    (fun a=>a.z=a.j∧a.j≤un-1∧a.l.length=a.j∧cG 40 a.O (bz a.s) a.l.length (a.l.flatMap gD.cells)∧a.l.map jJ.num=((a_ y).dropLast.take a.j).map (s_ V)∧∀q∈a.l.map jJ.num,Cq e q)
    (fun a=>un-1-a.j) ⟨0,0,⟨none,0,0⟩,[],[]⟩ (h0:=(by simp only[af];kernel_rfl)) ⟨rfl,aM _,rfl,cG.nil 40,rfl,fun q hq=>by simp at hq⟩ (eC eK (eC eK (eC eK (eC eK (eC eK (eC eK (eC (fun I w hd hh e he=>by simp at he) eE))))))) ?_
   rintro⟨q,y2,s2,O2,l⟩ K2 ⟨hy2,hq,hll,hg2,Ec,hok⟩ close2;simp only at hy2 hq hll hg2 Ec hok;by_cases hlq:q<un-1
   ·obtain⟨p,hp⟩:∃p,(a_ y)[q]? =some p:=⟨_,ar (by omega)⟩;have hdp:(a_ y).dropLast[q]? =some p:=by rw[List.getElem?_dropLast,if_pos (by omega)];exact hp
    have hpi:=uM hyb p (aO hp);have ex:p.x.natAbs≤2^31:=by show p.x.natAbs≤2147483648;omega
    have ey:p.y.natAbs≤2^31:=by show p.y.natAbs≤2147483648;omega
    refine bD [] 48 (decide (y2<((un-1-0:Nat):Int))) (aw (by omega)) ?_;refine cA [48] 2 pb (po+0*2) (un-1-0) (uc-0) .i64 q y2 hy2 bK (by omega) ?_;refine de [] pb (po+0*2+q*2) (d_ p) bK (fun I w hd hh k v hv=>by
     rw[ln,fm];exact oh pb po un uc hp I w hd hh k v hv) ?_
    refine aj [] (OU V bx p ho Qt ex ey).mF ?_;rintro _ _ ⟨X,Y,rfl,rfl⟩;refine cI [] 1 (gD.cells ⟨X,Y,(s_ V p).1,(s_ V p).2⟩) bK (fun b8=>?_);refine W.app [] ((FO fb ⟨some ⟨b,off,none⟩,cl,cc⟩ bn cn dn most (bz s1)++O1)++O2) (FO fb ⟨some ⟨b,off,none⟩,cl,cc⟩ bn cn dn most (bz s1)++O1) O2 [] 40 640 l.length 1 (bz s2) (.slice (some ⟨b8,0,none⟩) 1 1) (l.flatMap gD.cells) (gD.cells ⟨X,Y,(s_ V p).1,(s_ V p).2⟩) bK (by simp) hg2 (bW b8 _ 1 40 rfl 1) (pt _) (by omega) (by decide) (fun v' O' hg'=>?_);obtain⟨s',rfl⟩:=iA hg';rw[af ((FO fb ⟨some ⟨b,off,none⟩,cl,cc⟩ bn cn dn most (bz s1)++O1)++O')];refine close2 [] _ _ ⟨q+1,IntKind.i64.wrap (y2+1),s',O',l++[⟨X,Y,(s_ V p).1,(s_ V p).2⟩]⟩ (by kernel_rfl) (by kernel_rfl) ⟨by simp only[ah];omega,by simp only;omega,by simp[hll],?_,?_,?_⟩ (by simp only;omega) (eC eK (eC eK (eC eK (eC eK (eC eK (eC eK (eC Bh eE)))))))
    ·simp only[az,bA,aF,bE,bj,iL,af];exact hg'
    ·simp only;rw[fz hdp,aX,aX,Ec];rfl
    ·intro w hw;simp only[aX,ez]at hw;rcases hw with hw|hw
     ·exact hok w hw
     ·simp only[b_,cZ,aD,aC,bp]at hw;subst hw;exact MI Qt ex ey
   ·obtain rfl:q=un-1:=by omega
    have htk:(a_ y).dropLast.take (un-1)=(a_ y).dropLast:=aW (by omega);rw[htk]at Ec;refine aS [] 48 (decide (y2<((un-1-0:Nat):Int))) (ak (by omega)) ?_;refine lR (FO fb ⟨some ⟨b,off,none⟩,cl,cc⟩ bn cn dn most (bz s1)++O1) O2 [] (by rw[af];kernel_rfl) hg2 (fun g5 g1 g2=>?_);refine qy (FO fb ⟨some ⟨b,off,none⟩,cl,cc⟩ bn cn dn most (bz s1)++O1) ?_;obtain⟨sa,sn,sc⟩:=s2;simp only at g5 g1 g2;subst g5;refine W.more (by kernel_rfl) (JQ (ao:=sa) (l:=l) (L:=(e+190)/32+1)) ?_;refine c_ [48] [] (FO fb ⟨some ⟨b,off,none⟩,cl,cc⟩ bn cn dn most (bz s1)++O1) [] [(bn,bM dT (cf (cw t))),(dn,dm),(cn,bM dA (cf zo))] [] [] ⟨rfl,by rfl,trivial⟩ (eo:=(by simp only[af];kernel_rfl)) (Ex fb bn cn dn ⟨some ⟨b,off,none⟩,cl,cc⟩ most s1 yf yp O1 (es++E1) sa sc l (x:=y) (L:=(e+190)/32+1) lL (D6 hok) (by omega) (by omega) (by omega) hg1) ?_;rintro _ _ _ _ ⟨rfl,s3,O3,jy,vP,rfl,rfl,hg5,rfl⟩;rw[af (FO fb ⟨some ⟨b,off,none⟩,cl,cc⟩ bn cn dn most (bz s3)++O3)];rw[Ec]at vP⊢;cases hlr:fy y ((a_ y).dropLast.map (s_ V))with
    |error er=>
     have wc:iW t 64 (fH t 64) V y=.error er:=by rw[hI,hlr]
     have her:er=25∨er=26:=qX (oA 64) wc;have hRe:R=.error er:=hl1.err hy wc;refine bD [] 109 (er != 0) (by rcases her with rfl|rfl<;>rfl) ?_;refine j1 [109] (.int .i64 er) (FO fb ⟨some ⟨b,off,none⟩,cl,cc⟩ bn cn dn most (bz s3)++O3) [(bn,bM dT (cf (cw t))),(dn,dm),(cn,bM dA (cf zo))] ⟨zo,vN,rfl,s3,O3,E1++jy,fun q h=>by rw[hRe]at h;simp at h,by rw[hRe];rfl,rfl,?_,rfl⟩ (eC (by rw[show es++(E1++jy)=(es++E1)++jy by simp];exact eK) eE);rw[show es++(E1++jy)=(es++E1)++jy by simp];exact hg5
    |ok sr=>
     have wc:iW t 64 (fH t 64) V y=.ok sr:=by rw[hI,hlr]
     obtain⟨n1,n2⟩:=next jy sr wc (vP sr hlr)
     refine aS [] 109 ((0:Int) != 0) (by decide) ?_;refine close [109] _ _ ⟨j+1,IntKind.i64.wrap (z+1),zo,s3,O3,E1++jy⟩ (by kernel_rfl) (by kernel_rfl) ⟨by simp only[ah];omega,hlt,vN,?_,n1,n2⟩ (by simp only;omega) (eC eK (eC eK (eC eK (eC (by rw[show es++(E1++jy)=(es++E1)++jy by simp];exact eK) eE))));simp only;rw[show es++(E1++jy)=(es++E1)++jy by simp];exact hg5
 ·have hRo:R=.ok (E1.map qK.x):=hl1.fin (by omega);refine aS [] 31 (decide (z<(im:Int))) (ak (by omega)) ?_;exact j1 [31] (.int .i64 0) (FO fb ⟨some ⟨b,off,none⟩,cl,cc⟩ bn cn dn most (bz s1)++O1) [(bn,bM dT (cf (cw t))),(dn,dm),(cn,bM dA (cf zo))] ⟨zo,vN,rfl,s1,O1,E1,fun q h=>by rw[hRo]at h;injection h,by rw[hRo];rfl,rfl,hg1,rfl⟩ (eC eK eE)
theorem T9(fb bn cn dn:Nat)(ca:Option Addr)(cl cc:Nat)(most:Int)(dm:List (Value×Value)){t:List Ce}(hF:SN t)(hD:zu t)(hmost:0≤most∧most≤100000)(hW:zr t≤160):∀n,QI fb bn cn dn ca cl cc most dm t n
 |0=>fun Γ _ c i d hc hi sM=>by simp[dep]at sM
 |n+1=>Wt fb bn cn dn ca cl cc most dm hF hD hmost hW n (T9 fb bn cn dn ca cl cc most dm hF hD hmost hW n)
end
end Go.Proofs.YtgaaopjagcaojaaGreat
