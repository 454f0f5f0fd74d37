import Derived.Test.YtgaaopjagcaojaaGreatVk
import Derived.Test.YtgaaopjagcaojaaGreatMj
set_option linter.unusedSimpArgs false
set_option linter.unusedVariables false
set_option maxHeartbeats 8000000
namespace Go.Proofs.YtgaaopjagcaojaaGreat
open Go.RowKit
def VS.setMaps(s:VS)(M:List (Nat×List (Value×Value))):VS:=⟨s.tmps,s.boxes,s.own,M⟩
section
variable{T:Tb}{P:Program}{fin:VS→List aD→Prop}{c:fG}{Γ:List aD}
theorem E0(D:List Nat){α:Type}(N:List Nat)(V:α→List (Nat×Value))(X:α→List (Nat×List Value))(O:α→List (Nat×List Value))(Q:α→List (Nat×List (Value×Value)))(G:α→List aD)(inv:α→Prop)(μ:α→Nat)(a0:α)
  
  
  (i0:inv a0)(f0:∀I w,br T I w→aG Γ I w→aG (G a0) I w)
  (hr:∀(a:α) (R:VS→List aD→Prop),inv a→
   (∀(D':List Nat) (c':fG) (Γ':List aD) (a':α),og (aL T (bh T D' 999 c'))=some R→
    (oh (aL T (bh T D' 999 c'))).map (jv (aL T (bh T D 999 c)) N)=some (((((jv (aL T (bh T D 999 c)) N (nR (aL T (bh T D 999 c)))).puts (V a')).boxs (X a')).setOwn (O a')).setMaps (Q a'))→
    inv a'→μ a'<μ a→(∀I w,br T I w→aG Γ' I w→aG (G a') I w)→W T P fin c' Γ')→
   W T P fin ⟨((((jv (aL T (bh T D 999 c)) N (nR (aL T (bh T D 999 c)))).puts (V a)).boxs (X a)).setOwn (O a)).setMaps (Q a),.code (vW (aL T (bh T D 999 c)))::.again R::Gi (aL T (bh T D 999 c))⟩ (G a))(h:qJ (aL T (bh T D 999 c))=true:=by kernel_rfl)(h0:jv (aL T (bh T D 999 c)) N (nR (aL T (bh T D 999 c)))=((((jv (aL T (bh T D 999 c)) N (nR (aL T (bh T D 999 c)))).puts (V a0)).boxs (X a0)).setOwn (O a0)).setMaps (Q a0):=by kernel_rfl):W T P fin c Γ:=by
 refine eD D 999 ?_;generalize bh T D 999 c=c1 at*;generalize he:aL T c1=e at*;cases e with
 |loop b c'=>
  generalize hst:jv (Ev.loop b c') N (nR (Ev.loop b c'))=S at*;have key:∀(m:Nat) (s:VS) (Γ':List aD),(∃a,jv (Ev.loop b c') N s=(((S.puts (V a)).boxs (X a)).setOwn (O a)).setMaps (Q a)∧inv a∧μ a=m∧∀I w,br T I w→aG Γ' I w→aG (G a) I w)→
    W T P fin ⟨s,.code b::.again (fun s' Γ'=>∃m',m'<m∧∃a,jv (Ev.loop b c') N s'=(((S.puts (V a)).boxs (X a)).setOwn (O a)).setMaps (Q a)∧inv a∧μ a=m'∧∀I w,br T I w→aG Γ' I w→aG (G a) I w)::c'.k⟩ Γ':=by
   rintro m s Γ' ⟨a,hs,hi,rfl,hf⟩;refine W.forget (jW N (ku b)) (jr b) rfl ?_;rw[show s.forget (jW N (ku b)) (jr b)=(((S.puts (V a)).boxs (X a)).setOwn (O a)).setMaps (Q a)from hs];refine W.sub rfl hf ?_;refine hr a _ hi (fun D' c' Γ' a' hR hS hi' hl' hf'=>?_);refine eD D' 999 ?_;generalize bh T D' 999 c'=c2 at*;cases hv:aL T c2<;>rw[hv]at hR hS<;>simp[og,oh]at hR hS;subst hR;exact W.again hv ⟨μ a',hl',a',hS,hi',rfl,hf'⟩
  refine W.loop (fun m s Γ'=>∃a,jv (Ev.loop b c') N s=(((S.puts (V a)).boxs (X a)).setOwn (O a)).setMaps (Q a)∧inv a∧μ a=m∧∀I w,br T I w→aG Γ' I w→aG (G a) I w) (μ a0) he ⟨a0,?_,i0,rfl,f0⟩ key;rw[←h0];exact hst
 |_=>simp[qJ]at h
end
open Go.RowKit Go.IntWalk
theorem De{α:Type}{f:α→LR}{l:List α}{j:Nat}{a:α}(h:l[j]? =some a):nX f (l.drop j)=match f a with
  | .error e=>.error e
  | .ok s=>match nX f (l.drop (j+1))with
   | .error e=>.error e
   | .ok s'=>.ok (s++s'):=by
 obtain⟨h1,h2⟩:=List.getElem?_eq_some_iff.1 h;rw[bC h1,h2];rfl
def BO{α:Type}(f:α→LR)(l:List α)(R:LR)(j:Nat)(E:List qS):Prop:=R=match nX f (l.drop j)with
  | .error e=>.error e
  | .ok s=>.ok (E.map qS.x++s)
theorem rA{α:Type}(f:α→LR)(l:List α):BO f l (nX f l) 0 []:=by
 unfold BO;rw[gX];cases nX f l<;>rfl
theorem BO.step{α:Type}{f:α→LR}{l:List α}{R:LR}{j:Nat}{E es:List qS}{a:α}{s:List Sh}(h:BO f l R j E)(ha:l[j]? =some a)(hf:f a=.ok s)(he:es.map qS.x=s):BO f l R (j+1) (E++es):=by
 unfold BO at h⊢;rw[h,De ha,hf];cases nX f (l.drop (j+1))with
 |error e=>rfl
 |ok s'=>simp only[aT,he,aV]
theorem BO.err{α:Type}{f:α→LR}{l:List α}{R:LR}{j:Nat}{E:List qS}{a:α}{e:Int}(h:BO f l R j E)(ha:l[j]? =some a)(hf:f a=.error e):R=.error e:=by
 unfold BO at h;rw[h,De ha,hf]
theorem BO.fin{α:Type}{f:α→LR}{l:List α}{R:LR}{j:Nat}{E:List qS}(h:BO f l R j E)(hj:l.length≤j):R=.ok (E.map qS.x):=by
 unfold BO at h;rw[h,bu hj];simp[nX]
theorem xu{α:Type}{f:α→LR}{w:α→Int}:∀{l:List α} {s:List Sh},(∀a∈l,∀s,f a=.ok s→(s.length:Int)≤w a)→nX f l=.ok s→(s.length:Int)≤(l.map w).sum
 | [],s,_,h=>by
  simp only[nX,Except.ok.injEq]at h;subst h;simp
 |a::l,s,hw,h=>by
  unfold nX at h;cases hf:f a with
  |error e=>rw[hf]at h;simp at h
  |ok s1=>
   rw[hf]at h;cases hs:nX f l with
   |error e=>rw[hs]at h;simp at h
   |ok s2=>
    rw[hs]at h;simp only[Except.ok.injEq]at h;subst h;have h1:=hw a (by simp) s1 hf;have h2:=xu (fun b hb=>hw b (by simp[hb])) hs;simp only[aA,bY,ec];omega
theorem yq{α:Type}(w:Int):∀l:List α,(l.map fun _=>w).sum=(l.length:Int)*w
 | []=>by simp
 |a::l=>by
  simp only[bY,ec,aC,yq w l];rw[Int.natCast_add,Int.add_mul];omega
theorem Dh{x:Im}{l:List (Sn×Sn)}{s:List Sh}(h:iT x l=.ok s):s.length=1:=by
 unfold iT at h;split at h
 ·injection h with h;subst h;rfl
 ·simp at h
theorem EU.item_len{t:List Ce}(hD:EU t){n:Nat}{g:Nat→On→LR}(hg:∀c V s,g c V=.ok s→(s.length:Int)≤k9 t n c){x:Im}(hr:kN x=true){V:On}{s:List Sh}(h:j5 t n g V x=.ok s):(s.length:Int)≤ka t (k9 t n) x:=by
 unfold j5 at h;unfold ka;by_cases h8:cJ x=8∨cJ x=45
 ·rw[if_pos h8]at h⊢;rw[Dh h];omega
 ·rw[if_neg h8]at h⊢;by_cases h9:cJ x=9
  ·rw[if_pos h9]at h⊢;split at h
   ·split at h
    ·rename_i hp;injection h with h;subst h;simp[hp]
    ·rename_i hp;rw[if_neg hp,Dh h];omega
   ·split at h<;>simp at h
  ·rw[if_neg h9]at h⊢;by_cases hk:cJ x=10∨cJ x=11
   ·rw[if_pos hk]at h⊢;obtain⟨_,h1,h2,_⟩:=rj hr hk;unfold pO at h;cases hkn:om t x with
    |none=>
     rw[hkn]at h;injection h with h;subst h;simp
    |some c=>
     rw[hkn]at h;simp only at h⊢;split at h
     ·rename_i h0;injection h with h;subst h;rw[h0];simp
     ·have key:=xu (w:=fun _:Nat=>((bN x).1.toNat:Int)*k9 t n c) (fun a _ s' hs'=>by
       have:=xu (w:=fun _:Nat=>k9 t n c) (fun b _ s'' abZ=>hg _ _ _ abZ) hs';rw[yq,kD]at this;exact this) h
      rw[yq,kD]at key;rw[Int.toNat_of_nonneg (Int.le_of_lt h1),Int.toNat_of_nonneg (Int.le_of_lt h2)]at key;have e:(bN x).2*((bN x).1*k9 t n c)=k9 t n c*(bN x).1*(bN x).2:=by
       rw[qA (bN x).1,qA (bN x).2]
      omega
   ·rw[if_neg hk]at h⊢;injection h with h;subst h;simp
theorem EU.lay_len{t:List Ce}(hD:EU t):∀(n c:Nat) (V:On) (s:List Sh),gH t n c V=.ok s→(s.length:Int)≤k9 t n c
 |0,c,V,s,h=>by
  simp only[gH,Except.ok.injEq]at h;subst h;simp[k9]
 |n+1,c,V,s,h=>by
  unfold gH at h;unfold k9;refine xu (fun x hx s' hs'=>?_) h;obtain⟨c',hc',hx'⟩:=CM hx;exact hD.item_len (hD.lay_len n) (hD.right c' hc' x hx') hs'
theorem uk{α:Type}{f:α→LR}{A:Int→Prop}:∀{l:List α} {e:Int},(∀a∈l,∀e,f a=.error e→A e)→nX f l=.error e→A e
 | [],e,_,h=>by simp[nX]at h
 |a::l,e,hw,h=>by
  unfold nX at h;cases hf:f a with
  |error e'=>
   rw[hf]at h;injection h with h;subst h;exact hw a (by simp) e' hf
  |ok s1=>
   rw[hf]at h;cases hs:nX f l with
   |error e'=>
    rw[hs]at h;injection h with h;subst h;exact uk (fun b hb=>hw b (by simp[hb])) hs
   |ok s2=>rw[hs]at h;simp at h
theorem uK:∀{l:List (Sn×Sn)} {e:Int},jn l=.error e→e=26
 | [],e,h=>by simp[jn]at h
 |p::r,e,h=>by
  unfold jn at h;split at h
  ·cases hg:jn r with
   |ok l=>rw[hg]at h;simp at h
   |error e'=>
    rw[hg]at h;injection h with h;subst h;exact uK hg
  ·injection h with h;exact h.symm
theorem Dg{x:Im}{l:List (Sn×Sn)}{e:Int}(h:iT x l=.error e):e=26:=by
 unfold iT at h;cases hg:jn l with
 |ok p=>rw[hg]at h;simp at h
 |error e'=>
  rw[hg]at h;injection h with h;subst h;exact uK hg
theorem q7{t:List Ce}{n:Nat}{g:Nat→On→LR}(hg:∀c V e,g c V=.error e→e=25∨e=26){x:Im}{V:On}{e:Int}(h:j5 t n g V x=.error e):e=25∨e=26:=by
 unfold j5 at h;split at h
 ·exact .inr (Dg h)
 ·split at h
  ·split at h
   ·split at h
    ·simp at h
    ·exact .inr (Dg h)
   ·cases hq:jn (vf V (ja x)).1 with
    |ok p=>
     rw[hq]at h;injection h with h;exact .inl h.symm
    |error e'=>
     rw[hq]at h;injection h with h;subst h;exact .inr (uK hq)
  ·split at h
   ·unfold pO at h;split at h
    ·simp at h
    ·split at h
     ·simp at h
     ·exact uk (A:=fun e=>e=25∨e=26) (fun a _ e' he=>uk (A:=fun e=>e=25∨e=26) (fun b _ e'' he'=>hg _ _ _ he') he) h
   ·simp at h
theorem oI{t:List Ce}:∀(n c:Nat) (V:On) (e:Int),gH t n c V=.error e→e=25∨e=26
 |0,c,V,e,h=>by simp[gH]at h
 |n+1,c,V,e,h=>by
  unfold gH at h;exact uk (A:=fun e=>e=25∨e=26) (fun x _ e' he=>q7 (oI n) he) h
def LyX(t:List Ce)(most:Int)(r:LR)(FB:Value→List (Nat×List Value))(b1 b2:Nat×List (Value×Value))(cn:Nat)(es:List qS)(v:Value)(O:List (Nat×List Value))(M:List (Nat×List (Value×Value)))(Δ:List aD):Prop:=
 ∃cm:List (Int×Int),wi t most cm∧M=[b1,b2,(cn,bM dw (cg cm))]∧Dz r FB es v O Δ
structure MA where
 j:Nat
 z:Int
 cm:List (Int×Int)
 s:Sl
 O:List (Nat×List Value)
 E:List qS
abbrev XI(n:Sl)(a:Bool)(m:Sl)(b:Bool):List Value:=[.slice n.ao n.n n.c,.bool a,.slice m.ao m.n m.c,.bool b]
abbrev otc(V:On)(x:Q5):List Value:=[.bool V.f,.int .i64 V.o]++XI x.g.n x.g.a x.g.m x.g.b++XI x.a.n x.a.a x.a.m x.a.b++XI x.b.n x.b.a x.b.m x.b.b++XI x.c.n x.c.a x.c.m x.c.b++XI x.d.n x.d.a x.d.m x.d.b
def Rg(fb bn cn dn:Nat)(ca:Option Addr)(cl cc:Nat)(most:Int)(dm:List (Value×Value))(t:List Ce)(n:Nat):Prop:=
 ∀(Γ:List aD) [aW (lH ⟨ca,cl,cc⟩) t Γ] (c:Int) (i d:Nat),c=i→i<t.length→dep t n i=some d→∀(V:On) (bx:Q5) (Lb e:Nat) [aW (OF bx) (Lb,V) Γ],(0≤V.o∧V.o≤7)→Lb≤10000→sG e V→e≤45*SQ t d→
  ∀cm:List (Int×Int),wi t most cm→∀(s0:Sl) (O:List (Nat×List Value)) (es:List qS) [aW (mS pU (aZ s0)) es Γ],cF 3 O (aZ s0) es.length (es.flatMap pU.cells)→(es.length:Int)+k9 t 64 i≤100000→
  dB KG Tryz.prog 48 [fo fb,.int .i64 c,Hs V bx] (FO fb ⟨ca,cl,cc⟩ bn cn dn most (aZ s0)++O) [(bn,bM dU (cg (cw t))),(dn,dm),(cn,bM dw (cg cm))] Γ
   (LyX t most (gH t 64 i V) (fun v=>FO fb ⟨ca,cl,cc⟩ bn cn dn most v) (bn,bM dU (cg (cw t))) (dn,dm) cn es)
def rfU(fb b10 b11 b16:Nat)(k:Int)(f:Bool)(o rows:Int):MA→List (Nat×SV):=fun a=>[(0,.val (fo fb)),(5,.ptr 5 0),(9,.val (.int .i64 k)),(10,.val (fo b10)),(12,.val (.bool f)),(13,.ptr 13 0),(14,.val (.int .i64 o)),
 (17,.val (.func (.func 153) #[] #[fo b16,fo b10,fo b11])),(53,.val (.int .i64 rows)),(6,.val (.int .i64 0)),(54,.val (.int .i64 a.z))]
def rfX(V:On)(bx:Q5)(n:Sl)(a:Bool)(m:Sl)(b:Bool):MA→List (Nat×List Value):=fun _=>[(5,otc V bx),(13,XI n a m b)]
theorem Lm{j q rows eW c N:Nat}(hj:j<rows)(hq:q<eW)(h:N≤(j*eW+q)*c):N+c≤(j*eW+(q+1))*c∧(j*eW+(q+1))*c≤rows*eW*c:=by
 have h1:(j*eW+(q+1))*c=(j*eW+q)*c+c:=by rw[←gU,dM,iQ]
 have h2:(j+1)*eW≤rows*eW:=cf _ hj;rw[dM,iQ]at h2;exact⟨by omega,cf _ (by omega)⟩
section
theorem Kf(fb bn cn dn:Nat)(ca:Option Addr)(cl cc:Nat)(most:Int)(dm:List (Value×Value)){t:List Ce}(hF:S6 t)(hD:EU t)(tJ:0≤most∧most≤100000)(hW:xw t≤160)(n:Nat)(ih:Rg fb bn cn dn ca cl cc most dm t n)
  (Γ:List aD) [aW (lH ⟨ca,cl,cc⟩) t Γ](xf xp:Sl){x:Im} [aW (mI xf xp) x Γ]{i d:Nat}{cx:Ce}(hcx:t[i]? =some cx)(hxm:x∈cx.i)(hk:cJ x=10∨cJ x=11)(sU:dep t (n+1) i=some d)
  (V:On)(bx:Q5)(Lb e:Nat) [aW (OF bx) (Lb,V) Γ](ho:0≤V.o∧V.o≤7)(hLb:Lb≤10000)(QV:sG e V)(heb:e≤45*SQ t d)(cm:List (Int×Int))(hcm:wi t most cm)(s0:Sl)(O:List (Nat×List Value))(es:List qS) [aW (mS pU (aZ s0)) es Γ]
  (hg:cF 3 O (aZ s0) es.length (es.flatMap pU.cells))(RM:(es.length:Int)+ka t (k9 t 64) x≤100000):
  dB KG Tryz.prog 90 [fo fb,lY xf xp,Hs V bx] (FO fb ⟨ca,cl,cc⟩ bn cn dn most (aZ s0)++O) [(bn,bM dU (cg (cw t))),(dn,dm),(cn,bM dw (cg cm))] Γ
   (LyX t most (pO t 64 (gH t 64) x V) (fun v=>FO fb ⟨ca,cl,cc⟩ bn cn dn most v) (bn,bM dU (cg (cw t))) (dn,dm) cn es):=by
 have hce:=aK hcx;have TW:=hF.ok cx hce x hxm;have Lx:=TW.im;have hxr:=hD.right cx hce x hxm;have hxb:=hF.by' cx hce x hxm;obtain⟨FY,hg1,hg2,TR⟩:=rj hxr hk;obtain⟨abG,abH⟩:=wN hxb;obtain⟨iD,abO⟩:=I_ FY;obtain⟨s,hs⟩:=TW.ref hk;obtain⟨k,hkn,Y8,hkm⟩:=hD.kid hcx hxm hs;have RO:=wU hkm;have hc0:=hD.cnt_nn 64 k;have hil:i<t.length:=(List.getElem?_eq_some_iff.1 hcx).1;obtain⟨d',hkd,hdd⟩:∃d',dep t n k=some d'∧d'<d:=by
  unfold dep at sU;cases hq:jE (dep t n) (fy t i) 0 with
  |none=>rw[hq]at sU;simp at sU
  |some r=>
   rw[hq]at sU;simp only[c_,ar]at sU;obtain⟨e',he,hle⟩:=(mg hq).2 k hkm;exact⟨e',he,by omega⟩
 have hup:=Qz hil ⟨n+1,sU⟩ hdd;have ab5:SQ t d'≤160:=aP Qy hW;have hwx:wI x≤wC t i:=Z4 (by rw[pt hcx];exact hxm);have TM:ka t (k9 t 64) x=k9 t 64 k*(bN x).1*(bN x).2:=by
  unfold ka;have h1:¬(cJ x=8∨cJ x=45):=by omega
  have h2:¬cJ x=9:=by omega
  rw[if_neg h1,if_neg h2,if_pos hk,hkn]
 obtain⟨R,hR⟩:∃R,pO t 64 (gH t 64) x V=R:=⟨_,rfl⟩;have hR2:=hR;unfold pO at hR2;rw[hkn]at hR2;simp only at hR2;rw[hR];have pn:∀(Γ':List aD) [aW (mI xf xp) x Γ'],aw tb Tryz.prog 79 [lY xf xp] Γ' (jq (.tuple #[.string (strOfNums s),.bool true])):=fun Γ' _=>by
  have:=w_ (Γ:=Γ') xf xp Lx;rw[hs]at this;exact this
 refine dB.of_W bH Tryz.func90 rfl ?_;refine aq [] (pn _).mF ?_;rintro _ _ ⟨rfl,rfl⟩;refine bZ [] 1 fb 0 bH ?_;refine dR [] (FO fb ⟨ca,cl,cc⟩ bn cn dn most (aZ s0)++O) fb (0+1) 1 [.slice ca cl cc,.map (some bn),.map (some cn),.map (some dn),.int .i64 most,aZ s0] (.map (some bn)) bH (.head _) rfl ?_;refine vm [] dU 69 9 3 false (FO fb ⟨ca,cl,cc⟩ bn cn dn most (aZ s0)++O) [(bn,bM dU (cg (cw t))),(dn,dm),(cn,bM dw (cg cm))] bn (strOfNums s) (cg (cw t)) (.int .i64 0) bH (.head _) ?_;rw[AY Y8];obtain⟨d64,abv⟩:=hD.deep k RO;refine cZ [] [] (FO fb ⟨ca,cl,cc⟩ bn cn dn most (aZ s0)) O [] [(bn,bM dU (cg (cw t))),(dn,dm),(cn,bM dw (cg cm))] [] ⟨rfl,by rfl,trivial⟩ (J9 fb bn cn dn ca cl cc most (aZ s0) dm hF hD tJ 64 _ (k:Int) k rfl RO ⟨d64,abv⟩ cm hcm) ?_;rintro _ _ _ _ ⟨Vf,Lo,rfl,rfl,rfl,rfl⟩;by_cases h0:k9 t 64 k=0
 ·rw[if_pos h0]at hR2;refine bj [] 37 (min (k9 t 64 k) (most+1)==0) (by rw[h0,Int.min_eq_left (by omega)];rfl) ?_;exact j1 [37] (.int .i64 0) (FO fb ⟨ca,cl,cc⟩ bn cn dn most (aZ s0)++O) [(bn,bM dU (cg (cw t))),(dn,dm),(cn,bM dw (cg Vf))] ⟨Vf,Lo,rfl,s0,O,[],fun q hq=>by rw[←hR2]at hq;injection hq,by rw[←hR2];rfl,rfl,by rw[ah];exact hg,rfl⟩ (eC (by rw[ah];exact eK) eE)
 rw[if_neg h0]at hR2;refine aQ [] 37 (min (k9 t 64 k) (most+1)==0) (by rw[ed];omega) ?_;refine aq [37] (tS xf xp (x:=x) Lx).mF ?_;rintro _ _ ⟨rfl,rfl⟩;refine aq [] (xc xf xp (x:=x) Lx).mF ?_;rintro _ _ (⟨hb,n',a',m',b',rfl,rfl⟩|⟨hb,qn,qa,qm,qb,rfl,rfl⟩)
 ·rw[iD]at hb;simp at hb
 refine aq [] (oS xf xp (x:=x) Lx).mF ?_;rintro _ _ ⟨u,⟨u1,u2,u3⟩,rfl,rfl⟩;obtain⟨eW,CD⟩:∃c:Nat,(bN x).1=c:=⟨(bN x).1.toNat,by omega⟩;obtain⟨rows,CI⟩:∃c:Nat,(bN x).2=c:=⟨(bN x).2.toNat,by omega⟩;obtain⟨C,hC⟩:∃C:Nat,k9 t 64 k=C:=⟨(k9 t 64 k).toNat,by omega⟩;have hown:∀{a b:Int},0≤a∧a<(bN x).1→0≤b∧b<(bN x).2→∃e,sG e (x7 x a b)∧e+4≤45*wI x:=fun ha hb=>Pc TW hxb hk hg1 hg2 ha hb;have Zh:∀a b:Int,x7 x a b=⟨rO x,gJ x,kA x,pY Dp.x (bJ x) eW rows a b,0,pY Dp.y (bJ x) eW rows a b,0⟩:=fun a b=>by unfold x7;rw[CD,CI]
 have Lu:=uS hxb;rw[CD,CI]at hown;rw[CD,CI,hC]at TM;rw[CD,CI,jc,jc]at hR2;rw[CD]at hg1 abG;rw[CI]at hg2 abH;rw[CD,CI];have Vw:es.length+rows*eW*C≤100000:=by
  rw[TM]at RM;have e1:(C:Int)*eW*rows=((rows*eW*C:Nat):Int):=by
   rw[dP,dP,qA (C:Int),qA ((eW:Int)*C),←Int.mul_assoc]
  rw[e1]at RM;omega
 refine W.revp 10 [.int .i64 (eW:Int)] (fun b10=>?_);refine W.revp 11 [.int .i64 (rows:Int)] (fun b11=>?_);refine W.revp 16 [aZ u] (fun b16=>?_);refine dJ [] 1 b11 0 (.int .i64 (rows:Int)) bH (gF b11 rfl) ?_;refine j0 [] Tryz.f90 0 87 87 [0,5,9,10,12,13,14,17,53,6,54] [5,13] (rfU fb b10 b11 b16 (k:Int) (rO x) (gJ x) rows) (rfX V bx qn qa qm qb) (fun a=>FO fb ⟨ca,cl,cc⟩ bn cn dn most (aZ a.s)++a.O) (fun a=>[(bn,bM dU (cg (cw t))),(dn,dm),(cn,bM dw (cg a.cm))])
  (fun a=>[OF bx (Lb,V),QF qn qa qm qb (50,kA x),ek b10 [.int .i64 (eW:Int)],ek b11 [.int .i64 (rows:Int)],ek b16 [aZ u],zi u (bJ x),lH ⟨ca,cl,cc⟩ t,mS pU (aZ a.s) (es++a.E)])
  (fun a=>a.z=a.j∧a.j≤rows∧wi t most a.cm∧cF 3 a.O (aZ a.s) (es++a.E).length ((es++a.E).flatMap pU.cells)∧a.E.length≤(a.j*eW+0)*C∧BO (fun k':Nat=>nX (fun i':Nat=>gH t 64 k ((x7 x i' k').then V)) (List.range eW)) (List.range rows) R a.j a.E)
  (fun a=>rows-a.j) ⟨0,0,Vf,s0,O,[]⟩ ⟨rfl,aJ _,Lo,by rw[ah];exact hg,aJ _,by rw[←hR2];exact rA _ _⟩ (eC eK (eC eK (eC eK (eC eK (eC eK (eC eK (eC eK (eC (by rw[ah];exact eK) eE)))))))) ?_
 rintro⟨j,z,Ng,s1,O1,E1⟩ K ⟨hz,hj,DV,yM,hE1,hl1⟩ close;simp only at hz hj DV yM hE1 hl1;by_cases hlt:j<rows
 ·refine bj [] 55 (decide (z<(rows:Int))) (au (by omega)) ?_;refine dJ [55] 1 b10 0 (.int .i64 (eW:Int)) bH (gF b10 rfl) ?_;have Oh:(List.range rows)[j]? =some j:=uw hlt;obtain⟨R2,hRr⟩:∃R2,nX (fun i':Nat=>gH t 64 k ((x7 x i' j).then V)) (List.range eW)=R2:=⟨_,rfl⟩;refine E0 [] [6,58] (fun a:MA=>[(6,.int .i64 0),(58,.int .i64 a.z)]) (fun _=>[]) (fun a=>FO fb ⟨ca,cl,cc⟩ bn cn dn most (aZ a.s)++a.O) (fun a=>[(bn,bM dU (cg (cw t))),(dn,dm),(cn,bM dw (cg a.cm))])
   (fun a=>[OF bx (Lb,V),QF qn qa qm qb (50,kA x),ek b10 [.int .i64 (eW:Int)],ek b11 [.int .i64 (rows:Int)],ek b16 [aZ u],zi u (bJ x),lH ⟨ca,cl,cc⟩ t,mS pU (aZ a.s) ((es++E1)++a.E)])
   (fun a=>a.z=a.j∧a.j≤eW∧wi t most a.cm∧cF 3 a.O (aZ a.s) ((es++E1)++a.E).length (((es++E1)++a.E).flatMap pU.cells)∧E1.length+a.E.length≤(j*eW+a.j)*C∧BO (fun i':Nat=>gH t 64 k ((x7 x i' j).then V)) (List.range eW) R2 a.j a.E)
   (fun a=>eW-a.j) ⟨0,0,Ng,s1,O1,[]⟩ ⟨rfl,aJ _,DV,by rw[ah];exact yM,by simpa using hE1,by rw[←hRr];exact rA _ _⟩ (eC eK (eC eK (eC eK (eC eK (eC eK (eC eK (eC eK (eC (by rw[ah];exact eK) eE)))))))) ?_
  rintro⟨q,y,RB,s2,O2,E2⟩ K2 ⟨hy,hq,Ie,FP,hE2,hl2⟩ iB;simp only at hy hq Ie FP hE2 hl2;by_cases JL:q<eW
  ·have QT:(List.range eW)[q]? =some q:=uw JL;obtain⟨ew,hwo,hew⟩:=hown (a:=y) (b:=z) (by omega) (by omega);have Oq:=hwo.then QV;have hox:=Wh x;have hth:=Zh y z;rw[hth]at Oq;obtain⟨st1,st2⟩:=Lm hlt JL hE2;have ab4:=KP (⟨rO x,gJ x,kA x,pY Dp.x (bJ x) eW rows y z,0,pY Dp.y (bJ x) eW rows y z,0⟩:On) V;refine bj [] 59 (decide (y<(eW:Int))) (au (by omega)) ?_;refine aq [59] (WA b16 b10 b11 y z eW rows u TR Lu (by omega) (by omega) (by omega) (by omega)).mF ?_;rintro _ _ ⟨n2,a2,m2,d2,rfl,rfl⟩;refine aq [] (WB b16 b10 b11 y z eW rows u TR Lu (by omega) (by omega) (by omega) (by omega)).mF ?_;rintro _ _ ⟨n3,a3,m3,d3,rfl,rfl⟩;refine aq [] (Sx (rO x) ⟨qn,qa,qm,qb⟩ (gJ x) ⟨n2,a2,m2,d2⟩ ⟨n3,a3,m3,d3⟩ (X:=kA x) (Y:=pY Dp.x (bJ x) eW rows y z) (Z:=pY Dp.y (bJ x) eW rows y z) hox abO).mF ?_;rintro _ _ ⟨rfl,rfl⟩;refine aq [] (Pu ⟨rO x,gJ x,kA x,pY Dp.x (bJ x) eW rows y z,0,pY Dp.y (bJ x) eW rows y z,0⟩ V ⟨⟨qn,qa,qm,qb⟩,⟨n2,a2,m2,d2⟩,b_,⟨n3,a3,m3,d3⟩,b_⟩ bx Oq.bO hox ho).mF ?_;rintro _ _ ⟨bq',rfl,rfl⟩;refine cZ [] [] (FO fb ⟨ca,cl,cc⟩ bn cn dn most (aZ s2)++O2) [] [] [(bn,bM dU (cg (cw t))),(dn,dm),(cn,bM dw (cg RB))] [] ⟨rfl,by rfl,trivial⟩ (eo:=(by simp only[ah];kernel_rfl)) (ih _ (k:Int) k d' rfl RO hkd _ bq' _ _ ab4 (by omega) Oq (by omega) RB Ie s2 O2 ((es++E1)++E2) FP (by rw[hC];simp only[aA];omega)) ?_
   rintro _ _ _ _ ⟨XB,RL,rfl,s3,O3,j3,vT,rfl,rfl,CG,rfl⟩;rw[ah (FO fb ⟨ca,cl,cc⟩ bn cn dn most (aZ s3)++O3)];rw[←hth]at vT⊢;cases hlr:gH t 64 k ((x7 x y z).then V)with
   |error er=>
    have VG:gH t 64 k ((x7 x (q:Int) (j:Int)).then V)=.error er:=by rw[←hy,←hz];exact hlr
    have Ho:=oI _ _ _ _ hlr;have yK:R=.error er:=hl1.err Oh (by rw[hRr];exact hl2.err QT VG);refine bj [] 83 (er != 0) (by rcases Ho with rfl|rfl<;>rfl) ?_;refine j1 [83] (.int .i64 er) (FO fb ⟨ca,cl,cc⟩ bn cn dn most (aZ s3)++O3) [(bn,bM dU (cg (cw t))),(dn,dm),(cn,bM dw (cg XB))] ⟨XB,RL,rfl,s3,O3,E1++E2++j3,fun q h=>by rw[yK]at h;simp at h,by rw[yK];rfl,rfl,?_,rfl⟩ (eC (by rw[show es++(E1++E2++j3)=((es++E1)++E2)++j3 by simp];exact eK) eE);rw[show es++(E1++E2++j3)=((es++E1)++E2)++j3 by simp];exact CG
   |ok sr=>
    have VG:gH t 64 k ((x7 x (q:Int) (j:Int)).then V)=.ok sr:=by rw[←hy,←hz];exact hlr
    have Zk:=hD.lay_len _ _ _ _ hlr;have he3:j3.length=sr.length:=by rw[←vT sr hlr,bI]
    refine aQ [] 83 ((0:Int) != 0) (by decide) ?_;refine iB [83] _ _ ⟨q+1,IntKind.i64.wrap (y+1),XB,s3,O3,E2++j3⟩ (by kernel_rfl) (by kernel_rfl) ⟨by simp only[af];omega,JL,RL,?_,?_,hl2.step QT VG (vT sr hlr)⟩ (by simp only;omega) (eC eK (eC eK (eC eK (eC eK (eC eK (eC eK (eC eK (eC (by rw[show(es++E1)++(E2++j3)=((es++E1)++E2)++j3 by simp];exact eK) eE))))))))
    ·simp only;rw[show(es++E1)++(E2++j3)=((es++E1)++E2)++j3 by simp];exact CG
    ·simp only[aA];omega
  ·obtain rfl:q=eW:=by omega
   have hR2:R2=.ok (E2.map qS.x):=hl2.fin (by rw[kD];exact ak _);refine aQ [] 59 (decide (y<(q:Int))) (aj (by omega)) ?_;refine close [59] _ _ ⟨j+1,IntKind.i64.wrap (z+1),RB,s2,O2,E1++E2⟩ (by kernel_rfl) (by kernel_rfl) ⟨by simp only[af];omega,hlt,Ie,?_,?_,hl1.step Oh (by rw[hRr];exact hR2) rfl⟩ (by simp only;omega) (eC eK (eC eK (eC eK (eC eK (eC eK (eC eK (eC eK (eC (by rw[←aV];exact eK) eE))))))))
   ·simp only;rw[←aV];exact FP
   ·simp only[aA];rw[show(j+1)*q+0=j*q+q by rw[dM];omega];omega
 ·obtain rfl:j=rows:=by omega
  have TL:R=.ok (E1.map qS.x):=hl1.fin (by rw[kD];exact ak _);refine aQ [] 55 (decide (z<(j:Int))) (aj (by omega)) ?_;exact j1 [55] (.int .i64 0) (FO fb ⟨ca,cl,cc⟩ bn cn dn most (aZ s1)++O1) [(bn,bM dU (cg (cw t))),(dn,dm),(cn,bM dw (cg Ng))] ⟨Ng,DV,rfl,s1,O1,E1,fun q h=>by rw[TL]at h;injection h,by rw[TL];rfl,rfl,yM,rfl⟩ (eC eK eE)
end
theorem Bp{x:Im}(h:qQ x):(bJ x).length≤8191:=by
 unfold bJ;cases hf:dW x 16 with
 |none=>simp
 |some r=>
  have:=nW (h.2 r (kS hf).1);simp only[yc,q8];omega
theorem Lg{V:On}{l:List (Sn×Sn)}{j:Nat}{p:Sn×Sn}(h:l[j]? =some p):vf V (l.drop j)=match farP V p with
  |some q=>(q::(vf V (l.drop (j+1))).1,(vf V (l.drop (j+1))).2)
  |none=>([],false):=by
 obtain⟨h1,h2⟩:=List.getElem?_eq_some_iff.1 h;rw[bC h1,h2];rfl
structure UH where
 j:Nat
 z:Int
 s:Sl
 O:List (Nat×List Value)
 l:List jF
def lyU(fb:Nat)(u:Sl):MA→List (Nat×SV):=fun a=>[(0,.val (fo fb)),(5,.ptr 5 0),(28,.val (aZ u)),(29,.val (.int .i64 u.n)),(6,.val (.int .i64 0)),(30,.val (.int .i64 a.z))]
theorem A6{T:Tb}{Γ:List aD}{L:Nat}{l:List jF}{X Y:Sw}{q:Sn×Sn} [h:aW (OS gi) (L,l) Γ] [hx:aW (SF X) (L,q.1) Γ] [hy:aW (SF Y) (L,q.2) Γ]:∀(I:fQ) (w:World),br T I w→aG Γ I w→(OS gi (L,l++[⟨X,Y,q.1,q.2⟩])).p I w:=fun I w _ hh e he=>by
 rcases List.mem_append.1 he with he|he
 ·exact h.p hh e he
 ·simp only[aF,aE,bL]at he;subst he;exact⟨hx.p hh,hy.p hh⟩
theorem JY{T:Tb}{Γ:List aD}{L:Nat}{l:List jF}{ao:Option Addr} [h:aW (OS gi) (L,l) Γ] [hr:aW (RA ao) (l.flatMap gi.cells) Γ]:∀(I:fQ) (w:World),br T I w→aG Γ I w→aG [OL gi ao (L,l)] I w:=fun I w _ hh=>aS ⟨fun e he=>h.p hh e he,hr.p hh⟩
theorem DT{l:List jF}{e:Nat}(h:∀q∈l.map jF.num,Cb e q):UI (l.map jF.num):=fun q hq=>(h q hq).f
section
variable{Γ:List aD}{L:Nat}
theorem Ps(V:On)(x:Q5)(d:Dp){e:Nat} [aW (OF x) (L,V) Γ](ho:0≤V.o∧V.o≤7)(hw:sG e V)(hx:d.x.natAbs≤2^31)(hy:d.y.natAbs≤2^31)(hL:L≤10000:=by omega):
  aw tb Tryz.prog 86 [Hs V x,.agg #[.int .i64 d.x,.int .i64 d.y]] Γ (vJ ((e+190)/32+1) (BP V d).1 (BP V d).2):=by
 have hok:=MY hw hx hy;have e1:(2:Nat)^31=2147483648:=by decide
 rw[e1]at hx hy;have h:=ZJ (Γ:=Γ) V x d.x d.y ho (by omega) (by omega) hL;exact h.plT hok.b1 hok.b2
end
section
theorem Wv(fb bn cn dn:Nat)(ca:Option Addr)(cl cc:Nat)(most:Int)(dm:List (Value×Value)){t:List Ce}(hF:S6 t)(hD:EU t)(tJ:0≤most∧most≤100000)(hW:xw t≤160)(n:Nat)(ih:Rg fb bn cn dn ca cl cc most dm t n):Rg fb bn cn dn ca cl cc most dm t (n+1):=by
 intro Γ hcs c i d hc hi sU V bx Lb e hof ho hLb QV heb cm hcm s0 O es hos hg RM;obtain⟨x,hx⟩:∃x,t[i]? =some x:=⟨_,ai hi⟩;have hxm:=aK hx;have DZ:=pt hx;have NV:=hD.cnt64 hi;rw[DZ]at NV;have VD:=hD.lay64 hi V;rw[DZ]at VD;have ab5:SQ t d≤160:=aP Qy hW;obtain⟨R,hR⟩:∃R,gH t 64 i V=R:=⟨_,rfl⟩;rw[hR]at VD⊢;rw[NV]at RM;have hlen:x.i.length≤100000:=hF.len x hxm;refine dB.of_W bH Tryz.func48 rfl ?_;refine W.len g8 lj.x ⟨ca,cl,cc⟩ rfl (fun h1 h2 h3=>?_);simp only at h1 h2 h3;have hil:i<cl:=by rw[h1];exact hi
 refine sI ⟨ca,cl,cc⟩ hx (fun b off fh fi ha=>?_);simp only at ha;subst ha;refine W.more (Δ:=[pS fi x.i]) rfl (fun I w _ hh=>aS (aW.p (k:=yz fh fi) (a:=x) inferInstance hh).2) ?_;obtain⟨ia,im,ic⟩:=fi;refine W.len lZ mN.x ⟨ia,im,ic⟩ rfl (fun i1 i2 i3=>?_);simp only at i1 i2 i3;refine bZ [] 0 fb 0 bH ?_;refine dR [] (FO fb ⟨some ⟨b,off,none⟩,cl,cc⟩ bn cn dn most (aZ s0)++O) fb (0+0) 1 [.slice (some ⟨b,off,none⟩) cl cc,.map (some bn),.map (some cn),.map (some dn),.int .i64 most,aZ s0] (.slice (some ⟨b,off,none⟩) cl cc) bH (.head _) rfl ?_;refine bW [] 2 b off cl cc .i64 i c hc bH hil ?_;refine bZ [] 1 b (off+i*2) bH ?_;refine dJ [] 1 b (off+i*2+1) (.slice ia im ic) bH (fun I w hd hh=>cA (T:=KG) b (off+i*2) I w hd hh 1 _ rfl) ?_;refine j0 [] Tryz.f48 0 112 112 [0,5,28,29,6,30] [5] (lyU fb ⟨ia,im,ic⟩) (fun _=>[(5,otc V bx)]) (fun a=>FO fb ⟨some ⟨b,off,none⟩,cl,cc⟩ bn cn dn most (aZ a.s)++a.O) (fun a=>[(bn,bM dU (cg (cw t))),(dn,dm),(cn,bM dw (cg a.cm))])
  (fun a=>[OF bx (Lb,V),pS ⟨ia,im,ic⟩ x.i,lH ⟨some ⟨b,off,none⟩,cl,cc⟩ t,mS pU (aZ a.s) (es++a.E)])
  (fun a=>a.z=a.j∧a.j≤im∧wi t most a.cm∧cF 3 a.O (aZ a.s) (es++a.E).length ((es++a.E).flatMap pU.cells)∧(a.E.length:Int)≤((x.i.take a.j).map (ka t (k9 t 64))).sum∧BO (j5 t 64 (gH t 64) V) x.i R a.j a.E)
  (fun a=>im-a.j) ⟨0,0,cm,s0,O,[]⟩ ⟨rfl,aJ _,hcm,by rw[ah];exact hg,by simp,by rw[VD];exact rA _ _⟩ (eC eK (eC eK (eC eK (eC (by rw[ah];exact eK) eE)))) ?_
 rintro⟨j,z,zf,s1,O1,E1⟩ K ⟨hz,hj,vR,hg1,hE1,hl1⟩ close;simp only at hz hj vR hg1 hE1 hl1;by_cases hlt:j<im
 ·obtain⟨y,hy⟩:∃y,x.i[j]? =some y:=⟨_,ai (by omega)⟩;have Mo:=aK hy;have VM:=hF.ok x hxm y Mo;have lV:=VM.im;have VN:=hD.right x hxm y Mo;have hyb:=hF.by' x hxm y Mo;have Lw:((x.i.take (j+1)).map (ka t (k9 t 64))).sum≤(x.i.map (ka t (k9 t 64))).sum:=by
   have e0:(x.i.map (ka t (k9 t 64))).sum=((x.i.take (j+1)).map (ka t (k9 t 64))).sum+((x.i.drop (j+1)).map (ka t (k9 t 64))).sum:=by
    rw[←kq,←aT,jY]
   have e1:0≤((x.i.drop (j+1)).map (ka t (k9 t 64))).sum:=BD fun q hq=>by
    obtain⟨y',hy',rfl⟩:=List.mem_map.1 hq;exact zl (hD.cnt_nn 64) (hD.right x hxm y' (sR hy'))
   omega
  have ab3:((x.i.take (j+1)).map (ka t (k9 t 64))).sum=((x.i.take j).map (ka t (k9 t 64))).sum+ka t (k9 t 64) y:=by
   rw[fw hy,aT,kq];simp
  have hcy:=zl (t:=t) (hD.cnt_nn 64) VN;have hfit:((es++E1).length:Int)+ka t (k9 t 64) y≤100000:=by rw[aA];omega
  have next:∀(j3:List qS) (sr:List Sh),j5 t 64 (gH t 64) V y=.ok sr→j3.map qS.x=sr→((E1++j3).length:Int)≤((x.i.take (j+1)).map (ka t (k9 t 64))).sum∧BO (j5 t 64 (gH t 64) V) x.i R (j+1) (E1++j3):=fun j3 sr h1 h2=>by
   have h3:=hD.item_len (hD.lay_len 64) VN h1;have h4:j3.length=sr.length:=by rw[←h2,bI]
   refine⟨?_,hl1.step hy h1 h2⟩;rw[ab3,aA];omega
  refine wm ⟨ia,im,ic⟩ hy (fun b2 pD yf yp ha=>?_);simp only at ha;subst ha;refine bj [] 31 (decide (z<(im:Int))) (au (by omega)) ?_;refine bW [31] 2 b2 pD im ic .i64 j z hz bH hlt ?_;refine cV [] b2 (pD+j*2) [aZ yf,aZ yp] bH (cA b2 (pD+j*2)) ?_;obtain⟨LI,hLI⟩:∃LI,j5 t 64 (gH t 64) V y=LI:=⟨_,rfl⟩;rcases VM.kind with hk|hk|hk|hk|hk|hk|hk
  ·have pk:∀(Γ':List aD) [aW (mI yf yp) y Γ'],aw tb Tryz.prog 81 [lY yf yp] Γ' (jq (.int .u8 8)):=fun Γ' _=>by rw[←hk];exact gC yf yp lV
   refine aq [] (pk _).mF ?_;rintro _ _ ⟨rfl,rfl⟩;have h4:=xt VN (.inl hk);have hpl:=Bp lV;have hI:j5 t 64 (gH t 64) V y=iT y ((bJ y).dropLast.map (BP V)):=by unfold j5;rw[if_pos (.inl hk)]
   refine aq [36] (oS yf yp (x:=y) lV).mF ?_;rintro _ _ ⟨u,⟨u1,u2,u3⟩,rfl,rfl⟩;obtain⟨pb,po,hao⟩:=u3 (by intro e';rw[e']at h4;simp at h4);obtain⟨ua,un,uc⟩:=u;simp only at u1 u2 hao;subst hao;have hdl:(bJ y).dropLast.length=un-1:=by rw[sQ,u1]
   refine Ch [] 2 pb po un uc none (some (.int .i64 (IntKind.i64.wrap ((un:Int)-1)))) 0 (un-1) bH (.inr ⟨rfl,rfl⟩) (.inl (by rw[af];congr;omega)) (aJ _) (by omega) (by omega) ?_;refine gV [] [9,47] (fun a:UH=>[(9,aZ a.s),(47,.int .i64 a.z)]) (fun _=>[]) (fun a=>(FO fb ⟨some ⟨b,off,none⟩,cl,cc⟩ bn cn dn most (aZ s1)++O1)++a.O)
    (fun a=>[OF bx (Lb,V),pS ⟨some ⟨b2,pD,none⟩,im,ic⟩ x.i,mI yf yp y,lH ⟨some ⟨b,off,none⟩,cl,cc⟩ t,mS pU (aZ s1) (es++E1),zi ⟨some ⟨pb,po,none⟩,un,uc⟩ (bJ y),OS gi ((e+190)/32+1,a.l)])
    (fun a=>a.z=a.j∧a.j≤un-1∧a.l.length=a.j∧cF 40 a.O (aZ a.s) a.l.length (a.l.flatMap gi.cells)∧a.l.map jF.num=((bJ y).dropLast.take a.j).map (BP V)∧∀q∈a.l.map jF.num,Cb e q)
    (fun a=>un-1-a.j) ⟨0,0,⟨none,0,0⟩,[],[]⟩ (h0:=(by simp only[ah];kernel_rfl)) ⟨rfl,aJ _,rfl,cF.nil 40,rfl,fun q hq=>by simp at hq⟩ (eC eK (eC eK (eC eK (eC eK (eC eK (eC eK (eC (fun I w hd hh e he=>by simp at he) eE))))))) ?_
   rintro⟨q,y2,s2,O2,l⟩ K2 ⟨Ov,hq,hll,hg2,D5,hok⟩ iB;simp only at Ov hq hll hg2 D5 hok;by_cases JL:q<un-1
   ·obtain⟨p,hp⟩:∃p,(bJ y)[q]? =some p:=⟨_,ai (by omega)⟩;have hdp:(bJ y).dropLast[q]? =some p:=by rw[List.getElem?_dropLast,if_pos (by omega)];exact hp
    have hpi:=uS hyb p (aK hp);have ex:p.x.natAbs≤2^31:=by show p.x.natAbs≤2147483648;omega
    have ey:p.y.natAbs≤2^31:=by show p.y.natAbs≤2147483648;omega
    refine bj [] 48 (decide (y2<((un-1-0:Nat):Int))) (au (by omega)) ?_;refine bW [48] 2 pb (po+0*2) (un-1-0) (uc-0) .i64 q y2 Ov bH (by omega) ?_;refine cV [] pb (po+0*2+q*2) (eg p) bH (fun I w hd hh k v hv=>by
     rw[nC,ff];exact oC pb po un uc hp I w hd hh k v hv) ?_
    refine aq [] (Ps V bx p ho QV ex ey).mF ?_;rintro _ _ ⟨X,Y,rfl,rfl⟩;refine cH [] 1 (gi.cells ⟨X,Y,(BP V p).1,(BP V p).2⟩) bH (fun b8=>?_);refine W.app [] ((FO fb ⟨some ⟨b,off,none⟩,cl,cc⟩ bn cn dn most (aZ s1)++O1)++O2) (FO fb ⟨some ⟨b,off,none⟩,cl,cc⟩ bn cn dn most (aZ s1)++O1) O2 [] 40 640 l.length 1 (aZ s2) (.slice (some ⟨b8,0,none⟩) 1 1) (l.flatMap gi.cells) (gi.cells ⟨X,Y,(BP V p).1,(BP V p).2⟩) bH (by simp) hg2 (bX b8 _ 1 40 rfl 1) (pK _) (by omega) (by decide) (fun v' O' hg'=>?_);obtain⟨s',rfl⟩:=h_ hg';rw[ah ((FO fb ⟨some ⟨b,off,none⟩,cl,cc⟩ bn cn dn most (aZ s1)++O1)++O')];refine iB [] _ _ ⟨q+1,IntKind.i64.wrap (y2+1),s',O',l++[⟨X,Y,(BP V p).1,(BP V p).2⟩]⟩ (by kernel_rfl) (by kernel_rfl) ⟨by simp only[af];omega,by simp only;omega,by simp[hll],?_,?_,?_⟩ (by simp only;omega) (eC eK (eC eK (eC eK (eC eK (eC eK (eC eK (eC A6 eE)))))))
    ·simp only[aA,bp,aC,a_,bz,rC,ah];exact hg'
    ·simp only;rw[fw hdp,aT,aT,D5];rfl
    ·intro w hw;simp only[aT,dI]at hw;rcases hw with hw|hw
     ·exact hok w hw
     ·simp only[bY,dk,aF,aE,bL]at hw;subst hw;exact MY QV ex ey
   ·obtain rfl:q=un-1:=by omega
    have htk:(bJ y).dropLast.take (un-1)=(bJ y).dropLast:=aU (by omega);rw[htk]at D5;refine aQ [] 48 (decide (y2<((un-1-0:Nat):Int))) (aj (by omega)) ?_;refine k8 (FO fb ⟨some ⟨b,off,none⟩,cl,cc⟩ bn cn dn most (aZ s1)++O1) O2 [] (by rw[ah];kernel_rfl) hg2 (fun g5 g1 g2=>?_);refine qE (FO fb ⟨some ⟨b,off,none⟩,cl,cc⟩ bn cn dn most (aZ s1)++O1) ?_;obtain⟨sa,sn,sc⟩:=s2;simp only at g5 g1 g2;subst g5;refine W.more (by kernel_rfl) (JY (ao:=sa) (l:=l) (L:=(e+190)/32+1)) ?_;refine cZ [48] [] (FO fb ⟨some ⟨b,off,none⟩,cl,cc⟩ bn cn dn most (aZ s1)++O1) [] [(bn,bM dU (cg (cw t))),(dn,dm),(cn,bM dw (cg zf))] [] [] ⟨rfl,by rfl,trivial⟩ (eo:=(by simp only[ah];kernel_rfl)) (Ep fb bn cn dn ⟨some ⟨b,off,none⟩,cl,cc⟩ most s1 yf yp O1 (es++E1) sa sc l (x:=y) (L:=(e+190)/32+1) lV (DT hok) (by omega) (by omega) (by omega) hg1) ?_;rintro _ _ _ _ ⟨rfl,s3,O3,j3,vT,rfl,rfl,CG,rfl⟩;rw[ah (FO fb ⟨some ⟨b,off,none⟩,cl,cc⟩ bn cn dn most (aZ s3)++O3)];rw[D5]at vT⊢;cases hlr:iT y ((bJ y).dropLast.map (BP V))with
    |error er=>
     have wh:j5 t 64 (gH t 64) V y=.error er:=by rw[hI,hlr]
     have Ho:er=25∨er=26:=q7 (oI 64) wh;have yK:R=.error er:=hl1.err hy wh;refine bj [] 109 (er != 0) (by rcases Ho with rfl|rfl<;>rfl) ?_;refine j1 [109] (.int .i64 er) (FO fb ⟨some ⟨b,off,none⟩,cl,cc⟩ bn cn dn most (aZ s3)++O3) [(bn,bM dU (cg (cw t))),(dn,dm),(cn,bM dw (cg zf))] ⟨zf,vR,rfl,s3,O3,E1++j3,fun q h=>by rw[yK]at h;simp at h,by rw[yK];rfl,rfl,?_,rfl⟩ (eC (by rw[show es++(E1++j3)=(es++E1)++j3 by simp];exact eK) eE);rw[show es++(E1++j3)=(es++E1)++j3 by simp];exact CG
    |ok sr=>
     have wh:j5 t 64 (gH t 64) V y=.ok sr:=by rw[hI,hlr]
     obtain⟨n1,n2⟩:=next j3 sr wh (vT sr hlr)
     refine aQ [] 109 ((0:Int) != 0) (by decide) ?_;refine close [109] _ _ ⟨j+1,IntKind.i64.wrap (z+1),zf,s3,O3,E1++j3⟩ (by kernel_rfl) (by kernel_rfl) ⟨by simp only[af];omega,hlt,vR,?_,n1,n2⟩ (by simp only;omega) (eC eK (eC eK (eC eK (eC (by rw[show es++(E1++j3)=(es++E1)++j3 by simp];exact eK) eE))));simp only;rw[show es++(E1++j3)=(es++E1)++j3 by simp];exact CG
  ·have pk:∀(Γ':List aD) [aW (mI yf yp) y Γ'],aw tb Tryz.prog 81 [lY yf yp] Γ' (jq (.int .u8 9)):=fun Γ' _=>by rw[←hk];exact gC yf yp lV
   refine aq [] (pk _).mF ?_;rintro _ _ ⟨rfl,rfl⟩;obtain⟨hPC,hPl⟩:=WO (x:=y);have hI:j5 t 64 (gH t 64) V y=(if(vf V (ja y)).2=true then(if ja y=[]then .ok []else iT y (vf V (ja y)).1)
      else match jn (vf V (ja y)).1 with
      | .ok _=>.error 25
      | .error e=>.error e):=by unfold j5;rw[if_neg (by omega),if_pos hk];rfl
   refine aq [62,36] (IM yf yp (x:=y) lV).mF ?_;rintro _ _ ⟨ao,pc,pl,rfl,Oe,hpl,rfl⟩;have abX:pl.length=(ja y).length:=by rw[←hpl,bI]
   refine gV [] [6,9,71] (fun a:UH=>[(6,.int .i64 0),(9,aZ a.s),(71,.int .i64 a.z)]) (fun _=>[]) (fun a=>(FO fb ⟨some ⟨b,off,none⟩,cl,cc⟩ bn cn dn most (aZ s1)++O1)++a.O)
    (fun a=>[OF bx (Lb,V),pS ⟨some ⟨b2,pD,none⟩,im,ic⟩ x.i,mI yf yp y,lH ⟨some ⟨b,off,none⟩,cl,cc⟩ t,mS pU (aZ s1) (es++E1),OL gi ao (130,pl),OS gi ((e+190)/32+1,a.l)])
    (fun a=>a.z=a.j∧a.j≤pl.length∧a.l.length=a.j∧cF 40 a.O (aZ a.s) a.l.length (a.l.flatMap gi.cells)∧vf V (ja y)=(a.l.map jF.num++(vf V ((ja y).drop a.j)).1,(vf V ((ja y).drop a.j)).2)∧∀q∈a.l.map jF.num,Cb e q)
    (fun a=>pl.length-a.j) ⟨0,0,⟨none,0,0⟩,[],[]⟩ (h0:=(by simp only[ah];kernel_rfl)) ⟨rfl,aJ _,rfl,cF.nil 40,rfl,fun q hq=>by simp at hq⟩ (eC eK (eC eK (eC eK (eC eK (eC eK (eC eK (eC (fun I w hd hh e he=>by simp at he) eE))))))) ?_
   rintro⟨q,y2,s2,O2,l⟩ K2 ⟨Ov,hq,hll,hg2,zg,hok⟩ iB;simp only at Ov hq hll hg2 zg hok;by_cases JL:q<pl.length
   ·obtain⟨pe,QS⟩:∃pe,pl[q]? =some pe:=⟨_,ai JL⟩;have hpn:(ja y)[q]? =some (pe.X,pe.Y):=by rw[←hpl];exact Ec QS
    have hPq:=hPC _ (aK hpn);rw[Lg hpn]at zg;refine Rm ao QS rfl (fun pb po hao=>?_);subst hao;refine bj [] 72 (decide (y2<(pl.length:Int))) (au (by omega)) ?_;refine bW [72] 40 pb po pl.length pc .i64 q y2 Ov bH JL ?_;refine cV [] pb (po+q*40) (gi.cells pe) bH (zH pb po QS) ?_;cases YR:farP V (pe.X,pe.Y)with
    |none=>
     rw[YR]at zg;simp only[ah]at zg;refine aq [] (Su V bx pe.x pe.y (P:=(pe.X,pe.Y)) ho hPq YR).mF ?_;rintro _ _ ⟨rfl,rfl⟩;refine bj [] 82 ((6:Int) != 0) (by decide) ?_;refine k8 (FO fb ⟨some ⟨b,off,none⟩,cl,cc⟩ bn cn dn most (aZ s1)++O1) O2 [] (by rw[ah];kernel_rfl) hg2 (fun g5 g1 g2=>?_);refine qE (FO fb ⟨some ⟨b,off,none⟩,cl,cc⟩ bn cn dn most (aZ s1)++O1) ?_;obtain⟨sa,sn,sc⟩:=s2;simp only at g5 g1 g2;subst g5;refine W.more (by kernel_rfl) (JY (ao:=sa) (l:=l) (L:=(e+190)/32+1)) ?_;refine aq [82] (Sm fb sa sc l (L:=(e+190)/32+1) (DT hok) (by omega) (by omega)).mF ?_;rintro _ _ ⟨rfl,rfl⟩;have Vt:j5 t 64 (gH t 64) V y=match jn (l.map jF.num)with
      | .ok _=>.error 25
      | .error e=>.error e:=by rw[hI,zg];rfl
     cases VB:jn (l.map jF.num)with
     |error er=>
      rw[VB]at Vt;have Ho:=uK VB;have yK:R=.error er:=hl1.err hy Vt;subst Ho;refine bj [] 87 ((26:Int) != 0) (by decide) ?_;exact j1 [87] (.int .i64 26) (FO fb ⟨some ⟨b,off,none⟩,cl,cc⟩ bn cn dn most (aZ s1)++O1) [(bn,bM dU (cg (cw t))),(dn,dm),(cn,bM dw (cg zf))] ⟨zf,vR,rfl,s1,O1,E1,fun q h=>by rw[yK]at h;simp at h,by rw[yK];rfl,rfl,hg1,rfl⟩ (eC eK eE)
     |ok gr=>
      rw[VB]at Vt;have yK:R=.error 25:=hl1.err hy Vt;refine aQ [] 87 ((0:Int) != 0) (by decide) ?_;exact j1 [87] (.int .i64 25) (FO fb ⟨some ⟨b,off,none⟩,cl,cc⟩ bn cn dn most (aZ s1)++O1) [(bn,bM dU (cg (cw t))),(dn,dm),(cn,bM dw (cg zf))] ⟨zf,vR,rfl,s1,O1,E1,fun q h=>by rw[yK]at h;simp at h,by rw[yK];rfl,rfl,hg1,rfl⟩ (eC eK eE)
    |some fq=>
     rw[YR]at zg;simp only at zg;refine aq [] (Sv V bx pe.x pe.y (P:=(pe.X,pe.Y)) ho hPq QV YR).mF ?_;rintro _ _ ⟨X,Y,rfl,rfl⟩;refine aQ [] 82 ((0:Int) != 0) (by decide) ?_;refine cH [82] 1 (gi.cells ⟨X,Y,fq.1,fq.2⟩) bH (fun b8=>?_);refine W.app [] ((FO fb ⟨some ⟨b,off,none⟩,cl,cc⟩ bn cn dn most (aZ s1)++O1)++O2) (FO fb ⟨some ⟨b,off,none⟩,cl,cc⟩ bn cn dn most (aZ s1)++O1) O2 [] 40 640 l.length 1 (aZ s2) (.slice (some ⟨b8,0,none⟩) 1 1) (l.flatMap gi.cells) (gi.cells ⟨X,Y,fq.1,fq.2⟩) bH (by simp) hg2 (bX b8 _ 1 40 rfl 1) (pK _) (by omega) (by decide) (fun v' O' hg'=>?_);obtain⟨s',rfl⟩:=h_ hg';rw[ah ((FO fb ⟨some ⟨b,off,none⟩,cl,cc⟩ bn cn dn most (aZ s1)++O1)++O')];refine iB [] _ _ ⟨q+1,IntKind.i64.wrap (y2+1),s',O',l++[⟨X,Y,fq.1,fq.2⟩]⟩ (by kernel_rfl) (by kernel_rfl) ⟨by simp only[af];omega,by simp only;omega,by simp[hll],?_,?_,?_⟩ (by simp only;omega) (eC eK (eC eK (eC eK (eC eK (eC eK (eC eK (eC A6 eE)))))))
     ·simp only[aA,bp,aC,a_,bz,rC,ah];exact hg'
     ·simp only;rw[zg,aT,aV];rfl
     ·intro w hw;simp only[aT,dI]at hw;rcases hw with hw|hw
      ·exact hok w hw
      ·simp only[bY,dk,aF,aE,bL]at hw;subst hw;exact NH QV hPq YR
   ·obtain rfl:q=pl.length:=by omega
    rw[bu (by omega)]at zg;simp only[vf,ah]at zg;refine aQ [] 72 (decide (y2<(pl.length:Int))) (aj (by omega)) ?_;by_cases h0:0<pl.length
    ·have hne:ja y≠ []:=fun e'=>by rw[e',a_]at abX;omega
     have Vt:j5 t 64 (gH t 64) V y=iT y (l.map jF.num):=by rw[hI,zg,if_pos rfl,if_neg hne]
     refine bj [72] 96 (decide ((pl.length:Int)>0)) (au (by omega)) ?_;refine k8 (FO fb ⟨some ⟨b,off,none⟩,cl,cc⟩ bn cn dn most (aZ s1)++O1) O2 [] (by rw[ah];kernel_rfl) hg2 (fun g5 g1 g2=>?_);refine qE (FO fb ⟨some ⟨b,off,none⟩,cl,cc⟩ bn cn dn most (aZ s1)++O1) ?_;obtain⟨sa,sn,sc⟩:=s2;simp only at g5 g1 g2;subst g5;refine W.more (by kernel_rfl) (JY (ao:=sa) (l:=l) (L:=(e+190)/32+1)) ?_;refine cZ [96] [] (FO fb ⟨some ⟨b,off,none⟩,cl,cc⟩ bn cn dn most (aZ s1)++O1) [] [(bn,bM dU (cg (cw t))),(dn,dm),(cn,bM dw (cg zf))] [] [] ⟨rfl,by rfl,trivial⟩ (eo:=(by simp only[ah];kernel_rfl)) (Ep fb bn cn dn ⟨some ⟨b,off,none⟩,cl,cc⟩ most s1 yf yp O1 (es++E1) sa sc l (x:=y) (L:=(e+190)/32+1) lV (DT hok) (by omega) (by omega) (by omega) hg1) ?_;rintro _ _ _ _ ⟨rfl,s3,O3,j3,vT,rfl,rfl,CG,rfl⟩;rw[ah (FO fb ⟨some ⟨b,off,none⟩,cl,cc⟩ bn cn dn most (aZ s3)++O3)];cases hlr:iT y (l.map jF.num)with
     |error er=>
      have wh:j5 t 64 (gH t 64) V y=.error er:=by rw[Vt,hlr]
      have Ho:er=25∨er=26:=q7 (oI 64) wh;have yK:R=.error er:=hl1.err hy wh;refine bj [] 109 (er != 0) (by rcases Ho with rfl|rfl<;>rfl) ?_;refine j1 [109] (.int .i64 er) (FO fb ⟨some ⟨b,off,none⟩,cl,cc⟩ bn cn dn most (aZ s3)++O3) [(bn,bM dU (cg (cw t))),(dn,dm),(cn,bM dw (cg zf))] ⟨zf,vR,rfl,s3,O3,E1++j3,fun q h=>by rw[yK]at h;simp at h,by rw[yK];rfl,rfl,?_,rfl⟩ (eC (by rw[show es++(E1++j3)=(es++E1)++j3 by simp];exact eK) eE);rw[show es++(E1++j3)=(es++E1)++j3 by simp];exact CG
     |ok sr=>
      have wh:j5 t 64 (gH t 64) V y=.ok sr:=by rw[Vt,hlr]
      obtain⟨n1,n2⟩:=next j3 sr wh (vT sr hlr)
      refine aQ [] 109 ((0:Int) != 0) (by decide) ?_;refine close [109] _ _ ⟨j+1,IntKind.i64.wrap (z+1),zf,s3,O3,E1++j3⟩ (by kernel_rfl) (by kernel_rfl) ⟨by simp only[af];omega,hlt,vR,?_,n1,n2⟩ (by simp only;omega) (eC eK (eC eK (eC eK (eC (by rw[show es++(E1++j3)=(es++E1)++j3 by simp];exact eK) eE))));simp only;rw[show es++(E1++j3)=(es++E1)++j3 by simp];exact CG
    ·have hne:ja y=[]:=aN (by omega);have wh:j5 t 64 (gH t 64) V y=.ok []:=by rw[hI,zg,if_pos rfl,if_pos hne]
     obtain⟨n1,n2⟩:=next [] [] wh rfl
     rw[ah]at n1 n2;refine aQ [72] 96 (decide ((pl.length:Int)>0)) (aj (by omega)) ?_;refine rE (FO fb ⟨some ⟨b,off,none⟩,cl,cc⟩ bn cn dn most (aZ s1)++O1) O2 [] (by rw[ah];kernel_rfl) ?_;refine qE (FO fb ⟨some ⟨b,off,none⟩,cl,cc⟩ bn cn dn most (aZ s1)++O1) ?_;exact close [109,96] _ _ ⟨j+1,IntKind.i64.wrap (z+1),zf,s1,O1,E1⟩ (by kernel_rfl) (by kernel_rfl) ⟨by simp only[af];omega,hlt,vR,hg1,n1,n2⟩ (by simp only;omega) (eC eK (eC eK (eC eK (eC eK eE))))
  ·have pk:∀(Γ':List aD) [aW (mI yf yp) y Γ'],aw tb Tryz.prog 81 [lY yf yp] Γ' (jq (.int .u8 10)):=fun Γ' _=>by rw[←hk];exact gC yf yp lV
   refine aq [] (pk _).mF ?_;rintro _ _ ⟨rfl,rfl⟩;have hI:j5 t 64 (gH t 64) V y=pO t 64 (gH t 64) y V:=by unfold j5;rw[if_neg (by omega),if_neg (by omega),if_pos (.inl hk)]
   refine cZ [101,62,36] [] (FO fb ⟨some ⟨b,off,none⟩,cl,cc⟩ bn cn dn most (aZ s1)++O1) [] [] [(bn,bM dU (cg (cw t))),(dn,dm),(cn,bM dw (cg zf))] [] ⟨rfl,by rfl,trivial⟩ (eo:=(by simp only[ah];kernel_rfl)) (Kf fb bn cn dn (some ⟨b,off,none⟩) cl cc most dm hF hD tJ hW n ih _ yf yp (x:=y) hx Mo (.inl hk) sU V bx Lb e ho hLb QV heb zf vR s1 O1 (es++E1) hg1 hfit) ?_;rintro _ _ _ _ ⟨Ng,DV,rfl,s3,O3,j3,vT,rfl,rfl,CG,rfl⟩;rw[ah (FO fb ⟨some ⟨b,off,none⟩,cl,cc⟩ bn cn dn most (aZ s3)++O3)];cases hlr:pO t 64 (gH t 64) y V with
   |error er=>
    have wh:j5 t 64 (gH t 64) V y=.error er:=by rw[hI,hlr]
    have Ho:er=25∨er=26:=q7 (oI 64) wh;have yK:R=.error er:=hl1.err hy wh;refine bj [] 109 (er != 0) (by rcases Ho with rfl|rfl<;>rfl) ?_;refine j1 [109] (.int .i64 er) (FO fb ⟨some ⟨b,off,none⟩,cl,cc⟩ bn cn dn most (aZ s3)++O3) [(bn,bM dU (cg (cw t))),(dn,dm),(cn,bM dw (cg Ng))] ⟨Ng,DV,rfl,s3,O3,E1++j3,fun q h=>by rw[yK]at h;simp at h,by rw[yK];rfl,rfl,?_,rfl⟩ (eC (by rw[show es++(E1++j3)=(es++E1)++j3 by simp];exact eK) eE);rw[show es++(E1++j3)=(es++E1)++j3 by simp];exact CG
   |ok sr=>
    have wh:j5 t 64 (gH t 64) V y=.ok sr:=by rw[hI,hlr]
    obtain⟨n1,n2⟩:=next j3 sr wh (vT sr hlr)
    refine aQ [] 109 ((0:Int) != 0) (by decide) ?_;refine close [109] _ _ ⟨j+1,IntKind.i64.wrap (z+1),Ng,s3,O3,E1++j3⟩ (by kernel_rfl) (by kernel_rfl) ⟨by simp only[af];omega,hlt,DV,?_,n1,n2⟩ (by simp only;omega) (eC eK (eC eK (eC eK (eC (by rw[show es++(E1++j3)=(es++E1)++j3 by simp];exact eK) eE))));simp only;rw[show es++(E1++j3)=(es++E1)++j3 by simp];exact CG
  ·have pk:∀(Γ':List aD) [aW (mI yf yp) y Γ'],aw tb Tryz.prog 81 [lY yf yp] Γ' (jq (.int .u8 11)):=fun Γ' _=>by rw[←hk];exact gC yf yp lV
   refine aq [] (pk _).mF ?_;rintro _ _ ⟨rfl,rfl⟩;have hI:j5 t 64 (gH t 64) V y=pO t 64 (gH t 64) y V:=by unfold j5;rw[if_neg (by omega),if_neg (by omega),if_pos (.inr hk)]
   refine cZ [101,62,36] [] (FO fb ⟨some ⟨b,off,none⟩,cl,cc⟩ bn cn dn most (aZ s1)++O1) [] [] [(bn,bM dU (cg (cw t))),(dn,dm),(cn,bM dw (cg zf))] [] ⟨rfl,by rfl,trivial⟩ (eo:=(by simp only[ah];kernel_rfl)) (Kf fb bn cn dn (some ⟨b,off,none⟩) cl cc most dm hF hD tJ hW n ih _ yf yp (x:=y) hx Mo (.inr hk) sU V bx Lb e ho hLb QV heb zf vR s1 O1 (es++E1) hg1 hfit) ?_;rintro _ _ _ _ ⟨Ng,DV,rfl,s3,O3,j3,vT,rfl,rfl,CG,rfl⟩;rw[ah (FO fb ⟨some ⟨b,off,none⟩,cl,cc⟩ bn cn dn most (aZ s3)++O3)];cases hlr:pO t 64 (gH t 64) y V with
   |error er=>
    have wh:j5 t 64 (gH t 64) V y=.error er:=by rw[hI,hlr]
    have Ho:er=25∨er=26:=q7 (oI 64) wh;have yK:R=.error er:=hl1.err hy wh;refine bj [] 109 (er != 0) (by rcases Ho with rfl|rfl<;>rfl) ?_;refine j1 [109] (.int .i64 er) (FO fb ⟨some ⟨b,off,none⟩,cl,cc⟩ bn cn dn most (aZ s3)++O3) [(bn,bM dU (cg (cw t))),(dn,dm),(cn,bM dw (cg Ng))] ⟨Ng,DV,rfl,s3,O3,E1++j3,fun q h=>by rw[yK]at h;simp at h,by rw[yK];rfl,rfl,?_,rfl⟩ (eC (by rw[show es++(E1++j3)=(es++E1)++j3 by simp];exact eK) eE);rw[show es++(E1++j3)=(es++E1)++j3 by simp];exact CG
   |ok sr=>
    have wh:j5 t 64 (gH t 64) V y=.ok sr:=by rw[hI,hlr]
    obtain⟨n1,n2⟩:=next j3 sr wh (vT sr hlr)
    refine aQ [] 109 ((0:Int) != 0) (by decide) ?_;refine close [109] _ _ ⟨j+1,IntKind.i64.wrap (z+1),Ng,s3,O3,E1++j3⟩ (by kernel_rfl) (by kernel_rfl) ⟨by simp only[af];omega,hlt,DV,?_,n1,n2⟩ (by simp only;omega) (eC eK (eC eK (eC eK (eC (by rw[show es++(E1++j3)=(es++E1)++j3 by simp];exact eK) eE))));simp only;rw[show es++(E1++j3)=(es++E1)++j3 by simp];exact CG
  ·have pk:∀(Γ':List aD) [aW (mI yf yp) y Γ'],aw tb Tryz.prog 81 [lY yf yp] Γ' (jq (.int .u8 12)):=fun Γ' _=>by rw[←hk];exact gC yf yp lV
   refine aq [] (pk _).mF ?_;rintro _ _ ⟨rfl,rfl⟩;have wh:j5 t 64 (gH t 64) V y=.ok []:=by unfold j5;rw[if_neg (by omega),if_neg (by omega),if_neg (by omega)]
   obtain⟨n1,n2⟩:=next [] [] wh rfl
   rw[ah]at n1 n2;exact close [109,101,62,36] _ _ ⟨j+1,IntKind.i64.wrap (z+1),zf,s1,O1,E1⟩ (by kernel_rfl) (by kernel_rfl) ⟨by simp only[af];omega,hlt,vR,hg1,n1,n2⟩ (by simp only;omega) (eC eK (eC eK (eC eK (eC eK eE))))
  ·have pk:∀(Γ':List aD) [aW (mI yf yp) y Γ'],aw tb Tryz.prog 81 [lY yf yp] Γ' (jq (.int .u8 21)):=fun Γ' _=>by rw[←hk];exact gC yf yp lV
   refine aq [] (pk _).mF ?_;rintro _ _ ⟨rfl,rfl⟩;have wh:j5 t 64 (gH t 64) V y=.ok []:=by unfold j5;rw[if_neg (by omega),if_neg (by omega),if_neg (by omega)]
   obtain⟨n1,n2⟩:=next [] [] wh rfl
   rw[ah]at n1 n2;exact close [109,101,62,36] _ _ ⟨j+1,IntKind.i64.wrap (z+1),zf,s1,O1,E1⟩ (by kernel_rfl) (by kernel_rfl) ⟨by simp only[af];omega,hlt,vR,hg1,n1,n2⟩ (by simp only;omega) (eC eK (eC eK (eC eK (eC eK eE))))
  ·have pk:∀(Γ':List aD) [aW (mI yf yp) y Γ'],aw tb Tryz.prog 81 [lY yf yp] Γ' (jq (.int .u8 45)):=fun Γ' _=>by rw[←hk];exact gC yf yp lV
   refine aq [] (pk _).mF ?_;rintro _ _ ⟨rfl,rfl⟩;have h4:=xt VN (.inr hk);have hpl:=Bp lV;have hI:j5 t 64 (gH t 64) V y=iT y ((bJ y).dropLast.map (BP V)):=by unfold j5;rw[if_pos (.inr hk)]
   refine aq [36] (oS yf yp (x:=y) lV).mF ?_;rintro _ _ ⟨u,⟨u1,u2,u3⟩,rfl,rfl⟩;obtain⟨pb,po,hao⟩:=u3 (by intro e';rw[e']at h4;simp at h4);obtain⟨ua,un,uc⟩:=u;simp only at u1 u2 hao;subst hao;have hdl:(bJ y).dropLast.length=un-1:=by rw[sQ,u1]
   refine Ch [] 2 pb po un uc none (some (.int .i64 (IntKind.i64.wrap ((un:Int)-1)))) 0 (un-1) bH (.inr ⟨rfl,rfl⟩) (.inl (by rw[af];congr;omega)) (aJ _) (by omega) (by omega) ?_;refine gV [] [9,47] (fun a:UH=>[(9,aZ a.s),(47,.int .i64 a.z)]) (fun _=>[]) (fun a=>(FO fb ⟨some ⟨b,off,none⟩,cl,cc⟩ bn cn dn most (aZ s1)++O1)++a.O)
    (fun a=>[OF bx (Lb,V),pS ⟨some ⟨b2,pD,none⟩,im,ic⟩ x.i,mI yf yp y,lH ⟨some ⟨b,off,none⟩,cl,cc⟩ t,mS pU (aZ s1) (es++E1),zi ⟨some ⟨pb,po,none⟩,un,uc⟩ (bJ y),OS gi ((e+190)/32+1,a.l)])
    (fun a=>a.z=a.j∧a.j≤un-1∧a.l.length=a.j∧cF 40 a.O (aZ a.s) a.l.length (a.l.flatMap gi.cells)∧a.l.map jF.num=((bJ y).dropLast.take a.j).map (BP V)∧∀q∈a.l.map jF.num,Cb e q)
    (fun a=>un-1-a.j) ⟨0,0,⟨none,0,0⟩,[],[]⟩ (h0:=(by simp only[ah];kernel_rfl)) ⟨rfl,aJ _,rfl,cF.nil 40,rfl,fun q hq=>by simp at hq⟩ (eC eK (eC eK (eC eK (eC eK (eC eK (eC eK (eC (fun I w hd hh e he=>by simp at he) eE))))))) ?_
   rintro⟨q,y2,s2,O2,l⟩ K2 ⟨Ov,hq,hll,hg2,D5,hok⟩ iB;simp only at Ov hq hll hg2 D5 hok;by_cases JL:q<un-1
   ·obtain⟨p,hp⟩:∃p,(bJ y)[q]? =some p:=⟨_,ai (by omega)⟩;have hdp:(bJ y).dropLast[q]? =some p:=by rw[List.getElem?_dropLast,if_pos (by omega)];exact hp
    have hpi:=uS hyb p (aK hp);have ex:p.x.natAbs≤2^31:=by show p.x.natAbs≤2147483648;omega
    have ey:p.y.natAbs≤2^31:=by show p.y.natAbs≤2147483648;omega
    refine bj [] 48 (decide (y2<((un-1-0:Nat):Int))) (au (by omega)) ?_;refine bW [48] 2 pb (po+0*2) (un-1-0) (uc-0) .i64 q y2 Ov bH (by omega) ?_;refine cV [] pb (po+0*2+q*2) (eg p) bH (fun I w hd hh k v hv=>by
     rw[nC,ff];exact oC pb po un uc hp I w hd hh k v hv) ?_
    refine aq [] (Ps V bx p ho QV ex ey).mF ?_;rintro _ _ ⟨X,Y,rfl,rfl⟩;refine cH [] 1 (gi.cells ⟨X,Y,(BP V p).1,(BP V p).2⟩) bH (fun b8=>?_);refine W.app [] ((FO fb ⟨some ⟨b,off,none⟩,cl,cc⟩ bn cn dn most (aZ s1)++O1)++O2) (FO fb ⟨some ⟨b,off,none⟩,cl,cc⟩ bn cn dn most (aZ s1)++O1) O2 [] 40 640 l.length 1 (aZ s2) (.slice (some ⟨b8,0,none⟩) 1 1) (l.flatMap gi.cells) (gi.cells ⟨X,Y,(BP V p).1,(BP V p).2⟩) bH (by simp) hg2 (bX b8 _ 1 40 rfl 1) (pK _) (by omega) (by decide) (fun v' O' hg'=>?_);obtain⟨s',rfl⟩:=h_ hg';rw[ah ((FO fb ⟨some ⟨b,off,none⟩,cl,cc⟩ bn cn dn most (aZ s1)++O1)++O')];refine iB [] _ _ ⟨q+1,IntKind.i64.wrap (y2+1),s',O',l++[⟨X,Y,(BP V p).1,(BP V p).2⟩]⟩ (by kernel_rfl) (by kernel_rfl) ⟨by simp only[af];omega,by simp only;omega,by simp[hll],?_,?_,?_⟩ (by simp only;omega) (eC eK (eC eK (eC eK (eC eK (eC eK (eC eK (eC A6 eE)))))))
    ·simp only[aA,bp,aC,a_,bz,rC,ah];exact hg'
    ·simp only;rw[fw hdp,aT,aT,D5];rfl
    ·intro w hw;simp only[aT,dI]at hw;rcases hw with hw|hw
     ·exact hok w hw
     ·simp only[bY,dk,aF,aE,bL]at hw;subst hw;exact MY QV ex ey
   ·obtain rfl:q=un-1:=by omega
    have htk:(bJ y).dropLast.take (un-1)=(bJ y).dropLast:=aU (by omega);rw[htk]at D5;refine aQ [] 48 (decide (y2<((un-1-0:Nat):Int))) (aj (by omega)) ?_;refine k8 (FO fb ⟨some ⟨b,off,none⟩,cl,cc⟩ bn cn dn most (aZ s1)++O1) O2 [] (by rw[ah];kernel_rfl) hg2 (fun g5 g1 g2=>?_);refine qE (FO fb ⟨some ⟨b,off,none⟩,cl,cc⟩ bn cn dn most (aZ s1)++O1) ?_;obtain⟨sa,sn,sc⟩:=s2;simp only at g5 g1 g2;subst g5;refine W.more (by kernel_rfl) (JY (ao:=sa) (l:=l) (L:=(e+190)/32+1)) ?_;refine cZ [48] [] (FO fb ⟨some ⟨b,off,none⟩,cl,cc⟩ bn cn dn most (aZ s1)++O1) [] [(bn,bM dU (cg (cw t))),(dn,dm),(cn,bM dw (cg zf))] [] [] ⟨rfl,by rfl,trivial⟩ (eo:=(by simp only[ah];kernel_rfl)) (Ep fb bn cn dn ⟨some ⟨b,off,none⟩,cl,cc⟩ most s1 yf yp O1 (es++E1) sa sc l (x:=y) (L:=(e+190)/32+1) lV (DT hok) (by omega) (by omega) (by omega) hg1) ?_;rintro _ _ _ _ ⟨rfl,s3,O3,j3,vT,rfl,rfl,CG,rfl⟩;rw[ah (FO fb ⟨some ⟨b,off,none⟩,cl,cc⟩ bn cn dn most (aZ s3)++O3)];rw[D5]at vT⊢;cases hlr:iT y ((bJ y).dropLast.map (BP V))with
    |error er=>
     have wh:j5 t 64 (gH t 64) V y=.error er:=by rw[hI,hlr]
     have Ho:er=25∨er=26:=q7 (oI 64) wh;have yK:R=.error er:=hl1.err hy wh;refine bj [] 109 (er != 0) (by rcases Ho with rfl|rfl<;>rfl) ?_;refine j1 [109] (.int .i64 er) (FO fb ⟨some ⟨b,off,none⟩,cl,cc⟩ bn cn dn most (aZ s3)++O3) [(bn,bM dU (cg (cw t))),(dn,dm),(cn,bM dw (cg zf))] ⟨zf,vR,rfl,s3,O3,E1++j3,fun q h=>by rw[yK]at h;simp at h,by rw[yK];rfl,rfl,?_,rfl⟩ (eC (by rw[show es++(E1++j3)=(es++E1)++j3 by simp];exact eK) eE);rw[show es++(E1++j3)=(es++E1)++j3 by simp];exact CG
    |ok sr=>
     have wh:j5 t 64 (gH t 64) V y=.ok sr:=by rw[hI,hlr]
     obtain⟨n1,n2⟩:=next j3 sr wh (vT sr hlr)
     refine aQ [] 109 ((0:Int) != 0) (by decide) ?_;refine close [109] _ _ ⟨j+1,IntKind.i64.wrap (z+1),zf,s3,O3,E1++j3⟩ (by kernel_rfl) (by kernel_rfl) ⟨by simp only[af];omega,hlt,vR,?_,n1,n2⟩ (by simp only;omega) (eC eK (eC eK (eC eK (eC (by rw[show es++(E1++j3)=(es++E1)++j3 by simp];exact eK) eE))));simp only;rw[show es++(E1++j3)=(es++E1)++j3 by simp];exact CG
 ·have TL:R=.ok (E1.map qS.x):=hl1.fin (by omega);refine aQ [] 31 (decide (z<(im:Int))) (aj (by omega)) ?_;exact j1 [31] (.int .i64 0) (FO fb ⟨some ⟨b,off,none⟩,cl,cc⟩ bn cn dn most (aZ s1)++O1) [(bn,bM dU (cg (cw t))),(dn,dm),(cn,bM dw (cg zf))] ⟨zf,vR,rfl,s1,O1,E1,fun q h=>by rw[TL]at h;injection h,by rw[TL];rfl,rfl,hg1,rfl⟩ (eC eK eE)
theorem Ug(fb bn cn dn:Nat)(ca:Option Addr)(cl cc:Nat)(most:Int)(dm:List (Value×Value)){t:List Ce}(hF:S6 t)(hD:EU t)(tJ:0≤most∧most≤100000)(hW:xw t≤160):∀n,Rg fb bn cn dn ca cl cc most dm t n
 |0=>fun Γ _ c i d hc hi sU=>by simp[dep]at sU
 |n+1=>Wv fb bn cn dn ca cl cc most dm hF hD tJ hW n (Ug fb bn cn dn ca cl cc most dm hF hD tJ hW n)
end
def zX(nm:List (Int×Value))(L:List Int):Prop:=∀k,gw k nm=if k∈L then some (.bool true)else none
theorem zX.nil:zX [] []:=fun k=>rfl
theorem zX.set{nm:List (Int×Value)}{L:List Int}(h:zX nm L)(k:Int):zX (lk k (.bool true) nm) (L++[k]):=fun j=>by
 rw[iq,h j];by_cases hj:j=k
 ·subst hj;simp
 ·simp[hj]
theorem zX.look{nm:List (Int×Value)}{L:List Int}(h:zX nm L)(k:Int):(gw k nm).getD (.bool false)=.bool (decide (k∈L)):=by
 rw[h k];by_cases hk:k∈L<;>simp[hk]
def wT(t:List Ce)(l:List Ce):List Int:=l.flatMap (iR (cw t))
theorem F8{t:List Ce}(h:lost t=false)(c:Nat):decide ((c:Int)∈wT t t)=rV t c:=by
 have e1:((c:Int)∈wT t t)↔∃a,a<t.length∧c∈fy t a:=by
  unfold wT;rw[List.mem_flatMap];constructor
  ·rintro⟨x,hx,hc⟩;obtain⟨a,ha,he⟩:=uz hx;have hax:t[a]? =some x:=by rw[ai ha,he]
   rw[D9 h hax,zW]at hc;obtain⟨k,hk,e⟩:=hc;exact⟨a,ha,by rw[←Int.natCast_inj.1 e];exact hk⟩
  ·rintro⟨a,ha,hc⟩;have hax:t[a]? =some t[a]:=ai ha;exact⟨t[a],dY ha,by rw[D9 h hax];exact List.mem_map.2 ⟨c,hc,rfl⟩⟩
 unfold rV;by_cases hc:(c:Int)∈wT t t
 ·rw[au hc];obtain⟨a,ha,hk⟩:=e1.1 hc;have h1:(fy t a).contains c=true:=List.contains_iff_mem.2 hk;exact(List.any_eq_true.2 ⟨a,List.mem_range.2 ha,h1⟩).symm
 ·rw[aj hc];refine(List.any_eq_false.2 fun a ha hk=>hc (e1.2 ⟨a,List.mem_range.1 ha,?_⟩)).symm;have h1:(fy t a).contains c=true:=hk;exact List.contains_iff_mem.1 h1
theorem Aq(t:List Ce)(c:Ce):∀(l:List Ce) (i:Nat),yF t (l++[c]) i=(yF t l i|| !(kJ t (jG c)==some (i+l.length)))
 | [],i=>by simp[yF]
 |a::l,i=>by
  simp only[cT,yF,Aq t c l (i+1),aC,Bool.or_assoc];rw[show i+1+l.length=i+(l.length+1)by omega]
theorem RV{t:List Ce}{c:Ce}(h:c∈t):∃k,kJ t (jG c)=some k:=AJ ⟨c,h,rfl⟩
theorem CT{t:List Ce}{j:Nat}{x:Ce}(hx:t[j]? =some x)(h:qp t x=true):lost t=true:=List.any_eq_true.2 ⟨x,aK hx,h⟩
theorem Gj{t:List Ce}(h:∀(j:Nat) (x:Ce),t[j]? =some x→qp t x=false):lost t=false:=by
 unfold lost;rw[jd];intro x hx;obtain⟨j,hj⟩:=mP hx;rw[h j x hj];simp
theorem No{t:List Ce}:∀{d n c:Nat},dep t n c=some d→dep t d c=some d:=by
 intro d
 induction d using Nat.strongRecOn with
 |ind d ih=>
 intro n c h;cases n with
 |zero=>simp[dep]at h
 |succ n=>
  unfold dep at h;cases hq:jE (dep t n) (fy t c) 0 with
  |none=>rw[hq]at h;simp at h
  |some r=>
   rw[hq]at h;simp only[c_,ar]at h;subst h;unfold dep;have:jE (dep t r) (fy t c) 0=some r:=by
    rw[←hq];refine o8 fun k hk=>?_;obtain⟨e,he,hle⟩:=(mg hq).2 k hk;rw[he];exact nL (ih e (by omega) he) hle
   rw[this];rfl
theorem uo(f:Nat→Int){j n:Nat}(h:j<n):(((List.range n).take (j+1)).map f).sum=(((List.range n).take j).map f).sum+f j:=by
 have hj:(List.range n)[j]? =some j:=uw h;rw[fw hj,aT,kq];simp
theorem DB{T:Tb}{P:Program}{f:FuncId}{args:List Value}{Oin:List (Nat×List Value)}{M M':List (Nat×List (Value×Value))}{Γ:List aD}{post:Value→List (Nat×List Value)→List (Nat×List (Value×Value))→List aD→Prop}
  (h:dB T P f args Oin M Γ post)(hm:M.Perm M'):dB T P f args Oin M' Γ post:=by
 have e:gI Oin M=gI Oin M':=by
  funext b;unfold gI;apply propext;constructor
  ·rintro(h|⟨m,h⟩)
   ·exact .inl h
   ·exact .inr ⟨m,hm.mem_iff.1 h⟩
  ·rintro(h|⟨m,h⟩)
   ·exact .inl h
   ·exact .inr ⟨m,hm.mem_iff.2 h⟩
 refine⟨h.1,fun I w hd hh ho hon hma hmn hx=>?_⟩;rw[←e]at hx⊢;exact h.2 I w hd hh ho hon (fun b m hb=>hma b m (hm.mem_iff.1 hb)) ((hm.map (·.1)).nodup_iff.2 hmn) hx
structure Xu where
 j:Nat
 z:Int
 f:Bool
 nm:List (Int×Value)
structure CkB where
 j:Nat
 z:Int
 d:Nat
 dm:List (Int×Int)
structure CkD where
 j:Nat
 z:Int
 n:Int
 cm:List (Int×Int)
def ck0(fb mb:Nat)(cs:Sl):Xu→List (Nat×SV):=fun a=>[(0,.val (fo fb)),(4,.val (.map (some mb))),(27,.val (aZ cs)),(28,.val (.int .i64 cs.n)),(3,.val (.bool a.f)),(2,.val (.int .i64 0)),(29,.val (.int .i64 a.z))]
def ck1(fb mb:Nat)(n:Nat)(f:Bool):CkB→List (Nat×SV):=fun a=>[(0,.val (fo fb)),(3,.val (.bool f)),(4,.val (.map (some mb))),(68,.val (.int .i64 n)),(2,.val (.int .i64 0)),(11,.val (.int .i64 a.d)),(69,.val (.int .i64 a.z))]
def ck2(fb mb:Nat)(cs:Sl)(d:Nat):Xu→List (Nat×SV):=fun a=>[(0,.val (fo fb)),(2,.val (.int .i64 0)),(4,.val (.map (some mb))),(11,.val (.int .i64 d)),(87,.val (aZ cs)),(88,.val (.int .i64 cs.n)),(3,.val (.bool a.f)),(89,.val (.int .i64 a.z))]
def ck3(fb mb:Nat)(n:Nat):CkD→List (Nat×SV):=fun a=>[(0,.val (fo fb)),(2,.val (.int .i64 0)),(4,.val (.map (some mb))),(117,.val (.int .i64 n)),(19,.val (.int .i64 a.n)),(118,.val (.int .i64 a.z))]
def ck4(fb mb:Nat)(n:Nat):MA→List (Nat×SV):=fun a=>[(0,.val (fo fb)),(4,.val (.map (some mb))),(147,.val (.int .i64 n)),(2,.val (.int .i64 0)),(148,.val (.int .i64 a.z))]
theorem Wp(I:fQ)(w:World)(hd:br tb I w):(OF ⟨b_,b_,b_,b_,b_⟩ (0,Wr)).p I w:=by
 have h:=(ln (Γ:=[]) (L':=0) I w hd (aG.nil _ _)).h0';exact⟨h,h,h,h,h⟩
theorem Pb(v:Value)(I:fQ)(w:World):(mS pU v []).p I w:=fun e he=>by simp at he
section
theorem Sg(fb bn cn dn:Nat)(ca:Option Addr)(cl cc:Nat)(most:Int){t:List Ce}(hF:S6 t)(tJ:0≤most∧most≤100000)(hW:xw t≤160)(Γ:List aD) [aW (lH ⟨ca,cl,cc⟩) t Γ]:
  dB KG Tryz.prog 28 [fo fb] (FO fb ⟨ca,cl,cc⟩ bn cn dn most (.slice none 0 0)) [(bn,bM dU (cg (cw t))),(dn,[]),(cn,[])] Γ (fun v O _ Δ=>Dz (vt t most) (fun v=>FO fb ⟨ca,cl,cc⟩ bn cn dn most v) [] v O Δ):=by
 obtain⟨R,hR⟩:∃R,vt t most=R:=⟨_,rfl⟩;have hR2:=hR;unfold vt at hR2;rw[hR];have back:∀e:Int,R=.error e→∀(Γ':List aD),Dz R (fun v=>FO fb ⟨ca,cl,cc⟩ bn cn dn most v) [] (.int .i64 e) (FO fb ⟨ca,cl,cc⟩ bn cn dn most (.slice none 0 0)) [mS pU (aZ ⟨none,0,0⟩) ([]++[])]:=fun e he Γ'=>
  ⟨⟨none,0,0⟩,[],[],fun q h=>by rw[he]at h;simp at h,by rw[he];rfl,rfl,cF.nil 3,rfl⟩
 have K5:∀(Γ':List aD) (I:fQ) (w:World),br KG I w→aG Γ' I w→aG [mS pU (aZ ⟨none,0,0⟩) ([]++[])] I w:=fun Γ' I w _ _=>aS (Pb _ I w);refine dB.of_W bH Tryz.func28 rfl ?_;refine W.len g8 lj.x ⟨ca,cl,cc⟩ rfl (fun c1 c2 c3=>?_);simp only at c1 c2 c3;have htl:=hF.tl;refine Jh [] (FO fb ⟨ca,cl,cc⟩ bn cn dn most (.slice none 0 0)) [(bn,bM dU (cg (cw t))),(dn,[]),(cn,[])] (fun mb=>?_);refine bZ [] 0 fb 0 bH ?_;refine dR [] (FO fb ⟨ca,cl,cc⟩ bn cn dn most (.slice none 0 0)) fb (0+0) 1 [.slice ca cl cc,.map (some bn),.map (some cn),.map (some dn),.int .i64 most,.slice none 0 0] (.slice ca cl cc) bH (.head _) rfl ?_;refine j0 [] Tryz.f28 0 163 163 [0,4,27,28,3,2,29] [] (ck0 fb mb ⟨ca,cl,cc⟩) (fun _=>[]) (fun _=>FO fb ⟨ca,cl,cc⟩ bn cn dn most (.slice none 0 0)) (fun a=>[(mb,bM dw a.nm),(bn,bM dU (cg (cw t))),(dn,[]),(cn,[])]) (fun a=>[lH ⟨ca,cl,cc⟩ t])
  (fun a=>a.z=a.j∧a.j≤cl∧a.f=yF t (t.take a.j) 0∧zX a.nm (wT t (t.take a.j))∧∀(i:Nat) (x:Ce),i<a.j→t[i]? =some x→qp t x=false) (fun a=>cl-a.j) ⟨0,0,false,[]⟩ ⟨rfl,aJ _,rfl,zX.nil,fun i x hi=>absurd hi (hZ _)⟩ (eC eK eE) ?_
 rintro⟨j,z,f,nm⟩ K ⟨hz,hj,hf,hnm,hlo⟩ close;simp only at hz hj hf hnm hlo;by_cases hlt:j<cl
 ·obtain⟨x,hx⟩:∃x,t[j]? =some x:=⟨_,ai (by omega)⟩;have hxm:=aK hx;obtain⟨k,hk⟩:=RV hxm;have Lr:gw (jG x) (cg (cw t))=some (.int .i64 (k:Int)):=by
   rw[mT,vL,hk];rfl
  have RN:yF t (t.take (j+1)) 0=(f|| !((k:Int)==z)):=by
   have e1:(some k==some j)=((k:Int)==(j:Int)):=by
    by_cases hkj:k=j
    ·subst hkj;simp
    ·have h2:(k:Int)≠(j:Int):=by omega
     rw[beq_eq_false_iff_ne.2 h2,beq_eq_false_iff_ne.2 (fun h=>hkj (Option.some.inj h))]
   rw[fw hx,Aq,←hf,hk,dG,bQ,fr (by omega),hz,e1]
  refine sI ⟨ca,cl,cc⟩ hx (fun b off fh fi ha=>?_);simp only at ha;subst ha;refine bj [] 30 (decide (z<(cl:Int))) (au (by omega)) ?_;refine bW [30] 2 b off cl cc .i64 j z hz bH hlt ?_;refine cV [] b (off+j*2) [aZ fh,aZ fi] bH (cA b (off+j*2)) ?_;refine bZ [] 1 fb 0 bH ?_;refine dR [] (FO fb ⟨some ⟨b,off,none⟩,cl,cc⟩ bn cn dn most (.slice none 0 0)) fb (0+1) 1 [.slice (some ⟨b,off,none⟩) cl cc,.map (some bn),.map (some cn),.map (some dn),.int .i64 most,.slice none 0 0] (.map (some bn)) bH (.head _) rfl ?_;refine aq [] (uM fh fi (x:=x)).mF ?_;rintro _ _ ⟨rfl,rfl⟩;refine vm [] dU 69 9 3 true (FO fb ⟨some ⟨b,off,none⟩,cl,cc⟩ bn cn dn most (.slice none 0 0)) [(mb,bM dw nm),(bn,bM dU (cg (cw t))),(dn,[]),(cn,[])] bn (jG x) (cg (cw t)) (.int .i64 0) bH (.tail _ (.head _)) ?_;rw[Lr];refine bj [] 45 true rfl ?_;by_cases hkz:(k:Int)=z
  ·refine aQ [45] 49 ((k:Int) != z) (by rw[hkz];simp) ?_;rw[hkz,beq_self_eq_true,Bool.not_true,Bool.or_false]at RN;refine cZ [49] [] (FO fb ⟨some ⟨b,off,none⟩,cl,cc⟩ bn cn dn most (.slice none 0 0)) [] [(mb,bM dw nm)] [(bn,bM dU (cg (cw t)))] [(dn,[]),(cn,[])] ⟨rfl,by rfl,trivial⟩ (IK fb bn cn dn ⟨some ⟨b,off,none⟩,cl,cc⟩ most (.slice none 0 0) z (i:=j) hz (t:=t) hx (hF.ce x hxm) (hF.len x hxm) (cw t)) ?_;rintro _ _ _ _ ⟨u,hu,rfl,rfl,rfl,rfl⟩;obtain⟨ua,un,uc⟩:=u;simp only at hu;refine E0 [] [2,54] (fun a:Xu=>[(2,.int .i64 0),(54,.int .i64 a.z)]) (fun _=>[]) (fun _=>FO fb ⟨some ⟨b,off,none⟩,cl,cc⟩ bn cn dn most (.slice none 0 0)) (fun a=>[(mb,bM dw a.nm),(bn,bM dU (cg (cw t))),(dn,[]),(cn,[])]) (fun a=>[NL ⟨ua,un,uc⟩ (iR (cw t) x),lH ⟨some ⟨b,off,none⟩,cl,cc⟩ t])
    (fun a=>a.z=a.j∧a.j≤un∧zX a.nm (wT t (t.take j)++(iR (cw t) x).take a.j)∧∀k∈(iR (cw t) x).take a.j,¬k<0) (fun a=>un-a.j) ⟨0,0,false,nm⟩ ⟨rfl,aJ _,by simpa using hnm,fun k hk=>by simp at hk⟩ (eC eK (eC eK eE)) ?_
   rintro⟨q,y,g,Ra⟩ K2 ⟨hy,hq,AF,hpos⟩ iB;simp only at hy hq AF hpos;refine MQ ⟨ua,un,uc⟩ (l:=iR (cw t) x) rfl (fun _ hu2 hu3=>?_);simp only at hu2 hu3;by_cases JL:q<un
   ·obtain⟨kk,Ls⟩:∃kk,(iR (cw t) x)[q]? =some kk:=⟨_,ai (by omega)⟩;have hkm:=aK Ls;obtain⟨bb,o2,hao⟩:=hu3 (by intro e;rw[e]at hkm;simp at hkm);subst hao;refine bj [] 55 (decide (y<(un:Int))) (au (by omega)) ?_;refine bW [55] 1 bb o2 un uc .i64 q y hy bH JL ?_;refine dJ [] 1 bb (o2+q*1) (.int .i64 kk) bH (sL bb o2 un uc Ls) ?_;by_cases hneg:kk<0
    ·have hl:=CT hx (uL.1 ⟨kk,hkm,hneg⟩);rw[if_pos hl]at hR2;refine bj [] 59 (decide (kk<0)) (au hneg) ?_;exact j1 [59] (.int .i64 23) (FO fb ⟨some ⟨b,off,none⟩,cl,cc⟩ bn cn dn most (.slice none 0 0)) [(mb,bM dw Ra),(bn,bM dU (cg (cw t))),(dn,[]),(cn,[])] (back 23 hR2.symm Γ) (K5 _)
    ·refine aQ [] 59 (decide (kk<0)) (aj hneg) ?_;refine Cf [59] dw 104 3 4 (FO fb ⟨some ⟨b,off,none⟩,cl,cc⟩ bn cn dn most (.slice none 0 0)) [] [(bn,bM dU (cg (cw t))),(dn,[]),(cn,[])] mb kk (.bool true) Ra ?_;refine iB [] _ _ ⟨q+1,IntKind.i64.wrap (y+1),false,lk kk (.bool true) Ra⟩ (by kernel_rfl) (by kernel_rfl) ⟨by simp only[af];omega,JL,?_,fun k' hk'=>?_⟩ (by simp only;omega) (eC eK (eC eK eE))
     ·simp only;rw[fw Ls,←aV];exact AF.set kk
     ·simp only at hk';rw[fw Ls,dI]at hk';rcases hk' with h|h
      ·exact hpos k' h
      ·simp only[aF,aE,bL]at h;rw[h];exact hneg
   ·have hall:(iR (cw t) x).take q=iR (cw t) x:=aU (by omega);rw[hall]at AF hpos;refine aQ [] 55 (decide (y<(un:Int))) (aj (by omega)) ?_;refine close [55] _ _ ⟨j+1,IntKind.i64.wrap (z+1),f,Ra⟩ (by kernel_rfl) (by kernel_rfl) ⟨by simp only[af];omega,hlt,RN.symm,?_,fun i' x' hi' hx'=>?_⟩ (by simp only;omega) (eC eK eE)
    ·simp only;unfold wT at AF⊢;rw[fw hx,bp];simpa using AF
    ·simp only at hi';by_cases hij:i'<j
     ·exact hlo i' x' hij hx'
     ·obtain rfl:i'=j:=by omega
      rw[hx]at hx';injection hx' with hx';subst hx';cases hlc:qp t x with
      |false=>rfl
      |true=>
       obtain⟨k',h1,h2⟩:=uL.2 hlc;exact absurd h2 (hpos k' h1)
  ·refine bj [45] 49 ((k:Int) != z) (by simpa using hkz) ?_;rw[beq_eq_false_iff_ne.2 hkz,Bool.not_false,Bool.or_true]at RN;refine cZ [49] [] (FO fb ⟨some ⟨b,off,none⟩,cl,cc⟩ bn cn dn most (.slice none 0 0)) [] [(mb,bM dw nm)] [(bn,bM dU (cg (cw t)))] [(dn,[]),(cn,[])] ⟨rfl,by rfl,trivial⟩ (IK fb bn cn dn ⟨some ⟨b,off,none⟩,cl,cc⟩ most (.slice none 0 0) z (i:=j) hz (t:=t) hx (hF.ce x hxm) (hF.len x hxm) (cw t)) ?_;rintro _ _ _ _ ⟨u,hu,rfl,rfl,rfl,rfl⟩;obtain⟨ua,un,uc⟩:=u;simp only at hu;refine E0 [] [2,54] (fun a:Xu=>[(2,.int .i64 0),(54,.int .i64 a.z)]) (fun _=>[]) (fun _=>FO fb ⟨some ⟨b,off,none⟩,cl,cc⟩ bn cn dn most (.slice none 0 0)) (fun a=>[(mb,bM dw a.nm),(bn,bM dU (cg (cw t))),(dn,[]),(cn,[])]) (fun a=>[NL ⟨ua,un,uc⟩ (iR (cw t) x),lH ⟨some ⟨b,off,none⟩,cl,cc⟩ t])
    (fun a=>a.z=a.j∧a.j≤un∧zX a.nm (wT t (t.take j)++(iR (cw t) x).take a.j)∧∀k∈(iR (cw t) x).take a.j,¬k<0) (fun a=>un-a.j) ⟨0,0,false,nm⟩ ⟨rfl,aJ _,by simpa using hnm,fun k hk=>by simp at hk⟩ (eC eK (eC eK eE)) ?_
   rintro⟨q,y,g,Ra⟩ K2 ⟨hy,hq,AF,hpos⟩ iB;simp only at hy hq AF hpos;refine MQ ⟨ua,un,uc⟩ (l:=iR (cw t) x) rfl (fun _ hu2 hu3=>?_);simp only at hu2 hu3;by_cases JL:q<un
   ·obtain⟨kk,Ls⟩:∃kk,(iR (cw t) x)[q]? =some kk:=⟨_,ai (by omega)⟩;have hkm:=aK Ls;obtain⟨bb,o2,hao⟩:=hu3 (by intro e;rw[e]at hkm;simp at hkm);subst hao;refine bj [] 55 (decide (y<(un:Int))) (au (by omega)) ?_;refine bW [55] 1 bb o2 un uc .i64 q y hy bH JL ?_;refine dJ [] 1 bb (o2+q*1) (.int .i64 kk) bH (sL bb o2 un uc Ls) ?_;by_cases hneg:kk<0
    ·have hl:=CT hx (uL.1 ⟨kk,hkm,hneg⟩);rw[if_pos hl]at hR2;refine bj [] 59 (decide (kk<0)) (au hneg) ?_;exact j1 [59] (.int .i64 23) (FO fb ⟨some ⟨b,off,none⟩,cl,cc⟩ bn cn dn most (.slice none 0 0)) [(mb,bM dw Ra),(bn,bM dU (cg (cw t))),(dn,[]),(cn,[])] (back 23 hR2.symm Γ) (K5 _)
    ·refine aQ [] 59 (decide (kk<0)) (aj hneg) ?_;refine Cf [59] dw 104 3 4 (FO fb ⟨some ⟨b,off,none⟩,cl,cc⟩ bn cn dn most (.slice none 0 0)) [] [(bn,bM dU (cg (cw t))),(dn,[]),(cn,[])] mb kk (.bool true) Ra ?_;refine iB [] _ _ ⟨q+1,IntKind.i64.wrap (y+1),false,lk kk (.bool true) Ra⟩ (by kernel_rfl) (by kernel_rfl) ⟨by simp only[af];omega,JL,?_,fun k' hk'=>?_⟩ (by simp only;omega) (eC eK (eC eK eE))
     ·simp only;rw[fw Ls,←aV];exact AF.set kk
     ·simp only at hk';rw[fw Ls,dI]at hk';rcases hk' with h|h
      ·exact hpos k' h
      ·simp only[aF,aE,bL]at h;rw[h];exact hneg
   ·have hall:(iR (cw t) x).take q=iR (cw t) x:=aU (by omega);rw[hall]at AF hpos;refine aQ [] 55 (decide (y<(un:Int))) (aj (by omega)) ?_;refine close [55] _ _ ⟨j+1,IntKind.i64.wrap (z+1),true,Ra⟩ (by kernel_rfl) (by kernel_rfl) ⟨by simp only[af];omega,hlt,RN.symm,?_,fun i' x' hi' hx'=>?_⟩ (by simp only;omega) (eC eK eE)
    ·simp only;unfold wT at AF⊢;rw[fw hx,bp];simpa using AF
    ·simp only at hi';by_cases hij:i'<j
     ·exact hlo i' x' hij hx'
     ·obtain rfl:i'=j:=by omega
      rw[hx]at hx';injection hx' with hx';subst hx';cases hlc:qp t x with
      |false=>rfl
      |true=>
       obtain⟨k',h1,h2⟩:=uL.2 hlc;exact absurd h2 (hpos k' h1)
 ·obtain rfl:j=cl:=by omega
  have htk:t.take j=t:=aU (by omega);rw[htk]at hf hnm;have CH:lost t=false:=Gj fun i x hx=>hlo i x (by have:=(List.getElem?_eq_some_iff.1 hx).1;omega) hx;rw[if_neg (by rw[CH];simp)]at hR2;refine aQ [] 30 (decide (z<(j:Int))) (aj (by omega)) ?_;refine bZ [30] 0 fb 0 bH ?_;refine dR [] (FO fb ⟨ca,j,cc⟩ bn cn dn most (.slice none 0 0)) fb (0+0) 1 [.slice ca j cc,.map (some bn),.map (some cn),.map (some dn),.int .i64 most,.slice none 0 0] (.slice ca j cc) bH (.head _) rfl ?_;refine j0 [] Tryz.f28 1 163 163 [0,3,4,68,2,11,69] [] (ck1 fb mb j f) (fun _=>[]) (fun _=>FO fb ⟨ca,j,cc⟩ bn cn dn most (.slice none 0 0)) (fun a=>[(mb,bM dw nm),(bn,bM dU (cg (cw t))),(dn,bM dw (cg a.dm)),(cn,[])]) (fun a=>[lH ⟨ca,j,cc⟩ t])
   (fun a=>a.z=a.j∧a.j≤j∧Rf t a.dm∧(∀i:Nat,gw (i:Int) a.dm≠some 0)∧(∀i,i<a.j→∃d,sY t i d∧d≤a.d)∧(a.d=0∨∃i,i<t.length∧sY t i a.d)) (fun a=>j-a.j) ⟨0,0,0,[]⟩ ⟨rfl,aJ _,fun k v h=>by simp[gw]at h,fun i h=>by simp[gw]at h,fun i h=>absurd h (hZ _),.inl rfl⟩ (eC eK eE) ?_
  rintro⟨i,y,D,dm⟩ K1 ⟨hy,hi,hdm,hdz,hda,YP⟩ close1;simp only at hy hi hdm hdz hda YP;by_cases xQ:i<j
  ·refine bj [] 70 (decide (y<(j:Int))) (au (by omega)) ?_;refine cZ [70] [] (FO fb ⟨ca,j,cc⟩ bn cn dn most (.slice none 0 0)) [] [(mb,bM dw nm)] [(bn,bM dU (cg (cw t))),(dn,bM dw (cg dm))] [(cn,[])] ⟨rfl,by rfl,trivial⟩ (Sj fb bn cn dn ⟨ca,j,cc⟩ most (.slice none 0 0) (t:=t) hF.ce hF.len CH htl (vu t dm) _ y i hy (by omega) dm hdm (fun q hq=>absurd hq (hdz q)) (ak _)) ?_;rintro _ _ _ _ ⟨d,b,Lc,⟨ht,hfl⟩,rfl,rfl,rfl,rfl⟩;cases b with
   |false=>
    rw[if_pos (hfl rfl)]at hR2;refine bj [] 79 (!false) rfl ?_;exact j1 [79] (.int .i64 24) (FO fb ⟨ca,j,cc⟩ bn cn dn most (.slice none 0 0)) [(mb,bM dw nm),(bn,bM dU (cg (cw t))),(dn,bM dw (cg Lc)),(cn,[])] (back 24 hR2.symm Γ) (K5 _)
   |true=>
    obtain⟨e,rfl,Ih,hd1,hd2,hd3⟩:=ht rfl;refine aQ [] 79 (!true) rfl ?_;refine MO [79] .i64 (D:Int) (e:Int) ((max D e:Nat):Int) (by omega) ?_;refine close1 [] _ _ ⟨i+1,IntKind.i64.wrap (y+1),max D e,Lc⟩ (by kernel_rfl) (by kernel_rfl) ⟨by simp only[af];omega,xQ,hd1,fun q hq=>hdz q (hd2 q hq),fun q hq=>?_,?_⟩ (by simp only;omega) (eC eK eE)
    ·simp only at hq⊢;by_cases hqi:q<i
     ·obtain⟨d',h1,h2⟩:=hda q hqi;exact⟨d',h1,by omega⟩
     ·obtain rfl:q=i:=by omega
      exact⟨e,Ih,by omega⟩
    ·simp only;by_cases hDe:e≤D
     ·rw[Nat.max_eq_left hDe];exact YP
     ·rw[Nat.max_eq_right (by omega)];exact .inr ⟨i,by omega,Ih⟩
  ·obtain rfl:i=j:=by omega
   have abu:¬Ys t:=fun⟨c,hc,hno⟩=>by
    obtain⟨d,h1,_⟩:=hda c (by omega);exact hno d h1
   rw[if_neg abu]at hR2;have NW:(D>64)↔TB t:=by
    constructor
    ·intro hD;rcases YP with h0|⟨a,ha,abw⟩
     ·omega
     ·refine⟨a,ha,?_⟩;cases hq:dep t 64 a with
      |none=>rfl
      |some d'=>
       have e1:=abw.uniq ⟨64,hq⟩;have:=Np hq;omega
    ·rintro⟨a,ha,hn⟩;obtain⟨d,⟨m,hm⟩,hle⟩:=hda a (by omega);have:=No hm;by_cases hd:d≤64
     ·rw[nL this hd]at hn;simp at hn
     ·omega
   refine aQ [] 70 (decide (y<(i:Int))) (aj (by omega)) ?_;refine bZ [70] 0 fb 0 bH ?_;refine dR [] (FO fb ⟨ca,i,cc⟩ bn cn dn most (.slice none 0 0)) fb (0+0) 1 [.slice ca i cc,.map (some bn),.map (some cn),.map (some dn),.int .i64 most,.slice none 0 0] (.slice ca i cc) bH (.head _) rfl ?_;refine j0 [] Tryz.f28 2 163 163 [0,2,4,11,87,88,3,89] [] (ck2 fb mb ⟨ca,i,cc⟩ D) (fun _=>[]) (fun _=>FO fb ⟨ca,i,cc⟩ bn cn dn most (.slice none 0 0)) (fun a=>[(mb,bM dw nm),(bn,bM dU (cg (cw t))),(dn,bM dw (cg dm)),(cn,[])]) (fun a=>[lH ⟨ca,i,cc⟩ t])
    (fun a=>a.z=a.j∧a.j≤i∧a.f=(f||(t.take a.j).any fun c=>c.i.any fun x=> !kN x)) (fun a=>i-a.j) ⟨0,0,f,[]⟩ ⟨rfl,aJ _,by simp⟩ (eC eK eE) ?_
   rintro⟨p,y2,g,Ra⟩ K2 ⟨Ov,hp,hg⟩ iB;simp only at Ov hp hg;by_cases hlt2:p<i
   ·obtain⟨x,hx⟩:∃x,t[p]? =some x:=⟨_,ai (by omega)⟩;have hxm:=aK hx;refine sI ⟨ca,i,cc⟩ hx (fun b off fh fi ha=>?_);simp only at ha;subst ha;refine W.more (Δ:=[pS fi x.i]) rfl (fun I w _ hh=>aS (aW.p (k:=yz fh fi) (a:=x) inferInstance hh).2) ?_;obtain⟨ia,im,ic⟩:=fi;refine W.len lZ mN.x ⟨ia,im,ic⟩ rfl (fun i1 i2 i3=>?_);simp only at i1 i2 i3;refine bj [] 90 (decide (y2<(i:Int))) (au (by omega)) ?_;refine bW [90] 2 b off i cc .i64 p y2 Ov bH hlt2 ?_;refine cV [] b (off+p*2) [aZ fh,aZ ⟨ia,im,ic⟩] bH (cA b (off+p*2)) ?_;refine E0 [] [3,96] (fun a:Xu=>[(3,.bool a.f),(96,.int .i64 a.z)]) (fun _=>[]) (fun _=>FO fb ⟨some ⟨b,off,none⟩,i,cc⟩ bn cn dn most (.slice none 0 0)) (fun a=>[(mb,bM dw nm),(bn,bM dU (cg (cw t))),(dn,bM dw (cg dm)),(cn,[])]) (fun a=>[pS ⟨ia,im,ic⟩ x.i,lH ⟨some ⟨b,off,none⟩,i,cc⟩ t])
     (fun a=>a.z=a.j∧a.j≤im∧a.f=(g||(x.i.take a.j).any fun x=> !kN x)) (fun a=>im-a.j) ⟨0,0,g,[]⟩ ⟨rfl,aJ _,by simp⟩ (eC eK (eC eK eE)) ?_
    rintro⟨q,y3,g2,nm3⟩ K3 ⟨XG,hq,hg2⟩ xL;simp only at XG hq hg2;by_cases Il:q<im
    ·obtain⟨v,hv⟩:∃v,x.i[q]? =some v:=⟨_,ai (by omega)⟩;have hvo:=hF.ok x hxm v (aK hv);have Mn:((x.i.take (q+1)).any fun x=> !kN x)=(((x.i.take q).any fun x=> !kN x)|| !kN v):=by rw[fw hv,List.any_append];simp
     refine wm ⟨ia,im,ic⟩ hv (fun b2 pD yf yp ha=>?_);simp only at ha;subst ha;refine bj [] 97 (decide (y3<(im:Int))) (au (by omega)) ?_;refine bW [97] 2 b2 pD im ic .i64 q y3 XG bH Il ?_;refine cV [] b2 (pD+q*2) [aZ yf,aZ yp] bH (cA b2 (pD+q*2)) ?_;cases g2 with
     |true=>
      refine bj [] 101 true rfl ?_;exact xL [101] _ _ ⟨q+1,IntKind.i64.wrap (y3+1),true,[]⟩ (by kernel_rfl) (by kernel_rfl) ⟨by simp only[af];omega,Il,by simp only;rw[Mn,←Bool.or_assoc,←hg2,Bool.true_or]⟩ (by simp only;omega) (eC eK (eC eK eE))
     |false=>
      refine aQ [] 101 false rfl ?_;refine aq [101] (SA yf yp (x:=v) hvo.im hvo.kind).mF ?_;rintro _ _ ⟨rfl,rfl⟩;exact xL [101] _ _ ⟨q+1,IntKind.i64.wrap (y3+1),!kN v,[]⟩ (by kernel_rfl) (by kernel_rfl) ⟨by simp only[af];omega,Il,by simp only;rw[Mn,←Bool.or_assoc,←hg2,Bool.false_or]⟩ (by simp only;omega) (eC eK (eC eK eE))
    ·have hall:x.i.take q=x.i:=aU (by omega);rw[hall]at hg2;refine aQ [] 97 (decide (y3<(im:Int))) (aj (by omega)) ?_;refine iB [97] _ _ ⟨p+1,IntKind.i64.wrap (y2+1),g2,[]⟩ (by kernel_rfl) (by kernel_rfl) ⟨by simp only[af];omega,hlt2,?_⟩ (by simp only;omega) (eC eK eE);simp only;rw[fw hx,List.any_append,←Bool.or_assoc,←hg,hg2];simp
   ·obtain rfl:p=i:=by omega
    rw[htk,hf]at hg;have N4:g=JB t:=by rw[hg];rfl
    refine aQ [] 90 (decide (y2<(p:Int))) (aj (by omega)) ?_;cases g with
    |true=>
     rw[if_pos (.inl N4.symm)]at hR2;refine bj [90] 109 true rfl ?_;exact j1 [112,109] (.int .i64 25) (FO fb ⟨ca,p,cc⟩ bn cn dn most (.slice none 0 0)) [(mb,bM dw nm),(bn,bM dU (cg (cw t))),(dn,bM dw (cg dm)),(cn,[])] (back 25 hR2.symm Γ) (K5 _)
    |false=>
    refine aQ [90] 109 false rfl ?_;by_cases hD:D>64
    ·rw[if_pos (.inr (NW.1 hD))]at hR2;refine bj [109] 112 (decide ((D:Int)>64)) (au (by omega)) ?_;exact j1 [112] (.int .i64 25) (FO fb ⟨ca,p,cc⟩ bn cn dn most (.slice none 0 0)) [(mb,bM dw nm),(bn,bM dU (cg (cw t))),(dn,bM dw (cg dm)),(cn,[])] (back 25 hR2.symm Γ) (K5 _)
    rw[if_neg (fun h=>h.elim (fun h=>by rw[←N4]at h;simp at h) (fun h=>hD (NW.2 h)))]at hR2;have FL:EU t:=⟨CH,fun c hc x hx=>by
     have:=N4.symm;unfold JB at this;rw[sO]at this;have h2:=List.any_eq_false.1 this.2 c hc;simp only[Bool.not_eq_true]at h2;have h3:=List.any_eq_false.1 h2 x hx;simpa using h3,fun a ha=>by
     cases hq:dep t 64 a with
     |none=>exact absurd (NW.2 ⟨a,ha,hq⟩) hD
     |some d=>exact⟨d,rfl⟩⟩
    have TP:∀c:Nat,(gw (c:Int) nm).getD (.bool false)=.bool (rV t c):=fun c=>by rw[hnm.look,F8 CH]
    have hm1:IntKind.i64.wrap (most+1)=most+1:=by rw[af];omega
    have hcT:∀c,0≤qF t c:=fun c=>by
     unfold qF;split
     ·exact Int.le_refl _
     ·exact FL.cnt_nn 64 c
    have hsn:∀l:List Nat,0≤(l.map (qF t)).sum:=fun l=>BD fun q hq=>by
     obtain⟨c,_,rfl⟩:=List.mem_map.1 hq;exact hcT c
    refine aQ [109] 112 (decide ((D:Int)>64)) (aj (by omega)) ?_;refine bZ [112] 0 fb 0 bH ?_;refine dR [] (FO fb ⟨ca,p,cc⟩ bn cn dn most (.slice none 0 0)) fb (0+0) 1 [.slice ca p cc,.map (some bn),.map (some cn),.map (some dn),.int .i64 most,.slice none 0 0] (.slice ca p cc) bH (.head _) rfl ?_;refine j0 [] Tryz.f28 3 163 163 [0,2,4,117,19,118] [] (ck3 fb mb p) (fun _=>[]) (fun _=>FO fb ⟨ca,p,cc⟩ bn cn dn most (.slice none 0 0)) (fun a=>[(mb,bM dw nm),(bn,bM dU (cg (cw t))),(dn,bM dw (cg dm)),(cn,bM dw (cg a.cm))]) (fun a=>[lH ⟨ca,p,cc⟩ t])
     (fun a=>a.z=a.j∧a.j≤p∧a.n=min ((((List.range t.length).take a.j).map (qF t)).sum) (most+1)∧wi t most a.cm) (fun a=>p-a.j) ⟨0,0,0,[]⟩ ⟨rfl,aJ _,by simp only[mQ,dk,List.sum_nil];omega,fun k v h=>by simp[gw]at h⟩ (eC eK eE) ?_
    rintro⟨q,y3,SN,cm⟩ K3 ⟨XG,hq,Lw,hcm⟩ xL;simp only at XG hq Lw hcm;by_cases Il:q<p
    ·have hst:=uo (qF t) (j:=q) (n:=t.length) (by omega);obtain⟨S,hS⟩:∃S,(((List.range t.length).take q).map (qF t)).sum=S:=⟨_,rfl⟩;have hS0:=hsn ((List.range t.length).take q);rw[hS]at Lw hst hS0;refine bj [] 119 (decide (y3<(p:Int))) (au (by omega)) ?_;refine vm [119] dw 104 3 4 false (FO fb ⟨ca,p,cc⟩ bn cn dn most (.slice none 0 0)) [(mb,bM dw nm),(bn,bM dU (cg (cw t))),(dn,bM dw (cg dm)),(cn,bM dw (cg cm))] mb y3 nm (.bool false) bH (.head _) ?_;rw[show(gw y3 nm).getD (.bool false)=.bool (rV t q)by rw[XG];exact TP q];cases VI:rV t q with
     |true=>
      have hc0:qF t q=0:=by unfold qF;rw[if_pos VI]
      refine aQ [] 124 (!true) rfl ?_;exact xL [124] _ _ ⟨q+1,IntKind.i64.wrap (y3+1),SN,cm⟩ (by kernel_rfl) (by kernel_rfl) ⟨by simp only[af];omega,Il,by simp only;rw[hst,hc0,vd];exact Lw,hcm⟩ (by simp only;omega) (eC eK eE)
     |false=>
      have hcq:qF t q=k9 t 64 q:=by unfold qF;rw[if_neg (by rw[VI];simp)]
      have hcn:=FL.cnt_nn 64 q;have JM:min (SN+min (k9 t 64 q) (most+1)) (most+1)=min (S+k9 t 64 q) (most+1):=by omega
      have hw:IntKind.i64.wrap (SN+min (k9 t 64 q) (most+1))=SN+min (k9 t 64 q) (most+1):=by rw[af];omega
      refine bj [] 124 (!false) rfl ?_;have pc:=J9 fb bn cn dn ca p cc most (.slice none 0 0) (bM dw (cg dm)) hF FL tJ 64 [lH ⟨ca,p,cc⟩ t] y3 q XG (by omega) (FL.deep q (by omega)) cm hcm;refine MM [124] ?_ ?_
      ·refine bZ [] 4 fb 0 bH ?_;refine dR [] (FO fb ⟨ca,p,cc⟩ bn cn dn most (.slice none 0 0)) fb (0+4) 1 [.slice ca p cc,.map (some bn),.map (some cn),.map (some dn),.int .i64 most,.slice none 0 0] (.int .i64 most) bH (.head _) rfl ?_;refine cZ [] [] (FO fb ⟨ca,p,cc⟩ bn cn dn most (.slice none 0 0)) [] [(mb,bM dw nm)] [(bn,bM dU (cg (cw t))),(dn,bM dw (cg dm)),(cn,bM dw (cg cm))] [] ⟨rfl,by rfl,trivial⟩ pc ?_;rintro _ _ _ _ ⟨Vf,Lo,rfl,rfl,rfl,rfl⟩;refine pW [] .i64 (IntKind.i64.wrap (SN+min (k9 t 64 q) (most+1))) (IntKind.i64.wrap (most+1)) (min (S+k9 t 64 q) (most+1)) (by rw[hw,hm1];exact JM) ?_;exact xL [] _ _ ⟨q+1,IntKind.i64.wrap (y3+1),min (S+k9 t 64 q) (most+1),Vf⟩ (by kernel_rfl) (by kernel_rfl) ⟨by simp only[af];omega,Il,by simp only;rw[hst,hcq],Lo⟩ (by simp only;omega) (eC eK eE)
      ·refine bZ [] 4 fb 0 bH ?_;refine cZ [] [] (FO fb ⟨ca,p,cc⟩ bn cn dn most (.slice none 0 0)) [] [(mb,bM dw nm)] [(bn,bM dU (cg (cw t))),(dn,bM dw (cg dm)),(cn,bM dw (cg cm))] [] ⟨rfl,by rfl,trivial⟩ pc ?_;rintro _ _ _ _ ⟨Vf,Lo,rfl,rfl,rfl,rfl⟩;refine dR [] (FO fb ⟨ca,p,cc⟩ bn cn dn most (.slice none 0 0)) fb (0+4) 1 [.slice ca p cc,.map (some bn),.map (some cn),.map (some dn),.int .i64 most,.slice none 0 0] (.int .i64 most) bH (.head _) rfl ?_;refine pW [] .i64 (IntKind.i64.wrap (SN+min (k9 t 64 q) (most+1))) (IntKind.i64.wrap (most+1)) (min (S+k9 t 64 q) (most+1)) (by rw[hw,hm1];exact JM) ?_;exact xL [] _ _ ⟨q+1,IntKind.i64.wrap (y3+1),min (S+k9 t 64 q) (most+1),Vf⟩ (by kernel_rfl) (by kernel_rfl) ⟨by simp only[af];omega,Il,by simp only;rw[hst,hcq],Lo⟩ (by simp only;omega) (eC eK eE)
    ·obtain rfl:q=p:=by omega
     rw[aU (by rw[kD];omega)]at Lw;have htt:SN=min (Dn t) (most+1):=Lw;refine aQ [] 119 (decide (y3<(q:Int))) (aj (by omega)) ?_;refine bZ [119] 4 fb 0 bH ?_;refine dR [] (FO fb ⟨ca,q,cc⟩ bn cn dn most (.slice none 0 0)) fb (0+4) 1 [.slice ca q cc,.map (some bn),.map (some cn),.map (some dn),.int .i64 most,.slice none 0 0] (.int .i64 most) bH (.head _) rfl ?_;by_cases Vw:Dn t>most
     ·rw[if_pos Vw]at hR2;refine bj [] 142 (decide (SN>most)) (au (by omega)) ?_;exact j1 [142] (.int .i64 27) (FO fb ⟨ca,q,cc⟩ bn cn dn most (.slice none 0 0)) [(mb,bM dw nm),(bn,bM dU (cg (cw t))),(dn,bM dw (cg dm)),(cn,bM dw (cg cm))] (back 27 hR2.symm Γ) (K5 _)
     rw[if_neg Vw]at hR2;unfold VT at hR2;refine aQ [] 142 (decide (SN>most)) (aj (by omega)) ?_;refine bZ [142] 0 fb 0 bH ?_;refine dR [] (FO fb ⟨ca,q,cc⟩ bn cn dn most (.slice none 0 0)) fb (0+0) 1 [.slice ca q cc,.map (some bn),.map (some cn),.map (some dn),.int .i64 most,.slice none 0 0] (.slice ca q cc) bH (.head _) rfl ?_;refine j0 [] Tryz.f28 4 163 163 [0,4,147,2,148] [] (ck4 fb mb q) (fun _=>[]) (fun a=>FO fb ⟨ca,q,cc⟩ bn cn dn most (aZ a.s)++a.O) (fun a=>[(mb,bM dw nm),(bn,bM dU (cg (cw t))),(dn,bM dw (cg dm)),(cn,bM dw (cg a.cm))]) (fun a=>[lH ⟨ca,q,cc⟩ t,OF ⟨b_,b_,b_,b_,b_⟩ (0,Wr),mS pU (aZ a.s) a.E])
      (fun a=>a.z=a.j∧a.j≤q∧wi t most a.cm∧cF 3 a.O (aZ a.s) a.E.length (a.E.flatMap pU.cells)∧(a.E.length:Int)≤(((List.range t.length).take a.j).map (qF t)).sum∧BO (Ix t) (List.range t.length) R a.j a.E) (fun a=>q-a.j) ⟨0,0,cm,⟨none,0,0⟩,[],[]⟩ ⟨rfl,aJ _,hcm,cF.nil 3,by simp,by rw[←hR2];exact rA _ _⟩ (eC eK (eC (fun I w hd _=>Wp I w hd) (eC (fun I w _ _=>Pb _ I w) eE))) ?_
     rintro⟨r,y4,RB,s4,O4,E4⟩ K4 ⟨hy4,hr,Ie,FP,hE4,XE⟩ Nf;simp only at hy4 hr Ie FP hE4 XE;by_cases Za:r<q
     ·have hst:=uo (qF t) (j:=r) (n:=t.length) (by omega);have Oh:(List.range t.length)[r]? =some r:=uw (by omega);have hle:(((List.range t.length).take (r+1)).map (qF t)).sum≤Dn t:=by
       unfold Dn;have e0:((List.range t.length).map (qF t)).sum=(((List.range t.length).take (r+1)).map (qF t)).sum+(((List.range t.length).drop (r+1)).map (qF t)).sum:=by
        rw[←kq,←aT,jY]
       have:=hsn ((List.range t.length).drop (r+1));omega
      refine bj [] 149 (decide (y4<(q:Int))) (au (by omega)) ?_;refine vm [149] dw 104 3 4 false (FO fb ⟨ca,q,cc⟩ bn cn dn most (aZ s4)++O4) [(mb,bM dw nm),(bn,bM dU (cg (cw t))),(dn,bM dw (cg dm)),(cn,bM dw (cg RB))] mb y4 nm (.bool false) bH (.head _) ?_;rw[show(gw y4 nm).getD (.bool false)=.bool (rV t r)by rw[hy4];exact TP r];cases VI:rV t r with
      |true=>
       have hc0:qF t r=0:=by unfold qF;rw[if_pos VI]
       have hln:Ix t r=.ok []:=by unfold Ix;rw[if_pos VI]
       refine aQ [] 154 (!true) rfl ?_;exact Nf [154] _ _ ⟨r+1,IntKind.i64.wrap (y4+1),RB,s4,O4,E4⟩ (by kernel_rfl) (by kernel_rfl) ⟨by simp only[af];omega,Za,Ie,FP,by simp only;rw[hst,hc0];omega,by have:=XE.step (es:=[]) Oh hln rfl;rwa [ah]at this⟩ (by simp only;omega) (eC eK (eC eK (eC eK eE)))
      |false=>
       have hcq:qF t r=k9 t 64 r:=by unfold qF;rw[if_neg (by rw[VI];simp)]
       have hln:Ix t r=gH t 64 r Wr:=by unfold Ix;rw[if_neg (by rw[VI];simp)]
       have hcn:=FL.cnt_nn 64 r;obtain⟨dr,hdr⟩:=FL.deep r (by omega);refine bj [] 154 (!false) rfl ?_;refine cZ [154] [] (FO fb ⟨ca,q,cc⟩ bn cn dn most (aZ s4)++O4) [] [(mb,bM dw nm)] [(bn,bM dU (cg (cw t))),(dn,bM dw (cg dm)),(cn,bM dw (cg RB))] [] ⟨rfl,by rfl,trivial⟩ (eo:=(by simp only[ah];kernel_rfl)) (Ug fb bn cn dn ca q cc most (bM dw (cg dm)) hF FL tJ hW 64 _ y4 r dr hy4 (by omega) hdr Wr ⟨b_,b_,b_,b_,b_⟩ 0 0 (by decide) (by decide) Z5 (aJ _) RB Ie s4 O4 E4 FP (by omega)) ?_;rintro _ _ _ _ ⟨XB,RL,rfl,s5,O5,es5,YQ,rfl,rfl,CG,rfl⟩;rw[ah (FO fb ⟨ca,q,cc⟩ bn cn dn most (aZ s5)++O5)];cases hlr:gH t 64 r Wr with
       |error er=>
        have Ho:=oI _ _ _ _ hlr;have yK:R=.error er:=XE.err Oh (by rw[hln,hlr]);refine bj [] 160 (er != 0) (by rcases Ho with rfl|rfl<;>rfl) ?_;exact j1 [160] (.int .i64 er) (FO fb ⟨ca,q,cc⟩ bn cn dn most (aZ s5)++O5) [(mb,bM dw nm),(bn,bM dU (cg (cw t))),(dn,bM dw (cg dm)),(cn,bM dw (cg XB))] ⟨s5,O5,E4++es5,fun q h=>by rw[yK]at h;simp at h,by rw[yK];rfl,rfl,CG,rfl⟩ (eC eK eE)
       |ok sr=>
        have Zk:=FL.lay_len _ _ _ _ hlr;have he5:es5.length=sr.length:=by rw[←YQ sr hlr,bI]
        refine aQ [] 160 ((0:Int) != 0) (by decide) ?_;exact Nf [160] _ _ ⟨r+1,IntKind.i64.wrap (y4+1),XB,s5,O5,E4++es5⟩ (by kernel_rfl) (by kernel_rfl) ⟨by simp only[af];omega,Za,RL,CG,by simp only[aA];rw[hst,hcq];omega,XE.step Oh (by rw[hln,hlr]) (YQ sr hlr)⟩ (by simp only;omega) (eC eK (eC eK (eC eK eE)))
     ·have TL:R=.ok (E4.map qS.x):=XE.fin (by rw[kD];omega);refine aQ [] 149 (decide (y4<(q:Int))) (aj (by omega)) ?_;exact j1 [149] (.int .i64 0) (FO fb ⟨ca,q,cc⟩ bn cn dn most (aZ s4)++O4) [(mb,bM dw nm),(bn,bM dU (cg (cw t))),(dn,bM dw (cg dm)),(cn,bM dw (cg RB))] ⟨s4,O4,E4,fun q h=>by rw[TL]at h;injection h,by rw[TL];rfl,rfl,FP,rfl⟩ (eC eK eE)
end
end Go.Proofs.YtgaaopjagcaojaaGreat
