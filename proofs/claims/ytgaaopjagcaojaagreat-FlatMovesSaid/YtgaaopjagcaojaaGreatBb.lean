import Derived.Test.YtgaaopjagcaojaaGreatVk
import Derived.Test.YtgaaopjagcaojaaGreatMj
import Derived.Test.YtgaaopjagcaojaaGreatRo
import Derived.Test.YtgaaopjagcaojaaGreatLk
set_option linter.unusedSimpArgs false
set_option linter.unusedVariables false
set_option maxHeartbeats 8000000
namespace Go.Proofs.YtgaaopjagcaojaaGreat
open Go.RowKit
def VS.setMaps(s:VS)(M:List (Nat×List (Value×Value))):VS:=⟨s.tmps,s.boxes,s.own,M⟩
section
variable{T:Tb}{P:Program}{fin:VS→List aC→Prop}{c:fF}{Γ:List aC}
theorem Fy(D:List Nat){α:Type}(N:List Nat)(V:α→List (Nat×Value))(X:α→List (Nat×List Value))(O:α→List (Nat×List Value))(Q:α→List (Nat×List (Value×Value)))(G:α→List aC)(inv:α→Prop)(μ:α→Nat)(a0:α)
  
  
  (i0:inv a0)(f0:∀I w,bj T I w→aD Γ I w→aD (G a0) I w)
  (hr:∀(a:α) (R:VS→List aC→Prop),inv a→
   (∀(D':List Nat) (c':fF) (Γ':List aC) (a':α),kD (aE T (aV T D' 999 c'))=some R→
    (kE (aE T (aV T D' 999 c'))).map (jG (aE T (aV T D 999 c)) N)=some (((((jG (aE T (aV T D 999 c)) N (mN (aE T (aV T D 999 c)))).puts (V a')).boxs (X a')).setOwn (O a')).setMaps (Q a'))→
    inv a'→μ a'<μ a→(∀I w,bj T I w→aD Γ' I w→aD (G a') I w)→W T P fin c' Γ')→
   W T P fin ⟨((((jG (aE T (aV T D 999 c)) N (mN (aE T (aV T D 999 c)))).puts (V a)).boxs (X a)).setOwn (O a)).setMaps (Q a),.code (tP (aE T (aV T D 999 c)))::.again R::Dl (aE T (aV T D 999 c))⟩ (G a))(h:oB (aE T (aV T D 999 c))=true:=by kernel_rfl)(h0:jG (aE T (aV T D 999 c)) N (mN (aE T (aV T D 999 c)))=((((jG (aE T (aV T D 999 c)) N (mN (aE T (aV T D 999 c)))).puts (V a0)).boxs (X a0)).setOwn (O a0)).setMaps (Q a0):=by kernel_rfl):W T P fin c Γ:=by
 refine ez D 999 ?_;generalize aV T D 999 c=c1 at*;generalize he:aE T c1=e at*;cases e with
 |loop b c'=>
  generalize hst:jG (Ev.loop b c') N (mN (Ev.loop b c'))=S at*;have key:∀(m:Nat) (s:VS) (Γ':List aC),(∃a,jG (Ev.loop b c') N s=(((S.puts (V a)).boxs (X a)).setOwn (O a)).setMaps (Q a)∧inv a∧μ a=m∧∀I w,bj T I w→aD Γ' I w→aD (G a) I w)→
    W T P fin ⟨s,.code b::.again (fun s' Γ'=>∃m',m'<m∧∃a,jG (Ev.loop b c') N s'=(((S.puts (V a)).boxs (X a)).setOwn (O a)).setMaps (Q a)∧inv a∧μ a=m'∧∀I w,bj T I w→aD Γ' I w→aD (G a) I w)::c'.k⟩ Γ':=by
   rintro m s Γ' ⟨a,hs,hi,rfl,hf⟩;refine W.forget (iD N (kq b)) (jA b) rfl ?_;rw[show s.forget (iD N (kq b)) (jA b)=(((S.puts (V a)).boxs (X a)).setOwn (O a)).setMaps (Q a)from hs];refine W.sub rfl hf (hr a _ hi (fun D' c' Γ' a' hR hS hi' hl' hf'=>ez D' 999 ?_));generalize aV T D' 999 c'=c2 at*;cases hv:aE T c2<;>rw[hv]at hR hS<;>simp[kD,kE]at hR hS;subst hR;exact W.again hv ⟨μ a',hl',a',hS,hi',rfl,hf'⟩
  refine W.loop (fun m s Γ'=>∃a,jG (Ev.loop b c') N s=(((S.puts (V a)).boxs (X a)).setOwn (O a)).setMaps (Q a)∧inv a∧μ a=m∧∀I w,bj T I w→aD Γ' I w→aD (G a) I w) (μ a0) he ⟨a0,?_,i0,rfl,f0⟩ key;rw[←h0];exact hst
 |_=>simp[oB]at h
end
open Go.RowKit Go.IntWalk
theorem DH{α:Type}{f:α→LR}{l:List α}{j:Nat}{a:α}(h:l[j]? =some a):gl f (l.drop j)=match f a with
  | .error e=>.error e
  | .ok s=>match gl f (l.drop (j+1))with
   | .error e=>.error e
   | .ok s'=>.ok (s++s'):=by
 obtain⟨h1,h2⟩:=List.getElem?_eq_some_iff.1 h;rw[bA h1,h2];rfl
def Cp{α:Type}(f:α→LR)(l:List α)(R:LR)(j:Nat)(E:List lH):Prop:=R=match gl f (l.drop j)with
  | .error e=>.error e
  | .ok s=>.ok (E.map lH.x++s)
theorem rD{α:Type}(f:α→LR)(l:List α):Cp f l (gl f l) 0 []:=by
 unfold Cp;rw[h_];cases gl f l<;>rfl
theorem Cp.step{α:Type}{f:α→LR}{l:List α}{R:LR}{j:Nat}{E es:List lH}{a:α}{s:List Sh}(h:Cp f l R j E)(ha:l[j]? =some a)(hf:f a=.ok s)(he:es.map lH.x=s):Cp f l R (j+1) (E++es):=by
 unfold Cp at h⊢;rw[h,DH ha,hf];cases gl f (l.drop (j+1))with
 |error e=>rfl
 |ok s'=>simp only[aS,he,aU]
theorem Cp.err{α:Type}{f:α→LR}{l:List α}{R:LR}{j:Nat}{E:List lH}{a:α}{e:Int}(h:Cp f l R j E)(ha:l[j]? =some a)(hf:f a=.error e):R=.error e:=by
 unfold Cp at h;rw[h,DH ha,hf]
theorem Cp.fin{α:Type}{f:α→LR}{l:List α}{R:LR}{j:Nat}{E:List lH}(h:Cp f l R j E)(hj:l.length≤j):R=.ok (E.map lH.x):=by
 unfold Cp at h;rw[h,bp hj];simp[gl]
theorem xP{α:Type}{f:α→LR}{w:α→Int}:∀{l:List α} {s:List Sh},(∀a∈l,∀s,f a=.ok s→(s.length:Int)≤w a)→gl f l=.ok s→(s.length:Int)≤(l.map w).sum
 | [],s,_,h=>by
  simp only[gl,iu]at h;subst h;simp
 |a::l,s,hw,h=>by
  unfold gl at h;cases hf:f a with
  |error e=>rw[hf]at h;simp at h
  |ok s1=>
   rw[hf]at h;cases hs:gl f l with
   |error e=>rw[hs]at h;simp at h
   |ok s2=>
    rw[hs]at h;simp only[iu]at h;subst h;have h1:=hw a (by simp) s1 hf;have h2:=xP (fun b hb=>hw b (by simp[hb])) hs;simp only[aA,bQ,dC];omega
theorem o5{α:Type}(w:Int):∀l:List α,(l.map fun _=>w).sum=(l.length:Int)*w
 | []=>by simp
 |a::l=>by
  simp only[bQ,dC,aB,o5 w l];rw[Int.natCast_add,Int.add_mul];omega
theorem vn{x:Im}{l:List (Sn×Sn)}{s:List Sh}(h:iU x l=.ok s):s.length=1:=by
 unfold iU at h;split at h
 ·injection h with h;subst h;rfl
 ·simp at h
theorem An.item_len{t:List Ce}(hD:An t){n:Nat}{g:Nat→On→LR}(hg:∀c V s,g c V=.ok s→(s.length:Int)≤jc t n c){x:Im}(hr:iB x=true){V:On}{s:List Sh}(h:jN t n g V x=.ok s):(s.length:Int)≤jg t (jc t n) x:=by
 unfold jN at h;unfold jg;by_cases h8:cz x=8∨cz x=45
 ·rw[if_pos h8]at h⊢;rw[vn h];omega
 ·rw[if_neg h8]at h⊢;by_cases h9:cz x=9
  ·rw[if_pos h9]at h⊢;split at h
   ·split at h
    ·rename_i hp;injection h with h;subst h;simp[hp]
    ·rename_i hp;rw[if_neg hp,vn h];omega
   ·split at h<;>simp at h
  ·rw[if_neg h9]at h⊢;by_cases hk:cz x=10∨cz x=11
   ·rw[if_pos hk]at h⊢;obtain⟨_,h1,h2,_⟩:=nw hr hk;unfold nv at h;cases hkn:j6 t x with
    |none=>
     rw[hkn]at h;injection h with h;subst h;simp
    |some c=>
     rw[hkn]at h;simp only at h⊢;split at h
     ·rename_i h0;injection h with h;subst h;rw[h0];simp
     ·have key:=xP (w:=fun _:Nat=>((bJ x).1.toNat:Int)*jc t n c) (fun a _ s' hs'=>by
       have:=xP (w:=fun _:Nat=>jc t n c) (fun b _ s'' hs''=>hg _ _ _ hs'') hs';rw[o5,ib]at this;exact this) h
      rw[o5,ib]at key;rw[ov (qy h1),ov (qy h2)]at key;have e:(bJ x).2*((bJ x).1*jc t n c)=jc t n c*(bJ x).1*(bJ x).2:=by
       rw[lE (bJ x).1,lE (bJ x).2]
      omega
   ·rw[if_neg hk]at h⊢;injection h with h;subst h;simp
theorem An.lay_len{t:List Ce}(hD:An t):∀(n c:Nat) (V:On) (s:List Sh),fL t n c V=.ok s→(s.length:Int)≤jc t n c
 |0,c,V,s,h=>by
  simp only[fL,iu]at h;subst h;simp[jc]
 |n+1,c,V,s,h=>by
  unfold fL at h;unfold jc;refine xP (fun x hx s' hs'=>?_) h;obtain⟨c',hc',hx'⟩:=j9 hx;exact hD.item_len (hD.lay_len n) (hD.right c' hc' x hx') hs'
theorem uC{α:Type}{f:α→LR}{A:Int→Prop}:∀{l:List α} {e:Int},(∀a∈l,∀e,f a=.error e→A e)→gl f l=.error e→A e
 | [],e,_,h=>by simp[gl]at h
 |a::l,e,hw,h=>by
  unfold gl at h;cases hf:f a with
  |error e'=>
   rw[hf]at h;injection h with h;subst h;exact hw a (by simp) e' hf
  |ok s1=>
   rw[hf]at h;cases hs:gl f l with
   |error e'=>
    rw[hs]at h;injection h with h;subst h;exact uC (fun b hb=>hw b (by simp[hb])) hs
   |ok s2=>rw[hs]at h;simp at h
theorem uW:∀{l:List (Sn×Sn)} {e:Int},gS l=.error e→e=26
 | [],e,h=>by simp[gS]at h
 |p::r,e,h=>by
  unfold gS at h;split at h
  ·cases hg:gS r with
   |ok l=>rw[hg]at h;simp at h
   |error e'=>
    rw[hg]at h;injection h with h;subst h;exact uW hg
  ·injection h with h;exact h.symm
theorem DK{x:Im}{l:List (Sn×Sn)}{e:Int}(h:iU x l=.error e):e=26:=by
 unfold iU at h;cases hg:gS l with
 |ok p=>rw[hg]at h;simp at h
 |error e'=>
  rw[hg]at h;injection h with h;subst h;exact uW hg
theorem xj{t:List Ce}{n:Nat}{g:Nat→On→LR}(hg:∀c V e,g c V=.error e→e=25∨e=26){x:Im}{V:On}{e:Int}(h:jN t n g V x=.error e):e=25∨e=26:=by
 unfold jN at h;split at h
 ·exact .inr (DK h)
 ·split at h
  ·split at h
   ·split at h
    ·simp at h
    ·exact .inr (DK h)
   ·cases hq:gS (farL V (jk x)).1 with
    |ok p=>
     rw[hq]at h;injection h with h;exact .inl h.symm
    |error e'=>
     rw[hq]at h;injection h with h;subst h;exact .inr (uW hq)
  ·split at h
   ·unfold nv at h;split at h
    ·simp at h
    ·split at h
     ·simp at h
     ·exact uC (A:=fun e=>e=25∨e=26) (fun a _ e' he=>uC (A:=fun e=>e=25∨e=26) (fun b _ e'' he'=>hg _ _ _ he') he) h
   ·simp at h
theorem rT{t:List Ce}:∀(n c:Nat) (V:On) (e:Int),fL t n c V=.error e→e=25∨e=26
 |0,c,V,e,h=>by simp[fL]at h
 |n+1,c,V,e,h=>by
  unfold fL at h;exact uC (A:=fun e=>e=25∨e=26) (fun x _ e' he=>xj (rT n) he) h
def LyX(t:List Ce)(most:Int)(r:LR)(FB:Value→List (Nat×List Value))(b1 b2:Nat×List (Value×Value))(cn:Nat)(es:List lH)(v:Value)(O:List (Nat×List Value))(M:List (Nat×List (Value×Value)))(Δ:List aC):Prop:=
 ∃cm:List (Int×Int),wG t most cm∧M=[b1,b2,(cn,bV dH (cu cm))]∧DZ r FB es v O Δ
structure Nd where
 j:Nat
 z:Int
 cm:List (Int×Int)
 s:Sl
 O:List (Nat×List Value)
 E:List lH
abbrev YJ(n:Sl)(a:Bool)(m:Sl)(b:Bool):List Value:=[.slice n.ao n.n n.c,.bool a,.slice m.ao m.n m.c,.bool b]
abbrev otc(V:On)(x:Q5):List Value:=[.bool V.f,.int .i64 V.o]++YJ x.g.n x.g.a x.g.m x.g.b++YJ x.a.n x.a.a x.a.m x.a.b++YJ x.b.n x.b.a x.b.m x.b.b++YJ x.c.n x.c.a x.c.m x.c.b++YJ x.d.n x.d.a x.d.m x.d.b
def RX(fb bn cn dn:Nat)(ca:Option Addr)(cl cc:Nat)(most:Int)(dm:List (Value×Value))(t:List Ce)(n:Nat):Prop:=
 ∀(Γ:List aC) [aZ (lL ⟨ca,cl,cc⟩) t Γ] (c:Int) (i d:Nat),c=i→i<t.length→dep t n i=some d→∀(V:On) (bx:Q5) (Lb e:Nat) [aZ (OF bx) (Lb,V) Γ],(0≤V.o∧V.o≤7)→Lb≤10000→sH e V→e≤45*TU t d→
  ∀cm:List (Int×Int),wG t most cm→∀(s0:Sl) (O:List (Nat×List Value)) (es:List lH) [aZ (lU k8 (aY s0)) es Γ],cH 3 O (aY s0) es.length (es.flatMap k8.cells)→(es.length:Int)+jc t 64 i≤100000→
  dD Lk Tryz.prog 48 [fu fb,.int .i64 c,Io V bx] (FO fb ⟨ca,cl,cc⟩ bn cn dn most (aY s0)++O) [(bn,bV ea (cu (cA t))),(dn,dm),(cn,bV dH (cu cm))] Γ
   (LyX t most (fL t 64 i V) (fun v=>FO fb ⟨ca,cl,cc⟩ bn cn dn most v) (bn,bV ea (cu (cA t))) (dn,dm) cn es)
def rfU(fb b10 b11 b16:Nat)(k:Int)(f:Bool)(o rows:Int):Nd→List (Nat×SV):=fun a=>[(0,.val (fu fb)),(5,.ptr 5 0),(9,.val (.int .i64 k)),(10,.val (fu b10)),(12,.val (.bool f)),(13,.ptr 13 0),(14,.val (.int .i64 o)),
 (17,.val (.func (.func 153) #[] #[fu b16,fu b10,fu b11])),(53,.val (.int .i64 rows)),(6,.val (.int .i64 0)),(54,.val (.int .i64 a.z))]
def rfX(V:On)(bx:Q5)(n:Sl)(a:Bool)(m:Sl)(b:Bool):Nd→List (Nat×List Value):=fun _=>[(5,otc V bx),(13,YJ n a m b)]
theorem LY{j q rows cols c N:Nat}(hj:j<rows)(hq:q<cols)(h:N≤(j*cols+q)*c):N+c≤(j*cols+(q+1))*c∧(j*cols+(q+1))*c≤rows*cols*c:=by
 have h1:(j*cols+(q+1))*c=(j*cols+q)*c+c:=by rw[←g_,eD,ly]
 have h2:(j+1)*cols≤rows*cols:=cj _ hj;rw[eD,ly]at h2;exact⟨by omega,cj _ (by omega)⟩
section
theorem Tr(fb bn cn dn:Nat)(ca:Option Addr)(cl cc:Nat)(most:Int)(dm:List (Value×Value)){t:List Ce}(hF:T8 t)(hD:An t)(hmost:0≤most∧most≤100000)(hW:uE t≤160)(n:Nat)(ih:RX fb bn cn dn ca cl cc most dm t n)
  (Γ:List aC) [aZ (lL ⟨ca,cl,cc⟩) t Γ](xf xp:Sl){x:Im} [aZ (oE xf xp) x Γ]{i d:Nat}{cx:Ce}(hcx:t[i]? =some cx)(hxm:x∈cx.i)(hk:cz x=10∨cz x=11)(hdep:dep t (n+1) i=some d)
  (V:On)(bx:Q5)(Lb e:Nat) [aZ (OF bx) (Lb,V) Γ](ho:0≤V.o∧V.o≤7)(hLb:Lb≤10000)(hwd:sH e V)(heb:e≤45*TU t d)(cm:List (Int×Int))(hcm:wG t most cm)(s0:Sl)(O:List (Nat×List Value))(es:List lH) [aZ (lU k8 (aY s0)) es Γ]
  (hg:cH 3 O (aY s0) es.length (es.flatMap k8.cells))(hcnt:(es.length:Int)+jg t (jc t 64) x≤100000):
  dD Lk Tryz.prog 90 [fu fb,nd xf xp,Io V bx] (FO fb ⟨ca,cl,cc⟩ bn cn dn most (aY s0)++O) [(bn,bV ea (cu (cA t))),(dn,dm),(cn,bV dH (cu cm))] Γ
   (LyX t most (nv t 64 (fL t 64) x V) (fun v=>FO fb ⟨ca,cl,cc⟩ bn cn dn most v) (bn,bV ea (cu (cA t))) (dn,dm) cn es):=by
 have hce:=aM hcx;have hxo:=hF.ok cx hce x hxm;have hxi:=hxo.im;have hxr:=hD.right cx hce x hxm;have hxb:=hF.by' cx hce x hxm;obtain⟨hturn,hg1,hg2,hplen⟩:=nw hxr hk;obtain⟨hgi1,hgi2⟩:=wZ hxb;obtain⟨hbad,hmag⟩:=JS hturn;obtain⟨s,hs⟩:=hxo.ref hk;obtain⟨k,hkn,hki,hkm⟩:=hD.kid hcx hxm hs;have hkl:=nG hkm;have hc0:=hD.cnt_nn 64 k;have hil:i<t.length:=(List.getElem?_eq_some_iff.1 hcx).1;obtain⟨d',hkd,hdd⟩:∃d',dep t n k=some d'∧d'<d:=by
  unfold dep at hdep;cases hq:js (dep t n) (eS t i) 0 with
  |none=>rw[hq]at hdep;simp at hdep
  |some r=>
   rw[hq]at hdep;simp only[di,aq]at hdep;obtain⟨e',he,hle⟩:=(lC hq).2 k hkm;exact⟨e',he,by omega⟩
 have hup:=Rh hil ⟨n+1,hdep⟩ hdd;have hup2:TU t d'≤160:=aP Rg hW;have hwx:wI x≤wC t i:=aa4 (by rw[mj hcx];exact hxm);have hcI:jg t (jc t 64) x=jc t 64 k*(bJ x).1*(bJ x).2:=by
  unfold jg;have h1:¬(cz x=8∨cz x=45):=by omega
  have h2:¬cz x=9:=by omega
  rw[if_neg h1,if_neg h2,if_pos hk,hkn]
 obtain⟨R,hR⟩:∃R,nv t 64 (fL t 64) x V=R:=⟨_,rfl⟩;have hR2:=hR;unfold nv at hR2;rw[hkn]at hR2;simp only at hR2;rw[hR];have pn:∀(Γ':List aC) [aZ (oE xf xp) x Γ'],aw tb Tryz.prog 79 [nd xf xp] Γ' (jy (.tuple #[.string (strOfNums s),.bool true])):=fun Γ' _=>by
  have:=xA (Γ:=Γ') xf xp hxi;rw[hs]at this;exact this
 refine dD.of_W bK Tryz.func90 rfl (W.c0 [] (pn _).mF (bN [] 1 fb 0 bK (dS [] (FO fb ⟨ca,cl,cc⟩ bn cn dn most (aY s0)++O) fb (0+1) 1 [.slice ca cl cc,.map (some bn),.map (some cn),.map (some dn),.int .i64 most,aY s0] (.map (some bn)) bK (.head _) rfl (vC [] ea 69 9 3 false (FO fb ⟨ca,cl,cc⟩ bn cn dn most (aY s0)++O) [(bn,bV ea (cu (cA t))),(dn,dm),(cn,bV dH (cu cm))] bn (strOfNums s) (cu (cA t)) (.int .i64 0) bK (.head _) ?_))));rw[Bu hki];obtain⟨d64,hd64⟩:=hD.deep k hkl;refine dp [] [] (FO fb ⟨ca,cl,cc⟩ bn cn dn most (aY s0)) O [] [(bn,bV ea (cu (cA t))),(dn,dm),(cn,bV dH (cu cm))] [] ⟨rfl,by rfl,trivial⟩ (KN fb bn cn dn ca cl cc most (aY s0) dm hF hD hmost 64 _ (k:Int) k rfl hkl ⟨d64,hd64⟩ cm hcm) ?_;rintro _ _ _ _ ⟨cm2,hcm2,rfl,rfl,rfl,rfl⟩;by_cases h0:jc t 64 k=0
 ·rw[if_pos h0]at hR2;refine bh [] 37 (min (jc t 64 k) (most+1)==0) (by rw[h0,Int.min_eq_left (by omega)];rfl) (ku [37] (.int .i64 0) (FO fb ⟨ca,cl,cc⟩ bn cn dn most (aY s0)++O) [(bn,bV ea (cu (cA t))),(dn,dm),(cn,bV dH (cu cm2))] ⟨cm2,hcm2,rfl,s0,O,[],fun q hq=>by rw[←hR2]at hq;injection hq,by rw[←hR2];rfl,rfl,by rw[ai];exact hg,rfl⟩ (eC (by rw[ai];exact eK) eE))
 rw[if_neg h0]at hR2;refine aO [] 37 (min (jc t 64 k) (most+1)==0) (by rw[cP];omega) (W.c0 [37] (tY xf xp (x:=x) hxi).mF (jD [] (xC xf xp (x:=x) hxi).mF ?_));rintro _ _ (⟨hb,n',a',m',b',rfl,rfl⟩|⟨hb,qn,qa,qm,qb,rfl,rfl⟩)
 ·rw[hbad]at hb;simp at hb
 refine jD [] (rn xf xp (x:=x) hxi).mF ?_;rintro _ _ ⟨u,⟨u1,u2,u3⟩,rfl,rfl⟩;obtain⟨cols,hcols⟩:∃c:Nat,(bJ x).1=c:=⟨(bJ x).1.toNat,by omega⟩;obtain⟨rows,hrows⟩:∃c:Nat,(bJ x).2=c:=⟨(bJ x).2.toNat,by omega⟩;obtain⟨C,hC⟩:∃C:Nat,jc t 64 k=C:=⟨(jc t 64 k).toNat,by omega⟩;have hown:∀{a b:Int},0≤a∧a<(bJ x).1→0≤b∧b<(bJ x).2→∃e,sH e (tX x a b)∧e+4≤45*wI x:=fun ha hb=>PH hxo hxb hk hg1 hg2 ha hb;have hown2:∀a b:Int,tX x a b=⟨qH x,oI x,lO x,pH Dp.x (bT x) cols rows a b,0,pH Dp.y (bT x) cols rows a b,0⟩:=fun a b=>by unfold tX;rw[hcols,hrows]
 have hpin:=yL hxb;rw[hcols,hrows]at hown;rw[hcols,hrows,hC]at hcI;rw[hcols,hrows,jm,jm]at hR2;rw[hcols]at hg1 hgi1;rw[hrows]at hg2 hgi2;rw[hcols,hrows];have hbig:es.length+rows*cols*C≤100000:=by
  rw[hcI]at hcnt;have e1:(C:Int)*cols*rows=((rows*cols*C:Nat):Int):=by
   rw[dQ,dQ,lE (C:Int),lE ((cols:Int)*C),←Int.mul_assoc]
  rw[e1]at hcnt;omega
 refine W.revp 10 [.int .i64 (cols:Int)] (fun b10=>W.revp 11 [.int .i64 (rows:Int)] (fun b11=>W.revp 16 [aY u] (fun b16=>cX [] 1 b11 0 (.int .i64 (rows:Int)) bK (gL b11 rfl) (jO [] Tryz.f90 0 87 87 [0,5,9,10,12,13,14,17,53,6,54] [5,13] (rfU fb b10 b11 b16 (k:Int) (qH x) (oI x) rows) (rfX V bx qn qa qm qb) (fun a=>FO fb ⟨ca,cl,cc⟩ bn cn dn most (aY a.s)++a.O) (fun a=>[(bn,bV ea (cu (cA t))),(dn,dm),(cn,bV dH (cu a.cm))])
  (fun a=>[OF bx (Lb,V),QF qn qa qm qb (50,lO x),eT b10 [.int .i64 (cols:Int)],eT b11 [.int .i64 (rows:Int)],eT b16 [aY u],sS u (bT x),lL ⟨ca,cl,cc⟩ t,lU k8 (aY a.s) (es++a.E)])
  (fun a=>a.z=a.j∧a.j≤rows∧wG t most a.cm∧cH 3 a.O (aY a.s) (es++a.E).length ((es++a.E).flatMap k8.cells)∧a.E.length≤(a.j*cols+0)*C∧Cp (fun k':Nat=>gl (fun i':Nat=>fL t 64 k ((tX x i' k').then V)) (List.range cols)) (List.range rows) R a.j a.E)
  (fun a=>rows-a.j) ⟨0,0,cm2,s0,O,[]⟩ ⟨rfl,aH _,hcm2,by rw[ai];exact hg,aH _,by rw[←hR2];exact rD _ _⟩ (eC eK (eC eK (eC eK (eC eK (eC eK (eC eK (eC eK (eC (by rw[ai];exact eK) eE)))))))) ?_))))
 rintro⟨j,z,cm3,s1,O1,E1⟩ K ⟨hz,hj,hcm3,hg3,hE1,hl1⟩ close;simp only at hz hj hcm3 hg3 hE1 hl1;by_cases hlt:j<rows
 ·refine bh [] 55 (decide (z<(rows:Int))) (ar (by omega)) (cX [55] 1 b10 0 (.int .i64 (cols:Int)) bK (gL b10 rfl) ?_);have hra:(List.range rows)[j]? =some j:=uK hlt;obtain⟨R2,hRr⟩:∃R2,gl (fun i':Nat=>fL t 64 k ((tX x i' j).then V)) (List.range cols)=R2:=⟨_,rfl⟩;refine Fy [] [6,58] (fun a:Nd=>[(6,.int .i64 0),(58,.int .i64 a.z)]) (fun _=>[]) (fun a=>FO fb ⟨ca,cl,cc⟩ bn cn dn most (aY a.s)++a.O) (fun a=>[(bn,bV ea (cu (cA t))),(dn,dm),(cn,bV dH (cu a.cm))])
   (fun a=>[OF bx (Lb,V),QF qn qa qm qb (50,lO x),eT b10 [.int .i64 (cols:Int)],eT b11 [.int .i64 (rows:Int)],eT b16 [aY u],sS u (bT x),lL ⟨ca,cl,cc⟩ t,lU k8 (aY a.s) ((es++E1)++a.E)])
   (fun a=>a.z=a.j∧a.j≤cols∧wG t most a.cm∧cH 3 a.O (aY a.s) ((es++E1)++a.E).length (((es++E1)++a.E).flatMap k8.cells)∧E1.length+a.E.length≤(j*cols+a.j)*C∧Cp (fun i':Nat=>fL t 64 k ((tX x i' j).then V)) (List.range cols) R2 a.j a.E)
   (fun a=>cols-a.j) ⟨0,0,cm3,s1,O1,[]⟩ ⟨rfl,aH _,hcm3,by rw[ai];exact hg3,by simpa using hE1,by rw[←hRr];exact rD _ _⟩ (eC eK (eC eK (eC eK (eC eK (eC eK (eC eK (eC eK (eC (by rw[ai];exact eK) eE)))))))) ?_
  rintro⟨q,y,cm4,s2,O2,E2⟩ K2 ⟨hy,hq,hcm4,hg4,hE2,hl2⟩ close2;simp only at hy hq hcm4 hg4 hE2 hl2;by_cases hlq:q<cols
  ·have hqa:(List.range cols)[q]? =some q:=uK hlq;obtain⟨ew,hwo,hew⟩:=hown (a:=y) (b:=z) (by omega) (by omega);have hthen:=hwo.then hwd;have hox:=Xc x;have hth:=hown2 y z;rw[hth]at hthen;obtain⟨st1,st2⟩:=LY hlt hlq hE2;have hth2:=Lt (⟨qH x,oI x,lO x,pH Dp.x (bT x) cols rows y z,0,pH Dp.y (bT x) cols rows y z,0⟩:On) V;refine bh [] 59 (decide (y<(cols:Int))) (ar (by omega)) (bz [59] (Xx b16 b10 b11 y z cols rows u hplen hpin (by omega) (by omega) (by omega) (by omega)).mF (fun n2 a2 m2 d2=>bz [] (Xy b16 b10 b11 y z cols rows u hplen hpin (by omega) (by omega) (by omega) (by omega)).mF (fun n3 a3 m3 d3=>W.c0 [] (Tn (qH x) ⟨qn,qa,qm,qb⟩ (oI x) ⟨n2,a2,m2,d2⟩ ⟨n3,a3,m3,d3⟩ (X:=lO x) (Y:=pH Dp.x (bT x) cols rows y z) (Z:=pH Dp.y (bT x) cols rows y z) hox hmag).mF (W.c1 [] (PZ ⟨qH x,oI x,lO x,pH Dp.x (bT x) cols rows y z,0,pH Dp.y (bT x) cols rows y z,0⟩ V ⟨⟨qn,qa,qm,qb⟩,⟨n2,a2,m2,d2⟩,cf,⟨n3,a3,m3,d3⟩,cf⟩ bx hthen.bO hox ho).mF (fun bq'=>dp [] [] (FO fb ⟨ca,cl,cc⟩ bn cn dn most (aY s2)++O2) [] [] [(bn,bV ea (cu (cA t))),(dn,dm),(cn,bV dH (cu cm4))] [] ⟨rfl,by rfl,trivial⟩ (eo:=(by simp only[ai];kernel_rfl)) (ih _ (k:Int) k d' rfl hkl hkd _ bq' _ _ hth2 (by omega) hthen (by omega) cm4 hcm4 s2 O2 ((es++E1)++E2) hg4 (by rw[hC];simp only[aA];omega)) ?_)))))
   rintro _ _ _ _ ⟨cm5,hcm5,rfl,s3,O3,es3,hes3,rfl,rfl,hg5,rfl⟩;rw[ai (FO fb ⟨ca,cl,cc⟩ bn cn dn most (aY s3)++O3)];rw[←hth]at hes3⊢;cases hlr:fL t 64 k ((tX x y z).then V)with
   |error er=>
    have hlr':fL t 64 k ((tX x (q:Int) (j:Int)).then V)=.error er:=by rw[←hy,←hz];exact hlr
    have her:=rT _ _ _ _ hlr;have hRe:R=.error er:=hl1.err hra (by rw[hRr];exact hl2.err hqa hlr');refine bh [] 83 (er != 0) (by rcases her with rfl|rfl<;>rfl) ?_;refine ku [83] (.int .i64 er) (FO fb ⟨ca,cl,cc⟩ bn cn dn most (aY s3)++O3) [(bn,bV ea (cu (cA t))),(dn,dm),(cn,bV dH (cu cm5))] ⟨cm5,hcm5,rfl,s3,O3,E1++E2++es3,fun q h=>by rw[hRe]at h;simp at h,by rw[hRe];rfl,rfl,?_,rfl⟩ (eC (by rw[show es++(E1++E2++es3)=((es++E1)++E2)++es3 by simp];exact eK) eE);rw[show es++(E1++E2++es3)=((es++E1)++E2)++es3 by simp];exact hg5
   |ok sr=>
    have hlr':fL t 64 k ((tX x (q:Int) (j:Int)).then V)=.ok sr:=by rw[←hy,←hz];exact hlr
    have hsl:=hD.lay_len _ _ _ _ hlr;have he3:es3.length=sr.length:=by rw[←hes3 sr hlr,bM]
    refine aO [] 83 ((0:Int) != 0) (by decide) (close2 [83] _ _ ⟨q+1,IntKind.i64.wrap (y+1),cm5,s3,O3,E2++es3⟩ (by kernel_rfl) (by kernel_rfl) ⟨by simp only[af];omega,hlq,hcm5,?_,?_,hl2.step hqa hlr' (hes3 sr hlr)⟩ (by simp only;omega) (eC eK (eC eK (eC eK (eC eK (eC eK (eC eK (eC eK (eC (by rw[show(es++E1)++(E2++es3)=((es++E1)++E2)++es3 by simp];exact eK) eE)))))))))
    ·simp only;rw[show(es++E1)++(E2++es3)=((es++E1)++E2)++es3 by simp];exact hg5
    ·simp only[aA];omega
  ·obtain rfl:q=cols:=by omega
   have hR2:R2=.ok (E2.map lH.x):=hl2.fin (by rw[ib];exact aj _);refine aO [] 59 (decide (y<(q:Int))) (ak (by omega)) (close [59] _ _ ⟨j+1,IntKind.i64.wrap (z+1),cm4,s2,O2,E1++E2⟩ (by kernel_rfl) (by kernel_rfl) ⟨by simp only[af];omega,hlt,hcm4,?_,?_,hl1.step hra (by rw[hRr];exact hR2) rfl⟩ (by simp only;omega) (eC eK (eC eK (eC eK (eC eK (eC eK (eC eK (eC eK (eC (by rw[←aU];exact eK) eE)))))))))
   ·simp only;rw[←aU];exact hg4
   ·simp only[aA];rw[show(j+1)*q+0=j*q+q by rw[eD];omega];omega
 ·obtain rfl:j=rows:=by omega
  have hRo:R=.ok (E1.map lH.x):=hl1.fin (by rw[ib];exact aj _);refine aO [] 55 (decide (z<(j:Int))) (ak (by omega)) (ku [55] (.int .i64 0) (FO fb ⟨ca,cl,cc⟩ bn cn dn most (aY s1)++O1) [(bn,bV ea (cu (cA t))),(dn,dm),(cn,bV dH (cu cm3))] ⟨cm3,hcm3,rfl,s1,O1,E1,fun q h=>by rw[hRo]at h;injection h,by rw[hRo];rfl,rfl,hg3,rfl⟩ (eC eK eE))
end
theorem rY{Γ:List aC}(f p:Sl){x:Im} [h:aZ (oE f p) x Γ](hx:qu x){n:Int}(hk:cz x=n):aw tb Tryz.prog 81 [nd f p] Γ (jy (.int .u8 n)):=by
 rw[←hk];exact j7 f p hx
theorem JD{x:Im}(h:qu x):(bT x).length≤8191:=by
 unfold bT;cases hf:dJ x 16 with
 |none=>simp
 |some r=>
  have:=oh (h.2 r (kO hf).1);simp only[yI,q7];omega
theorem LQ{V:On}{l:List (Sn×Sn)}{j:Nat}{p:Sn×Sn}(h:l[j]? =some p):farL V (l.drop j)=match farP V p with
  |some q=>(q::(farL V (l.drop (j+1))).1,(farL V (l.drop (j+1))).2)
  |none=>([],false):=by
 obtain⟨h1,h2⟩:=List.getElem?_eq_some_iff.1 h;rw[bA h1,h2];rfl
structure Y6 where
 j:Nat
 z:Int
 s:Sl
 O:List (Nat×List Value)
 l:List j4
def lyU(fb:Nat)(u:Sl):Nd→List (Nat×SV):=fun a=>[(0,.val (fu fb)),(5,.ptr 5 0),(28,.val (aY u)),(29,.val (.int .i64 u.n)),(6,.val (.int .i64 0)),(30,.val (.int .i64 a.z))]
theorem He{T:Tb}{Γ:List aC}{L:Nat}{l:List j4}{X Y:Sw}{q:Sn×Sn} [h:aZ (OS gH) (L,l) Γ] [hx:aZ (SF X) (L,q.1) Γ] [hy:aZ (SF Y) (L,q.2) Γ]:∀(I:gd) (w:World),bj T I w→aD Γ I w→(OS gH (L,l++[⟨X,Y,q.1,q.2⟩])).p I w:=fun I w _ hh e he=>by
 rcases List.mem_append.1 he with he|he
 ·exact h.p hh e he
 ·simp only[aF,aJ,b_]at he;subst he;exact⟨hx.p hh,hy.p hh⟩
theorem Pt{T:Tb}{Γ:List aC}{L:Nat}{l:List j4}{ao:Option Addr} [h:aZ (OS gH) (L,l) Γ] [hr:aZ (RA ao) (l.flatMap gH.cells) Γ]:∀(I:gd) (w:World),bj T I w→aD Γ I w→aD [OL gH ao (L,l)] I w:=fun I w _ hh=>aT ⟨fun e he=>h.p hh e he,hr.p hh⟩
theorem IW{l:List j4}{e:Nat}(h:∀q∈l.map j4.num,Fq e q):VC (l.map j4.num):=fun q hq=>(h q hq).f
section
variable{Γ:List aC}{L:Nat}
theorem Xt(V:On)(x:Q5)(d:Dp){e:Nat} [aZ (OF x) (L,V) Γ](ho:0≤V.o∧V.o≤7)(hw:sH e V)(hx:d.x.natAbs≤2^31)(hy:d.y.natAbs≤2^31)(hL:L≤10000:=by omega):
  aw tb Tryz.prog 86 [Io V x,.agg #[.int .i64 d.x,.int .i64 d.y]] Γ (vU ((e+190)/32+1) (Ea V d).1 (Ea V d).2):=by
 have hok:=Uq hw hx hy;have e1:(2:Nat)^31=2147483648:=by decide
 rw[e1]at hx hy;have h:=aaI (Γ:=Γ) V x d.x d.y ho (by omega) (by omega) hL;exact h.plT hok.b1 hok.b2
end
section
theorem Xr(fb bn cn dn:Nat)(ca:Option Addr)(cl cc:Nat)(most:Int)(dm:List (Value×Value)){t:List Ce}(hF:T8 t)(hD:An t)(hmost:0≤most∧most≤100000)(hW:uE t≤160)(n:Nat)(ih:RX fb bn cn dn ca cl cc most dm t n):RX fb bn cn dn ca cl cc most dm t (n+1):=by
 intro Γ hcs c i d hc hi hdep V bx Lb e hof ho hLb hwd heb cm hcm s0 O es hos hg hcnt;obtain⟨x,hx⟩:∃x,t[i]? =some x:=⟨_,ah hi⟩;have hxm:=aM hx;have hitems:=mj hx;have hc64:=hD.cnt64 hi;rw[hitems]at hc64;have hl64:=hD.lay64 hi V;rw[hitems]at hl64;have hup2:TU t d≤160:=aP Rg hW;obtain⟨R,hR⟩:∃R,fL t 64 i V=R:=⟨_,rfl⟩;rw[hR]at hl64⊢;rw[hc64]at hcnt;have hlen:x.i.length≤100000:=hF.len x hxm;refine dD.of_W bK Tryz.func48 rfl (W.len gT lT.x ⟨ca,cl,cc⟩ rfl (fun h1 h2 h3=>?_));simp only at h1 h2 h3;have hil:i<cl:=by rw[h1];exact hi
 refine sJ ⟨ca,cl,cc⟩ hx (fun b off fh fi ha=>?_);simp only at ha;subst ha;refine W.more (Δ:=[qA fi x.i]) rfl (fun I w _ hh=>aT (aZ.p (k:=zJ fh fi) (a:=x) inferInstance hh).2) ?_;obtain⟨ia,im,ic⟩:=fi;refine W.len kM mR.x ⟨ia,im,ic⟩ rfl (fun i1 i2 i3=>?_);simp only at i1 i2 i3;refine bN [] 0 fb 0 bK (dS [] (FO fb ⟨some ⟨b,off,none⟩,cl,cc⟩ bn cn dn most (aY s0)++O) fb (0+0) 1 [.slice (some ⟨b,off,none⟩) cl cc,.map (some bn),.map (some cn),.map (some dn),.int .i64 most,aY s0] (.slice (some ⟨b,off,none⟩) cl cc) bK (.head _) rfl (bI [] 2 b off cl cc .i64 i c hc bK hil (bN [] 1 b (off+i*2) bK (cX [] 1 b (off+i*2+1) (.slice ia im ic) bK (fun I w hd hh=>bH (T:=Lk) b (off+i*2) I w hd hh 1 _ rfl) (jO [] Tryz.f48 0 112 112 [0,5,28,29,6,30] [5] (lyU fb ⟨ia,im,ic⟩) (fun _=>[(5,otc V bx)]) (fun a=>FO fb ⟨some ⟨b,off,none⟩,cl,cc⟩ bn cn dn most (aY a.s)++a.O) (fun a=>[(bn,bV ea (cu (cA t))),(dn,dm),(cn,bV dH (cu a.cm))])
  (fun a=>[OF bx (Lb,V),qA ⟨ia,im,ic⟩ x.i,lL ⟨some ⟨b,off,none⟩,cl,cc⟩ t,lU k8 (aY a.s) (es++a.E)])
  (fun a=>a.z=a.j∧a.j≤im∧wG t most a.cm∧cH 3 a.O (aY a.s) (es++a.E).length ((es++a.E).flatMap k8.cells)∧(a.E.length:Int)≤((x.i.take a.j).map (jg t (jc t 64))).sum∧Cp (jN t 64 (fL t 64) V) x.i R a.j a.E)
  (fun a=>im-a.j) ⟨0,0,cm,s0,O,[]⟩ ⟨rfl,aH _,hcm,by rw[ai];exact hg,by simp,by rw[hl64];exact rD _ _⟩ (eC eK (eC eK (eC eK (eC (by rw[ai];exact eK) eE)))) ?_)))))
 rintro⟨j,z,cm1,s1,O1,E1⟩ K ⟨hz,hj,hcm1,hg1,hE1,hl1⟩ close;simp only at hz hj hcm1 hg1 hE1 hl1;by_cases hlt:j<im
 ·obtain⟨y,hy⟩:∃y,x.i[j]? =some y:=⟨_,ah (by omega)⟩;have hym:=aM hy;have hyo:=hF.ok x hxm y hym;have hyok:=hyo.im;have hyr:=hD.right x hxm y hym;have hyb:=hF.by' x hxm y hym;have htot:((x.i.take (j+1)).map (jg t (jc t 64))).sum≤(x.i.map (jg t (jc t 64))).sum:=by
   have e0:(x.i.map (jg t (jc t 64))).sum=((x.i.take (j+1)).map (jg t (jc t 64))).sum+((x.i.drop (j+1)).map (jg t (jc t 64))).sum:=by
    rw[←iv,←aS,j2]
   have e1:0≤((x.i.drop (j+1)).map (jg t (jc t 64))).sum:=wE fun q hq=>by
    obtain⟨y',hy',rfl⟩:=List.mem_map.1 hq;exact uR (hD.cnt_nn 64) (hD.right x hxm y' (sR hy'))
   omega
  have hsum:((x.i.take (j+1)).map (jg t (jc t 64))).sum=((x.i.take j).map (jg t (jc t 64))).sum+jg t (jc t 64) y:=by
   rw[fM hy,aS,iv];simp
  have hcy:=uR (t:=t) (hD.cnt_nn 64) hyr;have hfit:((es++E1).length:Int)+jg t (jc t 64) y≤100000:=by rw[aA];omega
  have next:∀(es3:List lH) (sr:List Sh),jN t 64 (fL t 64) V y=.ok sr→es3.map lH.x=sr→((E1++es3).length:Int)≤((x.i.take (j+1)).map (jg t (jc t 64))).sum∧Cp (jN t 64 (fL t 64) V) x.i R (j+1) (E1++es3):=fun es3 sr h1 h2=>by
   have h3:=hD.item_len (hD.lay_len 64) hyr h1;have h4:es3.length=sr.length:=by rw[←h2,bM]
   refine⟨?_,hl1.step hy h1 h2⟩;rw[hsum,aA];omega
  refine vB ⟨ia,im,ic⟩ hy (fun b2 off2 yf yp ha=>?_);simp only at ha;subst ha;refine bh [] 31 (decide (z<(im:Int))) (ar (by omega)) (bI [31] 2 b2 off2 im ic .i64 j z hz bK hlt (cJ [] b2 (off2+j*2) [aY yf,aY yp] bK (bH b2 (off2+j*2)) ?_));obtain⟨LI,hLI⟩:∃LI,jN t 64 (fL t 64) V y=LI:=⟨_,rfl⟩;rcases(show(cz y=8∨cz y=45)∨cz y=9∨(cz y=10∨cz y=11)∨cz y=12∨cz y=21 by have:=hyo.kind;omega)with hk|hk|hk|hk
  ·have hk2:=hk;rcases hk with hk|hk;refine W.c0 [] (rY (n:=8) yf yp hyok hk).mF ?_
   rotate_left
   refine W.c0 [] (rY (n:=45) yf yp hyok hk).mF ?_
   all_goals
    have h4:=E5 hyr hk2;have hpl:=JD hyok;have hI:jN t 64 (fL t 64) V y=iU y ((bT y).dropLast.map (Ea V)):=by unfold jN;rw[if_pos hk2]
    refine jD [36] (rn yf yp (x:=y) hyok).mF ?_;rintro _ _ ⟨u,⟨u1,u2,u3⟩,rfl,rfl⟩;obtain⟨pb,po,hao⟩:=u3 (by intro e';rw[e']at h4;simp at h4);obtain⟨ua,un,uc⟩:=u;simp only at u1 u2 hao;subst hao;have hdl:(bT y).dropLast.length=un-1:=by rw[List.length_dropLast,u1]
    refine CL [] 2 pb po un uc none (some (.int .i64 (IntKind.i64.wrap ((un:Int)-1)))) 0 (un-1) bK (.inr ⟨rfl,rfl⟩) (.inl (by rw[af];congr;omega)) (aH _) (gY [] [9,47] (fun a:Y6=>[(9,aY a.s),(47,.int .i64 a.z)]) (fun _=>[]) (fun a=>(FO fb ⟨some ⟨b,off,none⟩,cl,cc⟩ bn cn dn most (aY s1)++O1)++a.O)
     (fun a=>[OF bx (Lb,V),qA ⟨some ⟨b2,off2,none⟩,im,ic⟩ x.i,oE yf yp y,lL ⟨some ⟨b,off,none⟩,cl,cc⟩ t,lU k8 (aY s1) (es++E1),sS ⟨some ⟨pb,po,none⟩,un,uc⟩ (bT y),OS gH ((e+190)/32+1,a.l)])
     (fun a=>a.z=a.j∧a.j≤un-1∧a.l.length=a.j∧cH 40 a.O (aY a.s) a.l.length (a.l.flatMap gH.cells)∧a.l.map j4.num=((bT y).dropLast.take a.j).map (Ea V)∧∀q∈a.l.map j4.num,Fq e q)
     (fun a=>un-1-a.j) ⟨0,0,⟨none,0,0⟩,[],[]⟩ (h0:=(by simp only[ai];kernel_rfl)) ⟨rfl,aH _,rfl,cH.nil 40,rfl,fun q hq=>by simp at hq⟩ (eC eK (eC eK (eC eK (eC eK (eC eK (eC eK (eC (fun I w hd hh e he=>by simp at he) eE))))))) ?_)
    rintro⟨q,y2,s2,O2,l⟩ K2 ⟨hy2,hq,hll,hg2,hnum,hok⟩ close2;simp only at hy2 hq hll hg2 hnum hok;by_cases hlq:q<un-1
    ·obtain⟨p,hp⟩:∃p,(bT y)[q]? =some p:=⟨_,ah (by omega)⟩;have hdp:(bT y).dropLast[q]? =some p:=by rw[List.getElem?_dropLast,if_pos (by omega)];exact hp
     have hpi:=yL hyb p (aM hp);have ex:p.x.natAbs≤2^31:=by show p.x.natAbs≤2147483648;omega
     have ey:p.y.natAbs≤2^31:=by show p.y.natAbs≤2147483648;omega
     refine bh [] 48 (decide (y2<((un-1-0:Nat):Int))) (ar (by omega)) (bI [48] 2 pb (po+0*2) (un-1-0) (uc-0) .i64 q y2 hy2 bK (by omega) (cJ [] pb (po+0*2+q*2) (ed p) bK (fun I w hd hh k v hv=>by
      rw[qD,fK];exact kH pb po un uc hp I w hd hh k v hv) ?_))
     refine bR [] (Xt V bx p ho hwd ex ey).mF (fun X Y=>cW [] 1 (gH.cells ⟨X,Y,(Ea V p).1,(Ea V p).2⟩) bK (fun b8=>W.app [] ((FO fb ⟨some ⟨b,off,none⟩,cl,cc⟩ bn cn dn most (aY s1)++O1)++O2) (FO fb ⟨some ⟨b,off,none⟩,cl,cc⟩ bn cn dn most (aY s1)++O1) O2 [] 40 640 l.length 1 (aY s2) (.slice (some ⟨b8,0,none⟩) 1 1) (l.flatMap gH.cells) (gH.cells ⟨X,Y,(Ea V p).1,(Ea V p).2⟩) bK hg2 (cg b8 _ 1 40 rfl 1) (qK _) (fun v' O' hg'=>?_)));obtain⟨s',rfl⟩:=iz hg';rw[ai ((FO fb ⟨some ⟨b,off,none⟩,cl,cc⟩ bn cn dn most (aY s1)++O1)++O')];refine close2 [] _ _ ⟨q+1,IntKind.i64.wrap (y2+1),s',O',l++[⟨X,Y,(Ea V p).1,(Ea V p).2⟩]⟩ (by kernel_rfl) (by kernel_rfl) ⟨by simp only[af];omega,by simp only;omega,by simp[hll],?_,?_,?_⟩ (by simp only;omega) (eC eK (eC eK (eC eK (eC eK (eC eK (eC eK (eC He eE)))))))
     ·simp only[aA,br,aB,a_,bB,List.flatMap_nil,ai];exact hg'
     ·simp only;rw[fM hdp,aS,aS,hnum];rfl
     ·intro w hw;simp only[aS,eA]at hw;rcases hw with hw|hw
      ·exact hok w hw
      ·simp only[bQ,dd,aF,aJ,b_]at hw;subst hw;exact Uq hwd ex ey
    ·obtain rfl:q=un-1:=by omega
     have htk:(bT y).dropLast.take (un-1)=(bT y).dropLast:=aR (by omega);rw[htk]at hnum;refine aO [] 48 (decide (y2<((un-1-0:Nat):Int))) (ak (by omega)) (l9 (FO fb ⟨some ⟨b,off,none⟩,cl,cc⟩ bn cn dn most (aY s1)++O1) O2 [] (by rw[ai];kernel_rfl) hg2 (fun g5 g1 g2=>rJ (FO fb ⟨some ⟨b,off,none⟩,cl,cc⟩ bn cn dn most (aY s1)++O1) ?_));obtain⟨sa,sn,sc⟩:=s2;simp only at g5 g1 g2;subst g5;refine W.more (by kernel_rfl) (Pt (ao:=sa) (l:=l) (L:=(e+190)/32+1)) (dp [48] [] (FO fb ⟨some ⟨b,off,none⟩,cl,cc⟩ bn cn dn most (aY s1)++O1) [] [(bn,bV ea (cu (cA t))),(dn,dm),(cn,bV dH (cu cm1))] [] [] ⟨rfl,by rfl,trivial⟩ (eo:=(by simp only[ai];kernel_rfl)) (KT fb bn cn dn ⟨some ⟨b,off,none⟩,cl,cc⟩ most s1 yf yp O1 (es++E1) sa sc l (x:=y) (L:=(e+190)/32+1) hyok (IW hok) hg1) ?_);rintro _ _ _ _ ⟨rfl,s3,O3,es3,hes3,rfl,rfl,hg5,rfl⟩;rw[ai (FO fb ⟨some ⟨b,off,none⟩,cl,cc⟩ bn cn dn most (aY s3)++O3)];rw[hnum]at hes3⊢;cases hlr:iU y ((bT y).dropLast.map (Ea V))with
     |error er=>
      have hli:jN t 64 (fL t 64) V y=.error er:=by rw[hI,hlr]
      have her:er=25∨er=26:=xj (rT 64) hli;have hRe:R=.error er:=hl1.err hy hli;refine bh [] 109 (er != 0) (by rcases her with rfl|rfl<;>rfl) ?_;refine ku [109] (.int .i64 er) (FO fb ⟨some ⟨b,off,none⟩,cl,cc⟩ bn cn dn most (aY s3)++O3) [(bn,bV ea (cu (cA t))),(dn,dm),(cn,bV dH (cu cm1))] ⟨cm1,hcm1,rfl,s3,O3,E1++es3,fun q h=>by rw[hRe]at h;simp at h,by rw[hRe];rfl,rfl,?_,rfl⟩ (eC (by rw[show es++(E1++es3)=(es++E1)++es3 by simp];exact eK) eE);rw[show es++(E1++es3)=(es++E1)++es3 by simp];exact hg5
     |ok sr=>
      have hli:jN t 64 (fL t 64) V y=.ok sr:=by rw[hI,hlr]
      obtain⟨n1,n2⟩:=next es3 sr hli (hes3 sr hlr)
      refine aO [] 109 ((0:Int) != 0) (by decide) (close [109] _ _ ⟨j+1,IntKind.i64.wrap (z+1),cm1,s3,O3,E1++es3⟩ (by kernel_rfl) (by kernel_rfl) ⟨by simp only[af];omega,hlt,hcm1,?_,n1,n2⟩ (by simp only;omega) (eC eK (eC eK (eC eK (eC (by rw[show es++(E1++es3)=(es++E1)++es3 by simp];exact eK) eE)))));simp only;rw[show es++(E1++es3)=(es++E1)++es3 by simp];exact hg5
  ·refine W.c0 [] (rY (n:=9) yf yp hyok hk).mF ?_;obtain⟨hPC,hPl⟩:=Qj (x:=y);have hI:jN t 64 (fL t 64) V y=(if(farL V (jk y)).2=true then(if jk y=[]then .ok []else iU y (farL V (jk y)).1)
      else match gS (farL V (jk y)).1 with
      | .ok _=>.error 25
      | .error e=>.error e):=by unfold jN;rw[if_neg (by omega),if_pos hk];rfl
   refine jD [62,36] (Ju yf yp (x:=y) hyok).mF ?_;rintro _ _ ⟨ao,pc,pl,rfl,hpc,hpl,rfl⟩;have hpln:pl.length=(jk y).length:=by rw[←hpl,bM]
   refine gY [] [6,9,71] (fun a:Y6=>[(6,.int .i64 0),(9,aY a.s),(71,.int .i64 a.z)]) (fun _=>[]) (fun a=>(FO fb ⟨some ⟨b,off,none⟩,cl,cc⟩ bn cn dn most (aY s1)++O1)++a.O)
    (fun a=>[OF bx (Lb,V),qA ⟨some ⟨b2,off2,none⟩,im,ic⟩ x.i,oE yf yp y,lL ⟨some ⟨b,off,none⟩,cl,cc⟩ t,lU k8 (aY s1) (es++E1),OL gH ao (130,pl),OS gH ((e+190)/32+1,a.l)])
    (fun a=>a.z=a.j∧a.j≤pl.length∧a.l.length=a.j∧cH 40 a.O (aY a.s) a.l.length (a.l.flatMap gH.cells)∧farL V (jk y)=(a.l.map j4.num++(farL V ((jk y).drop a.j)).1,(farL V ((jk y).drop a.j)).2)∧∀q∈a.l.map j4.num,Fq e q)
    (fun a=>pl.length-a.j) ⟨0,0,⟨none,0,0⟩,[],[]⟩ (h0:=(by simp only[ai];kernel_rfl)) ⟨rfl,aH _,rfl,cH.nil 40,rfl,fun q hq=>by simp at hq⟩ (eC eK (eC eK (eC eK (eC eK (eC eK (eC eK (eC (fun I w hd hh e he=>by simp at he) eE))))))) ?_
   rintro⟨q,y2,s2,O2,l⟩ K2 ⟨hy2,hq,hll,hg2,hfar,hok⟩ close2;simp only at hy2 hq hll hg2 hfar hok;by_cases hlq:q<pl.length
   ·obtain⟨pe,hpe⟩:∃pe,pl[q]? =some pe:=⟨_,ah hlq⟩;have hpn:(jk y)[q]? =some (pe.X,pe.Y):=by rw[←hpl];exact EF hpe
    have hPq:=hPC _ (aM hpn);rw[LQ hpn]at hfar;refine R5 ao hpe rfl (fun pb po hao=>?_);subst hao;refine bh [] 72 (decide (y2<(pl.length:Int))) (ar (by omega)) (bI [72] 40 pb po pl.length pc .i64 q y2 hy2 bK hlq (cJ [] pb (po+q*40) (gH.cells pe) bK (Ab pb po hpe) ?_));cases hfp:farP V (pe.X,pe.Y)with
    |none=>
     rw[hfp]at hfar;simp only[ai]at hfar;refine W.c0 [] (Tl V bx pe.x pe.y (P:=(pe.X,pe.Y)) ho hPq hfp).mF (bh [] 82 ((6:Int) != 0) (by decide) (l9 (FO fb ⟨some ⟨b,off,none⟩,cl,cc⟩ bn cn dn most (aY s1)++O1) O2 [] (by rw[ai];kernel_rfl) hg2 (fun g5 g1 g2=>rJ (FO fb ⟨some ⟨b,off,none⟩,cl,cc⟩ bn cn dn most (aY s1)++O1) ?_)));obtain⟨sa,sn,sc⟩:=s2;simp only at g5 g1 g2;subst g5;refine W.more (by kernel_rfl) (Pt (ao:=sa) (l:=l) (L:=(e+190)/32+1)) (W.c0 [82] (Td fb sa sc l (L:=(e+190)/32+1) (IW hok) (by omega) (by omega)).mF ?_);have hI2:jN t 64 (fL t 64) V y=match gS (l.map j4.num)with
      | .ok _=>.error 25
      | .error e=>.error e:=by rw[hI,hfar];rfl
     cases hgr:gS (l.map j4.num)with
     |error er=>
      rw[hgr]at hI2;have her:=uW hgr;have hRe:R=.error er:=hl1.err hy hI2;subst her;refine bh [] 87 ((26:Int) != 0) (by decide) (ku [87] (.int .i64 26) (FO fb ⟨some ⟨b,off,none⟩,cl,cc⟩ bn cn dn most (aY s1)++O1) [(bn,bV ea (cu (cA t))),(dn,dm),(cn,bV dH (cu cm1))] ⟨cm1,hcm1,rfl,s1,O1,E1,fun q h=>by rw[hRe]at h;simp at h,by rw[hRe];rfl,rfl,hg1,rfl⟩ (eC eK eE))
     |ok gr=>
      rw[hgr]at hI2;have hRe:R=.error 25:=hl1.err hy hI2;refine aO [] 87 ((0:Int) != 0) (by decide) (ku [87] (.int .i64 25) (FO fb ⟨some ⟨b,off,none⟩,cl,cc⟩ bn cn dn most (aY s1)++O1) [(bn,bV ea (cu (cA t))),(dn,dm),(cn,bV dH (cu cm1))] ⟨cm1,hcm1,rfl,s1,O1,E1,fun q h=>by rw[hRe]at h;simp at h,by rw[hRe];rfl,rfl,hg1,rfl⟩ (eC eK eE))
    |some fq=>
     rw[hfp]at hfar;simp only at hfar;refine bR [] (Tm V bx pe.x pe.y (P:=(pe.X,pe.Y)) ho hPq hwd hfp).mF (fun X Y=>aO [] 82 ((0:Int) != 0) (by decide) (cW [82] 1 (gH.cells ⟨X,Y,fq.1,fq.2⟩) bK (fun b8=>W.app [] ((FO fb ⟨some ⟨b,off,none⟩,cl,cc⟩ bn cn dn most (aY s1)++O1)++O2) (FO fb ⟨some ⟨b,off,none⟩,cl,cc⟩ bn cn dn most (aY s1)++O1) O2 [] 40 640 l.length 1 (aY s2) (.slice (some ⟨b8,0,none⟩) 1 1) (l.flatMap gH.cells) (gH.cells ⟨X,Y,fq.1,fq.2⟩) bK hg2 (cg b8 _ 1 40 rfl 1) (qK _) (fun v' O' hg'=>?_))));obtain⟨s',rfl⟩:=iz hg';rw[ai ((FO fb ⟨some ⟨b,off,none⟩,cl,cc⟩ bn cn dn most (aY s1)++O1)++O')];refine close2 [] _ _ ⟨q+1,IntKind.i64.wrap (y2+1),s',O',l++[⟨X,Y,fq.1,fq.2⟩]⟩ (by kernel_rfl) (by kernel_rfl) ⟨by simp only[af];omega,by simp only;omega,by simp[hll],?_,?_,?_⟩ (by simp only;omega) (eC eK (eC eK (eC eK (eC eK (eC eK (eC eK (eC He eE)))))))
     ·simp only[aA,br,aB,a_,bB,List.flatMap_nil,ai];exact hg'
     ·simp only;rw[hfar,aS,aU];rfl
     ·intro w hw;simp only[aS,eA]at hw;rcases hw with hw|hw
      ·exact hok w hw
      ·simp only[bQ,dd,aF,aJ,b_]at hw;subst hw;exact Ob hwd hPq hfp
   ·obtain rfl:q=pl.length:=by omega
    rw[bp (by omega)]at hfar;simp only[farL,ai]at hfar;refine aO [] 72 (decide (y2<(pl.length:Int))) (ak (by omega)) ?_;by_cases h0:0<pl.length
    ·have hne:jk y≠ []:=fun e'=>by rw[e',a_]at hpln;omega
     have hI2:jN t 64 (fL t 64) V y=iU y (l.map j4.num):=by rw[hI,hfar,if_pos rfl,if_neg hne]
     refine bh [72] 96 (decide ((pl.length:Int)>0)) (ar (by omega)) (l9 (FO fb ⟨some ⟨b,off,none⟩,cl,cc⟩ bn cn dn most (aY s1)++O1) O2 [] (by rw[ai];kernel_rfl) hg2 (fun g5 g1 g2=>rJ (FO fb ⟨some ⟨b,off,none⟩,cl,cc⟩ bn cn dn most (aY s1)++O1) ?_));obtain⟨sa,sn,sc⟩:=s2;simp only at g5 g1 g2;subst g5;refine W.more (by kernel_rfl) (Pt (ao:=sa) (l:=l) (L:=(e+190)/32+1)) (dp [96] [] (FO fb ⟨some ⟨b,off,none⟩,cl,cc⟩ bn cn dn most (aY s1)++O1) [] [(bn,bV ea (cu (cA t))),(dn,dm),(cn,bV dH (cu cm1))] [] [] ⟨rfl,by rfl,trivial⟩ (eo:=(by simp only[ai];kernel_rfl)) (KT fb bn cn dn ⟨some ⟨b,off,none⟩,cl,cc⟩ most s1 yf yp O1 (es++E1) sa sc l (x:=y) (L:=(e+190)/32+1) hyok (IW hok) hg1) ?_);rintro _ _ _ _ ⟨rfl,s3,O3,es3,hes3,rfl,rfl,hg5,rfl⟩;rw[ai (FO fb ⟨some ⟨b,off,none⟩,cl,cc⟩ bn cn dn most (aY s3)++O3)];cases hlr:iU y (l.map j4.num)with
     |error er=>
      have hli:jN t 64 (fL t 64) V y=.error er:=by rw[hI2,hlr]
      have her:er=25∨er=26:=xj (rT 64) hli;have hRe:R=.error er:=hl1.err hy hli;refine bh [] 109 (er != 0) (by rcases her with rfl|rfl<;>rfl) ?_;refine ku [109] (.int .i64 er) (FO fb ⟨some ⟨b,off,none⟩,cl,cc⟩ bn cn dn most (aY s3)++O3) [(bn,bV ea (cu (cA t))),(dn,dm),(cn,bV dH (cu cm1))] ⟨cm1,hcm1,rfl,s3,O3,E1++es3,fun q h=>by rw[hRe]at h;simp at h,by rw[hRe];rfl,rfl,?_,rfl⟩ (eC (by rw[show es++(E1++es3)=(es++E1)++es3 by simp];exact eK) eE);rw[show es++(E1++es3)=(es++E1)++es3 by simp];exact hg5
     |ok sr=>
      have hli:jN t 64 (fL t 64) V y=.ok sr:=by rw[hI2,hlr]
      obtain⟨n1,n2⟩:=next es3 sr hli (hes3 sr hlr)
      refine aO [] 109 ((0:Int) != 0) (by decide) (close [109] _ _ ⟨j+1,IntKind.i64.wrap (z+1),cm1,s3,O3,E1++es3⟩ (by kernel_rfl) (by kernel_rfl) ⟨by simp only[af];omega,hlt,hcm1,?_,n1,n2⟩ (by simp only;omega) (eC eK (eC eK (eC eK (eC (by rw[show es++(E1++es3)=(es++E1)++es3 by simp];exact eK) eE)))));simp only;rw[show es++(E1++es3)=(es++E1)++es3 by simp];exact hg5
    ·have hne:jk y=[]:=aL (by omega);have hli:jN t 64 (fL t 64) V y=.ok []:=by rw[hI,hfar,if_pos rfl,if_pos hne]
     obtain⟨n1,n2⟩:=next [] [] hli rfl
     rw[ai]at n1 n2;refine aO [72] 96 (decide ((pl.length:Int)>0)) (ak (by omega)) (rI (FO fb ⟨some ⟨b,off,none⟩,cl,cc⟩ bn cn dn most (aY s1)++O1) O2 [] (by rw[ai];kernel_rfl) (rJ (FO fb ⟨some ⟨b,off,none⟩,cl,cc⟩ bn cn dn most (aY s1)++O1) (close [109,96] _ _ ⟨j+1,IntKind.i64.wrap (z+1),cm1,s1,O1,E1⟩ (by kernel_rfl) (by kernel_rfl) ⟨by simp only[af];omega,hlt,hcm1,hg1,n1,n2⟩ (by simp only;omega) (eC eK (eC eK (eC eK (eC eK eE)))))))
  ·have hk2:=hk;rcases hk with hk|hk;refine W.c0 [] (rY (n:=10) yf yp hyok hk).mF ?_
   rotate_left
   refine W.c0 [] (rY (n:=11) yf yp hyok hk).mF ?_
   all_goals
    have hI:jN t 64 (fL t 64) V y=nv t 64 (fL t 64) y V:=by unfold jN;rw[if_neg (by omega),if_neg (by omega),if_pos hk2]
    refine dp [101,62,36] [] (FO fb ⟨some ⟨b,off,none⟩,cl,cc⟩ bn cn dn most (aY s1)++O1) [] [] [(bn,bV ea (cu (cA t))),(dn,dm),(cn,bV dH (cu cm1))] [] ⟨rfl,by rfl,trivial⟩ (eo:=(by simp only[ai];kernel_rfl)) (Tr fb bn cn dn (some ⟨b,off,none⟩) cl cc most dm hF hD hmost hW n ih _ yf yp (x:=y) hx hym hk2 hdep V bx Lb e ho hLb hwd heb cm1 hcm1 s1 O1 (es++E1) hg1 hfit) ?_;rintro _ _ _ _ ⟨cm3,hcm3,rfl,s3,O3,es3,hes3,rfl,rfl,hg5,rfl⟩;rw[ai (FO fb ⟨some ⟨b,off,none⟩,cl,cc⟩ bn cn dn most (aY s3)++O3)];cases hlr:nv t 64 (fL t 64) y V with
    |error er=>
     have hli:jN t 64 (fL t 64) V y=.error er:=by rw[hI,hlr]
     have her:er=25∨er=26:=xj (rT 64) hli;have hRe:R=.error er:=hl1.err hy hli;refine bh [] 109 (er != 0) (by rcases her with rfl|rfl<;>rfl) ?_;refine ku [109] (.int .i64 er) (FO fb ⟨some ⟨b,off,none⟩,cl,cc⟩ bn cn dn most (aY s3)++O3) [(bn,bV ea (cu (cA t))),(dn,dm),(cn,bV dH (cu cm3))] ⟨cm3,hcm3,rfl,s3,O3,E1++es3,fun q h=>by rw[hRe]at h;simp at h,by rw[hRe];rfl,rfl,?_,rfl⟩ (eC (by rw[show es++(E1++es3)=(es++E1)++es3 by simp];exact eK) eE);rw[show es++(E1++es3)=(es++E1)++es3 by simp];exact hg5
    |ok sr=>
     have hli:jN t 64 (fL t 64) V y=.ok sr:=by rw[hI,hlr]
     obtain⟨n1,n2⟩:=next es3 sr hli (hes3 sr hlr)
     refine aO [] 109 ((0:Int) != 0) (by decide) (close [109] _ _ ⟨j+1,IntKind.i64.wrap (z+1),cm3,s3,O3,E1++es3⟩ (by kernel_rfl) (by kernel_rfl) ⟨by simp only[af];omega,hlt,hcm3,?_,n1,n2⟩ (by simp only;omega) (eC eK (eC eK (eC eK (eC (by rw[show es++(E1++es3)=(es++E1)++es3 by simp];exact eK) eE)))));simp only;rw[show es++(E1++es3)=(es++E1)++es3 by simp];exact hg5
  ·have hk2:=hk;rcases hk with hk|hk;refine W.c0 [] (rY (n:=12) yf yp hyok hk).mF ?_
   rotate_left
   refine W.c0 [] (rY (n:=21) yf yp hyok hk).mF ?_
   all_goals
    have hli:jN t 64 (fL t 64) V y=.ok []:=by unfold jN;rw[if_neg (by omega),if_neg (by omega),if_neg (by omega)]
    obtain⟨n1,n2⟩:=next [] [] hli rfl
    rw[ai]at n1 n2;exact close [109,101,62,36] _ _ ⟨j+1,IntKind.i64.wrap (z+1),cm1,s1,O1,E1⟩ (by kernel_rfl) (by kernel_rfl) ⟨by simp only[af];omega,hlt,hcm1,hg1,n1,n2⟩ (by simp only;omega) (eC eK (eC eK (eC eK (eC eK eE))))
 ·have hRo:R=.ok (E1.map lH.x):=hl1.fin (by omega);refine aO [] 31 (decide (z<(im:Int))) (ak (by omega)) (ku [31] (.int .i64 0) (FO fb ⟨some ⟨b,off,none⟩,cl,cc⟩ bn cn dn most (aY s1)++O1) [(bn,bV ea (cu (cA t))),(dn,dm),(cn,bV dH (cu cm1))] ⟨cm1,hcm1,rfl,s1,O1,E1,fun q h=>by rw[hRo]at h;injection h,by rw[hRo];rfl,rfl,hg1,rfl⟩ (eC eK eE))
theorem Vb(fb bn cn dn:Nat)(ca:Option Addr)(cl cc:Nat)(most:Int)(dm:List (Value×Value)){t:List Ce}(hF:T8 t)(hD:An t)(hmost:0≤most∧most≤100000)(hW:uE t≤160):∀n,RX fb bn cn dn ca cl cc most dm t n
 |0=>fun Γ _ c i d hc hi hdep=>by simp[dep]at hdep
 |n+1=>Xr fb bn cn dn ca cl cc most dm hF hD hmost hW n (Vb fb bn cn dn ca cl cc most dm hF hD hmost hW n)
end
def At(nm:List (Int×Value))(L:List Int):Prop:=∀k,gC k nm=if k∈L then some (.bool true)else none
theorem At.nil:At [] []:=fun k=>rfl
theorem At.set{nm:List (Int×Value)}{L:List Int}(h:At nm L)(k:Int):At (la k (.bool true) nm) (L++[k]):=fun j=>by
 rw[iI,h j];by_cases hj:j=k
 ·subst hj;simp
 ·simp[hj]
theorem At.look{nm:List (Int×Value)}{L:List Int}(h:At nm L)(k:Int):(gC k nm).getD (.bool false)=.bool (decide (k∈L)):=by
 rw[h k];by_cases hk:k∈L<;>simp[hk]
def xk(t:List Ce)(l:List Ce):List Int:=l.flatMap (i_ (cA t))
theorem GC{t:List Ce}(h:lost t=false)(c:Nat):decide ((c:Int)∈xk t t)=eN t c:=by
 have e1:((c:Int)∈xk t t)↔∃a,a<t.length∧c∈eS t a:=by
  unfold xk;rw[List.mem_flatMap];constructor
  ·rintro⟨x,hx,hc⟩;obtain⟨a,ha,he⟩:=ox hx;have hax:t[a]? =some x:=by rw[ah ha,he]
   rw[EB h hax,As]at hc;obtain⟨k,hk,e⟩:=hc;exact⟨a,ha,by rw[←Int.natCast_inj.1 e];exact hk⟩
  ·rintro⟨a,ha,hc⟩;have hax:t[a]? =some t[a]:=ah ha;exact⟨t[a],d_ ha,by rw[EB h hax];exact List.mem_map.2 ⟨c,hc,rfl⟩⟩
 unfold eN;by_cases hc:(c:Int)∈xk t t
 ·rw[ar hc];obtain⟨a,ha,hk⟩:=e1.1 hc;have h1:(eS t a).contains c=true:=List.contains_iff_mem.2 hk;exact(List.any_eq_true.2 ⟨a,List.mem_range.2 ha,h1⟩).symm
 ·rw[ak hc];refine(List.any_eq_false.2 fun a ha hk=>hc (e1.2 ⟨a,List.mem_range.1 ha,?_⟩)).symm;have h1:(eS t a).contains c=true:=hk;exact List.contains_iff_mem.1 h1
theorem v8(t:List Ce)(c:Ce):∀(l:List Ce) (i:Nat),ph t (l++[c]) i=(ph t l i|| !(kr t (mg c)==some (i+l.length)))
 | [],i=>by simp[ph]
 |a::l,i=>by
  simp only[dA,ph,v8 t c l (i+1),aB,Bool.or_assoc];rw[show i+1+l.length=i+(l.length+1)by omega]
theorem SG{t:List Ce}{c:Ce}(h:c∈t):∃k,kr t (mg c)=some k:=A_ ⟨c,h,rfl⟩
theorem Dm{t:List Ce}{j:Nat}{x:Ce}(hx:t[j]? =some x)(h:pD t x=true):lost t=true:=List.any_eq_true.2 ⟨x,aM hx,h⟩
theorem GO{t:List Ce}(h:∀(j:Nat) (x:Ce),t[j]? =some x→pD t x=false):lost t=false:=by
 unfold lost;rw[dO];intro x hx;obtain⟨j,hj⟩:=mS hx;rw[h j x hj];simp
theorem NR{t:List Ce}:∀{d n c:Nat},dep t n c=some d→dep t d c=some d:=by
 intro d
 induction d using Nat.strongRecOn with
 |ind d ih=>
 intro n c h;cases n with
 |zero=>simp[dep]at h
 |succ n=>
  unfold dep at h;cases hq:js (dep t n) (eS t c) 0 with
  |none=>rw[hq]at h;simp at h
  |some r=>
   rw[hq]at h;simp only[di,aq]at h;subst h;unfold dep;have:js (dep t r) (eS t c) 0=some r:=by
    rw[←hq];refine m_ fun k hk=>?_;obtain⟨e,he,hle⟩:=(lC hq).2 k hk;rw[he];exact nX (ih e (by omega) he) hle
   rw[this];rfl
theorem uG(f:Nat→Int){j n:Nat}(h:j<n:=by omega):(((List.range n).take (j+1)).map f).sum=(((List.range n).take j).map f).sum+f j:=by
 have hj:(List.range n)[j]? =some j:=uK h;rw[fM hj,aS,iv];simp
theorem D4{T:Tb}{P:Program}{f:FuncId}{args:List Value}{Oin:List (Nat×List Value)}{M M':List (Nat×List (Value×Value))}{Γ:List aC}{post:Value→List (Nat×List Value)→List (Nat×List (Value×Value))→List aC→Prop}
  (h:dD T P f args Oin M Γ post)(hm:M.Perm M'):dD T P f args Oin M' Γ post:=by
 have e:gQ Oin M=gQ Oin M':=by
  funext b;unfold gQ;apply propext;constructor
  ·rintro(h|⟨m,h⟩)
   ·exact .inl h
   ·exact .inr ⟨m,hm.mem_iff.1 h⟩
  ·rintro(h|⟨m,h⟩)
   ·exact .inl h
   ·exact .inr ⟨m,hm.mem_iff.2 h⟩
 refine⟨h.1,fun I w hd hh ho hon hma hmn hx=>?_⟩;rw[←e]at hx⊢;exact h.2 I w hd hh ho hon (fun b m hb=>hma b m (hm.mem_iff.1 hb)) ((hm.map (·.1)).nodup_iff.2 hmn) hx
structure Yt where
 j:Nat
 z:Int
 f:Bool
 nm:List (Int×Value)
structure CkB where
 j:Nat
 z:Int
 d:Nat
 dm:List (Int×Int)
structure CkD where
 j:Nat
 z:Int
 n:Int
 cm:List (Int×Int)
def ck0(fb mb:Nat)(cs:Sl):Yt→List (Nat×SV):=fun a=>[(0,.val (fu fb)),(4,.val (.map (some mb))),(27,.val (aY cs)),(28,.val (.int .i64 cs.n)),(3,.val (.bool a.f)),(2,.val (.int .i64 0)),(29,.val (.int .i64 a.z))]
def ck1(fb mb:Nat)(n:Nat)(f:Bool):CkB→List (Nat×SV):=fun a=>[(0,.val (fu fb)),(3,.val (.bool f)),(4,.val (.map (some mb))),(68,.val (.int .i64 n)),(2,.val (.int .i64 0)),(11,.val (.int .i64 a.d)),(69,.val (.int .i64 a.z))]
def ck2(fb mb:Nat)(cs:Sl)(d:Nat):Yt→List (Nat×SV):=fun a=>[(0,.val (fu fb)),(2,.val (.int .i64 0)),(4,.val (.map (some mb))),(11,.val (.int .i64 d)),(87,.val (aY cs)),(88,.val (.int .i64 cs.n)),(3,.val (.bool a.f)),(89,.val (.int .i64 a.z))]
def ck3(fb mb:Nat)(n:Nat):CkD→List (Nat×SV):=fun a=>[(0,.val (fu fb)),(2,.val (.int .i64 0)),(4,.val (.map (some mb))),(117,.val (.int .i64 n)),(19,.val (.int .i64 a.n)),(118,.val (.int .i64 a.z))]
def ck4(fb mb:Nat)(n:Nat):Nd→List (Nat×SV):=fun a=>[(0,.val (fu fb)),(4,.val (.map (some mb))),(147,.val (.int .i64 n)),(2,.val (.int .i64 0)),(148,.val (.int .i64 a.z))]
theorem Xk(I:gd)(w:World)(hd:bj tb I w):(OF ⟨cf,cf,cf,cf,cf⟩ (0,Fm)).p I w:=by
 have h:=(mK (Γ:=[]) (L':=0) I w hd (aD.nil _ _)).h0';exact⟨h,h,h,h,h⟩
theorem PD(v:Value)(I:gd)(w:World):(lU k8 v []).p I w:=fun e he=>by simp at he
section
theorem S9(fb bn cn dn:Nat)(ca:Option Addr)(cl cc:Nat)(most:Int){t:List Ce}(hF:T8 t)(hmost:0≤most∧most≤100000)(hW:uE t≤160)(Γ:List aC) [aZ (lL ⟨ca,cl,cc⟩) t Γ]:
  dD Lk Tryz.prog 28 [fu fb] (FO fb ⟨ca,cl,cc⟩ bn cn dn most (.slice none 0 0)) [(bn,bV ea (cu (cA t))),(dn,[]),(cn,[])] Γ (fun v O _ Δ=>DZ (pt t most) (fun v=>FO fb ⟨ca,cl,cc⟩ bn cn dn most v) [] v O Δ):=by
 obtain⟨R,hR⟩:∃R,pt t most=R:=⟨_,rfl⟩;have hR2:=hR;unfold pt at hR2;rw[hR];have back:∀e:Int,R=.error e→∀(Γ':List aC),DZ R (fun v=>FO fb ⟨ca,cl,cc⟩ bn cn dn most v) [] (.int .i64 e) (FO fb ⟨ca,cl,cc⟩ bn cn dn most (.slice none 0 0)) [lU k8 (aY ⟨none,0,0⟩) ([]++[])]:=fun e he Γ'=>
  ⟨⟨none,0,0⟩,[],[],fun q h=>by rw[he]at h;simp at h,by rw[he];rfl,rfl,cH.nil 3,rfl⟩
 have bent:∀(Γ':List aC) (I:gd) (w:World),bj Lk I w→aD Γ' I w→aD [lU k8 (aY ⟨none,0,0⟩) ([]++[])] I w:=fun Γ' I w _ _=>aT (PD _ I w);refine dD.of_W bK Tryz.func28 rfl (W.len gT lT.x ⟨ca,cl,cc⟩ rfl (fun c1 c2 c3=>?_));simp only at c1 c2 c3;have htl:=hF.tl;refine JY [] (FO fb ⟨ca,cl,cc⟩ bn cn dn most (.slice none 0 0)) [(bn,bV ea (cu (cA t))),(dn,[]),(cn,[])] (fun mb=>bN [] 0 fb 0 bK (dS [] (FO fb ⟨ca,cl,cc⟩ bn cn dn most (.slice none 0 0)) fb (0+0) 1 [.slice ca cl cc,.map (some bn),.map (some cn),.map (some dn),.int .i64 most,.slice none 0 0] (.slice ca cl cc) bK (.head _) rfl (jO [] Tryz.f28 0 163 163 [0,4,27,28,3,2,29] [] (ck0 fb mb ⟨ca,cl,cc⟩) (fun _=>[]) (fun _=>FO fb ⟨ca,cl,cc⟩ bn cn dn most (.slice none 0 0)) (fun a=>[(mb,bV dH a.nm),(bn,bV ea (cu (cA t))),(dn,[]),(cn,[])]) (fun a=>[lL ⟨ca,cl,cc⟩ t])
  (fun a=>a.z=a.j∧a.j≤cl∧a.f=ph t (t.take a.j) 0∧At a.nm (xk t (t.take a.j))∧∀(i:Nat) (x:Ce),i<a.j→t[i]? =some x→pD t x=false) (fun a=>cl-a.j) ⟨0,0,false,[]⟩ ⟨rfl,aH _,rfl,At.nil,fun i x hi=>absurd hi (gG _)⟩ (eC eK eE) ?_)))
 rintro⟨j,z,f,nm⟩ K ⟨hz,hj,hf,hnm,hlo⟩ close;simp only at hz hj hf hnm hlo;by_cases hlt:j<cl
 ·obtain⟨x,hx⟩:∃x,t[j]? =some x:=⟨_,ah (by omega)⟩;have hxm:=aM hx;obtain⟨k,hk⟩:=SG hxm;have hget:gC (mg x) (cu (cA t))=some (.int .i64 (k:Int)):=by
   rw[mV,vW,hk];rfl
  have hdup:ph t (t.take (j+1)) 0=(f|| !((k:Int)==z)):=by
   have e1:(some k==some j)=((k:Int)==(j:Int)):=by
    by_cases hkj:k=j
    ·subst hkj;simp
    ·have h2:(k:Int)≠(j:Int):=by omega
     rw[beq_eq_false_iff_ne.2 h2,beq_eq_false_iff_ne.2 (fun h=>hkj (Option.some.inj h))]
   rw[fM hx,v8,←hf,hk,dP,bU,fy (by omega),hz,e1]
  refine sJ ⟨ca,cl,cc⟩ hx (fun b off fh fi ha=>?_);simp only at ha;subst ha;refine bh [] 30 (decide (z<(cl:Int))) (ar (by omega)) (bI [30] 2 b off cl cc .i64 j z hz bK hlt (cJ [] b (off+j*2) [aY fh,aY fi] bK (bH b (off+j*2)) (bN [] 1 fb 0 bK (dS [] (FO fb ⟨some ⟨b,off,none⟩,cl,cc⟩ bn cn dn most (.slice none 0 0)) fb (0+1) 1 [.slice (some ⟨b,off,none⟩) cl cc,.map (some bn),.map (some cn),.map (some dn),.int .i64 most,.slice none 0 0] (.map (some bn)) bK (.head _) rfl (W.c0 [] (uZ fh fi (x:=x)).mF (vC [] ea 69 9 3 true (FO fb ⟨some ⟨b,off,none⟩,cl,cc⟩ bn cn dn most (.slice none 0 0)) [(mb,bV dH nm),(bn,bV ea (cu (cA t))),(dn,[]),(cn,[])] bn (mg x) (cu (cA t)) (.int .i64 0) bK (.tail _ (.head _)) ?_))))));rw[hget];refine bh [] 45 true rfl ?_;by_cases hkz:(k:Int)=z
  ·refine aO [45] 49 ((k:Int) != z) (by rw[hkz];simp) ?_;rw[hkz,beq_self_eq_true,Bool.not_true,Bool.or_false]at hdup;refine dp [49] [] (FO fb ⟨some ⟨b,off,none⟩,cl,cc⟩ bn cn dn most (.slice none 0 0)) [] [(mb,bV dH nm)] [(bn,bV ea (cu (cA t)))] [(dn,[]),(cn,[])] ⟨rfl,by rfl,trivial⟩ (Jt fb bn cn dn ⟨some ⟨b,off,none⟩,cl,cc⟩ most (.slice none 0 0) z (i:=j) hz (t:=t) hx (hF.ce x hxm) (hF.len x hxm) (cA t)) ?_;rintro _ _ _ _ ⟨u,hu,rfl,rfl,rfl,rfl⟩;obtain⟨ua,un,uc⟩:=u;simp only at hu;refine Fy [] [2,54] (fun a:Yt=>[(2,.int .i64 0),(54,.int .i64 a.z)]) (fun _=>[]) (fun _=>FO fb ⟨some ⟨b,off,none⟩,cl,cc⟩ bn cn dn most (.slice none 0 0)) (fun a=>[(mb,bV dH a.nm),(bn,bV ea (cu (cA t))),(dn,[]),(cn,[])]) (fun a=>[NL ⟨ua,un,uc⟩ (i_ (cA t) x),lL ⟨some ⟨b,off,none⟩,cl,cc⟩ t])
    (fun a=>a.z=a.j∧a.j≤un∧At a.nm (xk t (t.take j)++(i_ (cA t) x).take a.j)∧∀k∈(i_ (cA t) x).take a.j,¬k<0) (fun a=>un-a.j) ⟨0,0,false,nm⟩ ⟨rfl,aH _,by simpa using hnm,fun k hk=>by simp at hk⟩ (eC eK (eC eK eE)) ?_
   rintro⟨q,y,g,nm2⟩ K2 ⟨hy,hq,hnm2,hpos⟩ close2;simp only at hy hq hnm2 hpos;refine Nr ⟨ua,un,uc⟩ (l:=i_ (cA t) x) rfl (fun _ hu2 hu3=>?_);simp only at hu2 hu3;by_cases hlq:q<un
   ·obtain⟨kk,hkk⟩:∃kk,(i_ (cA t) x)[q]? =some kk:=⟨_,ah (by omega)⟩;have hkm:=aM hkk;obtain⟨bb,o2,hao⟩:=hu3 (by intro e;rw[e]at hkm;simp at hkm);subst hao;refine bh [] 55 (decide (y<(un:Int))) (ar (by omega)) (bI [55] 1 bb o2 un uc .i64 q y hy bK hlq (cX [] 1 bb (o2+q*1) (.int .i64 kk) bK (sM bb o2 un uc hkk) ?_));by_cases hneg:kk<0
    ·have hl:=Dm hx (uY.1 ⟨kk,hkm,hneg⟩);rw[if_pos hl]at hR2;refine bh [] 59 (decide (kk<0)) (ar hneg) (ku [59] (.int .i64 23) (FO fb ⟨some ⟨b,off,none⟩,cl,cc⟩ bn cn dn most (.slice none 0 0)) [(mb,bV dH nm2),(bn,bV ea (cu (cA t))),(dn,[]),(cn,[])] (back 23 hR2.symm Γ) (bent _))
    ·refine aO [] 59 (decide (kk<0)) (ak hneg) (CI [59] dH 104 3 4 (FO fb ⟨some ⟨b,off,none⟩,cl,cc⟩ bn cn dn most (.slice none 0 0)) [] [(bn,bV ea (cu (cA t))),(dn,[]),(cn,[])] mb kk (.bool true) nm2 (close2 [] _ _ ⟨q+1,IntKind.i64.wrap (y+1),false,la kk (.bool true) nm2⟩ (by kernel_rfl) (by kernel_rfl) ⟨by simp only[af];omega,hlq,?_,fun k' hk'=>?_⟩ (by simp only;omega) (eC eK (eC eK eE))))
     ·simp only;rw[fM hkk,←aU];exact hnm2.set kk
     ·simp only at hk';rw[fM hkk,eA]at hk';rcases hk' with h|h
      ·exact hpos k' h
      ·simp only[aF,aJ,b_]at h;rw[h];exact hneg
   ·have hall:(i_ (cA t) x).take q=i_ (cA t) x:=aR (by omega);rw[hall]at hnm2 hpos;refine aO [] 55 (decide (y<(un:Int))) (ak (by omega)) (close [55] _ _ ⟨j+1,IntKind.i64.wrap (z+1),f,nm2⟩ (by kernel_rfl) (by kernel_rfl) ⟨by simp only[af];omega,hlt,hdup.symm,?_,fun i' x' hi' hx'=>?_⟩ (by simp only;omega) (eC eK eE))
    ·simp only;unfold xk at hnm2⊢;rw[fM hx,br];simpa using hnm2
    ·simp only at hi';by_cases hij:i'<j
     ·exact hlo i' x' hij hx'
     ·obtain rfl:i'=j:=by omega
      rw[hx]at hx';injection hx' with hx';subst hx';cases hlc:pD t x with
      |false=>rfl
      |true=>
       obtain⟨k',h1,h2⟩:=uY.2 hlc;exact absurd h2 (hpos k' h1)
  ·refine bh [45] 49 ((k:Int) != z) (by simpa using hkz) ?_;rw[beq_eq_false_iff_ne.2 hkz,Bool.not_false,Bool.or_true]at hdup;refine dp [49] [] (FO fb ⟨some ⟨b,off,none⟩,cl,cc⟩ bn cn dn most (.slice none 0 0)) [] [(mb,bV dH nm)] [(bn,bV ea (cu (cA t)))] [(dn,[]),(cn,[])] ⟨rfl,by rfl,trivial⟩ (Jt fb bn cn dn ⟨some ⟨b,off,none⟩,cl,cc⟩ most (.slice none 0 0) z (i:=j) hz (t:=t) hx (hF.ce x hxm) (hF.len x hxm) (cA t)) ?_;rintro _ _ _ _ ⟨u,hu,rfl,rfl,rfl,rfl⟩;obtain⟨ua,un,uc⟩:=u;simp only at hu;refine Fy [] [2,54] (fun a:Yt=>[(2,.int .i64 0),(54,.int .i64 a.z)]) (fun _=>[]) (fun _=>FO fb ⟨some ⟨b,off,none⟩,cl,cc⟩ bn cn dn most (.slice none 0 0)) (fun a=>[(mb,bV dH a.nm),(bn,bV ea (cu (cA t))),(dn,[]),(cn,[])]) (fun a=>[NL ⟨ua,un,uc⟩ (i_ (cA t) x),lL ⟨some ⟨b,off,none⟩,cl,cc⟩ t])
    (fun a=>a.z=a.j∧a.j≤un∧At a.nm (xk t (t.take j)++(i_ (cA t) x).take a.j)∧∀k∈(i_ (cA t) x).take a.j,¬k<0) (fun a=>un-a.j) ⟨0,0,false,nm⟩ ⟨rfl,aH _,by simpa using hnm,fun k hk=>by simp at hk⟩ (eC eK (eC eK eE)) ?_
   rintro⟨q,y,g,nm2⟩ K2 ⟨hy,hq,hnm2,hpos⟩ close2;simp only at hy hq hnm2 hpos;refine Nr ⟨ua,un,uc⟩ (l:=i_ (cA t) x) rfl (fun _ hu2 hu3=>?_);simp only at hu2 hu3;by_cases hlq:q<un
   ·obtain⟨kk,hkk⟩:∃kk,(i_ (cA t) x)[q]? =some kk:=⟨_,ah (by omega)⟩;have hkm:=aM hkk;obtain⟨bb,o2,hao⟩:=hu3 (by intro e;rw[e]at hkm;simp at hkm);subst hao;refine bh [] 55 (decide (y<(un:Int))) (ar (by omega)) (bI [55] 1 bb o2 un uc .i64 q y hy bK hlq (cX [] 1 bb (o2+q*1) (.int .i64 kk) bK (sM bb o2 un uc hkk) ?_));by_cases hneg:kk<0
    ·have hl:=Dm hx (uY.1 ⟨kk,hkm,hneg⟩);rw[if_pos hl]at hR2;refine bh [] 59 (decide (kk<0)) (ar hneg) (ku [59] (.int .i64 23) (FO fb ⟨some ⟨b,off,none⟩,cl,cc⟩ bn cn dn most (.slice none 0 0)) [(mb,bV dH nm2),(bn,bV ea (cu (cA t))),(dn,[]),(cn,[])] (back 23 hR2.symm Γ) (bent _))
    ·refine aO [] 59 (decide (kk<0)) (ak hneg) (CI [59] dH 104 3 4 (FO fb ⟨some ⟨b,off,none⟩,cl,cc⟩ bn cn dn most (.slice none 0 0)) [] [(bn,bV ea (cu (cA t))),(dn,[]),(cn,[])] mb kk (.bool true) nm2 (close2 [] _ _ ⟨q+1,IntKind.i64.wrap (y+1),false,la kk (.bool true) nm2⟩ (by kernel_rfl) (by kernel_rfl) ⟨by simp only[af];omega,hlq,?_,fun k' hk'=>?_⟩ (by simp only;omega) (eC eK (eC eK eE))))
     ·simp only;rw[fM hkk,←aU];exact hnm2.set kk
     ·simp only at hk';rw[fM hkk,eA]at hk';rcases hk' with h|h
      ·exact hpos k' h
      ·simp only[aF,aJ,b_]at h;rw[h];exact hneg
   ·have hall:(i_ (cA t) x).take q=i_ (cA t) x:=aR (by omega);rw[hall]at hnm2 hpos;refine aO [] 55 (decide (y<(un:Int))) (ak (by omega)) (close [55] _ _ ⟨j+1,IntKind.i64.wrap (z+1),true,nm2⟩ (by kernel_rfl) (by kernel_rfl) ⟨by simp only[af];omega,hlt,hdup.symm,?_,fun i' x' hi' hx'=>?_⟩ (by simp only;omega) (eC eK eE))
    ·simp only;unfold xk at hnm2⊢;rw[fM hx,br];simpa using hnm2
    ·simp only at hi';by_cases hij:i'<j
     ·exact hlo i' x' hij hx'
     ·obtain rfl:i'=j:=by omega
      rw[hx]at hx';injection hx' with hx';subst hx';cases hlc:pD t x with
      |false=>rfl
      |true=>
       obtain⟨k',h1,h2⟩:=uY.2 hlc;exact absurd h2 (hpos k' h1)
 ·obtain rfl:j=cl:=by omega
  have htk:t.take j=t:=aR (by omega);rw[htk]at hf hnm;have hlost:lost t=false:=GO fun i x hx=>hlo i x (by have:=(List.getElem?_eq_some_iff.1 hx).1;omega) hx;rw[if_neg (by rw[hlost];simp)]at hR2;refine aO [] 30 (decide (z<(j:Int))) (ak (by omega)) (bN [30] 0 fb 0 bK (dS [] (FO fb ⟨ca,j,cc⟩ bn cn dn most (.slice none 0 0)) fb (0+0) 1 [.slice ca j cc,.map (some bn),.map (some cn),.map (some dn),.int .i64 most,.slice none 0 0] (.slice ca j cc) bK (.head _) rfl (jO [] Tryz.f28 1 163 163 [0,3,4,68,2,11,69] [] (ck1 fb mb j f) (fun _=>[]) (fun _=>FO fb ⟨ca,j,cc⟩ bn cn dn most (.slice none 0 0)) (fun a=>[(mb,bV dH nm),(bn,bV ea (cu (cA t))),(dn,bV dH (cu a.dm)),(cn,[])]) (fun a=>[lL ⟨ca,j,cc⟩ t])
   (fun a=>a.z=a.j∧a.j≤j∧RW t a.dm∧(∀i:Nat,gC (i:Int) a.dm≠some 0)∧(∀i,i<a.j→∃d,sY t i d∧d≤a.d)∧(a.d=0∨∃i,i<t.length∧sY t i a.d)) (fun a=>j-a.j) ⟨0,0,0,[]⟩ ⟨rfl,aH _,fun k v h=>by simp[gC]at h,fun i h=>by simp[gC]at h,fun i h=>absurd h (gG _),.inl rfl⟩ (eC eK eE) ?_)))
  rintro⟨i,y,D,dm⟩ K1 ⟨hy,hi,hdm,hdz,hda,hdx⟩ close1;simp only at hy hi hdm hdz hda hdx;by_cases hlt1:i<j
  ·refine bh [] 70 (decide (y<(j:Int))) (ar (by omega)) (dp [70] [] (FO fb ⟨ca,j,cc⟩ bn cn dn most (.slice none 0 0)) [] [(mb,bV dH nm)] [(bn,bV ea (cu (cA t))),(dn,bV dH (cu dm))] [(cn,[])] ⟨rfl,by rfl,trivial⟩ (Ta fb bn cn dn ⟨ca,j,cc⟩ most (.slice none 0 0) (t:=t) hF.ce hF.len hlost htl (vH t dm) _ y i hy (by omega) dm hdm (fun q hq=>absurd hq (hdz q)) (aj _)) ?_);rintro _ _ _ _ ⟨d,b,dm',⟨ht,hfl⟩,rfl,rfl,rfl,rfl⟩;cases b with
   |false=>
    rw[if_pos (hfl rfl)]at hR2;refine bh [] 79 (!false) rfl (ku [79] (.int .i64 24) (FO fb ⟨ca,j,cc⟩ bn cn dn most (.slice none 0 0)) [(mb,bV dH nm),(bn,bV ea (cu (cA t))),(dn,bV dH (cu dm')),(cn,[])] (back 24 hR2.symm Γ) (bent _))
   |true=>
    obtain⟨e,rfl,hde,hd1,hd2,hd3⟩:=ht rfl;refine aO [] 79 (!true) rfl (Np [79] .i64 (D:Int) (e:Int) ((max D e:Nat):Int) (by omega) (close1 [] _ _ ⟨i+1,IntKind.i64.wrap (y+1),max D e,dm'⟩ (by kernel_rfl) (by kernel_rfl) ⟨by simp only[af];omega,hlt1,hd1,fun q hq=>hdz q (hd2 q hq),fun q hq=>?_,?_⟩ (by simp only;omega) (eC eK eE)))
    ·simp only at hq⊢;by_cases hqi:q<i
     ·obtain⟨d',h1,h2⟩:=hda q hqi;exact⟨d',h1,by omega⟩
     ·obtain rfl:q=i:=by omega
      exact⟨e,hde,by omega⟩
    ·simp only;by_cases hDe:e≤D
     ·rw[Nat.max_eq_left hDe];exact hdx
     ·rw[Nat.max_eq_right (by omega)];exact .inr ⟨i,by omega,hde⟩
  ·obtain rfl:i=j:=by omega
   have hcyc:¬Zw t:=fun⟨c,hc,hno⟩=>by
    obtain⟨d,h1,_⟩:=hda c (by omega);exact hno d h1
   rw[if_neg hcyc]at hR2;have hdeep:(D>64)↔Kf t:=by
    constructor
    ·intro hD;rcases hdx with h0|⟨a,ha,hda'⟩
     ·omega
     ·refine⟨a,ha,?_⟩;cases hq:dep t 64 a with
      |none=>rfl
      |some d'=>
       have e1:=hda'.uniq ⟨64,hq⟩;have:=NS hq;omega
    ·rintro⟨a,ha,hn⟩;obtain⟨d,⟨m,hm⟩,hle⟩:=hda a (by omega);have:=NR hm;by_cases hd:d≤64
     ·rw[nX this hd]at hn;simp at hn
     ·omega
   refine aO [] 70 (decide (y<(i:Int))) (ak (by omega)) (bN [70] 0 fb 0 bK (dS [] (FO fb ⟨ca,i,cc⟩ bn cn dn most (.slice none 0 0)) fb (0+0) 1 [.slice ca i cc,.map (some bn),.map (some cn),.map (some dn),.int .i64 most,.slice none 0 0] (.slice ca i cc) bK (.head _) rfl (jO [] Tryz.f28 2 163 163 [0,2,4,11,87,88,3,89] [] (ck2 fb mb ⟨ca,i,cc⟩ D) (fun _=>[]) (fun _=>FO fb ⟨ca,i,cc⟩ bn cn dn most (.slice none 0 0)) (fun a=>[(mb,bV dH nm),(bn,bV ea (cu (cA t))),(dn,bV dH (cu dm)),(cn,[])]) (fun a=>[lL ⟨ca,i,cc⟩ t])
    (fun a=>a.z=a.j∧a.j≤i∧a.f=(f||(t.take a.j).any fun c=>c.i.any fun x=> !iB x)) (fun a=>i-a.j) ⟨0,0,f,[]⟩ ⟨rfl,aH _,by simp⟩ (eC eK eE) ?_)))
   rintro⟨p,y2,g,nm2⟩ K2 ⟨hy2,hp,hg⟩ close2;simp only at hy2 hp hg;by_cases hlt2:p<i
   ·obtain⟨x,hx⟩:∃x,t[p]? =some x:=⟨_,ah (by omega)⟩;have hxm:=aM hx;refine sJ ⟨ca,i,cc⟩ hx (fun b off fh fi ha=>?_);simp only at ha;subst ha;refine W.more (Δ:=[qA fi x.i]) rfl (fun I w _ hh=>aT (aZ.p (k:=zJ fh fi) (a:=x) inferInstance hh).2) ?_;obtain⟨ia,im,ic⟩:=fi;refine W.len kM mR.x ⟨ia,im,ic⟩ rfl (fun i1 i2 i3=>?_);simp only at i1 i2 i3;refine bh [] 90 (decide (y2<(i:Int))) (ar (by omega)) (bI [90] 2 b off i cc .i64 p y2 hy2 bK hlt2 (cJ [] b (off+p*2) [aY fh,aY ⟨ia,im,ic⟩] bK (bH b (off+p*2)) (Fy [] [3,96] (fun a:Yt=>[(3,.bool a.f),(96,.int .i64 a.z)]) (fun _=>[]) (fun _=>FO fb ⟨some ⟨b,off,none⟩,i,cc⟩ bn cn dn most (.slice none 0 0)) (fun a=>[(mb,bV dH nm),(bn,bV ea (cu (cA t))),(dn,bV dH (cu dm)),(cn,[])]) (fun a=>[qA ⟨ia,im,ic⟩ x.i,lL ⟨some ⟨b,off,none⟩,i,cc⟩ t])
     (fun a=>a.z=a.j∧a.j≤im∧a.f=(g||(x.i.take a.j).any fun x=> !iB x)) (fun a=>im-a.j) ⟨0,0,g,[]⟩ ⟨rfl,aH _,by simp⟩ (eC eK (eC eK eE)) ?_)))
    rintro⟨q,y3,g2,nm3⟩ K3 ⟨hy3,hq,hg2⟩ close3;simp only at hy3 hq hg2;by_cases hlt3:q<im
    ·obtain⟨v,hv⟩:∃v,x.i[q]? =some v:=⟨_,ah (by omega)⟩;have hvo:=hF.ok x hxm v (aM hv);have hnx:((x.i.take (q+1)).any fun x=> !iB x)=(((x.i.take q).any fun x=> !iB x)|| !iB v):=by rw[fM hv,List.any_append];simp
     refine vB ⟨ia,im,ic⟩ hv (fun b2 off2 yf yp ha=>?_);simp only at ha;subst ha;refine bh [] 97 (decide (y3<(im:Int))) (ar (by omega)) (bI [97] 2 b2 off2 im ic .i64 q y3 hy3 bK hlt3 (cJ [] b2 (off2+q*2) [aY yf,aY yp] bK (bH b2 (off2+q*2)) ?_));cases g2 with
     |true=>
      refine bh [] 101 true rfl (close3 [101] _ _ ⟨q+1,IntKind.i64.wrap (y3+1),true,[]⟩ (by kernel_rfl) (by kernel_rfl) ⟨by simp only[af];omega,hlt3,by simp only;rw[hnx,←Bool.or_assoc,←hg2,Bool.true_or]⟩ (by simp only;omega) (eC eK (eC eK eE)))
     |false=>
      refine aO [] 101 false rfl (W.c0 [101] (Ts yf yp (x:=v) hvo.im hvo.kind).mF (close3 [101] _ _ ⟨q+1,IntKind.i64.wrap (y3+1),!iB v,[]⟩ (by kernel_rfl) (by kernel_rfl) ⟨by simp only[af];omega,hlt3,by simp only;rw[hnx,←Bool.or_assoc,←hg2,Bool.false_or]⟩ (by simp only;omega) (eC eK (eC eK eE))))
    ·have hall:x.i.take q=x.i:=aR (by omega);rw[hall]at hg2;refine aO [] 97 (decide (y3<(im:Int))) (ak (by omega)) (close2 [97] _ _ ⟨p+1,IntKind.i64.wrap (y2+1),g2,[]⟩ (by kernel_rfl) (by kernel_rfl) ⟨by simp only[af];omega,hlt2,?_⟩ (by simp only;omega) (eC eK eE));simp only;rw[fM hx,List.any_append,←Bool.or_assoc,←hg,hg2];simp
   ·obtain rfl:p=i:=by omega
    rw[htk,hf]at hg;have hfeat:g=tF t:=by rw[hg];rfl
    refine aO [] 90 (decide (y2<(p:Int))) (ak (by omega)) ?_;cases g with
    |true=>
     rw[if_pos (.inl hfeat.symm)]at hR2;refine bh [90] 109 true rfl (ku [112,109] (.int .i64 25) (FO fb ⟨ca,p,cc⟩ bn cn dn most (.slice none 0 0)) [(mb,bV dH nm),(bn,bV ea (cu (cA t))),(dn,bV dH (cu dm)),(cn,[])] (back 25 hR2.symm Γ) (bent _))
    |false=>
    refine aO [90] 109 false rfl ?_;by_cases hD:D>64
    ·rw[if_pos (.inr (hdeep.1 hD))]at hR2;refine bh [109] 112 (decide ((D:Int)>64)) (ar (by omega)) (ku [112] (.int .i64 25) (FO fb ⟨ca,p,cc⟩ bn cn dn most (.slice none 0 0)) [(mb,bV dH nm),(bn,bV ea (cu (cA t))),(dn,bV dH (cu dm)),(cn,[])] (back 25 hR2.symm Γ) (bent _))
    rw[if_neg (fun h=>h.elim (fun h=>by rw[←hfeat]at h;simp at h) (fun h=>hD (hdeep.2 h)))]at hR2;have hDom:An t:=⟨hlost,fun c hc x hx=>by
     have:=hfeat.symm;unfold tF at this;rw[fS]at this;have h2:=List.any_eq_false.1 this.2 c hc;simp only[nQ]at h2;have h3:=List.any_eq_false.1 h2 x hx;simpa using h3,fun a ha=>by
     cases hq:dep t 64 a with
     |none=>exact absurd (hdeep.2 ⟨a,ha,hq⟩) hD
     |some d=>exact⟨d,rfl⟩⟩
    have hlook:∀c:Nat,(gC (c:Int) nm).getD (.bool false)=.bool (eN t c):=fun c=>by rw[hnm.look,GC hlost]
    have hm1:IntKind.i64.wrap (most+1)=most+1:=by rw[af];omega
    have hcT:∀c,0≤mZ t c:=fun c=>by
     unfold mZ;split
     ·exact Int.le_refl _
     ·exact hDom.cnt_nn 64 c
    have hsn:∀l:List Nat,0≤(l.map (mZ t)).sum:=fun l=>wE fun q hq=>by
     obtain⟨c,_,rfl⟩:=List.mem_map.1 hq;exact hcT c
    refine aO [109] 112 (decide ((D:Int)>64)) (ak (by omega)) (bN [112] 0 fb 0 bK (dS [] (FO fb ⟨ca,p,cc⟩ bn cn dn most (.slice none 0 0)) fb (0+0) 1 [.slice ca p cc,.map (some bn),.map (some cn),.map (some dn),.int .i64 most,.slice none 0 0] (.slice ca p cc) bK (.head _) rfl (jO [] Tryz.f28 3 163 163 [0,2,4,117,19,118] [] (ck3 fb mb p) (fun _=>[]) (fun _=>FO fb ⟨ca,p,cc⟩ bn cn dn most (.slice none 0 0)) (fun a=>[(mb,bV dH nm),(bn,bV ea (cu (cA t))),(dn,bV dH (cu dm)),(cn,bV dH (cu a.cm))]) (fun a=>[lL ⟨ca,p,cc⟩ t])
     (fun a=>a.z=a.j∧a.j≤p∧a.n=min ((((List.range t.length).take a.j).map (mZ t)).sum) (most+1)∧wG t most a.cm) (fun a=>p-a.j) ⟨0,0,0,[]⟩ ⟨rfl,aH _,by simp only[mT,dd,qC];omega,fun k v h=>by simp[gC]at h⟩ (eC eK eE) ?_)))
    rintro⟨q,y3,tot,cm⟩ K3 ⟨hy3,hq,htot,hcm⟩ close3;simp only at hy3 hq htot hcm;by_cases hlt3:q<p
    ·have hst:=uG (mZ t) (j:=q) (n:=t.length);obtain⟨S,hS⟩:∃S,(((List.range t.length).take q).map (mZ t)).sum=S:=⟨_,rfl⟩;have hS0:=hsn ((List.range t.length).take q);rw[hS]at htot hst hS0;refine bh [] 119 (decide (y3<(p:Int))) (ar (by omega)) (vC [119] dH 104 3 4 false (FO fb ⟨ca,p,cc⟩ bn cn dn most (.slice none 0 0)) [(mb,bV dH nm),(bn,bV ea (cu (cA t))),(dn,bV dH (cu dm)),(cn,bV dH (cu cm))] mb y3 nm (.bool false) bK (.head _) ?_);rw[show(gC y3 nm).getD (.bool false)=.bool (eN t q)by rw[hy3];exact hlook q];cases hnq:eN t q with
     |true=>
      have hc0:mZ t q=0:=by unfold mZ;rw[if_pos hnq]
      refine aO [] 124 (!true) rfl (close3 [124] _ _ ⟨q+1,IntKind.i64.wrap (y3+1),tot,cm⟩ (by kernel_rfl) (by kernel_rfl) ⟨by simp only[af];omega,hlt3,by simp only;rw[hst,hc0,qx];exact htot,hcm⟩ (by simp only;omega) (eC eK eE))
     |false=>
      have hcq:mZ t q=jc t 64 q:=by unfold mZ;rw[if_neg (by rw[hnq];simp)]
      have hcn:=hDom.cnt_nn 64 q;have hnext:min (tot+min (jc t 64 q) (most+1)) (most+1)=min (S+jc t 64 q) (most+1):=by omega
      have hw:IntKind.i64.wrap (tot+min (jc t 64 q) (most+1))=tot+min (jc t 64 q) (most+1):=by rw[af];omega
      refine bh [] 124 (!false) rfl ?_;have pc:=KN fb bn cn dn ca p cc most (.slice none 0 0) (bV dH (cu dm)) hF hDom hmost 64 [lL ⟨ca,p,cc⟩ t] y3 q hy3 (by omega) (hDom.deep q (by omega)) cm hcm;refine x6 [124] ?_ ?_
      ·refine bN [] 4 fb 0 bK (dS [] (FO fb ⟨ca,p,cc⟩ bn cn dn most (.slice none 0 0)) fb (0+4) 1 [.slice ca p cc,.map (some bn),.map (some cn),.map (some dn),.int .i64 most,.slice none 0 0] (.int .i64 most) bK (.head _) rfl (dp [] [] (FO fb ⟨ca,p,cc⟩ bn cn dn most (.slice none 0 0)) [] [(mb,bV dH nm)] [(bn,bV ea (cu (cA t))),(dn,bV dH (cu dm)),(cn,bV dH (cu cm))] [] ⟨rfl,by rfl,trivial⟩ pc ?_));rintro _ _ _ _ ⟨cm2,hcm2,rfl,rfl,rfl,rfl⟩;refine pV [] .i64 (IntKind.i64.wrap (tot+min (jc t 64 q) (most+1))) (IntKind.i64.wrap (most+1)) (min (S+jc t 64 q) (most+1)) (by rw[hw,hm1];exact hnext) (close3 [] _ _ ⟨q+1,IntKind.i64.wrap (y3+1),min (S+jc t 64 q) (most+1),cm2⟩ (by kernel_rfl) (by kernel_rfl) ⟨by simp only[af];omega,hlt3,by simp only;rw[hst,hcq],hcm2⟩ (by simp only;omega) (eC eK eE))
      ·refine bN [] 4 fb 0 bK (dp [] [] (FO fb ⟨ca,p,cc⟩ bn cn dn most (.slice none 0 0)) [] [(mb,bV dH nm)] [(bn,bV ea (cu (cA t))),(dn,bV dH (cu dm)),(cn,bV dH (cu cm))] [] ⟨rfl,by rfl,trivial⟩ pc ?_);rintro _ _ _ _ ⟨cm2,hcm2,rfl,rfl,rfl,rfl⟩;refine dS [] (FO fb ⟨ca,p,cc⟩ bn cn dn most (.slice none 0 0)) fb (0+4) 1 [.slice ca p cc,.map (some bn),.map (some cn),.map (some dn),.int .i64 most,.slice none 0 0] (.int .i64 most) bK (.head _) rfl (pV [] .i64 (IntKind.i64.wrap (tot+min (jc t 64 q) (most+1))) (IntKind.i64.wrap (most+1)) (min (S+jc t 64 q) (most+1)) (by rw[hw,hm1];exact hnext) (close3 [] _ _ ⟨q+1,IntKind.i64.wrap (y3+1),min (S+jc t 64 q) (most+1),cm2⟩ (by kernel_rfl) (by kernel_rfl) ⟨by simp only[af];omega,hlt3,by simp only;rw[hst,hcq],hcm2⟩ (by simp only;omega) (eC eK eE)))
    ·obtain rfl:q=p:=by omega
     rw[aR (by rw[ib];omega)]at htot;have htt:tot=min (sP t) (most+1):=htot;refine aO [] 119 (decide (y3<(q:Int))) (ak (by omega)) (bN [119] 4 fb 0 bK (dS [] (FO fb ⟨ca,q,cc⟩ bn cn dn most (.slice none 0 0)) fb (0+4) 1 [.slice ca q cc,.map (some bn),.map (some cn),.map (some dn),.int .i64 most,.slice none 0 0] (.int .i64 most) bK (.head _) rfl ?_));by_cases hbig:sP t>most
     ·rw[if_pos hbig]at hR2;refine bh [] 142 (decide (tot>most)) (ar (by omega)) (ku [142] (.int .i64 27) (FO fb ⟨ca,q,cc⟩ bn cn dn most (.slice none 0 0)) [(mb,bV dH nm),(bn,bV ea (cu (cA t))),(dn,bV dH (cu dm)),(cn,bV dH (cu cm))] (back 27 hR2.symm Γ) (bent _))
     rw[if_neg hbig]at hR2;unfold zH at hR2;refine aO [] 142 (decide (tot>most)) (ak (by omega)) (bN [142] 0 fb 0 bK (dS [] (FO fb ⟨ca,q,cc⟩ bn cn dn most (.slice none 0 0)) fb (0+0) 1 [.slice ca q cc,.map (some bn),.map (some cn),.map (some dn),.int .i64 most,.slice none 0 0] (.slice ca q cc) bK (.head _) rfl (jO [] Tryz.f28 4 163 163 [0,4,147,2,148] [] (ck4 fb mb q) (fun _=>[]) (fun a=>FO fb ⟨ca,q,cc⟩ bn cn dn most (aY a.s)++a.O) (fun a=>[(mb,bV dH nm),(bn,bV ea (cu (cA t))),(dn,bV dH (cu dm)),(cn,bV dH (cu a.cm))]) (fun a=>[lL ⟨ca,q,cc⟩ t,OF ⟨cf,cf,cf,cf,cf⟩ (0,Fm),lU k8 (aY a.s) a.E])
      (fun a=>a.z=a.j∧a.j≤q∧wG t most a.cm∧cH 3 a.O (aY a.s) a.E.length (a.E.flatMap k8.cells)∧(a.E.length:Int)≤(((List.range t.length).take a.j).map (mZ t)).sum∧Cp (yo t) (List.range t.length) R a.j a.E) (fun a=>q-a.j) ⟨0,0,cm,⟨none,0,0⟩,[],[]⟩ ⟨rfl,aH _,hcm,cH.nil 3,by simp,by rw[←hR2];exact rD _ _⟩ (eC eK (eC (fun I w hd _=>Xk I w hd) (eC (fun I w _ _=>PD _ I w) eE))) ?_)))
     rintro⟨r,y4,cm4,s4,O4,E4⟩ K4 ⟨hy4,hr,hcm4,hg4,hE4,hl4⟩ close4;simp only at hy4 hr hcm4 hg4 hE4 hl4;by_cases hlt4:r<q
     ·have hst:=uG (mZ t) (j:=r) (n:=t.length);have hra:(List.range t.length)[r]? =some r:=uK (by omega);have hle:(((List.range t.length).take (r+1)).map (mZ t)).sum≤sP t:=by
       unfold sP;have e0:((List.range t.length).map (mZ t)).sum=(((List.range t.length).take (r+1)).map (mZ t)).sum+(((List.range t.length).drop (r+1)).map (mZ t)).sum:=by
        rw[←iv,←aS,j2]
       have:=hsn ((List.range t.length).drop (r+1));omega
      refine bh [] 149 (decide (y4<(q:Int))) (ar (by omega)) (vC [149] dH 104 3 4 false (FO fb ⟨ca,q,cc⟩ bn cn dn most (aY s4)++O4) [(mb,bV dH nm),(bn,bV ea (cu (cA t))),(dn,bV dH (cu dm)),(cn,bV dH (cu cm4))] mb y4 nm (.bool false) bK (.head _) ?_);rw[show(gC y4 nm).getD (.bool false)=.bool (eN t r)by rw[hy4];exact hlook r];cases hnq:eN t r with
      |true=>
       have hc0:mZ t r=0:=by unfold mZ;rw[if_pos hnq]
       have hln:yo t r=.ok []:=by unfold yo;rw[if_pos hnq]
       refine aO [] 154 (!true) rfl (close4 [154] _ _ ⟨r+1,IntKind.i64.wrap (y4+1),cm4,s4,O4,E4⟩ (by kernel_rfl) (by kernel_rfl) ⟨by simp only[af];omega,hlt4,hcm4,hg4,by simp only;rw[hst,hc0];omega,by have:=hl4.step (es:=[]) hra hln rfl;rwa [ai]at this⟩ (by simp only;omega) (eC eK (eC eK (eC eK eE))))
      |false=>
       have hcq:mZ t r=jc t 64 r:=by unfold mZ;rw[if_neg (by rw[hnq];simp)]
       have hln:yo t r=fL t 64 r Fm:=by unfold yo;rw[if_neg (by rw[hnq];simp)]
       have hcn:=hDom.cnt_nn 64 r;obtain⟨dr,hdr⟩:=hDom.deep r (by omega);refine bh [] 154 (!false) rfl (dp [154] [] (FO fb ⟨ca,q,cc⟩ bn cn dn most (aY s4)++O4) [] [(mb,bV dH nm)] [(bn,bV ea (cu (cA t))),(dn,bV dH (cu dm)),(cn,bV dH (cu cm4))] [] ⟨rfl,by rfl,trivial⟩ (eo:=(by simp only[ai];kernel_rfl)) (Vb fb bn cn dn ca q cc most (bV dH (cu dm)) hF hDom hmost hW 64 _ y4 r dr hy4 (by omega) hdr Fm ⟨cf,cf,cf,cf,cf⟩ 0 0 (by decide) (by decide) aa5 (aH _) cm4 hcm4 s4 O4 E4 hg4 (by omega)) ?_);rintro _ _ _ _ ⟨cm5,hcm5,rfl,s5,O5,es5,hes5,rfl,rfl,hg5,rfl⟩;rw[ai (FO fb ⟨ca,q,cc⟩ bn cn dn most (aY s5)++O5)];cases hlr:fL t 64 r Fm with
       |error er=>
        have her:=rT _ _ _ _ hlr;have hRe:R=.error er:=hl4.err hra (by rw[hln,hlr]);refine bh [] 160 (er != 0) (by rcases her with rfl|rfl<;>rfl) ?_;exact ku [160] (.int .i64 er) (FO fb ⟨ca,q,cc⟩ bn cn dn most (aY s5)++O5) [(mb,bV dH nm),(bn,bV ea (cu (cA t))),(dn,bV dH (cu dm)),(cn,bV dH (cu cm5))] ⟨s5,O5,E4++es5,fun q h=>by rw[hRe]at h;simp at h,by rw[hRe];rfl,rfl,hg5,rfl⟩ (eC eK eE)
       |ok sr=>
        have hsl:=hDom.lay_len _ _ _ _ hlr;have he5:es5.length=sr.length:=by rw[←hes5 sr hlr,bM]
        refine aO [] 160 ((0:Int) != 0) (by decide) (close4 [160] _ _ ⟨r+1,IntKind.i64.wrap (y4+1),cm5,s5,O5,E4++es5⟩ (by kernel_rfl) (by kernel_rfl) ⟨by simp only[af];omega,hlt4,hcm5,hg5,by simp only[aA];rw[hst,hcq];omega,hl4.step hra (by rw[hln,hlr]) (hes5 sr hlr)⟩ (by simp only;omega) (eC eK (eC eK (eC eK eE))))
     ·have hRo:R=.ok (E4.map lH.x):=hl4.fin (by rw[ib];omega);refine aO [] 149 (decide (y4<(q:Int))) (ak (by omega)) (ku [149] (.int .i64 0) (FO fb ⟨ca,q,cc⟩ bn cn dn most (aY s4)++O4) [(mb,bV dH nm),(bn,bV ea (cu (cA t))),(dn,bV dH (cu dm)),(cn,bV dH (cu cm4))] ⟨s4,O4,E4,fun q h=>by rw[hRo]at h;injection h,by rw[hRo];rfl,rfl,hg4,rfl⟩ (eC eK eE))
end
theorem Dr(c:Ce):∀(l:List Ce) (i:Nat) (nm:List (ByteArray×Int)),yA (l++[c]) i nm=if(gC (mg c) (yA l i nm)).isSome then yA l i nm else la (mg c) ((i+l.length:Nat):Int) (yA l i nm)
 | [],i,nm=>rfl
 |a::l,i,nm=>by
  simp only[dA,yA,aB];rw[Dr c l (i+1),show i+1+l.length=i+(l.length+1)by omega]<;>rfl
theorem C9{t:List Ce}{n e:Int}(h:pt t n=.error e):e≠0:=by
 unfold pt at h;split at h
 ·injection h with h;omega
 ·split at h
  ·injection h with h;omega
  ·split at h
   ·injection h with h;omega
   ·split at h
    ·injection h with h;omega
    ·have:=uC (A:=fun e=>e=25∨e=26) (fun c _ e' he=>by
      unfold yo at he;split at he
      ·simp at he
      ·exact rT _ _ _ _ he) h
     omega
theorem aaS{s:Sl}{r:Re}{I:gd}{w:World}(h:(wJ s r).p I w):Nh r:=h.2.2.2.2.1
theorem Jh{α β:Type}{R:kV α}{num:α→β}{s:Sl}{l:List β}{I:gd}{w:World}(h:(LF R num s l).p I w){Q:β→Prop}(hq:∀e:α,(R.fact 0 e).p I w→Q (num e)):∀x∈l,Q x:=fun x hx=>by
 obtain⟨es,rfl,_,_,h4,_⟩:=h;obtain⟨e,he,rfl⟩:=List.mem_map.1 hx;exact hq e (h4 e he)
theorem Zv{h i:Sl}{x:Ce}{I:gd}{w:World}(hf:(zJ h i x).p I w):Ys x:=
 Jh hf.2 (Q:=fun y=>∀r∈y.f,Nh r) fun e he=>Jh (show(kW e.f e.x.f).p I w from he.1) (Q:=Nh) fun e' he'=>aaS he'
theorem aan{h c:Sl}{t:Li}{I:gd}{w:World}(hf:(yX h c t).p I w):∀x∈t.c,Ys x:=
 Jh hf.2 (Q:=Ys) fun e he=>Zv he
theorem LW(f:List Re){l:List Ce}{c:Ce}(h:c∈l):c.i.length≤(l.flatMap gi).length:=by
 obtain⟨a,b,rfl⟩:=vQ h;have h1:=tH qZ c.i;simp only[br,bB,aA];have:(gi c).length=c.h.length+((c.i.flatMap fQ).length+1):=by simp[gi]
 omega
theorem Wp{t:Li}(hv:lS t=true)(hl:(iQ t).length≤100000)(hb:∀x∈t.c,Ys x):T8 t.c:=by
 have h1:=(oq.1 hv).2;have h2:(t.c.flatMap gi).length≤100000:=by
  have:(iQ t).length=t.h.length+((t.c.flatMap gi).length+1):=by simp[iQ]
  omega
 exact⟨fun c hc=>(h1 c hc).2,fun c hc=>aP (LW [] hc) h2,aP (tH qY t.c) h2,hb⟩
def M_(r:LR)(v:Value)(Δ:List aC):Prop:=
 (∃e,r=.error e∧v=.tuple #[.slice none 0 0,.int .i64 e]∧Δ=[])∨∃(l:List Sh) (s:Sl),r=.ok l∧v=.tuple #[aY s,.int .i64 0]∧Δ=[LF k8 lH.x s l]
section
variable{Γ:List aC}
theorem MC(ha:Option Addr)(hn hc':Nat)(ca:Option Addr)(cl cc:Nat)(n:Int){t:Li} [hF:aZ (yX ⟨ha,hn,hc'⟩ ⟨ca,cl,cc⟩) t Γ](hl:(iQ t).length≤100000)(hW:lS t=true→uE t.c≤160):aw Lk Tryz.prog 12 [nd ⟨ha,hn,hc'⟩ ⟨ca,cl,cc⟩,.int .i64 n] Γ (M_ (mL t n)):=by
 obtain⟨R,hR⟩:∃R,mL t n=R:=⟨_,rfl⟩;have hR2:=hR;unfold mL at hR2;rw[hR];refine aw.of_W bK Tryz.func12 rfl ?_ (fun _ h=>h.1);refine qE (∀x∈t.c,Ys x) rfl (fun I w _ hh=>aan (hF.p hh)) (fun hb=>?_);by_cases h1:n<0
 ·rw[if_pos (.inl h1)]at hR2;refine bh [] 15 (decide (n<0)) (ar h1) (W.r [12,15] (.tuple #[.slice none 0 0,.int .i64 1]) (.inl ⟨1,hR2.symm,rfl,rfl⟩) bX)
 refine aO [] 15 (decide (n<0)) (ak h1) ?_;by_cases h2:n>100000
 ·rw[if_pos (.inr h2)]at hR2;refine bh [15] 12 (decide (n>100000)) (ar h2) (W.r [12] (.tuple #[.slice none 0 0,.int .i64 1]) (.inl ⟨1,hR2.symm,rfl,rfl⟩) bX)
 rw[if_neg (by omega)]at hR2;refine aO [15] 12 (decide (n>100000)) (ak h2) (W.c0 [12] (Tt ⟨ha,hn,hc'⟩ ⟨ca,cl,cc⟩ (t:=t) hl).mF ?_);cases hv:lS t with
 |false=>
  rw[if_pos hv]at hR2;refine bh [] 19 (!false) rfl (W.r [19] (.tuple #[.slice none 0 0,.int .i64 20]) (.inl ⟨20,hR2.symm,rfl,rfl⟩) bX)
 |true=>
 rw[if_neg (by rw[hv];simp)]at hR2;have hfit:=Wp hv hl hb;refine aO [] 19 (!true) rfl (W.more (Δ:=[lL ⟨ca,cl,cc⟩ t.c]) (by kernel_rfl) (fun I w _ hh=>aT (hF.p hh).2) (JY [19] [] [] (fun bn=>JY [] [] [(bn,[])] (fun cn=>JY [] [] [(cn,[]),(bn,[])] (fun dn=>Fy [] [34] (fun a:Yt=>[(34,.int .i64 a.z)]) (fun _=>[]) (fun _=>[]) (fun a=>[(dn,[]),(cn,[]),(bn,bV ea (cu (yA (t.c.take a.j) 0 [])))]) (fun _=>[lL ⟨ca,cl,cc⟩ t.c]) (fun a=>a.z=a.j∧a.j≤cl) (fun a=>cl-a.j) ⟨0,0,false,[]⟩ ⟨rfl,aH _⟩ (eC eK eE) ?_)))));rintro⟨j,z,g,nm⟩ K ⟨hz,hj⟩ close;simp only at hz hj;refine W.len gT lT.x ⟨ca,cl,cc⟩ rfl (fun c1 c2 c3=>?_);simp only at c1 c2 c3;by_cases hlt:j<cl
 ·obtain⟨x,hx⟩:∃x,t.c[j]? =some x:=⟨_,ah (by omega)⟩;have hst:=Dr x (t.c.take j) 0 [];rw[←fM hx,dP,bU,fy (by omega)]at hst;obtain⟨N,hN⟩:∃N,yA (t.c.take j) 0 []=N:=⟨_,rfl⟩;rw[hN]at hst;refine sJ ⟨ca,cl,cc⟩ hx (fun b off fh fi ha=>?_);simp only at ha;subst ha;refine bh [] 35 (decide (z<(cl:Int))) (ar (by omega)) (bI [35] 2 b off cl cc .i64 j z hz bK hlt (cJ [] b (off+j*2) [aY fh,aY fi] bK (bH b (off+j*2)) (W.c0 [] (uZ fh fi (x:=x)).mF (vC [] ea 69 9 3 true [] [(dn,[]),(cn,[]),(bn,bV ea (cu N))] bn (mg x) (cu N) (.int .i64 0) bK (h:=(by rw[←hN];kernel_rfl)) (.tail _ (.tail _ (.head _))) ?_))));rw[mV];cases hg:gC (mg x) N with
  |some v=>
   rw[hg]at hst;refine aO [] 50 (!true) rfl (close [50] _ _ ⟨j+1,IntKind.i64.wrap (z+1),false,[]⟩ (by kernel_rfl) (by simp only;rw[hst];kernel_rfl) ⟨by simp only[af];omega,hlt⟩ (by simp only;omega) (eC eK eE))
  |none=>
   rw[hg]at hst;refine bh [] 50 (!false) rfl (W.c0 [50] (uZ fh fi (x:=x)).mF (CI [] ea 69 9 3 [] [(dn,[]),(cn,[])] [] bn (mg x) (.int .i64 z) (cu N) ?_));rw[qT];exact close [] _ _ ⟨j+1,IntKind.i64.wrap (z+1),false,[]⟩ (by kernel_rfl) (by simp only;rw[hst,←hz];kernel_rfl) ⟨by simp only[af];omega,hlt⟩ (by simp only;omega) (eC eK eE)
 ·obtain rfl:j=cl:=by omega
  refine aO [] 35 (decide (z<(j:Int))) (ak (by omega)) (vD 30 (fun fb=>?_));have hnm:yA (t.c.take j) 0 []=cA t.c:=by rw[aR (by omega)];rfl
  have pc:=D4 (S9 fb bn cn dn ca j cc n hfit (by omega) (hW hv) [lL ⟨ca,j,cc⟩ t.c]) (M':=[(dn,[]),(cn,[]),(bn,bV ea (cu (cA t.c)))]) (List.perm_append_comm (l₁:=[(bn,bV ea (cu (cA t.c)))]) (l₂:=[(dn,[]),(cn,[])]));refine dp [35] [] (FO fb ⟨ca,j,cc⟩ bn cn dn n (.slice none 0 0)) [] [] [(dn,[]),(cn,[]),(bn,bV ea (cu (cA t.c)))] [] ⟨rfl,by rfl,trivial⟩ (em:=(by rw[←hnm];kernel_rfl)) pc ?_;rintro _ _ M _ ⟨s,O2,es2,hes,rfl,rfl,hg,rfl⟩;rw[ai (FO fb ⟨ca,j,cc⟩ bn cn dn n (aY s)++O2)];cases hRr:pt t.c n with
  |error e=>
   rw[hRr]at hR2;refine bh [] 62 (e != 0) (by simpa using C9 hRr) (W.r [62] (.tuple #[.slice none 0 0,.int .i64 e]) (.inl ⟨e,hR2.symm,rfl,rfl⟩) bX)
  |ok l=>
   rw[hRr]at hR2 hes;refine aO [] 62 ((0:Int) != 0) (by decide) (bN [62] 5 fb 0 bK (dS [] (FO fb ⟨ca,j,cc⟩ bn cn dn n (aY s)++O2) fb (0+5) 1 [.slice ca j cc,.map (some bn),.map (some cn),.map (some dn),.int .i64 n,aY s] (aY s) bK (.head _) rfl (l9 (FO fb ⟨ca,j,cc⟩ bn cn dn n (aY s)) O2 [] (by rw[ai O2];kernel_rfl) hg (fun g5 g1 g2=>W.r [] (.tuple #[aY s,.int .i64 0]) (.inr ⟨l,s,hR2.symm,rfl,rfl⟩) (fun I w hd hh=>aT (by
    rw[←hes l rfl];obtain⟨sa,sn,sc⟩:=s;exact GI k8 lH.x (v:=aY ⟨sa,sn,sc⟩) g5 g1 g2 (aZ.p (k:=lU k8 (aY ⟨sa,sn,sc⟩)) inferInstance hh) (aZ.p (k:=RA sa) inferInstance hh)))))))
end
section
variable{Γ:List aC}
theorem xz(h c:Sl)(n:Int){t:Li} [hF:aZ (yX h c) t Γ](hl:(iQ t).length≤100000)(hW:lS t=true→uE t.c≤160):aw tb Tryz.prog 12 [nd h c,.int .i64 n] Γ (M_ (mL t n)):=by
 obtain⟨ha,hn,hc'⟩:=h;obtain⟨ca,cl,cc⟩:=c;exact MC ha hn hc' ca cl cc n (t:=t) hl hW
end
theorem xO{α:Type}{f:α→LR}{w:α→Int}:∀{l:List α} {s:List Sh},(∀a∈l,∀s,f a=.ok s→(s.length:Int)=w a)→gl f l=.ok s→(s.length:Int)=(l.map w).sum
 | [],s,_,h=>by
  simp only[gl,iu]at h;subst h;simp
 |a::l,s,hw,h=>by
  unfold gl at h;cases hf:f a with
  |error e=>rw[hf]at h;simp at h
  |ok s1=>
   rw[hf]at h;cases hs:gl f l with
   |error e=>rw[hs]at h;simp at h
   |ok s2=>
    rw[hs]at h;simp only[iu]at h;subst h;have h1:=hw a (by simp) s1 hf;have h2:=xO (fun b hb=>hw b (by simp[hb])) hs;simp only[aA,bQ,dC];omega
theorem An.item_eq{t:List Ce}(hD:An t){n:Nat}{g:Nat→On→LR}(hg:∀c V s,g c V=.ok s→(s.length:Int)=jc t n c){x:Im}(hr:iB x=true){V:On}{s:List Sh}(h:jN t n g V x=.ok s):(s.length:Int)=jg t (jc t n) x:=by
 unfold jN at h;unfold jg;by_cases h8:cz x=8∨cz x=45
 ·rw[if_pos h8]at h⊢;rw[vn h];rfl
 ·rw[if_neg h8]at h⊢;by_cases h9:cz x=9
  ·rw[if_pos h9]at h⊢;split at h
   ·split at h
    ·rename_i hp;injection h with h;subst h;simp[hp]
    ·rename_i hp;rw[if_neg hp,vn h];rfl
   ·split at h<;>simp at h
  ·rw[if_neg h9]at h⊢;by_cases hk:cz x=10∨cz x=11
   ·rw[if_pos hk]at h⊢;obtain⟨_,h1,h2,_⟩:=nw hr hk;unfold nv at h;cases hkn:j6 t x with
    |none=>
     rw[hkn]at h;injection h with h;subst h;simp
    |some c=>
     rw[hkn]at h;simp only at h⊢;split at h
     ·rename_i h0;injection h with h;subst h;rw[h0];simp
     ·have key:=xO (w:=fun _:Nat=>((bJ x).1.toNat:Int)*jc t n c) (fun a _ s' hs'=>by
       have:=xO (w:=fun _:Nat=>jc t n c) (fun b _ s'' hs''=>hg _ _ _ hs'') hs';rw[o5,ib]at this;exact this) h
      rw[o5,ib]at key;rw[ov (qy h1),ov (qy h2)]at key;have e:(bJ x).2*((bJ x).1*jc t n c)=jc t n c*(bJ x).1*(bJ x).2:=by
       rw[lE (bJ x).1,lE (bJ x).2]
      omega
   ·rw[if_neg hk]at h⊢;injection h with h;subst h;simp
theorem An.lay_eq{t:List Ce}(hD:An t):∀(n c:Nat) (V:On) (s:List Sh),fL t n c V=.ok s→(s.length:Int)=jc t n c
 |0,c,V,s,h=>by
  simp only[fL,iu]at h;subst h;simp[jc]
 |n+1,c,V,s,h=>by
  unfold fL at h;unfold jc;refine xO (fun x hx s' hs'=>?_) h;obtain⟨c',hc',hx'⟩:=j9 hx;exact hD.item_eq (hD.lay_eq n) (hD.right c' hc' x hx') hs'
theorem N0{t:List Ce}(h1:lost t=false)(h3:¬tF t=true)(h4:¬Kf t):An t:=by
 refine⟨h1,fun c hc x hx=>?_,fun i hi=>?_⟩
 ·unfold tF at h3;rw[dI,not_or]at h3;have h:=h3.2;simp only[nR,cF,not_exists,not_and,Bool.not_eq_false]at h;exact h c hc x hx
 ·cases hd:dep t 64 i with
  |none=>exact absurd ⟨i,hi,hd⟩ h4
  |some d=>exact⟨d,rfl⟩
theorem AS{t:List Ce}{n:Int}{l:List Sh}(h:pt t n=.ok l):lost t=false∧¬Zw t∧¬tF t=true∧¬Kf t∧sP t≤n∧zH t=.ok l:=by
 unfold pt at h;split at h
 ·simp at h
 ·rename_i h1;split at h
  ·simp at h
  ·rename_i h2;split at h
   ·simp at h
   ·rename_i h3;split at h
    ·simp at h
    ·rename_i h4;exact⟨by simpa using h1,h2,fun h=>h3 (.inl h),fun h=>h3 (.inr h),by omega,h⟩
theorem Mf{t:List Ce}(hD:An t){l:List Sh}(h:zH t=.ok l):(l.length:Int)=sP t:=by
 unfold zH at h;unfold sP;refine xO (fun c _ s hs=>?_) h;unfold yo at hs;unfold mZ;split at hs
 ·rename_i hn;rw[if_pos hn];injection hs with hs;subst hs;rfl
 ·rename_i hn;rw[if_neg hn];exact hD.lay_eq 64 c Fm s hs
theorem AQ{t:Li}{n:Int}{l:List Sh}(h:mL t n=.ok l):0≤n∧n≤100000∧lS t=true∧pt t.c n=.ok l:=by
 unfold mL at h;split at h
 ·simp at h
 ·rename_i h1;split at h
  ·simp at h
  ·rename_i h2;exact⟨by omega,by omega,by simpa using h2,h⟩
theorem LU{t:Li}{n:Int}{l:List Sh}(h:mL t n=.ok l):(l.length:Int)≤n:=by
 obtain⟨_,_,hv,hs⟩:=AQ h;obtain⟨a1,a2,a3,a4,a5,a6⟩:=AS hs;rw[Mf (N0 a1 a3 a4) a6];exact a5
def j8(s:ByteArray):List Int:=if s.size % 2=0 then jf s else jf s++[0]
theorem zy(s:ByteArray):kU (j8 s):=by
 unfold j8;split
 ·exact tt s
 ·intro z hz;simp only[eA,aF,aJ,b_]at hz;rcases hz with hz|rfl
  ·exact tt s z hz
  ·decide
theorem CC{P:Program}(w:World)(t ty e:TypeId)(i:TypeInfo)(ht:P.underlying t=some (.slice e))(hi:P.info? e=some i)(hs:i.size=1)
  (g n cap:Nat)(cur:Array Value)(p q:Nat)(hg:w.heap[g]? =some (.cells cur e (p,q)))(x:Value)(hx:x.oneCell'=true)(a:Addr)(c:Nat)(ha:w.cell? a=some x)
  (hroom:n+1≤cap)(hn:n<cur.size)(hp:n<p):
  (Builtin.append_ #[t,t] ty #[.slice (some ⟨g,0,none⟩) n cap,.slice (some a) 1 c]).run P w=.ok (.slice (some ⟨g,0,none⟩) (n+1) cap) (w.setCell ⟨g,n,none⟩ x):=by
 have hf:=run_firstCells_some (P:=P) w 1 1 a 1 c [x] rfl (fun j v hv=>by
  cases j with
  |zero=>
   simp at hv;subst hv;simpa [Addr.add]using ha
  |succ j=>simp at hv)
 have c1:w.cell? ⟨g,n,none⟩=some (cur[n]'hn):=by simp[World.cell?,hg,hn]
 have z1:w.frozen? ⟨g,n,none⟩=false:=by
  simp[World.frozen?,hg];omega
 have hst:=run_store P w ⟨g,n,none⟩ x;simp[Builtin.append_,cM ht,sizeOf,typeInfo,hi,hs,Builtin.lenOf,hroom,hf,Addr.add_lit,storeCells,run_store,hx,c1,z1]
theorem QQ(w:World)(ty:TypeId)(B n cap:Nat)(cur:Array Value)(p q:Nat)(hg:w.heap[B]? =some (.cells cur 5 (p,q)))(x:Value)(hx:x.oneCell'=true)(a:Addr)(c:Nat)(ha:w.cell? a=some x)
  (hcap:n≤cap)(hcm:cap≤maxLen)(hn:cap≤cur.size)(hp:cap≤p)(hs:n+1≤1000000000):
  ∃(u:Sl) (w':World),(Builtin.append_ #[28,28] ty #[.slice (some ⟨B,0,none⟩) n cap,.slice (some a) 1 c]).run Tryz.prog w=.ok (aY u) w'∧Below B w w'∧u.n=n+1∧u.n≤u.c∧u.c≤maxLen∧
   ∃g,u.ao=some ⟨g,0,none⟩∧B≤g∧∀i v,(cur.toList.take n++[x])[i]? =some v→w'.cell? ⟨g,i,none⟩=some v:=by
 obtain⟨i0,hi0,hz0,hz1,hz2⟩:=info_parts E7.inf;have hBl:=rR hg;have htl:(cur.toList.take n).length=n:=by rw[dP,uJ];omega
 by_cases hroom:n+1≤cap
 ·have hr:=CC (P:=Tryz.prog) w 28 ty 5 i0 E7.ut hi0 hz1 B n cap cur p q hg x hx a c ha hroom (by omega) (by omega);refine⟨⟨some ⟨B,0,none⟩,n+1,cap⟩,_,hr,⟨rfl,rfl,rfl,by rw[pZ];omega,fun k hk=>eU (by omega)⟩,rfl,hroom,hcm,B,rfl,aj _,fun i v hv=>?_⟩;have h2:(w.setCell ⟨B,n,none⟩ x).heap[B]? =some (.cells (cur.setIfInBounds n x) 5 (p,q)):=by simp[World.setCell,j1,hg]
  have hi:i<n+1:=by
   have:=(List.getElem?_eq_some_iff.1 hv).1;simp only[aA,htl,aB,a_]at this;omega
  simp only[World.cell?,h2,lF,gN,dZ];rw[Array.getElem?_setIfInBounds];by_cases hin:i=n
  ·subst hin;rw[ec (by omega),htl,nT]at hv;rw[if_pos rfl,if_pos (by omega)];exact hv
  ·rw[cZ (by omega),dz,if_pos (by omega),eV]at hv;rw[if_neg (by omega)];exact hv
 ·obtain rfl:n=cap:=by omega
  have holds:∀j v,(cur.toList.take n)[j]? =some v→w.cell? ((⟨B,0,none⟩:Addr).add j)=some v:=fun j v hv=>by
   have hj:j<n:=by
    have:=(List.getElem?_eq_some_iff.1 hv).1;omega
   rw[dz,if_pos hj,eV]at hv;rw[show(⟨B,0,none⟩:Addr).add j=⟨B,j,none⟩from by unfold Addr.add;split<;>simp_all];simp only[World.cell?,hg,lF,gN,dZ];exact hv
  have hr:=run_append_grow (P:=Tryz.prog) w 28 ty 5 i0 (.int .u8 0) E7.ut hi0 hz0 ⟨B,0,none⟩ n n (cur.toList.take n) (by rw[htl,hz1,fE]) holds a 1 c [x] (by rw[hz1];rfl) (fun j v hv=>by
   cases j with
   |zero=>
    simp at hv;subst hv;simpa [Addr.add]using ha
   |succ j=>simp at hv) (by omega) (by omega) (growslice_fits (by omega) (by rw[hz2];omega))
  have hge:=grownCap_ge w (n+1) n 5;have hle:=grownCap_le_maxLen w (n+1) n 5 (by unfold maxLen;omega);refine⟨⟨some ⟨w.heap.size,0,none⟩,n+1,grownCap w (n+1) n 5⟩,_,hr,⟨rfl,rfl,rfl,by simp,fun k hk=>by
   rw[jH (h:=(show k<w.drew.heap.size from Nat.lt_trans hk hBl))];rfl⟩,rfl,hge,hle,w.heap.size,rfl,by omega,fun i v hv=>?_⟩
  have h2:=ni w.drew (.cells ((cur.toList.take n).toArray++[x].toArray++Builtin.zeroCells (Value.int IntKind.u8 0).cells (grownCap w (n+1) n 5-(n+1))) 5);have e:w.drew.heap.size=w.heap.size:=rfl;rw[e]at h2;simp only[World.cell?,h2,lF,gN,dZ];rw[←eV,Array.toList_append,Array.toList_append,cZ (by
   have:=(List.getElem?_eq_some_iff.1 hv).1;simpa using this)]
  exact hv
theorem Ie{w:World}{ops:Array Oper}{rest:List Oper}{o:Oper}{a:Act}{Q:Exit→Act→World→Prop}(hgd:o.guard=none)(s y:Operand)
  (ho:o.op=.call {callee:=.builtin .append,args:= #[s,y],argTypes:= #[28,28]})(B n cap:Nat)(cur:Array Value)(p q:Nat)(x:Value)(ad:Addr)(c:Nat)(hs:a.eval s=.slice (some ⟨B,0,none⟩) n cap)(hy:a.eval y=.slice (some ad) 1 c)
  (hg:w.heap[B]? =some (.cells cur 5 (p,q)))(hx:x.oneCell'=true)(ha:w.cell? ad=some x)
  (hcap:n≤cap)(hcm:cap≤maxLen)(hn:cap≤cur.size)(hp:cap≤p)(hl:n+1≤1000000000)
  (h:∀(u:Sl) (w':World),Below B w w'→u.n=n+1→u.n≤u.c→u.c≤maxLen→(∃g,u.ao=some ⟨g,0,none⟩∧B≤g∧∀i v,(cur.toList.take n++[x])[i]? =some v→w'.cell? ⟨g,i,none⟩=some v)→wpList Tryz.prog ops Q rest (a.put o.dst (.slice u.ao u.n u.c)) w'):
  wpList Tryz.prog ops Q (o::rest) a w:=
 wpList_plain hgd fun _ hK=>by
  obtain⟨u,w',hr,h1,h2,h3,h4,h5⟩:=QQ w o.type B n cap cur p q hg x hx ad c ha hcap hcm hn hp hl;unfold Oper.wp execOp;simp only[ho,resolve,invoke,builtin,cB,dT,bu,List.map_toArray,bQ,dd,hs,hy,hr];exact hK _ _ (h u w' h1 h2 h3 h4 h5)
section
variable{Γ:List aC}
set_option maxRecDepth 100000 in
theorem BC(s:ByteArray)(hz:s.size≤1000000):aw tb Tryz.prog 22 [.string s] Γ (fun v Δ=>∃u:Sl,v=aY u∧Δ=[BF u (j8 s)]):=by
 refine⟨⟨_,Tryz.func22,by kernel_rfl,by kernel_rfl⟩,fun I w hd hh=>?_⟩;have hcv:=Lib.run_convert_string_bytes (P:=Tryz.prog) w 9 28 5 s (u:=.string) Tryz.underlying9 Tryz.underlying28 Tryz.underlying5;have hb1:Below w.heap.size w (Lib.bytesWorld w 5 s):=⟨rfl,rfl,rfl,by rw[Lib.bytesWorld_size];omega,fun k hk=>Lib.bytesWorld_at_old w _ s k hk⟩;have hg:=Lib.bytesWorld_at_new w 5 s;have hge:=grownCap_ge w s.size 0 5;have hle:=grownCap_le_maxLen w s.size 0 5 (by unfold maxLen;omega);have hcs:(Lib.bytesCells w 5 s).size=grownCap w s.size 0 5:=by
  unfold Lib.bytesCells;simp only[Array.size_append,Array.size_map,Array.size_replicate];have:s.data.size=s.size:=rfl;omega
 have htk:(Lib.bytesCells w 5 s).toList.take s.size=(jf s).map (Value.int .u8):=by
  unfold Lib.bytesCells jf;rw[Array.toList_append,List.take_left' (by rw[uJ,Array.size_map];rfl),Array.toList_map,List.map_map];rfl
 rw[hcs]at hg;generalize Lib.bytesWorld w 5 s=W1 at*;generalize Lib.bytesCells w 5 s=cur at*;generalize grownCap w s.size 0 5=cap at*;have hsz1:w.heap.size<W1.heap.size:=rR hg
 go_enter Tryz.func22,Tryz.ntmps22
 go_wp2_with (refine Ie rfl (.tmp 10) (.tmp 11) rfl w.heap.size s.size cap cur cap (cap+1) (.int .u8 0) ⟨W1.heap.size,0,none⟩ 1 rfl rfl (kG hg) rfl (by simp only[World.cell?,ni];rfl) hge hle (by omega) (aj _) (by omega) ?_;intro u w2 hb2 hu1 hu2 hu3 hu4)
 ·rename_i hodd
  go_ret
  obtain⟨ao,un,uc⟩:=u;obtain rfl:un=s.size+1:=hu1;obtain⟨g,hao,hgB,hcell⟩:=hu4;have hao:ao=some ⟨g,0,none⟩:=hao;subst hao;have hpar:¬s.size % 2=0:=by
   intro h0;rw[kF]at hodd;omega
  have ht:j8 s=jf s++[0]:=by unfold j8;rw[if_neg hpar]
  refine⟨_,[BF ⟨some ⟨g,0,none⟩,s.size+1,uc⟩ (j8 s)],rfl,⟨⟨some ⟨g,0,none⟩,s.size+1,uc⟩,rfl,rfl⟩,hb1.trans (((bD w.heap.size W1).alloc (by omega) _).trans hb2),aT ⟨?_,⟨hu2,hu3⟩,zy s,fun hne=>⟨g,0,rfl,fun hlt=>absurd hlt (by omega),fun i v hv=>?_⟩⟩⟩
  ·rw[ht,aA,qV];rfl
  ·rw[bU];refine hcell i v ?_;rw[htk,←hv,ht,aS];rfl
 ·rename_i heven
  go_ret
  have hpar:s.size % 2=0:=by
   have h1:((s.size:Int) % 2 != 0)=false:=by simpa using heven
   rw[ir]at h1;omega
  have ht:j8 s=jf s:=by unfold j8;rw[if_pos hpar]
  refine⟨_,[BF ⟨some ⟨w.heap.size,0,none⟩,s.size,cap⟩ (j8 s)],rfl,⟨⟨some ⟨w.heap.size,0,none⟩,s.size,cap⟩,rfl,rfl⟩,hb1,aT ⟨by rw[ht,qV],⟨hge,hle⟩,zy s,fun hne=>⟨w.heap.size,0,rfl,fun hlt=>absurd hlt (by omega),fun i v hv=>?_⟩⟩⟩;rw[ht,←htk,dz]at hv;split at hv
  ·rw[bU];simp only[World.cell?,hg,lF,gN,dZ];rw[←eV];exact hv
  ·simp at hv
end
def sB(z:Int):List Int:=[z/256 % 256,z % 256]
def lB(z:Int):List Int:=[z/16777216 % 256,z/65536 % 256,z/256 % 256,z % 256]
theorem QS(l:List Int):kU (l.flatMap sB):=by
 intro z hz;obtain⟨x,_,hx⟩:=List.mem_flatMap.1 hz;simp only[sB,aF,aJ,b_]at hx;rcases hx with rfl|rfl<;>omega
theorem Pc(l:List Int):kU (l.flatMap lB):=by
 intro z hz;obtain⟨x,_,hx⟩:=List.mem_flatMap.1 hz;simp only[lB,aF,aJ,b_]at hx;rcases hx with rfl|rfl|rfl|rfl<;>omega
theorem XW(l:List Int):(l.flatMap sB).length=2*l.length:=by
 induction l with
 |nil=>rfl
 |cons z l ih=>
  rw[bB,aA,ih];simp only[sB,aB,a_];omega
theorem WN(l:List Int):(l.flatMap lB).length=4*l.length:=by
 induction l with
 |nil=>rfl
 |cons z l ih=>
  rw[bB,aA,ih];simp only[lB,aB,a_];omega
theorem Ph{l:List Int}(h:∀z∈l,-2147483648≤z∧z<2147483648):e_ (l.flatMap lB)=l:=by
 induction l with
 |nil=>rfl
 |cons z l ih=>
  have h1:=h z (by simp);show TG _ _ _ _::e_ (l.flatMap lB)=z::l;rw[ih (fun y hy=>h y (by simp[hy]))];congr 1;unfold TG;split<;>omega
theorem Ll{l:List Int}:∀u∈l.map (Value.int .u8),u.oneCell'=true:=fun u hu=>by
 obtain⟨z,_,rfl⟩:=List.mem_map.1 hu;rfl
theorem yS{α β:Type}{l:List α}{i:Nat}{x:α}(f:α→List β)(h:l[i]? =some x):(l.take (i+1)).flatMap f=(l.take i).flatMap f++f x:=by
 rw[kS h,br];simp
section
variable{Γ:List aC}
theorem r9(s:Sl){l:List Int} [h:aZ (NL s) l Γ](hl:l.length≤100000:=by simp):aw tb Tryz.prog 23 [aY s] Γ (fun v Δ=>∃u:Sl,v=aY u∧Δ=[BF u (l.flatMap sB)]):=by
 refine aw.of_W au Tryz.func23 rfl (Nr s rfl (fun h1 h2 h4=>gY [] [3,8] (fun a:T9=>[(3,a.v),(8,.int .i64 a.z)]) (fun _=>[]) (fun a=>a.O) (fun _=>[NL s l]) (fun a=>a.z=(a.i:Int)∧a.i≤l.length∧cH 1 a.O a.v (2*a.i) (((l.take a.i).flatMap sB).map (Value.int .u8))) (fun a=>l.length-a.i) ⟨0,0,.slice none 0 0,[]⟩ ⟨rfl,aH _,cH.nil 1⟩ (eC eK eE) ?_));rintro⟨i,z,v,O⟩ K ⟨hz,hi,hg⟩ close;simp only at hz hi hg;by_cases hlt:i<l.length
 ·obtain⟨x,hx⟩:∃x,l[i]? =some x:=⟨_,ah hlt⟩;obtain⟨bb,off,hao⟩:=h4 (by rintro rfl;simp at hlt);obtain⟨sa,sn,sc⟩:=s;simp only at h1 h2 hao;subst hao;refine bh [] 9 (decide (z<(sn:Int))) (ar (by omega)) (bI [9] 1 bb off sn sc .i64 i z hz au (by omega) (cX [] 1 bb (off+i*1) (.int .i64 x) au (sM bb off sn sc hx) (W.shr [] .i64 .u64 x 8 (x/256) (by rw[show(min (8:Int).toNat IntKind.i64.bits)=8 by decide,mQ _ (by decide)];rfl) (cW [] 2 [.int .u8 (IntKind.u8.wrap (x/256)),.int .u8 (IntKind.u8.wrap x)] au (fun B=>W.app [] O [] O [] 1 1 (2*i) 2 v (.slice (some ⟨B,0,none⟩) 2 2) (((l.take i).flatMap sB).map (Value.int .u8)) [.int .u8 (IntKind.u8.wrap (x/256)),.int .u8 (IntKind.u8.wrap x)] au hg (cg B O 2 1 rfl 2) (Ll (l:=[IntKind.u8.wrap (x/256),IntKind.u8.wrap x])) (fun v' O' hg'=>close [] _ _ ⟨i+1,IntKind.i64.wrap (z+1),v',O'⟩ (by kernel_rfl) (by simp only[az,ai];kernel_rfl) ⟨by simp only[af];omega,by simp only;omega,cH.cast ?_ (by simp only;omega) hg'⟩ (by simp only;omega) (eC eK eE)))))));simp only;rw[yS sB hx,aS,mI,mI];rfl
 ·refine aO [] 9 (decide (z<(s.n:Int))) (ak (by omega)) ?_;rw[aR (by omega)]at hg;refine l8 (by simp only[az,ai];kernel_rfl) hg (fun ao c' hv hc'=>?_);subst hv;have hcm:c'≤maxLen:=pz hg;exact W.r [9] (.slice ao (2*i) c') ⟨⟨ao,2*i,c'⟩,rfl,rfl⟩ (fun I w _ hh=>aT (show(BF ⟨ao,2*i,c'⟩ (l.flatMap sB)).p I w from⟨by rw[XW];simp only;omega,⟨hc',hcm⟩,QS l,aZ.p (k:=RA ao) (a:=(l.flatMap sB).map (Value.int .u8)) inferInstance hh⟩))
theorem vc(s:Sl){l:List Int} [h:aZ (NL s) l Γ](hl:l.length≤100000):aw tb Tryz.prog 24 [aY s] Γ (fun v Δ=>∃u:Sl,v=aY u∧Δ=[BF u (l.flatMap lB)]):=by
 refine aw.of_W au Tryz.func24 rfl (Nr s rfl (fun h1 h2 h4=>gY [] [3,8] (fun a:T9=>[(3,a.v),(8,.int .i64 a.z)]) (fun _=>[]) (fun a=>a.O) (fun _=>[NL s l]) (fun a=>a.z=(a.i:Int)∧a.i≤l.length∧cH 1 a.O a.v (4*a.i) (((l.take a.i).flatMap lB).map (Value.int .u8))) (fun a=>l.length-a.i) ⟨0,0,.slice none 0 0,[]⟩ ⟨rfl,aH _,cH.nil 1⟩ (eC eK eE) ?_));rintro⟨i,z,v,O⟩ K ⟨hz,hi,hg⟩ close;simp only at hz hi hg;by_cases hlt:i<l.length
 ·obtain⟨x,hx⟩:∃x,l[i]? =some x:=⟨_,ah hlt⟩;obtain⟨bb,off,hao⟩:=h4 (by rintro rfl;simp at hlt);obtain⟨sa,sn,sc⟩:=s;simp only at h1 h2 hao;subst hao;refine bh [] 9 (decide (z<(sn:Int))) (ar (by omega)) (bI [9] 1 bb off sn sc .i64 i z hz au (by omega) (cX [] 1 bb (off+i*1) (.int .i64 x) au (sM bb off sn sc hx) (W.shr [] .i64 .u64 x 24 (x/16777216) (by rw[show(min (24:Int).toNat IntKind.i64.bits)=24 by decide,mQ _ (by decide)];rfl) (W.shr [] .i64 .u64 x 16 (x/65536) (by rw[show(min (16:Int).toNat IntKind.i64.bits)=16 by decide,mQ _ (by decide)];rfl) (W.shr [] .i64 .u64 x 8 (x/256) (by rw[show(min (8:Int).toNat IntKind.i64.bits)=8 by decide,mQ _ (by decide)];rfl) (cW [] 4 [.int .u8 (IntKind.u8.wrap (x/16777216)),.int .u8 (IntKind.u8.wrap (x/65536)),.int .u8 (IntKind.u8.wrap (x/256)),.int .u8 (IntKind.u8.wrap x)] au (fun B=>W.app [] O [] O [] 1 1 (4*i) 4 v (.slice (some ⟨B,0,none⟩) 4 4) (((l.take i).flatMap lB).map (Value.int .u8)) [.int .u8 (IntKind.u8.wrap (x/16777216)),.int .u8 (IntKind.u8.wrap (x/65536)),.int .u8 (IntKind.u8.wrap (x/256)),.int .u8 (IntKind.u8.wrap x)] au hg (cg B O 4 1 rfl 4) (Ll (l:=[IntKind.u8.wrap (x/16777216),IntKind.u8.wrap (x/65536),IntKind.u8.wrap (x/256),IntKind.u8.wrap x])) (fun v' O' hg'=>?_))))))))
  refine close [] _ _ ⟨i+1,IntKind.i64.wrap (z+1),v',O'⟩ (by kernel_rfl) (by simp only[az,ai];kernel_rfl) ⟨by simp only[af];omega,by simp only;omega,cH.cast ?_ (by simp only;omega) hg'⟩ (by simp only;omega) (eC eK eE);simp only;rw[yS lB hx,aS,mI,mI,mI,mI];rfl
 ·refine aO [] 9 (decide (z<(s.n:Int))) (ak (by omega)) ?_;rw[aR (by omega)]at hg;refine l8 (by simp only[az,ai];kernel_rfl) hg (fun ao c' hv hc'=>?_);subst hv;have hcm:c'≤maxLen:=pz hg;exact W.r [9] (.slice ao (4*i) c') ⟨⟨ao,4*i,c'⟩,rfl,rfl⟩ (fun I w _ hh=>aT (show(BF ⟨ao,4*i,c'⟩ (l.flatMap lB)).p I w from⟨by rw[WN];simp only;omega,⟨hc',hcm⟩,Pc l,aZ.p (k:=RA ao) (a:=(l.flatMap lB).map (Value.int .u8)) inferInstance hh⟩))
theorem iV(k d:Int)(u:Sl):aw tb Tryz.prog 21 [.int .u8 k,.int .u8 d,aY u] Γ (jy (.agg #[.int .u8 k,.int .u8 d,aY u])):=by
 refine aw.of_W au Tryz.func21 rfl (W.r [] (.agg #[.int .u8 k,.int .u8 d,.slice u.ao u.n u.c]) ⟨rfl,rfl⟩ bX)
end
end Go.Proofs.YtgaaopjagcaojaaGreat
