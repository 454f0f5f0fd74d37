import Derived.Test.YtgaaopjagcaojaaGreatVk
import Derived.Test.YtgaaopjagcaojaaGreatMj
set_option linter.unusedSimpArgs false
set_option linter.unusedVariables false
set_option maxHeartbeats 8000000
namespace Go.Proofs.YtgaaopjagcaojaaGreat
open Go.RowKit
def VS.setMaps(s:VS)(M:List (Nat×List (Value×Value))):VS:=⟨s.tmps,s.boxes,s.own,M⟩
section
variable{T:Tb}{P:Program}{fin:VS→List aC→Prop}{c:fC}{Γ:List aC}
theorem ER(D:List Nat){α:Type}(N:List Nat)(V:α→List (Nat×Value))(X:α→List (Nat×List Value))(O:α→List (Nat×List Value))(Q:α→List (Nat×List (Value×Value)))(G:α→List aC)(inv:α→Prop)(μ:α→Nat)(a0:α)
  
  
  (i0:inv a0)(f0:∀I w,br T I w→aE Γ I w→aE (G a0) I w)
  (hr:∀(a:α) (R:VS→List aC→Prop),inv a→
   (∀(D':List Nat) (c':fC) (Γ':List aC) (a':α),oD (aK T (aZ T D' 999 c'))=some R→
    (oE (aK T (aZ T D' 999 c'))).map (ji (aK T (aZ T D 999 c)) N)=some (((((ji (aK T (aZ T D 999 c)) N (nd (aK T (aZ T D 999 c)))).puts (V a')).boxs (X a')).setOwn (O a')).setMaps (Q a'))→
    inv a'→μ a'<μ a→(∀I w,br T I w→aE Γ' I w→aE (G a') I w)→W T P fin c' Γ')→
   W T P fin ⟨((((ji (aK T (aZ T D 999 c)) N (nd (aK T (aZ T D 999 c)))).puts (V a)).boxs (X a)).setOwn (O a)).setMaps (Q a),.code (vH (aK T (aZ T D 999 c)))::.again R::F_ (aK T (aZ T D 999 c))⟩ (G a))(h:qg (aK T (aZ T D 999 c))=true:=by kernel_rfl)(h0:ji (aK T (aZ T D 999 c)) N (nd (aK T (aZ T D 999 c)))=((((ji (aK T (aZ T D 999 c)) N (nd (aK T (aZ T D 999 c)))).puts (V a0)).boxs (X a0)).setOwn (O a0)).setMaps (Q a0):=by kernel_rfl):W T P fin c Γ:=by
 refine eg D 999 ?_;generalize aZ T D 999 c=c1 at*;generalize he:aK T c1=e at*;cases e with
 |loop b c'=>
  generalize hst:ji (Ev.loop b c') N (nd (Ev.loop b c'))=S at*;have key:∀(m:Nat) (s:VS) (Γ':List aC),(∃a,ji (Ev.loop b c') N s=(((S.puts (V a)).boxs (X a)).setOwn (O a)).setMaps (Q a)∧inv a∧μ a=m∧∀I w,br T I w→aE Γ' I w→aE (G a) I w)→
    W T P fin ⟨s,.code b::.again (fun s' Γ'=>∃m',m'<m∧∃a,ji (Ev.loop b c') N s'=(((S.puts (V a)).boxs (X a)).setOwn (O a)).setMaps (Q a)∧inv a∧μ a=m'∧∀I w,br T I w→aE Γ' I w→aE (G a) I w)::c'.k⟩ Γ':=by
   rintro m s Γ' ⟨a,hs,hi,rfl,hf⟩;refine W.forget (jK N (j8 b)) (jd b) rfl ?_;rw[show s.forget (jK N (j8 b)) (jd b)=(((S.puts (V a)).boxs (X a)).setOwn (O a)).setMaps (Q a)from hs];refine W.sub rfl hf ?_;refine hr a _ hi (fun D' c' Γ' a' hR hS hi' hl' hf'=>?_);refine eg D' 999 ?_;generalize aZ T D' 999 c'=c2 at*;cases hv:aK T c2<;>rw[hv]at hR hS<;>simp[oD,oE]at hR hS;subst hR;exact W.again hv ⟨μ a',hl',a',hS,hi',rfl,hf'⟩
  refine W.loop (fun m s Γ'=>∃a,ji (Ev.loop b c') N s=(((S.puts (V a)).boxs (X a)).setOwn (O a)).setMaps (Q a)∧inv a∧μ a=m∧∀I w,br T I w→aE Γ' I w→aE (G a) I w) (μ a0) he ⟨a0,?_,i0,rfl,f0⟩ key;rw[←h0];exact hst
 |_=>simp[qg]at h
end
open Go.RowKit Go.IntWalk
theorem C7{α:Type}{f:α→LR}{l:List α}{j:Nat}{a:α}(h:l[j]? =some a):lA f (l.drop j)=match f a with
  | .error e=>.error e
  | .ok s=>match lA f (l.drop (j+1))with
   | .error e=>.error e
   | .ok s'=>.ok (s++s'):=by
 obtain⟨h1,h2⟩:=List.getElem?_eq_some_iff.1 h;rw[bz h1,h2];rfl
def BL{α:Type}(f:α→LR)(l:List α)(R:LR)(j:Nat)(E:List qt):Prop:=R=match lA f (l.drop j)with
  | .error e=>.error e
  | .ok s=>.ok (E.map qt.x++s)
theorem qW{α:Type}(f:α→LR)(l:List α):BL f l (lA f l) 0 []:=by
 unfold BL;rw[gT];cases lA f l<;>rfl
theorem BL.step{α:Type}{f:α→LR}{l:List α}{R:LR}{j:Nat}{E es:List qt}{a:α}{s:List Sh}(h:BL f l R j E)(ha:l[j]? =some a)(hf:f a=.ok s)(he:es.map qt.x=s):BL f l R (j+1) (E++es):=by
 unfold BL at h⊢;rw[h,C7 ha,hf];cases lA f (l.drop (j+1))with
 |error e=>rfl
 |ok s'=>simp only[aX,he,aT]
theorem BL.err{α:Type}{f:α→LR}{l:List α}{R:LR}{j:Nat}{E:List qt}{a:α}{e:Int}(h:BL f l R j E)(ha:l[j]? =some a)(hf:f a=.error e):R=.error e:=by
 unfold BL at h;rw[h,C7 ha,hf]
theorem BL.fin{α:Type}{f:α→LR}{l:List α}{R:LR}{j:Nat}{E:List qt}(h:BL f l R j E)(hj:l.length≤j):R=.ok (E.map qt.x):=by
 unfold BL at h;rw[h,bp hj];simp[lA]
theorem xe{α:Type}{f:α→LR}{w:α→Int}:∀{l:List α} {s:List Sh},(∀a∈l,∀s,f a=.ok s→(s.length:Int)≤w a)→lA f l=.ok s→(s.length:Int)≤(l.map w).sum
 | [],s,_,h=>by
  simp only[lA,nX]at h;subst h;simp
 |a::l,s,hw,h=>by
  unfold lA at h;cases hf:f a with
  |error e=>rw[hf]at h;simp at h
  |ok s1=>
   rw[hf]at h;cases hs:lA f l with
   |error e=>rw[hs]at h;simp at h
   |ok s2=>
    rw[hs]at h;simp only[nX]at h;subst h;have h1:=hw a (by simp) s1 hf;have h2:=xe (fun b hb=>hw b (by simp[hb])) hs;simp only[aA,cA,gj];omega
theorem qS{α:Type}(w:Int):∀l:List α,(l.map fun _=>w).sum=(l.length:Int)*w
 | []=>by simp
 |a::l=>by
  simp only[cA,gj,aD,qS w l];rw[Int.natCast_add,Int.add_mul];omega
theorem uE{x:Im}{l:List (Sn×Sn)}{s:List Sh}(h:iJ x l=.ok s):s.length=1:=by
 unfold iJ at h;split at h
 ·injection h with h;subst h;rfl
 ·simp at h
theorem zL.item_len{t:List Ce}(hD:zL t){n:Nat}{g:Nat→On→LR}(hg:∀c V s,g c V=.ok s→(s.length:Int)≤jT t n c){x:Im}(hr:j1 x=true){V:On}{s:List Sh}(h:js t n g V x=.ok s):(s.length:Int)≤jA t (jT t n) x:=by
 unfold js at h;unfold jA;by_cases h8:cE x=8∨cE x=45
 ·rw[if_pos h8]at h⊢;rw[uE h];omega
 ·rw[if_neg h8]at h⊢;by_cases h9:cE x=9
  ·rw[if_pos h9]at h⊢;split at h
   ·split at h
    ·rename_i hp;injection h with h;subst h;simp[hp]
    ·rename_i hp;rw[if_neg hp,uE h];omega
   ·split at h<;>simp at h
  ·rw[if_neg h9]at h⊢;by_cases hk:cE x=10∨cE x=11
   ·rw[if_pos hk]at h⊢;obtain⟨_,h1,h2,_⟩:=ou hr hk;unfold nA at h;cases hkn:rn t x with
    |none=>
     rw[hkn]at h;injection h with h;subst h;simp
    |some c=>
     rw[hkn]at h;simp only at h⊢;split at h
     ·rename_i h0;injection h with h;subst h;rw[h0];simp
     ·have key:=xe (w:=fun _:Nat=>((bI x).1.toNat:Int)*jT t n c) (fun a _ s' hs'=>by
       have:=xe (w:=fun _:Nat=>jT t n c) (fun b _ s'' hs''=>hg _ _ _ hs'') hs';rw[qS,gU]at this;exact this) h
      rw[qS,gU]at key;rw[ns (pV h1),ns (pV h2)]at key;have e:(bI x).2*((bI x).1*jT t n c)=jT t n c*(bI x).1*(bI x).2:=by
       rw[k7 (bI x).1,k7 (bI x).2]
      omega
   ·rw[if_neg hk]at h⊢;injection h with h;subst h;simp
theorem zL.lay_len{t:List Ce}(hD:zL t):∀(n c:Nat) (V:On) (s:List Sh),gg t n c V=.ok s→(s.length:Int)≤jT t n c
 |0,c,V,s,h=>by
  simp only[gg,nX]at h;subst h;simp[jT]
 |n+1,c,V,s,h=>by
  unfold gg at h;unfold jT;refine xe (fun x hx s' hs'=>?_) h;obtain⟨c',hc',hx'⟩:=xJ hx;exact hD.item_len (hD.lay_len n) (hD.right c' hc' x hx') hs'
theorem tP{α:Type}{f:α→LR}{A:Int→Prop}:∀{l:List α} {e:Int},(∀a∈l,∀e,f a=.error e→A e)→lA f l=.error e→A e
 | [],e,_,h=>by simp[lA]at h
 |a::l,e,hw,h=>by
  unfold lA at h;cases hf:f a with
  |error e'=>
   rw[hf]at h;injection h with h;subst h;exact hw a (by simp) e' hf
  |ok s1=>
   rw[hf]at h;cases hs:lA f l with
   |error e'=>
    rw[hs]at h;injection h with h;subst h;exact tP (fun b hb=>hw b (by simp[hb])) hs
   |ok s2=>rw[hs]at h;simp at h
theorem uj:∀{l:List (Sn×Sn)} {e:Int},jc l=.error e→e=26
 | [],e,h=>by simp[jc]at h
 |p::r,e,h=>by
  unfold jc at h;split at h
  ·cases hg:jc r with
   |ok l=>rw[hg]at h;simp at h
   |error e'=>
    rw[hg]at h;injection h with h;subst h;exact uj hg
  ·injection h with h;exact h.symm
theorem C8{x:Im}{l:List (Sn×Sn)}{e:Int}(h:iJ x l=.error e):e=26:=by
 unfold iJ at h;cases hg:jc l with
 |ok p=>rw[hg]at h;simp at h
 |error e'=>
  rw[hg]at h;injection h with h;subst h;exact uj hg
theorem qH{t:List Ce}{n:Nat}{g:Nat→On→LR}(hg:∀c V e,g c V=.error e→e=25∨e=26){x:Im}{V:On}{e:Int}(h:js t n g V x=.error e):e=25∨e=26:=by
 unfold js at h;split at h
 ·exact .inr (C8 h)
 ·split at h
  ·split at h
   ·split at h
    ·simp at h
    ·exact .inr (C8 h)
   ·cases hq:jc (uM V (iS x)).1 with
    |ok p=>
     rw[hq]at h;injection h with h;exact .inl h.symm
    |error e'=>
     rw[hq]at h;injection h with h;subst h;exact .inr (uj hq)
  ·split at h
   ·unfold nA at h;split at h
    ·simp at h
    ·split at h
     ·simp at h
     ·exact tP (A:=fun e=>e=25∨e=26) (fun a _ e' he=>tP (A:=fun e=>e=25∨e=26) (fun b _ e'' he'=>hg _ _ _ he') he) h
   ·simp at h
theorem nU{t:List Ce}:∀(n c:Nat) (V:On) (e:Int),gg t n c V=.error e→e=25∨e=26
 |0,c,V,e,h=>by simp[gg]at h
 |n+1,c,V,e,h=>by
  unfold gg at h;exact tP (A:=fun e=>e=25∨e=26) (fun x _ e' he=>qH (nU n) he) h
def LyX(t:List Ce)(most:Int)(r:LR)(FB:Value→List (Nat×List Value))(b1 b2:Nat×List (Value×Value))(cn:Nat)(es:List qt)(v:Value)(O:List (Nat×List Value))(M:List (Nat×List (Value×Value)))(Δ:List aC):Prop:=
 ∃cm:List (Int×Int),vR t most cm∧M=[b1,b2,(cn,bJ de (bZ cm))]∧Dl r FB es v O Δ
structure Mm where
 j:Nat
 z:Int
 cm:List (Int×Int)
 s:Sl
 O:List (Nat×List Value)
 E:List qt
abbrev Ys(n:Sl)(a:Bool)(m:Sl)(b:Bool):List Value:=[.slice n.ao n.n n.c,.bool a,.slice m.ao m.n m.c,.bool b]
abbrev otc(V:On)(x:Q5):List Value:=[.bool V.f,.int .i64 V.o]++Ys x.g.n x.g.a x.g.m x.g.b++Ys x.a.n x.a.a x.a.m x.a.b++Ys x.b.n x.b.a x.b.m x.b.b++Ys x.c.n x.c.a x.c.m x.c.b++Ys x.d.n x.d.a x.d.m x.d.b
def Rb(fb bn cn dn:Nat)(ca:Option Addr)(cl cc:Nat)(most:Int)(dm:List (Value×Value))(t:List Ce)(n:Nat):Prop:=
 ∀(Γ:List aC) [aY (lC ⟨ca,cl,cc⟩) t Γ] (c:Int) (i d:Nat),c=i→i<t.length→dep t n i=some d→∀(V:On) (bx:Q5) (Lb e:Nat) [aY (OF bx) (Lb,V) Γ],(0≤V.o∧V.o≤7)→Lb≤10000→rV e V→e≤45*SW t d→
  ∀cm:List (Int×Int),vR t most cm→∀(s0:Sl) (O:List (Nat×List Value)) (es:List qt) [aY (sK oB (a_ s0)) es Γ],cH 3 O (a_ s0) es.length (es.flatMap oB.cells)→(es.length:Int)+jT t 64 i≤100000→
  dj Km Tryz.prog 48 [fg fb,.int .i64 c,Hi V bx] (FO fb ⟨ca,cl,cc⟩ bn cn dn most (a_ s0)++O) [(bn,bJ dO (bZ (cr t))),(dn,dm),(cn,bJ de (bZ cm))] Γ
   (LyX t most (gg t 64 i V) (fun v=>FO fb ⟨ca,cl,cc⟩ bn cn dn most v) (bn,bJ dO (bZ (cr t))) (dn,dm) cn es)
def rfU(fb y6 Ae b16:Nat)(k:Int)(f:Bool)(o rows:Int):Mm→List (Nat×SV):=fun a=>[(0,.val (fg fb)),(5,.ptr 5 0),(9,.val (.int .i64 k)),(10,.val (fg y6)),(12,.val (.bool f)),(13,.ptr 13 0),(14,.val (.int .i64 o)),
 (17,.val (.func (.func 153) #[] #[fg b16,fg y6,fg Ae])),(53,.val (.int .i64 rows)),(6,.val (.int .i64 0)),(54,.val (.int .i64 a.z))]
def rfX(V:On)(bx:Q5)(n:Sl)(a:Bool)(m:Sl)(b:Bool):Mm→List (Nat×List Value):=fun _=>[(5,otc V bx),(13,Ys n a m b)]
theorem K5{j q rows eT c N:Nat}(hj:j<rows)(hq:q<eT)(h:N≤(j*eT+q)*c):N+c≤(j*eT+(q+1))*c∧(j*eT+(q+1))*c≤rows*eT*c:=by
 have h1:(j*eT+(q+1))*c=(j*eT+q)*c+c:=by rw[←gN,ea,kU]
 have h2:(j+1)*eT≤rows*eT:=bX _ hj;rw[ea,kU]at h2;exact⟨by omega,bX _ (by omega)⟩
section
theorem JY(fb bn cn dn:Nat)(ca:Option Addr)(cl cc:Nat)(most:Int)(dm:List (Value×Value)){t:List Ce}(hF:S_ t)(hD:zL t)(tg:0≤most∧most≤100000)(hW:yb t≤160)(n:Nat)(ih:Rb fb bn cn dn ca cl cc most dm t n)
  (Γ:List aC) [aY (lC ⟨ca,cl,cc⟩) t Γ](xf xp:Sl){x:Im} [aY (mK xf xp) x Γ]{i d:Nat}{cx:Ce}(hcx:t[i]? =some cx)(hxm:x∈cx.i)(hk:cE x=10∨cE x=11)(su:dep t (n+1) i=some d)
  (V:On)(bx:Q5)(Lb e:Nat) [aY (OF bx) (Lb,V) Γ](ho:0≤V.o∧V.o≤7)(hLb:Lb≤10000)(QP:rV e V)(heb:e≤45*SW t d)(cm:List (Int×Int))(hcm:vR t most cm)(s0:Sl)(O:List (Nat×List Value))(es:List qt) [aY (sK oB (a_ s0)) es Γ]
  (hg:cH 3 O (a_ s0) es.length (es.flatMap oB.cells))(RM:(es.length:Int)+jA t (jT t 64) x≤100000):
  dj Km Tryz.prog 90 [fg fb,lO xf xp,Hi V bx] (FO fb ⟨ca,cl,cc⟩ bn cn dn most (a_ s0)++O) [(bn,bJ dO (bZ (cr t))),(dn,dm),(cn,bJ de (bZ cm))] Γ
   (LyX t most (nA t 64 (gg t 64) x V) (fun v=>FO fb ⟨ca,cl,cc⟩ bn cn dn most v) (bn,bJ dO (bZ (cr t))) (dn,dm) cn es):=by
 have hce:=aN hcx;have T6:=hF.ok cx hce x hxm;have Lh:=T6.im;have hxr:=hD.right cx hce x hxm;have hxb:=hF.by' cx hce x hxm;obtain⟨FM,hg1,hg2,TZ⟩:=ou hxr hk;obtain⟨acI,acJ⟩:=wu hxb;obtain⟨iw,acX⟩:=IX FM;obtain⟨s,hs⟩:=T6.ref hk;obtain⟨k,hkn,ZO,hkm⟩:=hD.kid hcx hxm hs;have Yc:=wG hkm;have hc0:=hD.cnt_nn 64 k;have hil:i<t.length:=(List.getElem?_eq_some_iff.1 hcx).1;obtain⟨d',hkd,hdd⟩:∃d',dep t n k=some d'∧d'<d:=by
  unfold dep at su;cases hq:jr (dep t n) (fy t i) 0 with
  |none=>rw[hq]at su;simp at su
  |some r=>
   rw[hq]at su;simp only[dd,au]at su;obtain⟨e',he,hle⟩:=(lL hq).2 k hkm;exact⟨e',he,by omega⟩
 have hup:=Qo hil ⟨n+1,su⟩ hdd;have adf:SW t d'≤160:=aP Qn hW;have hwx:wI x≤wC t i:=aaU (by rw[tr hcx];exact hxm);have TS:jA t (jT t 64) x=jT t 64 k*(bI x).1*(bI x).2:=by
  unfold jA;have h1:¬(cE x=8∨cE x=45):=by omega
  have h2:¬cE x=9:=by omega
  rw[if_neg h1,if_neg h2,if_pos hk,hkn]
 obtain⟨R,hR⟩:∃R,nA t 64 (gg t 64) x V=R:=⟨_,rfl⟩;have hR2:=hR;unfold nA at hR2;rw[hkn]at hR2;simp only at hR2;rw[hR];have pn:∀(Γ':List aC) [aY (mK xf xp) x Γ'],aw tb Tryz.prog 79 [lO xf xp] Γ' (jf (.tuple #[.string (strOfNums s),.bool true])):=fun Γ' _=>by
  have:=wO (Γ:=Γ') xf xp Lh;rw[hs]at this;exact this
 refine dj.of_W bG Tryz.func90 rfl ?_;refine aq [] (pn _).mF ?_;rintro _ _ ⟨rfl,rfl⟩;refine bW [] 1 fb 0 bG ?_;refine dK [] (FO fb ⟨ca,cl,cc⟩ bn cn dn most (a_ s0)++O) fb (0+1) 1 [.slice ca cl cc,.map (some bn),.map (some cn),.map (some dn),.int .i64 most,a_ s0] (.map (some bn)) bG (.head _) rfl ?_;refine uS [] dO 69 9 3 false (FO fb ⟨ca,cl,cc⟩ bn cn dn most (a_ s0)++O) [(bn,bJ dO (bZ (cr t))),(dn,dm),(cn,bJ de (bZ cm))] bn (strOfNums s) (bZ (cr t)) (.int .i64 0) bG (.head _) ?_;rw[AU ZO];obtain⟨d64,acy⟩:=hD.deep k Yc;refine cX [] [] (FO fb ⟨ca,cl,cc⟩ bn cn dn most (a_ s0)) O [] [(bn,bJ dO (bZ (cr t))),(dn,dm),(cn,bJ de (bZ cm))] [] ⟨rfl,by rfl,trivial⟩ (JS fb bn cn dn ca cl cc most (a_ s0) dm hF hD tg 64 _ (k:Int) k rfl Yc ⟨d64,acy⟩ cm hcm) ?_;rintro _ _ _ _ ⟨Vx,K8,rfl,rfl,rfl,rfl⟩;by_cases h0:jT t 64 k=0
 ·rw[if_pos h0]at hR2;refine bk [] 37 (min (jT t 64 k) (most+1)==0) (by rw[h0,Int.min_eq_left (by omega)];rfl) ?_;exact jO [37] (.int .i64 0) (FO fb ⟨ca,cl,cc⟩ bn cn dn most (a_ s0)++O) [(bn,bJ dO (bZ (cr t))),(dn,dm),(cn,bJ de (bZ Vx))] ⟨Vx,K8,rfl,s0,O,[],fun q hq=>by rw[←hR2]at hq;injection hq,by rw[←hR2];rfl,rfl,by rw[ah];exact hg,rfl⟩ (eC (by rw[ah];exact eK) eE)
 rw[if_neg h0]at hR2;refine aR [] 37 (min (jT t 64 k) (most+1)==0) (by rw[eL];omega) ?_;refine aq [37] (tC xf xp (x:=x) Lh).mF ?_;rintro _ _ ⟨rfl,rfl⟩;refine aq [] (wR xf xp (x:=x) Lh).mF ?_;rintro _ _ (⟨hb,n',a',m',b',rfl,rfl⟩|⟨hb,qn,qa,qm,qb,rfl,rfl⟩)
 ·rw[iw]at hb;simp at hb
 refine aq [] (om xf xp (x:=x) Lh).mF ?_;rintro _ _ ⟨u,⟨u1,u2,u3⟩,rfl,rfl⟩;obtain⟨eT,CA⟩:∃c:Nat,(bI x).1=c:=⟨(bI x).1.toNat,by omega⟩;obtain⟨rows,CD⟩:∃c:Nat,(bI x).2=c:=⟨(bI x).2.toNat,by omega⟩;obtain⟨C,hC⟩:∃C:Nat,jT t 64 k=C:=⟨(jT t 64 k).toNat,by omega⟩;have hown:∀{a b:Int},0≤a∧a<(bI x).1→0≤b∧b<(bI x).2→∃e,rV e (xS x a b)∧e+4≤45*wI x:=fun ha hb=>OT T6 hxb hk hg1 hg2 ha hb;have ZZ:∀a b:Int,xS x a b=⟨ri x,gD x,j9 x,pt Dp.x (bH x) eT rows a b,0,pt Dp.y (bH x) eT rows a b,0⟩:=fun a b=>by unfold xS;rw[CA,CD]
 have Le:=uz hxb;rw[CA,CD]at hown;rw[CA,CD,hC]at TS;rw[CA,CD,iU,iU]at hR2;rw[CA]at hg1 acI;rw[CD]at hg2 acJ;rw[CA,CD];have VO:es.length+rows*eT*C≤100000:=by
  rw[TS]at RM;have e1:(C:Int)*eT*rows=((rows*eT*C:Nat):Int):=by
   rw[dI,dI,k7 (C:Int),k7 ((eT:Int)*C),←Int.mul_assoc]
  rw[e1]at RM;omega
 refine W.revp 10 [.int .i64 (eT:Int)] (fun y6=>?_);refine W.revp 11 [.int .i64 (rows:Int)] (fun Ae=>?_);refine W.revp 16 [a_ u] (fun b16=>?_);refine dB [] 1 Ae 0 (.int .i64 (rows:Int)) bG (gA Ae rfl) ?_;refine j7 [] Tryz.f90 0 87 87 [0,5,9,10,12,13,14,17,53,6,54] [5,13] (rfU fb y6 Ae b16 (k:Int) (ri x) (gD x) rows) (rfX V bx qn qa qm qb) (fun a=>FO fb ⟨ca,cl,cc⟩ bn cn dn most (a_ a.s)++a.O) (fun a=>[(bn,bJ dO (bZ (cr t))),(dn,dm),(cn,bJ de (bZ a.cm))])
  (fun a=>[OF bx (Lb,V),QF qn qa qm qb (50,j9 x),d_ y6 [.int .i64 (eT:Int)],d_ Ae [.int .i64 (rows:Int)],d_ b16 [a_ u],zb u (bH x),lC ⟨ca,cl,cc⟩ t,sK oB (a_ a.s) (es++a.E)])
  (fun a=>a.z=a.j∧a.j≤rows∧vR t most a.cm∧cH 3 a.O (a_ a.s) (es++a.E).length ((es++a.E).flatMap oB.cells)∧a.E.length≤(a.j*eT+0)*C∧BL (fun k':Nat=>lA (fun i':Nat=>gg t 64 k ((xS x i' k').then V)) (List.range eT)) (List.range rows) R a.j a.E)
  (fun a=>rows-a.j) ⟨0,0,Vx,s0,O,[]⟩ ⟨rfl,aJ _,K8,by rw[ah];exact hg,aJ _,by rw[←hR2];exact qW _ _⟩ (eC eK (eC eK (eC eK (eC eK (eC eK (eC eK (eC eK (eC (by rw[ah];exact eK) eE)))))))) ?_
 rintro⟨j,z,MW,s1,O1,E1⟩ K ⟨hz,hj,DL,Av,hE1,hl1⟩ close;simp only at hz hj DL Av hE1 hl1;by_cases hlt:j<rows
 ·refine bk [] 55 (decide (z<(rows:Int))) (ar (by omega)) ?_;refine dB [55] 1 y6 0 (.int .i64 (eT:Int)) bG (gA y6 rfl) ?_;have NY:(List.range rows)[j]? =some j:=tU hlt;obtain⟨R2,hRr⟩:∃R2,lA (fun i':Nat=>gg t 64 k ((xS x i' j).then V)) (List.range eT)=R2:=⟨_,rfl⟩;refine ER [] [6,58] (fun a:Mm=>[(6,.int .i64 0),(58,.int .i64 a.z)]) (fun _=>[]) (fun a=>FO fb ⟨ca,cl,cc⟩ bn cn dn most (a_ a.s)++a.O) (fun a=>[(bn,bJ dO (bZ (cr t))),(dn,dm),(cn,bJ de (bZ a.cm))])
   (fun a=>[OF bx (Lb,V),QF qn qa qm qb (50,j9 x),d_ y6 [.int .i64 (eT:Int)],d_ Ae [.int .i64 (rows:Int)],d_ b16 [a_ u],zb u (bH x),lC ⟨ca,cl,cc⟩ t,sK oB (a_ a.s) ((es++E1)++a.E)])
   (fun a=>a.z=a.j∧a.j≤eT∧vR t most a.cm∧cH 3 a.O (a_ a.s) ((es++E1)++a.E).length (((es++E1)++a.E).flatMap oB.cells)∧E1.length+a.E.length≤(j*eT+a.j)*C∧BL (fun i':Nat=>gg t 64 k ((xS x i' j).then V)) (List.range eT) R2 a.j a.E)
   (fun a=>eT-a.j) ⟨0,0,MW,s1,O1,[]⟩ ⟨rfl,aJ _,DL,by rw[ah];exact Av,by simpa using hE1,by rw[←hRr];exact qW _ _⟩ (eC eK (eC eK (eC eK (eC eK (eC eK (eC eK (eC eK (eC (by rw[ah];exact eK) eE)))))))) ?_
  rintro⟨q,y,Rx,s2,O2,E2⟩ K2 ⟨hy,hq,H2,Jw,hE2,hl2⟩ iu;simp only at hy hq H2 Jw hE2 hl2;by_cases Jy:q<eT
  ·have QN:(List.range eT)[q]? =some q:=tU Jy;obtain⟨ew,hwo,hew⟩:=hown (a:=y) (b:=z) (by omega) (by omega);have N5:=hwo.then QP;have hox:=WB x;have hth:=ZZ y z;rw[hth]at N5;obtain⟨st1,st2⟩:=K5 hlt Jy hE2;have ade:=Kx (⟨ri x,gD x,j9 x,pt Dp.x (bH x) eT rows y z,0,pt Dp.y (bH x) eT rows y z,0⟩:On) V;refine bk [] 59 (decide (y<(eT:Int))) (ar (by omega)) ?_;refine aq [59] (WV b16 y6 Ae y z eT rows u TZ Le (by omega) (by omega) (by omega) (by omega)).mF ?_;rintro _ _ ⟨n2,a2,m2,d2,rfl,rfl⟩;refine aq [] (WW b16 y6 Ae y z eT rows u TZ Le (by omega) (by omega) (by omega) (by omega)).mF ?_;rintro _ _ ⟨n3,a3,m3,d3,rfl,rfl⟩;refine aq [] (Sz (ri x) ⟨qn,qa,qm,qb⟩ (gD x) ⟨n2,a2,m2,d2⟩ ⟨n3,a3,m3,d3⟩ (X:=j9 x) (Y:=pt Dp.x (bH x) eT rows y z) (Z:=pt Dp.y (bH x) eT rows y z) hox acX).mF ?_;rintro _ _ ⟨rfl,rfl⟩;refine aq [] (Pg ⟨ri x,gD x,j9 x,pt Dp.x (bH x) eT rows y z,0,pt Dp.y (bH x) eT rows y z,0⟩ V ⟨⟨qn,qa,qm,qb⟩,⟨n2,a2,m2,d2⟩,bV,⟨n3,a3,m3,d3⟩,bV⟩ bx N5.bO hox ho).mF ?_;rintro _ _ ⟨bq',rfl,rfl⟩;refine cX [] [] (FO fb ⟨ca,cl,cc⟩ bn cn dn most (a_ s2)++O2) [] [] [(bn,bJ dO (bZ (cr t))),(dn,dm),(cn,bJ de (bZ Rx))] [] ⟨rfl,by rfl,trivial⟩ (eo:=(by simp only[ah];kernel_rfl)) (ih _ (k:Int) k d' rfl Yc hkd _ bq' _ _ ade (by omega) N5 (by omega) Rx H2 s2 O2 ((es++E1)++E2) Jw (by rw[hC];simp only[aA];omega)) ?_
   rintro _ _ _ _ ⟨X8,RJ,rfl,s3,O3,jQ,vF,rfl,rfl,CB,rfl⟩;rw[ah (FO fb ⟨ca,cl,cc⟩ bn cn dn most (a_ s3)++O3)];rw[←hth]at vF⊢;cases hlr:gg t 64 k ((xS x y z).then V)with
   |error er=>
    have V6:gg t 64 k ((xS x (q:Int) (j:Int)).then V)=.error er:=by rw[←hy,←hz];exact hlr
    have Hf:=nU _ _ _ _ hlr;have yA:R=.error er:=hl1.err NY (by rw[hRr];exact hl2.err QN V6);refine bk [] 83 (er != 0) (by rcases Hf with rfl|rfl<;>rfl) ?_;refine jO [83] (.int .i64 er) (FO fb ⟨ca,cl,cc⟩ bn cn dn most (a_ s3)++O3) [(bn,bJ dO (bZ (cr t))),(dn,dm),(cn,bJ de (bZ X8))] ⟨X8,RJ,rfl,s3,O3,E1++E2++jQ,fun q h=>by rw[yA]at h;simp at h,by rw[yA];rfl,rfl,?_,rfl⟩ (eC (by rw[show es++(E1++E2++jQ)=((es++E1)++E2)++jQ by simp];exact eK) eE);rw[show es++(E1++E2++jQ)=((es++E1)++E2)++jQ by simp];exact CB
   |ok sr=>
    have V6:gg t 64 k ((xS x (q:Int) (j:Int)).then V)=.ok sr:=by rw[←hy,←hz];exact hlr
    have hsl:=hD.lay_len _ _ _ _ hlr;have he3:jQ.length=sr.length:=by rw[←vF sr hlr,bT]
    refine aR [] 83 ((0:Int) != 0) (by decide) ?_;refine iu [83] _ _ ⟨q+1,IntKind.i64.wrap (y+1),X8,s3,O3,E2++jQ⟩ (by kernel_rfl) (by kernel_rfl) ⟨by simp only[af];omega,Jy,RJ,?_,?_,hl2.step QN V6 (vF sr hlr)⟩ (by simp only;omega) (eC eK (eC eK (eC eK (eC eK (eC eK (eC eK (eC eK (eC (by rw[show(es++E1)++(E2++jQ)=((es++E1)++E2)++jQ by simp];exact eK) eE))))))))
    ·simp only;rw[show(es++E1)++(E2++jQ)=((es++E1)++E2)++jQ by simp];exact CB
    ·simp only[aA];omega
  ·obtain rfl:q=eT:=by omega
   have hR2:R2=.ok (E2.map qt.x):=hl2.fin (by rw[gU];exact aj _);refine aR [] 59 (decide (y<(q:Int))) (ai (by omega)) ?_;refine close [59] _ _ ⟨j+1,IntKind.i64.wrap (z+1),Rx,s2,O2,E1++E2⟩ (by kernel_rfl) (by kernel_rfl) ⟨by simp only[af];omega,hlt,H2,?_,?_,hl1.step NY (by rw[hRr];exact hR2) rfl⟩ (by simp only;omega) (eC eK (eC eK (eC eK (eC eK (eC eK (eC eK (eC eK (eC (by rw[←aT];exact eK) eE))))))))
   ·simp only;rw[←aT];exact Jw
   ·simp only[aA];rw[show(j+1)*q+0=j*q+q by rw[ea];omega];omega
 ·obtain rfl:j=rows:=by omega
  have TR:R=.ok (E1.map qt.x):=hl1.fin (by rw[gU];exact aj _);refine aR [] 55 (decide (z<(j:Int))) (ai (by omega)) ?_;exact jO [55] (.int .i64 0) (FO fb ⟨ca,cl,cc⟩ bn cn dn most (a_ s1)++O1) [(bn,bJ dO (bZ (cr t))),(dn,dm),(cn,bJ de (bZ MW))] ⟨MW,DL,rfl,s1,O1,E1,fun q h=>by rw[TR]at h;injection h,by rw[TR];rfl,rfl,Av,rfl⟩ (eC eK eE)
end
theorem Bk{x:Im}(h:qx x):(bH x).length≤8191:=by
 unfold bH;cases hf:dT x 16 with
 |none=>simp
 |some r=>
  have:=pR (h.2 r (kA hf).1);simp only[xZ,qI];omega
theorem KU{V:On}{l:List (Sn×Sn)}{j:Nat}{p:Sn×Sn}(h:l[j]? =some p):uM V (l.drop j)=match farP V p with
  |some q=>(q::(uM V (l.drop (j+1))).1,(uM V (l.drop (j+1))).2)
  |none=>([],false):=by
 obtain⟨h1,h2⟩:=List.getElem?_eq_some_iff.1 h;rw[bz h1,h2];rfl
structure UQ where
 j:Nat
 z:Int
 s:Sl
 O:List (Nat×List Value)
 l:List jt
def lyU(fb:Nat)(u:Sl):Mm→List (Nat×SV):=fun a=>[(0,.val (fg fb)),(5,.ptr 5 0),(28,.val (a_ u)),(29,.val (.int .i64 u.n)),(6,.val (.int .i64 0)),(30,.val (.int .i64 a.z))]
theorem AZ{T:Tb}{Γ:List aC}{L:Nat}{l:List jt}{X Y:Sw}{q:Sn×Sn} [h:aY (OS gd) (L,l) Γ] [hx:aY (SF X) (L,q.1) Γ] [hy:aY (SF Y) (L,q.2) Γ]:∀(I:fN) (w:World),br T I w→aE Γ I w→(OS gd (L,l++[⟨X,Y,q.1,q.2⟩])).p I w:=fun I w _ hh e he=>by
 rcases List.mem_append.1 he with he|he
 ·exact h.p hh e he
 ·simp only[aH,aI,bU]at he;subst he;exact⟨hx.p hh,hy.p hh⟩
theorem JL{T:Tb}{Γ:List aC}{L:Nat}{l:List jt}{ao:Option Addr} [h:aY (OS gd) (L,l) Γ] [hr:aY (RA ao) (l.flatMap gd.cells) Γ]:∀(I:fN) (w:World),br T I w→aE Γ I w→aE [OL gd ao (L,l)] I w:=fun I w _ hh=>aU ⟨fun e he=>h.p hh e he,hr.p hh⟩
theorem DJ{l:List jt}{e:Nat}(h:∀q∈l.map jt.num,B7 e q):UR (l.map jt.num):=fun q hq=>(h q hq).f
section
variable{Γ:List aC}{L:Nat}
theorem Pe(V:On)(x:Q5)(d:Dp){e:Nat} [aY (OF x) (L,V) Γ](ho:0≤V.o∧V.o≤7)(hw:rV e V)(hx:d.x.natAbs≤2^31)(hy:d.y.natAbs≤2^31)(hL:L≤10000:=by omega):
  aw tb Tryz.prog 86 [Hi V x,.agg #[.int .i64 d.x,.int .i64 d.y]] Γ (vr ((e+190)/32+1) (BM V d).1 (BM V d).2):=by
 have hok:=MK hw hx hy;have e1:(2:Nat)^31=2147483648:=by decide
 rw[e1]at hx hy;have h:=aaz (Γ:=Γ) V x d.x d.y ho (by omega) (by omega) hL;exact h.plT hok.b1 hok.b2
end
section
theorem WQ(fb bn cn dn:Nat)(ca:Option Addr)(cl cc:Nat)(most:Int)(dm:List (Value×Value)){t:List Ce}(hF:S_ t)(hD:zL t)(tg:0≤most∧most≤100000)(hW:yb t≤160)(n:Nat)(ih:Rb fb bn cn dn ca cl cc most dm t n):Rb fb bn cn dn ca cl cc most dm t (n+1):=by
 intro Γ hcs c i d hc hi su V bx Lb e hof ho hLb QP heb cm hcm s0 O es hos hg RM;obtain⟨x,hx⟩:∃x,t[i]? =some x:=⟨_,ak hi⟩;have hxm:=aN hx;have DN:=tr hx;have NB:=hD.cnt64 hi;rw[DN]at NB;have V2:=hD.lay64 hi V;rw[DN]at V2;have adf:SW t d≤160:=aP Qn hW;obtain⟨R,hR⟩:∃R,gg t 64 i V=R:=⟨_,rfl⟩;rw[hR]at V2⊢;rw[NB]at RM;have hlen:x.i.length≤100000:=hF.len x hxm;refine dj.of_W bG Tryz.func48 rfl ?_;refine W.len lF pd.x ⟨ca,cl,cc⟩ rfl (fun h1 h2 h3=>?_);simp only at h1 h2 h3;have hil:i<cl:=by rw[h1];exact hi
 refine uR ⟨ca,cl,cc⟩ hx (fun b off fh fi ha=>?_);simp only at ha;subst ha;refine W.more (Δ:=[qy fi x.i]) rfl (fun I w _ hh=>aU (aY.p (k:=za fh fi) (a:=x) inferInstance hh).2) ?_;obtain⟨ia,im,ic⟩:=fi;refine W.len pX ph.x ⟨ia,im,ic⟩ rfl (fun i1 i2 i3=>?_);simp only at i1 i2 i3;refine bW [] 0 fb 0 bG ?_;refine dK [] (FO fb ⟨some ⟨b,off,none⟩,cl,cc⟩ bn cn dn most (a_ s0)++O) fb (0+0) 1 [.slice (some ⟨b,off,none⟩) cl cc,.map (some bn),.map (some cn),.map (some dn),.int .i64 most,a_ s0] (.slice (some ⟨b,off,none⟩) cl cc) bG (.head _) rfl ?_;refine bY [] 2 b off cl cc .i64 i c hc bG hil ?_;refine bW [] 1 b (off+i*2) bG ?_;refine dB [] 1 b (off+i*2+1) (.slice ia im ic) bG (fun I w hd hh=>cB (T:=Km) b (off+i*2) I w hd hh 1 _ rfl) ?_;refine j7 [] Tryz.f48 0 112 112 [0,5,28,29,6,30] [5] (lyU fb ⟨ia,im,ic⟩) (fun _=>[(5,otc V bx)]) (fun a=>FO fb ⟨some ⟨b,off,none⟩,cl,cc⟩ bn cn dn most (a_ a.s)++a.O) (fun a=>[(bn,bJ dO (bZ (cr t))),(dn,dm),(cn,bJ de (bZ a.cm))])
  (fun a=>[OF bx (Lb,V),qy ⟨ia,im,ic⟩ x.i,lC ⟨some ⟨b,off,none⟩,cl,cc⟩ t,sK oB (a_ a.s) (es++a.E)])
  (fun a=>a.z=a.j∧a.j≤im∧vR t most a.cm∧cH 3 a.O (a_ a.s) (es++a.E).length ((es++a.E).flatMap oB.cells)∧(a.E.length:Int)≤((x.i.take a.j).map (jA t (jT t 64))).sum∧BL (js t 64 (gg t 64) V) x.i R a.j a.E)
  (fun a=>im-a.j) ⟨0,0,cm,s0,O,[]⟩ ⟨rfl,aJ _,hcm,by rw[ah];exact hg,by simp,by rw[V2];exact qW _ _⟩ (eC eK (eC eK (eC eK (eC (by rw[ah];exact eK) eE)))) ?_
 rintro⟨j,z,y7,s1,O1,E1⟩ K ⟨hz,hj,vD,hg1,hE1,hl1⟩ close;simp only at hz hj vD hg1 hE1 hl1;by_cases hlt:j<im
 ·obtain⟨y,hy⟩:∃y,x.i[j]? =some y:=⟨_,ak (by omega)⟩;have Ma:=aN hy;have Wd:=hF.ok x hxm y Ma;have lz:=Wd.im;have We:=hD.right x hxm y Ma;have hyb:=hF.by' x hxm y Ma;have Lg:((x.i.take (j+1)).map (jA t (jT t 64))).sum≤(x.i.map (jA t (jT t 64))).sum:=by
   have e0:(x.i.map (jA t (jT t 64))).sum=((x.i.take (j+1)).map (jA t (jT t 64))).sum+((x.i.drop (j+1)).map (jA t (jT t 64))).sum:=by
    rw[←n_,←aX,jM]
   have e1:0≤((x.i.drop (j+1)).map (jA t (jT t 64))).sum:=Bw fun q hq=>by
    obtain⟨y',hy',rfl⟩:=List.mem_map.1 hq;exact ze (hD.cnt_nn 64) (hD.right x hxm y' (so hy'))
   omega
  have adb:((x.i.take (j+1)).map (jA t (jT t 64))).sum=((x.i.take j).map (jA t (jT t 64))).sum+jA t (jT t 64) y:=by
   rw[fr hy,aX,n_];simp
  have hcy:=ze (t:=t) (hD.cnt_nn 64) We;have hfit:((es++E1).length:Int)+jA t (jT t 64) y≤100000:=by rw[aA];omega
  have next:∀(jQ:List qt) (sr:List Sh),js t 64 (gg t 64) V y=.ok sr→jQ.map qt.x=sr→((E1++jQ).length:Int)≤((x.i.take (j+1)).map (jA t (jT t 64))).sum∧BL (js t 64 (gg t 64) V) x.i R (j+1) (E1++jQ):=fun jQ sr h1 h2=>by
   have h3:=hD.item_len (hD.lay_len 64) We h1;have h4:jQ.length=sr.length:=by rw[←h2,bT]
   refine⟨?_,hl1.step hy h1 h2⟩;rw[adb,aA];omega
  refine vV ⟨ia,im,ic⟩ hy (fun b2 oU yf yp ha=>?_);simp only at ha;subst ha;refine bk [] 31 (decide (z<(im:Int))) (ar (by omega)) ?_;refine bY [31] 2 b2 oU im ic .i64 j z hz bG hlt ?_;refine cY [] b2 (oU+j*2) [a_ yf,a_ yp] bG (cB b2 (oU+j*2)) ?_;obtain⟨LI,hLI⟩:∃LI,js t 64 (gg t 64) V y=LI:=⟨_,rfl⟩;rcases Wd.kind with hk|hk|hk|hk|hk|hk|hk
  ·have pk:∀(Γ':List aC) [aY (mK yf yp) y Γ'],aw tb Tryz.prog 81 [lO yf yp] Γ' (jf (.int .u8 8)):=fun Γ' _=>by rw[←hk];exact gy yf yp lz
   refine aq [] (pk _).mF ?_;rintro _ _ ⟨rfl,rfl⟩;have h4:=xa We (.inl hk);have hpl:=Bk lz;have hI:js t 64 (gg t 64) V y=iJ y ((bH y).dropLast.map (BM V)):=by unfold js;rw[if_pos (.inl hk)]
   refine aq [36] (om yf yp (x:=y) lz).mF ?_;rintro _ _ ⟨u,⟨u1,u2,u3⟩,rfl,rfl⟩;obtain⟨pb,po,hao⟩:=u3 (by intro e';rw[e']at h4;simp at h4);obtain⟨ua,un,uc⟩:=u;simp only at u1 u2 hao;subst hao;have hdl:(bH y).dropLast.length=un-1:=by rw[List.length_dropLast,u1]
   refine Cc [] 2 pb po un uc none (some (.int .i64 (IntKind.i64.wrap ((un:Int)-1)))) 0 (un-1) bG (.inr ⟨rfl,rfl⟩) (.inl (by rw[af];congr;omega)) (aJ _) (by omega) (by omega) ?_;refine gO [] [9,47] (fun a:UQ=>[(9,a_ a.s),(47,.int .i64 a.z)]) (fun _=>[]) (fun a=>(FO fb ⟨some ⟨b,off,none⟩,cl,cc⟩ bn cn dn most (a_ s1)++O1)++a.O)
    (fun a=>[OF bx (Lb,V),qy ⟨some ⟨b2,oU,none⟩,im,ic⟩ x.i,mK yf yp y,lC ⟨some ⟨b,off,none⟩,cl,cc⟩ t,sK oB (a_ s1) (es++E1),zb ⟨some ⟨pb,po,none⟩,un,uc⟩ (bH y),OS gd ((e+190)/32+1,a.l)])
    (fun a=>a.z=a.j∧a.j≤un-1∧a.l.length=a.j∧cH 40 a.O (a_ a.s) a.l.length (a.l.flatMap gd.cells)∧a.l.map jt.num=((bH y).dropLast.take a.j).map (BM V)∧∀q∈a.l.map jt.num,B7 e q)
    (fun a=>un-1-a.j) ⟨0,0,⟨none,0,0⟩,[],[]⟩ (h0:=(by simp only[ah];kernel_rfl)) ⟨rfl,aJ _,rfl,cH.nil 40,rfl,fun q hq=>by simp at hq⟩ (eC eK (eC eK (eC eK (eC eK (eC eK (eC eK (eC (fun I w hd hh e he=>by simp at he) eE))))))) ?_
   rintro⟨q,y2,s2,O2,l⟩ K2 ⟨N8,hq,hll,hg2,DQ,hok⟩ iu;simp only at N8 hq hll hg2 DQ hok;by_cases Jy:q<un-1
   ·obtain⟨p,hp⟩:∃p,(bH y)[q]? =some p:=⟨_,ak (by omega)⟩;have hdp:(bH y).dropLast[q]? =some p:=by rw[List.getElem?_dropLast,if_pos (by omega)];exact hp
    have hpi:=uz hyb p (aN hp);have ex:p.x.natAbs≤2^31:=by show p.x.natAbs≤2147483648;omega
    have ey:p.y.natAbs≤2^31:=by show p.y.natAbs≤2147483648;omega
    refine bk [] 48 (decide (y2<((un-1-0:Nat):Int))) (ar (by omega)) ?_;refine bY [48] 2 pb (po+0*2) (un-1-0) (uc-0) .i64 q y2 N8 bG (by omega) ?_;refine cY [] pb (po+0*2+q*2) (dY p) bG (fun I w hd hh k v hv=>by
     rw[mU,e8];exact nL pb po un uc hp I w hd hh k v hv) ?_
    refine aq [] (Pe V bx p ho QP ex ey).mF ?_;rintro _ _ ⟨X,Y,rfl,rfl⟩;refine cQ [] 1 (gd.cells ⟨X,Y,(BM V p).1,(BM V p).2⟩) bG (fun b8=>?_);refine W.app [] ((FO fb ⟨some ⟨b,off,none⟩,cl,cc⟩ bn cn dn most (a_ s1)++O1)++O2) (FO fb ⟨some ⟨b,off,none⟩,cl,cc⟩ bn cn dn most (a_ s1)++O1) O2 [] 40 640 l.length 1 (a_ s2) (.slice (some ⟨b8,0,none⟩) 1 1) (l.flatMap gd.cells) (gd.cells ⟨X,Y,(BM V p).1,(BM V p).2⟩) bG (by simp) hg2 (b_ b8 _ 1 40 rfl 1) (o0 _) (by omega) (by decide) (fun v' O' hg'=>?_);obtain⟨s',rfl⟩:=iC hg';rw[ah ((FO fb ⟨some ⟨b,off,none⟩,cl,cc⟩ bn cn dn most (a_ s1)++O1)++O')];refine iu [] _ _ ⟨q+1,IntKind.i64.wrap (y2+1),s',O',l++[⟨X,Y,(BM V p).1,(BM V p).2⟩]⟩ (by kernel_rfl) (by kernel_rfl) ⟨by simp only[af];omega,by simp only;omega,by simp[hll],?_,?_,?_⟩ (by simp only;omega) (eC eK (eC eK (eC eK (eC eK (eC eK (eC eK (eC AZ eE)))))))
    ·simp only[aA,bB,aD,bh,bL,qY,ah];exact hg'
    ·simp only;rw[fr hdp,aX,aX,DQ];rfl
    ·intro w hw;simp only[aX,dU]at hw;rcases hw with hw|hw
     ·exact hok w hw
     ·simp only[cA,dA,aH,aI,bU]at hw;subst hw;exact MK QP ex ey
   ·obtain rfl:q=un-1:=by omega
    have htk:(bH y).dropLast.take (un-1)=(bH y).dropLast:=aS (by omega);rw[htk]at DQ;refine aR [] 48 (decide (y2<((un-1-0:Nat):Int))) (ai (by omega)) ?_;refine mo (FO fb ⟨some ⟨b,off,none⟩,cl,cc⟩ bn cn dn most (a_ s1)++O1) O2 [] (by rw[ah];kernel_rfl) hg2 (fun g5 g1 g2=>?_);refine p7 (FO fb ⟨some ⟨b,off,none⟩,cl,cc⟩ bn cn dn most (a_ s1)++O1) ?_;obtain⟨sa,sn,sc⟩:=s2;simp only at g5 g1 g2;subst g5;refine W.more (by kernel_rfl) (JL (ao:=sa) (l:=l) (L:=(e+190)/32+1)) ?_;refine cX [48] [] (FO fb ⟨some ⟨b,off,none⟩,cl,cc⟩ bn cn dn most (a_ s1)++O1) [] [(bn,bJ dO (bZ (cr t))),(dn,dm),(cn,bJ de (bZ y7))] [] [] ⟨rfl,by rfl,trivial⟩ (eo:=(by simp only[ah];kernel_rfl)) (Ef fb bn cn dn ⟨some ⟨b,off,none⟩,cl,cc⟩ most s1 yf yp O1 (es++E1) sa sc l (x:=y) (L:=(e+190)/32+1) lz (DJ hok) (by omega) (by omega) (by omega) hg1) ?_;rintro _ _ _ _ ⟨rfl,s3,O3,jQ,vF,rfl,rfl,CB,rfl⟩;rw[ah (FO fb ⟨some ⟨b,off,none⟩,cl,cc⟩ bn cn dn most (a_ s3)++O3)];rw[DQ]at vF⊢;cases hlr:iJ y ((bH y).dropLast.map (BM V))with
    |error er=>
     have vQ:js t 64 (gg t 64) V y=.error er:=by rw[hI,hlr]
     have Hf:er=25∨er=26:=qH (nU 64) vQ;have yA:R=.error er:=hl1.err hy vQ;refine bk [] 109 (er != 0) (by rcases Hf with rfl|rfl<;>rfl) ?_;refine jO [109] (.int .i64 er) (FO fb ⟨some ⟨b,off,none⟩,cl,cc⟩ bn cn dn most (a_ s3)++O3) [(bn,bJ dO (bZ (cr t))),(dn,dm),(cn,bJ de (bZ y7))] ⟨y7,vD,rfl,s3,O3,E1++jQ,fun q h=>by rw[yA]at h;simp at h,by rw[yA];rfl,rfl,?_,rfl⟩ (eC (by rw[show es++(E1++jQ)=(es++E1)++jQ by simp];exact eK) eE);rw[show es++(E1++jQ)=(es++E1)++jQ by simp];exact CB
    |ok sr=>
     have vQ:js t 64 (gg t 64) V y=.ok sr:=by rw[hI,hlr]
     obtain⟨n1,n2⟩:=next jQ sr vQ (vF sr hlr)
     refine aR [] 109 ((0:Int) != 0) (by decide) ?_;refine close [109] _ _ ⟨j+1,IntKind.i64.wrap (z+1),y7,s3,O3,E1++jQ⟩ (by kernel_rfl) (by kernel_rfl) ⟨by simp only[af];omega,hlt,vD,?_,n1,n2⟩ (by simp only;omega) (eC eK (eC eK (eC eK (eC (by rw[show es++(E1++jQ)=(es++E1)++jQ by simp];exact eK) eE))));simp only;rw[show es++(E1++jQ)=(es++E1)++jQ by simp];exact CB
  ·have pk:∀(Γ':List aC) [aY (mK yf yp) y Γ'],aw tb Tryz.prog 81 [lO yf yp] Γ' (jf (.int .u8 9)):=fun Γ' _=>by rw[←hk];exact gy yf yp lz
   refine aq [] (pk _).mF ?_;rintro _ _ ⟨rfl,rfl⟩;obtain⟨hPC,hPl⟩:=Xc (x:=y);have hI:js t 64 (gg t 64) V y=(if(uM V (iS y)).2=true then(if iS y=[]then .ok []else iJ y (uM V (iS y)).1)
      else match jc (uM V (iS y)).1 with
      | .ok _=>.error 25
      | .error e=>.error e):=by unfold js;rw[if_neg (by omega),if_pos hk];rfl
   refine aq [62,36] (IA yf yp (x:=y) lz).mF ?_;rintro _ _ ⟨ao,pc,pl,rfl,NV,hpl,rfl⟩;have ac7:pl.length=(iS y).length:=by rw[←hpl,bT]
   refine gO [] [6,9,71] (fun a:UQ=>[(6,.int .i64 0),(9,a_ a.s),(71,.int .i64 a.z)]) (fun _=>[]) (fun a=>(FO fb ⟨some ⟨b,off,none⟩,cl,cc⟩ bn cn dn most (a_ s1)++O1)++a.O)
    (fun a=>[OF bx (Lb,V),qy ⟨some ⟨b2,oU,none⟩,im,ic⟩ x.i,mK yf yp y,lC ⟨some ⟨b,off,none⟩,cl,cc⟩ t,sK oB (a_ s1) (es++E1),OL gd ao (130,pl),OS gd ((e+190)/32+1,a.l)])
    (fun a=>a.z=a.j∧a.j≤pl.length∧a.l.length=a.j∧cH 40 a.O (a_ a.s) a.l.length (a.l.flatMap gd.cells)∧uM V (iS y)=(a.l.map jt.num++(uM V ((iS y).drop a.j)).1,(uM V ((iS y).drop a.j)).2)∧∀q∈a.l.map jt.num,B7 e q)
    (fun a=>pl.length-a.j) ⟨0,0,⟨none,0,0⟩,[],[]⟩ (h0:=(by simp only[ah];kernel_rfl)) ⟨rfl,aJ _,rfl,cH.nil 40,rfl,fun q hq=>by simp at hq⟩ (eC eK (eC eK (eC eK (eC eK (eC eK (eC eK (eC (fun I w hd hh e he=>by simp at he) eE))))))) ?_
   rintro⟨q,y2,s2,O2,l⟩ K2 ⟨N8,hq,hll,hg2,y8,hok⟩ iu;simp only at N8 hq hll hg2 y8 hok;by_cases Jy:q<pl.length
   ·obtain⟨pe,QM⟩:∃pe,pl[q]? =some pe:=⟨_,ak Jy⟩;have y9:(iS y)[q]? =some (pe.X,pe.Y):=by rw[←hpl];exact DY QM
    have hPq:=hPC _ (aN y9);rw[KU y9]at y8;refine Ri ao QM rfl (fun pb po hao=>?_);subst hao;refine bk [] 72 (decide (y2<(pl.length:Int))) (ar (by omega)) ?_;refine bY [72] 40 pb po pl.length pc .i64 q y2 N8 bG Jy ?_;refine cY [] pb (po+q*40) (gd.cells pe) bG (zB pb po QM) ?_;cases ZB:farP V (pe.X,pe.Y)with
    |none=>
     rw[ZB]at y8;simp only[ah]at y8;refine aq [] (Sx V bx pe.x pe.y (P:=(pe.X,pe.Y)) ho hPq ZB).mF ?_;rintro _ _ ⟨rfl,rfl⟩;refine bk [] 82 ((6:Int) != 0) (by decide) ?_;refine mo (FO fb ⟨some ⟨b,off,none⟩,cl,cc⟩ bn cn dn most (a_ s1)++O1) O2 [] (by rw[ah];kernel_rfl) hg2 (fun g5 g1 g2=>?_);refine p7 (FO fb ⟨some ⟨b,off,none⟩,cl,cc⟩ bn cn dn most (a_ s1)++O1) ?_;obtain⟨sa,sn,sc⟩:=s2;simp only at g5 g1 g2;subst g5;refine W.more (by kernel_rfl) (JL (ao:=sa) (l:=l) (L:=(e+190)/32+1)) ?_;refine aq [82] (Sp fb sa sc l (L:=(e+190)/32+1) (DJ hok) (by omega) (by omega)).mF ?_;rintro _ _ ⟨rfl,rfl⟩;have VL:js t 64 (gg t 64) V y=match jc (l.map jt.num)with
      | .ok _=>.error 25
      | .error e=>.error e:=by rw[hI,y8];rfl
     cases VW:jc (l.map jt.num)with
     |error er=>
      rw[VW]at VL;have Hf:=uj VW;have yA:R=.error er:=hl1.err hy VL;subst Hf;refine bk [] 87 ((26:Int) != 0) (by decide) ?_;exact jO [87] (.int .i64 26) (FO fb ⟨some ⟨b,off,none⟩,cl,cc⟩ bn cn dn most (a_ s1)++O1) [(bn,bJ dO (bZ (cr t))),(dn,dm),(cn,bJ de (bZ y7))] ⟨y7,vD,rfl,s1,O1,E1,fun q h=>by rw[yA]at h;simp at h,by rw[yA];rfl,rfl,hg1,rfl⟩ (eC eK eE)
     |ok gr=>
      rw[VW]at VL;have yA:R=.error 25:=hl1.err hy VL;refine aR [] 87 ((0:Int) != 0) (by decide) ?_;exact jO [87] (.int .i64 25) (FO fb ⟨some ⟨b,off,none⟩,cl,cc⟩ bn cn dn most (a_ s1)++O1) [(bn,bJ dO (bZ (cr t))),(dn,dm),(cn,bJ de (bZ y7))] ⟨y7,vD,rfl,s1,O1,E1,fun q h=>by rw[yA]at h;simp at h,by rw[yA];rfl,rfl,hg1,rfl⟩ (eC eK eE)
    |some fq=>
     rw[ZB]at y8;simp only at y8;refine aq [] (Sy V bx pe.x pe.y (P:=(pe.X,pe.Y)) ho hPq QP ZB).mF ?_;rintro _ _ ⟨X,Y,rfl,rfl⟩;refine aR [] 82 ((0:Int) != 0) (by decide) ?_;refine cQ [82] 1 (gd.cells ⟨X,Y,fq.1,fq.2⟩) bG (fun b8=>?_);refine W.app [] ((FO fb ⟨some ⟨b,off,none⟩,cl,cc⟩ bn cn dn most (a_ s1)++O1)++O2) (FO fb ⟨some ⟨b,off,none⟩,cl,cc⟩ bn cn dn most (a_ s1)++O1) O2 [] 40 640 l.length 1 (a_ s2) (.slice (some ⟨b8,0,none⟩) 1 1) (l.flatMap gd.cells) (gd.cells ⟨X,Y,fq.1,fq.2⟩) bG (by simp) hg2 (b_ b8 _ 1 40 rfl 1) (o0 _) (by omega) (by decide) (fun v' O' hg'=>?_);obtain⟨s',rfl⟩:=iC hg';rw[ah ((FO fb ⟨some ⟨b,off,none⟩,cl,cc⟩ bn cn dn most (a_ s1)++O1)++O')];refine iu [] _ _ ⟨q+1,IntKind.i64.wrap (y2+1),s',O',l++[⟨X,Y,fq.1,fq.2⟩]⟩ (by kernel_rfl) (by kernel_rfl) ⟨by simp only[af];omega,by simp only;omega,by simp[hll],?_,?_,?_⟩ (by simp only;omega) (eC eK (eC eK (eC eK (eC eK (eC eK (eC eK (eC AZ eE)))))))
     ·simp only[aA,bB,aD,bh,bL,qY,ah];exact hg'
     ·simp only;rw[y8,aX,aT];rfl
     ·intro w hw;simp only[aX,dU]at hw;rcases hw with hw|hw
      ·exact hok w hw
      ·simp only[cA,dA,aH,aI,bU]at hw;subst hw;exact Np QP hPq ZB
   ·obtain rfl:q=pl.length:=by omega
    rw[bp (by omega)]at y8;simp only[uM,ah]at y8;refine aR [] 72 (decide (y2<(pl.length:Int))) (ai (by omega)) ?_;by_cases h0:0<pl.length
    ·have hne:iS y≠ []:=fun e'=>by rw[e',bh]at ac7;omega
     have VL:js t 64 (gg t 64) V y=iJ y (l.map jt.num):=by rw[hI,y8,if_pos rfl,if_neg hne]
     refine bk [72] 96 (decide ((pl.length:Int)>0)) (ar (by omega)) ?_;refine mo (FO fb ⟨some ⟨b,off,none⟩,cl,cc⟩ bn cn dn most (a_ s1)++O1) O2 [] (by rw[ah];kernel_rfl) hg2 (fun g5 g1 g2=>?_);refine p7 (FO fb ⟨some ⟨b,off,none⟩,cl,cc⟩ bn cn dn most (a_ s1)++O1) ?_;obtain⟨sa,sn,sc⟩:=s2;simp only at g5 g1 g2;subst g5;refine W.more (by kernel_rfl) (JL (ao:=sa) (l:=l) (L:=(e+190)/32+1)) ?_;refine cX [96] [] (FO fb ⟨some ⟨b,off,none⟩,cl,cc⟩ bn cn dn most (a_ s1)++O1) [] [(bn,bJ dO (bZ (cr t))),(dn,dm),(cn,bJ de (bZ y7))] [] [] ⟨rfl,by rfl,trivial⟩ (eo:=(by simp only[ah];kernel_rfl)) (Ef fb bn cn dn ⟨some ⟨b,off,none⟩,cl,cc⟩ most s1 yf yp O1 (es++E1) sa sc l (x:=y) (L:=(e+190)/32+1) lz (DJ hok) (by omega) (by omega) (by omega) hg1) ?_;rintro _ _ _ _ ⟨rfl,s3,O3,jQ,vF,rfl,rfl,CB,rfl⟩;rw[ah (FO fb ⟨some ⟨b,off,none⟩,cl,cc⟩ bn cn dn most (a_ s3)++O3)];cases hlr:iJ y (l.map jt.num)with
     |error er=>
      have vQ:js t 64 (gg t 64) V y=.error er:=by rw[VL,hlr]
      have Hf:er=25∨er=26:=qH (nU 64) vQ;have yA:R=.error er:=hl1.err hy vQ;refine bk [] 109 (er != 0) (by rcases Hf with rfl|rfl<;>rfl) ?_;refine jO [109] (.int .i64 er) (FO fb ⟨some ⟨b,off,none⟩,cl,cc⟩ bn cn dn most (a_ s3)++O3) [(bn,bJ dO (bZ (cr t))),(dn,dm),(cn,bJ de (bZ y7))] ⟨y7,vD,rfl,s3,O3,E1++jQ,fun q h=>by rw[yA]at h;simp at h,by rw[yA];rfl,rfl,?_,rfl⟩ (eC (by rw[show es++(E1++jQ)=(es++E1)++jQ by simp];exact eK) eE);rw[show es++(E1++jQ)=(es++E1)++jQ by simp];exact CB
     |ok sr=>
      have vQ:js t 64 (gg t 64) V y=.ok sr:=by rw[VL,hlr]
      obtain⟨n1,n2⟩:=next jQ sr vQ (vF sr hlr)
      refine aR [] 109 ((0:Int) != 0) (by decide) ?_;refine close [109] _ _ ⟨j+1,IntKind.i64.wrap (z+1),y7,s3,O3,E1++jQ⟩ (by kernel_rfl) (by kernel_rfl) ⟨by simp only[af];omega,hlt,vD,?_,n1,n2⟩ (by simp only;omega) (eC eK (eC eK (eC eK (eC (by rw[show es++(E1++jQ)=(es++E1)++jQ by simp];exact eK) eE))));simp only;rw[show es++(E1++jQ)=(es++E1)++jQ by simp];exact CB
    ·have hne:iS y=[]:=aM (by omega);have vQ:js t 64 (gg t 64) V y=.ok []:=by rw[hI,y8,if_pos rfl,if_pos hne]
     obtain⟨n1,n2⟩:=next [] [] vQ rfl
     rw[ah]at n1 n2;refine aR [72] 96 (decide ((pl.length:Int)>0)) (ai (by omega)) ?_;refine qZ (FO fb ⟨some ⟨b,off,none⟩,cl,cc⟩ bn cn dn most (a_ s1)++O1) O2 [] (by rw[ah];kernel_rfl) ?_;refine p7 (FO fb ⟨some ⟨b,off,none⟩,cl,cc⟩ bn cn dn most (a_ s1)++O1) ?_;exact close [109,96] _ _ ⟨j+1,IntKind.i64.wrap (z+1),y7,s1,O1,E1⟩ (by kernel_rfl) (by kernel_rfl) ⟨by simp only[af];omega,hlt,vD,hg1,n1,n2⟩ (by simp only;omega) (eC eK (eC eK (eC eK (eC eK eE))))
  ·have pk:∀(Γ':List aC) [aY (mK yf yp) y Γ'],aw tb Tryz.prog 81 [lO yf yp] Γ' (jf (.int .u8 10)):=fun Γ' _=>by rw[←hk];exact gy yf yp lz
   refine aq [] (pk _).mF ?_;rintro _ _ ⟨rfl,rfl⟩;have hI:js t 64 (gg t 64) V y=nA t 64 (gg t 64) y V:=by unfold js;rw[if_neg (by omega),if_neg (by omega),if_pos (.inl hk)]
   refine cX [101,62,36] [] (FO fb ⟨some ⟨b,off,none⟩,cl,cc⟩ bn cn dn most (a_ s1)++O1) [] [] [(bn,bJ dO (bZ (cr t))),(dn,dm),(cn,bJ de (bZ y7))] [] ⟨rfl,by rfl,trivial⟩ (eo:=(by simp only[ah];kernel_rfl)) (JY fb bn cn dn (some ⟨b,off,none⟩) cl cc most dm hF hD tg hW n ih _ yf yp (x:=y) hx Ma (.inl hk) su V bx Lb e ho hLb QP heb y7 vD s1 O1 (es++E1) hg1 hfit) ?_;rintro _ _ _ _ ⟨MW,DL,rfl,s3,O3,jQ,vF,rfl,rfl,CB,rfl⟩;rw[ah (FO fb ⟨some ⟨b,off,none⟩,cl,cc⟩ bn cn dn most (a_ s3)++O3)];cases hlr:nA t 64 (gg t 64) y V with
   |error er=>
    have vQ:js t 64 (gg t 64) V y=.error er:=by rw[hI,hlr]
    have Hf:er=25∨er=26:=qH (nU 64) vQ;have yA:R=.error er:=hl1.err hy vQ;refine bk [] 109 (er != 0) (by rcases Hf with rfl|rfl<;>rfl) ?_;refine jO [109] (.int .i64 er) (FO fb ⟨some ⟨b,off,none⟩,cl,cc⟩ bn cn dn most (a_ s3)++O3) [(bn,bJ dO (bZ (cr t))),(dn,dm),(cn,bJ de (bZ MW))] ⟨MW,DL,rfl,s3,O3,E1++jQ,fun q h=>by rw[yA]at h;simp at h,by rw[yA];rfl,rfl,?_,rfl⟩ (eC (by rw[show es++(E1++jQ)=(es++E1)++jQ by simp];exact eK) eE);rw[show es++(E1++jQ)=(es++E1)++jQ by simp];exact CB
   |ok sr=>
    have vQ:js t 64 (gg t 64) V y=.ok sr:=by rw[hI,hlr]
    obtain⟨n1,n2⟩:=next jQ sr vQ (vF sr hlr)
    refine aR [] 109 ((0:Int) != 0) (by decide) ?_;refine close [109] _ _ ⟨j+1,IntKind.i64.wrap (z+1),MW,s3,O3,E1++jQ⟩ (by kernel_rfl) (by kernel_rfl) ⟨by simp only[af];omega,hlt,DL,?_,n1,n2⟩ (by simp only;omega) (eC eK (eC eK (eC eK (eC (by rw[show es++(E1++jQ)=(es++E1)++jQ by simp];exact eK) eE))));simp only;rw[show es++(E1++jQ)=(es++E1)++jQ by simp];exact CB
  ·have pk:∀(Γ':List aC) [aY (mK yf yp) y Γ'],aw tb Tryz.prog 81 [lO yf yp] Γ' (jf (.int .u8 11)):=fun Γ' _=>by rw[←hk];exact gy yf yp lz
   refine aq [] (pk _).mF ?_;rintro _ _ ⟨rfl,rfl⟩;have hI:js t 64 (gg t 64) V y=nA t 64 (gg t 64) y V:=by unfold js;rw[if_neg (by omega),if_neg (by omega),if_pos (.inr hk)]
   refine cX [101,62,36] [] (FO fb ⟨some ⟨b,off,none⟩,cl,cc⟩ bn cn dn most (a_ s1)++O1) [] [] [(bn,bJ dO (bZ (cr t))),(dn,dm),(cn,bJ de (bZ y7))] [] ⟨rfl,by rfl,trivial⟩ (eo:=(by simp only[ah];kernel_rfl)) (JY fb bn cn dn (some ⟨b,off,none⟩) cl cc most dm hF hD tg hW n ih _ yf yp (x:=y) hx Ma (.inr hk) su V bx Lb e ho hLb QP heb y7 vD s1 O1 (es++E1) hg1 hfit) ?_;rintro _ _ _ _ ⟨MW,DL,rfl,s3,O3,jQ,vF,rfl,rfl,CB,rfl⟩;rw[ah (FO fb ⟨some ⟨b,off,none⟩,cl,cc⟩ bn cn dn most (a_ s3)++O3)];cases hlr:nA t 64 (gg t 64) y V with
   |error er=>
    have vQ:js t 64 (gg t 64) V y=.error er:=by rw[hI,hlr]
    have Hf:er=25∨er=26:=qH (nU 64) vQ;have yA:R=.error er:=hl1.err hy vQ;refine bk [] 109 (er != 0) (by rcases Hf with rfl|rfl<;>rfl) ?_;refine jO [109] (.int .i64 er) (FO fb ⟨some ⟨b,off,none⟩,cl,cc⟩ bn cn dn most (a_ s3)++O3) [(bn,bJ dO (bZ (cr t))),(dn,dm),(cn,bJ de (bZ MW))] ⟨MW,DL,rfl,s3,O3,E1++jQ,fun q h=>by rw[yA]at h;simp at h,by rw[yA];rfl,rfl,?_,rfl⟩ (eC (by rw[show es++(E1++jQ)=(es++E1)++jQ by simp];exact eK) eE);rw[show es++(E1++jQ)=(es++E1)++jQ by simp];exact CB
   |ok sr=>
    have vQ:js t 64 (gg t 64) V y=.ok sr:=by rw[hI,hlr]
    obtain⟨n1,n2⟩:=next jQ sr vQ (vF sr hlr)
    refine aR [] 109 ((0:Int) != 0) (by decide) ?_;refine close [109] _ _ ⟨j+1,IntKind.i64.wrap (z+1),MW,s3,O3,E1++jQ⟩ (by kernel_rfl) (by kernel_rfl) ⟨by simp only[af];omega,hlt,DL,?_,n1,n2⟩ (by simp only;omega) (eC eK (eC eK (eC eK (eC (by rw[show es++(E1++jQ)=(es++E1)++jQ by simp];exact eK) eE))));simp only;rw[show es++(E1++jQ)=(es++E1)++jQ by simp];exact CB
  ·have pk:∀(Γ':List aC) [aY (mK yf yp) y Γ'],aw tb Tryz.prog 81 [lO yf yp] Γ' (jf (.int .u8 12)):=fun Γ' _=>by rw[←hk];exact gy yf yp lz
   refine aq [] (pk _).mF ?_;rintro _ _ ⟨rfl,rfl⟩;have vQ:js t 64 (gg t 64) V y=.ok []:=by unfold js;rw[if_neg (by omega),if_neg (by omega),if_neg (by omega)]
   obtain⟨n1,n2⟩:=next [] [] vQ rfl
   rw[ah]at n1 n2;exact close [109,101,62,36] _ _ ⟨j+1,IntKind.i64.wrap (z+1),y7,s1,O1,E1⟩ (by kernel_rfl) (by kernel_rfl) ⟨by simp only[af];omega,hlt,vD,hg1,n1,n2⟩ (by simp only;omega) (eC eK (eC eK (eC eK (eC eK eE))))
  ·have pk:∀(Γ':List aC) [aY (mK yf yp) y Γ'],aw tb Tryz.prog 81 [lO yf yp] Γ' (jf (.int .u8 21)):=fun Γ' _=>by rw[←hk];exact gy yf yp lz
   refine aq [] (pk _).mF ?_;rintro _ _ ⟨rfl,rfl⟩;have vQ:js t 64 (gg t 64) V y=.ok []:=by unfold js;rw[if_neg (by omega),if_neg (by omega),if_neg (by omega)]
   obtain⟨n1,n2⟩:=next [] [] vQ rfl
   rw[ah]at n1 n2;exact close [109,101,62,36] _ _ ⟨j+1,IntKind.i64.wrap (z+1),y7,s1,O1,E1⟩ (by kernel_rfl) (by kernel_rfl) ⟨by simp only[af];omega,hlt,vD,hg1,n1,n2⟩ (by simp only;omega) (eC eK (eC eK (eC eK (eC eK eE))))
  ·have pk:∀(Γ':List aC) [aY (mK yf yp) y Γ'],aw tb Tryz.prog 81 [lO yf yp] Γ' (jf (.int .u8 45)):=fun Γ' _=>by rw[←hk];exact gy yf yp lz
   refine aq [] (pk _).mF ?_;rintro _ _ ⟨rfl,rfl⟩;have h4:=xa We (.inr hk);have hpl:=Bk lz;have hI:js t 64 (gg t 64) V y=iJ y ((bH y).dropLast.map (BM V)):=by unfold js;rw[if_pos (.inr hk)]
   refine aq [36] (om yf yp (x:=y) lz).mF ?_;rintro _ _ ⟨u,⟨u1,u2,u3⟩,rfl,rfl⟩;obtain⟨pb,po,hao⟩:=u3 (by intro e';rw[e']at h4;simp at h4);obtain⟨ua,un,uc⟩:=u;simp only at u1 u2 hao;subst hao;have hdl:(bH y).dropLast.length=un-1:=by rw[List.length_dropLast,u1]
   refine Cc [] 2 pb po un uc none (some (.int .i64 (IntKind.i64.wrap ((un:Int)-1)))) 0 (un-1) bG (.inr ⟨rfl,rfl⟩) (.inl (by rw[af];congr;omega)) (aJ _) (by omega) (by omega) ?_;refine gO [] [9,47] (fun a:UQ=>[(9,a_ a.s),(47,.int .i64 a.z)]) (fun _=>[]) (fun a=>(FO fb ⟨some ⟨b,off,none⟩,cl,cc⟩ bn cn dn most (a_ s1)++O1)++a.O)
    (fun a=>[OF bx (Lb,V),qy ⟨some ⟨b2,oU,none⟩,im,ic⟩ x.i,mK yf yp y,lC ⟨some ⟨b,off,none⟩,cl,cc⟩ t,sK oB (a_ s1) (es++E1),zb ⟨some ⟨pb,po,none⟩,un,uc⟩ (bH y),OS gd ((e+190)/32+1,a.l)])
    (fun a=>a.z=a.j∧a.j≤un-1∧a.l.length=a.j∧cH 40 a.O (a_ a.s) a.l.length (a.l.flatMap gd.cells)∧a.l.map jt.num=((bH y).dropLast.take a.j).map (BM V)∧∀q∈a.l.map jt.num,B7 e q)
    (fun a=>un-1-a.j) ⟨0,0,⟨none,0,0⟩,[],[]⟩ (h0:=(by simp only[ah];kernel_rfl)) ⟨rfl,aJ _,rfl,cH.nil 40,rfl,fun q hq=>by simp at hq⟩ (eC eK (eC eK (eC eK (eC eK (eC eK (eC eK (eC (fun I w hd hh e he=>by simp at he) eE))))))) ?_
   rintro⟨q,y2,s2,O2,l⟩ K2 ⟨N8,hq,hll,hg2,DQ,hok⟩ iu;simp only at N8 hq hll hg2 DQ hok;by_cases Jy:q<un-1
   ·obtain⟨p,hp⟩:∃p,(bH y)[q]? =some p:=⟨_,ak (by omega)⟩;have hdp:(bH y).dropLast[q]? =some p:=by rw[List.getElem?_dropLast,if_pos (by omega)];exact hp
    have hpi:=uz hyb p (aN hp);have ex:p.x.natAbs≤2^31:=by show p.x.natAbs≤2147483648;omega
    have ey:p.y.natAbs≤2^31:=by show p.y.natAbs≤2147483648;omega
    refine bk [] 48 (decide (y2<((un-1-0:Nat):Int))) (ar (by omega)) ?_;refine bY [48] 2 pb (po+0*2) (un-1-0) (uc-0) .i64 q y2 N8 bG (by omega) ?_;refine cY [] pb (po+0*2+q*2) (dY p) bG (fun I w hd hh k v hv=>by
     rw[mU,e8];exact nL pb po un uc hp I w hd hh k v hv) ?_
    refine aq [] (Pe V bx p ho QP ex ey).mF ?_;rintro _ _ ⟨X,Y,rfl,rfl⟩;refine cQ [] 1 (gd.cells ⟨X,Y,(BM V p).1,(BM V p).2⟩) bG (fun b8=>?_);refine W.app [] ((FO fb ⟨some ⟨b,off,none⟩,cl,cc⟩ bn cn dn most (a_ s1)++O1)++O2) (FO fb ⟨some ⟨b,off,none⟩,cl,cc⟩ bn cn dn most (a_ s1)++O1) O2 [] 40 640 l.length 1 (a_ s2) (.slice (some ⟨b8,0,none⟩) 1 1) (l.flatMap gd.cells) (gd.cells ⟨X,Y,(BM V p).1,(BM V p).2⟩) bG (by simp) hg2 (b_ b8 _ 1 40 rfl 1) (o0 _) (by omega) (by decide) (fun v' O' hg'=>?_);obtain⟨s',rfl⟩:=iC hg';rw[ah ((FO fb ⟨some ⟨b,off,none⟩,cl,cc⟩ bn cn dn most (a_ s1)++O1)++O')];refine iu [] _ _ ⟨q+1,IntKind.i64.wrap (y2+1),s',O',l++[⟨X,Y,(BM V p).1,(BM V p).2⟩]⟩ (by kernel_rfl) (by kernel_rfl) ⟨by simp only[af];omega,by simp only;omega,by simp[hll],?_,?_,?_⟩ (by simp only;omega) (eC eK (eC eK (eC eK (eC eK (eC eK (eC eK (eC AZ eE)))))))
    ·simp only[aA,bB,aD,bh,bL,qY,ah];exact hg'
    ·simp only;rw[fr hdp,aX,aX,DQ];rfl
    ·intro w hw;simp only[aX,dU]at hw;rcases hw with hw|hw
     ·exact hok w hw
     ·simp only[cA,dA,aH,aI,bU]at hw;subst hw;exact MK QP ex ey
   ·obtain rfl:q=un-1:=by omega
    have htk:(bH y).dropLast.take (un-1)=(bH y).dropLast:=aS (by omega);rw[htk]at DQ;refine aR [] 48 (decide (y2<((un-1-0:Nat):Int))) (ai (by omega)) ?_;refine mo (FO fb ⟨some ⟨b,off,none⟩,cl,cc⟩ bn cn dn most (a_ s1)++O1) O2 [] (by rw[ah];kernel_rfl) hg2 (fun g5 g1 g2=>?_);refine p7 (FO fb ⟨some ⟨b,off,none⟩,cl,cc⟩ bn cn dn most (a_ s1)++O1) ?_;obtain⟨sa,sn,sc⟩:=s2;simp only at g5 g1 g2;subst g5;refine W.more (by kernel_rfl) (JL (ao:=sa) (l:=l) (L:=(e+190)/32+1)) ?_;refine cX [48] [] (FO fb ⟨some ⟨b,off,none⟩,cl,cc⟩ bn cn dn most (a_ s1)++O1) [] [(bn,bJ dO (bZ (cr t))),(dn,dm),(cn,bJ de (bZ y7))] [] [] ⟨rfl,by rfl,trivial⟩ (eo:=(by simp only[ah];kernel_rfl)) (Ef fb bn cn dn ⟨some ⟨b,off,none⟩,cl,cc⟩ most s1 yf yp O1 (es++E1) sa sc l (x:=y) (L:=(e+190)/32+1) lz (DJ hok) (by omega) (by omega) (by omega) hg1) ?_;rintro _ _ _ _ ⟨rfl,s3,O3,jQ,vF,rfl,rfl,CB,rfl⟩;rw[ah (FO fb ⟨some ⟨b,off,none⟩,cl,cc⟩ bn cn dn most (a_ s3)++O3)];rw[DQ]at vF⊢;cases hlr:iJ y ((bH y).dropLast.map (BM V))with
    |error er=>
     have vQ:js t 64 (gg t 64) V y=.error er:=by rw[hI,hlr]
     have Hf:er=25∨er=26:=qH (nU 64) vQ;have yA:R=.error er:=hl1.err hy vQ;refine bk [] 109 (er != 0) (by rcases Hf with rfl|rfl<;>rfl) ?_;refine jO [109] (.int .i64 er) (FO fb ⟨some ⟨b,off,none⟩,cl,cc⟩ bn cn dn most (a_ s3)++O3) [(bn,bJ dO (bZ (cr t))),(dn,dm),(cn,bJ de (bZ y7))] ⟨y7,vD,rfl,s3,O3,E1++jQ,fun q h=>by rw[yA]at h;simp at h,by rw[yA];rfl,rfl,?_,rfl⟩ (eC (by rw[show es++(E1++jQ)=(es++E1)++jQ by simp];exact eK) eE);rw[show es++(E1++jQ)=(es++E1)++jQ by simp];exact CB
    |ok sr=>
     have vQ:js t 64 (gg t 64) V y=.ok sr:=by rw[hI,hlr]
     obtain⟨n1,n2⟩:=next jQ sr vQ (vF sr hlr)
     refine aR [] 109 ((0:Int) != 0) (by decide) ?_;refine close [109] _ _ ⟨j+1,IntKind.i64.wrap (z+1),y7,s3,O3,E1++jQ⟩ (by kernel_rfl) (by kernel_rfl) ⟨by simp only[af];omega,hlt,vD,?_,n1,n2⟩ (by simp only;omega) (eC eK (eC eK (eC eK (eC (by rw[show es++(E1++jQ)=(es++E1)++jQ by simp];exact eK) eE))));simp only;rw[show es++(E1++jQ)=(es++E1)++jQ by simp];exact CB
 ·have TR:R=.ok (E1.map qt.x):=hl1.fin (by omega);refine aR [] 31 (decide (z<(im:Int))) (ai (by omega)) ?_;exact jO [31] (.int .i64 0) (FO fb ⟨some ⟨b,off,none⟩,cl,cc⟩ bn cn dn most (a_ s1)++O1) [(bn,bJ dO (bZ (cr t))),(dn,dm),(cn,bJ de (bZ y7))] ⟨y7,vD,rfl,s1,O1,E1,fun q h=>by rw[TR]at h;injection h,by rw[TR];rfl,rfl,hg1,rfl⟩ (eC eK eE)
theorem Up(fb bn cn dn:Nat)(ca:Option Addr)(cl cc:Nat)(most:Int)(dm:List (Value×Value)){t:List Ce}(hF:S_ t)(hD:zL t)(tg:0≤most∧most≤100000)(hW:yb t≤160):∀n,Rb fb bn cn dn ca cl cc most dm t n
 |0=>fun Γ _ c i d hc hi su=>by simp[dep]at su
 |n+1=>WQ fb bn cn dn ca cl cc most dm hF hD tg hW n (Up fb bn cn dn ca cl cc most dm hF hD tg hW n)
end
end Go.Proofs.YtgaaopjagcaojaaGreat
