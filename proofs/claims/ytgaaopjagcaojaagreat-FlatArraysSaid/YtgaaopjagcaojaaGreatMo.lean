import Derived.Test.YtgaaopjagcaojaaGreatVk
import Derived.Test.YtgaaopjagcaojaaGreatMj
set_option linter.unusedSimpArgs false
set_option linter.unusedVariables false
set_option maxHeartbeats 8000000
namespace Go.Proofs.YtgaaopjagcaojaaGreat
open Go.RowKit
def VS.setMaps(s:VS)(M:List (Nat×List (Value×Value))):VS:=⟨s.tmps,s.boxes,s.own,M⟩
section
variable{T:Tb}{P:Program}{fin:VS→List aE→Prop}{c:fJ}{Γ:List aE}
theorem Fg(D:List Nat){α:Type}(N:List Nat)(V:α→List (Nat×Value))(X:α→List (Nat×List Value))(O:α→List (Nat×List Value))(Q:α→List (Nat×List (Value×Value)))(G:α→List aE)(inv:α→Prop)(μ:α→Nat)(a0:α)
  
  
  (i0:inv a0)(f0:∀I w,bB T I w→aG Γ I w→aG (G a0) I w)
  (hr:∀(a:α) (R:VS→List aE→Prop),inv a→
   (∀(D':List Nat) (c':fJ) (Γ':List aE) (a':α),qB (aJ T (a_ T D' 999 c'))=some R→
    (qC (aJ T (a_ T D' 999 c'))).map (jw (aJ T (a_ T D 999 c)) N)=some (((((jw (aJ T (a_ T D 999 c)) N (nu (aJ T (a_ T D 999 c)))).puts (V a')).boxs (X a')).setOwn (O a')).setMaps (Q a'))→
    inv a'→μ a'<μ a→(∀I w,bB T I w→aG Γ' I w→aG (G a') I w)→W T P fin c' Γ')→
   W T P fin ⟨((((jw (aJ T (a_ T D 999 c)) N (nu (aJ T (a_ T D 999 c)))).puts (V a)).boxs (X a)).setOwn (O a)).setMaps (Q a),.code (vW (aJ T (a_ T D 999 c)))::.again R::Gs (aJ T (a_ T D 999 c))⟩ (G a))(h:qI (aJ T (a_ T D 999 c))=true:=by kernel_rfl)(h0:jw (aJ T (a_ T D 999 c)) N (nu (aJ T (a_ T D 999 c)))=((((jw (aJ T (a_ T D 999 c)) N (nu (aJ T (a_ T D 999 c)))).puts (V a0)).boxs (X a0)).setOwn (O a0)).setMaps (Q a0):=by kernel_rfl):W T P fin c Γ:=by
 refine eF D 999 ?_;generalize a_ T D 999 c=c1 at*;generalize he:aJ T c1=e at*;cases e with
 |loop b c'=>
  generalize hst:jw (Ev.loop b c') N (nu (Ev.loop b c'))=S at*;have key:∀(m:Nat) (s:VS) (Γ':List aE),(∃a,jw (Ev.loop b c') N s=(((S.puts (V a)).boxs (X a)).setOwn (O a)).setMaps (Q a)∧inv a∧μ a=m∧∀I w,bB T I w→aG Γ' I w→aG (G a) I w)→
    W T P fin ⟨s,.code b::.again (fun s' Γ'=>∃m',m'<m∧∃a,jw (Ev.loop b c') N s'=(((S.puts (V a)).boxs (X a)).setOwn (O a)).setMaps (Q a)∧inv a∧μ a=m'∧∀I w,bB T I w→aG Γ' I w→aG (G a) I w)::c'.k⟩ Γ':=by
   rintro m s Γ' ⟨a,hs,hi,rfl,hf⟩;refine W.forget (jU N (km b)) (jq b) rfl ?_;rw[show s.forget (jU N (km b)) (jq b)=(((S.puts (V a)).boxs (X a)).setOwn (O a)).setMaps (Q a)from hs];refine W.sub rfl hf ?_;refine hr a _ hi (fun D' c' Γ' a' hR hS hi' hl' hf'=>?_);refine eF D' 999 ?_;generalize a_ T D' 999 c'=c2 at*;cases hv:aJ T c2<;>rw[hv]at hR hS<;>simp[qB,qC]at hR hS;subst hR;exact W.again hv ⟨μ a',hl',a',hS,hi',rfl,hf'⟩
  refine W.loop (fun m s Γ'=>∃a,jw (Ev.loop b c') N s=(((S.puts (V a)).boxs (X a)).setOwn (O a)).setMaps (Q a)∧inv a∧μ a=m∧∀I w,bB T I w→aG Γ' I w→aG (G a) I w) (μ a0) he ⟨a0,?_,i0,rfl,f0⟩ key;rw[←h0];exact hst
 |_=>simp[qI]at h
end
open Go.RowKit Go.IntWalk
theorem Dr{α:Type}{f:α→LR}{l:List α}{j:Nat}{a:α}(h:l[j]? =some a):iC f (l.drop j)=match f a with
  | .error e=>.error e
  | .ok s=>match iC f (l.drop (j+1))with
   | .error e=>.error e
   | .ok s'=>.ok (s++s'):=by
 obtain⟨h1,h2⟩:=List.getElem?_eq_some_iff.1 h;rw[bI h1,h2];rfl
def B_{α:Type}(f:α→LR)(l:List α)(R:LR)(j:Nat)(E:List qO):Prop:=R=match iC f (l.drop j)with
  | .error e=>.error e
  | .ok s=>.ok (E.map qO.x++s)
theorem rE{α:Type}(f:α→LR)(l:List α):B_ f l (iC f l) 0 []:=by
 unfold B_;rw[iq];cases iC f l<;>rfl
theorem B_.step{α:Type}{f:α→LR}{l:List α}{R:LR}{j:Nat}{E es:List qO}{a:α}{s:List Sh}(h:B_ f l R j E)(ha:l[j]? =some a)(hf:f a=.ok s)(he:es.map qO.x=s):B_ f l R (j+1) (E++es):=by
 unfold B_ at h⊢;rw[h,Dr ha,hf];cases iC f (l.drop (j+1))with
 |error e=>rfl
 |ok s'=>simp only[aW,he,aT]
theorem B_.err{α:Type}{f:α→LR}{l:List α}{R:LR}{j:Nat}{E:List qO}{a:α}{e:Int}(h:B_ f l R j E)(ha:l[j]? =some a)(hf:f a=.error e):R=.error e:=by
 unfold B_ at h;rw[h,Dr ha,hf]
theorem B_.fin{α:Type}{f:α→LR}{l:List α}{R:LR}{j:Nat}{E:List qO}(h:B_ f l R j E)(hj:l.length≤j):R=.ok (E.map qO.x):=by
 unfold B_ at h;rw[h,bk hj];simp[iC]
theorem xF{α:Type}{f:α→LR}{w:α→Int}:∀{l:List α} {s:List Sh},(∀a∈l,∀s,f a=.ok s→(s.length:Int)≤w a)→iC f l=.ok s→(s.length:Int)≤(l.map w).sum
 | [],s,_,h=>by
  simp only[iC,oD]at h;subst h;simp
 |a::l,s,hw,h=>by
  unfold iC at h;cases hf:f a with
  |error e=>rw[hf]at h;simp at h
  |ok s1=>
   rw[hf]at h;cases hs:iC f l with
   |error e=>rw[hs]at h;simp at h
   |ok s2=>
    rw[hs]at h;simp only[oD]at h;subst h;have h1:=hw a (by simp) s1 hf;have h2:=xF (fun b hb=>hw b (by simp[hb])) hs;simp only[az,cj,fS];omega
theorem oP{α:Type}(w:Int):∀l:List α,(l.map fun _=>w).sum=(l.length:Int)*w
 | []=>by simp
 |a::l=>by
  simp only[cj,fS,aF,oP w l];rw[Int.natCast_add,Int.add_mul];omega
theorem uW{x:Im}{l:List (Sn×Sn)}{s:List Sh}(h:h_ x l=.ok s):s.length=1:=by
 unfold h_ at h;split at h
 ·injection h with h;subst h;rfl
 ·simp at h
theorem zy.item_len{t:List Ce}(hD:zy t){n:Nat}{g:Nat→On→LR}(hg:∀c V s,g c V=.ok s→(s.length:Int)≤jY t n c){x:Im}(hr:gQ x=true){V:On}{s:List Sh}(h:jH t n g V x=.ok s):(s.length:Int)≤jF t (jY t n) x:=by
 unfold jH at h;unfold jF;by_cases h8:cC x=8∨cC x=45
 ·rw[if_pos h8]at h⊢;rw[uW h];omega
 ·rw[if_neg h8]at h⊢;by_cases h9:cC x=9
  ·rw[if_pos h9]at h⊢;split at h
   ·split at h
    ·rename_i hp;injection h with h;subst h;simp[hp]
    ·rename_i hp;rw[if_neg hp,uW h];omega
   ·split at h<;>simp at h
  ·rw[if_neg h9]at h⊢;by_cases hk:cC x=10∨cC x=11
   ·rw[if_pos hk]at h⊢;obtain⟨_,h1,h2,_⟩:=oK hr hk;unfold nR at h;cases hkn:qJ t x with
    |none=>
     rw[hkn]at h;injection h with h;subst h;simp
    |some c=>
     rw[hkn]at h;simp only at h⊢;split at h
     ·rename_i h0;injection h with h;subst h;rw[h0];simp
     ·have key:=xF (w:=fun _:Nat=>((aZ x).1.toNat:Int)*jY t n c) (fun a _ s' hs'=>by
       have:=xF (w:=fun _:Nat=>jY t n c) (fun b _ s'' hs''=>hg _ _ _ hs'') hs';rw[oP,dX]at this;exact this) h
      rw[oP,dX]at key;rw[nG (qp h1),nG (qp h2)]at key;have e:(aZ x).2*((aZ x).1*jY t n c)=jY t n c*(aZ x).1*(aZ x).2:=by
       rw[ik (aZ x).1,ik (aZ x).2]
      omega
   ·rw[if_neg hk]at h⊢;injection h with h;subst h;simp
theorem zy.lay_len{t:List Ce}(hD:zy t):∀(n c:Nat) (V:On) (s:List Sh),gB t n c V=.ok s→(s.length:Int)≤jY t n c
 |0,c,V,s,h=>by
  simp only[gB,oD]at h;subst h;simp[jY]
 |n+1,c,V,s,h=>by
  unfold gB at h;unfold jY;refine xF (fun x hx s' hs'=>?_) h;obtain⟨c',hc',hx'⟩:=x_ hx;exact hD.item_len (hD.lay_len n) (hD.right c' hc' x hx') hs'
theorem uu{α:Type}{f:α→LR}{A:Int→Prop}:∀{l:List α} {e:Int},(∀a∈l,∀e,f a=.error e→A e)→iC f l=.error e→A e
 | [],e,_,h=>by simp[iC]at h
 |a::l,e,hw,h=>by
  unfold iC at h;cases hf:f a with
  |error e'=>
   rw[hf]at h;injection h with h;subst h;exact hw a (by simp) e' hf
  |ok s1=>
   rw[hf]at h;cases hs:iC f l with
   |error e'=>
    rw[hs]at h;injection h with h;subst h;exact uu (fun b hb=>hw b (by simp[hb])) hs
   |ok s2=>rw[hs]at h;simp at h
theorem uM:∀{l:List (Sn×Sn)} {e:Int},iY l=.error e→e=26
 | [],e,h=>by simp[iY]at h
 |p::r,e,h=>by
  unfold iY at h;split at h
  ·cases hg:iY r with
   |ok l=>rw[hg]at h;simp at h
   |error e'=>
    rw[hg]at h;injection h with h;subst h;exact uM hg
  ·injection h with h;exact h.symm
theorem Ds{x:Im}{l:List (Sn×Sn)}{e:Int}(h:h_ x l=.error e):e=26:=by
 unfold h_ at h;cases hg:iY l with
 |ok p=>rw[hg]at h;simp at h
 |error e'=>
  rw[hg]at h;injection h with h;subst h;exact uM hg
theorem q9{t:List Ce}{n:Nat}{g:Nat→On→LR}(hg:∀c V e,g c V=.error e→e=25∨e=26){x:Im}{V:On}{e:Int}(h:jH t n g V x=.error e):e=25∨e=26:=by
 unfold jH at h;split at h
 ·exact .inr (Ds h)
 ·split at h
  ·split at h
   ·split at h
    ·simp at h
    ·exact .inr (Ds h)
   ·cases hq:iY (ve V (jg x)).1 with
    |ok p=>
     rw[hq]at h;injection h with h;exact .inl h.symm
    |error e'=>
     rw[hq]at h;injection h with h;subst h;exact .inr (uM hq)
  ·split at h
   ·unfold nR at h;split at h
    ·simp at h
    ·split at h
     ·simp at h
     ·exact uu (A:=fun e=>e=25∨e=26) (fun a _ e' he=>uu (A:=fun e=>e=25∨e=26) (fun b _ e'' he'=>hg _ _ _ he') he) h
   ·simp at h
theorem oy{t:List Ce}:∀(n c:Nat) (V:On) (e:Int),gB t n c V=.error e→e=25∨e=26
 |0,c,V,e,h=>by simp[gB]at h
 |n+1,c,V,e,h=>by
  unfold gB at h;exact uu (A:=fun e=>e=25∨e=26) (fun x _ e' he=>q9 (oy n) he) h
def LyX(t:List Ce)(most:Int)(r:LR)(FB:Value→List (Nat×List Value))(b1 b2:Nat×List (Value×Value))(cn:Nat)(es:List qO)(v:Value)(O:List (Nat×List Value))(M:List (Nat×List (Value×Value)))(Δ:List aE):Prop:=
 ∃cm:List (Int×Int),wj t most cm∧M=[b1,b2,(cn,bM dA (b_ cm))]∧DH r FB es v O Δ
structure MD where
 j:Nat
 z:Int
 cm:List (Int×Int)
 s:Sl
 O:List (Nat×List Value)
 E:List qO
abbrev YB(n:Sl)(a:Bool)(m:Sl)(b:Bool):List Value:=[.slice n.ao n.n n.c,.bool a,.slice m.ao m.n m.c,.bool b]
abbrev otc(V:On)(x:Q5):List Value:=[.bool V.f,.int .i64 V.o]++YB x.g.n x.g.a x.g.m x.g.b++YB x.a.n x.a.a x.a.m x.a.b++YB x.b.n x.b.a x.b.m x.b.b++YB x.c.n x.c.a x.c.m x.c.b++YB x.d.n x.d.a x.d.m x.d.b
def Rl(fb bn cn dn:Nat)(ca:Option Addr)(cl cc:Nat)(most:Int)(dm:List (Value×Value))(t:List Ce)(n:Nat):Prop:=
 ∀(Γ:List aE) [aY (pF ⟨ca,cl,cc⟩) t Γ] (c:Int) (i d:Nat),c=i→i<t.length→dep t n i=some d→∀(V:On) (bx:Q5) (Lb e:Nat) [aY (OF bx) (Lb,V) Γ],(0≤V.o∧V.o≤7)→Lb≤10000→sE e V→e≤45*Td t d→
  ∀cm:List (Int×Int),wj t most cm→∀(s0:Sl) (O:List (Nat×List Value)) (es:List qO) [aY (rB oR (bz s0)) es Γ],cG 3 O (bz s0) es.length (es.flatMap oR.cells)→(es.length:Int)+jY t 64 i≤100000→
  dC KH Tryz.prog 48 [fp fb,.int .i64 c,HJ V bx] (FO fb ⟨ca,cl,cc⟩ bn cn dn most (bz s0)++O) [(bn,bM dT (b_ (cw t))),(dn,dm),(cn,bM dA (b_ cm))] Γ
   (LyX t most (gB t 64 i V) (fun v=>FO fb ⟨ca,cl,cc⟩ bn cn dn most v) (bn,bM dT (b_ (cw t))) (dn,dm) cn es)
def rfU(fb zp sX b16:Nat)(k:Int)(f:Bool)(o rows:Int):MD→List (Nat×SV):=fun a=>[(0,.val (fp fb)),(5,.ptr 5 0),(9,.val (.int .i64 k)),(10,.val (fp zp)),(12,.val (.bool f)),(13,.ptr 13 0),(14,.val (.int .i64 o)),
 (17,.val (.func (.func 153) #[] #[fp b16,fp zp,fp sX])),(53,.val (.int .i64 rows)),(6,.val (.int .i64 0)),(54,.val (.int .i64 a.z))]
def rfX(V:On)(bx:Q5)(n:Sl)(a:Bool)(m:Sl)(b:Bool):MD→List (Nat×List Value):=fun _=>[(5,otc V bx),(13,YB n a m b)]
theorem Lp{j q rows eH c N:Nat}(hj:j<rows)(hq:q<eH)(h:N≤(j*eH+q)*c):N+c≤(j*eH+(q+1))*c∧(j*eH+(q+1))*c≤rows*eH*c:=by
 have h1:(j*eH+(q+1))*c=(j*eH+q)*c+c:=by rw[←ig,ed,lg]
 have h2:(j+1)*eH≤rows*eH:=bZ _ hj;rw[ed,lg]at h2;exact⟨by omega,bZ _ (by omega)⟩
section
theorem Kj(fb bn cn dn:Nat)(ca:Option Addr)(cl cc:Nat)(most:Int)(dm:List (Value×Value)){t:List Ce}(hF:Tp t)(hD:zy t)(tL:0≤most∧most≤100000)(hW:zx t≤160)(n:Nat)(ih:Rl fb bn cn dn ca cl cc most dm t n)
  (Γ:List aE) [aY (pF ⟨ca,cl,cc⟩) t Γ](xf xp:Sl){x:Im} [aY (mq xf xp) x Γ]{i d:Nat}{cx:Ce}(hcx:t[i]? =some cx)(hxm:x∈cx.i)(hk:cC x=10∨cC x=11)(sR:dep t (n+1) i=some d)
  (V:On)(bx:Q5)(Lb e:Nat) [aY (OF bx) (Lb,V) Γ](ho:0≤V.o∧V.o≤7)(hLb:Lb≤10000)(Q0:sE e V)(heb:e≤45*Td t d)(cm:List (Int×Int))(hcm:wj t most cm)(s0:Sl)(O:List (Nat×List Value))(es:List qO) [aY (rB oR (bz s0)) es Γ]
  (hg:cG 3 O (bz s0) es.length (es.flatMap oR.cells))(RX:(es.length:Int)+jF t (jY t 64) x≤100000):
  dC KH Tryz.prog 90 [fp fb,mo xf xp,HJ V bx] (FO fb ⟨ca,cl,cc⟩ bn cn dn most (bz s0)++O) [(bn,bM dT (b_ (cw t))),(dn,dm),(cn,bM dA (b_ cm))] Γ
   (LyX t most (nR t 64 (gB t 64) x V) (fun v=>FO fb ⟨ca,cl,cc⟩ bn cn dn most v) (bn,bM dT (b_ (cw t))) (dn,dm) cn es):=by
 have hce:=aO hcx;have Up:=hF.ok cx hce x hxm;have LA:=Up.im;have hxr:=hD.right cx hce x hxm;have hxb:=hF.by' cx hce x hxm;obtain⟨Ga,hg1,nP,Uk⟩:=oK hxr hk;obtain⟨acQ,acR⟩:=wP hxb;obtain⟨iP,acY⟩:=Je Ga;obtain⟨s,hs⟩:=Up.ref hk;obtain⟨k,hkn,ZX,hkm⟩:=hD.kid hcx hxm hs;have Yp:=wY hkm;have hc0:=hD.cnt_nn 64 k;have hil:i<t.length:=(List.getElem?_eq_some_iff.1 hcx).1;obtain⟨d',hkd,hdd⟩:∃d',dep t n k=some d'∧d'<d:=by
  unfold dep at sR;cases hq:jG (dep t n) (fE t i) 0 with
  |none=>rw[hq]at sR;simp at sR
  |some r=>
   rw[hq]at sR;simp only[dq,aq]at sR;obtain⟨e',he,hle⟩:=(lT hq).2 k hkm;exact⟨e',he,by omega⟩
 have hup:=QC hil ⟨n+1,sR⟩ hdd;have adf:Td t d'≤160:=aP QB hW;have hwx:wI x≤wC t i:=aa4 (by rw[tO hcx];exact hxm);have Ue:jF t (jY t 64) x=jY t 64 k*(aZ x).1*(aZ x).2:=by
  unfold jF;have h1:¬(cC x=8∨cC x=45):=by omega
  have h2:¬cC x=9:=by omega
  rw[if_neg h1,if_neg h2,if_pos hk,hkn]
 obtain⟨R,hR⟩:∃R,nR t 64 (gB t 64) x V=R:=⟨_,rfl⟩;have hR2:=hR;unfold nR at hR2;rw[hkn]at hR2;simp only at hR2;rw[hR];have pn:∀(Γ':List aE) [aY (mq xf xp) x Γ'],au tb Tryz.prog 79 [mo xf xp] Γ' (js (.tuple #[.string (strOfNums s),.bool true])):=fun Γ' _=>by
  have:=xh (Γ:=Γ') xf xp LA;rw[hs]at this;exact this
 refine dC.of_W bK Tryz.func90 rfl ?_;refine aj [] (pn _).mF ?_;rintro _ _ ⟨rfl,rfl⟩;refine cr [] 1 fb 0 bK ?_;refine dQ [] (FO fb ⟨ca,cl,cc⟩ bn cn dn most (bz s0)++O) fb (0+1) 1 [.slice ca cl cc,.map (some bn),.map (some cn),.map (some dn),.int .i64 most,bz s0] (.map (some bn)) bK (.head _) rfl ?_;refine vk [] dT 69 9 3 false (FO fb ⟨ca,cl,cc⟩ bn cn dn most (bz s0)++O) [(bn,bM dT (b_ (cw t))),(dn,dm),(cn,bM dA (b_ cm))] bn (strOfNums s) (b_ (cw t)) (.int .i64 0) bK (.head _) ?_;rw[Bf ZX];obtain⟨d64,acF⟩:=hD.deep k Yp;refine cZ [] [] (FO fb ⟨ca,cl,cc⟩ bn cn dn most (bz s0)) O [] [(bn,bM dT (b_ (cw t))),(dn,dm),(cn,bM dA (b_ cm))] [] ⟨rfl,by rfl,trivial⟩ (Kd fb bn cn dn ca cl cc most (bz s0) dm hF hD tL 64 _ (k:Int) k rfl Yp ⟨d64,acF⟩ cm hcm) ?_;rintro _ _ _ _ ⟨VQ,Lr,rfl,rfl,rfl,rfl⟩;by_cases h0:jY t 64 k=0
 ·rw[if_pos h0]at hR2;refine bD [] 37 (min (jY t 64 k) (most+1)==0) (by rw[h0,Int.min_eq_left (by omega)];rfl) ?_;exact j0 [37] (.int .i64 0) (FO fb ⟨ca,cl,cc⟩ bn cn dn most (bz s0)++O) [(bn,bM dT (b_ (cw t))),(dn,dm),(cn,bM dA (b_ VQ))] ⟨VQ,Lr,rfl,s0,O,[],fun q hq=>by rw[←hR2]at hq;injection hq,by rw[←hR2];rfl,rfl,by rw[af];exact hg,rfl⟩ (eC (by rw[af];exact eK) eE)
 rw[if_neg h0]at hR2;refine aS [] 37 (min (jY t 64 k) (most+1)==0) (by rw[fB];omega) ?_;refine aj [37] (tW xf xp (x:=x) LA).mF ?_;rintro _ _ ⟨rfl,rfl⟩;refine aj [] (xl xf xp (x:=x) LA).mF ?_;rintro _ _ (⟨hb,n',a',m',b',rfl,rfl⟩|⟨hb,qn,qa,qm,qb,rfl,rfl⟩)
 ·rw[iP]at hb;simp at hb
 refine aj [] (oI xf xp (x:=x) LA).mF ?_;rintro _ _ ⟨u,⟨u1,u2,u3⟩,rfl,rfl⟩;obtain⟨eH,CU⟩:∃c:Nat,(aZ x).1=c:=⟨(aZ x).1.toNat,by omega⟩;obtain⟨rows,CX⟩:∃c:Nat,(aZ x).2=c:=⟨(aZ x).2.toNat,by omega⟩;obtain⟨C,hC⟩:∃C:Nat,jY t 64 k=C:=⟨(jY t 64 k).toNat,by omega⟩;have hown:∀{a b:Int},0≤a∧a<(aZ x).1→0≤b∧b<(aZ x).2→∃e,sE e (oB x a b)∧e+4≤45*wI x:=fun ha hb=>Pf Up hxb hk hg1 nP ha hb;have Z7:∀a b:Int,oB x a b=⟨oY x,gE x,jJ x,oA Dp.x (bu x) eH rows a b,0,oA Dp.y (bu x) eH rows a b,0⟩:=fun a b=>by unfold oB;rw[CU,CX]
 have Lw:=uR hxb;rw[CU,CX]at hown;rw[CU,CX,hC]at Ue;rw[CU,CX,gx,gx]at hR2;rw[CU]at hg1 acQ;rw[CX]at nP acR;rw[CU,CX];have Wd:es.length+rows*eH*C≤100000:=by
  rw[Ue]at RX;have e1:(C:Int)*eH*rows=((rows*eH*C:Nat):Int):=by
   rw[dp,dp,ik (C:Int),ik ((eH:Int)*C),←Int.mul_assoc]
  rw[e1]at RX;omega
 refine W.revp 10 [.int .i64 (eH:Int)] (fun zp=>?_);refine W.revp 11 [.int .i64 (rows:Int)] (fun sX=>?_);refine W.revp 16 [bz u] (fun b16=>?_);refine eg [] 1 sX 0 (.int .i64 (rows:Int)) bK (gO sX rfl) ?_;refine kB [] Tryz.f90 0 87 87 [0,5,9,10,12,13,14,17,53,6,54] [5,13] (rfU fb zp sX b16 (k:Int) (oY x) (gE x) rows) (rfX V bx qn qa qm qb) (fun a=>FO fb ⟨ca,cl,cc⟩ bn cn dn most (bz a.s)++a.O) (fun a=>[(bn,bM dT (b_ (cw t))),(dn,dm),(cn,bM dA (b_ a.cm))])
  (fun a=>[OF bx (Lb,V),QF qn qa qm qb (50,jJ x),dY zp [.int .i64 (eH:Int)],dY sX [.int .i64 (rows:Int)],dY b16 [bz u],zA u (bu x),pF ⟨ca,cl,cc⟩ t,rB oR (bz a.s) (es++a.E)])
  (fun a=>a.z=a.j∧a.j≤rows∧wj t most a.cm∧cG 3 a.O (bz a.s) (es++a.E).length ((es++a.E).flatMap oR.cells)∧a.E.length≤(a.j*eH+0)*C∧B_ (fun k':Nat=>iC (fun i':Nat=>gB t 64 k ((oB x i' k').then V)) (List.range eH)) (List.range rows) R a.j a.E)
  (fun a=>rows-a.j) ⟨0,0,VQ,s0,O,[]⟩ ⟨rfl,aM _,Lr,by rw[af];exact hg,aM _,by rw[←hR2];exact rE _ _⟩ (eC eK (eC eK (eC eK (eC eK (eC eK (eC eK (eC eK (eC (by rw[af];exact eK) eE)))))))) ?_
 rintro⟨j,z,No,s1,O1,E1⟩ K ⟨hz,hj,D_,x7,hE1,hl1⟩ close;simp only at hz hj D_ x7 hE1 hl1;by_cases hlt:j<rows
 ·refine bD [] 55 (decide (z<(rows:Int))) (aw (by omega)) ?_;refine eg [55] 1 zp 0 (.int .i64 (eH:Int)) bK (gO zp rfl) ?_;have R0:(List.range rows)[j]? =some j:=nH hlt;obtain⟨R2,hRr⟩:∃R2,iC (fun i':Nat=>gB t 64 k ((oB x i' j).then V)) (List.range eH)=R2:=⟨_,rfl⟩;refine Fg [] [6,58] (fun a:MD=>[(6,.int .i64 0),(58,.int .i64 a.z)]) (fun _=>[]) (fun a=>FO fb ⟨ca,cl,cc⟩ bn cn dn most (bz a.s)++a.O) (fun a=>[(bn,bM dT (b_ (cw t))),(dn,dm),(cn,bM dA (b_ a.cm))])
   (fun a=>[OF bx (Lb,V),QF qn qa qm qb (50,jJ x),dY zp [.int .i64 (eH:Int)],dY sX [.int .i64 (rows:Int)],dY b16 [bz u],zA u (bu x),pF ⟨ca,cl,cc⟩ t,rB oR (bz a.s) ((es++E1)++a.E)])
   (fun a=>a.z=a.j∧a.j≤eH∧wj t most a.cm∧cG 3 a.O (bz a.s) ((es++E1)++a.E).length (((es++E1)++a.E).flatMap oR.cells)∧E1.length+a.E.length≤(j*eH+a.j)*C∧B_ (fun i':Nat=>gB t 64 k ((oB x i' j).then V)) (List.range eH) R2 a.j a.E)
   (fun a=>eH-a.j) ⟨0,0,No,s1,O1,[]⟩ ⟨rfl,aM _,D_,by rw[af];exact x7,by simpa using hE1,by rw[←hRr];exact rE _ _⟩ (eC eK (eC eK (eC eK (eC eK (eC eK (eC eK (eC eK (eC (by rw[af];exact eK) eE)))))))) ?_
  rintro⟨q,y,RM,s2,O2,E2⟩ K2 ⟨hy,hq,Iq,JO,hE2,hl2⟩ g8;simp only at hy hq Iq JO hE2 hl2;by_cases JP:q<eH
  ·have QY:(List.range eH)[q]? =some q:=nH JP;obtain⟨ew,hwo,hew⟩:=hown (a:=y) (b:=z) (by omega) (by omega);have Ot:=hwo.then Q0;have hox:=WV x;have hth:=Z7 y z;rw[hth]at Ot;obtain⟨st1,st2⟩:=Lp hlt JP hE2;have ade:=KT (⟨oY x,gE x,jJ x,oA Dp.x (bu x) eH rows y z,0,oA Dp.y (bu x) eH rows y z,0⟩:On) V;refine bD [] 59 (decide (y<(eH:Int))) (aw (by omega)) ?_;refine aj [59] (Xh b16 zp sX y z eH rows u Uk Lw (by omega) (by omega) (by omega) (by omega)).mF ?_;rintro _ _ ⟨n2,a2,m2,d2,rfl,rfl⟩;refine aj [] (Xi b16 zp sX y z eH rows u Uk Lw (by omega) (by omega) (by omega) (by omega)).mF ?_;rintro _ _ ⟨n3,a3,m3,d3,rfl,rfl⟩;refine aj [] (SG (oY x) ⟨qn,qa,qm,qb⟩ (gE x) ⟨n2,a2,m2,d2⟩ ⟨n3,a3,m3,d3⟩ (X:=jJ x) (Y:=oA Dp.x (bu x) eH rows y z) (Z:=oA Dp.y (bu x) eH rows y z) hox acY).mF ?_;rintro _ _ ⟨rfl,rfl⟩;refine aj [] (Px ⟨oY x,gE x,jJ x,oA Dp.x (bu x) eH rows y z,0,oA Dp.y (bu x) eH rows y z,0⟩ V ⟨⟨qn,qa,qm,qb⟩,⟨n2,a2,m2,d2⟩,bV,⟨n3,a3,m3,d3⟩,bV⟩ bx Ot.bO hox ho).mF ?_;rintro _ _ ⟨bq',rfl,rfl⟩;refine cZ [] [] (FO fb ⟨ca,cl,cc⟩ bn cn dn most (bz s2)++O2) [] [] [(bn,bM dT (b_ (cw t))),(dn,dm),(cn,bM dA (b_ RM))] [] ⟨rfl,by rfl,trivial⟩ (eo:=(by simp only[af];kernel_rfl)) (ih _ (k:Int) k d' rfl Yp hkd _ bq' _ _ ade (by omega) Ot (by omega) RM Iq s2 O2 ((es++E1)++E2) JO (by rw[hC];simp only[az];omega)) ?_
   rintro _ _ _ _ ⟨Yl,RW,rfl,s3,O3,jv,vT,rfl,rfl,CV,rfl⟩;rw[af (FO fb ⟨ca,cl,cc⟩ bn cn dn most (bz s3)++O3)];rw[←hth]at vT⊢;cases hlr:gB t 64 k ((oB x y z).then V)with
   |error er=>
    have Wo:gB t 64 k ((oB x (q:Int) (j:Int)).then V)=.error er:=by rw[←hy,←hz];exact hlr
    have Is:=oy _ _ _ _ hlr;have yV:R=.error er:=hl1.err R0 (by rw[hRr];exact hl2.err QY Wo);refine bD [] 83 (er != 0) (by rcases Is with rfl|rfl<;>rfl) ?_;refine j0 [83] (.int .i64 er) (FO fb ⟨ca,cl,cc⟩ bn cn dn most (bz s3)++O3) [(bn,bM dT (b_ (cw t))),(dn,dm),(cn,bM dA (b_ Yl))] ⟨Yl,RW,rfl,s3,O3,E1++E2++jv,fun q h=>by rw[yV]at h;simp at h,by rw[yV];rfl,rfl,?_,rfl⟩ (eC (by rw[show es++(E1++E2++jv)=((es++E1)++E2)++jv by simp];exact eK) eE);rw[show es++(E1++E2++jv)=((es++E1)++E2)++jv by simp];exact CV
   |ok sr=>
    have Wo:gB t 64 k ((oB x (q:Int) (j:Int)).then V)=.ok sr:=by rw[←hy,←hz];exact hlr
    have hsl:=hD.lay_len _ _ _ _ hlr;have ZJ:jv.length=sr.length:=by rw[←vT sr hlr,bL]
    refine aS [] 83 ((0:Int) != 0) (by decide) ?_;refine g8 [83] _ _ ⟨q+1,IntKind.i64.wrap (y+1),Yl,s3,O3,E2++jv⟩ (by kernel_rfl) (by kernel_rfl) ⟨by simp only[ah];omega,JP,RW,?_,?_,hl2.step QY Wo (vT sr hlr)⟩ (by simp only;omega) (eC eK (eC eK (eC eK (eC eK (eC eK (eC eK (eC eK (eC (by rw[show(es++E1)++(E2++jv)=((es++E1)++E2)++jv by simp];exact eK) eE))))))))
    ·simp only;rw[show(es++E1)++(E2++jv)=((es++E1)++E2)++jv by simp];exact CV
    ·simp only[az];omega
  ·obtain rfl:q=eH:=by omega
   have hR2:R2=.ok (E2.map qO.x):=hl2.fin (by rw[dX];exact ai _);refine aS [] 59 (decide (y<(q:Int))) (ak (by omega)) ?_;refine close [59] _ _ ⟨j+1,IntKind.i64.wrap (z+1),RM,s2,O2,E1++E2⟩ (by kernel_rfl) (by kernel_rfl) ⟨by simp only[ah];omega,hlt,Iq,?_,?_,hl1.step R0 (by rw[hRr];exact hR2) rfl⟩ (by simp only;omega) (eC eK (eC eK (eC eK (eC eK (eC eK (eC eK (eC eK (eC (by rw[←aT];exact eK) eE))))))))
   ·simp only;rw[←aT];exact JO
   ·simp only[az];rw[show(j+1)*q+0=j*q+q by rw[ed];omega];omega
 ·obtain rfl:j=rows:=by omega
  have Ud:R=.ok (E1.map qO.x):=hl1.fin (by rw[dX];exact ai _);refine aS [] 55 (decide (z<(j:Int))) (ak (by omega)) ?_;exact j0 [55] (.int .i64 0) (FO fb ⟨ca,cl,cc⟩ bn cn dn most (bz s1)++O1) [(bn,bM dT (b_ (cw t))),(dn,dm),(cn,bM dA (b_ No))] ⟨No,D_,rfl,s1,O1,E1,fun q h=>by rw[Ud]at h;injection h,by rw[Ud];rfl,rfl,x7,rfl⟩ (eC eK eE)
end
theorem BG{x:Im}(h:qQ x):(bu x).length≤8191:=by
 unfold bu;cases hf:dK x 16 with
 |none=>simp
 |some r=>
  have:=qe (h.2 r (kL hf).1);simp only[yw,q_];omega
theorem Lk{V:On}{l:List (Sn×Sn)}{j:Nat}{p:Sn×Sn}(h:l[j]? =some p):ve V (l.drop j)=match farP V p with
  |some q=>(q::(ve V (l.drop (j+1))).1,(ve V (l.drop (j+1))).2)
  |none=>([],false):=by
 obtain⟨h1,h2⟩:=List.getElem?_eq_some_iff.1 h;rw[bI h1,h2];rfl
structure U_ where
 j:Nat
 z:Int
 s:Sl
 O:List (Nat×List Value)
 l:List jI
def lyU(fb:Nat)(u:Sl):MD→List (Nat×SV):=fun a=>[(0,.val (fp fb)),(5,.ptr 5 0),(28,.val (bz u)),(29,.val (.int .i64 u.n)),(6,.val (.int .i64 0)),(30,.val (.int .i64 a.z))]
theorem Bj{T:Tb}{Γ:List aE}{L:Nat}{l:List jI}{X Y:Sw}{q:Sn×Sn} [h:aY (OS gy) (L,l) Γ] [hx:aY (SF X) (L,q.1) Γ] [hy:aY (SF Y) (L,q.2) Γ]:∀(I:fZ) (w:World),bB T I w→aG Γ I w→(OS gy (L,l++[⟨X,Y,q.1,q.2⟩])).p I w:=fun I w _ hh e he=>by
 rcases List.mem_append.1 he with he|he
 ·exact h.p hh e he
 ·simp only[aD,aC,bp]at he;subst he;exact⟨hx.p hh,hy.p hh⟩
theorem J7{T:Tb}{Γ:List aE}{L:Nat}{l:List jI}{ao:Option Addr} [h:aY (OS gy) (L,l) Γ] [hr:aY (RA ao) (l.flatMap gy.cells) Γ]:∀(I:fZ) (w:World),bB T I w→aG Γ I w→aG [OL gy ao (L,l)] I w:=fun I w _ hh=>aU ⟨fun e he=>h.p hh e he,hr.p hh⟩
theorem D8{l:List jI}{e:Nat}(h:∀q∈l.map jI.num,Cq e q):Va (l.map jI.num):=fun q hq=>(h q hq).f
section
variable{Γ:List aE}{L:Nat}
theorem Pu(V:On)(x:Q5)(d:Dp){e:Nat} [aY (OF x) (L,V) Γ](ho:0≤V.o∧V.o≤7)(hw:sE e V)(hx:d.x.natAbs≤2^31)(hy:d.y.natAbs≤2^31)(hL:L≤10000:=by omega):
  au tb Tryz.prog 86 [HJ V x,.agg #[.int .i64 d.x,.int .i64 d.y]] Γ (vH ((e+190)/32+1) (xW V d).1 (xW V d).2):=by
 have hok:=M8 hw hx hy;have e1:(2:Nat)^31=2147483648:=by decide
 rw[e1]at hx hy;have h:=aaJ (Γ:=Γ) V x d.x d.y ho (by omega) (by omega) hL;exact h.plT hok.b1 hok.b2
end
section
theorem Xc(fb bn cn dn:Nat)(ca:Option Addr)(cl cc:Nat)(most:Int)(dm:List (Value×Value)){t:List Ce}(hF:Tp t)(hD:zy t)(tL:0≤most∧most≤100000)(hW:zx t≤160)(n:Nat)(ih:Rl fb bn cn dn ca cl cc most dm t n):Rl fb bn cn dn ca cl cc most dm t (n+1):=by
 intro Γ hcs c i d hc hi sR V bx Lb e hof ho hLb Q0 heb cm hcm s0 O es hos hg RX;obtain⟨x,hx⟩:∃x,t[i]? =some x:=⟨_,ar hi⟩;have hxm:=aO hx;have Ed:=tO hx;have NZ:=hD.cnt64 hi;rw[Ed]at NZ;have Wl:=hD.lay64 hi V;rw[Ed]at Wl;have adf:Td t d≤160:=aP QB hW;obtain⟨R,hR⟩:∃R,gB t 64 i V=R:=⟨_,rfl⟩;rw[hR]at Wl⊢;rw[NZ]at RX;have hlen:x.i.length≤100000:=hF.len x hxm;refine dC.of_W bK Tryz.func48 rfl ?_;refine W.len pH qi.x ⟨ca,cl,cc⟩ rfl (fun h1 h2 h3=>?_);simp only at h1 h2 h3;have hil:i<cl:=by rw[h1];exact hi
 refine wv ⟨ca,cl,cc⟩ hx (fun b off fh fi ha=>?_);simp only at ha;subst ha;refine W.more (Δ:=[uC fi x.i]) rfl (fun I w _ hh=>aU (aY.p (k:=xM fh fi) (a:=x) inferInstance hh).2) ?_;obtain⟨ia,im,ic⟩:=fi;refine W.len lI nd.x ⟨ia,im,ic⟩ rfl (fun i1 i2 i3=>?_);simp only at i1 i2 i3;refine cr [] 0 fb 0 bK ?_;refine dQ [] (FO fb ⟨some ⟨b,off,none⟩,cl,cc⟩ bn cn dn most (bz s0)++O) fb (0+0) 1 [.slice (some ⟨b,off,none⟩) cl cc,.map (some bn),.map (some cn),.map (some dn),.int .i64 most,bz s0] (.slice (some ⟨b,off,none⟩) cl cc) bK (.head _) rfl ?_;refine cA [] 2 b off cl cc .i64 i c hc bK hil ?_;refine cr [] 1 b (off+i*2) bK ?_;refine eg [] 1 b (off+i*2+1) (.slice ia im ic) bK (fun I w hd hh=>dL (T:=KH) b (off+i*2) I w hd hh 1 _ rfl) ?_;refine kB [] Tryz.f48 0 112 112 [0,5,28,29,6,30] [5] (lyU fb ⟨ia,im,ic⟩) (fun _=>[(5,otc V bx)]) (fun a=>FO fb ⟨some ⟨b,off,none⟩,cl,cc⟩ bn cn dn most (bz a.s)++a.O) (fun a=>[(bn,bM dT (b_ (cw t))),(dn,dm),(cn,bM dA (b_ a.cm))])
  (fun a=>[OF bx (Lb,V),uC ⟨ia,im,ic⟩ x.i,pF ⟨some ⟨b,off,none⟩,cl,cc⟩ t,rB oR (bz a.s) (es++a.E)])
  (fun a=>a.z=a.j∧a.j≤im∧wj t most a.cm∧cG 3 a.O (bz a.s) (es++a.E).length ((es++a.E).flatMap oR.cells)∧(a.E.length:Int)≤((x.i.take a.j).map (jF t (jY t 64))).sum∧B_ (jH t 64 (gB t 64) V) x.i R a.j a.E)
  (fun a=>im-a.j) ⟨0,0,cm,s0,O,[]⟩ ⟨rfl,aM _,hcm,by rw[af];exact hg,by simp,by rw[Wl];exact rE _ _⟩ (eC eK (eC eK (eC eK (eC (by rw[af];exact eK) eE)))) ?_
 rintro⟨j,z,zq,s1,O1,E1⟩ K ⟨hz,hj,vR,hg1,hE1,hl1⟩ close;simp only at hz hj vR hg1 hE1 hl1;by_cases hlt:j<im
 ·obtain⟨y,hy⟩:∃y,x.i[j]? =some y:=⟨_,ar (by omega)⟩;have Mx:=aO hy;have Ww:=hF.ok x hxm y Mx;have lK:=Ww.im;have Wx:=hD.right x hxm y Mx;have hyb:=hF.by' x hxm y Mx;have Lz:((x.i.take (j+1)).map (jF t (jY t 64))).sum≤(x.i.map (jF t (jY t 64))).sum:=by
   have e0:(x.i.map (jF t (jY t 64))).sum=((x.i.take (j+1)).map (jF t (jY t 64))).sum+((x.i.drop (j+1)).map (jF t (jY t 64))).sum:=by
    rw[←s8,←aW,jW]
   have e1:0≤((x.i.drop (j+1)).map (jF t (jY t 64))).sum:=BS fun q hq=>by
    obtain⟨y',hy',rfl⟩:=List.mem_map.1 hq;exact zE (hD.cnt_nn 64) (hD.right x hxm y' (mB hy'))
   omega
  have adb:((x.i.take (j+1)).map (jF t (jY t 64))).sum=((x.i.take j).map (jF t (jY t 64))).sum+jF t (jY t 64) y:=by
   rw[fy hy,aW,s8];simp
  have hcy:=zE (t:=t) (hD.cnt_nn 64) Wx;have hfit:((es++E1).length:Int)+jF t (jY t 64) y≤100000:=by rw[az];omega
  have next:∀(jv:List qO) (sr:List Sh),jH t 64 (gB t 64) V y=.ok sr→jv.map qO.x=sr→((E1++jv).length:Int)≤((x.i.take (j+1)).map (jF t (jY t 64))).sum∧B_ (jH t 64 (gB t 64) V) x.i R (j+1) (E1++jv):=fun jv sr h1 h2=>by
   have h3:=hD.item_len (hD.lay_len 64) Wx h1;have h4:jv.length=sr.length:=by rw[←h2,bL]
   refine⟨?_,hl1.step hy h1 h2⟩;rw[adb,az];omega
  refine Am ⟨ia,im,ic⟩ hy (fun b2 pd yf yp ha=>?_);simp only at ha;subst ha;refine bD [] 31 (decide (z<(im:Int))) (aw (by omega)) ?_;refine cA [31] 2 b2 pd im ic .i64 j z hz bK hlt ?_;refine dd [] b2 (pd+j*2) [bz yf,bz yp] bK (dL b2 (pd+j*2)) ?_;obtain⟨LI,hLI⟩:∃LI,jH t 64 (gB t 64) V y=LI:=⟨_,rfl⟩;rcases Ww.kind with hk|hk|hk|hk|hk|hk|hk
  ·have pk:∀(Γ':List aE) [aY (mq yf yp) y Γ'],au tb Tryz.prog 81 [mo yf yp] Γ' (js (.int .u8 8)):=fun Γ' _=>by rw[←hk];exact gL yf yp lK
   refine aj [] (pk _).mF ?_;rintro _ _ ⟨rfl,rfl⟩;have h4:=xC Wx (.inl hk);have hpl:=BG lK;have hI:jH t 64 (gB t 64) V y=h_ y ((bu y).dropLast.map (xW V)):=by unfold jH;rw[if_pos (.inl hk)]
   refine aj [36] (oI yf yp (x:=y) lK).mF ?_;rintro _ _ ⟨u,⟨u1,u2,u3⟩,rfl,rfl⟩;obtain⟨pb,po,hao⟩:=u3 (by intro e';rw[e']at h4;simp at h4);obtain⟨ua,un,uc⟩:=u;simp only at u1 u2 hao;subst hao;have hdl:(bu y).dropLast.length=un-1:=by rw[List.length_dropLast,u1]
   refine Cw [] 2 pb po un uc none (some (.int .i64 (IntKind.i64.wrap ((un:Int)-1)))) 0 (un-1) bK (.inr ⟨rfl,rfl⟩) (.inl (by rw[ah];congr;omega)) (aM _) (by omega) (by omega) ?_;refine jZ [] [9,47] (fun a:U_=>[(9,bz a.s),(47,.int .i64 a.z)]) (fun _=>[]) (fun a=>(FO fb ⟨some ⟨b,off,none⟩,cl,cc⟩ bn cn dn most (bz s1)++O1)++a.O)
    (fun a=>[OF bx (Lb,V),uC ⟨some ⟨b2,pd,none⟩,im,ic⟩ x.i,mq yf yp y,pF ⟨some ⟨b,off,none⟩,cl,cc⟩ t,rB oR (bz s1) (es++E1),zA ⟨some ⟨pb,po,none⟩,un,uc⟩ (bu y),OS gy ((e+190)/32+1,a.l)])
    (fun a=>a.z=a.j∧a.j≤un-1∧a.l.length=a.j∧cG 40 a.O (bz a.s) a.l.length (a.l.flatMap gy.cells)∧a.l.map jI.num=((bu y).dropLast.take a.j).map (xW V)∧∀q∈a.l.map jI.num,Cq e q)
    (fun a=>un-1-a.j) ⟨0,0,⟨none,0,0⟩,[],[]⟩ (h0:=(by simp only[af];kernel_rfl)) ⟨rfl,aM _,rfl,cG.nil 40,rfl,fun q hq=>by simp at hq⟩ (eC eK (eC eK (eC eK (eC eK (eC eK (eC eK (eC (fun I w hd hh e he=>by simp at he) eE))))))) ?_
   rintro⟨q,y2,s2,O2,l⟩ K2 ⟨Ox,hq,hll,nP,Eg,hok⟩ g8;simp only at Ox hq hll nP Eg hok;by_cases JP:q<un-1
   ·obtain⟨p,hp⟩:∃p,(bu y)[q]? =some p:=⟨_,ar (by omega)⟩;have hdp:(bu y).dropLast[q]? =some p:=by rw[List.getElem?_dropLast,if_pos (by omega)];exact hp
    have hpi:=uR hyb p (aO hp);have ex:p.x.natAbs≤2^31:=by show p.x.natAbs≤2147483648;omega
    have ey:p.y.natAbs≤2^31:=by show p.y.natAbs≤2147483648;omega
    refine bD [] 48 (decide (y2<((un-1-0:Nat):Int))) (aw (by omega)) ?_;refine cA [48] 2 pb (po+0*2) (un-1-0) (uc-0) .i64 q y2 Ox bK (by omega) ?_;refine dd [] pb (po+0*2+q*2) (d_ p) bK (fun I w hd hh k v hv=>by
     rw[lq,fk];exact n_ pb po un uc hp I w hd hh k v hv) ?_
    refine aj [] (Pu V bx p ho Q0 ex ey).mF ?_;rintro _ _ ⟨X,Y,rfl,rfl⟩;refine cI [] 1 (gy.cells ⟨X,Y,(xW V p).1,(xW V p).2⟩) bK (fun b8=>?_);refine W.app [] ((FO fb ⟨some ⟨b,off,none⟩,cl,cc⟩ bn cn dn most (bz s1)++O1)++O2) (FO fb ⟨some ⟨b,off,none⟩,cl,cc⟩ bn cn dn most (bz s1)++O1) O2 [] 40 640 l.length 1 (bz s2) (.slice (some ⟨b8,0,none⟩) 1 1) (l.flatMap gy.cells) (gy.cells ⟨X,Y,(xW V p).1,(xW V p).2⟩) bK (by simp) nP (bW b8 _ 1 40 rfl 1) (pz _) (by omega) (by decide) (fun v' O' hg'=>?_);obtain⟨s',rfl⟩:=iz hg';rw[af ((FO fb ⟨some ⟨b,off,none⟩,cl,cc⟩ bn cn dn most (bz s1)++O1)++O')];refine g8 [] _ _ ⟨q+1,IntKind.i64.wrap (y2+1),s',O',l++[⟨X,Y,(xW V p).1,(xW V p).2⟩]⟩ (by kernel_rfl) (by kernel_rfl) ⟨by simp only[ah];omega,by simp only;omega,by simp[hll],?_,?_,?_⟩ (by simp only;omega) (eC eK (eC eK (eC eK (eC eK (eC eK (eC eK (eC Bj eE)))))))
    ·simp only[az,bA,aF,bE,bh,iL,af];exact hg'
    ·simp only;rw[fy hdp,aW,aW,Eg];rfl
    ·intro w hw;simp only[aW,ez]at hw;rcases hw with hw|hw
     ·exact hok w hw
     ·simp only[cj,di,aD,aC,bp]at hw;subst hw;exact M8 Q0 ex ey
   ·obtain rfl:q=un-1:=by omega
    have htk:(bu y).dropLast.take (un-1)=(bu y).dropLast:=aV (by omega);rw[htk]at Eg;refine aS [] 48 (decide (y2<((un-1-0:Nat):Int))) (ak (by omega)) ?_;refine lQ (FO fb ⟨some ⟨b,off,none⟩,cl,cc⟩ bn cn dn most (bz s1)++O1) O2 [] (by rw[af];kernel_rfl) nP (fun g5 g1 g2=>?_);refine qA (FO fb ⟨some ⟨b,off,none⟩,cl,cc⟩ bn cn dn most (bz s1)++O1) ?_;obtain⟨sa,sn,sc⟩:=s2;simp only at g5 g1 g2;subst g5;refine W.more (by kernel_rfl) (J7 (ao:=sa) (l:=l) (L:=(e+190)/32+1)) ?_;refine cZ [48] [] (FO fb ⟨some ⟨b,off,none⟩,cl,cc⟩ bn cn dn most (bz s1)++O1) [] [(bn,bM dT (b_ (cw t))),(dn,dm),(cn,bM dA (b_ zq))] [] [] ⟨rfl,by rfl,trivial⟩ (eo:=(by simp only[af];kernel_rfl)) (EC fb bn cn dn ⟨some ⟨b,off,none⟩,cl,cc⟩ most s1 yf yp O1 (es++E1) sa sc l (x:=y) (L:=(e+190)/32+1) lK (D8 hok) (by omega) (by omega) (by omega) hg1) ?_;rintro _ _ _ _ ⟨rfl,s3,O3,jv,vT,rfl,rfl,CV,rfl⟩;rw[af (FO fb ⟨some ⟨b,off,none⟩,cl,cc⟩ bn cn dn most (bz s3)++O3)];rw[Eg]at vT⊢;cases hlr:h_ y ((bu y).dropLast.map (xW V))with
    |error er=>
     have wi:jH t 64 (gB t 64) V y=.error er:=by rw[hI,hlr]
     have Is:er=25∨er=26:=q9 (oy 64) wi;have yV:R=.error er:=hl1.err hy wi;refine bD [] 109 (er != 0) (by rcases Is with rfl|rfl<;>rfl) ?_;refine j0 [109] (.int .i64 er) (FO fb ⟨some ⟨b,off,none⟩,cl,cc⟩ bn cn dn most (bz s3)++O3) [(bn,bM dT (b_ (cw t))),(dn,dm),(cn,bM dA (b_ zq))] ⟨zq,vR,rfl,s3,O3,E1++jv,fun q h=>by rw[yV]at h;simp at h,by rw[yV];rfl,rfl,?_,rfl⟩ (eC (by rw[show es++(E1++jv)=(es++E1)++jv by simp];exact eK) eE);rw[show es++(E1++jv)=(es++E1)++jv by simp];exact CV
    |ok sr=>
     have wi:jH t 64 (gB t 64) V y=.ok sr:=by rw[hI,hlr]
     obtain⟨n1,n2⟩:=next jv sr wi (vT sr hlr)
     refine aS [] 109 ((0:Int) != 0) (by decide) ?_;refine close [109] _ _ ⟨j+1,IntKind.i64.wrap (z+1),zq,s3,O3,E1++jv⟩ (by kernel_rfl) (by kernel_rfl) ⟨by simp only[ah];omega,hlt,vR,?_,n1,n2⟩ (by simp only;omega) (eC eK (eC eK (eC eK (eC (by rw[show es++(E1++jv)=(es++E1)++jv by simp];exact eK) eE))));simp only;rw[show es++(E1++jv)=(es++E1)++jv by simp];exact CV
  ·have pk:∀(Γ':List aE) [aY (mq yf yp) y Γ'],au tb Tryz.prog 81 [mo yf yp] Γ' (js (.int .u8 9)):=fun Γ' _=>by rw[←hk];exact gL yf yp lK
   refine aj [] (pk _).mF ?_;rintro _ _ ⟨rfl,rfl⟩;obtain⟨hPC,hPl⟩:=Xu (x:=y);have hI:jH t 64 (gB t 64) V y=(if(ve V (jg y)).2=true then(if jg y=[]then .ok []else h_ y (ve V (jg y)).1)
      else match iY (ve V (jg y)).1 with
      | .ok _=>.error 25
      | .error e=>.error e):=by unfold jH;rw[if_neg (by omega),if_pos hk];rfl
   refine aj [62,36] (IS yf yp (x:=y) lK).mF ?_;rintro _ _ ⟨ao,pc,pl,rfl,Og,hpl,rfl⟩;have ac8:pl.length=(jg y).length:=by rw[←hpl,bL]
   refine jZ [] [6,9,71] (fun a:U_=>[(6,.int .i64 0),(9,bz a.s),(71,.int .i64 a.z)]) (fun _=>[]) (fun a=>(FO fb ⟨some ⟨b,off,none⟩,cl,cc⟩ bn cn dn most (bz s1)++O1)++a.O)
    (fun a=>[OF bx (Lb,V),uC ⟨some ⟨b2,pd,none⟩,im,ic⟩ x.i,mq yf yp y,pF ⟨some ⟨b,off,none⟩,cl,cc⟩ t,rB oR (bz s1) (es++E1),OL gy ao (130,pl),OS gy ((e+190)/32+1,a.l)])
    (fun a=>a.z=a.j∧a.j≤pl.length∧a.l.length=a.j∧cG 40 a.O (bz a.s) a.l.length (a.l.flatMap gy.cells)∧ve V (jg y)=(a.l.map jI.num++(ve V ((jg y).drop a.j)).1,(ve V ((jg y).drop a.j)).2)∧∀q∈a.l.map jI.num,Cq e q)
    (fun a=>pl.length-a.j) ⟨0,0,⟨none,0,0⟩,[],[]⟩ (h0:=(by simp only[af];kernel_rfl)) ⟨rfl,aM _,rfl,cG.nil 40,rfl,fun q hq=>by simp at hq⟩ (eC eK (eC eK (eC eK (eC eK (eC eK (eC eK (eC (fun I w hd hh e he=>by simp at he) eE))))))) ?_
   rintro⟨q,y2,s2,O2,l⟩ K2 ⟨Ox,hq,hll,nP,zu,hok⟩ g8;simp only at Ox hq hll nP zu hok;by_cases JP:q<pl.length
   ·obtain⟨pe,QX⟩:∃pe,pl[q]? =some pe:=⟨_,ar JP⟩;have Lx:(jg y)[q]? =some (pe.X,pe.Y):=by rw[←hpl];exact Em QX
    have hPq:=hPC _ (aO Lx);rw[Lk Lx]at zu;refine Rt ao QX rfl (fun pb po hao=>?_);subst hao;refine bD [] 72 (decide (y2<(pl.length:Int))) (aw (by omega)) ?_;refine cA [72] 40 pb po pl.length pc .i64 q y2 Ox bK JP ?_;refine dd [] pb (po+q*40) (gy.cells pe) bK (zV pb po QX) ?_;cases ZM:farP V (pe.X,pe.Y)with
    |none=>
     rw[ZM]at zu;simp only[af]at zu;refine aj [] (SD V bx pe.x pe.y (P:=(pe.X,pe.Y)) ho hPq ZM).mF ?_;rintro _ _ ⟨rfl,rfl⟩;refine bD [] 82 ((6:Int) != 0) (by decide) ?_;refine lQ (FO fb ⟨some ⟨b,off,none⟩,cl,cc⟩ bn cn dn most (bz s1)++O1) O2 [] (by rw[af];kernel_rfl) nP (fun g5 g1 g2=>?_);refine qA (FO fb ⟨some ⟨b,off,none⟩,cl,cc⟩ bn cn dn most (bz s1)++O1) ?_;obtain⟨sa,sn,sc⟩:=s2;simp only at g5 g1 g2;subst g5;refine W.more (by kernel_rfl) (J7 (ao:=sa) (l:=l) (L:=(e+190)/32+1)) ?_;refine aj [82] (Sv fb sa sc l (L:=(e+190)/32+1) (D8 hok) (by omega) (by omega)).mF ?_;rintro _ _ ⟨rfl,rfl⟩;have V_:jH t 64 (gB t 64) V y=match iY (l.map jI.num)with
      | .ok _=>.error 25
      | .error e=>.error e:=by rw[hI,zu];rfl
     cases Wi:iY (l.map jI.num)with
     |error er=>
      rw[Wi]at V_;have Is:=uM Wi;have yV:R=.error er:=hl1.err hy V_;subst Is;refine bD [] 87 ((26:Int) != 0) (by decide) ?_;exact j0 [87] (.int .i64 26) (FO fb ⟨some ⟨b,off,none⟩,cl,cc⟩ bn cn dn most (bz s1)++O1) [(bn,bM dT (b_ (cw t))),(dn,dm),(cn,bM dA (b_ zq))] ⟨zq,vR,rfl,s1,O1,E1,fun q h=>by rw[yV]at h;simp at h,by rw[yV];rfl,rfl,hg1,rfl⟩ (eC eK eE)
     |ok gr=>
      rw[Wi]at V_;have yV:R=.error 25:=hl1.err hy V_;refine aS [] 87 ((0:Int) != 0) (by decide) ?_;exact j0 [87] (.int .i64 25) (FO fb ⟨some ⟨b,off,none⟩,cl,cc⟩ bn cn dn most (bz s1)++O1) [(bn,bM dT (b_ (cw t))),(dn,dm),(cn,bM dA (b_ zq))] ⟨zq,vR,rfl,s1,O1,E1,fun q h=>by rw[yV]at h;simp at h,by rw[yV];rfl,rfl,hg1,rfl⟩ (eC eK eE)
    |some fq=>
     rw[ZM]at zu;simp only at zu;refine aj [] (SE V bx pe.x pe.y (P:=(pe.X,pe.Y)) ho hPq Q0 ZM).mF ?_;rintro _ _ ⟨X,Y,rfl,rfl⟩;refine aS [] 82 ((0:Int) != 0) (by decide) ?_;refine cI [82] 1 (gy.cells ⟨X,Y,fq.1,fq.2⟩) bK (fun b8=>?_);refine W.app [] ((FO fb ⟨some ⟨b,off,none⟩,cl,cc⟩ bn cn dn most (bz s1)++O1)++O2) (FO fb ⟨some ⟨b,off,none⟩,cl,cc⟩ bn cn dn most (bz s1)++O1) O2 [] 40 640 l.length 1 (bz s2) (.slice (some ⟨b8,0,none⟩) 1 1) (l.flatMap gy.cells) (gy.cells ⟨X,Y,fq.1,fq.2⟩) bK (by simp) nP (bW b8 _ 1 40 rfl 1) (pz _) (by omega) (by decide) (fun v' O' hg'=>?_);obtain⟨s',rfl⟩:=iz hg';rw[af ((FO fb ⟨some ⟨b,off,none⟩,cl,cc⟩ bn cn dn most (bz s1)++O1)++O')];refine g8 [] _ _ ⟨q+1,IntKind.i64.wrap (y2+1),s',O',l++[⟨X,Y,fq.1,fq.2⟩]⟩ (by kernel_rfl) (by kernel_rfl) ⟨by simp only[ah];omega,by simp only;omega,by simp[hll],?_,?_,?_⟩ (by simp only;omega) (eC eK (eC eK (eC eK (eC eK (eC eK (eC eK (eC Bj eE)))))))
     ·simp only[az,bA,aF,bE,bh,iL,af];exact hg'
     ·simp only;rw[zu,aW,aT];rfl
     ·intro w hw;simp only[aW,ez]at hw;rcases hw with hw|hw
      ·exact hok w hw
      ·simp only[cj,di,aD,aC,bp]at hw;subst hw;exact NQ Q0 hPq ZM
   ·obtain rfl:q=pl.length:=by omega
    rw[bk (by omega)]at zu;simp only[ve,af]at zu;refine aS [] 72 (decide (y2<(pl.length:Int))) (ak (by omega)) ?_;by_cases h0:0<pl.length
    ·have hne:jg y≠ []:=fun e'=>by rw[e',bE]at ac8;omega
     have V_:jH t 64 (gB t 64) V y=h_ y (l.map jI.num):=by rw[hI,zu,if_pos rfl,if_neg hne]
     refine bD [72] 96 (decide ((pl.length:Int)>0)) (aw (by omega)) ?_;refine lQ (FO fb ⟨some ⟨b,off,none⟩,cl,cc⟩ bn cn dn most (bz s1)++O1) O2 [] (by rw[af];kernel_rfl) nP (fun g5 g1 g2=>?_);refine qA (FO fb ⟨some ⟨b,off,none⟩,cl,cc⟩ bn cn dn most (bz s1)++O1) ?_;obtain⟨sa,sn,sc⟩:=s2;simp only at g5 g1 g2;subst g5;refine W.more (by kernel_rfl) (J7 (ao:=sa) (l:=l) (L:=(e+190)/32+1)) ?_;refine cZ [96] [] (FO fb ⟨some ⟨b,off,none⟩,cl,cc⟩ bn cn dn most (bz s1)++O1) [] [(bn,bM dT (b_ (cw t))),(dn,dm),(cn,bM dA (b_ zq))] [] [] ⟨rfl,by rfl,trivial⟩ (eo:=(by simp only[af];kernel_rfl)) (EC fb bn cn dn ⟨some ⟨b,off,none⟩,cl,cc⟩ most s1 yf yp O1 (es++E1) sa sc l (x:=y) (L:=(e+190)/32+1) lK (D8 hok) (by omega) (by omega) (by omega) hg1) ?_;rintro _ _ _ _ ⟨rfl,s3,O3,jv,vT,rfl,rfl,CV,rfl⟩;rw[af (FO fb ⟨some ⟨b,off,none⟩,cl,cc⟩ bn cn dn most (bz s3)++O3)];cases hlr:h_ y (l.map jI.num)with
     |error er=>
      have wi:jH t 64 (gB t 64) V y=.error er:=by rw[V_,hlr]
      have Is:er=25∨er=26:=q9 (oy 64) wi;have yV:R=.error er:=hl1.err hy wi;refine bD [] 109 (er != 0) (by rcases Is with rfl|rfl<;>rfl) ?_;refine j0 [109] (.int .i64 er) (FO fb ⟨some ⟨b,off,none⟩,cl,cc⟩ bn cn dn most (bz s3)++O3) [(bn,bM dT (b_ (cw t))),(dn,dm),(cn,bM dA (b_ zq))] ⟨zq,vR,rfl,s3,O3,E1++jv,fun q h=>by rw[yV]at h;simp at h,by rw[yV];rfl,rfl,?_,rfl⟩ (eC (by rw[show es++(E1++jv)=(es++E1)++jv by simp];exact eK) eE);rw[show es++(E1++jv)=(es++E1)++jv by simp];exact CV
     |ok sr=>
      have wi:jH t 64 (gB t 64) V y=.ok sr:=by rw[V_,hlr]
      obtain⟨n1,n2⟩:=next jv sr wi (vT sr hlr)
      refine aS [] 109 ((0:Int) != 0) (by decide) ?_;refine close [109] _ _ ⟨j+1,IntKind.i64.wrap (z+1),zq,s3,O3,E1++jv⟩ (by kernel_rfl) (by kernel_rfl) ⟨by simp only[ah];omega,hlt,vR,?_,n1,n2⟩ (by simp only;omega) (eC eK (eC eK (eC eK (eC (by rw[show es++(E1++jv)=(es++E1)++jv by simp];exact eK) eE))));simp only;rw[show es++(E1++jv)=(es++E1)++jv by simp];exact CV
    ·have hne:jg y=[]:=aL (by omega);have wi:jH t 64 (gB t 64) V y=.ok []:=by rw[hI,zu,if_pos rfl,if_pos hne]
     obtain⟨n1,n2⟩:=next [] [] wi rfl
     rw[af]at n1 n2;refine aS [72] 96 (decide ((pl.length:Int)>0)) (ak (by omega)) ?_;refine rI (FO fb ⟨some ⟨b,off,none⟩,cl,cc⟩ bn cn dn most (bz s1)++O1) O2 [] (by rw[af];kernel_rfl) ?_;refine qA (FO fb ⟨some ⟨b,off,none⟩,cl,cc⟩ bn cn dn most (bz s1)++O1) ?_;exact close [109,96] _ _ ⟨j+1,IntKind.i64.wrap (z+1),zq,s1,O1,E1⟩ (by kernel_rfl) (by kernel_rfl) ⟨by simp only[ah];omega,hlt,vR,hg1,n1,n2⟩ (by simp only;omega) (eC eK (eC eK (eC eK (eC eK eE))))
  ·have pk:∀(Γ':List aE) [aY (mq yf yp) y Γ'],au tb Tryz.prog 81 [mo yf yp] Γ' (js (.int .u8 10)):=fun Γ' _=>by rw[←hk];exact gL yf yp lK
   refine aj [] (pk _).mF ?_;rintro _ _ ⟨rfl,rfl⟩;have hI:jH t 64 (gB t 64) V y=nR t 64 (gB t 64) y V:=by unfold jH;rw[if_neg (by omega),if_neg (by omega),if_pos (.inl hk)]
   refine cZ [101,62,36] [] (FO fb ⟨some ⟨b,off,none⟩,cl,cc⟩ bn cn dn most (bz s1)++O1) [] [] [(bn,bM dT (b_ (cw t))),(dn,dm),(cn,bM dA (b_ zq))] [] ⟨rfl,by rfl,trivial⟩ (eo:=(by simp only[af];kernel_rfl)) (Kj fb bn cn dn (some ⟨b,off,none⟩) cl cc most dm hF hD tL hW n ih _ yf yp (x:=y) hx Mx (.inl hk) sR V bx Lb e ho hLb Q0 heb zq vR s1 O1 (es++E1) hg1 hfit) ?_;rintro _ _ _ _ ⟨No,D_,rfl,s3,O3,jv,vT,rfl,rfl,CV,rfl⟩;rw[af (FO fb ⟨some ⟨b,off,none⟩,cl,cc⟩ bn cn dn most (bz s3)++O3)];cases hlr:nR t 64 (gB t 64) y V with
   |error er=>
    have wi:jH t 64 (gB t 64) V y=.error er:=by rw[hI,hlr]
    have Is:er=25∨er=26:=q9 (oy 64) wi;have yV:R=.error er:=hl1.err hy wi;refine bD [] 109 (er != 0) (by rcases Is with rfl|rfl<;>rfl) ?_;refine j0 [109] (.int .i64 er) (FO fb ⟨some ⟨b,off,none⟩,cl,cc⟩ bn cn dn most (bz s3)++O3) [(bn,bM dT (b_ (cw t))),(dn,dm),(cn,bM dA (b_ No))] ⟨No,D_,rfl,s3,O3,E1++jv,fun q h=>by rw[yV]at h;simp at h,by rw[yV];rfl,rfl,?_,rfl⟩ (eC (by rw[show es++(E1++jv)=(es++E1)++jv by simp];exact eK) eE);rw[show es++(E1++jv)=(es++E1)++jv by simp];exact CV
   |ok sr=>
    have wi:jH t 64 (gB t 64) V y=.ok sr:=by rw[hI,hlr]
    obtain⟨n1,n2⟩:=next jv sr wi (vT sr hlr)
    refine aS [] 109 ((0:Int) != 0) (by decide) ?_;refine close [109] _ _ ⟨j+1,IntKind.i64.wrap (z+1),No,s3,O3,E1++jv⟩ (by kernel_rfl) (by kernel_rfl) ⟨by simp only[ah];omega,hlt,D_,?_,n1,n2⟩ (by simp only;omega) (eC eK (eC eK (eC eK (eC (by rw[show es++(E1++jv)=(es++E1)++jv by simp];exact eK) eE))));simp only;rw[show es++(E1++jv)=(es++E1)++jv by simp];exact CV
  ·have pk:∀(Γ':List aE) [aY (mq yf yp) y Γ'],au tb Tryz.prog 81 [mo yf yp] Γ' (js (.int .u8 11)):=fun Γ' _=>by rw[←hk];exact gL yf yp lK
   refine aj [] (pk _).mF ?_;rintro _ _ ⟨rfl,rfl⟩;have hI:jH t 64 (gB t 64) V y=nR t 64 (gB t 64) y V:=by unfold jH;rw[if_neg (by omega),if_neg (by omega),if_pos (.inr hk)]
   refine cZ [101,62,36] [] (FO fb ⟨some ⟨b,off,none⟩,cl,cc⟩ bn cn dn most (bz s1)++O1) [] [] [(bn,bM dT (b_ (cw t))),(dn,dm),(cn,bM dA (b_ zq))] [] ⟨rfl,by rfl,trivial⟩ (eo:=(by simp only[af];kernel_rfl)) (Kj fb bn cn dn (some ⟨b,off,none⟩) cl cc most dm hF hD tL hW n ih _ yf yp (x:=y) hx Mx (.inr hk) sR V bx Lb e ho hLb Q0 heb zq vR s1 O1 (es++E1) hg1 hfit) ?_;rintro _ _ _ _ ⟨No,D_,rfl,s3,O3,jv,vT,rfl,rfl,CV,rfl⟩;rw[af (FO fb ⟨some ⟨b,off,none⟩,cl,cc⟩ bn cn dn most (bz s3)++O3)];cases hlr:nR t 64 (gB t 64) y V with
   |error er=>
    have wi:jH t 64 (gB t 64) V y=.error er:=by rw[hI,hlr]
    have Is:er=25∨er=26:=q9 (oy 64) wi;have yV:R=.error er:=hl1.err hy wi;refine bD [] 109 (er != 0) (by rcases Is with rfl|rfl<;>rfl) ?_;refine j0 [109] (.int .i64 er) (FO fb ⟨some ⟨b,off,none⟩,cl,cc⟩ bn cn dn most (bz s3)++O3) [(bn,bM dT (b_ (cw t))),(dn,dm),(cn,bM dA (b_ No))] ⟨No,D_,rfl,s3,O3,E1++jv,fun q h=>by rw[yV]at h;simp at h,by rw[yV];rfl,rfl,?_,rfl⟩ (eC (by rw[show es++(E1++jv)=(es++E1)++jv by simp];exact eK) eE);rw[show es++(E1++jv)=(es++E1)++jv by simp];exact CV
   |ok sr=>
    have wi:jH t 64 (gB t 64) V y=.ok sr:=by rw[hI,hlr]
    obtain⟨n1,n2⟩:=next jv sr wi (vT sr hlr)
    refine aS [] 109 ((0:Int) != 0) (by decide) ?_;refine close [109] _ _ ⟨j+1,IntKind.i64.wrap (z+1),No,s3,O3,E1++jv⟩ (by kernel_rfl) (by kernel_rfl) ⟨by simp only[ah];omega,hlt,D_,?_,n1,n2⟩ (by simp only;omega) (eC eK (eC eK (eC eK (eC (by rw[show es++(E1++jv)=(es++E1)++jv by simp];exact eK) eE))));simp only;rw[show es++(E1++jv)=(es++E1)++jv by simp];exact CV
  ·have pk:∀(Γ':List aE) [aY (mq yf yp) y Γ'],au tb Tryz.prog 81 [mo yf yp] Γ' (js (.int .u8 12)):=fun Γ' _=>by rw[←hk];exact gL yf yp lK
   refine aj [] (pk _).mF ?_;rintro _ _ ⟨rfl,rfl⟩;have wi:jH t 64 (gB t 64) V y=.ok []:=by unfold jH;rw[if_neg (by omega),if_neg (by omega),if_neg (by omega)]
   obtain⟨n1,n2⟩:=next [] [] wi rfl
   rw[af]at n1 n2;exact close [109,101,62,36] _ _ ⟨j+1,IntKind.i64.wrap (z+1),zq,s1,O1,E1⟩ (by kernel_rfl) (by kernel_rfl) ⟨by simp only[ah];omega,hlt,vR,hg1,n1,n2⟩ (by simp only;omega) (eC eK (eC eK (eC eK (eC eK eE))))
  ·have pk:∀(Γ':List aE) [aY (mq yf yp) y Γ'],au tb Tryz.prog 81 [mo yf yp] Γ' (js (.int .u8 21)):=fun Γ' _=>by rw[←hk];exact gL yf yp lK
   refine aj [] (pk _).mF ?_;rintro _ _ ⟨rfl,rfl⟩;have wi:jH t 64 (gB t 64) V y=.ok []:=by unfold jH;rw[if_neg (by omega),if_neg (by omega),if_neg (by omega)]
   obtain⟨n1,n2⟩:=next [] [] wi rfl
   rw[af]at n1 n2;exact close [109,101,62,36] _ _ ⟨j+1,IntKind.i64.wrap (z+1),zq,s1,O1,E1⟩ (by kernel_rfl) (by kernel_rfl) ⟨by simp only[ah];omega,hlt,vR,hg1,n1,n2⟩ (by simp only;omega) (eC eK (eC eK (eC eK (eC eK eE))))
  ·have pk:∀(Γ':List aE) [aY (mq yf yp) y Γ'],au tb Tryz.prog 81 [mo yf yp] Γ' (js (.int .u8 45)):=fun Γ' _=>by rw[←hk];exact gL yf yp lK
   refine aj [] (pk _).mF ?_;rintro _ _ ⟨rfl,rfl⟩;have h4:=xC Wx (.inr hk);have hpl:=BG lK;have hI:jH t 64 (gB t 64) V y=h_ y ((bu y).dropLast.map (xW V)):=by unfold jH;rw[if_pos (.inr hk)]
   refine aj [36] (oI yf yp (x:=y) lK).mF ?_;rintro _ _ ⟨u,⟨u1,u2,u3⟩,rfl,rfl⟩;obtain⟨pb,po,hao⟩:=u3 (by intro e';rw[e']at h4;simp at h4);obtain⟨ua,un,uc⟩:=u;simp only at u1 u2 hao;subst hao;have hdl:(bu y).dropLast.length=un-1:=by rw[List.length_dropLast,u1]
   refine Cw [] 2 pb po un uc none (some (.int .i64 (IntKind.i64.wrap ((un:Int)-1)))) 0 (un-1) bK (.inr ⟨rfl,rfl⟩) (.inl (by rw[ah];congr;omega)) (aM _) (by omega) (by omega) ?_;refine jZ [] [9,47] (fun a:U_=>[(9,bz a.s),(47,.int .i64 a.z)]) (fun _=>[]) (fun a=>(FO fb ⟨some ⟨b,off,none⟩,cl,cc⟩ bn cn dn most (bz s1)++O1)++a.O)
    (fun a=>[OF bx (Lb,V),uC ⟨some ⟨b2,pd,none⟩,im,ic⟩ x.i,mq yf yp y,pF ⟨some ⟨b,off,none⟩,cl,cc⟩ t,rB oR (bz s1) (es++E1),zA ⟨some ⟨pb,po,none⟩,un,uc⟩ (bu y),OS gy ((e+190)/32+1,a.l)])
    (fun a=>a.z=a.j∧a.j≤un-1∧a.l.length=a.j∧cG 40 a.O (bz a.s) a.l.length (a.l.flatMap gy.cells)∧a.l.map jI.num=((bu y).dropLast.take a.j).map (xW V)∧∀q∈a.l.map jI.num,Cq e q)
    (fun a=>un-1-a.j) ⟨0,0,⟨none,0,0⟩,[],[]⟩ (h0:=(by simp only[af];kernel_rfl)) ⟨rfl,aM _,rfl,cG.nil 40,rfl,fun q hq=>by simp at hq⟩ (eC eK (eC eK (eC eK (eC eK (eC eK (eC eK (eC (fun I w hd hh e he=>by simp at he) eE))))))) ?_
   rintro⟨q,y2,s2,O2,l⟩ K2 ⟨Ox,hq,hll,nP,Eg,hok⟩ g8;simp only at Ox hq hll nP Eg hok;by_cases JP:q<un-1
   ·obtain⟨p,hp⟩:∃p,(bu y)[q]? =some p:=⟨_,ar (by omega)⟩;have hdp:(bu y).dropLast[q]? =some p:=by rw[List.getElem?_dropLast,if_pos (by omega)];exact hp
    have hpi:=uR hyb p (aO hp);have ex:p.x.natAbs≤2^31:=by show p.x.natAbs≤2147483648;omega
    have ey:p.y.natAbs≤2^31:=by show p.y.natAbs≤2147483648;omega
    refine bD [] 48 (decide (y2<((un-1-0:Nat):Int))) (aw (by omega)) ?_;refine cA [48] 2 pb (po+0*2) (un-1-0) (uc-0) .i64 q y2 Ox bK (by omega) ?_;refine dd [] pb (po+0*2+q*2) (d_ p) bK (fun I w hd hh k v hv=>by
     rw[lq,fk];exact n_ pb po un uc hp I w hd hh k v hv) ?_
    refine aj [] (Pu V bx p ho Q0 ex ey).mF ?_;rintro _ _ ⟨X,Y,rfl,rfl⟩;refine cI [] 1 (gy.cells ⟨X,Y,(xW V p).1,(xW V p).2⟩) bK (fun b8=>?_);refine W.app [] ((FO fb ⟨some ⟨b,off,none⟩,cl,cc⟩ bn cn dn most (bz s1)++O1)++O2) (FO fb ⟨some ⟨b,off,none⟩,cl,cc⟩ bn cn dn most (bz s1)++O1) O2 [] 40 640 l.length 1 (bz s2) (.slice (some ⟨b8,0,none⟩) 1 1) (l.flatMap gy.cells) (gy.cells ⟨X,Y,(xW V p).1,(xW V p).2⟩) bK (by simp) nP (bW b8 _ 1 40 rfl 1) (pz _) (by omega) (by decide) (fun v' O' hg'=>?_);obtain⟨s',rfl⟩:=iz hg';rw[af ((FO fb ⟨some ⟨b,off,none⟩,cl,cc⟩ bn cn dn most (bz s1)++O1)++O')];refine g8 [] _ _ ⟨q+1,IntKind.i64.wrap (y2+1),s',O',l++[⟨X,Y,(xW V p).1,(xW V p).2⟩]⟩ (by kernel_rfl) (by kernel_rfl) ⟨by simp only[ah];omega,by simp only;omega,by simp[hll],?_,?_,?_⟩ (by simp only;omega) (eC eK (eC eK (eC eK (eC eK (eC eK (eC eK (eC Bj eE)))))))
    ·simp only[az,bA,aF,bE,bh,iL,af];exact hg'
    ·simp only;rw[fy hdp,aW,aW,Eg];rfl
    ·intro w hw;simp only[aW,ez]at hw;rcases hw with hw|hw
     ·exact hok w hw
     ·simp only[cj,di,aD,aC,bp]at hw;subst hw;exact M8 Q0 ex ey
   ·obtain rfl:q=un-1:=by omega
    have htk:(bu y).dropLast.take (un-1)=(bu y).dropLast:=aV (by omega);rw[htk]at Eg;refine aS [] 48 (decide (y2<((un-1-0:Nat):Int))) (ak (by omega)) ?_;refine lQ (FO fb ⟨some ⟨b,off,none⟩,cl,cc⟩ bn cn dn most (bz s1)++O1) O2 [] (by rw[af];kernel_rfl) nP (fun g5 g1 g2=>?_);refine qA (FO fb ⟨some ⟨b,off,none⟩,cl,cc⟩ bn cn dn most (bz s1)++O1) ?_;obtain⟨sa,sn,sc⟩:=s2;simp only at g5 g1 g2;subst g5;refine W.more (by kernel_rfl) (J7 (ao:=sa) (l:=l) (L:=(e+190)/32+1)) ?_;refine cZ [48] [] (FO fb ⟨some ⟨b,off,none⟩,cl,cc⟩ bn cn dn most (bz s1)++O1) [] [(bn,bM dT (b_ (cw t))),(dn,dm),(cn,bM dA (b_ zq))] [] [] ⟨rfl,by rfl,trivial⟩ (eo:=(by simp only[af];kernel_rfl)) (EC fb bn cn dn ⟨some ⟨b,off,none⟩,cl,cc⟩ most s1 yf yp O1 (es++E1) sa sc l (x:=y) (L:=(e+190)/32+1) lK (D8 hok) (by omega) (by omega) (by omega) hg1) ?_;rintro _ _ _ _ ⟨rfl,s3,O3,jv,vT,rfl,rfl,CV,rfl⟩;rw[af (FO fb ⟨some ⟨b,off,none⟩,cl,cc⟩ bn cn dn most (bz s3)++O3)];rw[Eg]at vT⊢;cases hlr:h_ y ((bu y).dropLast.map (xW V))with
    |error er=>
     have wi:jH t 64 (gB t 64) V y=.error er:=by rw[hI,hlr]
     have Is:er=25∨er=26:=q9 (oy 64) wi;have yV:R=.error er:=hl1.err hy wi;refine bD [] 109 (er != 0) (by rcases Is with rfl|rfl<;>rfl) ?_;refine j0 [109] (.int .i64 er) (FO fb ⟨some ⟨b,off,none⟩,cl,cc⟩ bn cn dn most (bz s3)++O3) [(bn,bM dT (b_ (cw t))),(dn,dm),(cn,bM dA (b_ zq))] ⟨zq,vR,rfl,s3,O3,E1++jv,fun q h=>by rw[yV]at h;simp at h,by rw[yV];rfl,rfl,?_,rfl⟩ (eC (by rw[show es++(E1++jv)=(es++E1)++jv by simp];exact eK) eE);rw[show es++(E1++jv)=(es++E1)++jv by simp];exact CV
    |ok sr=>
     have wi:jH t 64 (gB t 64) V y=.ok sr:=by rw[hI,hlr]
     obtain⟨n1,n2⟩:=next jv sr wi (vT sr hlr)
     refine aS [] 109 ((0:Int) != 0) (by decide) ?_;refine close [109] _ _ ⟨j+1,IntKind.i64.wrap (z+1),zq,s3,O3,E1++jv⟩ (by kernel_rfl) (by kernel_rfl) ⟨by simp only[ah];omega,hlt,vR,?_,n1,n2⟩ (by simp only;omega) (eC eK (eC eK (eC eK (eC (by rw[show es++(E1++jv)=(es++E1)++jv by simp];exact eK) eE))));simp only;rw[show es++(E1++jv)=(es++E1)++jv by simp];exact CV
 ·have Ud:R=.ok (E1.map qO.x):=hl1.fin (by omega);refine aS [] 31 (decide (z<(im:Int))) (ak (by omega)) ?_;exact j0 [31] (.int .i64 0) (FO fb ⟨some ⟨b,off,none⟩,cl,cc⟩ bn cn dn most (bz s1)++O1) [(bn,bM dT (b_ (cw t))),(dn,dm),(cn,bM dA (b_ zq))] ⟨zq,vR,rfl,s1,O1,E1,fun q h=>by rw[Ud]at h;injection h,by rw[Ud];rfl,rfl,hg1,rfl⟩ (eC eK eE)
theorem UI(fb bn cn dn:Nat)(ca:Option Addr)(cl cc:Nat)(most:Int)(dm:List (Value×Value)){t:List Ce}(hF:Tp t)(hD:zy t)(tL:0≤most∧most≤100000)(hW:zx t≤160):∀n,Rl fb bn cn dn ca cl cc most dm t n
 |0=>fun Γ _ c i d hc hi sR=>by simp[dep]at sR
 |n+1=>Xc fb bn cn dn ca cl cc most dm hF hD tL hW n (UI fb bn cn dn ca cl cc most dm hF hD tL hW n)
end
end Go.Proofs.YtgaaopjagcaojaaGreat
