import Derived.Test.YtgaaopjagcaojaaGreatLm
set_option linter.unusedSimpArgs false
set_option linter.unusedVariables false
set_option maxHeartbeats 4000000
namespace Go.Proofs.YtgaaopjagcaojaaGreat
open Go.RowKit Go.IntWalk
theorem x6{l m:List Re}{x:Im}(h:fT l=some (x,m)):m.length<l.length:=by
 rw[rH _ _ _ h,aA];have:=List.length_pos_iff.2 (qF x);omega
theorem x5{l m:List Re}{x:Ce}(h:pO l=some (x,m)):m.length<l.length:=by
 rw[rG _ _ _ h,aA];have:=List.length_pos_iff.2 (qE x);omega
theorem yN:∀(n n':Nat) (l:List Re),l.length≤n→l.length≤n'→fQ n l=fQ n' l
 |0,0,l,_,_=>rfl
 |0,n'+1,l,h,_=>by
  have:l=[]:=aM (by omega);subst this;simp[fQ,dX]
 |n+1,0,l,_,h=>by
  have:l=[]:=aM (by omega);subst this;simp[fQ,dX]
 |n+1,n'+1,l,h,h'=>by
  unfold fQ;split
  ·split
   ·rename_i a m hm;have:=x6 hm;rw[yN n n' m (by omega) (by omega)]
   ·rfl
  ·rfl
theorem yM:∀(n n':Nat) (l:List Re),l.length≤n→l.length≤n'→fz n l=fz n' l
 |0,0,l,_,_=>rfl
 |0,n'+1,l,h,_=>by
  have:l=[]:=aM (by omega);subst this;simp[fz,dN]
 |n+1,0,l,_,h=>by
  have:l=[]:=aM (by omega);subst this;simp[fz,dN]
 |n+1,n'+1,l,h,h'=>by
  unfold fz;split
  ·split
   ·rename_i a m hm;have:=x5 hm;rw[yM n n' m (by omega) (by omega)]
   ·rfl
  ·rfl
theorem CZ{k:Int}{l m:List Re}{r:Re}(h:gY k l=some (r,m)):m.length<l.length:=by
 rw[(fA h).1];simp
theorem GK{l:List Re}(h:dX l=true):fQ l.length l=(match fT l with
  |some (a,m)=>(match fQ m.length m with
   |some (b,m')=>some (a::b,m')
   |none=>none)
  |none=>none):=by
 cases l with
 |nil=>simp[dX]at h
 |cons r l=>
  rw[aD];show fQ (l.length+1) (r::l)=_;rw[fQ,if_pos h];cases hp:fT (r::l)with
  |none=>rfl
  |some q=>
   obtain⟨a,m⟩:=q;have:=x6 hp;simp only;rw[yN l.length m.length m (by simp at this;omega) (aj _)];cases fQ m.length m<;>rfl
theorem GL{l:List Re}(h:¬dX l=true):fQ l.length l=some ([],l):=by
 cases l with
 |nil=>rfl
 |cons r l=>
  rw[aD];show fQ (l.length+1) (r::l)=_;rw[fQ,if_neg h]
theorem GI{l:List Re}(h:dN 5 l=true):fz l.length l=(match pO l with
  |some (a,m)=>(match fz m.length m with
   |some (b,m')=>some (a::b,m')
   |none=>none)
  |none=>none):=by
 cases l with
 |nil=>simp[dN]at h
 |cons r l=>
  rw[aD];show fz (l.length+1) (r::l)=_;rw[fz,if_pos h];cases hp:pO (r::l)with
  |none=>rfl
  |some q=>
   obtain⟨a,m⟩:=q;have:=x5 hp;simp only;rw[yM l.length m.length m (by simp at this;omega) (aj _)];cases fz m.length m<;>rfl
theorem GJ{l:List Re}(h:¬dN 5 l=true):fz l.length l=some ([],l):=by
 cases l with
 |nil=>rfl
 |cons r l=>
  rw[aD];show fz (l.length+1) (r::l)=_;rw[fz,if_neg h]
theorem GM{l:List Re}(h:dN 55 l=true):fJ l.length l=(match gY 55 l with
  |some (a,m)=>(match fJ m.length m with
   |some (b,m')=>some (a::b,m')
   |none=>none)
  |none=>none):=by
 cases l with
 |nil=>simp[dN]at h
 |cons r l=>
  rw[aD];show fJ (l.length+1) (r::l)=_;rw[fJ,if_pos h];cases hp:gY 55 (r::l)with
  |none=>rfl
  |some q=>
   obtain⟨a,m⟩:=q;have:=CZ hp;simp only;rw[yO l.length m.length m (by simp at this;omega) (aj _)];cases fJ m.length m<;>rfl
theorem GN{l:List Re}(h:¬dN 55 l=true):fJ l.length l=some ([],l):=by
 cases l with
 |nil=>rfl
 |cons r l=>
  rw[aD];show fJ (l.length+1) (r::l)=_;rw[fJ,if_neg h]
theorem LP(l:List Re):Xq [8,9,10,11,12,21,45] l=dX l:=by
 cases l with
 |nil=>rfl
 |cons r m=>
  unfold Xq dX oP;simp only[List.contains_cons,List.contains_nil,Bool.or_false];simp only[Bool.or_assoc]
def sK{α:Type}(R:kK α)(v:Value)(es:List α):aC where
 p I w:=(OS R (0,es)).p I w
 up:=(OS R (0,es)).up
theorem Ot{α β:Type}(R:kK α)(num:α→β){v:Value}{es:List α}{ao:Option Addr}{n c:Nat}{I:fN}{w:World}(hn:n=es.length)(h1:n≤c)(h2:c≤maxLen)(h3:(sK R v es).p I w)(h4:(RA ao (es.flatMap R.cells)).p I w):(LF R num ⟨ao,n,c⟩ (es.map num)).p I w:=
 ⟨es,rfl,by rw[bT];exact hn,⟨h1,h2⟩,h3,h4⟩
theorem sK.snoc{α:Type}{R:kK α}{v v':Value}{es:List α}{e:α}{I:fN}{w:World}(h:(sK R v es).p I w)(he:(R.fact 0 e).p I w):(sK R v' (es++[e])).p I w:=fun x hx=>by
 rcases List.mem_append.1 hx with h'|h'
 ·exact h x h'
 ·simp only[aH,aI,bU]at h';subst h';exact he
section
variable{T:Tb}{P:Program}{fin:VS→List aC→Prop}{Γ:List aC}
theorem Rj{s:VS}{k:List It}{z n:Nat}(A O1 O2:List (Nat×List Value)){v:Value}{xs:List Value}(ho:s.own=A++(O1++O2))(hg:cH z O1 v n xs)(hm:dz k=false)
  (hk:∀ao c',v=.slice ao n c'→n≤c'→c'≤maxLen→W T P fin ⟨s.setOwn (A++O2),k⟩ (RA ao xs::Γ)):W T P fin ⟨s,k⟩ Γ:=by
 obtain⟨hl,hg⟩:=hg;rcases hg with⟨rfl,rfl,rfl⟩|⟨g,cap,cur,rfl,rfl,hnc,hcm,hcs,htk⟩
 ·obtain rfl:xs=[]:=aM (by simpa using hl);have hs:s.own=A++O2:=ho;refine W.elim (α:=Unit) (fun _=>True) (fun _=>[RA none []]) hm (fun I w _ hh=>⟨(),trivial,aU (RA.nil _ _ _)⟩) (fun _ _=>?_);have:=hk none 0 rfl (aj _) (aJ _);rw[←hs]at this;exact this
 ·refine W.pub (O1:=A) (O2:=O2) (b:=g) (cs:=cur) hm ho ?_;refine W.elim (α:=Unit) (fun _=>True) (fun _=>[RA (some ⟨g,0,none⟩) xs]) hm (fun I w _ hh=>⟨(),trivial,aU (RA.of_row hh.h0' fun i v hv=>?_)⟩) (fun _ _=>?_)
  ·rw[←htk,dw]at hv;split at hv
   ·exact hv
   ·simp at hv
  ·refine W.sub hm (fun I w _ hh=>?_) (hk _ _ rfl hnc hcm);exact aE.cons hh.h0' (fun F hF=>hh F (by simp[hF]))
end
theorem iC{z:Nat}{O:List (Nat×List Value)}{v:Value}{n:Nat}{xs:List Value}(h:cH z O v n xs):∃s:Sl,v=a_ s:=by
 rcases h.2 with⟨rfl,_,_⟩|⟨g,cap,cur,rfl,_⟩
 ·exact⟨⟨none,0,0⟩,rfl⟩
 ·exact⟨⟨some ⟨g,0,none⟩,n,cap⟩,rfl⟩
section
variable{T:Tb}{P:Program}{fin:VS→List aC→Prop}{c:fC}{Γ:List aC}
theorem mo{z n:Nat}(A O1 O2:List (Nat×List Value)){s:Sl}{xs:List Value}(ho:(dD T 999 c).s.own=A++(O1++O2))(hg:cH z O1 (a_ s) n xs)
  (hk:s.n=n→s.n≤s.c→s.c≤maxLen→W T P fin ⟨(dD T 999 c).s.setOwn (A++O2),(dD T 999 c).k⟩ (RA s.ao xs::Γ))(hm:dz (dD T 999 c).k=false:=by kernel_rfl):W T P fin c Γ:=
 mL A O1 O2 ho hg (hm:=hm) (fun ao c' hv h1 h2=>by
  injection hv with e1 e2 e3;subst e1;rw[←e2]at h1;rw[←e3]at h1 h2;exact hk e2 h1 h2)
theorem Rk{s:VS}{k:List It}{z n:Nat}(A O1 O2:List (Nat×List Value)){u:Sl}{xs:List Value}(ho:s.own=A++(O1++O2))(hg:cH z O1 (a_ u) n xs)
  (hk:u.n=n→u.n≤u.c→u.c≤maxLen→W T P fin ⟨s.setOwn (A++O2),k⟩ (RA u.ao xs::Γ))(hm:dz k=false:=by kernel_rfl):W T P fin ⟨s,k⟩ Γ:=
 Rj A O1 O2 ho hg hm (fun ao c' hv h1 h2=>by
  injection hv with e1 e2 e3;subst e1;rw[←e2]at h1;rw[←e3]at h1 h2;exact hk e2 h1 h2)
end
def Dk(pb:Nat)(sl:Sl)(cI:Nat)(rs:List Re)(v:Value)(O:List (Nat×List Value))(M:List (Nat×List (Value×Value)))(Δ:List aC):Prop:=
 ∃(t:Li) (h c:Sl) (yl:Nat),rJ (rs.drop cI)=some (t,rs.drop yl)∧v=lO h c∧O=PO pb sl yl∧M=[]∧Δ=[B8 h c t]
structure sG where
 a:Nat
 v:Sl
 O:List (Nat×List Value)
 es:List pd
structure Yy where
 a:Nat
 v:Sl
 O:List (Nat×List Value)
 es:List ph
def XY(pb:Nat):sG→List (Nat×SV):=fun _=>[(0,.val (fg pb)),(2,.ptr 2 0),(3,.ptr 3 0)]
def XZ(h:Sl):sG→List (Nat×List Value):=fun q=>[(2,[.slice none 0 0,.slice none 0 0]),(3,[a_ h,a_ q.v])]
def Y_(pb:Nat)(sl:Sl):sG→List (Nat×List Value):=fun q=>PO pb sl q.a++q.O
def Y7(sl:Sl)(rs:List Re)(h:Sl)(hs:List Re):sG→List aC:=fun q=>[kH sl rs,kH h hs,sK lF (a_ q.v) q.es]
def Y8(rs:List Re)(a0:Nat):sG→Prop:=fun q=>rs.drop a0=(q.es.map pd.x).flatMap fS++rs.drop q.a∧cH 2 q.O (a_ q.v) q.es.length (q.es.flatMap lF.cells)∧fz (rs.drop a0).length (rs.drop a0)=(match fz (rs.drop q.a).length (rs.drop q.a)with
   |some (b,m)=>some (q.es.map pd.x++b,m)
   |none=>none)
def Y9(rs:List Re):sG→Nat:=fun q=>(rs.drop q.a).length
theorem s8{α:Type}{f:α→List Re}(hf:∀x,f x≠ []):∀l:List α,l.length≤(l.flatMap f).length
 | []=>aj _
 |x::l=>by
  rw[bL,aA,aD];have:=s8 hf l;have:=List.length_pos_iff.2 (hf x);omega
theorem Qb(u v:Sl):∀x∈[a_ u,a_ v],x.oneCell'=true:=by
 intro x hx;simp only[aH,aI,bU]at hx;rcases hx with rfl|rfl<;>rfl
section
variable{Γ:List aC}
theorem AO(B:Prop)(pb:Nat)(sl h:Sl)(cI a0:Nat){rs hs:List Re}(hlen:rs.length≤100000)(hf:pP (rs.drop cI)=some (hs,rs.drop a0))(hB:rJ (rs.drop cI)=none→B)(q:sG)(R:VS→List aC→Prop)(hq:Y8 rs a0 q)
  (close:∀(D':List Nat) (c':fC) (Γ':List aC) (a':sG),oD (aK (rN B) (aZ (rN B) D' 999 c'))=some R→
    (oE (aK (rN B) (aZ (rN B) D' 999 c'))).map (fun s=>s.only [0,2,3] [2,3])=some (jx 104 104 (XY pb a') (XZ h a') (Y_ pb sl a') [])→
    Y8 rs a0 a'→Y9 rs a'<Y9 rs q→(∀I w,br (rN B) I w→aE Γ' I w→aE (Y7 sl rs h hs a') I w)→W (rN B) Tryz.prog (Ku (rN B) Tryz.f73 (Dk pb sl cI rs)) c' Γ'):
  W (rN B) Tryz.prog (Ku (rN B) Tryz.f73 (Dk pb sl cI rs)) ⟨jx 104 104 (XY pb q) (XZ h q) (Y_ pb sl q) [],.code (Yj Tryz.f73 1)::.again R::Yk Tryz.f73 1⟩ (Y7 sl rs h hs q):=by
 obtain⟨a,v,O,es⟩:=q;obtain⟨he,hg,hp⟩:=hq;simp only at he hg hp;have hel:es.length≤100000:=by
  have h1:=dF List.length he;have h2:=s8 qE (es.map pd.x);simp at h1 h2;omega
 have xq:(match fz (rs.drop a0).length (rs.drop a0)with
   |some (_,m)=>gY 4 m
   |none=>none)=none→B:=fun h=>hB (by
  unfold rJ;rw[hf];simp only;cases hq:fz (rs.drop a0).length (rs.drop a0)with
  |none=>rfl
  |some q=>
   rw[hq]at h;simp only at h⊢;rw[h])
 rw[hp]at xq;show W (rN B) Tryz.prog _ ⟨jx 104 104 (XY pb ⟨a,v,O,es⟩) (XZ h ⟨a,v,O,es⟩) (PO pb sl a++O) [],_⟩ [kH sl rs,kH h hs,sK lF (a_ v) es];refine bW [] 0 pb 0 (aQ B) ?_;refine cQ [] 1 [.int .u8 5] (aQ B) (fun b9=>?_);refine cX [] [] (PO pb sl a) O [] [] [] ⟨rfl,by rfl,trivial⟩ (rD B pb sl a b9 1 (rs:=rs) (ks:=[5]) rfl (by decide)) ?_;rintro _ _ _ _ ⟨rfl,rfl,rfl,rfl⟩;rw[uD];by_cases DR:dN 5 (rs.drop a)=true
 ·rw[GI DR]at hp xq;have hBc:pO (rs.drop a)=none→B:=fun h=>xq (by rw[h]);refine bk [] 72 (dN 5 (rs.drop a)) DR ?_;refine cQ [72] 3 [.int .i64 5,.int .i64 6,.int .i64 308] (aQ B) (fun y6=>?_);refine cX [] [] (PO pb sl a) O [] [] [] ⟨rfl,by rfl,trivial⟩ (lT B pb sl a y6 3 (rs:=rs) (ks:=[5,6,308]) rfl (by decide) (fun h=>hBc (by unfold pO;rw[h]))) ?_;rintro _ _ _ _ ⟨eh,a1,O1,rY,ha1,hl1,rfl,hg1,rfl,rfl⟩;obtain⟨v1,rfl⟩:=iC hg1;have NV:pO (rs.drop a)=(match fQ (rs.drop a1).length (rs.drop a1)with
   |some (i,m')=>(match gY 7 m' with
    |some (_,Lo)=>some (⟨eh.map dp.r,i⟩,Lo)
    |none=>none)
   |none=>none):=by
   unfold pO;rw[rY];simp only;cases fQ (rs.drop a1).length (rs.drop a1)with
   |none=>rfl
   |some q=>rfl
  refine gO [] [] (fun _:Yy=>[]) (fun q=>[(5,[a_ v1,a_ q.v])]) (fun q=>PO pb sl q.a++(q.O++(O1++O))) (fun q=>[kH sl rs,kH h hs,sK lF (a_ v) es,iG (a_ v1) eh,sK pX (a_ q.v) q.es]) (fun q=>rs.drop a1=(q.es.map ph.x).flatMap fD++rs.drop q.a∧cH 2 q.O (a_ q.v) q.es.length (q.es.flatMap pX.cells)∧fQ (rs.drop a1).length (rs.drop a1)=(match fQ (rs.drop q.a).length (rs.drop q.a)with
   |some (b,m)=>some (q.es.map ph.x++b,m)
   |none=>none)) (fun q=>(rs.drop q.a).length) ⟨a1,⟨none,0,0⟩,[],[]⟩ ⟨rfl,cH.nil 2,by
    simp only[dA,aB];cases fQ (rs.drop a1).length (rs.drop a1)<;>rfl⟩ (eC eK (eC eK (eC eK (eC eK (eC (fun I w hd hh e he=>by simp at he) eE))))) ?_
  rintro⟨a2,vi,Oi,ei⟩ K ⟨hi1,ZG,hpi⟩ Vu;simp only at hi1 ZG hpi;have ags:ei.length≤100000:=by
   have h1:=dF List.length hi1;have h2:=s8 qF (ei.map ph.x);simp at h1 h2;omega
  refine bW [] 0 pb 0 (aQ B) ?_;refine cQ [] 7 [.int .u8 8,.int .u8 9,.int .u8 10,.int .u8 11,.int .u8 12,.int .u8 21,.int .u8 45] (aQ B) (fun Ae=>?_);refine cX [] [] (PO pb sl a2) (Oi++(O1++O)) [] [] [] ⟨rfl,by rfl,trivial⟩ (rD B pb sl a2 Ae 7 (rs:=rs) (ks:=[8,9,10,11,12,21,45]) rfl (by decide)) ?_;rintro _ _ _ _ ⟨rfl,rfl,rfl,rfl⟩;rw[LP];by_cases hsi:dX (rs.drop a2)=true
  ·rw[GK hsi]at hpi;have hBi:fT (rs.drop a2)=none→B:=fun h=>hBc (by rw[NV,hpi,h]);refine bk [] 81 (dX (rs.drop a2)) hsi ?_;refine cX [81] [] (PO pb sl a2) (Oi++(O1++O)) [] [] [] ⟨rfl,by rfl,trivial⟩ (WO B pb sl a2 (rs:=rs) hlen hsi hBi) ?_;rintro _ _ _ _ ⟨x,f,p,a3,hx,rfl,rfl,rfl,rfl⟩;rw[hx]at hpi;refine cQ [] 1 [a_ f,a_ p] (aQ B) (fun Tx=>?_);refine W.app [] (PO pb sl a3++(Oi++(O1++O))) (PO pb sl a3) Oi (O1++O) 2 48 ei.length 1 (a_ vi) (.slice (some ⟨Tx,0,none⟩) 1 1) (ei.flatMap pX.cells) [a_ f,a_ p] (aQ B) (by simp) ZG (b_ Tx _ 1 2 rfl 1) (Qb f p) (by omega) (by decide) (fun v' O' hg'=>?_);obtain⟨v',rfl⟩:=iC hg';refine Vu [] _ _ ⟨a3,v',O',ei++[⟨f,p,x⟩]⟩ (by kernel_rfl) (by kernel_rfl) ⟨?_,cH.cast (by simp[pX]) (by simp) hg',?_⟩ (x6 hx) (eC eK (eC eK (eC eK (eC eK (eC (fun I w hd hh=>sK.snoc (R:=pX) (e:=(⟨f,p,x⟩:ph)) (eK (k:=sK pX (a_ vi)) I w hd hh) (eK (k:=mK f p) I w hd hh)) eE)))))
   ·rw[hi1,rH _ _ _ hx];simp
   ·rw[hpi];simp only;cases fQ (rs.drop a3).length (rs.drop a3)with
    |none=>rfl
    |some q=>simp
  ·rw[GL hsi]at hpi;simp only[ah]at hpi;refine aR [] 81 (dX (rs.drop a2)) (by simpa using hsi) ?_;refine bW [81] 0 pb 0 (aQ B) ?_;refine cX [] [] (PO pb sl a2) (Oi++(O1++O)) [] [] [] ⟨rfl,by rfl,trivial⟩ (lS B pb sl a2 7 (rs:=rs) (fun h=>hBc (by rw[NV,hpi];simp only;rw[h]))) ?_;rintro _ _ _ _ ⟨r7,u7,hm7,rfl,rfl,rfl,rfl⟩;rw[hpi]at NV;simp only at NV;rw[hm7]at NV;simp only at NV;rw[NV]at hp;simp only at hp;refine mo (PO pb sl (a2+1)) Oi (O1++O) (by kernel_rfl) ZG (fun g5 g3 g4=>?_);refine Rk (PO pb sl (a2+1)) O1 O rfl hg1 (fun g6 g1 g2=>?_);refine cQ [] 1 [a_ v1,a_ vi] (aQ B) (fun Ch=>?_);refine W.app [] (PO pb sl (a2+1)++O) (PO pb sl (a2+1)) O [] 2 48 es.length 1 (a_ v) (.slice (some ⟨Ch,0,none⟩) 1 1) (es.flatMap lF.cells) [a_ v1,a_ vi] (aQ B) (by simp) hg (b_ Ch _ 1 2 rfl 1) (Qb v1 vi) (by omega) (by decide) (fun v' O' hg'=>?_);obtain⟨v',rfl⟩:=iC hg';refine close [] _ _ ⟨a2+1,v',O',es++[⟨v1,vi,⟨eh.map dp.r,ei.map ph.x⟩⟩]⟩ (by kernel_rfl) (by simp only[ah];kernel_rfl) ⟨?_,cH.cast (by simp[lF]) (by simp) hg',?_⟩ (x5 NV) (eC eK (eC eK (eC (fun I w hd hh=>sK.snoc (R:=lF) (e:=(⟨v1,vi,⟨eh.map dp.r,ei.map ph.x⟩⟩:pd)) (eK (k:=sK lF (a_ v)) I w hd hh) ⟨lW g6 g1 g2 (eK (k:=iG (a_ v1)) I w hd hh) (eK (k:=RA v1.ao) (a:=eh.flatMap c_.cells) I w hd hh),Ot pX ph.x g5 g3 g4 (eK (k:=sK pX (a_ vi)) I w hd hh) (eK (k:=RA vi.ao) (a:=ei.flatMap pX.cells) I w hd hh)⟩) eE)))
   ·rw[he,rG _ _ _ NV];simp
   ·rw[hp];cases fz (rs.drop (a2+1)).length (rs.drop (a2+1))with
    |none=>rfl
    |some q=>simp
 ·rw[GJ DR]at hp xq;refine aR [] 72 (dN 5 (rs.drop a)) (by simpa using DR) ?_;refine bW [72] 0 pb 0 (aQ B) ?_;refine cX [] [] (PO pb sl a) O [] [] [] ⟨rfl,by rfl,trivial⟩ (lS B pb sl a 4 (rs:=rs) xq) ?_;rintro _ _ _ _ ⟨r,u,hm,rfl,rfl,rfl,rfl⟩;refine mo (PO pb sl (a+1)) O [] (by rw[ah O];kernel_rfl) hg (fun g5 g1 g2=>?_);refine jO [] (lO h v) (PO pb sl (a+1)) [] ⟨⟨hs,es.map pd.x⟩,h,v,a+1,?_,rfl,rfl,rfl,rfl⟩ (fun I w hd hh=>aU ⟨eK (k:=kH h) I w hd hh,Ot lF pd.x g5 g1 g2 (eK (k:=sK lF (a_ v)) I w hd hh) (eK (k:=RA v.ao) I w hd hh)⟩);unfold rJ;rw[hf];simp only;rw[hp];simp only[ah];rw[hm]
theorem Py{l x m:List Re}(h:dC [0,1,313,314,315,2,287,288,291,290] l=some (x,m)):pP l=(match nJ m with
  |some (y,m')=>(match gY 3 m' with
   |some (r,Lo)=>some (x++(y++[r]),Lo)
   |none=>none)
  |none=>none):=by
 unfold pP fV;rw[h];simp only;cases hq:nJ m with
 |none=>rfl
 |some q=>
  obtain⟨y,m'⟩:=q;simp only;rw[eM (by decide) (by decide)];cases gY 3 m' with
  |none=>rfl
  |some q=>rfl
structure UN where
 a:Nat
 v:Sl
 O:List (Nat×List Value)
 ms:List dp
theorem aay(B:Prop)(pb:Nat)(sl:Sl)(cI:Nat){rs:List Re} [h:aY (kH sl) rs Γ](hlen:rs.length≤100000)(hB:rJ (rs.drop cI)=none→B):
  dj (rN B) Tryz.prog 73 [fg pb] (PO pb sl cI) [] Γ (Dk pb sl cI rs):=by
 have VK:pP (rs.drop cI)=none→B:=fun h=>hB (by unfold rJ;rw[h]);refine dj.of_W (aQ B) Tryz.func73 rfl ?_;refine cQ [] 10 [.int .i64 0,.int .i64 1,.int .i64 313,.int .i64 314,.int .i64 315,.int .i64 2,.int .i64 287,.int .i64 288,.int .i64 291,.int .i64 290] (aQ B) (fun b1=>?_);refine cX [] [] (PO pb sl cI) [] [] [] [] ⟨rfl,by rfl,trivial⟩ (lT B pb sl cI b1 10 (rs:=rs) (ks:=[0,1,313,314,315,2,287,288,291,290]) rfl (by decide) (fun h=>VK (by unfold pP fV;rw[h]))) ?_;rintro _ _ _ _ ⟨e0,a0,O0,nT,ha0,hl0,rfl,hg0,rfl,rfl⟩;obtain⟨v0,rfl⟩:=iC hg0;simp only[ah,aB];have RQ:=Py nT;refine bW [] 0 pb 0 (aQ B) ?_;refine cQ [] 1 [.int .u8 54] (aQ B) (fun b3=>?_);refine cX [] [] (PO pb sl a0) O0 [] [] [] ⟨rfl,by rfl,trivial⟩ (rD B pb sl a0 b3 1 (rs:=rs) (ks:=[54]) rfl (by decide)) ?_;rintro _ _ _ _ ⟨rfl,rfl,rfl,rfl⟩;rw[uD];by_cases hs:dN 54 (rs.drop a0)=true
 ·refine bk [] 14 (dN 54 (rs.drop a0)) hs ?_;have sC:nJ (rs.drop a0)=(match gY 54 (rs.drop a0)with
   |some (a,m)=>(match fJ m.length m with
    |some (b,m')=>if b=[]then some ([a],m')else
     (match gY 56 m' with
      |some (e,Lo)=>some (a::(b++[e]),Lo)
      |none=>none)
    |none=>none)
   |none=>none):=by unfold nJ;rw[if_pos hs];rfl
  refine bW [14] 0 pb 0 (aQ B) ?_;refine cX [] [] (PO pb sl a0) O0 [] [] [] ⟨rfl,by rfl,trivial⟩ (lS B pb sl a0 54 (rs:=rs) (fun h=>VK (by rw[RQ,sC,h]))) ?_;rintro _ _ _ _ ⟨J_,LW,acW,rfl,rfl,rfl,rfl⟩;rw[acW]at sC;simp only at sC;refine cQ [] 1 [.int .u8 J_.k,.int .u8 J_.d,a_ LW] (aQ B) (fun b54=>?_);refine W.app [] (PO pb sl (a0+1)++O0) (PO pb sl (a0+1)) O0 [] 3 32 (e0.length) 1 (a_ v0) (.slice (some ⟨b54,0,none⟩) 1 1) (e0.flatMap c_.cells) [.int .u8 J_.k,.int .u8 J_.d,a_ LW] (aQ B) (by simp) hg0 (b_ b54 _ 1 3 rfl 1) (by simp[Value.oneCell']) (by omega) (by decide) (fun v1 O1 g1=>?_);obtain⟨v1,rfl⟩:=iC g1;refine bW [] 0 pb 0 (aQ B) ?_;refine bW [] 1 pb (0+0) (aQ B) ?_;refine dK [] (PO pb sl (a0+1)++O1++[]) pb (0+0+1) 1 [a_ sl,.int .i64 ((a0+1:Nat):Int)] (.int .i64 ((a0+1:Nat):Int)) (aQ B) (by simp) rfl ?_;refine gO [] [] (fun _:UN=>[]) (fun q=>[(3,[a_ q.v,.slice none 0 0])]) (fun q=>PO pb sl q.a++q.O) (fun q=>[kH sl rs,iG (a_ q.v) (e0++[(⟨LW,J_⟩:dp)]++q.ms)]) (fun q=>q.a=a0+1+q.ms.length∧rs.drop (a0+1)=q.ms.map dp.r++rs.drop q.a∧cH 3 q.O (a_ q.v) (e0.length+1+q.ms.length) ((e0++[(⟨LW,J_⟩:dp)]++q.ms).flatMap c_.cells)∧fJ (rs.drop (a0+1)).length (rs.drop (a0+1))=(match fJ (rs.drop q.a).length (rs.drop q.a)with
   |some (b,m)=>some (q.ms.map dp.r++b,m)
   |none=>none)) (fun q=>(rs.drop q.a).length) ⟨a0+1,v1,O1,[]⟩ (h0:=(by simp only[ah];kernel_rfl)) ⟨rfl,rfl,cH.cast (by simp[c_]) rfl g1,by
    simp only[dA,aB];cases fJ (rs.drop (a0+1)).length (rs.drop (a0+1))<;>rfl⟩ (eC eK (eC (fun I w hd hh=>by
   simp only[ah];exact iG.app (v:=a_ v1) (eK (k:=iG (a_ v0)) I w hd hh) (iG.one (v:=a_ v0) (eK (k:=xu LW) I w hd hh))) eE)) ?_
  rintro⟨a,v,O,ms⟩ K ⟨QN,hqd,hg,T2⟩ Vv;simp only at QN hqd hg T2;have hml:ms.length≤100000:=by
   have:=dF List.length hqd;simp at this;omega
  refine bW [] 0 pb 0 (aQ B) ?_;refine cQ [] 1 [.int .u8 55] (aQ B) (fun b9=>?_);refine cX [] [] (PO pb sl a) O [] [] [] ⟨rfl,by rfl,trivial⟩ (rD B pb sl a b9 1 (rs:=rs) (ks:=[55]) rfl (by decide)) ?_;rintro _ _ _ _ ⟨rfl,rfl,rfl,rfl⟩;rw[uD];by_cases hs5:dN 55 (rs.drop a)=true
  ·rw[GM hs5]at T2;refine bk [] 33 (dN 55 (rs.drop a)) hs5 ?_;refine bW [33] 0 pb 0 (aQ B) ?_;refine cX [] [] (PO pb sl a) O [] [] [] ⟨rfl,by rfl,trivial⟩ (lS B pb sl a 55 (rs:=rs) (fun h=>VK (by rw[RQ,sC,T2,h]))) ?_;rintro _ _ _ _ ⟨r5,u5,hm5,rfl,rfl,rfl,rfl⟩;rw[hm5]at T2;refine cQ [] 1 [.int .u8 r5.k,.int .u8 r5.d,a_ u5] (aQ B) (fun b5=>?_);refine W.app [] (PO pb sl (a+1)++O) (PO pb sl (a+1)) O [] 3 32 (e0.length+1+ms.length) 1 (a_ v) (.slice (some ⟨b5,0,none⟩) 1 1) ((e0++[(⟨LW,J_⟩:dp)]++ms).flatMap c_.cells) [.int .u8 r5.k,.int .u8 r5.d,a_ u5] (aQ B) (by simp) hg (b_ b5 _ 1 3 rfl 1) (by simp[Value.oneCell']) (by omega) (by decide) (fun v2 O2 g2=>?_);obtain⟨v2,rfl⟩:=iC g2;refine Vv [] _ _ ⟨a+1,v2,O2,ms++[⟨u5,r5⟩]⟩ (by kernel_rfl) (by simp only[ah];kernel_rfl) ⟨by simp only[aA,aD,bh];omega,?_,cH.cast (by simp[c_]) (by simp;try omega) g2,?_⟩ (CZ hm5) (eC eK (eC (fun I w hd hh=>by
    simp only[←aT];exact iG.app (v:=a_ v2) (eK (k:=iG (a_ v)) I w hd hh) (iG.one (v:=a_ v0) (eK (k:=xu u5) I w hd hh))) eE))
   ·rw[hqd,(fA hm5).1];simp
   ·rw[T2];simp only;cases fJ (rs.drop (a+1)).length (rs.drop (a+1))with
    |none=>rfl
    |some q=>simp
  ·rw[GN hs5]at T2;simp only[ah]at T2;rw[T2]at sC;simp only at sC;refine aR [] 33 (dN 55 (rs.drop a)) (by simpa using hs5) ?_;refine bW [33] 0 pb 0 (aQ B) ?_;refine bW [] 1 pb (0+0) (aQ B) ?_;refine dK [] (PO pb sl a++O) pb (0+0+1) 1 [a_ sl,.int .i64 (a:Int)] (.int .i64 (a:Int)) (aQ B) (by simp) rfl ?_;cases ms with
   |nil=>
    simp only[dA,eX]at sC;have haa:a=a0+1:=by simpa using QN
    refine aR [] 49 (decide ((a:Int)>((a0+1:Nat):Int))) (ai (by omega)) ?_;have Nz:gY 3 (rs.drop a)=none→B:=fun h=>VK (by rw[RQ,sC];simp only;rw[h]);refine bW [49] 0 pb 0 (aQ B) ?_;refine cX [] [] (PO pb sl a) O [] [] [] ⟨rfl,by rfl,trivial⟩ (eo:=(by simp only[ah];kernel_rfl)) (lS B pb sl a 3 (rs:=rs) Nz) ?_;rintro _ _ _ _ ⟨r3,u3,hm3,rfl,rfl,rfl,rfl⟩;refine cQ [] 1 [.int .u8 r3.k,.int .u8 r3.d,a_ u3] (aQ B) (fun Hx=>?_);refine W.app [] (PO pb sl (a+1)++O) (PO pb sl (a+1)) O [] 3 32 (e0.length+1+([]:List dp).length) 1 (a_ v) (.slice (some ⟨Hx,0,none⟩) 1 1) ((e0++[(⟨LW,J_⟩:dp)]++[]).flatMap c_.cells) [.int .u8 r3.k,.int .u8 r3.d,a_ u3] (aQ B) (by simp) hg (b_ Hx _ 1 3 rfl 1) (by simp[Value.oneCell']) (by omega) (by decide) (fun vz Oz gz=>?_);obtain⟨vz,rfl⟩:=iC gz;refine mo (PO pb sl (a+1)) Oz [] (by kernel_rfl) gz (fun Zm Zk Zl=>?_);have hf:pP (rs.drop cI)=some (((e0++[(⟨LW,J_⟩:dp)]++[])++[(⟨u3,r3⟩:dp)]).map dp.r,rs.drop (a+1)):=by rw[RQ,sC];simp only;rw[hm3];simp
    refine j7 [] Tryz.f73 1 104 104 [0,2,3] [2,3] (XY pb) (XZ vz) (Y_ pb sl) (fun _=>[]) (Y7 sl rs vz (((e0++[(⟨LW,J_⟩:dp)]++[])++[(⟨u3,r3⟩:dp)]).map dp.r)) (Y8 rs (a+1)) (Y9 rs) ⟨a+1,⟨none,0,0⟩,[],[]⟩ ⟨rfl,cH.nil 2,by
      simp only[dA,aB];cases fz (rs.drop (a+1)).length (rs.drop (a+1))<;>rfl⟩ (eC eK (eC (fun I w hd hh=>lW (v:=a_ v0) (Zm.trans (by simp;try omega)) Zk Zl (iG.app (v:=a_ v0) (eK (k:=iG (a_ v)) I w hd hh) (iG.one (v:=a_ v0) (eK (k:=xu u3) I w hd hh))) (by
      have:=eK (k:=RA vz.ao) I w hd hh;simpa [c_]using this)) (eC (fun I w hd hh e he=>by simp at he) eE))) ?_
    exact fun q R hq close=>AO B pb sl vz cI (a+1) hlen hf hB q R hq close
   |cons x ms=>
    rw[if_neg (by simp)]at sC;refine bk [] 49 (decide ((a:Int)>((a0+1:Nat):Int))) (ar (by simp at QN;omega)) ?_;refine bW [49] 0 pb 0 (aQ B) ?_;refine cX [] [] (PO pb sl a) O [] [] [] ⟨rfl,by rfl,trivial⟩ (lS B pb sl a 56 (rs:=rs) (fun h=>VK (by rw[RQ,sC,h]))) ?_;rintro _ _ _ _ ⟨r6,u6,hm6,rfl,rfl,rfl,rfl⟩;rw[hm6]at sC;simp only at sC;refine cQ [] 1 [.int .u8 r6.k,.int .u8 r6.d,a_ u6] (aQ B) (fun b6=>?_);refine W.app [] (PO pb sl (a+1)++O) (PO pb sl (a+1)) O [] 3 32 (e0.length+1+(x::ms).length) 1 (a_ v) (.slice (some ⟨b6,0,none⟩) 1 1) ((e0++[(⟨LW,J_⟩:dp)]++(x::ms)).flatMap c_.cells) [.int .u8 r6.k,.int .u8 r6.d,a_ u6] (aQ B) (by simp) hg (b_ b6 _ 1 3 rfl 1) (by simp[Value.oneCell']) (by omega) (by decide) (fun v6 O6 g6=>?_);obtain⟨v6,rfl⟩:=iC g6;have Nz:gY 3 (rs.drop (a+1))=none→B:=fun h=>VK (by rw[RQ,sC];simp only;rw[h]);refine bW [] 0 pb 0 (aQ B) ?_;refine cX [] [] (PO pb sl (a+1)) O6 [] [] [] ⟨rfl,by rfl,trivial⟩ (eo:=(by simp only[ah];kernel_rfl)) (lS B pb sl (a+1) 3 (rs:=rs) Nz) ?_;rintro _ _ _ _ ⟨r3,u3,hm3,rfl,rfl,rfl,rfl⟩;refine cQ [] 1 [.int .u8 r3.k,.int .u8 r3.d,a_ u3] (aQ B) (fun Hx=>?_);refine W.app [] (PO pb sl ((a+1)+1)++O6) (PO pb sl ((a+1)+1)) O6 [] 3 32 (e0.length+1+(x::ms).length+1) 1 (a_ v6) (.slice (some ⟨Hx,0,none⟩) 1 1) (((e0++[(⟨LW,J_⟩:dp)]++(x::ms)).flatMap c_.cells)++[.int .u8 r6.k,.int .u8 r6.d,a_ u6]) [.int .u8 r3.k,.int .u8 r3.d,a_ u3] (aQ B) (by simp) g6 (b_ Hx _ 1 3 rfl 1) (by simp[Value.oneCell']) (by omega) (by decide) (fun vz Oz gz=>?_)
    obtain⟨vz,rfl⟩:=iC gz;refine mo (PO pb sl ((a+1)+1)) Oz [] (by kernel_rfl) gz (fun Zm Zk Zl=>?_);have hf:pP (rs.drop cI)=some ((((e0++[(⟨LW,J_⟩:dp)]++(x::ms))++[(⟨u6,r6⟩:dp)])++[(⟨u3,r3⟩:dp)]).map dp.r,rs.drop ((a+1)+1)):=by rw[RQ,sC];simp only;rw[hm3];simp
    refine j7 [] Tryz.f73 1 104 104 [0,2,3] [2,3] (XY pb) (XZ vz) (Y_ pb sl) (fun _=>[]) (Y7 sl rs vz ((((e0++[(⟨LW,J_⟩:dp)]++(x::ms))++[(⟨u6,r6⟩:dp)])++[(⟨u3,r3⟩:dp)]).map dp.r)) (Y8 rs ((a+1)+1)) (Y9 rs) ⟨(a+1)+1,⟨none,0,0⟩,[],[]⟩ ⟨rfl,cH.nil 2,by
      simp only[dA,aB];cases fz (rs.drop ((a+1)+1)).length (rs.drop ((a+1)+1))<;>rfl⟩ (eC eK (eC (fun I w hd hh=>lW (v:=a_ v0) (Zm.trans (by simp;try omega)) Zk Zl (iG.app (v:=a_ v0) (iG.app (v:=a_ v0) (eK (k:=iG (a_ v)) I w hd hh) (iG.one (v:=a_ v0) (eK (k:=xu u6) I w hd hh))) (iG.one (v:=a_ v0) (eK (k:=xu u3) I w hd hh))) (by
      have:=eK (k:=RA vz.ao) I w hd hh;simpa [c_]using this)) (eC (fun I w hd hh e he=>by simp at he) eE))) ?_
    exact fun q R hq close=>AO B pb sl vz cI ((a+1)+1) hlen hf hB q R hq close
 ·have sC:nJ (rs.drop a0)=some ([],rs.drop a0):=by unfold nJ;rw[if_neg hs]
  refine aR [] 14 (dN 54 (rs.drop a0)) (by simpa using hs) ?_;have Nz:gY 3 (rs.drop a0)=none→B:=fun h=>VK (by rw[RQ,sC];simp only;rw[h]);refine bW [14] 0 pb 0 (aQ B) ?_;refine cX [] [] (PO pb sl a0) O0 [] [] [] ⟨rfl,by rfl,trivial⟩ (eo:=(by simp only[ah];kernel_rfl)) (lS B pb sl a0 3 (rs:=rs) Nz) ?_;rintro _ _ _ _ ⟨r3,u3,hm3,rfl,rfl,rfl,rfl⟩;refine cQ [] 1 [.int .u8 r3.k,.int .u8 r3.d,a_ u3] (aQ B) (fun Hx=>?_);refine W.app [] (PO pb sl (a0+1)++O0) (PO pb sl (a0+1)) O0 [] 3 32 (e0.length) 1 (a_ v0) (.slice (some ⟨Hx,0,none⟩) 1 1) (e0.flatMap c_.cells) [.int .u8 r3.k,.int .u8 r3.d,a_ u3] (aQ B) (by simp) hg0 (b_ Hx _ 1 3 rfl 1) (by simp[Value.oneCell']) (by omega) (by decide) (fun vz Oz gz=>?_);obtain⟨vz,rfl⟩:=iC gz;refine mo (PO pb sl (a0+1)) Oz [] (by kernel_rfl) gz (fun Zm Zk Zl=>?_);have hf:pP (rs.drop cI)=some ((e0++[(⟨u3,r3⟩:dp)]).map dp.r,rs.drop (a0+1)):=by rw[RQ,sC];simp only;rw[hm3];simp
  refine j7 [] Tryz.f73 1 104 104 [0,2,3] [2,3] (XY pb) (XZ vz) (Y_ pb sl) (fun _=>[]) (Y7 sl rs vz ((e0++[(⟨u3,r3⟩:dp)]).map dp.r)) (Y8 rs (a0+1)) (Y9 rs) ⟨a0+1,⟨none,0,0⟩,[],[]⟩ ⟨rfl,cH.nil 2,by
    simp only[dA,aB];cases fz (rs.drop (a0+1)).length (rs.drop (a0+1))<;>rfl⟩ (eC eK (eC (fun I w hd hh=>lW (v:=a_ v0) (Zm.trans (by simp;try omega)) Zk Zl (iG.app (v:=a_ v0) (eK (k:=iG (a_ v0)) I w hd hh) (iG.one (v:=a_ v0) (eK (k:=xu u3) I w hd hh))) (by
    have:=eK (k:=RA vz.ao) I w hd hh;simpa [c_]using this)) (eC (fun I w hd hh e he=>by simp at he) eE))) ?_
  exact fun q R hq close=>AO B pb sl vz cI (a0+1) hlen hf hB q R hq close
end
end Go.Proofs.YtgaaopjagcaojaaGreat
