import Derived.Test.YtgaaopjagcaojaaGreatLm
set_option linter.unusedSimpArgs false
set_option linter.unusedVariables false
set_option maxHeartbeats 4000000
namespace Go.Proofs.YtgaaopjagcaojaaGreat
open Go.RowKit Go.IntWalk
theorem yw{l m:List Re}{x:Im}(h:fW l=some (x,m)):m.length<l.length:=by
 rw[rW _ _ _ h,az];have:=List.length_pos_iff.2 (qV x);omega
theorem yu{l m:List Re}{x:Ce}(h:pX l=some (x,m)):m.length<l.length:=by
 rw[rV _ _ _ h,az];have:=List.length_pos_iff.2 (qU x);omega
theorem za:∀(n n':Nat) (l:List Re),l.length≤n→l.length≤n'→gg n l=gg n' l
 |0,0,l,_,_=>rfl
 |0,n'+1,l,h,_=>by
  have:l=[]:=aL (by omega);subst this;simp[gg,ec]
 |n+1,0,l,_,h=>by
  have:l=[]:=aL (by omega);subst this;simp[gg,ec]
 |n+1,n'+1,l,h,h'=>by
  unfold gg;split
  ·split
   ·rename_i a m hm;have:=yw hm;rw[za n n' m (by omega) (by omega)]
   ·rfl
  ·rfl
theorem y_:∀(n n':Nat) (l:List Re),l.length≤n→l.length≤n'→fI n l=fI n' l
 |0,0,l,_,_=>rfl
 |0,n'+1,l,h,_=>by
  have:l=[]:=aL (by omega);subst this;simp[fI,dR]
 |n+1,0,l,_,h=>by
  have:l=[]:=aL (by omega);subst this;simp[fI,dR]
 |n+1,n'+1,l,h,h'=>by
  unfold fI;split
  ·split
   ·rename_i a m hm;have:=yu hm;rw[y_ n n' m (by omega) (by omega)]
   ·rfl
  ·rfl
theorem Dh{k:Int}{l m:List Re}{r:Re}(h:gQ k l=some (r,m)):m.length<l.length:=by
 rw[(fJ h).1];simp
theorem GX{l:List Re}(h:ec l=true):gg l.length l=(match fW l with
  |some (a,m)=>(match gg m.length m with
   |some (b,m')=>some (a::b,m')
   |none=>none)
  |none=>none):=by
 cases l with
 |nil=>simp[ec]at h
 |cons r l=>
  rw[aF];show gg (l.length+1) (r::l)=_;rw[gg,if_pos h];cases hp:fW (r::l)with
  |none=>rfl
  |some q=>
   obtain⟨a,m⟩:=q;have:=yw hp;simp only;rw[za l.length m.length m (by simp at this;omega) (ai _)];cases gg m.length m<;>rfl
theorem GY{l:List Re}(h:¬ec l=true):gg l.length l=some ([],l):=by
 cases l with
 |nil=>rfl
 |cons r l=>
  rw[aF];show gg (l.length+1) (r::l)=_;rw[gg,if_neg h]
theorem GU{l:List Re}(h:dR 5 l=true):fI l.length l=(match pX l with
  |some (a,m)=>(match fI m.length m with
   |some (b,m')=>some (a::b,m')
   |none=>none)
  |none=>none):=by
 cases l with
 |nil=>simp[dR]at h
 |cons r l=>
  rw[aF];show fI (l.length+1) (r::l)=_;rw[fI,if_pos h];cases hp:pX (r::l)with
  |none=>rfl
  |some q=>
   obtain⟨a,m⟩:=q;have:=yu hp;simp only;rw[y_ l.length m.length m (by simp at this;omega) (ai _)];cases fI m.length m<;>rfl
theorem GV{l:List Re}(h:¬dR 5 l=true):fI l.length l=some ([],l):=by
 cases l with
 |nil=>rfl
 |cons r l=>
  rw[aF];show fI (l.length+1) (r::l)=_;rw[fI,if_neg h]
theorem GZ{l:List Re}(h:dR 55 l=true):fT l.length l=(match gQ 55 l with
  |some (a,m)=>(match fT m.length m with
   |some (b,m')=>some (a::b,m')
   |none=>none)
  |none=>none):=by
 cases l with
 |nil=>simp[dR]at h
 |cons r l=>
  rw[aF];show fT (l.length+1) (r::l)=_;rw[fT,if_pos h];cases hp:gQ 55 (r::l)with
  |none=>rfl
  |some q=>
   obtain⟨a,m⟩:=q;have:=Dh hp;simp only;rw[zb l.length m.length m (by simp at this;omega) (ai _)];cases fT m.length m<;>rfl
theorem G0{l:List Re}(h:¬dR 55 l=true):fT l.length l=some ([],l):=by
 cases l with
 |nil=>rfl
 |cons r l=>
  rw[aF];show fT (l.length+1) (r::l)=_;rw[fT,if_neg h]
theorem LQ(l:List Re):WY [8,9,10,11,12,21,45] l=ec l:=by
 cases l with
 |nil=>rfl
 |cons r m=>
  unfold WY ec o6;simp only[List.contains_cons,List.contains_nil,Bool.or_false];simp only[Bool.or_assoc]
def ru{α:Type}(R:kT α)(v:Value)(es:List α):aE where
 p I w:=(OS R (0,es)).p I w
 up:=(OS R (0,es)).up
theorem JJ{α β:Type}(R:kT α)(num:α→β){v:Value}{es:List α}{ao:Option Addr}{n c:Nat}{I:f_}{w:World}(hn:n=es.length)(h1:n≤c)(h2:c≤maxLen)(h3:(ru R v es).p I w)(h4:(RA ao (es.flatMap R.cells)).p I w):(LF R num ⟨ao,n,c⟩ (es.map num)).p I w:=
 ⟨es,rfl,by rw[bL];exact hn,⟨h1,h2⟩,h3,h4⟩
theorem ru.snoc{α:Type}{R:kT α}{v v':Value}{es:List α}{e:α}{I:f_}{w:World}(h:(ru R v es).p I w)(he:(R.fact 0 e).p I w):(ru R v' (es++[e])).p I w:=fun x hx=>by
 rcases List.mem_append.1 hx with h'|h'
 ·exact h x h'
 ·simp only[aD,aC,bp]at h';subst h';exact he
section
variable{T:Tb}{P:Program}{fin:VS→List aE→Prop}{Γ:List aE}
theorem QQ{s:VS}{k:List It}{z n:Nat}(A O1 O2:List (Nat×List Value)){v:Value}{xs:List Value}(ho:s.own=A++(O1++O2))(hg:cG z O1 v n xs)(hm:dG k=false)
  (hk:∀ao c',v=.slice ao n c'→n≤c'→c'≤maxLen→W T P fin ⟨s.setOwn (A++O2),k⟩ (RA ao xs::Γ)):W T P fin ⟨s,k⟩ Γ:=by
 obtain⟨hl,hg⟩:=hg;rcases hg with⟨rfl,rfl,rfl⟩|⟨g,cap,cur,rfl,rfl,hnc,hcm,hcs,htk⟩
 ·obtain rfl:xs=[]:=aL (by simpa using hl);have hs:s.own=A++O2:=ho;refine W.elim (α:=Unit) (fun _=>True) (fun _=>[RA none []]) hm (fun I w _ hh=>⟨(),trivial,aV (RA.nil _ _ _)⟩) (fun _ _=>?_);have:=hk none 0 rfl (ai _) (aM _);rw[←hs]at this;exact this
 ·refine W.pub (O1:=A) (O2:=O2) (b:=g) (cs:=cur) hm ho ?_;refine W.elim (α:=Unit) (fun _=>True) (fun _=>[RA (some ⟨g,0,none⟩) xs]) hm (fun I w _ hh=>⟨(),trivial,aV (RA.of_row hh.h0' fun i v hv=>?_)⟩) (fun _ _=>?_)
  ·rw[←htk,di]at hv;split at hv
   ·exact hv
   ·simp at hv
  ·refine W.sub hm (fun I w _ hh=>?_) (hk _ _ rfl hnc hcm);exact aG.cons hh.h0' (fun F hF=>hh F (by simp[hF]))
end
theorem iA{z:Nat}{O:List (Nat×List Value)}{v:Value}{n:Nat}{xs:List Value}(h:cG z O v n xs):∃s:Sl,v=bz s:=by
 rcases h.2 with⟨rfl,_,_⟩|⟨g,cap,cur,rfl,_⟩
 ·exact⟨⟨none,0,0⟩,rfl⟩
 ·exact⟨⟨some ⟨g,0,none⟩,n,cap⟩,rfl⟩
section
variable{T:Tb}{P:Program}{fin:VS→List aE→Prop}{c:fM}{Γ:List aE}
theorem lR{z n:Nat}(A O1 O2:List (Nat×List Value)){s:Sl}{xs:List Value}(ho:(dN T 999 c).s.own=A++(O1++O2))(hg:cG z O1 (bz s) n xs)
  (hk:s.n=n→s.n≤s.c→s.c≤maxLen→W T P fin ⟨(dN T 999 c).s.setOwn (A++O2),(dN T 999 c).k⟩ (RA s.ao xs::Γ))(hm:dG (dN T 999 c).k=false:=by kernel_rfl):W T P fin c Γ:=
 m_ A O1 O2 ho hg (hm:=hm) (fun ao c' hv h1 h2=>by
  injection hv with e1 e2 e3;subst e1;rw[←e2]at h1;rw[←e3]at h1 h2;exact hk e2 h1 h2)
theorem QS{s:VS}{k:List It}{z n:Nat}(A O1 O2:List (Nat×List Value)){u:Sl}{xs:List Value}(ho:s.own=A++(O1++O2))(hg:cG z O1 (bz u) n xs)
  (hk:u.n=n→u.n≤u.c→u.c≤maxLen→W T P fin ⟨s.setOwn (A++O2),k⟩ (RA u.ao xs::Γ))(hm:dG k=false:=by kernel_rfl):W T P fin ⟨s,k⟩ Γ:=
 QQ A O1 O2 ho hg hm (fun ao c' hv h1 h2=>by
  injection hv with e1 e2 e3;subst e1;rw[←e2]at h1;rw[←e3]at h1 h2;exact hk e2 h1 h2)
end
def DE(pb:Nat)(sl:Sl)(cM:Nat)(rs:List Re)(v:Value)(O:List (Nat×List Value))(M:List (Nat×List (Value×Value)))(Δ:List aE):Prop:=
 ∃(t:Li) (h c:Sl) (yL:Nat),rY (rs.drop cM)=some (t,rs.drop yL)∧v=mq h c∧O=PO pb sl yL∧M=[]∧Δ=[Hy h c t]
structure sU where
 a:Nat
 v:Sl
 O:List (Nat×List Value)
 es:List qg
structure XS where
 a:Nat
 v:Sl
 O:List (Nat×List Value)
 es:List nj
def Xy(pb:Nat):sU→List (Nat×SV):=fun _=>[(0,.val (fp pb)),(2,.ptr 2 0),(3,.ptr 3 0)]
def Xz(h:Sl):sU→List (Nat×List Value):=fun q=>[(2,[.slice none 0 0,.slice none 0 0]),(3,[bz h,bz q.v])]
def Yz(pb:Nat)(sl:Sl):sU→List (Nat×List Value):=fun q=>PO pb sl q.a++q.O
def Yw(sl:Sl)(rs:List Re)(h:Sl)(hs:List Re):sU→List aE:=fun q=>[nX sl rs,nX h hs,ru pG (bz q.v) q.es]
def Yx(rs:List Re)(a0:Nat):sU→Prop:=fun q=>rs.drop a0=(q.es.map qg.x).flatMap gi++rs.drop q.a∧cG 2 q.O (bz q.v) q.es.length (q.es.flatMap pG.cells)∧fI (rs.drop a0).length (rs.drop a0)=(match fI (rs.drop q.a).length (rs.drop q.a)with
   |some (b,m)=>some (q.es.map qg.x++b,m)
   |none=>none)
def Yy(rs:List Re):sU→Nat:=fun q=>(rs.drop q.a).length
theorem tD{α:Type}{f:α→List Re}(hf:∀x,f x≠ []):∀l:List α,l.length≤(l.flatMap f).length
 | []=>ai _
 |x::l=>by
  rw[bj,az,aF];have:=tD hf l;have:=List.length_pos_iff.2 (hf x);omega
theorem I2(u v:Sl):∀x∈[bz u,bz v],x.oneCell'=true:=by
 intro x hx;simp only[aD,aC,bp]at hx;rcases hx with rfl|rfl<;>rfl
section
variable{Γ:List aE}
theorem A7(B:Prop)(pb:Nat)(sl h:Sl)(cM a0:Nat){rs hs:List Re}(hlen:rs.length≤100000)(hf:pY (rs.drop cM)=some (hs,rs.drop a0))(hB:rY (rs.drop cM)=none→B)(q:sU)(R:VS→List aE→Prop)(hq:Yx rs a0 q)
  (close:∀(D':List Nat) (c':fM) (Γ':List aE) (a':sU),qz (aJ (si B) (bh (si B) D' 999 c'))=some R→
    (qA (aJ (si B) (bh (si B) D' 999 c'))).map (fun s=>s.only [0,2,3] [2,3])=some (kI 104 104 (Xy pb a') (Xz h a') (Yz pb sl a') [])→
    Yx rs a0 a'→Yy rs a'<Yy rs q→(∀I w,bB (si B) I w→aG Γ' I w→aG (Yw sl rs h hs a') I w)→W (si B) Tryz.prog (KC (si B) Tryz.f73 (DE pb sl cM rs)) c' Γ'):
  W (si B) Tryz.prog (KC (si B) Tryz.f73 (DE pb sl cM rs)) ⟨kI 104 104 (Xy pb q) (Xz h q) (Yz pb sl q) [],.code (Zv Tryz.f73 1)::.again R::Zw Tryz.f73 1⟩ (Yw sl rs h hs q):=by
 obtain⟨a,v,O,es⟩:=q;obtain⟨he,hg,hp⟩:=hq;simp only at he hg hp;have hel:es.length≤100000:=by
  have h1:=dz List.length he;have h2:=tD qU (es.map qg.x);simp at h1 h2;omega
 have xO:(match fI (rs.drop a0).length (rs.drop a0)with
   |some (_,m)=>gQ 4 m
   |none=>none)=none→B:=fun h=>hB (by
  unfold rY;rw[hf];simp only;cases hq:fI (rs.drop a0).length (rs.drop a0)with
  |none=>rfl
  |some q=>
   rw[hq]at h;simp only at h⊢;rw[h])
 rw[hp]at xO;show W (si B) Tryz.prog _ ⟨kI 104 104 (Xy pb ⟨a,v,O,es⟩) (Xz h ⟨a,v,O,es⟩) (PO pb sl a++O) [],_⟩ [nX sl rs,nX h hs,ru pG (bz v) es];refine cr [] 0 pb 0 (aQ B) ?_;refine cI [] 1 [.int .u8 5] (aQ B) (fun b9=>?_);refine c_ [] [] (PO pb sl a) O [] [] [] ⟨rfl,by rfl,trivial⟩ (rT B pb sl a b9 1 (rs:=rs) (ks:=[5]) rfl (by decide)) ?_;rintro _ _ _ _ ⟨rfl,rfl,rfl,rfl⟩;rw[uQ];by_cases Ed:dR 5 (rs.drop a)=true
 ·rw[GU Ed]at hp xO;have hBc:pX (rs.drop a)=none→B:=fun h=>xO (by rw[h]);refine bD [] 72 (dR 5 (rs.drop a)) Ed ?_;refine cI [72] 3 [.int .i64 5,.int .i64 6,.int .i64 308] (aQ B) (fun zm=>?_);refine c_ [] [] (PO pb sl a) O [] [] [] ⟨rfl,by rfl,trivial⟩ (l8 B pb sl a zm 3 (rs:=rs) (ks:=[5,6,308]) rfl (by decide) (fun h=>hBc (by unfold pX;rw[h]))) ?_;rintro _ _ _ _ ⟨eh,a1,O1,sD,ha1,hl1,rfl,hg1,rfl,rfl⟩;obtain⟨v1,rfl⟩:=iA hg1;have NQ:pX (rs.drop a)=(match gg (rs.drop a1).length (rs.drop a1)with
   |some (i,m')=>(match gQ 7 m' with
    |some (_,Lo)=>some (⟨eh.map dJ.r,i⟩,Lo)
    |none=>none)
   |none=>none):=by
   unfold pX;rw[sD];simp only;cases gg (rs.drop a1).length (rs.drop a1)with
   |none=>rfl
   |some q=>rfl
  refine j0 [] [] (fun _:XS=>[]) (fun q=>[(5,[bz v1,bz q.v])]) (fun q=>PO pb sl q.a++(q.O++(O1++O))) (fun q=>[nX sl rs,nX h hs,ru pG (bz v) es,iY (bz v1) eh,ru lJ (bz q.v) q.es]) (fun q=>rs.drop a1=(q.es.map nj.x).flatMap eQ++rs.drop q.a∧cG 2 q.O (bz q.v) q.es.length (q.es.flatMap lJ.cells)∧gg (rs.drop a1).length (rs.drop a1)=(match gg (rs.drop q.a).length (rs.drop q.a)with
   |some (b,m)=>some (q.es.map nj.x++b,m)
   |none=>none)) (fun q=>(rs.drop q.a).length) ⟨a1,⟨none,0,0⟩,[],[]⟩ ⟨rfl,cG.nil 2,by
    simp only[cZ,aA];cases gg (rs.drop a1).length (rs.drop a1)<;>rfl⟩ (eC eK (eC eK (eC eK (eC eK (eC (fun I w hd hh e he=>by simp at he) eE))))) ?_
  rintro⟨a2,vi,Oi,ei⟩ K ⟨hi1,Y6,hpi⟩ Vc;simp only at hi1 Y6 hpi;have afp:ei.length≤100000:=by
   have h1:=dz List.length hi1;have h2:=tD qV (ei.map nj.x);simp at h1 h2;omega
  refine cr [] 0 pb 0 (aQ B) ?_;refine cI [] 7 [.int .u8 8,.int .u8 9,.int .u8 10,.int .u8 11,.int .u8 12,.int .u8 21,.int .u8 45] (aQ B) (fun sS=>?_);refine c_ [] [] (PO pb sl a2) (Oi++(O1++O)) [] [] [] ⟨rfl,by rfl,trivial⟩ (rT B pb sl a2 sS 7 (rs:=rs) (ks:=[8,9,10,11,12,21,45]) rfl (by decide)) ?_;rintro _ _ _ _ ⟨rfl,rfl,rfl,rfl⟩;rw[LQ];by_cases hsi:ec (rs.drop a2)=true
  ·rw[GX hsi]at hpi;have hBi:fW (rs.drop a2)=none→B:=fun h=>hBc (by rw[NQ,hpi,h]);refine bD [] 81 (ec (rs.drop a2)) hsi ?_;refine c_ [81] [] (PO pb sl a2) (Oi++(O1++O)) [] [] [] ⟨rfl,by rfl,trivial⟩ (Ws B pb sl a2 (rs:=rs) hlen hsi hBi) ?_;rintro _ _ _ _ ⟨x,f,p,a3,hx,rfl,rfl,rfl,rfl⟩;rw[hx]at hpi;refine cI [] 1 [bz f,bz p] (aQ B) (fun Tf=>?_);refine W.app [] (PO pb sl a3++(Oi++(O1++O))) (PO pb sl a3) Oi (O1++O) 2 48 ei.length 1 (bz vi) (.slice (some ⟨Tf,0,none⟩) 1 1) (ei.flatMap lJ.cells) [bz f,bz p] (aQ B) (by simp) Y6 (bW Tf _ 1 2 rfl 1) (I2 f p) (by omega) (by decide) (fun v' O' hg'=>?_);obtain⟨v',rfl⟩:=iA hg';refine Vc [] _ _ ⟨a3,v',O',ei++[⟨f,p,x⟩]⟩ (by kernel_rfl) (by kernel_rfl) ⟨?_,cG.cast (by simp[lJ]) (by simp) hg',?_⟩ (yw hx) (eC eK (eC eK (eC eK (eC eK (eC (fun I w hd hh=>ru.snoc (R:=lJ) (e:=(⟨f,p,x⟩:nj)) (eK (k:=ru lJ (bz vi)) I w hd hh) (eK (k:=mr f p) I w hd hh)) eE)))))
   ·rw[hi1,rW _ _ _ hx];simp
   ·rw[hpi];simp only;cases gg (rs.drop a3).length (rs.drop a3)with
    |none=>rfl
    |some q=>simp
  ·rw[GY hsi]at hpi;simp only[af]at hpi;refine aS [] 81 (ec (rs.drop a2)) (by simpa using hsi) ?_;refine cr [81] 0 pb 0 (aQ B) ?_;refine c_ [] [] (PO pb sl a2) (Oi++(O1++O)) [] [] [] ⟨rfl,by rfl,trivial⟩ (l7 B pb sl a2 7 (rs:=rs) (fun h=>hBc (by rw[NQ,hpi];simp only;rw[h]))) ?_;rintro _ _ _ _ ⟨r7,u7,hm7,rfl,rfl,rfl,rfl⟩;rw[hpi]at NQ;simp only at NQ;rw[hm7]at NQ;simp only at NQ;rw[NQ]at hp;simp only at hp;refine lR (PO pb sl (a2+1)) Oi (O1++O) (by kernel_rfl) Y6 (fun g5 g3 g4=>?_);refine QS (PO pb sl (a2+1)) O1 O rfl hg1 (fun g6 g1 g2=>?_);refine cI [] 1 [bz v1,bz vi] (aQ B) (fun CA=>?_);refine W.app [] (PO pb sl (a2+1)++O) (PO pb sl (a2+1)) O [] 2 48 es.length 1 (bz v) (.slice (some ⟨CA,0,none⟩) 1 1) (es.flatMap pG.cells) [bz v1,bz vi] (aQ B) (by simp) hg (bW CA _ 1 2 rfl 1) (I2 v1 vi) (by omega) (by decide) (fun v' O' hg'=>?_);obtain⟨v',rfl⟩:=iA hg';refine close [] _ _ ⟨a2+1,v',O',es++[⟨v1,vi,⟨eh.map dJ.r,ei.map nj.x⟩⟩]⟩ (by kernel_rfl) (by simp only[af];kernel_rfl) ⟨?_,cG.cast (by simp[pG]) (by simp) hg',?_⟩ (yu NQ) (eC eK (eC eK (eC (fun I w hd hh=>ru.snoc (R:=pG) (e:=(⟨v1,vi,⟨eh.map dJ.r,ei.map nj.x⟩⟩:qg)) (eK (k:=ru pG (bz v)) I w hd hh) ⟨mc g6 g1 g2 (eK (k:=iY (bz v1)) I w hd hh) (eK (k:=RA v1.ao) (a:=eh.flatMap dw.cells) I w hd hh),JJ lJ nj.x g5 g3 g4 (eK (k:=ru lJ (bz vi)) I w hd hh) (eK (k:=RA vi.ao) (a:=ei.flatMap lJ.cells) I w hd hh)⟩) eE)))
   ·rw[he,rV _ _ _ NQ];simp
   ·rw[hp];cases fI (rs.drop (a2+1)).length (rs.drop (a2+1))with
    |none=>rfl
    |some q=>simp
 ·rw[GV Ed]at hp xO;refine aS [] 72 (dR 5 (rs.drop a)) (by simpa using Ed) ?_;refine cr [72] 0 pb 0 (aQ B) ?_;refine c_ [] [] (PO pb sl a) O [] [] [] ⟨rfl,by rfl,trivial⟩ (l7 B pb sl a 4 (rs:=rs) xO) ?_;rintro _ _ _ _ ⟨r,u,hm,rfl,rfl,rfl,rfl⟩;refine lR (PO pb sl (a+1)) O [] (by rw[af O];kernel_rfl) hg (fun g5 g1 g2=>?_);refine j1 [] (mq h v) (PO pb sl (a+1)) [] ⟨⟨hs,es.map qg.x⟩,h,v,a+1,?_,rfl,rfl,rfl,rfl⟩ (fun I w hd hh=>aV ⟨eK (k:=nX h) I w hd hh,JJ pG qg.x g5 g1 g2 (eK (k:=ru pG (bz v)) I w hd hh) (eK (k:=RA v.ao) I w hd hh)⟩);unfold rY;rw[hf];simp only;rw[hp];simp only[af];rw[hm]
theorem Pj{l x m:List Re}(h:dk [0,1,313,314,315,2,287,288,291,290] l=some (x,m)):pY l=(match og m with
  |some (y,m')=>(match gQ 3 m' with
   |some (r,Lo)=>some (x++(y++[r]),Lo)
   |none=>none)
  |none=>none):=by
 unfold pY fX;rw[h];simp only;cases hq:og m with
 |none=>rfl
 |some q=>
  obtain⟨y,m'⟩:=q;simp only;rw[eX (by decide) (by decide)];cases gQ 3 m' with
  |none=>rfl
  |some q=>rfl
structure Uw where
 a:Nat
 v:Sl
 O:List (Nat×List Value)
 ms:List dJ
theorem Z1(B:Prop)(pb:Nat)(sl:Sl)(cM:Nat){rs:List Re} [h:aZ (nX sl) rs Γ](hlen:rs.length≤100000)(hB:rY (rs.drop cM)=none→B):
  dC (si B) Tryz.prog 73 [fp pb] (PO pb sl cM) [] Γ (DE pb sl cM rs):=by
 have Vs:pY (rs.drop cM)=none→B:=fun h=>hB (by unfold rY;rw[h]);refine dC.of_W (aQ B) Tryz.func73 rfl ?_;refine cI [] 10 [.int .i64 0,.int .i64 1,.int .i64 313,.int .i64 314,.int .i64 315,.int .i64 2,.int .i64 287,.int .i64 288,.int .i64 291,.int .i64 290] (aQ B) (fun b1=>?_);refine c_ [] [] (PO pb sl cM) [] [] [] [] ⟨rfl,by rfl,trivial⟩ (l8 B pb sl cM b1 10 (rs:=rs) (ks:=[0,1,313,314,315,2,287,288,291,290]) rfl (by decide) (fun h=>Vs (by unfold pY fX;rw[h]))) ?_;rintro _ _ _ _ ⟨e0,a0,O0,oz,ha0,hl0,rfl,hg0,rfl,rfl⟩;obtain⟨v0,rfl⟩:=iA hg0;simp only[af,aA];have Rq:=Pj oz;refine cr [] 0 pb 0 (aQ B) ?_;refine cI [] 1 [.int .u8 54] (aQ B) (fun b3=>?_);refine c_ [] [] (PO pb sl a0) O0 [] [] [] ⟨rfl,by rfl,trivial⟩ (rT B pb sl a0 b3 1 (rs:=rs) (ks:=[54]) rfl (by decide)) ?_;rintro _ _ _ _ ⟨rfl,rfl,rfl,rfl⟩;rw[uQ];by_cases hs:dR 54 (rs.drop a0)=true
 ·refine bD [] 14 (dR 54 (rs.drop a0)) hs ?_;have sP:og (rs.drop a0)=(match gQ 54 (rs.drop a0)with
   |some (a,m)=>(match fT m.length m with
    |some (b,m')=>if b=[]then some ([a],m')else
     (match gQ 56 m' with
      |some (e,Lo)=>some (a::(b++[e]),Lo)
      |none=>none)
    |none=>none)
   |none=>none):=by unfold og;rw[if_pos hs];rfl
  refine cr [14] 0 pb 0 (aQ B) ?_;refine c_ [] [] (PO pb sl a0) O0 [] [] [] ⟨rfl,by rfl,trivial⟩ (l7 B pb sl a0 54 (rs:=rs) (fun h=>Vs (by rw[Rq,sP,h]))) ?_;rintro _ _ _ _ ⟨Ke,LX,ab3,rfl,rfl,rfl,rfl⟩;rw[ab3]at sP;simp only at sP;refine cI [] 1 [.int .u8 Ke.k,.int .u8 Ke.d,bz LX] (aQ B) (fun b54=>?_);refine W.app [] (PO pb sl (a0+1)++O0) (PO pb sl (a0+1)) O0 [] 3 32 (e0.length) 1 (bz v0) (.slice (some ⟨b54,0,none⟩) 1 1) (e0.flatMap dw.cells) [.int .u8 Ke.k,.int .u8 Ke.d,bz LX] (aQ B) (by simp) hg0 (bW b54 _ 1 3 rfl 1) (by simp[Value.oneCell']) (by omega) (by decide) (fun v1 O1 g1=>?_);obtain⟨v1,rfl⟩:=iA g1;refine cr [] 0 pb 0 (aQ B) ?_;refine cr [] 1 pb (0+0) (aQ B) ?_;refine dQ [] (PO pb sl (a0+1)++O1++[]) pb (0+0+1) 1 [bz sl,.int .i64 ((a0+1:Nat):Int)] (.int .i64 ((a0+1:Nat):Int)) (aQ B) (by simp) rfl ?_;refine j0 [] [] (fun _:Uw=>[]) (fun q=>[(3,[bz q.v,.slice none 0 0])]) (fun q=>PO pb sl q.a++q.O) (fun q=>[nX sl rs,iY (bz q.v) (e0++[(⟨LX,Ke⟩:dJ)]++q.ms)]) (fun q=>q.a=a0+1+q.ms.length∧rs.drop (a0+1)=q.ms.map dJ.r++rs.drop q.a∧cG 3 q.O (bz q.v) (e0.length+1+q.ms.length) ((e0++[(⟨LX,Ke⟩:dJ)]++q.ms).flatMap dw.cells)∧fT (rs.drop (a0+1)).length (rs.drop (a0+1))=(match fT (rs.drop q.a).length (rs.drop q.a)with
   |some (b,m)=>some (q.ms.map dJ.r++b,m)
   |none=>none)) (fun q=>(rs.drop q.a).length) ⟨a0+1,v1,O1,[]⟩ (h0:=(by simp only[af];kernel_rfl)) ⟨rfl,rfl,cG.cast (by simp[dw]) rfl g1,by
    simp only[cZ,aA];cases fT (rs.drop (a0+1)).length (rs.drop (a0+1))<;>rfl⟩ (eC eK (eC (fun I w hd hh=>by
   simp only[af];exact iY.app (v:=bz v1) (eK (k:=iY (bz v0)) I w hd hh) (iY.one (v:=bz v0) (eK (k:=xR LX) I w hd hh))) eE)) ?_
  rintro⟨a,v,O,ms⟩ K ⟨Qr,hqd,hg,TJ⟩ Vd;simp only at Qr hqd hg TJ;have hml:ms.length≤100000:=by
   have:=dz List.length hqd;simp at this;omega
  refine cr [] 0 pb 0 (aQ B) ?_;refine cI [] 1 [.int .u8 55] (aQ B) (fun b9=>?_);refine c_ [] [] (PO pb sl a) O [] [] [] ⟨rfl,by rfl,trivial⟩ (rT B pb sl a b9 1 (rs:=rs) (ks:=[55]) rfl (by decide)) ?_;rintro _ _ _ _ ⟨rfl,rfl,rfl,rfl⟩;rw[uQ];by_cases Zo:dR 55 (rs.drop a)=true
  ·rw[GZ Zo]at TJ;refine bD [] 33 (dR 55 (rs.drop a)) Zo ?_;refine cr [33] 0 pb 0 (aQ B) ?_;refine c_ [] [] (PO pb sl a) O [] [] [] ⟨rfl,by rfl,trivial⟩ (l7 B pb sl a 55 (rs:=rs) (fun h=>Vs (by rw[Rq,sP,TJ,h]))) ?_;rintro _ _ _ _ ⟨r5,u5,hm5,rfl,rfl,rfl,rfl⟩;rw[hm5]at TJ;refine cI [] 1 [.int .u8 r5.k,.int .u8 r5.d,bz u5] (aQ B) (fun b5=>?_);refine W.app [] (PO pb sl (a+1)++O) (PO pb sl (a+1)) O [] 3 32 (e0.length+1+ms.length) 1 (bz v) (.slice (some ⟨b5,0,none⟩) 1 1) ((e0++[(⟨LX,Ke⟩:dJ)]++ms).flatMap dw.cells) [.int .u8 r5.k,.int .u8 r5.d,bz u5] (aQ B) (by simp) hg (bW b5 _ 1 3 rfl 1) (by simp[Value.oneCell']) (by omega) (by decide) (fun v2 O2 g2=>?_);obtain⟨v2,rfl⟩:=iA g2;refine Vd [] _ _ ⟨a+1,v2,O2,ms++[⟨u5,r5⟩]⟩ (by kernel_rfl) (by simp only[af];kernel_rfl) ⟨by simp only[az,aF,bE];omega,?_,cG.cast (by simp[dw]) (by simp;try omega) g2,?_⟩ (Dh hm5) (eC eK (eC (fun I w hd hh=>by
    simp only[←aU];exact iY.app (v:=bz v2) (eK (k:=iY (bz v)) I w hd hh) (iY.one (v:=bz v0) (eK (k:=xR u5) I w hd hh))) eE))
   ·rw[hqd,(fJ hm5).1];simp
   ·rw[TJ];simp only;cases fT (rs.drop (a+1)).length (rs.drop (a+1))with
    |none=>rfl
    |some q=>simp
  ·rw[G0 Zo]at TJ;simp only[af]at TJ;rw[TJ]at sP;simp only at sP;refine aS [] 33 (dR 55 (rs.drop a)) (by simpa using Zo) ?_;refine cr [33] 0 pb 0 (aQ B) ?_;refine cr [] 1 pb (0+0) (aQ B) ?_;refine dQ [] (PO pb sl a++O) pb (0+0+1) 1 [bz sl,.int .i64 (a:Int)] (.int .i64 (a:Int)) (aQ B) (by simp) rfl ?_;cases ms with
   |nil=>
    simp only[cZ,eW]at sP;have haa:a=a0+1:=by simpa using Qr
    refine aS [] 49 (decide ((a:Int)>((a0+1:Nat):Int))) (ak (by omega)) ?_;have Ny:gQ 3 (rs.drop a)=none→B:=fun h=>Vs (by rw[Rq,sP];simp only;rw[h]);refine cr [49] 0 pb 0 (aQ B) ?_;refine c_ [] [] (PO pb sl a) O [] [] [] ⟨rfl,by rfl,trivial⟩ (eo:=(by simp only[af];kernel_rfl)) (l7 B pb sl a 3 (rs:=rs) Ny) ?_;rintro _ _ _ _ ⟨r3,u3,hm3,rfl,rfl,rfl,rfl⟩;refine cI [] 1 [.int .u8 r3.k,.int .u8 r3.d,bz u3] (aQ B) (fun H0=>?_);refine W.app [] (PO pb sl (a+1)++O) (PO pb sl (a+1)) O [] 3 32 (e0.length+1+([]:List dJ).length) 1 (bz v) (.slice (some ⟨H0,0,none⟩) 1 1) ((e0++[(⟨LX,Ke⟩:dJ)]++[]).flatMap dw.cells) [.int .u8 r3.k,.int .u8 r3.d,bz u3] (aQ B) (by simp) hg (bW H0 _ 1 3 rfl 1) (by simp[Value.oneCell']) (by omega) (by decide) (fun vz Oz gz=>?_);obtain⟨vz,rfl⟩:=iA gz;refine lR (PO pb sl (a+1)) Oz [] (by kernel_rfl) gz (fun YL YJ YK=>?_);have hf:pY (rs.drop cM)=some (((e0++[(⟨LX,Ke⟩:dJ)]++[])++[(⟨u3,r3⟩:dJ)]).map dJ.r,rs.drop (a+1)):=by rw[Rq,sP];simp only;rw[hm3];simp
    refine kA [] Tryz.f73 1 104 104 [0,2,3] [2,3] (Xy pb) (Xz vz) (Yz pb sl) (fun _=>[]) (Yw sl rs vz (((e0++[(⟨LX,Ke⟩:dJ)]++[])++[(⟨u3,r3⟩:dJ)]).map dJ.r)) (Yx rs (a+1)) (Yy rs) ⟨a+1,⟨none,0,0⟩,[],[]⟩ ⟨rfl,cG.nil 2,by
      simp only[cZ,aA];cases fI (rs.drop (a+1)).length (rs.drop (a+1))<;>rfl⟩ (eC eK (eC (fun I w hd hh=>mc (v:=bz v0) (YL.trans (by simp;try omega)) YJ YK (iY.app (v:=bz v0) (eK (k:=iY (bz v)) I w hd hh) (iY.one (v:=bz v0) (eK (k:=xR u3) I w hd hh))) (by
      have:=eK (k:=RA vz.ao) I w hd hh;simpa [dw]using this)) (eC (fun I w hd hh e he=>by simp at he) eE))) ?_
    exact fun q R hq close=>A7 B pb sl vz cM (a+1) hlen hf hB q R hq close
   |cons x ms=>
    rw[if_neg (by simp)]at sP;refine bD [] 49 (decide ((a:Int)>((a0+1:Nat):Int))) (aw (by simp at Qr;omega)) ?_;refine cr [49] 0 pb 0 (aQ B) ?_;refine c_ [] [] (PO pb sl a) O [] [] [] ⟨rfl,by rfl,trivial⟩ (l7 B pb sl a 56 (rs:=rs) (fun h=>Vs (by rw[Rq,sP,h]))) ?_;rintro _ _ _ _ ⟨r6,u6,hm6,rfl,rfl,rfl,rfl⟩;rw[hm6]at sP;simp only at sP;refine cI [] 1 [.int .u8 r6.k,.int .u8 r6.d,bz u6] (aQ B) (fun b6=>?_);refine W.app [] (PO pb sl (a+1)++O) (PO pb sl (a+1)) O [] 3 32 (e0.length+1+(x::ms).length) 1 (bz v) (.slice (some ⟨b6,0,none⟩) 1 1) ((e0++[(⟨LX,Ke⟩:dJ)]++(x::ms)).flatMap dw.cells) [.int .u8 r6.k,.int .u8 r6.d,bz u6] (aQ B) (by simp) hg (bW b6 _ 1 3 rfl 1) (by simp[Value.oneCell']) (by omega) (by decide) (fun v6 O6 g6=>?_);obtain⟨v6,rfl⟩:=iA g6;have Ny:gQ 3 (rs.drop (a+1))=none→B:=fun h=>Vs (by rw[Rq,sP];simp only;rw[h]);refine cr [] 0 pb 0 (aQ B) ?_;refine c_ [] [] (PO pb sl (a+1)) O6 [] [] [] ⟨rfl,by rfl,trivial⟩ (eo:=(by simp only[af];kernel_rfl)) (l7 B pb sl (a+1) 3 (rs:=rs) Ny) ?_;rintro _ _ _ _ ⟨r3,u3,hm3,rfl,rfl,rfl,rfl⟩;refine cI [] 1 [.int .u8 r3.k,.int .u8 r3.d,bz u3] (aQ B) (fun H0=>?_);refine W.app [] (PO pb sl ((a+1)+1)++O6) (PO pb sl ((a+1)+1)) O6 [] 3 32 (e0.length+1+(x::ms).length+1) 1 (bz v6) (.slice (some ⟨H0,0,none⟩) 1 1) (((e0++[(⟨LX,Ke⟩:dJ)]++(x::ms)).flatMap dw.cells)++[.int .u8 r6.k,.int .u8 r6.d,bz u6]) [.int .u8 r3.k,.int .u8 r3.d,bz u3] (aQ B) (by simp) g6 (bW H0 _ 1 3 rfl 1) (by simp[Value.oneCell']) (by omega) (by decide) (fun vz Oz gz=>?_)
    obtain⟨vz,rfl⟩:=iA gz;refine lR (PO pb sl ((a+1)+1)) Oz [] (by kernel_rfl) gz (fun YL YJ YK=>?_);have hf:pY (rs.drop cM)=some ((((e0++[(⟨LX,Ke⟩:dJ)]++(x::ms))++[(⟨u6,r6⟩:dJ)])++[(⟨u3,r3⟩:dJ)]).map dJ.r,rs.drop ((a+1)+1)):=by rw[Rq,sP];simp only;rw[hm3];simp
    refine kA [] Tryz.f73 1 104 104 [0,2,3] [2,3] (Xy pb) (Xz vz) (Yz pb sl) (fun _=>[]) (Yw sl rs vz ((((e0++[(⟨LX,Ke⟩:dJ)]++(x::ms))++[(⟨u6,r6⟩:dJ)])++[(⟨u3,r3⟩:dJ)]).map dJ.r)) (Yx rs ((a+1)+1)) (Yy rs) ⟨(a+1)+1,⟨none,0,0⟩,[],[]⟩ ⟨rfl,cG.nil 2,by
      simp only[cZ,aA];cases fI (rs.drop ((a+1)+1)).length (rs.drop ((a+1)+1))<;>rfl⟩ (eC eK (eC (fun I w hd hh=>mc (v:=bz v0) (YL.trans (by simp;try omega)) YJ YK (iY.app (v:=bz v0) (iY.app (v:=bz v0) (eK (k:=iY (bz v)) I w hd hh) (iY.one (v:=bz v0) (eK (k:=xR u6) I w hd hh))) (iY.one (v:=bz v0) (eK (k:=xR u3) I w hd hh))) (by
      have:=eK (k:=RA vz.ao) I w hd hh;simpa [dw]using this)) (eC (fun I w hd hh e he=>by simp at he) eE))) ?_
    exact fun q R hq close=>A7 B pb sl vz cM ((a+1)+1) hlen hf hB q R hq close
 ·have sP:og (rs.drop a0)=some ([],rs.drop a0):=by unfold og;rw[if_neg hs]
  refine aS [] 14 (dR 54 (rs.drop a0)) (by simpa using hs) ?_;have Ny:gQ 3 (rs.drop a0)=none→B:=fun h=>Vs (by rw[Rq,sP];simp only;rw[h]);refine cr [14] 0 pb 0 (aQ B) ?_;refine c_ [] [] (PO pb sl a0) O0 [] [] [] ⟨rfl,by rfl,trivial⟩ (eo:=(by simp only[af];kernel_rfl)) (l7 B pb sl a0 3 (rs:=rs) Ny) ?_;rintro _ _ _ _ ⟨r3,u3,hm3,rfl,rfl,rfl,rfl⟩;refine cI [] 1 [.int .u8 r3.k,.int .u8 r3.d,bz u3] (aQ B) (fun H0=>?_);refine W.app [] (PO pb sl (a0+1)++O0) (PO pb sl (a0+1)) O0 [] 3 32 (e0.length) 1 (bz v0) (.slice (some ⟨H0,0,none⟩) 1 1) (e0.flatMap dw.cells) [.int .u8 r3.k,.int .u8 r3.d,bz u3] (aQ B) (by simp) hg0 (bW H0 _ 1 3 rfl 1) (by simp[Value.oneCell']) (by omega) (by decide) (fun vz Oz gz=>?_);obtain⟨vz,rfl⟩:=iA gz;refine lR (PO pb sl (a0+1)) Oz [] (by kernel_rfl) gz (fun YL YJ YK=>?_);have hf:pY (rs.drop cM)=some ((e0++[(⟨u3,r3⟩:dJ)]).map dJ.r,rs.drop (a0+1)):=by rw[Rq,sP];simp only;rw[hm3];simp
  refine kA [] Tryz.f73 1 104 104 [0,2,3] [2,3] (Xy pb) (Xz vz) (Yz pb sl) (fun _=>[]) (Yw sl rs vz ((e0++[(⟨u3,r3⟩:dJ)]).map dJ.r)) (Yx rs (a0+1)) (Yy rs) ⟨a0+1,⟨none,0,0⟩,[],[]⟩ ⟨rfl,cG.nil 2,by
    simp only[cZ,aA];cases fI (rs.drop (a0+1)).length (rs.drop (a0+1))<;>rfl⟩ (eC eK (eC (fun I w hd hh=>mc (v:=bz v0) (YL.trans (by simp;try omega)) YJ YK (iY.app (v:=bz v0) (eK (k:=iY (bz v0)) I w hd hh) (iY.one (v:=bz v0) (eK (k:=xR u3) I w hd hh))) (by
    have:=eK (k:=RA vz.ao) I w hd hh;simpa [dw]using this)) (eC (fun I w hd hh e he=>by simp at he) eE))) ?_
  exact fun q R hq close=>A7 B pb sl vz cM (a0+1) hlen hf hB q R hq close
end
end Go.Proofs.YtgaaopjagcaojaaGreat
