import Derived.Test.YtgaaopjagcaojaaGreatLm
import Derived.Tactics
import Derived.Tactics2
import Derived.Defers
import Derived.Recover
import Derived.Laws.Pointers
set_option linter.unusedSimpArgs false
set_option linter.unusedVariables false
set_option maxHeartbeats 4000000
namespace Go.Proofs.YtgaaopjagcaojaaGreat
open Go.RowKit Go.IntWalk
abbrev pM:=@Go.World.size_setCell
theorem yy{l m:List Re}{x:Im}(h:fV l=some (x,m)):m.length<l.length:=by
 rw[r9 _ _ _ h,az];have:=List.length_pos_iff.2 (qY x);omega
theorem yx{l m:List Re}{x:Ce}(h:pZ l=some (x,m)):m.length<l.length:=by
 rw[rZ _ _ _ h,az];have:=List.length_pos_iff.2 (qX x);omega
theorem zd:∀(n n':Nat) (l:List Re),l.length≤n→l.length≤n'→gf n l=gf n' l
 |0,0,l,_,_=>rfl
 |0,n'+1,l,h,_=>by
  have:l=[]:=aL (by omega);subst this;simp[gf,ec]
 |n+1,0,l,_,h=>by
  have:l=[]:=aL (by omega);subst this;simp[gf,ec]
 |n+1,n'+1,l,h,h'=>by
  unfold gf;split
  ·split
   ·rename_i a m hm;have:=yy hm;rw[zd n n' m (by omega) (by omega)]
   ·rfl
  ·rfl
theorem zc:∀(n n':Nat) (l:List Re),l.length≤n→l.length≤n'→fF n l=fF n' l
 |0,0,l,_,_=>rfl
 |0,n'+1,l,h,_=>by
  have:l=[]:=aL (by omega);subst this;simp[fF,dR]
 |n+1,0,l,_,h=>by
  have:l=[]:=aL (by omega);subst this;simp[fF,dR]
 |n+1,n'+1,l,h,h'=>by
  unfold fF;split
  ·split
   ·rename_i a m hm;have:=yx hm;rw[zc n n' m (by omega) (by omega)]
   ·rfl
  ·rfl
theorem Dk{k:Int}{l m:List Re}{r:Re}(h:gN k l=some (r,m)):m.length<l.length:=by
 rw[(fG h).1];simp
theorem G7{l:List Re}(h:ec l=true):gf l.length l=(match fV l with
  |some (a,m)=>(match gf m.length m with
   |some (b,m')=>some (a::b,m')
   |none=>none)
  |none=>none):=by
 cases l with
 |nil=>simp[ec]at h
 |cons r l=>
  rw[aF];show gf (l.length+1) (r::l)=_;rw[gf,if_pos h];cases hp:fV (r::l)with
  |none=>rfl
  |some q=>
   obtain⟨a,m⟩:=q;have:=yy hp;simp only;rw[zd l.length m.length m (by simp at this;omega) (ai _)];cases gf m.length m<;>rfl
theorem G8{l:List Re}(h:¬ec l=true):gf l.length l=some ([],l):=by
 cases l with
 |nil=>rfl
 |cons r l=>
  rw[aF];show gf (l.length+1) (r::l)=_;rw[gf,if_neg h]
theorem G2{l:List Re}(h:dR 5 l=true):fF l.length l=(match pZ l with
  |some (a,m)=>(match fF m.length m with
   |some (b,m')=>some (a::b,m')
   |none=>none)
  |none=>none):=by
 cases l with
 |nil=>simp[dR]at h
 |cons r l=>
  rw[aF];show fF (l.length+1) (r::l)=_;rw[fF,if_pos h];cases hp:pZ (r::l)with
  |none=>rfl
  |some q=>
   obtain⟨a,m⟩:=q;have:=yx hp;simp only;rw[zc l.length m.length m (by simp at this;omega) (ai _)];cases fF m.length m<;>rfl
theorem G5{l:List Re}(h:¬dR 5 l=true):fF l.length l=some ([],l):=by
 cases l with
 |nil=>rfl
 |cons r l=>
  rw[aF];show fF (l.length+1) (r::l)=_;rw[fF,if_neg h]
theorem G9{l:List Re}(h:dR 55 l=true):fQ l.length l=(match gN 55 l with
  |some (a,m)=>(match fQ m.length m with
   |some (b,m')=>some (a::b,m')
   |none=>none)
  |none=>none):=by
 cases l with
 |nil=>simp[dR]at h
 |cons r l=>
  rw[aF];show fQ (l.length+1) (r::l)=_;rw[fQ,if_pos h];cases hp:gN 55 (r::l)with
  |none=>rfl
  |some q=>
   obtain⟨a,m⟩:=q;have:=Dk hp;simp only;rw[ze l.length m.length m (by simp at this;omega) (ai _)];cases fQ m.length m<;>rfl
theorem G_{l:List Re}(h:¬dR 55 l=true):fQ l.length l=some ([],l):=by
 cases l with
 |nil=>rfl
 |cons r l=>
  rw[aF];show fQ (l.length+1) (r::l)=_;rw[fQ,if_neg h]
theorem Mg(l:List Re):XF [8,9,10,11,12,21,45] l=ec l:=by
 cases l with
 |nil=>rfl
 |cons r m=>
  unfold XF ec o6;simp only[List.contains_cons,List.contains_nil,Bool.or_false];simp only[Bool.or_assoc]
def rB{α:Type}(R:kU α)(v:Value)(es:List α):aE where
 p I w:=(OS R (0,es)).p I w
 up:=(OS R (0,es)).up
theorem JW{α β:Type}(R:kU α)(num:α→β){v:Value}{es:List α}{ao:Option Addr}{n c:Nat}{I:fZ}{w:World}(hn:n=es.length)(h1:n≤c)(h2:c≤maxLen)(h3:(rB R v es).p I w)(h4:(RA ao (es.flatMap R.cells)).p I w):(LF R num ⟨ao,n,c⟩ (es.map num)).p I w:=
 ⟨es,rfl,by rw[bL];exact hn,⟨h1,h2⟩,h3,h4⟩
theorem rB.snoc{α:Type}{R:kU α}{v v':Value}{es:List α}{e:α}{I:fZ}{w:World}(h:(rB R v es).p I w)(he:(R.fact 0 e).p I w):(rB R v' (es++[e])).p I w:=fun x hx=>by
 rcases List.mem_append.1 hx with h'|h'
 ·exact h x h'
 ·simp only[aD,aC,bp]at h';subst h';exact he
section
variable{T:Tb}{P:Program}{fin:VS→List aE→Prop}{Γ:List aE}
theorem Ru{s:VS}{k:List It}{z n:Nat}(A O1 O2:List (Nat×List Value)){v:Value}{xs:List Value}(ho:s.own=A++(O1++O2))(hg:cG z O1 v n xs)(hm:dG k=false)
  (hk:∀ao c',v=.slice ao n c'→n≤c'→c'≤maxLen→W T P fin ⟨s.setOwn (A++O2),k⟩ (RA ao xs::Γ)):W T P fin ⟨s,k⟩ Γ:=by
 obtain⟨hl,hg⟩:=hg;rcases hg with⟨rfl,rfl,rfl⟩|⟨g,cap,cur,rfl,rfl,hnc,hcm,hcs,htk⟩
 ·obtain rfl:xs=[]:=aL (by simpa using hl);have hs:s.own=A++O2:=ho;refine W.elim (α:=Unit) (fun _=>True) (fun _=>[RA none []]) hm (fun I w _ hh=>⟨(),trivial,aU (RA.nil _ _ _)⟩) (fun _ _=>?_);have:=hk none 0 rfl (ai _) (aM _);rw[←hs]at this;exact this
 ·refine W.pub (O1:=A) (O2:=O2) (b:=g) (cs:=cur) hm ho ?_;refine W.elim (α:=Unit) (fun _=>True) (fun _=>[RA (some ⟨g,0,none⟩) xs]) hm (fun I w _ hh=>⟨(),trivial,aU (RA.of_row hh.h0' fun i v hv=>?_)⟩) (fun _ _=>?_)
  ·rw[←htk,de]at hv;split at hv
   ·exact hv
   ·simp at hv
  ·refine W.sub hm (fun I w _ hh=>?_) (hk _ _ rfl hnc hcm);exact aG.cons hh.h0' (fun F hF=>hh F (by simp[hF]))
end
theorem iz{z:Nat}{O:List (Nat×List Value)}{v:Value}{n:Nat}{xs:List Value}(h:cG z O v n xs):∃s:Sl,v=bz s:=by
 rcases h.2 with⟨rfl,_,_⟩|⟨g,cap,cur,rfl,_⟩
 ·exact⟨⟨none,0,0⟩,rfl⟩
 ·exact⟨⟨some ⟨g,0,none⟩,n,cap⟩,rfl⟩
section
variable{T:Tb}{P:Program}{fin:VS→List aE→Prop}{c:fJ}{Γ:List aE}
theorem lQ{z n:Nat}(A O1 O2:List (Nat×List Value)){s:Sl}{xs:List Value}(ho:(dN T 999 c).s.own=A++(O1++O2))(hg:cG z O1 (bz s) n xs)
  (hk:s.n=n→s.n≤s.c→s.c≤maxLen→W T P fin ⟨(dN T 999 c).s.setOwn (A++O2),(dN T 999 c).k⟩ (RA s.ao xs::Γ))(hm:dG (dN T 999 c).k=false:=by kernel_rfl):W T P fin c Γ:=
 mU A O1 O2 ho hg (hm:=hm) (fun ao c' hv h1 h2=>by
  injection hv with e1 e2 e3;subst e1;rw[←e2]at h1;rw[←e3]at h1 h2;exact hk e2 h1 h2)
theorem Rv{s:VS}{k:List It}{z n:Nat}(A O1 O2:List (Nat×List Value)){u:Sl}{xs:List Value}(ho:s.own=A++(O1++O2))(hg:cG z O1 (bz u) n xs)
  (hk:u.n=n→u.n≤u.c→u.c≤maxLen→W T P fin ⟨s.setOwn (A++O2),k⟩ (RA u.ao xs::Γ))(hm:dG k=false:=by kernel_rfl):W T P fin ⟨s,k⟩ Γ:=
 Ru A O1 O2 ho hg hm (fun ao c' hv h1 h2=>by
  injection hv with e1 e2 e3;subst e1;rw[←e2]at h1;rw[←e3]at h1 h2;exact hk e2 h1 h2)
end
def DG(pb:Nat)(sl:Sl)(cM:Nat)(rs:List Re)(v:Value)(O:List (Nat×List Value))(M:List (Nat×List (Value×Value)))(Δ:List aE):Prop:=
 ∃(t:Li) (h c:Sl) (yM:Nat),se (rs.drop cM)=some (t,rs.drop yM)∧v=mo h c∧O=PO pb sl yM∧M=[]∧Δ=[HK h c t]
structure sZ where
 a:Nat
 v:Sl
 O:List (Nat×List Value)
 es:List qi
structure YI where
 a:Nat
 v:Sl
 O:List (Nat×List Value)
 es:List nd
def Yj(pb:Nat):sZ→List (Nat×SV):=fun _=>[(0,.val (fp pb)),(2,.ptr 2 0),(3,.ptr 3 0)]
def Yk(h:Sl):sZ→List (Nat×List Value):=fun q=>[(2,[.slice none 0 0,.slice none 0 0]),(3,[bz h,bz q.v])]
def Zm(pb:Nat)(sl:Sl):sZ→List (Nat×List Value):=fun q=>PO pb sl q.a++q.O
def Zj(sl:Sl)(rs:List Re)(h:Sl)(hs:List Re):sZ→List aE:=fun q=>[nU sl rs,nU h hs,rB pH (bz q.v) q.es]
def Zk(rs:List Re)(a0:Nat):sZ→Prop:=fun q=>rs.drop a0=(q.es.map qi.x).flatMap gh++rs.drop q.a∧cG 2 q.O (bz q.v) q.es.length (q.es.flatMap pH.cells)∧fF (rs.drop a0).length (rs.drop a0)=(match fF (rs.drop q.a).length (rs.drop q.a)with
   |some (b,m)=>some (q.es.map qi.x++b,m)
   |none=>none)
def Zl(rs:List Re):sZ→Nat:=fun q=>(rs.drop q.a).length
theorem tH{α:Type}{f:α→List Re}(hf:∀x,f x≠ []):∀l:List α,l.length≤(l.flatMap f).length
 | []=>ai _
 |x::l=>by
  rw[bh,az,aF];have:=tH hf l;have:=List.length_pos_iff.2 (hf x);omega
theorem Jb(u v:Sl):∀x∈[bz u,bz v],x.oneCell'=true:=by
 intro x hx;simp only[aD,aC,bp]at hx;rcases hx with rfl|rfl<;>rfl
section
variable{Γ:List aE}
theorem A9(B:Prop)(pb:Nat)(sl h:Sl)(cM a0:Nat){rs hs:List Re}(hlen:rs.length≤100000)(hf:p9 (rs.drop cM)=some (hs,rs.drop a0))(hB:se (rs.drop cM)=none→B)(q:sZ)(R:VS→List aE→Prop)(hq:Zk rs a0 q)
  (close:∀(D':List Nat) (c':fJ) (Γ':List aE) (a':sZ),qB (aJ (sq B) (a_ (sq B) D' 999 c'))=some R→
    (qC (aJ (sq B) (a_ (sq B) D' 999 c'))).map (fun s=>s.only [0,2,3] [2,3])=some (kJ 104 104 (Yj pb a') (Yk h a') (Zm pb sl a') [])→
    Zk rs a0 a'→Zl rs a'<Zl rs q→(∀I w,bB (sq B) I w→aG Γ' I w→aG (Zj sl rs h hs a') I w)→W (sq B) Tryz.prog (KP (sq B) Tryz.f73 (DG pb sl cM rs)) c' Γ'):
  W (sq B) Tryz.prog (KP (sq B) Tryz.f73 (DG pb sl cM rs)) ⟨kJ 104 104 (Yj pb q) (Yk h q) (Zm pb sl q) [],.code (lpB Tryz.f73 1)::.again R::lpK Tryz.f73 1⟩ (Zj sl rs h hs q):=by
 obtain⟨a,v,O,es⟩:=q;obtain⟨he,hg,hp⟩:=hq;simp only at he hg hp;have hel:es.length≤100000:=by
  have h1:=dz List.length he;have h2:=tH qX (es.map qi.x);simp at h1 h2;omega
 have xP:(match fF (rs.drop a0).length (rs.drop a0)with
   |some (_,m)=>gN 4 m
   |none=>none)=none→B:=fun h=>hB (by
  unfold se;rw[hf];simp only;cases hq:fF (rs.drop a0).length (rs.drop a0)with
  |none=>rfl
  |some q=>
   rw[hq]at h;simp only at h⊢;rw[h])
 rw[hp]at xP;show W (sq B) Tryz.prog _ ⟨kJ 104 104 (Yj pb ⟨a,v,O,es⟩) (Yk h ⟨a,v,O,es⟩) (PO pb sl a++O) [],_⟩ [nU sl rs,nU h hs,rB pH (bz v) es];refine cr [] 0 pb 0 (aQ B) ?_;refine cI [] 1 [.int .u8 5] (aQ B) (fun b9=>?_);refine cZ [] [] (PO pb sl a) O [] [] [] ⟨rfl,by rfl,trivial⟩ (rX B pb sl a b9 1 (rs:=rs) (ks:=[5]) rfl (by decide)) ?_;rintro _ _ _ _ ⟨rfl,rfl,rfl,rfl⟩;rw[uV];by_cases Eh:dR 5 (rs.drop a)=true
 ·rw[G2 Eh]at hp xP;have hBc:pZ (rs.drop a)=none→B:=fun h=>xP (by rw[h]);refine bD [] 72 (dR 5 (rs.drop a)) Eh ?_;refine cI [72] 3 [.int .i64 5,.int .i64 6,.int .i64 308] (aQ B) (fun zp=>?_);refine cZ [] [] (PO pb sl a) O [] [] [] ⟨rfl,by rfl,trivial⟩ (l7 B pb sl a zp 3 (rs:=rs) (ks:=[5,6,308]) rfl (by decide) (fun h=>hBc (by unfold pZ;rw[h]))) ?_;rintro _ _ _ _ ⟨eh,a1,O1,sH,ha1,hl1,rfl,hg1,rfl,rfl⟩;obtain⟨v1,rfl⟩:=iz hg1;have Og:pZ (rs.drop a)=(match gf (rs.drop a1).length (rs.drop a1)with
   |some (i,m')=>(match gN 7 m' with
    |some (_,LJ)=>some (⟨eh.map dJ.r,i⟩,LJ)
    |none=>none)
   |none=>none):=by
   unfold pZ;rw[sH];simp only;cases gf (rs.drop a1).length (rs.drop a1)with
   |none=>rfl
   |some q=>rfl
  refine jZ [] [] (fun _:YI=>[]) (fun q=>[(5,[bz v1,bz q.v])]) (fun q=>PO pb sl q.a++(q.O++(O1++O))) (fun q=>[nU sl rs,nU h hs,rB pH (bz v) es,iX (bz v1) eh,rB lI (bz q.v) q.es]) (fun q=>rs.drop a1=(q.es.map nd.x).flatMap eP++rs.drop q.a∧cG 2 q.O (bz q.v) q.es.length (q.es.flatMap lI.cells)∧gf (rs.drop a1).length (rs.drop a1)=(match gf (rs.drop q.a).length (rs.drop q.a)with
   |some (b,m)=>some (q.es.map nd.x++b,m)
   |none=>none)) (fun q=>(rs.drop q.a).length) ⟨a1,⟨none,0,0⟩,[],[]⟩ ⟨rfl,cG.nil 2,by
    simp only[di,aA];cases gf (rs.drop a1).length (rs.drop a1)<;>rfl⟩ (eC eK (eC eK (eC eK (eC eK (eC (fun I w hd hh e he=>by simp at he) eE))))) ?_
  rintro⟨a2,vi,Oi,ei⟩ K ⟨hi1,ZP,hpi⟩ VN;simp only at hi1 ZP hpi;have ago:ei.length≤100000:=by
   have h1:=dz List.length hi1;have h2:=tH qY (ei.map nd.x);simp at h1 h2;omega
  refine cr [] 0 pb 0 (aQ B) ?_;refine cI [] 7 [.int .u8 8,.int .u8 9,.int .u8 10,.int .u8 11,.int .u8 12,.int .u8 21,.int .u8 45] (aQ B) (fun sX=>?_);refine cZ [] [] (PO pb sl a2) (Oi++(O1++O)) [] [] [] ⟨rfl,by rfl,trivial⟩ (rX B pb sl a2 sX 7 (rs:=rs) (ks:=[8,9,10,11,12,21,45]) rfl (by decide)) ?_;rintro _ _ _ _ ⟨rfl,rfl,rfl,rfl⟩;rw[Mg];by_cases hsi:ec (rs.drop a2)=true
  ·rw[G7 hsi]at hpi;have hBi:fV (rs.drop a2)=none→B:=fun h=>hBc (by rw[Og,hpi,h]);refine bD [] 81 (ec (rs.drop a2)) hsi ?_;refine cZ [81] [] (PO pb sl a2) (Oi++(O1++O)) [] [] [] ⟨rfl,by rfl,trivial⟩ (Xb B pb sl a2 (rs:=rs) hlen hsi hBi) ?_;rintro _ _ _ _ ⟨x,f,p,a3,hx,rfl,rfl,rfl,rfl⟩;rw[hx]at hpi;refine cI [] 1 [bz f,bz p] (aQ B) (fun TQ=>?_);refine W.app [] (PO pb sl a3++(Oi++(O1++O))) (PO pb sl a3) Oi (O1++O) 2 48 ei.length 1 (bz vi) (.slice (some ⟨TQ,0,none⟩) 1 1) (ei.flatMap lI.cells) [bz f,bz p] (aQ B) (by simp) ZP (bW TQ _ 1 2 rfl 1) (Jb f p) (by omega) (by decide) (fun v' O' hg'=>?_);obtain⟨v',rfl⟩:=iz hg';refine VN [] _ _ ⟨a3,v',O',ei++[⟨f,p,x⟩]⟩ (by kernel_rfl) (by kernel_rfl) ⟨?_,cG.cast (by simp[lI]) (by simp) hg',?_⟩ (yy hx) (eC eK (eC eK (eC eK (eC eK (eC (fun I w hd hh=>rB.snoc (R:=lI) (e:=(⟨f,p,x⟩:nd)) (eK (k:=rB lI (bz vi)) I w hd hh) (eK (k:=mq f p) I w hd hh)) eE)))))
   ·rw[hi1,r9 _ _ _ hx];simp
   ·rw[hpi];simp only;cases gf (rs.drop a3).length (rs.drop a3)with
    |none=>rfl
    |some q=>simp
  ·rw[G8 hsi]at hpi;simp only[af]at hpi;refine aS [] 81 (ec (rs.drop a2)) (by simpa using hsi) ?_;refine cr [81] 0 pb 0 (aQ B) ?_;refine cZ [] [] (PO pb sl a2) (Oi++(O1++O)) [] [] [] ⟨rfl,by rfl,trivial⟩ (lZ B pb sl a2 7 (rs:=rs) (fun h=>hBc (by rw[Og,hpi];simp only;rw[h]))) ?_;rintro _ _ _ _ ⟨r7,u7,hm7,rfl,rfl,rfl,rfl⟩;rw[hpi]at Og;simp only at Og;rw[hm7]at Og;simp only at Og;rw[Og]at hp;simp only at hp;refine lQ (PO pb sl (a2+1)) Oi (O1++O) (by kernel_rfl) ZP (fun g5 g3 g4=>?_);refine Rv (PO pb sl (a2+1)) O1 O rfl hg1 (fun g6 g1 g2=>?_);refine cI [] 1 [bz v1,bz vi] (aQ B) (fun CA=>?_);refine W.app [] (PO pb sl (a2+1)++O) (PO pb sl (a2+1)) O [] 2 48 es.length 1 (bz v) (.slice (some ⟨CA,0,none⟩) 1 1) (es.flatMap pH.cells) [bz v1,bz vi] (aQ B) (by simp) hg (bW CA _ 1 2 rfl 1) (Jb v1 vi) (by omega) (by decide) (fun v' O' hg'=>?_);obtain⟨v',rfl⟩:=iz hg';refine close [] _ _ ⟨a2+1,v',O',es++[⟨v1,vi,⟨eh.map dJ.r,ei.map nd.x⟩⟩]⟩ (by kernel_rfl) (by simp only[af];kernel_rfl) ⟨?_,cG.cast (by simp[pH]) (by simp) hg',?_⟩ (yx Og) (eC eK (eC eK (eC (fun I w hd hh=>rB.snoc (R:=pH) (e:=(⟨v1,vi,⟨eh.map dJ.r,ei.map nd.x⟩⟩:qi)) (eK (k:=rB pH (bz v)) I w hd hh) ⟨l_ g6 g1 g2 (eK (k:=iX (bz v1)) I w hd hh) (eK (k:=RA v1.ao) (a:=eh.flatMap dw.cells) I w hd hh),JW lI nd.x g5 g3 g4 (eK (k:=rB lI (bz vi)) I w hd hh) (eK (k:=RA vi.ao) (a:=ei.flatMap lI.cells) I w hd hh)⟩) eE)))
   ·rw[he,rZ _ _ _ Og];simp
   ·rw[hp];cases fF (rs.drop (a2+1)).length (rs.drop (a2+1))with
    |none=>rfl
    |some q=>simp
 ·rw[G5 Eh]at hp xP;refine aS [] 72 (dR 5 (rs.drop a)) (by simpa using Eh) ?_;refine cr [72] 0 pb 0 (aQ B) ?_;refine cZ [] [] (PO pb sl a) O [] [] [] ⟨rfl,by rfl,trivial⟩ (lZ B pb sl a 4 (rs:=rs) xP) ?_;rintro _ _ _ _ ⟨r,u,hm,rfl,rfl,rfl,rfl⟩;refine lQ (PO pb sl (a+1)) O [] (by rw[af O];kernel_rfl) hg (fun g5 g1 g2=>?_);refine j0 [] (mo h v) (PO pb sl (a+1)) [] ⟨⟨hs,es.map qi.x⟩,h,v,a+1,?_,rfl,rfl,rfl,rfl⟩ (fun I w hd hh=>aU ⟨eK (k:=nU h) I w hd hh,JW pH qi.x g5 g1 g2 (eK (k:=rB pH (bz v)) I w hd hh) (eK (k:=RA v.ao) I w hd hh)⟩);unfold se;rw[hf];simp only;rw[hp];simp only[af];rw[hm]
theorem PS{l x m:List Re}(h:dk [0,1,313,314,315,2,287,288,291,290] l=some (x,m)):p9 l=(match nZ m with
  |some (y,m')=>(match gN 3 m' with
   |some (r,LJ)=>some (x++(y++[r]),LJ)
   |none=>none)
  |none=>none):=by
 unfold p9 fW;rw[h];simp only;cases hq:nZ m with
 |none=>rfl
 |some q=>
  obtain⟨y,m'⟩:=q;simp only;rw[eW (by decide) (by decide)];cases gN 3 m' with
  |none=>rfl
  |some q=>rfl
structure U7 where
 a:Nat
 v:Sl
 O:List (Nat×List Value)
 ms:List dJ
theorem aaI(B:Prop)(pb:Nat)(sl:Sl)(cM:Nat){rs:List Re} [h:aY (nU sl) rs Γ](hlen:rs.length≤100000)(hB:se (rs.drop cM)=none→B):
  dC (sq B) Tryz.prog 73 [fp pb] (PO pb sl cM) [] Γ (DG pb sl cM rs):=by
 have V9:p9 (rs.drop cM)=none→B:=fun h=>hB (by unfold se;rw[h]);refine dC.of_W (aQ B) Tryz.func73 rfl ?_;refine cI [] 10 [.int .i64 0,.int .i64 1,.int .i64 313,.int .i64 314,.int .i64 315,.int .i64 2,.int .i64 287,.int .i64 288,.int .i64 291,.int .i64 290] (aQ B) (fun b1=>?_);refine cZ [] [] (PO pb sl cM) [] [] [] [] ⟨rfl,by rfl,trivial⟩ (l7 B pb sl cM b1 10 (rs:=rs) (ks:=[0,1,313,314,315,2,287,288,291,290]) rfl (by decide) (fun h=>V9 (by unfold p9 fW;rw[h]))) ?_;rintro _ _ _ _ ⟨e0,a0,O0,ox,ha0,hl0,rfl,hg0,rfl,rfl⟩;obtain⟨v0,rfl⟩:=iz hg0;simp only[af,aA];have RZ:=PS ox;refine cr [] 0 pb 0 (aQ B) ?_;refine cI [] 1 [.int .u8 54] (aQ B) (fun b3=>?_);refine cZ [] [] (PO pb sl a0) O0 [] [] [] ⟨rfl,by rfl,trivial⟩ (rX B pb sl a0 b3 1 (rs:=rs) (ks:=[54]) rfl (by decide)) ?_;rintro _ _ _ _ ⟨rfl,rfl,rfl,rfl⟩;rw[uV];by_cases hs:dR 54 (rs.drop a0)=true
 ·refine bD [] 14 (dR 54 (rs.drop a0)) hs ?_;have sU:nZ (rs.drop a0)=(match gN 54 (rs.drop a0)with
   |some (a,m)=>(match fQ m.length m with
    |some (b,m')=>if b=[]then some ([a],m')else
     (match gN 56 m' with
      |some (e,LJ)=>some (a::(b++[e]),LJ)
      |none=>none)
    |none=>none)
   |none=>none):=by unfold nZ;rw[if_pos hs];rfl
  refine cr [14] 0 pb 0 (aQ B) ?_;refine cZ [] [] (PO pb sl a0) O0 [] [] [] ⟨rfl,by rfl,trivial⟩ (lZ B pb sl a0 54 (rs:=rs) (fun h=>V9 (by rw[RZ,sU,h]))) ?_;rintro _ _ _ _ ⟨Kt,Mn,acX,rfl,rfl,rfl,rfl⟩;rw[acX]at sU;simp only at sU;refine cI [] 1 [.int .u8 Kt.k,.int .u8 Kt.d,bz Mn] (aQ B) (fun b54=>?_);refine W.app [] (PO pb sl (a0+1)++O0) (PO pb sl (a0+1)) O0 [] 3 32 (e0.length) 1 (bz v0) (.slice (some ⟨b54,0,none⟩) 1 1) (e0.flatMap dw.cells) [.int .u8 Kt.k,.int .u8 Kt.d,bz Mn] (aQ B) (by simp) hg0 (bW b54 _ 1 3 rfl 1) (by simp[Value.oneCell']) (by omega) (by decide) (fun v1 O1 g1=>?_);obtain⟨v1,rfl⟩:=iz g1;refine cr [] 0 pb 0 (aQ B) ?_;refine cr [] 1 pb (0+0) (aQ B) ?_;refine dQ [] (PO pb sl (a0+1)++O1++[]) pb (0+0+1) 1 [bz sl,.int .i64 ((a0+1:Nat):Int)] (.int .i64 ((a0+1:Nat):Int)) (aQ B) (by simp) rfl ?_;refine jZ [] [] (fun _:U7=>[]) (fun q=>[(3,[bz q.v,.slice none 0 0])]) (fun q=>PO pb sl q.a++q.O) (fun q=>[nU sl rs,iX (bz q.v) (e0++[(⟨Mn,Kt⟩:dJ)]++q.ms)]) (fun q=>q.a=a0+1+q.ms.length∧rs.drop (a0+1)=q.ms.map dJ.r++rs.drop q.a∧cG 3 q.O (bz q.v) (e0.length+1+q.ms.length) ((e0++[(⟨Mn,Kt⟩:dJ)]++q.ms).flatMap dw.cells)∧fQ (rs.drop (a0+1)).length (rs.drop (a0+1))=(match fQ (rs.drop q.a).length (rs.drop q.a)with
   |some (b,m)=>some (q.ms.map dJ.r++b,m)
   |none=>none)) (fun q=>(rs.drop q.a).length) ⟨a0+1,v1,O1,[]⟩ (h0:=(by simp only[af];kernel_rfl)) ⟨rfl,rfl,cG.cast (by simp[dw]) rfl g1,by
    simp only[di,aA];cases fQ (rs.drop (a0+1)).length (rs.drop (a0+1))<;>rfl⟩ (eC eK (eC (fun I w hd hh=>by
   simp only[af];exact iX.app (v:=bz v1) (eK (k:=iX (bz v0)) I w hd hh) (iX.one (v:=bz v0) (eK (k:=xS Mn) I w hd hh))) eE)) ?_
  rintro⟨a,v,O,ms⟩ K ⟨QY,hqd,hg,Ul⟩ VO;simp only at QY hqd hg Ul;have hml:ms.length≤100000:=by
   have:=dz List.length hqd;simp at this;omega
  refine cr [] 0 pb 0 (aQ B) ?_;refine cI [] 1 [.int .u8 55] (aQ B) (fun b9=>?_);refine cZ [] [] (PO pb sl a) O [] [] [] ⟨rfl,by rfl,trivial⟩ (rX B pb sl a b9 1 (rs:=rs) (ks:=[55]) rfl (by decide)) ?_;rintro _ _ _ _ ⟨rfl,rfl,rfl,rfl⟩;rw[uV];by_cases hs5:dR 55 (rs.drop a)=true
  ·rw[G9 hs5]at Ul;refine bD [] 33 (dR 55 (rs.drop a)) hs5 ?_;refine cr [33] 0 pb 0 (aQ B) ?_;refine cZ [] [] (PO pb sl a) O [] [] [] ⟨rfl,by rfl,trivial⟩ (lZ B pb sl a 55 (rs:=rs) (fun h=>V9 (by rw[RZ,sU,Ul,h]))) ?_;rintro _ _ _ _ ⟨r5,u5,hm5,rfl,rfl,rfl,rfl⟩;rw[hm5]at Ul;refine cI [] 1 [.int .u8 r5.k,.int .u8 r5.d,bz u5] (aQ B) (fun b5=>?_);refine W.app [] (PO pb sl (a+1)++O) (PO pb sl (a+1)) O [] 3 32 (e0.length+1+ms.length) 1 (bz v) (.slice (some ⟨b5,0,none⟩) 1 1) ((e0++[(⟨Mn,Kt⟩:dJ)]++ms).flatMap dw.cells) [.int .u8 r5.k,.int .u8 r5.d,bz u5] (aQ B) (by simp) hg (bW b5 _ 1 3 rfl 1) (by simp[Value.oneCell']) (by omega) (by decide) (fun v2 O2 g2=>?_);obtain⟨v2,rfl⟩:=iz g2;refine VO [] _ _ ⟨a+1,v2,O2,ms++[⟨u5,r5⟩]⟩ (by kernel_rfl) (by simp only[af];kernel_rfl) ⟨by simp only[az,aF,bE];omega,?_,cG.cast (by simp[dw]) (by simp;try omega) g2,?_⟩ (Dk hm5) (eC eK (eC (fun I w hd hh=>by
    simp only[←aT];exact iX.app (v:=bz v2) (eK (k:=iX (bz v)) I w hd hh) (iX.one (v:=bz v0) (eK (k:=xS u5) I w hd hh))) eE))
   ·rw[hqd,(fG hm5).1];simp
   ·rw[Ul];simp only;cases fQ (rs.drop (a+1)).length (rs.drop (a+1))with
    |none=>rfl
    |some q=>simp
  ·rw[G_ hs5]at Ul;simp only[af]at Ul;rw[Ul]at sU;simp only at sU;refine aS [] 33 (dR 55 (rs.drop a)) (by simpa using hs5) ?_;refine cr [33] 0 pb 0 (aQ B) ?_;refine cr [] 1 pb (0+0) (aQ B) ?_;refine dQ [] (PO pb sl a++O) pb (0+0+1) 1 [bz sl,.int .i64 (a:Int)] (.int .i64 (a:Int)) (aQ B) (by simp) rfl ?_;cases ms with
   |nil=>
    simp only[di,eV]at sU;have haa:a=a0+1:=by simpa using QY
    refine aS [] 49 (decide ((a:Int)>((a0+1:Nat):Int))) (ak (by omega)) ?_;have NY:gN 3 (rs.drop a)=none→B:=fun h=>V9 (by rw[RZ,sU];simp only;rw[h]);refine cr [49] 0 pb 0 (aQ B) ?_;refine cZ [] [] (PO pb sl a) O [] [] [] ⟨rfl,by rfl,trivial⟩ (eo:=(by simp only[af];kernel_rfl)) (lZ B pb sl a 3 (rs:=rs) NY) ?_;rintro _ _ _ _ ⟨r3,u3,hm3,rfl,rfl,rfl,rfl⟩;refine cI [] 1 [.int .u8 r3.k,.int .u8 r3.d,bz u3] (aQ B) (fun Ia=>?_);refine W.app [] (PO pb sl (a+1)++O) (PO pb sl (a+1)) O [] 3 32 (e0.length+1+([]:List dJ).length) 1 (bz v) (.slice (some ⟨Ia,0,none⟩) 1 1) ((e0++[(⟨Mn,Kt⟩:dJ)]++[]).flatMap dw.cells) [.int .u8 r3.k,.int .u8 r3.d,bz u3] (aQ B) (by simp) hg (bW Ia _ 1 3 rfl 1) (by simp[Value.oneCell']) (by omega) (by decide) (fun vz Oz gz=>?_);obtain⟨vz,rfl⟩:=iz gz;refine lQ (PO pb sl (a+1)) Oz [] (by kernel_rfl) gz (fun Zx Zv Zw=>?_);have hf:p9 (rs.drop cM)=some (((e0++[(⟨Mn,Kt⟩:dJ)]++[])++[(⟨u3,r3⟩:dJ)]).map dJ.r,rs.drop (a+1)):=by rw[RZ,sU];simp only;rw[hm3];simp
    refine kB [] Tryz.f73 1 104 104 [0,2,3] [2,3] (Yj pb) (Yk vz) (Zm pb sl) (fun _=>[]) (Zj sl rs vz (((e0++[(⟨Mn,Kt⟩:dJ)]++[])++[(⟨u3,r3⟩:dJ)]).map dJ.r)) (Zk rs (a+1)) (Zl rs) ⟨a+1,⟨none,0,0⟩,[],[]⟩ ⟨rfl,cG.nil 2,by
      simp only[di,aA];cases fF (rs.drop (a+1)).length (rs.drop (a+1))<;>rfl⟩ (eC eK (eC (fun I w hd hh=>l_ (v:=bz v0) (Zx.trans (by simp;try omega)) Zv Zw (iX.app (v:=bz v0) (eK (k:=iX (bz v)) I w hd hh) (iX.one (v:=bz v0) (eK (k:=xS u3) I w hd hh))) (by
      have:=eK (k:=RA vz.ao) I w hd hh;simpa [dw]using this)) (eC (fun I w hd hh e he=>by simp at he) eE))) ?_
    exact fun q R hq close=>A9 B pb sl vz cM (a+1) hlen hf hB q R hq close
   |cons x ms=>
    rw[if_neg (by simp)]at sU;refine bD [] 49 (decide ((a:Int)>((a0+1:Nat):Int))) (aw (by simp at QY;omega)) ?_;refine cr [49] 0 pb 0 (aQ B) ?_;refine cZ [] [] (PO pb sl a) O [] [] [] ⟨rfl,by rfl,trivial⟩ (lZ B pb sl a 56 (rs:=rs) (fun h=>V9 (by rw[RZ,sU,h]))) ?_;rintro _ _ _ _ ⟨r6,u6,hm6,rfl,rfl,rfl,rfl⟩;rw[hm6]at sU;simp only at sU;refine cI [] 1 [.int .u8 r6.k,.int .u8 r6.d,bz u6] (aQ B) (fun b6=>?_);refine W.app [] (PO pb sl (a+1)++O) (PO pb sl (a+1)) O [] 3 32 (e0.length+1+(x::ms).length) 1 (bz v) (.slice (some ⟨b6,0,none⟩) 1 1) ((e0++[(⟨Mn,Kt⟩:dJ)]++(x::ms)).flatMap dw.cells) [.int .u8 r6.k,.int .u8 r6.d,bz u6] (aQ B) (by simp) hg (bW b6 _ 1 3 rfl 1) (by simp[Value.oneCell']) (by omega) (by decide) (fun v6 O6 g6=>?_);obtain⟨v6,rfl⟩:=iz g6;have NY:gN 3 (rs.drop (a+1))=none→B:=fun h=>V9 (by rw[RZ,sU];simp only;rw[h]);refine cr [] 0 pb 0 (aQ B) ?_;refine cZ [] [] (PO pb sl (a+1)) O6 [] [] [] ⟨rfl,by rfl,trivial⟩ (eo:=(by simp only[af];kernel_rfl)) (lZ B pb sl (a+1) 3 (rs:=rs) NY) ?_;rintro _ _ _ _ ⟨r3,u3,hm3,rfl,rfl,rfl,rfl⟩;refine cI [] 1 [.int .u8 r3.k,.int .u8 r3.d,bz u3] (aQ B) (fun Ia=>?_);refine W.app [] (PO pb sl ((a+1)+1)++O6) (PO pb sl ((a+1)+1)) O6 [] 3 32 (e0.length+1+(x::ms).length+1) 1 (bz v6) (.slice (some ⟨Ia,0,none⟩) 1 1) (((e0++[(⟨Mn,Kt⟩:dJ)]++(x::ms)).flatMap dw.cells)++[.int .u8 r6.k,.int .u8 r6.d,bz u6]) [.int .u8 r3.k,.int .u8 r3.d,bz u3] (aQ B) (by simp) g6 (bW Ia _ 1 3 rfl 1) (by simp[Value.oneCell']) (by omega) (by decide) (fun vz Oz gz=>?_)
    obtain⟨vz,rfl⟩:=iz gz;refine lQ (PO pb sl ((a+1)+1)) Oz [] (by kernel_rfl) gz (fun Zx Zv Zw=>?_);have hf:p9 (rs.drop cM)=some ((((e0++[(⟨Mn,Kt⟩:dJ)]++(x::ms))++[(⟨u6,r6⟩:dJ)])++[(⟨u3,r3⟩:dJ)]).map dJ.r,rs.drop ((a+1)+1)):=by rw[RZ,sU];simp only;rw[hm3];simp
    refine kB [] Tryz.f73 1 104 104 [0,2,3] [2,3] (Yj pb) (Yk vz) (Zm pb sl) (fun _=>[]) (Zj sl rs vz ((((e0++[(⟨Mn,Kt⟩:dJ)]++(x::ms))++[(⟨u6,r6⟩:dJ)])++[(⟨u3,r3⟩:dJ)]).map dJ.r)) (Zk rs ((a+1)+1)) (Zl rs) ⟨(a+1)+1,⟨none,0,0⟩,[],[]⟩ ⟨rfl,cG.nil 2,by
      simp only[di,aA];cases fF (rs.drop ((a+1)+1)).length (rs.drop ((a+1)+1))<;>rfl⟩ (eC eK (eC (fun I w hd hh=>l_ (v:=bz v0) (Zx.trans (by simp;try omega)) Zv Zw (iX.app (v:=bz v0) (iX.app (v:=bz v0) (eK (k:=iX (bz v)) I w hd hh) (iX.one (v:=bz v0) (eK (k:=xS u6) I w hd hh))) (iX.one (v:=bz v0) (eK (k:=xS u3) I w hd hh))) (by
      have:=eK (k:=RA vz.ao) I w hd hh;simpa [dw]using this)) (eC (fun I w hd hh e he=>by simp at he) eE))) ?_
    exact fun q R hq close=>A9 B pb sl vz cM ((a+1)+1) hlen hf hB q R hq close
 ·have sU:nZ (rs.drop a0)=some ([],rs.drop a0):=by unfold nZ;rw[if_neg hs]
  refine aS [] 14 (dR 54 (rs.drop a0)) (by simpa using hs) ?_;have NY:gN 3 (rs.drop a0)=none→B:=fun h=>V9 (by rw[RZ,sU];simp only;rw[h]);refine cr [14] 0 pb 0 (aQ B) ?_;refine cZ [] [] (PO pb sl a0) O0 [] [] [] ⟨rfl,by rfl,trivial⟩ (eo:=(by simp only[af];kernel_rfl)) (lZ B pb sl a0 3 (rs:=rs) NY) ?_;rintro _ _ _ _ ⟨r3,u3,hm3,rfl,rfl,rfl,rfl⟩;refine cI [] 1 [.int .u8 r3.k,.int .u8 r3.d,bz u3] (aQ B) (fun Ia=>?_);refine W.app [] (PO pb sl (a0+1)++O0) (PO pb sl (a0+1)) O0 [] 3 32 (e0.length) 1 (bz v0) (.slice (some ⟨Ia,0,none⟩) 1 1) (e0.flatMap dw.cells) [.int .u8 r3.k,.int .u8 r3.d,bz u3] (aQ B) (by simp) hg0 (bW Ia _ 1 3 rfl 1) (by simp[Value.oneCell']) (by omega) (by decide) (fun vz Oz gz=>?_);obtain⟨vz,rfl⟩:=iz gz;refine lQ (PO pb sl (a0+1)) Oz [] (by kernel_rfl) gz (fun Zx Zv Zw=>?_);have hf:p9 (rs.drop cM)=some ((e0++[(⟨u3,r3⟩:dJ)]).map dJ.r,rs.drop (a0+1)):=by rw[RZ,sU];simp only;rw[hm3];simp
  refine kB [] Tryz.f73 1 104 104 [0,2,3] [2,3] (Yj pb) (Yk vz) (Zm pb sl) (fun _=>[]) (Zj sl rs vz ((e0++[(⟨u3,r3⟩:dJ)]).map dJ.r)) (Zk rs (a0+1)) (Zl rs) ⟨a0+1,⟨none,0,0⟩,[],[]⟩ ⟨rfl,cG.nil 2,by
    simp only[di,aA];cases fF (rs.drop (a0+1)).length (rs.drop (a0+1))<;>rfl⟩ (eC eK (eC (fun I w hd hh=>l_ (v:=bz v0) (Zx.trans (by simp;try omega)) Zv Zw (iX.app (v:=bz v0) (eK (k:=iX (bz v0)) I w hd hh) (iX.one (v:=bz v0) (eK (k:=xS u3) I w hd hh))) (by
    have:=eK (k:=RA vz.ao) I w hd hh;simpa [dw]using this)) (eC (fun I w hd hh e he=>by simp at he) eE))) ?_
  exact fun q R hq close=>A9 B pb sl vz cM (a0+1) hlen hf hB q R hq close
end
def wm(z:Nat)(O:List (Nat×List Value))(v:Value)(n:Nat)(xs:List Value):Prop:=cG z O v n xs∨(O=[]∧n=0∧xs=[]∧∃b off,v=.slice (some ⟨b,off,none⟩) 0 0)
theorem wm.cast{z:Nat}{O:List (Nat×List Value)}{v:Value}{n n':Nat}{xs xs':List Value}(hx:xs=xs')(hn:n=n')(h:wm z O v n xs):wm z O v n' xs':=by
 subst hx hn;exact h
section
variable{T:Tb}{P:Program}{fin:VS→List aE→Prop}{c:fJ}{Γ:List aE}
theorem vI(D:List Nat)(O:List (Nat×List Value))(z bytes n m:Nat)(v x:Value)(xs news:List Value)(hT:T.Ok P)
   (hg:wm z O v n xs)(hx:qS T Γ O x m z news)(h1:∀u∈news,u.oneCell'=true)
  (hn:n+m≤1000000)(hb:bytes≤100000000)
  (hk:∀v' O',wm z O' v' (n+m) (xs++news)→W T P fin (m_ (aJ T (a_ T D 999 c)) O' v') Γ)(h:p_ T (aJ T (a_ T D 999 c))=some (O,z,bytes,v,x):=by kernel_rfl):W T P fin c Γ:=by
 rcases hg with hg|⟨rfl,rfl,rfl,b,off,rfl⟩
 ·refine W.app D O [] O [] z bytes n m v x xs news hT (h:=h) (by simp) hg hx h1 hn hb (fun v' O' hg'=>?_);have:=hk v' O' (.inl hg');rw[aA,af];exact this
 ·refine TB D [] z bytes m b off x news hT h hx (by omega) hb (fun h0=>?_) (fun g cap cur hp h2 h3 h4 h5=>?_)
  ·subst h0;obtain⟨ao,cc,_,hl,_⟩:=hx;have:news=[]:=aL (by simpa using hl);subst this;exact hk _ _ (.inr ⟨rfl,rfl,rfl,b,off,rfl⟩)
  ·obtain⟨ao,cc,_,hl,_⟩:=hx;refine hk _ _ (.inl ⟨by rw[aA,hl,cz],.inr ⟨g,cap,cur,by rw[cz],rfl,by omega,h3,h4,by rw[aA,cz];exact h5⟩⟩)
theorem Vj{z n:Nat}(O:List (Nat×List Value)){v:Value}{xs:List Value}(hg:wm z O v n xs)
  (hk:∀s:Sl,v=bz s→s.n=n→s.n≤s.c→s.c≤maxLen→W T P fin ⟨(dN T 999 c).s.setOwn [],(dN T 999 c).k⟩ (RA s.ao xs::Γ))(ho:(dN T 999 c).s.own=O:=by kernel_rfl)(hm:dG (dN T 999 c).k=false:=by kernel_rfl):W T P fin c Γ:=by
 rcases hg with hg|⟨rfl,rfl,rfl,b,off,rfl⟩
 ·refine mU [] O [] (by rw[af];exact ho) hg (hm:=hm) (fun ao c' hv h1 h2=>?_);exact hk ⟨ao,n,c'⟩ hv rfl h1 h2
 ·refine W.code 999 ?_;generalize(dN T 999 c)=c1 at*;obtain⟨s,k⟩:=c1;refine W.elim (α:=Unit) (fun _=>True) (fun _=>[RA (some ⟨b,off,none⟩) []]) hm (fun I w _ hh=>⟨(),trivial,aU (RA.nil _ _ _)⟩) (fun _ _=>?_);have:=hk ⟨some ⟨b,off,none⟩,0,0⟩ rfl rfl (ai _) (aM _);have ho:s.own=[]:=ho;rw[show s.setOwn []=s from by rw[←ho];rfl]at this;exact this
theorem qA(O:List (Nat×List Value))(hk:W T P fin ⟨(dN T 999 c).s.setOwn O,(dN T 999 c).k⟩ Γ)(ho:(dN T 999 c).s.own=O++[]:=by kernel_rfl):W T P fin c Γ:=by
 refine W.code 999 ?_;rw[af]at ho;rw[←ho]at hk;exact hk
theorem Jm(s:Sl){l:List Re} [h:aY (nU s) l Γ](hm:dG c.k=false)(hc:∀es:List dJ,es.map dJ.r=l→s.n=es.length→(0<s.n→∃b off,s.ao=some ⟨b,off,none⟩)→W T P fin c (RA s.ao (es.flatMap dw.cells)::iX (bz s) es::Γ)):W T P fin c Γ:=
 W.elim (α:=List dJ) (fun es=>es.map dJ.r=l∧s.n=es.length∧(0<s.n→∃b off,s.ao=some ⟨b,off,none⟩)) (fun es=>[RA s.ao (es.flatMap dw.cells),iX (bz s) es]) hm (fun I w _ hh=>by
  obtain⟨es,rfl,h2,_,h4,h5⟩:=h.p hh;rw[bL]at h2;refine⟨es,⟨rfl,h2,fun hp=>?_⟩,aG.cons h5 (aU h4)⟩;obtain⟨b,off,ha,_⟩:=h5 (by
   cases es with
   |nil=>simp at h2;omega
   |cons e r=>simp[dw])
  exact⟨b,off,ha⟩) (fun es hq=>hc es hq.1 hq.2.1 hq.2.2)
theorem xB(s:Sl){es:List dJ} [h:aY (RA s.ao) (es.flatMap dw.cells) Γ](own:List (Nat×List Value))(hn:s.n=es.length)(ha:0<s.n→∃b off,s.ao=some ⟨b,off,none⟩):qS T Γ own (bz s) s.n 3 (es.flatMap dw.cells):=
 Hg s.ao own s.n 3 s.c (by rw[SP,hn]) ha
theorem EM{k:Int}(hk:k=17∨k=7∨k=4)(I:fZ)(w:World):(xS ⟨none,0,0⟩ (iI k)).p I w:=by
 refine⟨?_,⟨Int.le_refl _,(by decide:(0:Int)<256)⟩,qD _ _ _⟩;rcases hk with rfl|rfl|rfl<;>exact⟨by decide,by decide⟩
end
theorem D6(k:Int):∀u∈([.int .u8 k,.int .u8 0,.slice none 0 0]:List Value),u.oneCell'=true:=by
 intro u hu;simp only[aD,aC,bp]at hu;rcases hu with rfl|rfl|rfl<;>rfl
theorem RQ(t:Li){i:Nat}{c:Ce}(h:t.c[i]? =some c):(t.h++(t.c.take i).flatMap gh++gh c).length≤(jo t).length:=by
 obtain⟨h1,h2⟩:=List.getElem?_eq_some_iff.1 h;have e:t.c=t.c.take i++c::t.c.drop (i+1):=by
  rw[←h2,←bI h1,jW]
 have e2:jo t=t.h++((t.c.take i++c::t.c.drop (i+1)).flatMap gh++[iI 4]):=by rw[←e];rfl
 rw[e2];simp only[bA,bh,az];omega
theorem NS(c:Ce){i:Nat}{x:Im}(h:c.i[i]? =some x):(c.h++(c.i.take i).flatMap eP++eP x).length≤(gh c).length:=by
 obtain⟨h1,h2⟩:=List.getElem?_eq_some_iff.1 h;have e:c.i=c.i.take i++x::c.i.drop (i+1):=by
  rw[←h2,←bI h1,jW]
 have e2:gh c=c.h++((c.i.take i++x::c.i.drop (i+1)).flatMap eP++[iI 7]):=by rw[←e];rfl
 rw[e2];simp only[bA,bh,az];omega
theorem fy{α:Type}{l:List α}{i:Nat}{a:α}(h:l[i]? =some a):l.take (i+1)=l.take i++[a]:=by
 rw[List.take_add_one,h];rfl
structure YH where
 i:Nat
 z:Int
 v:Value
 O:List (Nat×List Value)
 es:List dJ
section
variable{Γ:List aE}
theorem Pn(s:Sl){l:List Re} [h:aY (nU s) l Γ](hl:l.length≤1000000):
  kj tb Tryz.prog 74 [bz s] Γ (fun v O Δ=>∃es:List dJ,es.map dJ.r=l∧wm 3 O v es.length (es.flatMap dw.cells)∧Δ=[iX v es]):=by
 refine kj.of_W aB Tryz.func74 rfl ?_;refine Jm s rfl (fun es he hn ha=>?_);have hlen:es.length≤1000000:=by rw[←he,bL]at hl;exact hl
 refine MW [] s.ao 22 45 Tryz.underlying22 ?_;refine W.d [] 4 s.ao.isNone (fun h0=>?_) (fun h0=>?_)
 ·have hb:es=[]:=Classical.byContradiction fun hne=>by
   obtain⟨bb,off,e⟩:=ha (by rw[hn];exact List.length_pos_iff.2 hne);rw[e]at h0;simp at h0
  subst hb;exact YW [4] (.slice none 0 0) [] ⟨[],he,.inl (cG.nil 3),rfl⟩ (eC (fun I w hd hh e he=>by simp at he) eE)
 ·refine TC [4] aB (fun b1=>?_);refine vI [] [] 3 32 0 s.n (.slice (some ⟨b1,0,none⟩) 0 0) (bz s) [] (es.flatMap dw.cells) aB (.inr ⟨rfl,rfl,rfl,b1,0,rfl⟩) (xB s [] hn ha) (jr es) (by omega) (by decide) (fun v' O' hg'=>?_);exact YW [] v' O' ⟨es,he,hg'.cast (by simp) (by omega),rfl⟩ (eC (fun I w hd hh=>eK (k:=iX (bz s)) I w hd hh) eE)
theorem Xa(h c:Sl){t:Li} [hF:aY (HK h c) t Γ](hl:(jo t).length≤100000):
  au tb Tryz.prog 42 [mo h c] Γ (fun v Δ=>∃u:Sl,v=bz u∧Δ=[nU u (jo t)]):=by
 have hh0:t.h.length≤1000000:=by
  have:(jo t).length=t.h.length+((t.c.flatMap gh).length+1):=by simp[jo]
  omega
 refine au.of_W aB Tryz.func42 rfl ?_;obtain⟨ca,cn,cc⟩:=c;refine W.more (Δ:=[nU h t.h]) rfl (fun I w _ hh=>aU (hF.p hh).1) ?_;refine W.more (Δ:=[pF ⟨ca,cn,cc⟩ t.c]) rfl (fun I w _ hh=>aU (aY.p (k:=HK h ⟨ca,cn,cc⟩) (a:=t) inferInstance hh).2) ?_;refine W.len pH qi.x ⟨ca,cn,cc⟩ rfl (fun h1 h2 h3=>?_);simp only at h1 h2 h3;refine YT [] (Pn h (l:=t.h) hh0) ?_;rintro v0 O0 _ ⟨e0,Wf,hg0,rfl⟩;refine qA O0 ?_;refine jZ [] [3,14] (fun a:YH=>[(3,a.v),(14,.int .i64 a.z)]) (fun _=>[]) (fun a=>a.O) (fun a=>[pF ⟨ca,cn,cc⟩ t.c,iX a.v a.es]) (fun a=>a.z=a.i∧a.i≤cn∧a.es.map dJ.r=t.h++(t.c.take a.i).flatMap gh∧wm 3 a.O a.v a.es.length (a.es.flatMap dw.cells)) (fun a=>cn-a.i) ⟨0,0,v0,O0,e0⟩ ⟨rfl,aM _,by simp[Wf],hg0⟩ (eC eK (eC eK eE)) ?_;rintro⟨i,z,v,O,es⟩ K ⟨hz,hi,he,hg⟩ close;simp only at hz hi he hg;have hel:es.length=(t.h++(t.c.take i).flatMap gh).length:=by rw[←he,bL]
 by_cases hlt:i<cn
 ·obtain⟨x,hx⟩:∃x,t.c[i]? =some x:=⟨_,ar (by omega)⟩;have hb:=RQ t hx;rw[az,←hel]at hb;refine wv ⟨ca,cn,cc⟩ hx (fun b off fh fi ha=>?_);simp only at ha;subst ha;refine W.more (Δ:=[nU fh x.h]) rfl (fun I w _ hh=>aU (aY.p (k:=xM fh fi) (a:=x) inferInstance hh).1) ?_;refine W.more (Δ:=[uC fi x.i]) rfl (fun I w _ hh=>aU (aY.p (k:=xM fh fi) (a:=x) inferInstance hh).2) ?_;obtain⟨ia,im,ic⟩:=fi;refine W.len lI nd.x ⟨ia,im,ic⟩ rfl (fun i1 i2 i3=>?_);simp only at i1 i2 i3;refine Jm fh rfl (fun eh hhe hhn hha=>?_);have Ov:(gh x).length=eh.length+((x.i.flatMap eP).length+1):=by rw[gh,az,az,←hhe,bL];rfl
  refine bD [] 15 (decide (z<(cn:Int))) (aw (by omega)) ?_;refine cA [15] 2 b off cn cc .i64 i z hz aB hlt ?_;refine dd [] b (off+i*2) [bz fh,.slice ia im ic] aB (dL b (off+i*2)) ?_;refine vI [] O 3 32 es.length fh.n v (bz fh) (es.flatMap dw.cells) (eh.flatMap dw.cells) aB hg (xB fh O hhn hha) (jr eh) (by omega) (by decide) (fun v1 O1 hg1=>?_);refine jZ [] [3,25] (fun a:YH=>[(3,a.v),(25,.int .i64 a.z)]) (fun _=>[]) (fun a=>a.O) (fun a=>[pF ⟨some ⟨b,off,none⟩,cn,cc⟩ t.c,uC ⟨ia,im,ic⟩ x.i,iX a.v a.es]) (fun a=>a.z=a.i∧a.i≤im∧a.es.map dJ.r=t.h++(t.c.take i).flatMap gh++(x.h++(x.i.take a.i).flatMap eP)∧wm 3 a.O a.v a.es.length (a.es.flatMap dw.cells)) (fun a=>im-a.i) ⟨0,0,v1,O1,es++eh⟩ ⟨rfl,aM _,by simp[he,hhe],hg1.cast (by simp) (by simp[hhn])⟩ (eC eK (eC eK (eC (fun I w hd hh=>iX.app (v:=v1) (eK (k:=iX v) I w hd hh) (eK (k:=iX (bz fh)) I w hd hh)) eE))) ?_;rintro⟨j,zj,vj,Oj,ej⟩ K2 ⟨Yu,hj,ZK,hgj⟩ g8;simp only at Yu hj ZK hgj;have acM:ej.length=es.length+(x.h++(x.i.take j).flatMap eP).length:=by rw[hel,←az,←ZK,bL]
  by_cases Z0:j<im
  ·obtain⟨y,hy⟩:∃y,x.i[j]? =some y:=⟨_,ar (by omega)⟩;have FX:=NS x hy;rw[az]at FX;refine Am ⟨ia,im,ic⟩ hy (fun b2 pd yf yp ha=>?_);simp only at ha;subst ha;refine W.more (Δ:=[nU yf y.f]) rfl (fun I w _ hh=>aU (aY.p (k:=mq yf yp) (a:=y) inferInstance hh).1) ?_;refine W.more (Δ:=[nU yp y.p]) rfl (fun I w _ hh=>aU (aY.p (k:=mq yf yp) (a:=y) inferInstance hh).2) ?_;refine Jm yf rfl (fun ef hfe Yo hfa=>?_);refine Jm yp rfl (fun ep QX Lx Z9=>?_);have hyl:(eP y).length=ef.length+(ep.length+1):=by rw[eP,az,az,←hfe,←QX,bL,bL];rfl
   refine bD [] 26 (decide (zj<(im:Int))) (aw (by omega)) ?_;refine cA [26] 2 b2 pd im ic .i64 j zj Yu aB Z0 ?_;refine dd [] b2 (pd+j*2) [bz yf,bz yp] aB (dL b2 (pd+j*2)) ?_;refine vI [] Oj 3 32 ej.length yf.n vj (bz yf) (ej.flatMap dw.cells) (ef.flatMap dw.cells) aB hgj (xB yf Oj Yo hfa) (jr ef) (by omega) (by decide) (fun v2 O2 nP=>?_);refine vI [] O2 3 32 (ej.length+yf.n) yp.n v2 (bz yp) (ej.flatMap dw.cells++ef.flatMap dw.cells) (ep.flatMap dw.cells) aB nP (xB yp O2 Lx Z9) (jr ep) (by omega) (by decide) (fun v3 O3 x7=>?_);refine cI [] 1 [.int .u8 17,.int .u8 0,.slice none 0 0] aB (fun b4=>?_);refine vI [] O3 3 32 (ej.length+yf.n+yp.n) 1 v3 (.slice (some ⟨b4,0,none⟩) 1 1) (ej.flatMap dw.cells++ef.flatMap dw.cells++ep.flatMap dw.cells) [.int .u8 17,.int .u8 0,.slice none 0 0] aB x7 (bW b4 _ 1 3 rfl 1) (D6 17) (by omega) (by decide) (fun v4 O4 JO=>?_);refine g8 [] _ _ ⟨j+1,IntKind.i64.wrap (zj+1),v4,O4,ej++(ef++(ep++[⟨⟨none,0,0⟩,iI 17⟩]))⟩ (by kernel_rfl) (by kernel_rfl) ⟨by simp only[ah];omega,Z0,?_,JO.cast (by simp[dw,iI]) (by simp[Yo,Lx];omega)⟩ (by simp only;omega) (eC eK (eC eK (eC (fun I w hd hh=>iX.app (v1:=vj) (eK (k:=iX vj) I w hd hh) (iX.app (v:=vj) (eK (k:=iX (bz yf)) I w hd hh) (iX.app (v:=vj) (eK (k:=iX (bz yp)) I w hd hh) (iX.one (v:=vj) (EM (.inl rfl) I w))))) eE)))
   rw[fy hy];simp[ZK,hfe,QX,eP]
  ·have hjx:j=x.i.length:=by omega
   refine aS [] 26 (decide (zj<(im:Int))) (ak (by omega)) ?_;refine cI [26] 1 [.int .u8 7,.int .u8 0,.slice none 0 0] aB (fun b4=>?_);refine vI [] Oj 3 32 ej.length 1 vj (.slice (some ⟨b4,0,none⟩) 1 1) (ej.flatMap dw.cells) [.int .u8 7,.int .u8 0,.slice none 0 0] aB hgj (bW b4 _ 1 3 rfl 1) (D6 7) (by
    rw[aV (l:=x.i) (by omega),az,←hhe,bL]at acM;omega) (by decide) (fun v4 O4 JO=>?_)
   refine close [] _ _ ⟨i+1,IntKind.i64.wrap (z+1),v4,O4,ej++[⟨⟨none,0,0⟩,iI 7⟩]⟩ (by kernel_rfl) (by kernel_rfl) ⟨by simp only[ah];omega,hlt,?_,JO.cast (by simp[dw,iI]) (by simp)⟩ (by simp only;omega) (eC eK (eC (fun I w hd hh=>iX.app (v1:=vj) (eK (k:=iX vj) I w hd hh) (iX.one (v:=vj) (EM (.inr (.inl rfl)) I w))) eE));rw[fy hx];rw[aV (l:=x.i) (by omega)]at ZK;simp[ZK,gh]
 ·have QV:i=t.c.length:=by omega
  have hfl:(jo t).length=es.length+1:=by
   rw[hel,aV (by omega)];simp[jo];omega
  refine aS [] 15 (decide (z<(cn:Int))) (ak (by omega)) ?_;refine cI [15] 1 [.int .u8 4,.int .u8 0,.slice none 0 0] aB (fun b4=>?_);refine vI [] O 3 32 es.length 1 v (.slice (some ⟨b4,0,none⟩) 1 1) (es.flatMap dw.cells) [.int .u8 4,.int .u8 0,.slice none 0 0] aB hg (bW b4 _ 1 3 rfl 1) (D6 4) (by omega) (by decide) (fun v4 O4 JO=>?_);refine Vj O4 JO (fun u hv g5 g1 g2=>?_);subst hv;refine W.r [] (bz u) ⟨u,rfl,rfl⟩ (eC (fun I w hd hh=>?_) eE);have e:jo t=(es++[(⟨⟨none,0,0⟩,iI 4⟩:dJ)]).map dJ.r:=by
   rw[aV (by omega)]at he;simp[jo,he]
  rw[e];refine l_ (v:=v) (es:=es++[(⟨⟨none,0,0⟩,iI 4⟩:dJ)]) (by simp[g5]) g1 g2 (iX.app (v1:=v) (eK (k:=iX v) I w hd hh) (iX.one (v:=v) (EM (.inr (.inr rfl)) I w))) ?_;have:=eK (k:=RA u.ao) I w hd hh;simpa [dw,iI]using this
end
theorem Ba:∀{l m:List Im},jQ l m=true→l.length=m.length
 | [],[],_=>rfl
 |x::l,y::m,h=>by
  simp only[jQ,aK]at h;simp[Ba h.2]
 | [],_::_,h=>by simp[jQ]at h
 |_::_,[],h=>by simp[jQ]at h
theorem A_:∀{l m:List Ce},jP l m=true→l.length=m.length
 | [],[],_=>rfl
 |x::l,y::m,h=>by
  simp only[jP,aK]at h;simp[A_ h.2]
 | [],_::_,h=>by simp[jP]at h
 |_::_,[],h=>by simp[jP]at h
theorem rU(n m:Nat):((n:Int)==(m:Int))=(n==m):=by
 by_cases h:n=m
 ·subst h;simp
 ·rw[beq_eq_false_iff_ne.2 h,beq_eq_false_iff_ne.2 (by omega)]
section
variable{Γ:List aE}
theorem Sz(a b c d:Sl){x y:Im} [h1:aY (mq a b) x Γ] [h2:aY (mq c d) y Γ]:au tb Tryz.prog 78 [mo a b,mo c d] Γ (js (.bool (xa x y))):=by
 refine au.of_W aB Tryz.func78 rfl ?_;refine qz (a.n=x.f.length∧b.n=x.p.length∧c.n=y.f.length∧d.n=y.p.length) rfl (fun I w _ hh=>by
  obtain⟨⟨_,_,e1,_⟩,_,_,e2,_⟩:=h1.p hh;obtain⟨⟨_,_,e3,_⟩,_,_,e4,_⟩:=h2.p hh;exact⟨e1,e2,e3,e4⟩) (fun⟨e1,e2,e3,e4⟩=>?_)
 have hl:xa x y=((a.n==c.n)&&(b.n==d.n)):=by rw[e1,e2,e3,e4];rfl
 refine W.d [] 12 ((a.n:Int)==(c.n:Int)) (fun hb=>?_) (fun hb=>?_)
 ·exact W.r [12] (.bool ((b.n:Int)==(d.n:Int))) ⟨by rw[hl,←rU,hb,dP,rU],rfl⟩ bU
 ·exact W.r [12] (.bool false) ⟨by rw[hl,←rU,hb];rfl,rfl⟩ bU
theorem aaG(a b:Sl){l m:List Im} [h1:aY (uC a) l Γ] [h2:aY (uC b) m Γ]:au tb Tryz.prog 77 [bz a,bz b,.func (.func 78) #[] #[]] Γ (js (.bool (jQ l m))):=by
 refine au.of_W aB Tryz.func77 rfl ?_;obtain⟨aa,an,ac⟩:=a;obtain⟨ba,bn,bc⟩:=b;refine W.len lI nd.x ⟨aa,an,ac⟩ rfl (fun g1 g2 g3=>?_);refine W.len lI nd.x ⟨ba,bn,bc⟩ rfl (fun k1 k2 k3=>?_);simp only at g1 g2 g3 k1 k2 k3;by_cases hne:an=bn
 ·refine aS [] 14 ((an:Int) != (bn:Int)) (by simp[hne]) ?_;refine xU [14] [6,17] (fun q:Nat×Int=>[(6,.bool false),(17,.int .i64 q.2)]) (fun _=>[]) (fun _=>[uC ⟨aa,an,ac⟩ l,uC ⟨ba,bn,bc⟩ m]) (fun q=>q.2=q.1∧q.1≤an∧jQ (l.drop q.1) (m.drop q.1)=jQ l m) (fun q=>an-q.1) (0,0) ⟨rfl,aM _,rfl⟩ (eC eK (eC eK eE)) ?_;rintro⟨i,z⟩ K ⟨hz,hi,fP⟩ close;simp only at hz hi fP;by_cases hlt:i<an
  ·obtain⟨x,hx⟩:∃x,l[i]? =some x:=⟨_,ar (by omega)⟩;obtain⟨y,hy⟩:∃y,m[i]? =some y:=⟨_,ar (by omega)⟩;rw[iH hx,iH hy,jQ]at fP;refine Am ⟨aa,an,ac⟩ hx (fun b1 o1 f1 p1 ha=>?_);refine Am ⟨ba,bn,bc⟩ hy (fun b2 o2 f2 p2 hb=>?_);simp only at ha hb;subst ha hb;refine bD [] 18 (decide (z<(an:Int))) (aw (by omega)) ?_;refine cA [18] 2 b1 o1 an ac .i64 i z hz aB hlt ?_;refine dd [] b1 (o1+i*2) [bz f1,bz p1] aB (dL b1 (o1+i*2)) ?_;refine cA [] 2 b2 o2 bn bc .i64 i z hz aB (by omega) ?_;refine dd [] b2 (o2+i*2) [bz f2,bz p2] aB (dL b2 (o2+i*2)) ?_;refine aj [] (Sz f1 p1 f2 p2 (x:=x) (y:=y)) ?_;rintro _ _ ⟨rfl,rfl⟩;refine W.d [] 30 (!xa x y) (fun hb=>?_) (fun hb=>?_)
   ·exact W.r [30] (.bool false) ⟨by rw[←fP,(by simpa using hb:xa x y=false)];rfl,rfl⟩ bU
   ·refine close [30] _ _ (i+1,IntKind.i64.wrap (z+1)) (by kernel_rfl) (by kernel_rfl) ⟨by simp only[ah];omega,hlt,?_⟩ (by simp only;omega) (eC eK (eC eK eE));rw[←fP,(by simpa using hb:xa x y=true),dP]
  ·refine aS [] 18 (decide (z<(an:Int))) (ak (by omega)) ?_;refine W.r [18] (.bool true) ⟨?_,rfl⟩ bU;rw[←fP,bk (by omega),bk (by omega)];rfl
 ·refine bD [] 14 ((an:Int) != (bn:Int)) (bne_iff_ne.2 (fun h=>hne (by omega))) ?_;refine W.r [14] (.bool false) ⟨?_,rfl⟩ bU;cases hq:jQ l m with
  |false=>rfl
  |true=>exact absurd (by rw[g1,k1];exact Ba hq) hne
theorem Sy(a b c d:Sl){x y:Ce} [h1:aY (xM a b) x Γ] [h2:aY (xM c d) y Γ]:au tb Tryz.prog 76 [mo a b,mo c d] Γ (js (.bool (w_ x y))):=by
 refine au.of_W aB Tryz.func76 rfl ?_;refine qz (a.n=x.h.length∧c.n=y.h.length) rfl (fun I w _ hh=>by
  obtain⟨⟨_,_,e1,_⟩,_⟩:=h1.p hh;obtain⟨⟨_,_,e3,_⟩,_⟩:=h2.p hh;exact⟨e1,e3⟩) (fun⟨e1,e3⟩=>?_)
 have hl:w_ x y=((a.n==c.n)&&(jQ x.i y.i)):=by rw[e1,e3];rfl
 refine W.more (Δ:=[uC b x.i]) rfl (fun I w _ hh=>aU (aY.p (k:=xM a b) (a:=x) inferInstance hh).2) ?_;refine W.more (Δ:=[uC d y.i]) rfl (fun I w _ hh=>aU (aY.p (k:=xM c d) (a:=y) inferInstance hh).2) ?_;refine W.d [] 12 ((a.n:Int)==(c.n:Int)) (fun hb=>?_) (fun hb=>?_)
 ·refine aj [12] (aaG b d (l:=x.i) (m:=y.i)) ?_;rintro _ _ ⟨rfl,rfl⟩;exact W.r [12] (.bool (jQ x.i y.i)) ⟨by rw[hl,←rU,hb,dP],rfl⟩ bU
 ·exact W.r [12] (.bool false) ⟨by rw[hl,←rU,hb];rfl,rfl⟩ bU
theorem aaF(a b:Sl){l m:List Ce} [h1:aY (pF a) l Γ] [h2:aY (pF b) m Γ]:au tb Tryz.prog 75 [bz a,bz b,.func (.func 76) #[] #[]] Γ (js (.bool (jP l m))):=by
 refine au.of_W aB Tryz.func75 rfl ?_;obtain⟨aa,an,ac⟩:=a;obtain⟨ba,bn,bc⟩:=b;refine W.len pH qi.x ⟨aa,an,ac⟩ rfl (fun g1 g2 g3=>?_);refine W.len pH qi.x ⟨ba,bn,bc⟩ rfl (fun k1 k2 k3=>?_);simp only at g1 g2 g3 k1 k2 k3;by_cases hne:an=bn
 ·refine aS [] 14 ((an:Int) != (bn:Int)) (by simp[hne]) ?_;refine xU [14] [6,17] (fun q:Nat×Int=>[(6,.bool false),(17,.int .i64 q.2)]) (fun _=>[]) (fun _=>[pF ⟨aa,an,ac⟩ l,pF ⟨ba,bn,bc⟩ m]) (fun q=>q.2=q.1∧q.1≤an∧jP (l.drop q.1) (m.drop q.1)=jP l m) (fun q=>an-q.1) (0,0) ⟨rfl,aM _,rfl⟩ (eC eK (eC eK eE)) ?_;rintro⟨i,z⟩ K ⟨hz,hi,fP⟩ close;simp only at hz hi fP;by_cases hlt:i<an
  ·obtain⟨x,hx⟩:∃x,l[i]? =some x:=⟨_,ar (by omega)⟩;obtain⟨y,hy⟩:∃y,m[i]? =some y:=⟨_,ar (by omega)⟩;rw[iH hx,iH hy,jP]at fP;refine wv ⟨aa,an,ac⟩ hx (fun b1 o1 f1 p1 ha=>?_);refine wv ⟨ba,bn,bc⟩ hy (fun b2 o2 f2 p2 hb=>?_);simp only at ha hb;subst ha hb;refine bD [] 18 (decide (z<(an:Int))) (aw (by omega)) ?_;refine cA [18] 2 b1 o1 an ac .i64 i z hz aB hlt ?_;refine dd [] b1 (o1+i*2) [bz f1,bz p1] aB (dL b1 (o1+i*2)) ?_;refine cA [] 2 b2 o2 bn bc .i64 i z hz aB (by omega) ?_;refine dd [] b2 (o2+i*2) [bz f2,bz p2] aB (dL b2 (o2+i*2)) ?_;refine aj [] (Sy f1 p1 f2 p2 (x:=x) (y:=y)) ?_;rintro _ _ ⟨rfl,rfl⟩;refine W.d [] 30 (!w_ x y) (fun hb=>?_) (fun hb=>?_)
   ·exact W.r [30] (.bool false) ⟨by rw[←fP,(by simpa using hb:w_ x y=false)];rfl,rfl⟩ bU
   ·refine close [30] _ _ (i+1,IntKind.i64.wrap (z+1)) (by kernel_rfl) (by kernel_rfl) ⟨by simp only[ah];omega,hlt,?_⟩ (by simp only;omega) (eC eK (eC eK eE));rw[←fP,(by simpa using hb:w_ x y=true),dP]
  ·refine aS [] 18 (decide (z<(an:Int))) (ak (by omega)) ?_;refine W.r [18] (.bool true) ⟨?_,rfl⟩ bU;rw[←fP,bk (by omega),bk (by omega)];rfl
 ·refine bD [] 14 ((an:Int) != (bn:Int)) (bne_iff_ne.2 (fun h=>hne (by omega))) ?_;refine W.r [14] (.bool false) ⟨?_,rfl⟩ bU;cases hq:jP l m with
  |false=>rfl
  |true=>exact absurd (by rw[g1,k1];exact A_ hq) hne
theorem Xd(a b c d:Sl){x y:Li} [h1:aY (HK a b) x Γ] [h2:aY (HK c d) y Γ]:au tb Tryz.prog 43 [mo a b,mo c d] Γ (js (.bool (Gm x y))):=by
 refine au.of_W aB Tryz.func43 rfl ?_;refine qz (a.n=x.h.length∧c.n=y.h.length) rfl (fun I w _ hh=>by
  obtain⟨⟨_,_,e1,_⟩,_⟩:=h1.p hh;obtain⟨⟨_,_,e3,_⟩,_⟩:=h2.p hh;exact⟨e1,e3⟩) (fun⟨e1,e3⟩=>?_)
 have hl:Gm x y=((a.n==c.n)&&(jP x.c y.c)):=by rw[e1,e3];rfl
 refine W.more (Δ:=[pF b x.c]) rfl (fun I w _ hh=>aU (aY.p (k:=HK a b) (a:=x) inferInstance hh).2) ?_;refine W.more (Δ:=[pF d y.c]) rfl (fun I w _ hh=>aU (aY.p (k:=HK c d) (a:=y) inferInstance hh).2) ?_;refine W.d [] 12 ((a.n:Int)==(c.n:Int)) (fun hb=>?_) (fun hb=>?_)
 ·refine aj [12] (aaF b d (l:=x.c) (m:=y.c)) ?_;rintro _ _ ⟨rfl,rfl⟩;exact W.r [12] (.bool (jP x.c y.c)) ⟨by rw[hl,←rU,hb,dP],rfl⟩ bU
 ·exact W.r [12] (.bool false) ⟨by rw[hl,←rU,hb];rfl,rfl⟩ bU
end
theorem Sm(w:World):(binOp BinOp.neq 20 .nilIface .nilIface).run Tryz.prog w=.ok (.bool false) w:=by kernel_rfl
theorem Ic(p q:Addr)(w:World):
  CallsD Tryz.prog 72 #[.pointer (some p),.pointer (some q)] .returning w fun e u' w'=>e=.returned (.tuple #[])∧u'=.returning∧w'=w:=by
 refine callsD_of_wpS Tryz.func72 rfl fun c₀ cs hu=>?_;apply wpS_seq;apply wpS_region;simp[wpOpsS,go_sem,recoverD,hu,Exit.thenS];apply wpS_seq;apply wpS_region;simp[wpOpsS,go_sem,Exit.thenS,Sm];refine wpS_cond (t:=false) (by simp[Act.eval,Array.replicate]) ?_;simp only[iK,ea];refine wpS_of_wp (wp_skip ?_);cases c₀
 simp_all [bodyPostS,results]
theorem LO(w:World):(binOp BinOp.neq 20 (.iface 149 (.agg #[])) .nilIface).run Tryz.prog w=.ok (.bool true) w:=by kernel_rfl
theorem Qt(w:World):(Instr.typeAssert (.iface 149 (.agg #[])) 20 149 true).run Tryz.prog w=.ok (.tuple #[.agg #[],.bool true]) w:=by kernel_rfl
theorem jk{w:World}{b o:Nat}{v:Value}{c:Array Value}{e:TypeId}(h:w.heap[b]? =some (.cells c e (0,0))):(w.setCell ⟨b,o,none⟩ v).heap[b]? =some (.cells (c.setIfInBounds o v) e (0,0)):=by
 simp[World.setCell,jV,h]
theorem eQ{w:World}{b o k:Nat}{v:Value}(h:k≠b):(w.setCell ⟨b,o,none⟩ v).heap[k]? =w.heap[k]? :=by
 simp only[World.setCell,jV];rw[if_neg (fun e=>h e.symm)]
theorem oq{w:World}{b o:Nat}{c:Array Value}{e:TypeId}(h:w.heap[b]? =some (.cells c e (0,0))):w.cell? ⟨b,o,none⟩=c[o]? :=by simp[World.cell?,h]
theorem uK{w:World}{b o:Nat}{c:Array Value}{e:TypeId}(h:w.heap[b]? =some (.cells c e (0,0))):w.frozen? ⟨b,o,none⟩=false:=by simp[World.frozen?,h]
theorem kC{w:World}{x:Obj}{k:Nat}{y:Obj}(h:w.heap[k]? =some y):(w.alloc x).heap[k]? =some y:=by
 have:=(Array.getElem?_eq_some_iff.1 h).1;simp only[World.alloc];rw[Array.getElem?_push_lt this,←h];exact(Array.getElem?_eq_getElem this).symm
def uG(tb eb:Nat)(w:World):World:=((((w.alloc (.cells #[] 149)).setCell ⟨tb,0,none⟩ (.slice none 0 0)).setCell ⟨tb,1,none⟩ (.slice none 0 0)).setCell ⟨eb,0,none⟩ (.int .i64 20))
theorem FJ(tb eb:Nat)(w:World)(x y z:Value)(et ee:TypeId)(h1:w.heap[tb]? =some (.cells #[x,y] et (0,0)))(h2:w.heap[eb]? =some (.cells #[z] ee (0,0)))(hne:tb≠eb):
  CallsD Tryz.prog 72 #[.pointer (some ⟨tb,0,none⟩),.pointer (some ⟨eb,0,none⟩)] (.panicking [{v:=.iface 149 (.agg #[]),recovered:=false}]) w fun e u' w'=>e=.returned (.tuple #[])∧u'=.panicking [{v:=.iface 149 (.agg #[]),recovered:=true}]∧w'=uG tb eb w:=by
 have a1:=kC (x:=.cells #[] 149) h1;have a2:=kC (x:=.cells #[] 149) h2;have b1:=jk (o:=0) (v:=.slice none 0 0) a1;have b2:((w.alloc (.cells #[] 149)).setCell ⟨tb,0,none⟩ (.slice none 0 0)).heap[eb]? =_:=(eQ (fun e=>hne e.symm)).trans a2;have d2:(((w.alloc (.cells #[] 149)).setCell ⟨tb,0,none⟩ (.slice none 0 0)).setCell ⟨tb,1,none⟩ (.slice none 0 0)).heap[eb]? =_:=(eQ (fun e=>hne e.symm)).trans b2;have c1:=oq (o:=0) a1;have z1:=uK (o:=0) a1;have c2:=oq (o:=1) b1;have z2:=uK (o:=1) b1;have c3:=oq (o:=0) d2;have z3:=uK (o:=0) d2;refine callsD_of_wpS Tryz.func72 rfl fun c₀ cs hu=>?_;apply wpS_seq;apply wpS_region;simp[wpOpsS,go_sem,recoverD,hu,Exit.thenS];apply wpS_seq;apply wpS_region;simp[wpOpsS,go_sem,Exit.thenS,LO];refine wpS_cond (t:=true) (by simp[Act.eval,Array.replicate]) ?_;simp only[eV];apply wpS_seq;apply wpS_seq;apply wpS_region;simp[wpOpsS,go_sem,Exit.thenS,Qt,storeCells];apply wpS_seq;apply wpS_region;simp[wpOpsS,go_sem,Exit.thenS];refine wpS_cond (t:=false) (by simp[Act.eval,Array.replicate]) ?_;simp only[iK,ea];refine wpS_of_wp (wp_skip ?_);simp only[Exit.thenS];apply wpS_region;simp[wpOpsS,go_sem,Exit.thenS,c1,z1,c2,z2,c3,z3];simp[bodyPostS,results,uG]
theorem To{T:Tb}{P:Program}{rc:Code}{tm:List Value}{nb:Nat}{Oin:List (Nat×List Value)}{I:fZ}{w:World}{ds:List Deferred}{fin:VS→List aE→Prop}{Q:Exit→Act→World→Prop}{Γ:List aE}(hT:T.Ok P)(hQ:∀l a w,¬Q (.goto l) a w)
  (hfin:∀s Γ a w' ρ,fin s Γ→iv T w ⟨I,gS Oin [],ds⟩ Γ s a w' ρ→Q .normal a w'∧Q .ret a w')
  (vp:∀ch a w',T.pan ch→a.defers=ds→j6 (gS Oin []) w w'→(∃ks own,T.held ks own∧gD T own w'∧∀x∈ks,a.tmps.getD x.1 undef=x.2)→Q (.panic ch) a w')
  (hW:W T P fin ⟨⟨tm.map .val,List.replicate nb none,Oin,[]⟩,[.code rc]⟩ Γ)(hd:bB T I w)(hh:aG Γ I w)(ho:gD T Oin w)(hon:(Oin.map (·.1)).Nodup)(hx:∀b,gS Oin [] b→¬I b):
  rc.wp P Q {tmps:=tm.toArray,defers:=ds} w:=by
 have tN:∀(t:Nat) (cs:List Value),(List.replicate nb (none:Option (List Value)))[t]? =some (some cs)→False:=by
  intro t cs ht;rw[cW]at ht;split at ht<;>simp at ht
 have JS:iv T w ⟨I,gS Oin [],ds⟩ Γ ⟨tm.map .val,List.replicate nb none,Oin,[]⟩ {tmps:=tm.toArray,defers:=ds} w (fun _=>0):=by
  refine⟨rfl,by simp,fun i sv hi=>?_,j6.refl _ _,fun t cs ht=>(tN t cs ht).elim,fun t u cs cs' ht=>(tN t cs ht).elim,fun i t off hi=>?_,hd,hh.up (fun b hb hI=>⟨fun _=>.inl hI,fun t cs ht=>(tN t cs ht).elim,fun cs hc=>hx b (.inl ⟨cs,hc⟩) hI,fun m hm=>absurd hm (by simp)⟩) (fun _ _ _=>rfl) (ai _),ho,fun b cs hb=>.inr (.inl ⟨cs,hb⟩),fun b cs hb t cs' ht=>(tN t cs' ht).elim,hon,fun b m hb=>absurd hb (by simp),fun b m hb=>absurd hb (by simp),by simp⟩
  ·simp only[bN]at hi;cases hv:tm[i]? with
   |none=>rw[hv]at hi;simp at hi
   |some v=>
    rw[hv]at hi;simp only[dq,aq]at hi;subst hi;simp[rel,dE,hv]
  ·simp only[bN]at hi;cases hv:tm[i]? with
   |none=>rw[hv]at hi;simp at hi
   |some v=>rw[hv]at hi;simp at hi
 have:=hW.sound (w0:=w) (I0:=⟨I,gS Oin [],ds⟩) (Q:=Q) hT hQ hfin vp rfl;rw[dB rfl]at this;exact this _ w _ JS
theorem tK{P:Program}{ops:Array Oper}{Q:Exit→Act→World→Prop}{i:Nat}{rest:List Nat}{o:Oper}{a:Act}{v:Value}{w w':World}(hi:ops[i]? =some o)(hg:o.guard=none)(hr:(execOp a.eval o).run P w=.ok (.value v) w')(hk:wpOps P ops Q rest (a.put o.dst v) w'):wpOps P ops Q (i::rest) a w:=by
 rw[wpOps_cons];unfold wpOp;rw[hi];simp only;rw[show Region.wanted o (yielded ops a.tmps)=true from by unfold Region.wanted;rw[hg],if_pos rfl];left;unfold Oper.wp;rw[hr];exact hk
theorem V8{P:Program}{ops:Array Oper}{Q:Exit→Act→World→Prop}{i:Nat}{rest:List Nat}{o:Oper}{a:Act}{d:Deferred}{w w':World}(hi:ops[i]? =some o)(hg:o.guard=none)(hk:wpOps P ops Q rest ({a with defers:=d::a.defers}.put o.dst undef) w')(hr:(execOp a.eval o).run P w=.ok (.defer d) w':=by kernel_rfl):wpOps P ops Q (i::rest) a w:=by
 rw[wpOps_cons];unfold wpOp;rw[hi];simp only;rw[show Region.wanted o (yielded ops a.tmps)=true from by unfold Region.wanted;rw[hg],if_pos rfl];left;unfold Oper.wp;rw[hr];exact hk
section
variable{T:Tb}{P:Program}{fin:VS→List aE→Prop}{c:fJ}{Γ:List aE}
theorem abE(D:List Nat)(hk:fin ((jh (aJ T (a_ T D 999 c))).getD ⟨[],[],[],[]⟩) Γ)(h:(jh (aJ T (a_ T D 999 c))).isSome=true:=by kernel_rfl):W T P fin c Γ:=by
 refine eF D 999 ?_;generalize a_ T D 999 c=c1 at*;cases he:aJ T c1<;>rw[he]at h hk<;>simp[jh]at h hk;exact W.ret he hk
theorem Vg(D:List Nat)(n:Nat)(v:Value)(ks:List (Nat×Value))(own:List (Nat×List Value))(hp:T.pan [{v,recovered:=false}])(hh:T.held ks own)(hk:∀x∈ks,lz x.1 (Xt (a_ T D n c))=false∧(a_ T D n c).s.tmps[x.1]? =some (.val x.2))(h:xu T (a_ T D n c)=some v:=by kernel_rfl)(ho:(a_ T D n c).s.own=own:=by kernel_rfl):W T P fin c Γ:=
 W.pan D n v (h:=h) hp ⟨ks,by rw[ho];exact hh,hk⟩
end
def DF(rs:List Re)(v:Value)(Δ:List aE):Prop:=
 (∃(t:Li) (h c:Sl),se rs=some (t,[])∧v=.tuple #[mo h c,.int .i64 0]∧Δ=[HK h c t])∨((∀t,se rs≠some (t,[]))∧v=.tuple #[mo ⟨none,0,0⟩ ⟨none,0,0⟩,.int .i64 20]∧Δ=[])
abbrev tbQ(B:Prop)(tv ev:Nat):Tb:={sq B with pins:=[2,3],held:=fun ks own=>ks=[(2,fp tv),(3,fp ev)]∧(∃x y,(tv,[x,y])∈own)∧∃z,(ev,[z])∈own}
theorem zi(B:Prop)(tv ev:Nat):(tbQ B tv ev).Ok Tryz.prog:=⟨aB.mixed,aB.ty⟩
theorem dC.q{B:Prop}{tv ev:Nat}{f:FuncId}{args:List Value}{Oin:List (Nat×List Value)}{Min:List (Nat×List (Value×Value))}{Γ:List aE}{post:Value→List (Nat×List Value)→List (Nat×List (Value×Value))→List aE→Prop}(h:dC (sq B) Tryz.prog f args Oin Min Γ post):dC (tbQ B tv ev) Tryz.prog f args Oin Min Γ post:=h
def I6(fn:Func):Code:=match fn.body with
 |some (.seq _ (.seq _ c))=>c
 |_=>.skip
def U5(rs:List Re)(tv ev:Nat)(s:VS)(Γ:List aE):Prop:=
 ∃(t:Li) (h c:Sl),se rs=some (t,[])∧s.tmps[2]? =some (.val (fp tv))∧s.tmps[3]? =some (.val (fp ev))∧(tv,[bz h,bz c])∈s.own∧(ev,[.int .i64 0])∈s.own∧∀I w,bB (tbQ True tv ev) I w→aG Γ I w→aG [HK h c t] I w
theorem IX(s:Sl){rs:List Re}{Γ:List aE} [h:aY (nU s) rs Γ](hlen:rs.length≤100000)(tv ev:Nat)(fv:Value):
  W (tbQ (∀t,se rs≠some (t,[])) tv ev) Tryz.prog (U5 rs tv ev) ⟨⟨([bz s,undef,fp tv,fp ev,undef,fv]++List.replicate 17 undef).map .val,List.replicate 23 none,[(tv,[.slice none 0 0,.slice none 0 0]),(ev,[.int .i64 0])],[]⟩,[.code (I6 Tryz.f41)]⟩ Γ:=by
 have hd0:rs.drop 0=rs:=rfl;refine W.len dw dJ.r s rfl (fun n1 n2 n3=>?_);refine vl 9 (fun pb=>?_);refine MP [] [] (PO pb s 0) [(tv,[.slice none 0 0,.slice none 0 0]),(ev,[.int .i64 0])] [] [] [] ⟨rfl,by rfl⟩ ⟨[(2,fp tv),(3,fp ev)],⟨rfl,⟨_,_,.head _⟩,_,.tail _ (.head _)⟩,fun x hx=>by
  simp only[aD,aC,bp]at hx;rcases hx with rfl|rfl
  ·exact⟨rfl,by kernel_rfl⟩
  ·exact⟨rfl,by kernel_rfl⟩⟩ (by kernel_rfl) (by kernel_rfl) (by kernel_rfl) (aaI (∀t,se rs≠some (t,[])) pb s 0 (rs:=rs) hlen (fun qG t=>by rw[hd0]at qG;rw[qG];simp)).q ?_
 rintro _ _ _ _ ⟨t,hs,cs,yM,hp,rfl,rfl,rfl,rfl⟩;rw[hd0]at hp;refine nV [] ([]++(PO pb s yM++[(tv,[.slice none 0 0,.slice none 0 0]),(ev,[.int .i64 0])])) (PO pb s yM) [(ev,[.int .i64 0])] 2 tv 0 [.slice none 0 0,.slice none 0 0] (mo hs cs) [bz hs,bz cs] (zi _ tv ev) rfl rfl (by intro u hu;simp[Value.cells]at hu;rcases hu with rfl|rfl<;>rfl) (ai 2) rfl ?_;refine cr [] 0 pb 0 (zi _ tv ev) ?_;refine cr [] 1 pb (0+0) (zi _ tv ev) ?_;refine dQ [] (PO pb s yM++(tv,[bz hs,bz cs])::[(ev,[.int .i64 0])]) pb (0+0+1) 1 [bz s,.int .i64 (yM:Int)] (.int .i64 (yM:Int)) (zi _ tv ev) (.head _) rfl ?_;by_cases hlt:yM<s.n
 ·have hne:∀t,se rs≠some (t,[]):=fun t' e=>by
   rw[hp]at e;injection e with e;injection e with _ e;have:=dz List.length e;simp at this;omega
  refine bD [] 19 (decide ((yM:Int)<(s.n:Int))) (aw (by omega)) ?_;exact Vg [19] 1 yI [(2,fp tv),(3,fp ev)] (PO pb s yM++(tv,[bz hs,bz cs])::[(ev,[.int .i64 0])]) ⟨hne,rfl⟩ ⟨rfl,⟨bz hs,bz cs,by simp⟩,.int .i64 0,by simp⟩ (fun x hx=>by
   simp only[aD,aC,bp]at hx;rcases hx with rfl|rfl
   ·exact⟨by kernel_rfl,by kernel_rfl⟩
   ·exact⟨by kernel_rfl,by kernel_rfl⟩)
 ·have hnil:rs.drop yM=[]:=bk (by omega);rw[hnil]at hp;refine aS [] 19 (decide ((yM:Int)<(s.n:Int))) (ak (by omega)) ?_;refine wz [19] (PO pb s yM++(tv,[bz hs,bz cs])::[(ev,[.int .i64 0])]) tv 0 2 [bz hs,bz cs] [bz hs,bz cs] (zi _ tv ev) (by simp) rfl rfl ?_;refine nV [] (PO pb s yM++(tv,[bz hs,bz cs])::[(ev,[.int .i64 0])]) (PO pb s yM) [(ev,[.int .i64 0])] 2 tv 0 [bz hs,bz cs] (mo hs cs) [bz hs,bz cs] (zi _ tv ev) rfl rfl (by intro u hu;simp[Value.cells]at hu;rcases hu with rfl|rfl<;>rfl) (ai 2) rfl ?_;refine nV [] (PO pb s yM++(tv,[bz hs,bz cs])::[(ev,[.int .i64 0])]) (PO pb s yM++[(tv,[bz hs,bz cs])]) [] 1 ev 0 [.int .i64 0] (.int .i64 0) [.int .i64 0] (zi _ tv ev) rfl rfl (J8 _ _) (ai 1) rfl ?_;have lJ:∀(own:List (Nat×List Value)),own=PO pb s yM++[(tv,[bz hs,bz cs])]++(ev,[.int .i64 0])::[]→(tv,[bz hs,bz cs])∈own∧(ev,[.int .i64 0])∈own:=fun own e=>by
   subst e;exact⟨by simp,by simp⟩
  refine abE [] ⟨t,hs,cs,hp,by kernel_rfl,by kernel_rfl,(lJ _ (by kernel_rfl)).1,(lJ _ (by kernel_rfl)).2,fun I w hd hh=>eC eK eE I w hd hh⟩
theorem Cl:Tryz.f41.results= #[.cell 2 25,.cell 3 33]:=by kernel_rfl
theorem jx{w:World}{x:Obj}{k:Nat}(h:k<w.heap.size):(w.alloc x).heap[k]? =w.heap[k]? :=by
 simp only[World.alloc];rw[Array.getElem?_push_lt h];exact(Array.getElem?_eq_getElem h).symm
theorem mN(w:World)(x:Obj):(w.alloc x).heap[w.heap.size]? =some x:=by
 simp only[World.alloc];exact Array.getElem?_push_size
theorem Bv{tm:Array Value}{tv ev:Nat}{w:World}{x y z:Value}{et ee:TypeId}(h2:tm.getD 2 undef=fp tv)(h3:tm.getD 3 undef=fp ev)(g1:w.heap[tv]? =some (.cells #[x,y] et (0,0)))(g2:w.heap[ev]? =some (.cells #[z] ee (0,0))):(results Tryz.f41 tm).run Tryz.prog w=.ok (.tuple #[.agg #[x,y],z]) w:=by
 have c1:w.cell? ⟨tv,0,none⟩=some x:=oq (o:=0) g1;have c2:w.cell? ⟨tv,1,none⟩=some y:=oq (o:=1) g1;have c3:w.cell? ⟨ev,0,none⟩=some z:=oq (o:=0) g2;rw[dE]at h2 h3;unfold results;rw[Cl];simp[go_sem,h2,h3,c1,c2,c3]
section
variable{Γ:List aE}
theorem Pp(s:Sl){rs:List Re} [h:aY (nU s) rs Γ](hlen:rs.length≤100000):au tb Tryz.prog 41 [bz s] Γ (DF rs):=by
 refine⟨⟨_,Tryz.func41,by kernel_rfl,by kernel_rfl⟩,fun I w hd hh=>?_⟩;obtain⟨w1,hw1⟩:∃w1,w1=w.alloc (.cells #[.slice none 0 0,.slice none 0 0] 25):=⟨_,rfl⟩;obtain⟨w2,hw2⟩:∃w2,w2=w1.alloc (.cells #[.int .i64 0] 33):=⟨_,rfl⟩;obtain⟨tv,htv⟩:∃tv,tv=w.heap.size:=⟨_,rfl⟩;obtain⟨ev,hev⟩:∃ev,ev=w1.heap.size:=⟨_,rfl⟩;have hs1:w1.heap.size=w.heap.size+1:=by rw[hw1];simp
 have hs2:w2.heap.size=w.heap.size+2:=by rw[hw2,World.size_alloc,hs1]
 have hne:tv≠ev:=by omega
 have g1:w2.heap[tv]? =some (.cells #[.slice none 0 0,.slice none 0 0] 25 (0,0)):=by
  rw[hw2,jx (by omega),hw1,htv];exact mN _ _
 have g2:w2.heap[ev]? =some (.cells #[.int .i64 0] 33 (0,0)):=by
  rw[hw2,hev];exact mN _ _
 have hold:∀k,k<w.heap.size→w2.heap[k]? =w.heap[k]? :=fun k hk=>by
  rw[hw2,jx (by omega),hw1,jx hk]
 have ZA:∀{w':World},w'.os=w2.os→w'.tape=w2.tape→w'.output=w2.output→w2.heap.size≤w'.heap.size→(∀k,k<w2.heap.size→k≠tv→k≠ev→w'.heap[k]? =w2.heap[k]?)→Below w.heap.size w w':=fun{w'} a1 a2 a3 a4 a5=>
  ⟨by rw[a1,hw2,hw1];rfl,by rw[a2,hw2,hw1];rfl,by rw[a3,hw2,hw1];rfl,by omega,fun k hk=>by rw[a5 k (by omega) (by omega) (by omega),hold k hk]⟩
 have hX:∀b,gS [(tv,[.slice none 0 0,.slice none 0 0]),(ev,[.int .i64 0])] [] b↔(b=tv∨b=ev):=fun b=>by
  unfold gS;constructor
  ·rintro(⟨cs,hc⟩|⟨m,hm⟩)
   ·simp only[aD,aI,aC,bp]at hc;rcases hc with h|h
    ·exact .inl h.1
    ·exact .inr h.1
   ·simp at hm
  ·rintro(rfl|rfl)
   ·exact .inl ⟨_,.head _⟩
   ·exact .inl ⟨_,.tail _ (.head _)⟩
 refine calls_of_wp_defers Tryz.func41 rfl ?_;have key:(I6 Tryz.f41).wp Tryz.prog (bodyPostD Tryz.prog Tryz.f41 (fun e w'=>∃v Δ,e=.returned v∧DF rs v Δ∧Below w.heap.size w w'∧aG Δ (fun b=>b<w.heap.size→I b) w')) {tmps:=([bz s,undef,fp tv,fp ev,undef,.func (.func 72) #[] #[fp tv,fp ev]]++List.replicate 17 undef).toArray,defers:=[{target:=.fn (.func 72) #[fp tv,fp ev],args:= #[]}]} w2:=by
  refine To (T:=tbQ (∀t,se rs≠some (t,[])) tv ev) (zi _ tv ev) (fun l a w h=>h) ?_ ?_ (IX s (rs:=rs) hlen tv ev _) (I:=fun b=>b<w.heap.size∧I b) ?_ (hh.up (fun _ hb h=>⟨hb,h⟩) (fun b hb _=>hold b hb) (by omega)) ?_ ?_ ?_
  ·rintro s' Γ' a w' ρ ⟨t,h',c',hp,t2,t3,o1,o2,hf⟩ hs;have r2:a.tmps.getD 2 undef=fp tv:=hs.tmps 2 _ t2;have r3:a.tmps.getD 3 undef=fp ev:=hs.tmps 3 _ t3;obtain⟨e1,_,q1⟩:=hs.own _ _ o1;obtain⟨e2,_,q2⟩:=hs.own _ _ o2;have hL:Leaves Tryz.prog Tryz.f41 a.tmps (fun e w'=>∃v Δ,e=.returned v∧DF rs v Δ∧Below w.heap.size w w'∧aG Δ (fun b=>b<w.heap.size→I b) w') a.defers .returning w':=by
    rw[hs.defers];refine leaves_cons (f:=72) (args:= #[fp tv,fp ev]) (by simp) (by simp[go_sem]) ?_;refine(Ic ⟨tv,0,none⟩ ⟨ev,0,none⟩ w').mono ?_;rintro e u' w'' ⟨rfl,rfl,rfl⟩;refine⟨_,Bv r2 r3 q1 q2,_,[HK h' c' t],rfl,.inl ⟨t,h',c',hp,rfl,rfl⟩,ZA hs.below.os hs.below.tape hs.below.output hs.below.size (fun k k1 k2 k3=>hs.below.block k k1 (fun hx=>((hX k).1 hx).elim k2 k3)),?_⟩;refine(hf _ _ hs.dataOK hs.facts).up (fun b _ hI hb=>?_) (fun _ _ _=>rfl) (ai _);rcases hI.1 (by omega)with h|h
    ·exact h.2
    ·rcases(hX b).1 h with h|h<;>omega
   exact⟨hL,hL⟩
  ·rintro ch a w' ⟨hB,rfl⟩ acH hk ⟨ks,own,⟨rfl,⟨x,y,m1⟩,z,m2⟩,hown,htm⟩;have r2:a.tmps.getD 2 undef=fp tv:=htm (2,fp tv) (.head _);have r3:a.tmps.getD 3 undef=fp ev:=htm (3,fp ev) (.tail _ (.head _));obtain⟨e1,_,q1⟩:=hown _ _ m1;obtain⟨e2,_,q2⟩:=hown _ _ m2;show Leaves Tryz.prog Tryz.f41 a.tmps _ a.defers _ w';rw[acH];refine leaves_cons (f:=72) (args:= #[fp tv,fp ev]) (by simp) (by simp[go_sem]) ?_;refine(FJ tv ev w' x y z e1 e2 q1 q2 hne).mono ?_;rintro e u' w'' ⟨rfl,rfl,rfl⟩;have a1:=kC (x:=.cells #[] 149) q1;have a2:=kC (x:=.cells #[] 149) q2;have b1:=jk (o:=1) (v:=.slice none 0 0) (jk (o:=0) (v:=.slice none 0 0) a1);have d1:(uG tv ev w').heap[tv]? =some (.cells #[.slice none 0 0,.slice none 0 0] e1 (0,0)):=(eQ hne).trans b1;have d2:(uG tv ev w').heap[ev]? =some (.cells #[.int .i64 20] e2 (0,0)):=jk ((eQ (fun e=>hne e.symm)).trans ((eQ (fun e=>hne e.symm)).trans a2));refine⟨_,Bv r2 r3 d1 d2,_,[],rfl,.inr ⟨hB,rfl,rfl⟩,ZA hk.os hk.tape hk.output (by simp only[uG,pM,World.size_alloc];have:=hk.size;omega) (fun k k1 k2 k3=>?_),aG.nil _ _⟩;unfold uG;rw[eQ k3,eQ k2,eQ k2,jx (by have:=hk.size;omega)];exact hk.block k k1 (fun hx=>((hX k).1 hx).elim k2 k3)
  ·intro b cs e f hb he;by_cases h0:b<w.heap.size
   ·rw[hold b h0]at hb;exact⟨h0,hd b cs e f hb he⟩
   ·by_cases h1:b=tv
    ·rw[h1,g1]at hb;injection hb with hb;injection hb with _ hb _;subst hb;exact absurd (show tb.dat 25=true from he) (by decide+kernel)
    ·by_cases h2:b=ev
     ·rw[h2,g2]at hb;injection hb with hb;injection hb with _ hb _;subst hb;exact absurd (show tb.dat 33=true from he) (by decide+kernel)
     ·have:=cu hb;omega
  ·intro b cs hb;simp only[aD,aI,aC,bp]at hb;rcases hb with⟨rfl,rfl⟩|⟨rfl,rfl⟩
   ·exact⟨_,(by decide+kernel:tb.dat 25=false),g1⟩
   ·exact⟨_,(by decide+kernel:tb.dat 33=false),g2⟩
  ·simp[hne]
  ·intro b hb hI;rcases(hX b).1 hb with h|h<;>(have:=hI.1;omega)
 refine wp_seq (wp_region ?_);show wpOps Tryz.prog _ _ [0,1] _ _;refine tK (v:=fp tv) (w':=w1) rfl rfl (by rw[htv,hw1];kernel_rfl) ?_;refine tK (v:=fp ev) (w':=w2) rfl rfl (by rw[hev,hw2];kernel_rfl) ?_;refine wp_seq (wp_region ?_);show wpOps Tryz.prog _ _ [0,1] _ _;refine tK (v:=.func (.func 72) #[] #[fp tv,fp ev]) (w':=w2) rfl rfl (by kernel_rfl) ?_;refine V8 (d:={target:=.fn (.func 72) #[fp tv,fp ev],args:= #[]}) (w':=w2) rfl rfl ?_;refine Eq.mp ?_ key;kernel_rfl
end
section
variable{Γ:List aE}
theorem SL(h c:Sl){t:Li} [hF:aY (HK h c) t Γ](hl:(jo t).length≤100000):au tb Tryz.prog 27 [mo h c] Γ (js (.bool (oh t))):=by
 refine au.of_W aB Tryz.func27 rfl ?_;refine aj [] (Xa h c (t:=t) hl) ?_;rintro _ _ ⟨u,rfl,rfl⟩;refine aj [] (Pp u (rs:=jo t) hl) ?_;rintro _ _ (⟨t2,h2,c2,hp,rfl,rfl⟩|⟨qG,rfl,rfl⟩)
 ·have hv:oh t=Gm t t2:=by unfold oh;rw[hp]
  refine bD [] 13 ((0:Int)==0) rfl ?_;refine aj [13] (Xd h c h2 c2 (x:=t) (y:=t2)) ?_;rintro _ _ ⟨rfl,rfl⟩;exact W.r [13] (.bool (Gm t t2)) ⟨by rw[hv],rfl⟩ bU
 ·have hv:oh t=false:=by
   unfold oh;split
   ·rename_i u' hq;exact absurd hq (qG _)
   ·rfl
  refine aS [] 13 ((20:Int)==0) rfl ?_;exact W.r [13] (.bool false) ⟨by rw[hv],rfl⟩ bU
end
end Go.Proofs.YtgaaopjagcaojaaGreat
