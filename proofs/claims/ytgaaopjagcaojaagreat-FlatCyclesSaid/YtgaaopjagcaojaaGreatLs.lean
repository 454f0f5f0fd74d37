import Derived.Test.YtgaaopjagcaojaaGreatLk
import Derived.Test.YtgaaopjagcaojaaGreatVk
import Derived.Tactics
import Derived.Tactics2
import Derived.Defers
import Derived.Recover
import Derived.Laws.Pointers
set_option linter.unusedSimpArgs false
set_option linter.unusedVariables false
set_option maxHeartbeats 4000000
namespace Go.Proofs.YtgaaopjagcaojaaGreat
open Go.RowKit Go.IntWalk
abbrev p7:=@Go.World.size_setCell
theorem eQ{k:Int}(hk:k<256)(h0:0≤k)(l:List Re):dj [k] l=(match gE k l with
  |some (r,m)=>some ([r],m)
  |none=>none):=by
 rw[Br (.inl hk),Int.emod_eq_of_lt h0 hk];cases gE k l with
 |none=>rfl
 |some q=>rfl
theorem G0{l:List Re}(h:dK 43 l=true):eX l.length l=(match dj [43,44] l with
  |some (a,m)=>(match eX m.length m with
   |some (b,m')=>some (a++b,m')
   |none=>none)
  |none=>none):=by
 cases l with
 |nil=>simp[dK]at h
 |cons r l=>
  rw[aC];show eX (l.length+1) (r::l)=_;rw[eX,if_pos h];cases hp:dj [43,44] (r::l)with
  |none=>rfl
  |some q=>
   obtain⟨a,m⟩:=q;have:=uT (by decide) hp;simp only;rw[y6 l.length m.length m (by simp at this;omega) (ak _)];cases eX m.length m<;>rfl
theorem G1{l:List Re}(h:¬dK 43 l=true):eX l.length l=some ([],l):=by
 cases l with
 |nil=>rfl
 |cons r l=>
  rw[aC];show eX (l.length+1) (r::l)=_;rw[eX,if_neg h]
theorem iO.app{v v1 v2:Value}{e1 e2:List dC}{I:fQ}{w:World}(h1:(iO v1 e1).p I w)(h2:(iO v2 e2).p I w):(iO v (e1++e2)).p I w:=fun e he=>(List.mem_append.1 he).elim (h1 e) (h2 e)
theorem iO.one{v:Value}{u:Sl}{r:Re}{I:fQ}{w:World}(h:(xG u r).p I w):(iO v [⟨u,r⟩]).p I w:=fun e he=>by
 simp only[aF,aE,bL]at he;subst he;exact h
theorem mA{v:Value}{es:List dC}{ao:Option Addr}{n c:Nat}{I:fQ}{w:World}(hn:n=es.length)(h1:n≤c)(h2:c≤maxLen)(h3:(iO v es).p I w)(h4:(RA ao (es.flatMap dd.cells)).p I w):(la ⟨ao,n,c⟩ (es.map dC.r)).p I w:=
 ⟨es,rfl,by rw[bI];exact hn,⟨h1,h2⟩,h3,h4⟩
theorem js(es:List dC):∀u∈es.flatMap dd.cells,u.oneCell'=true:=by
 intro u hu;obtain⟨e,_,he⟩:=List.mem_flatMap.1 hu;simp only[dd,aF,aE,bL]at he;rcases he with rfl|rfl|rfl<;>rfl
section
variable{T:Tb}{P:Program}{fin:VS→List aD→Prop}{c:fG}{Γ:List aD}
theorem nj{z n:Nat}(A O1 O2:List (Nat×List Value)){v:Value}{xs:List Value}(ho:(dN T 999 c).s.own=A++(O1++O2))(hg:cF z O1 v n xs)
  (hk:∀ao c',v=.slice ao n c'→n≤c'→c'≤maxLen→W T P fin ⟨(dN T 999 c).s.setOwn (A++O2),(dN T 999 c).k⟩ (RA ao xs::Γ))(hm:dD (dN T 999 c).k=false:=by kernel_rfl):W T P fin c Γ:=by
 refine W.code 999 ?_;generalize(dN T 999 c)=c1 at*;obtain⟨s,k⟩:=c1;obtain⟨hl,hg⟩:=hg;rcases hg with⟨rfl,rfl,rfl⟩|⟨g,cap,cur,rfl,rfl,hnc,hcm,hcs,htk⟩
 ·obtain rfl:xs=[]:=aN (by simpa using hl);have hs:s.own=A++O2:=ho;refine W.elim (α:=Unit) (fun _=>True) (fun _=>[RA none []]) hm (fun I w _ hh=>⟨(),trivial,aS (RA.nil _ _ _)⟩) (fun _ _=>?_);have:=hk none 0 rfl (ak _) (aJ _);rw[←hs]at this;exact this
 ·refine W.pub (O1:=A) (O2:=O2) (b:=g) (cs:=cur) hm ho ?_;refine W.elim (α:=Unit) (fun _=>True) (fun _=>[RA (some ⟨g,0,none⟩) xs]) hm (fun I w _ hh=>⟨(),trivial,aS (RA.of_row hh.h0' fun i v hv=>?_)⟩) (fun _ _=>?_)
  ·rw[←htk,dF]at hv;split at hv
   ·exact hv
   ·simp at hv
  ·refine W.sub hm (fun I w _ hh=>?_) (hk _ _ rfl hnc hcm);exact aG.cons hh.h0' (fun F hF=>hh F (by simp[hF]))
end
def zU(pb:Nat)(sl:Sl)(at':Nat)(rs:List Re)(v:Value)(O:List (Nat×List Value))(M:List (Nat×List (Value×Value)))(Δ:List aD):Prop:=
 ∃(x:Im) (f p:Sl) (at2:Nat),fT (rs.drop at')=some (x,rs.drop at2)∧v=lY f p∧O=PO pb sl at2∧M=[]∧Δ=[mI f p x]
structure S8 where
 a:Nat
 v:Value
 O:List (Nat×List Value)
 es:List dC
def QY(pb xb:Nat):S8→List (Nat×SV):=fun _=>[(0,.val (fo pb)),(2,.ptr 2 0),(3,.val (fo xb))]
def QZ:S8→List (Nat×List Value):=fun _=>[(2,[.slice none 0 0,.slice none 0 0])]
def RZ(pb:Nat)(sl:Sl)(xb:Nat)(f:Sl):S8→List (Nat×List Value):=fun q=>(xb,[aZ f,q.v])::(PO pb sl q.a++q.O)
def RY(sl:Sl)(rs:List Re)(f:Sl)(fs:List Re):S8→List aD:=fun q=>[la sl rs,la f fs,iO q.v q.es]
def QX(rs:List Re)(a0:Nat):S8→Prop:=fun q=>rs.drop a0=q.es.map dC.r++rs.drop q.a∧cF 3 q.O q.v q.es.length (q.es.flatMap dd.cells)∧eX (rs.drop a0).length (rs.drop a0)=(match eX (rs.drop q.a).length (rs.drop q.a)with
   |some (b,m)=>some (q.es.map dC.r++b,m)
   |none=>none)
def OB(rs:List Re):S8→Nat:=fun q=>(rs.drop q.a).length
section
variable{Γ:List aD}
theorem mW(B:Prop)(pb xb:Nat)(sl f:Sl)(at' a0:Nat){rs fs:List Re}(hlen:rs.length≤100000)(hf:ez (rs.drop at')=some (fs,rs.drop a0))(hB:fT (rs.drop at')=none→B)(q:S8)(R:VS→List aD→Prop)(hq:QX rs a0 q)
  (close:∀(D':List Nat) (c':fG) (Γ':List aD) (a':S8),og (aL (su B) (bh (su B) D' 999 c'))=some R→
    (oh (aL (su B) (bh (su B) D' 999 c'))).map (fun s=>s.only [0,2,3] [2])=some (iJ 126 126 (QY pb xb a') (QZ a') (RZ pb sl xb f a') [])→
    QX rs a0 a'→OB rs a'<OB rs q→(∀I w,br (su B) I w→aG Γ' I w→aG (RY sl rs f fs a') I w)→W (su B) Tryz.prog (KM (su B) Tryz.f124 (zU pb sl at' rs)) c' Γ'):
  W (su B) Tryz.prog (KM (su B) Tryz.f124 (zU pb sl at' rs)) ⟨iJ 126 126 (QY pb xb q) (QZ q) (RZ pb sl xb f q) [],.code (VV Tryz.f124 0)::.again R::VW Tryz.f124 0⟩ (RY sl rs f fs q):=by
 obtain⟨a,v,O,es⟩:=q;obtain⟨he,hg,hp⟩:=hq;simp only at he hg hp;have hel:es.length≤100000:=by
  have:=dH List.length he;simp at this;omega
 have hB0:(match eX (rs.drop a0).length (rs.drop a0)with
   |some (_,m)=>gE 17 m
   |none=>none)=none→B:=fun h=>hB (by
  unfold fT;rw[hf];simp only;cases hq:eX (rs.drop a0).length (rs.drop a0)with
  |none=>rfl
  |some q=>
   rw[hq]at h;simp only at h⊢;rw[h])
 rw[hp]at hB0;show W (su B) Tryz.prog _ ⟨iJ 126 126 (QY pb xb ⟨a,v,O,es⟩) (QZ ⟨a,v,O,es⟩) ((xb,[aZ f,v])::(PO pb sl a++O)) [],_⟩ [la sl rs,la f fs,iO v es];refine bZ [] 0 pb 0 (aR B) ?_;refine cH [] 1 [.int .u8 43] (aR B) (fun b9=>?_);refine cZ [] [(xb,[aZ f,v])] (PO pb sl a) O [] [] [] ⟨rfl,by rfl,trivial⟩ (r9 B pb sl a b9 1 (rs:=rs) (ks:=[43]) rfl (by decide)) ?_;rintro _ _ _ _ ⟨rfl,rfl,rfl,rfl⟩;rw[uX];by_cases hs:dK 43 (rs.drop a)=true
 ·rw[G0 hs]at hp hB0;refine bj [] 113 (dK 43 (rs.drop a)) hs ?_;have Hn:dj [43,44] (rs.drop a)=none→B:=fun h=>hB0 (by rw[h]);have next:∀(e2:List dC) (a2:Nat),dj [43,44] (rs.drop a)=some (e2.map dC.r,rs.drop a2)→∀v' O',cF 3 O' v' (es.length+e2.length) (es.flatMap dd.cells++e2.flatMap dd.cells)→QX rs a0 ⟨a2,v',O',es++e2⟩∧OB rs ⟨a2,v',O',es++e2⟩<OB rs ⟨a,v,O,es⟩:=fun e2 a2 h v' O' hg'=>by
   refine⟨⟨?_,cF.cast (by simp) (by simp) hg',?_⟩,uT (by decide) h⟩
   ·rw[he];have:=(cR [43,44]).1 _ _ _ h;simp only[id]at this;rw[this];simp
   ·rw[hp,h];simp only;cases eX (rs.drop a2).length (rs.drop a2)with
    |none=>rfl
    |some q=>simp
  have hl2:∀(e2:List dC) (a2:Nat),dj [43,44] (rs.drop a)=some (e2.map dC.r,rs.drop a2)→e2.length≤100000:=fun e2 a2 h=>by
   have:=dH List.length ((cR [43,44]).1 _ _ _ h);simp at this;omega
  refine MM [113] ?_ ?_
  ·refine bZ [] 1 xb 0 (aR B) ?_;refine dR [] ((xb,[aZ f,v])::(PO pb sl a++O)) xb (0+1) 1 [aZ f,v] v (aR B) (.head _) rfl ?_;refine cH [] 2 [.int .i64 43,.int .i64 44] (aR B) (fun b11=>?_);refine cZ [] [(xb,[aZ f,v])] (PO pb sl a) O [] [] [] ⟨rfl,by rfl,trivial⟩ (mr B pb sl a b11 2 (rs:=rs) (ks:=[43,44]) rfl (by decide) Hn) ?_;rintro v2 _ _ _ ⟨e2,a2,O2,hp2,ha2,hk2,rfl,hg2,rfl,rfl⟩;refine W.app [] ([(xb,[aZ f,v])]++((PO pb sl a2++O2)++O)) ([(xb,[aZ f,v])]++(PO pb sl a2++O2)) O [] 3 32 es.length e2.length v v2 (es.flatMap dd.cells) (e2.flatMap dd.cells) (aR B) (by simp) hg (gY hg2 (fun x hx=>by simp[hx])) (js e2) (by have:=hl2 e2 a2 hp2;omega) (by decide) (fun v' O' hg'=>?_);obtain⟨gs,gc,go⟩:=lr hg';refine bZ [] 1 xb 0 (aR B) ?_;refine nD [] ([(xb,[aZ f,v])]++(PO pb sl a2++O2)++O'++[]) [] ((PO pb sl a2++O2)++O'++[]) 1 xb (0+1) [aZ f,v] v' [aZ f,v'] (aR B) rfl gs (by rw[gc];intro u hu;simp at hu;subst hu;exact go) (ak 2) (by rw[gc];rfl) ?_;refine rE ((xb,[aZ f,v'])::PO pb sl a2) O2 O' (by simp only[az,ah,cT,aV];kernel_rfl) ?_;obtain⟨n1,n2⟩:=next e2 a2 hp2 v' O' hg'
   exact close [] _ _ ⟨a2,v',O',es++e2⟩ (by kernel_rfl) (by kernel_rfl) n1 n2 (eC eK (eC eK (eC (fun I w hd hh=>iO.app (eK (k:=iO v) I w hd hh) (eK (k:=iO v2) I w hd hh)) eE)))
  ·refine bZ [] 1 xb 0 (aR B) ?_;refine cH [] 2 [.int .i64 43,.int .i64 44] (aR B) (fun b11=>?_);refine cZ [] [(xb,[aZ f,v])] (PO pb sl a) O [] [] [] ⟨rfl,by rfl,trivial⟩ (mr B pb sl a b11 2 (rs:=rs) (ks:=[43,44]) rfl (by decide) Hn) ?_;rintro v2 _ _ _ ⟨e2,a2,O2,hp2,ha2,hk2,rfl,hg2,rfl,rfl⟩;refine dR [] ([(xb,[aZ f,v])]++((PO pb sl a2++O2)++O)) xb (0+1) 1 [aZ f,v] v (aR B) (.head _) rfl ?_;refine W.app [] ([(xb,[aZ f,v])]++((PO pb sl a2++O2)++O)) ([(xb,[aZ f,v])]++(PO pb sl a2++O2)) O [] 3 32 es.length e2.length v v2 (es.flatMap dd.cells) (e2.flatMap dd.cells) (aR B) (by simp) hg (gY hg2 (fun x hx=>by simp[hx])) (js e2) (by have:=hl2 e2 a2 hp2;omega) (by decide) (fun v' O' hg'=>?_);obtain⟨gs,gc,go⟩:=lr hg';refine bZ [] 1 xb 0 (aR B) ?_;refine nD [] ([(xb,[aZ f,v])]++(PO pb sl a2++O2)++O'++[]) [] ((PO pb sl a2++O2)++O'++[]) 1 xb (0+1) [aZ f,v] v' [aZ f,v'] (aR B) rfl gs (by rw[gc];intro u hu;simp at hu;subst hu;exact go) (ak 2) (by rw[gc];rfl) ?_;refine rE ((xb,[aZ f,v'])::PO pb sl a2) O2 O' (by simp only[az,ah,cT,aV];kernel_rfl) ?_;obtain⟨n1,n2⟩:=next e2 a2 hp2 v' O' hg'
   exact close [] _ _ ⟨a2,v',O',es++e2⟩ (by kernel_rfl) (by kernel_rfl) n1 n2 (eC eK (eC eK (eC (fun I w hd hh=>iO.app (eK (k:=iO v) I w hd hh) (eK (k:=iO v2) I w hd hh)) eE)))
 ·rw[G1 hs]at hp hB0;refine aQ [] 113 (dK 43 (rs.drop a)) (by simpa using hs) ?_;refine bZ [113] 0 pb 0 (aR B) ?_;refine cZ [] [(xb,[aZ f,v])] (PO pb sl a) O [] [] [] ⟨rfl,by rfl,trivial⟩ (mq B pb sl a 17 (rs:=rs) hB0) ?_;rintro _ _ _ _ ⟨r,u,hm,rfl,rfl,rfl,rfl⟩;refine nj ((xb,[aZ f,v])::PO pb sl (a+1)) O [] (by rw[ah O];kernel_rfl) hg (fun ao c hv g1 g2=>?_);subst hv;refine wu [] ((xb,[aZ f,.slice ao es.length c])::PO pb sl (a+1)++[]) xb 0 2 [aZ f,.slice ao es.length c] [aZ f,.slice ao es.length c] (aR B) (by simp) rfl rfl ?_;refine rE [] [(xb,[aZ f,.slice ao es.length c])] (PO pb sl (a+1)) (by kernel_rfl) ?_;refine j1 [] (lY f ⟨ao,es.length,c⟩) (PO pb sl (a+1)) [] ⟨⟨fs,es.map dC.r⟩,f,⟨ao,es.length,c⟩,a+1,?_,rfl,rfl,rfl,rfl⟩ (fun I w hd hh=>aS ⟨eK (k:=la f) I w hd hh,mA rfl g1 g2 (eK (k:=iO (.slice ao es.length c)) I w hd hh) (eK (k:=RA ao) I w hd hh)⟩);unfold fT;rw[hf];simp only;rw[hp];simp only[ah];rw[hm]
theorem Wu(B:Prop)(pb:Nat)(sl:Sl)(at':Nat){rs:List Re} [h:aW (la sl) rs Γ](hlen:rs.length≤100000)(D6:ea (rs.drop at')=true)(hB:fT (rs.drop at')=none→B):
  dB (su B) Tryz.prog 124 [fo pb] (PO pb sl at') [] Γ (zU pb sl at' rs):=by
 refine dB.of_W (aR B) Tryz.func124 rfl ?_;obtain⟨sa,sn,sc⟩:=sl;refine W.len dd dC.r ⟨sa,sn,sc⟩ rfl (fun h1 h2 h3=>?_);simp only at h1 h2 h3;have hlt:at'<sn:=by
  rw[h1];refine Nat.lt_of_not_le (fun hle=>?_);rw[bu hle]at D6;simp[ea]at D6
 obtain⟨r,hr⟩:∃r,rs[at']? =some r:=⟨_,ai (by omega)⟩;have QQ:pr r.k=true:=by
  rw[ir hr]at D6;exact D6
 have Ls:r.k=8∨r.k=9∨r.k=10∨r.k=11∨r.k=12∨r.k=21∨r.k=45:=by
  simp only[pr,eu,jM]at QQ;omega
 refine p6 ⟨sa,sn,sc⟩ hr (fun b off u ha=>?_);simp only at ha;subst ha;rcases Ls with hk|hk|hk|hk|hk|hk|hk
 ·have hk:r.k=8:=hk;have vg:ez (rs.drop at')=fF (dj [8,294,303]) (gD 8) (rs.drop at'):=by rw[ir hr];unfold ez;simp only[hk]
  have hB0:dj [8,294,303] (rs.drop at')=none→B:=fun h=>hB (by simp[fT,vg,fF,h]);refine vn 3 (fun xb=>?_);refine bZ [] 0 pb 0 (aR B) ?_;refine bZ [] 0 pb (0+0) (aR B) ?_;refine dR [] ([(xb,[.slice none 0 0,.slice none 0 0]),(pb,[.slice (some ⟨b,off,none⟩) sn sc,.int .i64 at'])]) pb (0+0+0) 1 [.slice (some ⟨b,off,none⟩) sn sc,.int .i64 at'] (.slice (some ⟨b,off,none⟩) sn sc) (aR B) (.tail _ (.head _)) rfl ?_;refine bZ [] 0 pb 0 (aR B) ?_;refine bZ [] 1 pb (0+0) (aR B) ?_;refine dR [] ([(xb,[.slice none 0 0,.slice none 0 0]),(pb,[.slice (some ⟨b,off,none⟩) sn sc,.int .i64 at'])]) pb (0+0+1) 1 [.slice (some ⟨b,off,none⟩) sn sc,.int .i64 at'] (.int .i64 at') (aR B) (.tail _ (.head _)) rfl ?_;refine bW [] 3 b off sn sc .i64 at' at' rfl (aR B) hlt ?_;refine bZ [] 0 b (off+at'*3) (aR B) ?_;refine dJ [] 1 b (off+at'*3+0) (.int .u8 8) (aR B) (fun I w hd hh=>by rw[←hk];exact cA (T:=su B) b (off+at'*3) I w hd hh 0 _ rfl) ?_;refine cH [] 3 [.int .i64 8,.int .i64 294,.int .i64 303] (aR B) (fun b3=>?_);refine cZ [] [(xb,[.slice none 0 0,.slice none 0 0])] (PO pb ⟨some ⟨b,off,none⟩,sn,sc⟩ at') [] [] [] [] ⟨rfl,by rfl,trivial⟩ (mr B pb ⟨some ⟨b,off,none⟩,sn,sc⟩ at' b3 3 (rs:=rs) (ks:=[8,294,303]) rfl (by decide) hB0) ?_;rintro v0 _ _ _ ⟨e0,a0,O0,oH,ha0,hl0,rfl,hg0,rfl,rfl⟩;obtain⟨gs,gc,go⟩:=lr hg0;refine bZ [] 0 xb 0 (aR B) ?_;refine nD [] ([(xb,[.slice none 0 0,.slice none 0 0])]++((PO pb ⟨some ⟨b,off,none⟩,sn,sc⟩ a0++O0)++[])) [] ((PO pb ⟨some ⟨b,off,none⟩,sn,sc⟩ a0++O0)++[]) 1 xb (0+0) [.slice none 0 0,.slice none 0 0] v0 [v0,.slice none 0 0] (aR B) rfl gs (by rw[gc];intro u hu;simp at hu;subst hu;exact go) (pT 1) (by rw[gc];rfl) ?_
  simp only[ah,az];refine bj [] 27 true rfl ?_;have Hn:dj [13,14,16] (rs.drop a0)=none→B:=fun h=>hB (by simp[fT,vg,gD,fF,eQ,oH,h]);refine cH [27] 3 [.int .i64 13,.int .i64 14,.int .i64 16] (aR B) (fun HO=>?_);refine cZ [] [(xb,[v0,.slice none 0 0])] (PO pb ⟨some ⟨b,off,none⟩,sn,sc⟩ a0) O0 [] [] [] ⟨rfl,by rfl,trivial⟩ (mr B pb ⟨some ⟨b,off,none⟩,sn,sc⟩ a0 HO 3 (rs:=rs) (ks:=[13,14,16]) rfl (by decide) Hn) ?_;rintro KI _ _ _ ⟨e1,a1,Jd,hp1,ha1,hl1,rfl,DY,rfl,rfl⟩;refine cZ [] [] ((xb,[v0,.slice none 0 0])::(PO pb ⟨some ⟨b,off,none⟩,sn,sc⟩ a1++(Jd++O0))) [] [] [] [] ⟨rfl,by rfl,trivial⟩ (eo:=(by simp only[ah,az,aV];kernel_rfl)) (nd B xb v0 (.slice none 0 0) KI (e0.length) e1.length (e0.flatMap dd.cells) (e1.flatMap dd.cells) (PO pb ⟨some ⟨b,off,none⟩,sn,sc⟩ a1) O0 Jd hg0 (gY DY (fun x hx=>by simp[hx])) (js e1) (by omega)) ?_;rintro _ _ _ _ ⟨rfl,⟨v1,O1,rfl,hg1⟩,rfl,rfl⟩;simp only[ah,az];refine nj ((xb,[v1,.slice none 0 0])::PO pb ⟨some ⟨b,off,none⟩,sn,sc⟩ a1) O1 [] (by rw[ah O1];kernel_rfl) hg1 (fun ao c hv g1 g2=>?_);subst hv;have Lt:e0.length+e1.length=(e0++e1).length:=by simp only[aA,aC,a_]
  have hf:ez (rs.drop at')=some ((e0++e1).map dC.r,rs.drop a1):=by simp[vg,gD,fF,eQ,oH,hp1]
  refine j0 [] Tryz.f124 0 126 126 [0,2,3] [2] (QY pb xb) QZ (RZ pb ⟨some ⟨b,off,none⟩,sn,sc⟩ xb ⟨ao,e0.length+e1.length,c⟩) (fun _=>[]) (RY ⟨some ⟨b,off,none⟩,sn,sc⟩ rs ⟨ao,e0.length+e1.length,c⟩ ((e0++e1).map dC.r)) (QX rs a1) (OB rs) ⟨a1,.slice none 0 0,[],[]⟩ ⟨rfl,cF.nil 3,by
    simp only[dk,az];cases eX (rs.drop a1).length (rs.drop a1)<;>rfl⟩ (eC eK (eC (fun I w hd hh=>mA (v:=v0) Lt g1 g2 (iO.app (v:=v0) (eK (k:=iO v0) I w hd hh) (eK (k:=iO KI) I w hd hh)) (by
    have:=eK (k:=RA ao) I w hd hh;simpa [dd]using this)) (eC (fun I w hd hh e he=>by simp at he) eE))) ?_
  exact fun q R hq close=>mW B pb xb ⟨some ⟨b,off,none⟩,sn,sc⟩ ⟨ao,e0.length+e1.length,c⟩ at' a1 hlen hf hB q R hq close
 ·have hk:r.k=9:=hk;have vg:ez (rs.drop at')=fF (dj [9,294,303]) (gD 9) (rs.drop at'):=by rw[ir hr];unfold ez;simp only[hk]
  have hB0:dj [9,294,303] (rs.drop at')=none→B:=fun h=>hB (by simp[fT,vg,fF,h]);refine vn 3 (fun xb=>?_);refine bZ [] 0 pb 0 (aR B) ?_;refine bZ [] 0 pb (0+0) (aR B) ?_;refine dR [] ([(xb,[.slice none 0 0,.slice none 0 0]),(pb,[.slice (some ⟨b,off,none⟩) sn sc,.int .i64 at'])]) pb (0+0+0) 1 [.slice (some ⟨b,off,none⟩) sn sc,.int .i64 at'] (.slice (some ⟨b,off,none⟩) sn sc) (aR B) (.tail _ (.head _)) rfl ?_;refine bZ [] 0 pb 0 (aR B) ?_;refine bZ [] 1 pb (0+0) (aR B) ?_;refine dR [] ([(xb,[.slice none 0 0,.slice none 0 0]),(pb,[.slice (some ⟨b,off,none⟩) sn sc,.int .i64 at'])]) pb (0+0+1) 1 [.slice (some ⟨b,off,none⟩) sn sc,.int .i64 at'] (.int .i64 at') (aR B) (.tail _ (.head _)) rfl ?_;refine bW [] 3 b off sn sc .i64 at' at' rfl (aR B) hlt ?_;refine bZ [] 0 b (off+at'*3) (aR B) ?_;refine dJ [] 1 b (off+at'*3+0) (.int .u8 9) (aR B) (fun I w hd hh=>by rw[←hk];exact cA (T:=su B) b (off+at'*3) I w hd hh 0 _ rfl) ?_;refine cH [] 3 [.int .i64 9,.int .i64 294,.int .i64 303] (aR B) (fun b3=>?_);refine cZ [] [(xb,[.slice none 0 0,.slice none 0 0])] (PO pb ⟨some ⟨b,off,none⟩,sn,sc⟩ at') [] [] [] [] ⟨rfl,by rfl,trivial⟩ (mr B pb ⟨some ⟨b,off,none⟩,sn,sc⟩ at' b3 3 (rs:=rs) (ks:=[9,294,303]) rfl (by decide) hB0) ?_;rintro v0 _ _ _ ⟨e0,a0,O0,oH,ha0,hl0,rfl,hg0,rfl,rfl⟩;obtain⟨gs,gc,go⟩:=lr hg0;refine bZ [] 0 xb 0 (aR B) ?_;refine nD [] ([(xb,[.slice none 0 0,.slice none 0 0])]++((PO pb ⟨some ⟨b,off,none⟩,sn,sc⟩ a0++O0)++[])) [] ((PO pb ⟨some ⟨b,off,none⟩,sn,sc⟩ a0++O0)++[]) 1 xb (0+0) [.slice none 0 0,.slice none 0 0] v0 [v0,.slice none 0 0] (aR B) rfl gs (by rw[gc];intro u hu;simp at hu;subst hu;exact go) (pT 1) (by rw[gc];rfl) ?_
  simp only[ah,az];refine aQ [] 27 false rfl ?_;refine bj [27] 34 true rfl ?_;have Hn:dj [13,14,289,271,304,305,16] (rs.drop a0)=none→B:=fun h=>hB (by simp[fT,vg,gD,fF,eQ,oH,h]);refine cH [34] 7 [.int .i64 13,.int .i64 14,.int .i64 289,.int .i64 271,.int .i64 304,.int .i64 305,.int .i64 16] (aR B) (fun HO=>?_);refine cZ [] [(xb,[v0,.slice none 0 0])] (PO pb ⟨some ⟨b,off,none⟩,sn,sc⟩ a0) O0 [] [] [] ⟨rfl,by rfl,trivial⟩ (mr B pb ⟨some ⟨b,off,none⟩,sn,sc⟩ a0 HO 7 (rs:=rs) (ks:=[13,14,289,271,304,305,16]) rfl (by decide) Hn) ?_;rintro KI _ _ _ ⟨e1,a1,Jd,hp1,ha1,hl1,rfl,DY,rfl,rfl⟩;refine cZ [] [] ((xb,[v0,.slice none 0 0])::(PO pb ⟨some ⟨b,off,none⟩,sn,sc⟩ a1++(Jd++O0))) [] [] [] [] ⟨rfl,by rfl,trivial⟩ (eo:=(by simp only[ah,az,aV];kernel_rfl)) (nd B xb v0 (.slice none 0 0) KI (e0.length) e1.length (e0.flatMap dd.cells) (e1.flatMap dd.cells) (PO pb ⟨some ⟨b,off,none⟩,sn,sc⟩ a1) O0 Jd hg0 (gY DY (fun x hx=>by simp[hx])) (js e1) (by omega)) ?_;rintro _ _ _ _ ⟨rfl,⟨v1,O1,rfl,hg1⟩,rfl,rfl⟩;simp only[ah,az];refine nj ((xb,[v1,.slice none 0 0])::PO pb ⟨some ⟨b,off,none⟩,sn,sc⟩ a1) O1 [] (by rw[ah O1];kernel_rfl) hg1 (fun ao c hv g1 g2=>?_);subst hv;have Lt:e0.length+e1.length=(e0++e1).length:=by simp only[aA,aC,a_]
  have hf:ez (rs.drop at')=some ((e0++e1).map dC.r,rs.drop a1):=by simp[vg,gD,fF,eQ,oH,hp1]
  refine j0 [] Tryz.f124 0 126 126 [0,2,3] [2] (QY pb xb) QZ (RZ pb ⟨some ⟨b,off,none⟩,sn,sc⟩ xb ⟨ao,e0.length+e1.length,c⟩) (fun _=>[]) (RY ⟨some ⟨b,off,none⟩,sn,sc⟩ rs ⟨ao,e0.length+e1.length,c⟩ ((e0++e1).map dC.r)) (QX rs a1) (OB rs) ⟨a1,.slice none 0 0,[],[]⟩ ⟨rfl,cF.nil 3,by
    simp only[dk,az];cases eX (rs.drop a1).length (rs.drop a1)<;>rfl⟩ (eC eK (eC (fun I w hd hh=>mA (v:=v0) Lt g1 g2 (iO.app (v:=v0) (eK (k:=iO v0) I w hd hh) (eK (k:=iO KI) I w hd hh)) (by
    have:=eK (k:=RA ao) I w hd hh;simpa [dd]using this)) (eC (fun I w hd hh e he=>by simp at he) eE))) ?_
  exact fun q R hq close=>mW B pb xb ⟨some ⟨b,off,none⟩,sn,sc⟩ ⟨ao,e0.length+e1.length,c⟩ at' a1 hlen hf hB q R hq close
 ·have hk:r.k=10:=hk;have vg:ez (rs.drop at')=fF (dj [10,294,303]) (gD 10) (rs.drop at'):=by rw[ir hr];unfold ez;simp only[hk]
  have hB0:dj [10,294,303] (rs.drop at')=none→B:=fun h=>hB (by simp[fT,vg,fF,h]);refine vn 3 (fun xb=>?_);refine bZ [] 0 pb 0 (aR B) ?_;refine bZ [] 0 pb (0+0) (aR B) ?_;refine dR [] ([(xb,[.slice none 0 0,.slice none 0 0]),(pb,[.slice (some ⟨b,off,none⟩) sn sc,.int .i64 at'])]) pb (0+0+0) 1 [.slice (some ⟨b,off,none⟩) sn sc,.int .i64 at'] (.slice (some ⟨b,off,none⟩) sn sc) (aR B) (.tail _ (.head _)) rfl ?_;refine bZ [] 0 pb 0 (aR B) ?_;refine bZ [] 1 pb (0+0) (aR B) ?_;refine dR [] ([(xb,[.slice none 0 0,.slice none 0 0]),(pb,[.slice (some ⟨b,off,none⟩) sn sc,.int .i64 at'])]) pb (0+0+1) 1 [.slice (some ⟨b,off,none⟩) sn sc,.int .i64 at'] (.int .i64 at') (aR B) (.tail _ (.head _)) rfl ?_;refine bW [] 3 b off sn sc .i64 at' at' rfl (aR B) hlt ?_;refine bZ [] 0 b (off+at'*3) (aR B) ?_;refine dJ [] 1 b (off+at'*3+0) (.int .u8 10) (aR B) (fun I w hd hh=>by rw[←hk];exact cA (T:=su B) b (off+at'*3) I w hd hh 0 _ rfl) ?_;refine cH [] 3 [.int .i64 10,.int .i64 294,.int .i64 303] (aR B) (fun b3=>?_);refine cZ [] [(xb,[.slice none 0 0,.slice none 0 0])] (PO pb ⟨some ⟨b,off,none⟩,sn,sc⟩ at') [] [] [] [] ⟨rfl,by rfl,trivial⟩ (mr B pb ⟨some ⟨b,off,none⟩,sn,sc⟩ at' b3 3 (rs:=rs) (ks:=[10,294,303]) rfl (by decide) hB0) ?_;rintro v0 _ _ _ ⟨e0,a0,O0,oH,ha0,hl0,rfl,hg0,rfl,rfl⟩;obtain⟨gs,gc,go⟩:=lr hg0;refine bZ [] 0 xb 0 (aR B) ?_;refine nD [] ([(xb,[.slice none 0 0,.slice none 0 0])]++((PO pb ⟨some ⟨b,off,none⟩,sn,sc⟩ a0++O0)++[])) [] ((PO pb ⟨some ⟨b,off,none⟩,sn,sc⟩ a0++O0)++[]) 1 xb (0+0) [.slice none 0 0,.slice none 0 0] v0 [v0,.slice none 0 0] (aR B) rfl gs (by rw[gc];intro u hu;simp at hu;subst hu;exact go) (pT 1) (by rw[gc];rfl) ?_
  simp only[ah,az];refine aQ [] 27 false rfl ?_;refine aQ [27] 34 false rfl ?_;refine bj [34] 41 true rfl ?_;have Hn:gE 18 (rs.drop a0)=none→B:=fun h=>hB (by simp[fT,vg,gD,fF,eQ,oH,h]);refine bZ [41] 0 pb 0 (aR B) ?_;refine cZ [] [(xb,[v0,.slice none 0 0])] (PO pb ⟨some ⟨b,off,none⟩,sn,sc⟩ a0) O0 [] [] [] ⟨rfl,by rfl,trivial⟩ (mq B pb ⟨some ⟨b,off,none⟩,sn,sc⟩ a0 18 (rs:=rs) Hn) ?_;rintro _ _ _ _ ⟨r1,u1,hp1,rfl,rfl,rfl,rfl⟩;refine cH [] 1 [.int .u8 r1.k,.int .u8 r1.d,aZ u1] (aR B) (fun HO=>?_);refine cZ [] [] ((xb,[v0,.slice none 0 0])::(PO pb ⟨some ⟨b,off,none⟩,sn,sc⟩ (a0+1)++([]++O0))) [] [] [] [] ⟨rfl,by rfl,trivial⟩ (eo:=(by simp only[ah,az,aV];kernel_rfl)) (nd B xb v0 (.slice none 0 0) (.slice (some ⟨HO,0,none⟩) 1 1) (e0.length) 1 (e0.flatMap dd.cells) [.int .u8 r1.k,.int .u8 r1.d,aZ u1] (PO pb ⟨some ⟨b,off,none⟩,sn,sc⟩ (a0+1)) O0 [] hg0 (bX HO _ 1 3 rfl 1) (by simp[Value.oneCell']) (by omega)) ?_;rintro _ _ _ _ ⟨rfl,⟨v1,O1,rfl,hg1⟩,rfl,rfl⟩;simp only[ah,az];have hB2:jA (rs.drop (a0+1))=none→B:=fun h=>hB (by simp[fT,vg,gD,fF,eQ,oH,hp1,h]);refine cZ [] [(xb,[v1,.slice none 0 0])] (PO pb ⟨some ⟨b,off,none⟩,sn,sc⟩ (a0+1)) O1 [] [] [] ⟨rfl,by rfl,trivial⟩ (Er B pb ⟨some ⟨b,off,none⟩,sn,sc⟩ (a0+1) (rs:=rs) hB2) ?_
  rintro Us _ _ _ ⟨e2,a2,S9,hp2,ha2,hl2,rfl,N6,rfl,rfl⟩;refine cZ [] [] ((xb,[v1,.slice none 0 0])::(PO pb ⟨some ⟨b,off,none⟩,sn,sc⟩ a2++(S9++O1))) [] [] [] [] ⟨rfl,by rfl,trivial⟩ (eo:=(by simp only[ah,az,aV];kernel_rfl)) (nd B xb v1 (.slice none 0 0) Us (e0.length+1) e2.length ((e0.flatMap dd.cells)++([.int .u8 r1.k,.int .u8 r1.d,aZ u1])) (e2.flatMap dd.cells) (PO pb ⟨some ⟨b,off,none⟩,sn,sc⟩ a2) O1 S9 hg1 (gY N6 (fun x hx=>by simp[hx])) (js e2) (by omega)) ?_;rintro _ _ _ _ ⟨rfl,⟨v2,O2,rfl,hg2⟩,rfl,rfl⟩;simp only[ah,az];have NU:gE 16 (rs.drop a2)=none→B:=fun h=>hB (by simp[fT,vg,gD,fF,eQ,oH,hp1,hp2,h]);refine bZ [] 0 pb 0 (aR B) ?_;refine cZ [] [(xb,[v2,.slice none 0 0])] (PO pb ⟨some ⟨b,off,none⟩,sn,sc⟩ a2) O2 [] [] [] ⟨rfl,by rfl,trivial⟩ (mq B pb ⟨some ⟨b,off,none⟩,sn,sc⟩ a2 16 (rs:=rs) NU) ?_;rintro _ _ _ _ ⟨r3,u3,hp3,rfl,rfl,rfl,rfl⟩;refine cH [] 1 [.int .u8 r3.k,.int .u8 r3.d,aZ u3] (aR B) (fun HR=>?_);refine cZ [] [] ((xb,[v2,.slice none 0 0])::(PO pb ⟨some ⟨b,off,none⟩,sn,sc⟩ (a2+1)++([]++O2))) [] [] [] [] ⟨rfl,by rfl,trivial⟩ (eo:=(by simp only[ah,az,aV];kernel_rfl)) (nd B xb v2 (.slice none 0 0) (.slice (some ⟨HR,0,none⟩) 1 1) (e0.length+1+e2.length) 1 (((e0.flatMap dd.cells)++([.int .u8 r1.k,.int .u8 r1.d,aZ u1]))++(e2.flatMap dd.cells)) [.int .u8 r3.k,.int .u8 r3.d,aZ u3] (PO pb ⟨some ⟨b,off,none⟩,sn,sc⟩ (a2+1)) O2 [] hg2 (bX HR _ 1 3 rfl 1) (by simp[Value.oneCell']) (by omega)) ?_
  rintro _ _ _ _ ⟨rfl,⟨v3,O3,rfl,yM⟩,rfl,rfl⟩;simp only[ah,az];refine nj ((xb,[v3,.slice none 0 0])::PO pb ⟨some ⟨b,off,none⟩,sn,sc⟩ (a2+1)) O3 [] (by rw[ah O3];kernel_rfl) yM (fun ao c hv g1 g2=>?_);subst hv;have Lt:e0.length+1+e2.length+1=(e0++[(⟨u1,r1⟩:dC)]++e2++[(⟨u3,r3⟩:dC)]).length:=by simp only[aA,aC,a_]
  have hf:ez (rs.drop at')=some ((e0++[(⟨u1,r1⟩:dC)]++e2++[(⟨u3,r3⟩:dC)]).map dC.r,rs.drop (a2+1)):=by simp[vg,gD,fF,eQ,oH,hp1,hp2,hp3]
  refine j0 [] Tryz.f124 0 126 126 [0,2,3] [2] (QY pb xb) QZ (RZ pb ⟨some ⟨b,off,none⟩,sn,sc⟩ xb ⟨ao,e0.length+1+e2.length+1,c⟩) (fun _=>[]) (RY ⟨some ⟨b,off,none⟩,sn,sc⟩ rs ⟨ao,e0.length+1+e2.length+1,c⟩ ((e0++[(⟨u1,r1⟩:dC)]++e2++[(⟨u3,r3⟩:dC)]).map dC.r)) (QX rs (a2+1)) (OB rs) ⟨(a2+1),.slice none 0 0,[],[]⟩ ⟨rfl,cF.nil 3,by
    simp only[dk,az];cases eX (rs.drop (a2+1)).length (rs.drop (a2+1))<;>rfl⟩ (eC eK (eC (fun I w hd hh=>mA (v:=v0) Lt g1 g2 (iO.app (v:=v0) (iO.app (v:=v0) (iO.app (v:=v0) (eK (k:=iO v0) I w hd hh) (iO.one (v:=v0) (eK (k:=xG u1) I w hd hh))) (eK (k:=iO Us) I w hd hh)) (iO.one (v:=v0) (eK (k:=xG u3) I w hd hh))) (by
    have:=eK (k:=RA ao) I w hd hh;simpa [dd]using this)) (eC (fun I w hd hh e he=>by simp at he) eE))) ?_
  exact fun q R hq close=>mW B pb xb ⟨some ⟨b,off,none⟩,sn,sc⟩ ⟨ao,e0.length+1+e2.length+1,c⟩ at' (a2+1) hlen hf hB q R hq close
 ·have hk:r.k=11:=hk;have vg:ez (rs.drop at')=fF (dj [11,294,303]) (gD 11) (rs.drop at'):=by rw[ir hr];unfold ez;simp only[hk]
  have hB0:dj [11,294,303] (rs.drop at')=none→B:=fun h=>hB (by simp[fT,vg,fF,h]);refine vn 3 (fun xb=>?_);refine bZ [] 0 pb 0 (aR B) ?_;refine bZ [] 0 pb (0+0) (aR B) ?_;refine dR [] ([(xb,[.slice none 0 0,.slice none 0 0]),(pb,[.slice (some ⟨b,off,none⟩) sn sc,.int .i64 at'])]) pb (0+0+0) 1 [.slice (some ⟨b,off,none⟩) sn sc,.int .i64 at'] (.slice (some ⟨b,off,none⟩) sn sc) (aR B) (.tail _ (.head _)) rfl ?_;refine bZ [] 0 pb 0 (aR B) ?_;refine bZ [] 1 pb (0+0) (aR B) ?_;refine dR [] ([(xb,[.slice none 0 0,.slice none 0 0]),(pb,[.slice (some ⟨b,off,none⟩) sn sc,.int .i64 at'])]) pb (0+0+1) 1 [.slice (some ⟨b,off,none⟩) sn sc,.int .i64 at'] (.int .i64 at') (aR B) (.tail _ (.head _)) rfl ?_;refine bW [] 3 b off sn sc .i64 at' at' rfl (aR B) hlt ?_;refine bZ [] 0 b (off+at'*3) (aR B) ?_;refine dJ [] 1 b (off+at'*3+0) (.int .u8 11) (aR B) (fun I w hd hh=>by rw[←hk];exact cA (T:=su B) b (off+at'*3) I w hd hh 0 _ rfl) ?_;refine cH [] 3 [.int .i64 11,.int .i64 294,.int .i64 303] (aR B) (fun b3=>?_);refine cZ [] [(xb,[.slice none 0 0,.slice none 0 0])] (PO pb ⟨some ⟨b,off,none⟩,sn,sc⟩ at') [] [] [] [] ⟨rfl,by rfl,trivial⟩ (mr B pb ⟨some ⟨b,off,none⟩,sn,sc⟩ at' b3 3 (rs:=rs) (ks:=[11,294,303]) rfl (by decide) hB0) ?_;rintro v0 _ _ _ ⟨e0,a0,O0,oH,ha0,hl0,rfl,hg0,rfl,rfl⟩;obtain⟨gs,gc,go⟩:=lr hg0;refine bZ [] 0 xb 0 (aR B) ?_;refine nD [] ([(xb,[.slice none 0 0,.slice none 0 0])]++((PO pb ⟨some ⟨b,off,none⟩,sn,sc⟩ a0++O0)++[])) [] ((PO pb ⟨some ⟨b,off,none⟩,sn,sc⟩ a0++O0)++[]) 1 xb (0+0) [.slice none 0 0,.slice none 0 0] v0 [v0,.slice none 0 0] (aR B) rfl gs (by rw[gc];intro u hu;simp at hu;subst hu;exact go) (pT 1) (by rw[gc];rfl) ?_
  simp only[ah,az];refine aQ [] 27 false rfl ?_;refine aQ [27] 34 false rfl ?_;refine aQ [34] 41 false rfl ?_;refine bj [41] 61 true rfl ?_;have Hn:gE 18 (rs.drop a0)=none→B:=fun h=>hB (by simp[fT,vg,gD,fF,eQ,oH,h]);refine bZ [61] 0 pb 0 (aR B) ?_;refine cZ [] [(xb,[v0,.slice none 0 0])] (PO pb ⟨some ⟨b,off,none⟩,sn,sc⟩ a0) O0 [] [] [] ⟨rfl,by rfl,trivial⟩ (mq B pb ⟨some ⟨b,off,none⟩,sn,sc⟩ a0 18 (rs:=rs) Hn) ?_;rintro _ _ _ _ ⟨r1,u1,hp1,rfl,rfl,rfl,rfl⟩;refine cH [] 1 [.int .u8 r1.k,.int .u8 r1.d,aZ u1] (aR B) (fun HO=>?_);refine cZ [] [] ((xb,[v0,.slice none 0 0])::(PO pb ⟨some ⟨b,off,none⟩,sn,sc⟩ (a0+1)++([]++O0))) [] [] [] [] ⟨rfl,by rfl,trivial⟩ (eo:=(by simp only[ah,az,aV];kernel_rfl)) (nd B xb v0 (.slice none 0 0) (.slice (some ⟨HO,0,none⟩) 1 1) (e0.length) 1 (e0.flatMap dd.cells) [.int .u8 r1.k,.int .u8 r1.d,aZ u1] (PO pb ⟨some ⟨b,off,none⟩,sn,sc⟩ (a0+1)) O0 [] hg0 (bX HO _ 1 3 rfl 1) (by simp[Value.oneCell']) (by omega)) ?_;rintro _ _ _ _ ⟨rfl,⟨v1,O1,rfl,hg1⟩,rfl,rfl⟩;simp only[ah,az];have hB2:jA (rs.drop (a0+1))=none→B:=fun h=>hB (by simp[fT,vg,gD,fF,eQ,oH,hp1,h]);refine cZ [] [(xb,[v1,.slice none 0 0])] (PO pb ⟨some ⟨b,off,none⟩,sn,sc⟩ (a0+1)) O1 [] [] [] ⟨rfl,by rfl,trivial⟩ (Er B pb ⟨some ⟨b,off,none⟩,sn,sc⟩ (a0+1) (rs:=rs) hB2) ?_
  rintro Us _ _ _ ⟨e2,a2,S9,hp2,ha2,hl2,rfl,N6,rfl,rfl⟩;refine cZ [] [] ((xb,[v1,.slice none 0 0])::(PO pb ⟨some ⟨b,off,none⟩,sn,sc⟩ a2++(S9++O1))) [] [] [] [] ⟨rfl,by rfl,trivial⟩ (eo:=(by simp only[ah,az,aV];kernel_rfl)) (nd B xb v1 (.slice none 0 0) Us (e0.length+1) e2.length ((e0.flatMap dd.cells)++([.int .u8 r1.k,.int .u8 r1.d,aZ u1])) (e2.flatMap dd.cells) (PO pb ⟨some ⟨b,off,none⟩,sn,sc⟩ a2) O1 S9 hg1 (gY N6 (fun x hx=>by simp[hx])) (js e2) (by omega)) ?_;rintro _ _ _ _ ⟨rfl,⟨v2,O2,rfl,hg2⟩,rfl,rfl⟩;simp only[ah,az];have NU:dj [19,16] (rs.drop a2)=none→B:=fun h=>hB (by simp[fT,vg,gD,fF,eQ,oH,hp1,hp2,h]);refine cH [] 2 [.int .i64 19,.int .i64 16] (aR B) (fun HR=>?_);refine cZ [] [(xb,[v2,.slice none 0 0])] (PO pb ⟨some ⟨b,off,none⟩,sn,sc⟩ a2) O2 [] [] [] ⟨rfl,by rfl,trivial⟩ (mr B pb ⟨some ⟨b,off,none⟩,sn,sc⟩ a2 HR 2 (rs:=rs) (ks:=[19,16]) rfl (by decide) NU) ?_;rintro Z3 _ _ _ ⟨e3,a3,XU,hp3,ha3,hl3,rfl,VA,rfl,rfl⟩;refine cZ [] [] ((xb,[v2,.slice none 0 0])::(PO pb ⟨some ⟨b,off,none⟩,sn,sc⟩ a3++(XU++O2))) [] [] [] [] ⟨rfl,by rfl,trivial⟩ (eo:=(by simp only[ah,az,aV];kernel_rfl)) (nd B xb v2 (.slice none 0 0) Z3 (e0.length+1+e2.length) e3.length (((e0.flatMap dd.cells)++([.int .u8 r1.k,.int .u8 r1.d,aZ u1]))++(e2.flatMap dd.cells)) (e3.flatMap dd.cells) (PO pb ⟨some ⟨b,off,none⟩,sn,sc⟩ a3) O2 XU hg2 (gY VA (fun x hx=>by simp[hx])) (js e3) (by omega)) ?_
  rintro _ _ _ _ ⟨rfl,⟨v3,O3,rfl,yM⟩,rfl,rfl⟩;simp only[ah,az];refine nj ((xb,[v3,.slice none 0 0])::PO pb ⟨some ⟨b,off,none⟩,sn,sc⟩ a3) O3 [] (by rw[ah O3];kernel_rfl) yM (fun ao c hv g1 g2=>?_);subst hv;have Lt:e0.length+1+e2.length+e3.length=(e0++[(⟨u1,r1⟩:dC)]++e2++e3).length:=by simp only[aA,aC,a_]
  have hf:ez (rs.drop at')=some ((e0++[(⟨u1,r1⟩:dC)]++e2++e3).map dC.r,rs.drop a3):=by simp[vg,gD,fF,eQ,oH,hp1,hp2,hp3]
  refine j0 [] Tryz.f124 0 126 126 [0,2,3] [2] (QY pb xb) QZ (RZ pb ⟨some ⟨b,off,none⟩,sn,sc⟩ xb ⟨ao,e0.length+1+e2.length+e3.length,c⟩) (fun _=>[]) (RY ⟨some ⟨b,off,none⟩,sn,sc⟩ rs ⟨ao,e0.length+1+e2.length+e3.length,c⟩ ((e0++[(⟨u1,r1⟩:dC)]++e2++e3).map dC.r)) (QX rs a3) (OB rs) ⟨a3,.slice none 0 0,[],[]⟩ ⟨rfl,cF.nil 3,by
    simp only[dk,az];cases eX (rs.drop a3).length (rs.drop a3)<;>rfl⟩ (eC eK (eC (fun I w hd hh=>mA (v:=v0) Lt g1 g2 (iO.app (v:=v0) (iO.app (v:=v0) (iO.app (v:=v0) (eK (k:=iO v0) I w hd hh) (iO.one (v:=v0) (eK (k:=xG u1) I w hd hh))) (eK (k:=iO Us) I w hd hh)) (eK (k:=iO Z3) I w hd hh)) (by
    have:=eK (k:=RA ao) I w hd hh;simpa [dd]using this)) (eC (fun I w hd hh e he=>by simp at he) eE))) ?_
  exact fun q R hq close=>mW B pb xb ⟨some ⟨b,off,none⟩,sn,sc⟩ ⟨ao,e0.length+1+e2.length+e3.length,c⟩ at' a3 hlen hf hB q R hq close
 ·have hk:r.k=12:=hk;have vg:ez (rs.drop at')=fF (dj [12,294,303]) (gD 12) (rs.drop at'):=by rw[ir hr];unfold ez;simp only[hk]
  have hB0:dj [12,294,303] (rs.drop at')=none→B:=fun h=>hB (by simp[fT,vg,fF,h]);refine vn 3 (fun xb=>?_);refine bZ [] 0 pb 0 (aR B) ?_;refine bZ [] 0 pb (0+0) (aR B) ?_;refine dR [] ([(xb,[.slice none 0 0,.slice none 0 0]),(pb,[.slice (some ⟨b,off,none⟩) sn sc,.int .i64 at'])]) pb (0+0+0) 1 [.slice (some ⟨b,off,none⟩) sn sc,.int .i64 at'] (.slice (some ⟨b,off,none⟩) sn sc) (aR B) (.tail _ (.head _)) rfl ?_;refine bZ [] 0 pb 0 (aR B) ?_;refine bZ [] 1 pb (0+0) (aR B) ?_;refine dR [] ([(xb,[.slice none 0 0,.slice none 0 0]),(pb,[.slice (some ⟨b,off,none⟩) sn sc,.int .i64 at'])]) pb (0+0+1) 1 [.slice (some ⟨b,off,none⟩) sn sc,.int .i64 at'] (.int .i64 at') (aR B) (.tail _ (.head _)) rfl ?_;refine bW [] 3 b off sn sc .i64 at' at' rfl (aR B) hlt ?_;refine bZ [] 0 b (off+at'*3) (aR B) ?_;refine dJ [] 1 b (off+at'*3+0) (.int .u8 12) (aR B) (fun I w hd hh=>by rw[←hk];exact cA (T:=su B) b (off+at'*3) I w hd hh 0 _ rfl) ?_;refine cH [] 3 [.int .i64 12,.int .i64 294,.int .i64 303] (aR B) (fun b3=>?_);refine cZ [] [(xb,[.slice none 0 0,.slice none 0 0])] (PO pb ⟨some ⟨b,off,none⟩,sn,sc⟩ at') [] [] [] [] ⟨rfl,by rfl,trivial⟩ (mr B pb ⟨some ⟨b,off,none⟩,sn,sc⟩ at' b3 3 (rs:=rs) (ks:=[12,294,303]) rfl (by decide) hB0) ?_;rintro v0 _ _ _ ⟨e0,a0,O0,oH,ha0,hl0,rfl,hg0,rfl,rfl⟩;obtain⟨gs,gc,go⟩:=lr hg0;refine bZ [] 0 xb 0 (aR B) ?_;refine nD [] ([(xb,[.slice none 0 0,.slice none 0 0])]++((PO pb ⟨some ⟨b,off,none⟩,sn,sc⟩ a0++O0)++[])) [] ((PO pb ⟨some ⟨b,off,none⟩,sn,sc⟩ a0++O0)++[]) 1 xb (0+0) [.slice none 0 0,.slice none 0 0] v0 [v0,.slice none 0 0] (aR B) rfl gs (by rw[gc];intro u hu;simp at hu;subst hu;exact go) (pT 1) (by rw[gc];rfl) ?_
  simp only[ah,az];refine aQ [] 27 false rfl ?_;refine aQ [27] 34 false rfl ?_;refine aQ [34] 41 false rfl ?_;refine aQ [41] 61 false rfl ?_;refine bj [61] 79 true rfl ?_;have Hn:dj [13,22,279,289,271] (rs.drop a0)=none→B:=fun h=>hB (by simp[fT,vg,gD,fF,eQ,oH,h]);refine cH [79] 5 [.int .i64 13,.int .i64 22,.int .i64 279,.int .i64 289,.int .i64 271] (aR B) (fun HO=>?_);refine cZ [] [(xb,[v0,.slice none 0 0])] (PO pb ⟨some ⟨b,off,none⟩,sn,sc⟩ a0) O0 [] [] [] ⟨rfl,by rfl,trivial⟩ (mr B pb ⟨some ⟨b,off,none⟩,sn,sc⟩ a0 HO 5 (rs:=rs) (ks:=[13,22,279,289,271]) rfl (by decide) Hn) ?_;rintro KI _ _ _ ⟨e1,a1,Jd,hp1,ha1,hl1,rfl,DY,rfl,rfl⟩;refine cZ [] [] ((xb,[v0,.slice none 0 0])::(PO pb ⟨some ⟨b,off,none⟩,sn,sc⟩ a1++(Jd++O0))) [] [] [] [] ⟨rfl,by rfl,trivial⟩ (eo:=(by simp only[ah,az,aV];kernel_rfl)) (nd B xb v0 (.slice none 0 0) KI (e0.length) e1.length (e0.flatMap dd.cells) (e1.flatMap dd.cells) (PO pb ⟨some ⟨b,off,none⟩,sn,sc⟩ a1) O0 Jd hg0 (gY DY (fun x hx=>by simp[hx])) (js e1) (by omega)) ?_;rintro _ _ _ _ ⟨rfl,⟨v1,O1,rfl,hg1⟩,rfl,rfl⟩;simp only[ah,az];have hB2:jA (rs.drop a1)=none→B:=fun h=>hB (by simp[fT,vg,gD,fF,eQ,oH,hp1,h]);refine cZ [] [(xb,[v1,.slice none 0 0])] (PO pb ⟨some ⟨b,off,none⟩,sn,sc⟩ a1) O1 [] [] [] ⟨rfl,by rfl,trivial⟩ (Er B pb ⟨some ⟨b,off,none⟩,sn,sc⟩ a1 (rs:=rs) hB2) ?_
  rintro Us _ _ _ ⟨e2,a2,S9,hp2,ha2,hl2,rfl,N6,rfl,rfl⟩;refine cZ [] [] ((xb,[v1,.slice none 0 0])::(PO pb ⟨some ⟨b,off,none⟩,sn,sc⟩ a2++(S9++O1))) [] [] [] [] ⟨rfl,by rfl,trivial⟩ (eo:=(by simp only[ah,az,aV];kernel_rfl)) (nd B xb v1 (.slice none 0 0) Us (e0.length+e1.length) e2.length ((e0.flatMap dd.cells)++(e1.flatMap dd.cells)) (e2.flatMap dd.cells) (PO pb ⟨some ⟨b,off,none⟩,sn,sc⟩ a2) O1 S9 hg1 (gY N6 (fun x hx=>by simp[hx])) (js e2) (by omega)) ?_;rintro _ _ _ _ ⟨rfl,⟨v2,O2,rfl,hg2⟩,rfl,rfl⟩;simp only[ah,az];have NU:dj [16,25] (rs.drop a2)=none→B:=fun h=>hB (by simp[fT,vg,gD,fF,eQ,oH,hp1,hp2,h]);refine cH [] 2 [.int .i64 16,.int .i64 25] (aR B) (fun HR=>?_);refine cZ [] [(xb,[v2,.slice none 0 0])] (PO pb ⟨some ⟨b,off,none⟩,sn,sc⟩ a2) O2 [] [] [] ⟨rfl,by rfl,trivial⟩ (mr B pb ⟨some ⟨b,off,none⟩,sn,sc⟩ a2 HR 2 (rs:=rs) (ks:=[16,25]) rfl (by decide) NU) ?_;rintro Z3 _ _ _ ⟨e3,a3,XU,hp3,ha3,hl3,rfl,VA,rfl,rfl⟩;refine cZ [] [] ((xb,[v2,.slice none 0 0])::(PO pb ⟨some ⟨b,off,none⟩,sn,sc⟩ a3++(XU++O2))) [] [] [] [] ⟨rfl,by rfl,trivial⟩ (eo:=(by simp only[ah,az,aV];kernel_rfl)) (nd B xb v2 (.slice none 0 0) Z3 (e0.length+e1.length+e2.length) e3.length (((e0.flatMap dd.cells)++(e1.flatMap dd.cells))++(e2.flatMap dd.cells)) (e3.flatMap dd.cells) (PO pb ⟨some ⟨b,off,none⟩,sn,sc⟩ a3) O2 XU hg2 (gY VA (fun x hx=>by simp[hx])) (js e3) (by omega)) ?_
  rintro _ _ _ _ ⟨rfl,⟨v3,O3,rfl,yM⟩,rfl,rfl⟩;simp only[ah,az];refine nj ((xb,[v3,.slice none 0 0])::PO pb ⟨some ⟨b,off,none⟩,sn,sc⟩ a3) O3 [] (by rw[ah O3];kernel_rfl) yM (fun ao c hv g1 g2=>?_);subst hv;have Lt:e0.length+e1.length+e2.length+e3.length=(e0++e1++e2++e3).length:=by simp only[aA,aC,a_]
  have hf:ez (rs.drop at')=some ((e0++e1++e2++e3).map dC.r,rs.drop a3):=by simp[vg,gD,fF,eQ,oH,hp1,hp2,hp3]
  refine j0 [] Tryz.f124 0 126 126 [0,2,3] [2] (QY pb xb) QZ (RZ pb ⟨some ⟨b,off,none⟩,sn,sc⟩ xb ⟨ao,e0.length+e1.length+e2.length+e3.length,c⟩) (fun _=>[]) (RY ⟨some ⟨b,off,none⟩,sn,sc⟩ rs ⟨ao,e0.length+e1.length+e2.length+e3.length,c⟩ ((e0++e1++e2++e3).map dC.r)) (QX rs a3) (OB rs) ⟨a3,.slice none 0 0,[],[]⟩ ⟨rfl,cF.nil 3,by
    simp only[dk,az];cases eX (rs.drop a3).length (rs.drop a3)<;>rfl⟩ (eC eK (eC (fun I w hd hh=>mA (v:=v0) Lt g1 g2 (iO.app (v:=v0) (iO.app (v:=v0) (iO.app (v:=v0) (eK (k:=iO v0) I w hd hh) (eK (k:=iO KI) I w hd hh)) (eK (k:=iO Us) I w hd hh)) (eK (k:=iO Z3) I w hd hh)) (by
    have:=eK (k:=RA ao) I w hd hh;simpa [dd]using this)) (eC (fun I w hd hh e he=>by simp at he) eE))) ?_
  exact fun q R hq close=>mW B pb xb ⟨some ⟨b,off,none⟩,sn,sc⟩ ⟨ao,e0.length+e1.length+e2.length+e3.length,c⟩ at' a3 hlen hf hB q R hq close
 ·have hk:r.k=21:=hk;have vg:ez (rs.drop at')=fF (dj [21,294,303]) (gD 21) (rs.drop at'):=by rw[ir hr];unfold ez;simp only[hk]
  have hB0:dj [21,294,303] (rs.drop at')=none→B:=fun h=>hB (by simp[fT,vg,fF,h]);refine vn 3 (fun xb=>?_);refine bZ [] 0 pb 0 (aR B) ?_;refine bZ [] 0 pb (0+0) (aR B) ?_;refine dR [] ([(xb,[.slice none 0 0,.slice none 0 0]),(pb,[.slice (some ⟨b,off,none⟩) sn sc,.int .i64 at'])]) pb (0+0+0) 1 [.slice (some ⟨b,off,none⟩) sn sc,.int .i64 at'] (.slice (some ⟨b,off,none⟩) sn sc) (aR B) (.tail _ (.head _)) rfl ?_;refine bZ [] 0 pb 0 (aR B) ?_;refine bZ [] 1 pb (0+0) (aR B) ?_;refine dR [] ([(xb,[.slice none 0 0,.slice none 0 0]),(pb,[.slice (some ⟨b,off,none⟩) sn sc,.int .i64 at'])]) pb (0+0+1) 1 [.slice (some ⟨b,off,none⟩) sn sc,.int .i64 at'] (.int .i64 at') (aR B) (.tail _ (.head _)) rfl ?_;refine bW [] 3 b off sn sc .i64 at' at' rfl (aR B) hlt ?_;refine bZ [] 0 b (off+at'*3) (aR B) ?_;refine dJ [] 1 b (off+at'*3+0) (.int .u8 21) (aR B) (fun I w hd hh=>by rw[←hk];exact cA (T:=su B) b (off+at'*3) I w hd hh 0 _ rfl) ?_;refine cH [] 3 [.int .i64 21,.int .i64 294,.int .i64 303] (aR B) (fun b3=>?_);refine cZ [] [(xb,[.slice none 0 0,.slice none 0 0])] (PO pb ⟨some ⟨b,off,none⟩,sn,sc⟩ at') [] [] [] [] ⟨rfl,by rfl,trivial⟩ (mr B pb ⟨some ⟨b,off,none⟩,sn,sc⟩ at' b3 3 (rs:=rs) (ks:=[21,294,303]) rfl (by decide) hB0) ?_;rintro v0 _ _ _ ⟨e0,a0,O0,oH,ha0,hl0,rfl,hg0,rfl,rfl⟩;obtain⟨gs,gc,go⟩:=lr hg0;refine bZ [] 0 xb 0 (aR B) ?_;refine nD [] ([(xb,[.slice none 0 0,.slice none 0 0])]++((PO pb ⟨some ⟨b,off,none⟩,sn,sc⟩ a0++O0)++[])) [] ((PO pb ⟨some ⟨b,off,none⟩,sn,sc⟩ a0++O0)++[]) 1 xb (0+0) [.slice none 0 0,.slice none 0 0] v0 [v0,.slice none 0 0] (aR B) rfl gs (by rw[gc];intro u hu;simp at hu;subst hu;exact go) (pT 1) (by rw[gc];rfl) ?_
  simp only[ah,az];refine aQ [] 27 false rfl ?_;refine aQ [27] 34 false rfl ?_;refine aQ [34] 41 false rfl ?_;refine aQ [41] 61 false rfl ?_;refine aQ [61] 79 false rfl ?_;refine bj [79] 95 true rfl ?_;have Hn:dj [13,42,16] (rs.drop a0)=none→B:=fun h=>hB (by simp[fT,vg,gD,fF,eQ,oH,h]);refine cH [95] 3 [.int .i64 13,.int .i64 42,.int .i64 16] (aR B) (fun HO=>?_);refine cZ [] [(xb,[v0,.slice none 0 0])] (PO pb ⟨some ⟨b,off,none⟩,sn,sc⟩ a0) O0 [] [] [] ⟨rfl,by rfl,trivial⟩ (mr B pb ⟨some ⟨b,off,none⟩,sn,sc⟩ a0 HO 3 (rs:=rs) (ks:=[13,42,16]) rfl (by decide) Hn) ?_;rintro KI _ _ _ ⟨e1,a1,Jd,hp1,ha1,hl1,rfl,DY,rfl,rfl⟩;refine cZ [] [] ((xb,[v0,.slice none 0 0])::(PO pb ⟨some ⟨b,off,none⟩,sn,sc⟩ a1++(Jd++O0))) [] [] [] [] ⟨rfl,by rfl,trivial⟩ (eo:=(by simp only[ah,az,aV];kernel_rfl)) (nd B xb v0 (.slice none 0 0) KI (e0.length) e1.length (e0.flatMap dd.cells) (e1.flatMap dd.cells) (PO pb ⟨some ⟨b,off,none⟩,sn,sc⟩ a1) O0 Jd hg0 (gY DY (fun x hx=>by simp[hx])) (js e1) (by omega)) ?_;rintro _ _ _ _ ⟨rfl,⟨v1,O1,rfl,hg1⟩,rfl,rfl⟩;simp only[ah,az];refine nj ((xb,[v1,.slice none 0 0])::PO pb ⟨some ⟨b,off,none⟩,sn,sc⟩ a1) O1 [] (by rw[ah O1];kernel_rfl) hg1 (fun ao c hv g1 g2=>?_);subst hv;have Lt:e0.length+e1.length=(e0++e1).length:=by simp only[aA,aC,a_]
  have hf:ez (rs.drop at')=some ((e0++e1).map dC.r,rs.drop a1):=by simp[vg,gD,fF,eQ,oH,hp1]
  refine j0 [] Tryz.f124 0 126 126 [0,2,3] [2] (QY pb xb) QZ (RZ pb ⟨some ⟨b,off,none⟩,sn,sc⟩ xb ⟨ao,e0.length+e1.length,c⟩) (fun _=>[]) (RY ⟨some ⟨b,off,none⟩,sn,sc⟩ rs ⟨ao,e0.length+e1.length,c⟩ ((e0++e1).map dC.r)) (QX rs a1) (OB rs) ⟨a1,.slice none 0 0,[],[]⟩ ⟨rfl,cF.nil 3,by
    simp only[dk,az];cases eX (rs.drop a1).length (rs.drop a1)<;>rfl⟩ (eC eK (eC (fun I w hd hh=>mA (v:=v0) Lt g1 g2 (iO.app (v:=v0) (eK (k:=iO v0) I w hd hh) (eK (k:=iO KI) I w hd hh)) (by
    have:=eK (k:=RA ao) I w hd hh;simpa [dd]using this)) (eC (fun I w hd hh e he=>by simp at he) eE))) ?_
  exact fun q R hq close=>mW B pb xb ⟨some ⟨b,off,none⟩,sn,sc⟩ ⟨ao,e0.length+e1.length,c⟩ at' a1 hlen hf hB q R hq close
 ·have hk:r.k=45:=hk;have vg:ez (rs.drop at')=fF (dj [45,294,303]) (gD 45) (rs.drop at'):=by rw[ir hr];unfold ez;simp only[hk]
  have hB0:dj [45,294,303] (rs.drop at')=none→B:=fun h=>hB (by simp[fT,vg,fF,h]);refine vn 3 (fun xb=>?_);refine bZ [] 0 pb 0 (aR B) ?_;refine bZ [] 0 pb (0+0) (aR B) ?_;refine dR [] ([(xb,[.slice none 0 0,.slice none 0 0]),(pb,[.slice (some ⟨b,off,none⟩) sn sc,.int .i64 at'])]) pb (0+0+0) 1 [.slice (some ⟨b,off,none⟩) sn sc,.int .i64 at'] (.slice (some ⟨b,off,none⟩) sn sc) (aR B) (.tail _ (.head _)) rfl ?_;refine bZ [] 0 pb 0 (aR B) ?_;refine bZ [] 1 pb (0+0) (aR B) ?_;refine dR [] ([(xb,[.slice none 0 0,.slice none 0 0]),(pb,[.slice (some ⟨b,off,none⟩) sn sc,.int .i64 at'])]) pb (0+0+1) 1 [.slice (some ⟨b,off,none⟩) sn sc,.int .i64 at'] (.int .i64 at') (aR B) (.tail _ (.head _)) rfl ?_;refine bW [] 3 b off sn sc .i64 at' at' rfl (aR B) hlt ?_;refine bZ [] 0 b (off+at'*3) (aR B) ?_;refine dJ [] 1 b (off+at'*3+0) (.int .u8 45) (aR B) (fun I w hd hh=>by rw[←hk];exact cA (T:=su B) b (off+at'*3) I w hd hh 0 _ rfl) ?_;refine cH [] 3 [.int .i64 45,.int .i64 294,.int .i64 303] (aR B) (fun b3=>?_);refine cZ [] [(xb,[.slice none 0 0,.slice none 0 0])] (PO pb ⟨some ⟨b,off,none⟩,sn,sc⟩ at') [] [] [] [] ⟨rfl,by rfl,trivial⟩ (mr B pb ⟨some ⟨b,off,none⟩,sn,sc⟩ at' b3 3 (rs:=rs) (ks:=[45,294,303]) rfl (by decide) hB0) ?_;rintro v0 _ _ _ ⟨e0,a0,O0,oH,ha0,hl0,rfl,hg0,rfl,rfl⟩;obtain⟨gs,gc,go⟩:=lr hg0;refine bZ [] 0 xb 0 (aR B) ?_;refine nD [] ([(xb,[.slice none 0 0,.slice none 0 0])]++((PO pb ⟨some ⟨b,off,none⟩,sn,sc⟩ a0++O0)++[])) [] ((PO pb ⟨some ⟨b,off,none⟩,sn,sc⟩ a0++O0)++[]) 1 xb (0+0) [.slice none 0 0,.slice none 0 0] v0 [v0,.slice none 0 0] (aR B) rfl gs (by rw[gc];intro u hu;simp at hu;subst hu;exact go) (pT 1) (by rw[gc];rfl) ?_
  simp only[ah,az];refine aQ [] 27 false rfl ?_;refine aQ [27] 34 false rfl ?_;refine aQ [34] 41 false rfl ?_;refine aQ [41] 61 false rfl ?_;refine aQ [61] 79 false rfl ?_;refine aQ [79] 95 false rfl ?_;refine bj [95] 102 true rfl ?_;have Hn:dj [13,46,16] (rs.drop a0)=none→B:=fun h=>hB (by simp[fT,vg,gD,fF,eQ,oH,h]);refine cH [102] 3 [.int .i64 13,.int .i64 46,.int .i64 16] (aR B) (fun HO=>?_);refine cZ [] [(xb,[v0,.slice none 0 0])] (PO pb ⟨some ⟨b,off,none⟩,sn,sc⟩ a0) O0 [] [] [] ⟨rfl,by rfl,trivial⟩ (mr B pb ⟨some ⟨b,off,none⟩,sn,sc⟩ a0 HO 3 (rs:=rs) (ks:=[13,46,16]) rfl (by decide) Hn) ?_;rintro KI _ _ _ ⟨e1,a1,Jd,hp1,ha1,hl1,rfl,DY,rfl,rfl⟩;refine cZ [] [] ((xb,[v0,.slice none 0 0])::(PO pb ⟨some ⟨b,off,none⟩,sn,sc⟩ a1++(Jd++O0))) [] [] [] [] ⟨rfl,by rfl,trivial⟩ (eo:=(by simp only[ah,az,aV];kernel_rfl)) (nd B xb v0 (.slice none 0 0) KI (e0.length) e1.length (e0.flatMap dd.cells) (e1.flatMap dd.cells) (PO pb ⟨some ⟨b,off,none⟩,sn,sc⟩ a1) O0 Jd hg0 (gY DY (fun x hx=>by simp[hx])) (js e1) (by omega)) ?_;rintro _ _ _ _ ⟨rfl,⟨v1,O1,rfl,hg1⟩,rfl,rfl⟩;simp only[ah,az];refine nj ((xb,[v1,.slice none 0 0])::PO pb ⟨some ⟨b,off,none⟩,sn,sc⟩ a1) O1 [] (by rw[ah O1];kernel_rfl) hg1 (fun ao c hv g1 g2=>?_);subst hv
  have Lt:e0.length+e1.length=(e0++e1).length:=by simp only[aA,aC,a_]
  have hf:ez (rs.drop at')=some ((e0++e1).map dC.r,rs.drop a1):=by simp[vg,gD,fF,eQ,oH,hp1]
  refine j0 [] Tryz.f124 0 126 126 [0,2,3] [2] (QY pb xb) QZ (RZ pb ⟨some ⟨b,off,none⟩,sn,sc⟩ xb ⟨ao,e0.length+e1.length,c⟩) (fun _=>[]) (RY ⟨some ⟨b,off,none⟩,sn,sc⟩ rs ⟨ao,e0.length+e1.length,c⟩ ((e0++e1).map dC.r)) (QX rs a1) (OB rs) ⟨a1,.slice none 0 0,[],[]⟩ ⟨rfl,cF.nil 3,by
    simp only[dk,az];cases eX (rs.drop a1).length (rs.drop a1)<;>rfl⟩ (eC eK (eC (fun I w hd hh=>mA (v:=v0) Lt g1 g2 (iO.app (v:=v0) (eK (k:=iO v0) I w hd hh) (eK (k:=iO KI) I w hd hh)) (by
    have:=eK (k:=RA ao) I w hd hh;simpa [dd]using this)) (eC (fun I w hd hh e he=>by simp at he) eE))) ?_
  exact fun q R hq close=>mW B pb xb ⟨some ⟨b,off,none⟩,sn,sc⟩ ⟨ao,e0.length+e1.length,c⟩ at' a1 hlen hf hB q R hq close
end
theorem ye{l m:List Re}{x:Im}(h:fT l=some (x,m)):m.length<l.length:=by
 rw[si _ _ _ h,aA];have:=List.length_pos_iff.2 (qY x);omega
theorem yd{l m:List Re}{x:Ce}(h:qu l=some (x,m)):m.length<l.length:=by
 rw[se _ _ _ h,aA];have:=List.length_pos_iff.2 (pg x);omega
theorem yY:∀(n n':Nat) (l:List Re),l.length≤n→l.length≤n'→fX n l=fX n' l
 |0,0,l,_,_=>rfl
 |0,n'+1,l,h,_=>by
  have:l=[]:=aN (by omega);subst this;simp[fX,ea]
 |n+1,0,l,_,h=>by
  have:l=[]:=aN (by omega);subst this;simp[fX,ea]
 |n+1,n'+1,l,h,h'=>by
  unfold fX;split
  ·split
   ·rename_i a m hm;have:=ye hm;rw[yY n n' m (by omega) (by omega)]
   ·rfl
  ·rfl
theorem yX:∀(n n':Nat) (l:List Re),l.length≤n→l.length≤n'→fD n l=fD n' l
 |0,0,l,_,_=>rfl
 |0,n'+1,l,h,_=>by
  have:l=[]:=aN (by omega);subst this;simp[fD,dK]
 |n+1,0,l,_,h=>by
  have:l=[]:=aN (by omega);subst this;simp[fD,dK]
 |n+1,n'+1,l,h,h'=>by
  unfold fD;split
  ·split
   ·rename_i a m hm;have:=yd hm;rw[yX n n' m (by omega) (by omega)]
   ·rfl
  ·rfl
theorem C_{k:Int}{l m:List Re}{r:Re}(h:gE k l=some (r,m)):m.length<l.length:=by
 rw[(fE h).1];simp
theorem GW{l:List Re}(h:ea l=true):fX l.length l=(match fT l with
  |some (a,m)=>(match fX m.length m with
   |some (b,m')=>some (a::b,m')
   |none=>none)
  |none=>none):=by
 cases l with
 |nil=>simp[ea]at h
 |cons r l=>
  rw[aC];show fX (l.length+1) (r::l)=_;rw[fX,if_pos h];cases hp:fT (r::l)with
  |none=>rfl
  |some q=>
   obtain⟨a,m⟩:=q;have:=ye hp;simp only;rw[yY l.length m.length m (by simp at this;omega) (ak _)];cases fX m.length m<;>rfl
theorem GX{l:List Re}(h:¬ea l=true):fX l.length l=some ([],l):=by
 cases l with
 |nil=>rfl
 |cons r l=>
  rw[aC];show fX (l.length+1) (r::l)=_;rw[fX,if_neg h]
theorem GU{l:List Re}(h:dK 5 l=true):fD l.length l=(match qu l with
  |some (a,m)=>(match fD m.length m with
   |some (b,m')=>some (a::b,m')
   |none=>none)
  |none=>none):=by
 cases l with
 |nil=>simp[dK]at h
 |cons r l=>
  rw[aC];show fD (l.length+1) (r::l)=_;rw[fD,if_pos h];cases hp:qu (r::l)with
  |none=>rfl
  |some q=>
   obtain⟨a,m⟩:=q;have:=yd hp;simp only;rw[yX l.length m.length m (by simp at this;omega) (ak _)];cases fD m.length m<;>rfl
theorem GV{l:List Re}(h:¬dK 5 l=true):fD l.length l=some ([],l):=by
 cases l with
 |nil=>rfl
 |cons r l=>
  rw[aC];show fD (l.length+1) (r::l)=_;rw[fD,if_neg h]
theorem GY{l:List Re}(h:dK 55 l=true):fO l.length l=(match gE 55 l with
  |some (a,m)=>(match fO m.length m with
   |some (b,m')=>some (a::b,m')
   |none=>none)
  |none=>none):=by
 cases l with
 |nil=>simp[dK]at h
 |cons r l=>
  rw[aC];show fO (l.length+1) (r::l)=_;rw[fO,if_pos h];cases hp:gE 55 (r::l)with
  |none=>rfl
  |some q=>
   obtain⟨a,m⟩:=q;have:=C_ hp;simp only;rw[yZ l.length m.length m (by simp at this;omega) (ak _)];cases fO m.length m<;>rfl
theorem GZ{l:List Re}(h:¬dK 55 l=true):fO l.length l=some ([],l):=by
 cases l with
 |nil=>rfl
 |cons r l=>
  rw[aC];show fO (l.length+1) (r::l)=_;rw[fO,if_neg h]
theorem Mb(l:List Re):W6 [8,9,10,11,12,21,45] l=ea l:=by
 cases l with
 |nil=>rfl
 |cons r m=>
  unfold W6 ea pr;simp only[List.contains_cons,List.contains_nil,Bool.or_false];simp only[Bool.or_assoc]
def mS{α:Type}(R:kG α)(v:Value)(es:List α):aD where
 p I w:=(OS R (0,es)).p I w
 up:=(OS R (0,es)).up
theorem CP{α β:Type}(R:kG α)(num:α→β){v:Value}{es:List α}{ao:Option Addr}{n c:Nat}{I:fQ}{w:World}(hn:n=es.length)(h1:n≤c)(h2:c≤maxLen)(h3:(mS R v es).p I w)(h4:(RA ao (es.flatMap R.cells)).p I w):(LF R num ⟨ao,n,c⟩ (es.map num)).p I w:=
 ⟨es,rfl,by rw[bI];exact hn,⟨h1,h2⟩,h3,h4⟩
theorem mS.snoc{α:Type}{R:kG α}{v v':Value}{es:List α}{e:α}{I:fQ}{w:World}(h:(mS R v es).p I w)(he:(R.fact 0 e).p I w):(mS R v' (es++[e])).p I w:=fun x hx=>by
 rcases List.mem_append.1 hx with h'|h'
 ·exact h x h'
 ·simp only[aF,aE,bL]at h';subst h';exact he
section
variable{T:Tb}{P:Program}{fin:VS→List aD→Prop}{Γ:List aD}
theorem Ro{s:VS}{k:List It}{z n:Nat}(A O1 O2:List (Nat×List Value)){v:Value}{xs:List Value}(ho:s.own=A++(O1++O2))(hg:cF z O1 v n xs)(hm:dD k=false)
  (hk:∀ao c',v=.slice ao n c'→n≤c'→c'≤maxLen→W T P fin ⟨s.setOwn (A++O2),k⟩ (RA ao xs::Γ)):W T P fin ⟨s,k⟩ Γ:=by
 obtain⟨hl,hg⟩:=hg;rcases hg with⟨rfl,rfl,rfl⟩|⟨g,cap,cur,rfl,rfl,hnc,hcm,hcs,htk⟩
 ·obtain rfl:xs=[]:=aN (by simpa using hl);have hs:s.own=A++O2:=ho;refine W.elim (α:=Unit) (fun _=>True) (fun _=>[RA none []]) hm (fun I w _ hh=>⟨(),trivial,aS (RA.nil _ _ _)⟩) (fun _ _=>?_);have:=hk none 0 rfl (ak _) (aJ _);rw[←hs]at this;exact this
 ·refine W.pub (O1:=A) (O2:=O2) (b:=g) (cs:=cur) hm ho ?_;refine W.elim (α:=Unit) (fun _=>True) (fun _=>[RA (some ⟨g,0,none⟩) xs]) hm (fun I w _ hh=>⟨(),trivial,aS (RA.of_row hh.h0' fun i v hv=>?_)⟩) (fun _ _=>?_)
  ·rw[←htk,dF]at hv;split at hv
   ·exact hv
   ·simp at hv
  ·refine W.sub hm (fun I w _ hh=>?_) (hk _ _ rfl hnc hcm);exact aG.cons hh.h0' (fun F hF=>hh F (by simp[hF]))
end
theorem h_{z:Nat}{O:List (Nat×List Value)}{v:Value}{n:Nat}{xs:List Value}(h:cF z O v n xs):∃s:Sl,v=aZ s:=by
 rcases h.2 with⟨rfl,_,_⟩|⟨g,cap,cur,rfl,_⟩
 ·exact⟨⟨none,0,0⟩,rfl⟩
 ·exact⟨⟨some ⟨g,0,none⟩,n,cap⟩,rfl⟩
section
variable{T:Tb}{P:Program}{fin:VS→List aD→Prop}{c:fG}{Γ:List aD}
theorem k8{z n:Nat}(A O1 O2:List (Nat×List Value)){s:Sl}{xs:List Value}(ho:(dN T 999 c).s.own=A++(O1++O2))(hg:cF z O1 (aZ s) n xs)
  (hk:s.n=n→s.n≤s.c→s.c≤maxLen→W T P fin ⟨(dN T 999 c).s.setOwn (A++O2),(dN T 999 c).k⟩ (RA s.ao xs::Γ))(hm:dD (dN T 999 c).k=false:=by kernel_rfl):W T P fin c Γ:=
 nj A O1 O2 ho hg (hm:=hm) (fun ao c' hv h1 h2=>by
  injection hv with e1 e2 e3;subst e1;rw[←e2]at h1;rw[←e3]at h1 h2;exact hk e2 h1 h2)
theorem Rp{s:VS}{k:List It}{z n:Nat}(A O1 O2:List (Nat×List Value)){u:Sl}{xs:List Value}(ho:s.own=A++(O1++O2))(hg:cF z O1 (aZ u) n xs)
  (hk:u.n=n→u.n≤u.c→u.c≤maxLen→W T P fin ⟨s.setOwn (A++O2),k⟩ (RA u.ao xs::Γ))(hm:dD k=false:=by kernel_rfl):W T P fin ⟨s,k⟩ Γ:=
 Ro A O1 O2 ho hg hm (fun ao c' hv h1 h2=>by
  injection hv with e1 e2 e3;subst e1;rw[←e2]at h1;rw[←e3]at h1 h2;exact hk e2 h1 h2)
end
def Dy(pb:Nat)(sl:Sl)(at':Nat)(rs:List Re)(v:Value)(O:List (Nat×List Value))(M:List (Nat×List (Value×Value)))(Δ:List aD):Prop:=
 ∃(t:Li) (h c:Sl) (at2:Nat),sk (rs.drop at')=some (t,rs.drop at2)∧v=lY h c∧O=PO pb sl at2∧M=[]∧Δ=[yA h c t]
structure s6 where
 a:Nat
 v:Sl
 O:List (Nat×List Value)
 es:List lj
structure XO where
 a:Nat
 v:Sl
 O:List (Nat×List Value)
 es:List mN
def Xz(pb:Nat):s6→List (Nat×SV):=fun _=>[(0,.val (fo pb)),(2,.ptr 2 0),(3,.ptr 3 0)]
def XA(h:Sl):s6→List (Nat×List Value):=fun q=>[(2,[.slice none 0 0,.slice none 0 0]),(3,[aZ h,aZ q.v])]
def Yq(pb:Nat)(sl:Sl):s6→List (Nat×List Value):=fun q=>PO pb sl q.a++q.O
def Yn(sl:Sl)(rs:List Re)(h:Sl)(hs:List Re):s6→List aD:=fun q=>[la sl rs,la h hs,mS g8 (aZ q.v) q.es]
def Yo(rs:List Re)(a0:Nat):s6→Prop:=fun q=>rs.drop a0=(q.es.map lj.x).flatMap fS++rs.drop q.a∧cF 2 q.O (aZ q.v) q.es.length (q.es.flatMap g8.cells)∧fD (rs.drop a0).length (rs.drop a0)=(match fD (rs.drop q.a).length (rs.drop q.a)with
   |some (b,m)=>some (q.es.map lj.x++b,m)
   |none=>none)
def Yp(rs:List Re):s6→Nat:=fun q=>(rs.drop q.a).length
theorem qZ{α:Type}{f:α→List Re}(hf:∀x,f x≠ []):∀l:List α,l.length≤(l.flatMap f).length
 | []=>ak _
 |x::l=>by
  rw[bz,aA,aC];have:=qZ hf l;have:=List.length_pos_iff.2 (hf x);omega
theorem yl(u v:Sl):∀x∈[aZ u,aZ v],x.oneCell'=true:=by
 intro x hx;simp only[aF,aE,bL]at hx;rcases hx with rfl|rfl<;>rfl
section
variable{Γ:List aD}
theorem AS(B:Prop)(pb:Nat)(sl h:Sl)(at' a0:Nat){rs hs:List Re}(hlen:rs.length≤100000)(hf:qx (rs.drop at')=some (hs,rs.drop a0))(hB:sk (rs.drop at')=none→B)(q:s6)(R:VS→List aD→Prop)(hq:Yo rs a0 q)
  (close:∀(D':List Nat) (c':fG) (Γ':List aD) (a':s6),og (aL (su B) (bh (su B) D' 999 c'))=some R→
    (oh (aL (su B) (bh (su B) D' 999 c'))).map (fun s=>s.only [0,2,3] [2,3])=some (iJ 104 104 (Xz pb a') (XA h a') (Yq pb sl a') [])→
    Yo rs a0 a'→Yp rs a'<Yp rs q→(∀I w,br (su B) I w→aG Γ' I w→aG (Yn sl rs h hs a') I w)→W (su B) Tryz.prog (KM (su B) Tryz.f73 (Dy pb sl at' rs)) c' Γ'):
  W (su B) Tryz.prog (KM (su B) Tryz.f73 (Dy pb sl at' rs)) ⟨iJ 104 104 (Xz pb q) (XA h q) (Yq pb sl q) [],.code (VV Tryz.f73 1)::.again R::VW Tryz.f73 1⟩ (Yn sl rs h hs q):=by
 obtain⟨a,v,O,es⟩:=q;obtain⟨he,hg,hp⟩:=hq;simp only at he hg hp;have hel:es.length≤100000:=by
  have h1:=dH List.length he;have h2:=qZ pg (es.map lj.x);simp at h1 h2;omega
 have hB0:(match fD (rs.drop a0).length (rs.drop a0)with
   |some (_,m)=>gE 4 m
   |none=>none)=none→B:=fun h=>hB (by
  unfold sk;rw[hf];simp only;cases hq:fD (rs.drop a0).length (rs.drop a0)with
  |none=>rfl
  |some q=>
   rw[hq]at h;simp only at h⊢;rw[h])
 rw[hp]at hB0;show W (su B) Tryz.prog _ ⟨iJ 104 104 (Xz pb ⟨a,v,O,es⟩) (XA h ⟨a,v,O,es⟩) (PO pb sl a++O) [],_⟩ [la sl rs,la h hs,mS g8 (aZ v) es];refine bZ [] 0 pb 0 (aR B) ?_;refine cH [] 1 [.int .u8 5] (aR B) (fun b9=>?_);refine cZ [] [] (PO pb sl a) O [] [] [] ⟨rfl,by rfl,trivial⟩ (r9 B pb sl a b9 1 (rs:=rs) (ks:=[5]) rfl (by decide)) ?_;rintro _ _ _ _ ⟨rfl,rfl,rfl,rfl⟩;rw[uX];by_cases D6:dK 5 (rs.drop a)=true
 ·rw[GU D6]at hp hB0;have hBc:qu (rs.drop a)=none→B:=fun h=>hB0 (by rw[h]);refine bj [] 72 (dK 5 (rs.drop a)) D6 ?_;refine cH [72] 3 [.int .i64 5,.int .i64 6,.int .i64 308] (aR B) (fun b10=>?_);refine cZ [] [] (PO pb sl a) O [] [] [] ⟨rfl,by rfl,trivial⟩ (mr B pb sl a b10 3 (rs:=rs) (ks:=[5,6,308]) rfl (by decide) (fun h=>hBc (by unfold qu;rw[h]))) ?_;rintro _ _ _ _ ⟨eh,a1,O1,hp1,ha1,hl1,rfl,hg1,rfl,rfl⟩;obtain⟨v1,rfl⟩:=h_ hg1;have Oe:qu (rs.drop a)=(match fX (rs.drop a1).length (rs.drop a1)with
   |some (i,m')=>(match gE 7 m' with
    |some (_,LC)=>some (⟨eh.map dC.r,i⟩,LC)
    |none=>none)
   |none=>none):=by
   unfold qu;rw[hp1];simp only;cases fX (rs.drop a1).length (rs.drop a1)with
   |none=>rfl
   |some q=>rfl
  refine gV [] [] (fun _:XO=>[]) (fun q=>[(5,[aZ v1,aZ q.v])]) (fun q=>PO pb sl q.a++(q.O++(O1++O))) (fun q=>[la sl rs,la h hs,mS g8 (aZ v) es,iO (aZ v1) eh,mS lZ (aZ q.v) q.es]) (fun q=>rs.drop a1=(q.es.map mN.x).flatMap fH++rs.drop q.a∧cF 2 q.O (aZ q.v) q.es.length (q.es.flatMap lZ.cells)∧fX (rs.drop a1).length (rs.drop a1)=(match fX (rs.drop q.a).length (rs.drop q.a)with
   |some (b,m)=>some (q.es.map mN.x++b,m)
   |none=>none)) (fun q=>(rs.drop q.a).length) ⟨a1,⟨none,0,0⟩,[],[]⟩ ⟨rfl,cF.nil 2,by
    simp only[dk,az];cases fX (rs.drop a1).length (rs.drop a1)<;>rfl⟩ (eC eK (eC eK (eC eK (eC eK (eC (fun I w hd hh e he=>by simp at he) eE))))) ?_
  rintro⟨a2,vi,Oi,ei⟩ K ⟨hi1,YV,hpi⟩ Vc;simp only at hi1 YV hpi;have aeo:ei.length≤100000:=by
   have h1:=dH List.length hi1;have h2:=qZ qY (ei.map mN.x);simp at h1 h2;omega
  refine bZ [] 0 pb 0 (aR B) ?_;refine cH [] 7 [.int .u8 8,.int .u8 9,.int .u8 10,.int .u8 11,.int .u8 12,.int .u8 21,.int .u8 45] (aR B) (fun b11=>?_);refine cZ [] [] (PO pb sl a2) (Oi++(O1++O)) [] [] [] ⟨rfl,by rfl,trivial⟩ (r9 B pb sl a2 b11 7 (rs:=rs) (ks:=[8,9,10,11,12,21,45]) rfl (by decide)) ?_;rintro _ _ _ _ ⟨rfl,rfl,rfl,rfl⟩;rw[Mb];by_cases hsi:ea (rs.drop a2)=true
  ·rw[GW hsi]at hpi;have hBi:fT (rs.drop a2)=none→B:=fun h=>hBc (by rw[Oe,hpi,h]);refine bj [] 81 (ea (rs.drop a2)) hsi ?_;refine cZ [81] [] (PO pb sl a2) (Oi++(O1++O)) [] [] [] ⟨rfl,by rfl,trivial⟩ (Wu B pb sl a2 (rs:=rs) hlen hsi hBi) ?_;rintro _ _ _ _ ⟨x,f,p,a3,hx,rfl,rfl,rfl,rfl⟩;rw[hx]at hpi;refine cH [] 1 [aZ f,aZ p] (aR B) (fun b12=>?_);refine W.app [] (PO pb sl a3++(Oi++(O1++O))) (PO pb sl a3) Oi (O1++O) 2 48 ei.length 1 (aZ vi) (.slice (some ⟨b12,0,none⟩) 1 1) (ei.flatMap lZ.cells) [aZ f,aZ p] (aR B) (by simp) YV (bX b12 _ 1 2 rfl 1) (yl f p) (by omega) (by decide) (fun v' O' hg'=>?_);obtain⟨v',rfl⟩:=h_ hg';refine Vc [] _ _ ⟨a3,v',O',ei++[⟨f,p,x⟩]⟩ (by kernel_rfl) (by kernel_rfl) ⟨?_,cF.cast (by simp[lZ]) (by simp) hg',?_⟩ (ye hx) (eC eK (eC eK (eC eK (eC eK (eC (fun I w hd hh=>mS.snoc (R:=lZ) (e:=(⟨f,p,x⟩:mN)) (eK (k:=mS lZ (aZ vi)) I w hd hh) (eK (k:=mI f p) I w hd hh)) eE)))))
   ·rw[hi1,si _ _ _ hx];simp
   ·rw[hpi];simp only;cases fX (rs.drop a3).length (rs.drop a3)with
    |none=>rfl
    |some q=>simp
  ·rw[GX hsi]at hpi;simp only[ah]at hpi;refine aQ [] 81 (ea (rs.drop a2)) (by simpa using hsi) ?_;refine bZ [81] 0 pb 0 (aR B) ?_;refine cZ [] [] (PO pb sl a2) (Oi++(O1++O)) [] [] [] ⟨rfl,by rfl,trivial⟩ (mq B pb sl a2 7 (rs:=rs) (fun h=>hBc (by rw[Oe,hpi];simp only;rw[h]))) ?_;rintro _ _ _ _ ⟨r7,u7,hm7,rfl,rfl,rfl,rfl⟩;rw[hpi]at Oe;simp only at Oe;rw[hm7]at Oe;simp only at Oe;rw[Oe]at hp;simp only at hp;refine k8 (PO pb sl (a2+1)) Oi (O1++O) (by kernel_rfl) YV (fun g5 g3 g4=>?_);refine Rp (PO pb sl (a2+1)) O1 O rfl hg1 (fun g6 g1 g2=>?_);refine cH [] 1 [aZ v1,aZ vi] (aR B) (fun b13=>?_);refine W.app [] (PO pb sl (a2+1)++O) (PO pb sl (a2+1)) O [] 2 48 es.length 1 (aZ v) (.slice (some ⟨b13,0,none⟩) 1 1) (es.flatMap g8.cells) [aZ v1,aZ vi] (aR B) (by simp) hg (bX b13 _ 1 2 rfl 1) (yl v1 vi) (by omega) (by decide) (fun v' O' hg'=>?_);obtain⟨v',rfl⟩:=h_ hg';refine close [] _ _ ⟨a2+1,v',O',es++[⟨v1,vi,⟨eh.map dC.r,ei.map mN.x⟩⟩]⟩ (by kernel_rfl) (by simp only[ah];kernel_rfl) ⟨?_,cF.cast (by simp[g8]) (by simp) hg',?_⟩ (yd Oe) (eC eK (eC eK (eC (fun I w hd hh=>mS.snoc (R:=g8) (e:=(⟨v1,vi,⟨eh.map dC.r,ei.map mN.x⟩⟩:lj)) (eK (k:=mS g8 (aZ v)) I w hd hh) ⟨mA g6 g1 g2 (eK (k:=iO (aZ v1)) I w hd hh) (eK (k:=RA v1.ao) (a:=eh.flatMap dd.cells) I w hd hh),CP lZ mN.x g5 g3 g4 (eK (k:=mS lZ (aZ vi)) I w hd hh) (eK (k:=RA vi.ao) (a:=ei.flatMap lZ.cells) I w hd hh)⟩) eE)))
   ·rw[he,se _ _ _ Oe];simp
   ·rw[hp];cases fD (rs.drop (a2+1)).length (rs.drop (a2+1))with
    |none=>rfl
    |some q=>simp
 ·rw[GV D6]at hp hB0;refine aQ [] 72 (dK 5 (rs.drop a)) (by simpa using D6) ?_;refine bZ [72] 0 pb 0 (aR B) ?_;refine cZ [] [] (PO pb sl a) O [] [] [] ⟨rfl,by rfl,trivial⟩ (mq B pb sl a 4 (rs:=rs) hB0) ?_;rintro _ _ _ _ ⟨r,u,hm,rfl,rfl,rfl,rfl⟩;refine k8 (PO pb sl (a+1)) O [] (by rw[ah O];kernel_rfl) hg (fun g5 g1 g2=>?_);refine j1 [] (lY h v) (PO pb sl (a+1)) [] ⟨⟨hs,es.map lj.x⟩,h,v,a+1,?_,rfl,rfl,rfl,rfl⟩ (fun I w hd hh=>aS ⟨eK (k:=la h) I w hd hh,CP g8 lj.x g5 g1 g2 (eK (k:=mS g8 (aZ v)) I w hd hh) (eK (k:=RA v.ao) I w hd hh)⟩);unfold sk;rw[hf];simp only;rw[hp];simp only[ah];rw[hm]
theorem PN{l x m:List Re}(h:dj [0,1,313,314,315,2,287,288,291,290] l=some (x,m)):qx l=(match oB m with
  |some (y,m')=>(match gE 3 m' with
   |some (r,LC)=>some (x++(y++[r]),LC)
   |none=>none)
  |none=>none):=by
 unfold qx fF;rw[h];simp only;cases hq:oB m with
 |none=>rfl
 |some q=>
  obtain⟨y,m'⟩:=q;simp only;rw[eQ (by decide) (by decide)];cases gE 3 m' with
  |none=>rfl
  |some q=>rfl
structure UE where
 a:Nat
 v:Sl
 O:List (Nat×List Value)
 ms:List dC
theorem ZI(B:Prop)(pb:Nat)(sl:Sl)(at':Nat){rs:List Re} [h:aW (la sl) rs Γ](hlen:rs.length≤100000)(hB:sk (rs.drop at')=none→B):
  dB (su B) Tryz.prog 73 [fo pb] (PO pb sl at') [] Γ (Dy pb sl at' rs):=by
 have Vs:qx (rs.drop at')=none→B:=fun h=>hB (by unfold sk;rw[h]);refine dB.of_W (aR B) Tryz.func73 rfl ?_;refine cH [] 10 [.int .i64 0,.int .i64 1,.int .i64 313,.int .i64 314,.int .i64 315,.int .i64 2,.int .i64 287,.int .i64 288,.int .i64 291,.int .i64 290] (aR B) (fun b1=>?_);refine cZ [] [] (PO pb sl at') [] [] [] [] ⟨rfl,by rfl,trivial⟩ (mr B pb sl at' b1 10 (rs:=rs) (ks:=[0,1,313,314,315,2,287,288,291,290]) rfl (by decide) (fun h=>Vs (by unfold qx fF;rw[h]))) ?_;rintro _ _ _ _ ⟨e0,a0,O0,oH,ha0,hl0,rfl,hg0,rfl,rfl⟩;obtain⟨v0,rfl⟩:=h_ hg0;simp only[ah,az];have RQ:=PN oH;refine bZ [] 0 pb 0 (aR B) ?_;refine cH [] 1 [.int .u8 54] (aR B) (fun b3=>?_);refine cZ [] [] (PO pb sl a0) O0 [] [] [] ⟨rfl,by rfl,trivial⟩ (r9 B pb sl a0 b3 1 (rs:=rs) (ks:=[54]) rfl (by decide)) ?_;rintro _ _ _ _ ⟨rfl,rfl,rfl,rfl⟩;rw[uX];by_cases hs:dK 54 (rs.drop a0)=true
 ·refine bj [] 14 (dK 54 (rs.drop a0)) hs ?_;have sW:oB (rs.drop a0)=(match gE 54 (rs.drop a0)with
   |some (a,m)=>(match fO m.length m with
    |some (b,m')=>if b=[]then some ([a],m')else
     (match gE 56 m' with
      |some (e,LC)=>some (a::(b++[e]),LC)
      |none=>none)
    |none=>none)
   |none=>none):=by unfold oB;rw[if_pos hs];rfl
  refine bZ [14] 0 pb 0 (aR B) ?_;refine cZ [] [] (PO pb sl a0) O0 [] [] [] ⟨rfl,by rfl,trivial⟩ (mq B pb sl a0 54 (rs:=rs) (fun h=>Vs (by rw[RQ,sW,h]))) ?_;rintro _ _ _ _ ⟨Kn,Mg,abN,rfl,rfl,rfl,rfl⟩;rw[abN]at sW;simp only at sW;refine cH [] 1 [.int .u8 Kn.k,.int .u8 Kn.d,aZ Mg] (aR B) (fun b54=>?_);refine W.app [] (PO pb sl (a0+1)++O0) (PO pb sl (a0+1)) O0 [] 3 32 (e0.length) 1 (aZ v0) (.slice (some ⟨b54,0,none⟩) 1 1) (e0.flatMap dd.cells) [.int .u8 Kn.k,.int .u8 Kn.d,aZ Mg] (aR B) (by simp) hg0 (bX b54 _ 1 3 rfl 1) (by simp[Value.oneCell']) (by omega) (by decide) (fun v1 O1 g1=>?_);obtain⟨v1,rfl⟩:=h_ g1;refine bZ [] 0 pb 0 (aR B) ?_;refine bZ [] 1 pb (0+0) (aR B) ?_;refine dR [] (PO pb sl (a0+1)++O1++[]) pb (0+0+1) 1 [aZ sl,.int .i64 ((a0+1:Nat):Int)] (.int .i64 ((a0+1:Nat):Int)) (aR B) (by simp) rfl ?_;refine gV [] [] (fun _:UE=>[]) (fun q=>[(3,[aZ q.v,.slice none 0 0])]) (fun q=>PO pb sl q.a++q.O) (fun q=>[la sl rs,iO (aZ q.v) (e0++[(⟨Mg,Kn⟩:dC)]++q.ms)]) (fun q=>q.a=a0+1+q.ms.length∧rs.drop (a0+1)=q.ms.map dC.r++rs.drop q.a∧cF 3 q.O (aZ q.v) (e0.length+1+q.ms.length) ((e0++[(⟨Mg,Kn⟩:dC)]++q.ms).flatMap dd.cells)∧fO (rs.drop (a0+1)).length (rs.drop (a0+1))=(match fO (rs.drop q.a).length (rs.drop q.a)with
   |some (b,m)=>some (q.ms.map dC.r++b,m)
   |none=>none)) (fun q=>(rs.drop q.a).length) ⟨a0+1,v1,O1,[]⟩ (h0:=(by simp only[ah];kernel_rfl)) ⟨rfl,rfl,cF.cast (by simp[dd]) rfl g1,by
    simp only[dk,az];cases fO (rs.drop (a0+1)).length (rs.drop (a0+1))<;>rfl⟩ (eC eK (eC (fun I w hd hh=>by
   simp only[ah];exact iO.app (v:=aZ v1) (eK (k:=iO (aZ v0)) I w hd hh) (iO.one (v:=aZ v0) (eK (k:=xG Mg) I w hd hh))) eE)) ?_
  rintro⟨a,v,O,ms⟩ K ⟨QT,hqd,hg,TS⟩ Vd;simp only at QT hqd hg TS;have hml:ms.length≤100000:=by
   have:=dH List.length hqd;simp at this;omega
  refine bZ [] 0 pb 0 (aR B) ?_;refine cH [] 1 [.int .u8 55] (aR B) (fun b9=>?_);refine cZ [] [] (PO pb sl a) O [] [] [] ⟨rfl,by rfl,trivial⟩ (r9 B pb sl a b9 1 (rs:=rs) (ks:=[55]) rfl (by decide)) ?_;rintro _ _ _ _ ⟨rfl,rfl,rfl,rfl⟩;rw[uX];by_cases hs5:dK 55 (rs.drop a)=true
  ·rw[GY hs5]at TS;refine bj [] 33 (dK 55 (rs.drop a)) hs5 ?_;refine bZ [33] 0 pb 0 (aR B) ?_;refine cZ [] [] (PO pb sl a) O [] [] [] ⟨rfl,by rfl,trivial⟩ (mq B pb sl a 55 (rs:=rs) (fun h=>Vs (by rw[RQ,sW,TS,h]))) ?_;rintro _ _ _ _ ⟨r5,u5,hm5,rfl,rfl,rfl,rfl⟩;rw[hm5]at TS;refine cH [] 1 [.int .u8 r5.k,.int .u8 r5.d,aZ u5] (aR B) (fun b5=>?_);refine W.app [] (PO pb sl (a+1)++O) (PO pb sl (a+1)) O [] 3 32 (e0.length+1+ms.length) 1 (aZ v) (.slice (some ⟨b5,0,none⟩) 1 1) ((e0++[(⟨Mg,Kn⟩:dC)]++ms).flatMap dd.cells) [.int .u8 r5.k,.int .u8 r5.d,aZ u5] (aR B) (by simp) hg (bX b5 _ 1 3 rfl 1) (by simp[Value.oneCell']) (by omega) (by decide) (fun v2 O2 g2=>?_);obtain⟨v2,rfl⟩:=h_ g2;refine Vd [] _ _ ⟨a+1,v2,O2,ms++[⟨u5,r5⟩]⟩ (by kernel_rfl) (by simp only[ah];kernel_rfl) ⟨by simp only[aA,aC,a_];omega,?_,cF.cast (by simp[dd]) (by simp;try omega) g2,?_⟩ (C_ hm5) (eC eK (eC (fun I w hd hh=>by
    simp only[←aV];exact iO.app (v:=aZ v2) (eK (k:=iO (aZ v)) I w hd hh) (iO.one (v:=aZ v0) (eK (k:=xG u5) I w hd hh))) eE))
   ·rw[hqd,(fE hm5).1];simp
   ·rw[TS];simp only;cases fO (rs.drop (a+1)).length (rs.drop (a+1))with
    |none=>rfl
    |some q=>simp
  ·rw[GZ hs5]at TS;simp only[ah]at TS;rw[TS]at sW;simp only at sW;refine aQ [] 33 (dK 55 (rs.drop a)) (by simpa using hs5) ?_;refine bZ [33] 0 pb 0 (aR B) ?_;refine bZ [] 1 pb (0+0) (aR B) ?_;refine dR [] (PO pb sl a++O) pb (0+0+1) 1 [aZ sl,.int .i64 (a:Int)] (.int .i64 (a:Int)) (aR B) (by simp) rfl ?_;cases ms with
   |nil=>
    simp only[dk,e8]at sW;have haa:a=a0+1:=by simpa using QT
    refine aQ [] 49 (decide ((a:Int)>((a0+1:Nat):Int))) (aj (by omega)) ?_;have NU:gE 3 (rs.drop a)=none→B:=fun h=>Vs (by rw[RQ,sW];simp only;rw[h]);refine bZ [49] 0 pb 0 (aR B) ?_;refine cZ [] [] (PO pb sl a) O [] [] [] ⟨rfl,by rfl,trivial⟩ (eo:=(by simp only[ah];kernel_rfl)) (mq B pb sl a 3 (rs:=rs) NU) ?_;rintro _ _ _ _ ⟨r3,u3,hm3,rfl,rfl,rfl,rfl⟩;refine cH [] 1 [.int .u8 r3.k,.int .u8 r3.d,aZ u3] (aR B) (fun HR=>?_);refine W.app [] (PO pb sl (a+1)++O) (PO pb sl (a+1)) O [] 3 32 (e0.length+1+([]:List dC).length) 1 (aZ v) (.slice (some ⟨HR,0,none⟩) 1 1) ((e0++[(⟨Mg,Kn⟩:dC)]++[]).flatMap dd.cells) [.int .u8 r3.k,.int .u8 r3.d,aZ u3] (aR B) (by simp) hg (bX HR _ 1 3 rfl 1) (by simp[Value.oneCell']) (by omega) (by decide) (fun vz Oz gz=>?_);obtain⟨vz,rfl⟩:=h_ gz;refine k8 (PO pb sl (a+1)) Oz [] (by kernel_rfl) gz (fun YE YC YD=>?_);have hf:qx (rs.drop at')=some (((e0++[(⟨Mg,Kn⟩:dC)]++[])++[(⟨u3,r3⟩:dC)]).map dC.r,rs.drop (a+1)):=by rw[RQ,sW];simp only;rw[hm3];simp
    refine j0 [] Tryz.f73 1 104 104 [0,2,3] [2,3] (Xz pb) (XA vz) (Yq pb sl) (fun _=>[]) (Yn sl rs vz (((e0++[(⟨Mg,Kn⟩:dC)]++[])++[(⟨u3,r3⟩:dC)]).map dC.r)) (Yo rs (a+1)) (Yp rs) ⟨a+1,⟨none,0,0⟩,[],[]⟩ ⟨rfl,cF.nil 2,by
      simp only[dk,az];cases fD (rs.drop (a+1)).length (rs.drop (a+1))<;>rfl⟩ (eC eK (eC (fun I w hd hh=>mA (v:=aZ v0) (YE.trans (by simp;try omega)) YC YD (iO.app (v:=aZ v0) (eK (k:=iO (aZ v)) I w hd hh) (iO.one (v:=aZ v0) (eK (k:=xG u3) I w hd hh))) (by
      have:=eK (k:=RA vz.ao) I w hd hh;simpa [dd]using this)) (eC (fun I w hd hh e he=>by simp at he) eE))) ?_
    exact fun q R hq close=>AS B pb sl vz at' (a+1) hlen hf hB q R hq close
   |cons x ms=>
    rw[if_neg (by simp)]at sW;refine bj [] 49 (decide ((a:Int)>((a0+1:Nat):Int))) (au (by simp at QT;omega)) ?_;refine bZ [49] 0 pb 0 (aR B) ?_;refine cZ [] [] (PO pb sl a) O [] [] [] ⟨rfl,by rfl,trivial⟩ (mq B pb sl a 56 (rs:=rs) (fun h=>Vs (by rw[RQ,sW,h]))) ?_;rintro _ _ _ _ ⟨r6,u6,hm6,rfl,rfl,rfl,rfl⟩;rw[hm6]at sW;simp only at sW;refine cH [] 1 [.int .u8 r6.k,.int .u8 r6.d,aZ u6] (aR B) (fun b6=>?_);refine W.app [] (PO pb sl (a+1)++O) (PO pb sl (a+1)) O [] 3 32 (e0.length+1+(x::ms).length) 1 (aZ v) (.slice (some ⟨b6,0,none⟩) 1 1) ((e0++[(⟨Mg,Kn⟩:dC)]++(x::ms)).flatMap dd.cells) [.int .u8 r6.k,.int .u8 r6.d,aZ u6] (aR B) (by simp) hg (bX b6 _ 1 3 rfl 1) (by simp[Value.oneCell']) (by omega) (by decide) (fun v6 O6 g6=>?_);obtain⟨v6,rfl⟩:=h_ g6;have NU:gE 3 (rs.drop (a+1))=none→B:=fun h=>Vs (by rw[RQ,sW];simp only;rw[h]);refine bZ [] 0 pb 0 (aR B) ?_;refine cZ [] [] (PO pb sl (a+1)) O6 [] [] [] ⟨rfl,by rfl,trivial⟩ (eo:=(by simp only[ah];kernel_rfl)) (mq B pb sl (a+1) 3 (rs:=rs) NU) ?_;rintro _ _ _ _ ⟨r3,u3,hm3,rfl,rfl,rfl,rfl⟩;refine cH [] 1 [.int .u8 r3.k,.int .u8 r3.d,aZ u3] (aR B) (fun HR=>?_);refine W.app [] (PO pb sl ((a+1)+1)++O6) (PO pb sl ((a+1)+1)) O6 [] 3 32 (e0.length+1+(x::ms).length+1) 1 (aZ v6) (.slice (some ⟨HR,0,none⟩) 1 1) (((e0++[(⟨Mg,Kn⟩:dC)]++(x::ms)).flatMap dd.cells)++[.int .u8 r6.k,.int .u8 r6.d,aZ u6]) [.int .u8 r3.k,.int .u8 r3.d,aZ u3] (aR B) (by simp) g6 (bX HR _ 1 3 rfl 1) (by simp[Value.oneCell']) (by omega) (by decide) (fun vz Oz gz=>?_)
    obtain⟨vz,rfl⟩:=h_ gz;refine k8 (PO pb sl ((a+1)+1)) Oz [] (by kernel_rfl) gz (fun YE YC YD=>?_);have hf:qx (rs.drop at')=some ((((e0++[(⟨Mg,Kn⟩:dC)]++(x::ms))++[(⟨u6,r6⟩:dC)])++[(⟨u3,r3⟩:dC)]).map dC.r,rs.drop ((a+1)+1)):=by rw[RQ,sW];simp only;rw[hm3];simp
    refine j0 [] Tryz.f73 1 104 104 [0,2,3] [2,3] (Xz pb) (XA vz) (Yq pb sl) (fun _=>[]) (Yn sl rs vz ((((e0++[(⟨Mg,Kn⟩:dC)]++(x::ms))++[(⟨u6,r6⟩:dC)])++[(⟨u3,r3⟩:dC)]).map dC.r)) (Yo rs ((a+1)+1)) (Yp rs) ⟨(a+1)+1,⟨none,0,0⟩,[],[]⟩ ⟨rfl,cF.nil 2,by
      simp only[dk,az];cases fD (rs.drop ((a+1)+1)).length (rs.drop ((a+1)+1))<;>rfl⟩ (eC eK (eC (fun I w hd hh=>mA (v:=aZ v0) (YE.trans (by simp;try omega)) YC YD (iO.app (v:=aZ v0) (iO.app (v:=aZ v0) (eK (k:=iO (aZ v)) I w hd hh) (iO.one (v:=aZ v0) (eK (k:=xG u6) I w hd hh))) (iO.one (v:=aZ v0) (eK (k:=xG u3) I w hd hh))) (by
      have:=eK (k:=RA vz.ao) I w hd hh;simpa [dd]using this)) (eC (fun I w hd hh e he=>by simp at he) eE))) ?_
    exact fun q R hq close=>AS B pb sl vz at' ((a+1)+1) hlen hf hB q R hq close
 ·have sW:oB (rs.drop a0)=some ([],rs.drop a0):=by unfold oB;rw[if_neg hs]
  refine aQ [] 14 (dK 54 (rs.drop a0)) (by simpa using hs) ?_;have NU:gE 3 (rs.drop a0)=none→B:=fun h=>Vs (by rw[RQ,sW];simp only;rw[h]);refine bZ [14] 0 pb 0 (aR B) ?_;refine cZ [] [] (PO pb sl a0) O0 [] [] [] ⟨rfl,by rfl,trivial⟩ (eo:=(by simp only[ah];kernel_rfl)) (mq B pb sl a0 3 (rs:=rs) NU) ?_;rintro _ _ _ _ ⟨r3,u3,hm3,rfl,rfl,rfl,rfl⟩;refine cH [] 1 [.int .u8 r3.k,.int .u8 r3.d,aZ u3] (aR B) (fun HR=>?_);refine W.app [] (PO pb sl (a0+1)++O0) (PO pb sl (a0+1)) O0 [] 3 32 (e0.length) 1 (aZ v0) (.slice (some ⟨HR,0,none⟩) 1 1) (e0.flatMap dd.cells) [.int .u8 r3.k,.int .u8 r3.d,aZ u3] (aR B) (by simp) hg0 (bX HR _ 1 3 rfl 1) (by simp[Value.oneCell']) (by omega) (by decide) (fun vz Oz gz=>?_);obtain⟨vz,rfl⟩:=h_ gz;refine k8 (PO pb sl (a0+1)) Oz [] (by kernel_rfl) gz (fun YE YC YD=>?_);have hf:qx (rs.drop at')=some ((e0++[(⟨u3,r3⟩:dC)]).map dC.r,rs.drop (a0+1)):=by rw[RQ,sW];simp only;rw[hm3];simp
  refine j0 [] Tryz.f73 1 104 104 [0,2,3] [2,3] (Xz pb) (XA vz) (Yq pb sl) (fun _=>[]) (Yn sl rs vz ((e0++[(⟨u3,r3⟩:dC)]).map dC.r)) (Yo rs (a0+1)) (Yp rs) ⟨a0+1,⟨none,0,0⟩,[],[]⟩ ⟨rfl,cF.nil 2,by
    simp only[dk,az];cases fD (rs.drop (a0+1)).length (rs.drop (a0+1))<;>rfl⟩ (eC eK (eC (fun I w hd hh=>mA (v:=aZ v0) (YE.trans (by simp;try omega)) YC YD (iO.app (v:=aZ v0) (eK (k:=iO (aZ v0)) I w hd hh) (iO.one (v:=aZ v0) (eK (k:=xG u3) I w hd hh))) (by
    have:=eK (k:=RA vz.ao) I w hd hh;simpa [dd]using this)) (eC (fun I w hd hh e he=>by simp at he) eE))) ?_
  exact fun q R hq close=>AS B pb sl vz at' (a0+1) hlen hf hB q R hq close
end
def qP(z:Nat)(O:List (Nat×List Value))(v:Value)(n:Nat)(xs:List Value):Prop:=cF z O v n xs∨(O=[]∧n=0∧xs=[]∧∃b off,v=.slice (some ⟨b,off,none⟩) 0 0)
theorem qP.cast{z:Nat}{O:List (Nat×List Value)}{v:Value}{n n':Nat}{xs Z6:List Value}(hx:xs=Z6)(hn:n=n')(h:qP z O v n xs):qP z O v n' Z6:=by
 subst hx hn;exact h
section
variable{T:Tb}{P:Program}{fin:VS→List aD→Prop}{c:fG}{Γ:List aD}
theorem vK(D:List Nat)(O:List (Nat×List Value))(z bytes n m:Nat)(v x:Value)(xs news:List Value)(hT:T.Ok P)
   (hg:qP z O v n xs)(hx:p5 T Γ O x m z news)(h1:∀u∈news,u.oneCell'=true)
  (hn:n+m≤1000000)(hb:bytes≤100000000)
  (hk:∀v' O',qP z O' v' (n+m) (xs++news)→W T P fin (mz (aL T (bh T D 999 c)) O' v') Γ)(h:oK T (aL T (bh T D 999 c))=some (O,z,bytes,v,x):=by kernel_rfl):W T P fin c Γ:=by
 rcases hg with hg|⟨rfl,rfl,rfl,b,off,rfl⟩
 ·refine W.app D O [] O [] z bytes n m v x xs news hT (h:=h) (by simp) hg hx h1 hn hb (fun v' O' hg'=>?_);have:=hk v' O' (.inl hg');rw[az,ah];exact this
 ·refine MJ D [] z bytes m b off x news hT h hx (by omega) hb (fun h0=>?_) (fun g cap cur hp h2 h3 h4 h5=>?_)
  ·subst h0;obtain⟨ao,cc,_,hl,_⟩:=hx;have:news=[]:=aN (by simpa using hl);subst this;exact hk _ _ (.inr ⟨rfl,rfl,rfl,b,off,rfl⟩)
  ·obtain⟨ao,cc,_,hl,_⟩:=hx;refine hk _ _ (.inl ⟨by rw[az,hl,bQ],.inr ⟨g,cap,cur,by rw[bQ],rfl,by omega,h3,h4,by rw[az,bQ];exact h5⟩⟩)
theorem UQ{z n:Nat}(O:List (Nat×List Value)){v:Value}{xs:List Value}(hg:qP z O v n xs)
  (hk:∀s:Sl,v=aZ s→s.n=n→s.n≤s.c→s.c≤maxLen→W T P fin ⟨(dN T 999 c).s.setOwn [],(dN T 999 c).k⟩ (RA s.ao xs::Γ))(ho:(dN T 999 c).s.own=O:=by kernel_rfl)(hm:dD (dN T 999 c).k=false:=by kernel_rfl):W T P fin c Γ:=by
 rcases hg with hg|⟨rfl,rfl,rfl,b,off,rfl⟩
 ·refine nj [] O [] (by rw[ah];exact ho) hg (hm:=hm) (fun ao c' hv h1 h2=>?_);exact hk ⟨ao,n,c'⟩ hv rfl h1 h2
 ·refine W.code 999 ?_;generalize(dN T 999 c)=c1 at*;obtain⟨s,k⟩:=c1;refine W.elim (α:=Unit) (fun _=>True) (fun _=>[RA (some ⟨b,off,none⟩) []]) hm (fun I w _ hh=>⟨(),trivial,aS (RA.nil _ _ _)⟩) (fun _ _=>?_);have:=hk ⟨some ⟨b,off,none⟩,0,0⟩ rfl rfl (ak _) (aJ _);have ho:s.own=[]:=ho;rw[show s.setOwn []=s from by rw[←ho];rfl]at this;exact this
theorem qE(O:List (Nat×List Value))(hk:W T P fin ⟨(dN T 999 c).s.setOwn O,(dN T 999 c).k⟩ Γ)(ho:(dN T 999 c).s.own=O++[]:=by kernel_rfl):W T P fin c Γ:=by
 refine W.code 999 ?_;rw[ah]at ho;rw[←ho]at hk;exact hk
theorem Ji(s:Sl){l:List Re} [h:aW (la s) l Γ](hm:dD c.k=false)(hc:∀es:List dC,es.map dC.r=l→s.n=es.length→(0<s.n→∃b off,s.ao=some ⟨b,off,none⟩)→W T P fin c (RA s.ao (es.flatMap dd.cells)::iO (aZ s) es::Γ)):W T P fin c Γ:=
 W.elim (α:=List dC) (fun es=>es.map dC.r=l∧s.n=es.length∧(0<s.n→∃b off,s.ao=some ⟨b,off,none⟩)) (fun es=>[RA s.ao (es.flatMap dd.cells),iO (aZ s) es]) hm (fun I w _ hh=>by
  obtain⟨es,rfl,h2,_,h4,h5⟩:=h.p hh;rw[bI]at h2;refine⟨es,⟨rfl,h2,fun hp=>?_⟩,aG.cons h5 (aS h4)⟩;obtain⟨b,off,ha,_⟩:=h5 (by
   cases es with
   |nil=>simp at h2;omega
   |cons e r=>simp[dd])
  exact⟨b,off,ha⟩) (fun es hq=>hc es hq.1 hq.2.1 hq.2.2)
theorem xr(s:Sl){es:List dC} [h:aW (RA s.ao) (es.flatMap dd.cells) Γ](own:List (Nat×List Value))(hn:s.n=es.length)(ha:0<s.n→∃b off,s.ao=some ⟨b,off,none⟩):p5 T Γ own (aZ s) s.n 3 (es.flatMap dd.cells):=
 xq s.ao own s.n 3 s.c (by rw[SG,hn]) ha
theorem EB{k:Int}(hk:k=17∨k=7∨k=4)(I:fQ)(w:World):(xG ⟨none,0,0⟩ (gx k)).p I w:=by
 refine⟨?_,⟨Int.le_refl _,(by decide:(0:Int)<256)⟩,rH _ _ _⟩;rcases hk with rfl|rfl|rfl<;>exact⟨by decide,by decide⟩
end
theorem DR(k:Int):∀u∈([.int .u8 k,.int .u8 0,.slice none 0 0]:List Value),u.oneCell'=true:=by
 intro u hu;simp only[aF,aE,bL]at hu;rcases hu with rfl|rfl|rfl<;>rfl
theorem RH(t:Li){i:Nat}{c:Ce}(h:t.c[i]? =some c):(t.h++(t.c.take i).flatMap fS++fS c).length≤(g9 t).length:=by
 obtain⟨h1,h2⟩:=List.getElem?_eq_some_iff.1 h;have e:t.c=t.c.take i++c::t.c.drop (i+1):=by
  rw[←h2,←bC h1,jY]
 have e2:g9 t=t.h++((t.c.take i++c::t.c.drop (i+1)).flatMap fS++[gx 4]):=by rw[←e];rfl
 rw[e2];simp only[bp,bz,aA];omega
theorem NN(c:Ce){i:Nat}{x:Im}(h:c.i[i]? =some x):(c.h++(c.i.take i).flatMap fH++fH x).length≤(fS c).length:=by
 obtain⟨h1,h2⟩:=List.getElem?_eq_some_iff.1 h;have e:c.i=c.i.take i++x::c.i.drop (i+1):=by
  rw[←h2,←bC h1,jY]
 have e2:fS c=c.h++((c.i.take i++x::c.i.drop (i+1)).flatMap fH++[gx 7]):=by rw[←e];rfl
 rw[e2];simp only[bp,bz,aA];omega
theorem fw{α:Type}{l:List α}{i:Nat}{a:α}(h:l[i]? =some a):l.take (i+1)=l.take i++[a]:=by
 rw[List.take_add_one,h];rfl
structure XN where
 i:Nat
 z:Int
 v:Value
 O:List (Nat×List Value)
 es:List dC
section
variable{Γ:List aD}
theorem Pk(s:Sl){l:List Re} [h:aW (la s) l Γ](hl:l.length≤1000000):
  kt tb Tryz.prog 74 [aZ s] Γ (fun v O Δ=>∃es:List dC,es.map dC.r=l∧qP 3 O v es.length (es.flatMap dd.cells)∧Δ=[iO v es]):=by
 refine kt.of_W aB Tryz.func74 rfl ?_;refine Ji s rfl (fun es he hn ha=>?_);have hlen:es.length≤1000000:=by rw[←he,bI]at hl;exact hl
 refine MS [] s.ao 22 45 Tryz.underlying22 ?_;refine W.d [] 4 s.ao.isNone (fun h0=>?_) (fun h0=>?_)
 ·have hb:es=[]:=Classical.byContradiction fun hne=>by
   obtain⟨bb,off,e⟩:=ha (by rw[hn];exact List.length_pos_iff.2 hne);rw[e]at h0;simp at h0
  subst hb;exact Ya [4] (.slice none 0 0) [] ⟨[],he,.inl (cF.nil 3),rfl⟩ (eC (fun I w hd hh e he=>by simp at he) eE)
 ·refine Jg [4] aB (fun b1=>?_);refine vK [] [] 3 32 0 s.n (.slice (some ⟨b1,0,none⟩) 0 0) (aZ s) [] (es.flatMap dd.cells) aB (.inr ⟨rfl,rfl,rfl,b1,0,rfl⟩) (xr s [] hn ha) (js es) (by omega) (by decide) (fun v' O' hg'=>?_);exact Ya [] v' O' ⟨es,he,hg'.cast (by simp) (by omega),rfl⟩ (eC (fun I w hd hh=>eK (k:=iO (aZ s)) I w hd hh) eE)
theorem Wt(h c:Sl){t:Li} [hF:aW (yA h c) t Γ](hl:(g9 t).length≤100000):
  aw tb Tryz.prog 42 [lY h c] Γ (fun v Δ=>∃u:Sl,v=aZ u∧Δ=[la u (g9 t)]):=by
 have hh0:t.h.length≤1000000:=by
  have:(g9 t).length=t.h.length+((t.c.flatMap fS).length+1):=by simp[g9]
  omega
 refine aw.of_W aB Tryz.func42 rfl ?_;obtain⟨ca,cn,cc⟩:=c;refine W.more (Δ:=[la h t.h]) rfl (fun I w _ hh=>aS (hF.p hh).1) ?_;refine W.more (Δ:=[lH ⟨ca,cn,cc⟩ t.c]) rfl (fun I w _ hh=>aS (aW.p (k:=yA h ⟨ca,cn,cc⟩) (a:=t) inferInstance hh).2) ?_;refine W.len g8 lj.x ⟨ca,cn,cc⟩ rfl (fun h1 h2 h3=>?_);simp only at h1 h2 h3;refine XZ [] (Pk h (l:=t.h) hh0) ?_;rintro v0 O0 _ ⟨e0,Vy,hg0,rfl⟩;refine qE O0 ?_;refine gV [] [3,14] (fun a:XN=>[(3,a.v),(14,.int .i64 a.z)]) (fun _=>[]) (fun a=>a.O) (fun a=>[lH ⟨ca,cn,cc⟩ t.c,iO a.v a.es]) (fun a=>a.z=a.i∧a.i≤cn∧a.es.map dC.r=t.h++(t.c.take a.i).flatMap fS∧qP 3 a.O a.v a.es.length (a.es.flatMap dd.cells)) (fun a=>cn-a.i) ⟨0,0,v0,O0,e0⟩ ⟨rfl,aJ _,by simp[Vy],hg0⟩ (eC eK (eC eK eE)) ?_;rintro⟨i,z,v,O,es⟩ K ⟨hz,hi,he,hg⟩ close;simp only at hz hi he hg;have hel:es.length=(t.h++(t.c.take i).flatMap fS).length:=by rw[←he,bI]
 by_cases hlt:i<cn
 ·obtain⟨x,hx⟩:∃x,t.c[i]? =some x:=⟨_,ai (by omega)⟩;have hb:=RH t hx;rw[aA,←hel]at hb;refine sI ⟨ca,cn,cc⟩ hx (fun b off fh fi ha=>?_);simp only at ha;subst ha;refine W.more (Δ:=[la fh x.h]) rfl (fun I w _ hh=>aS (aW.p (k:=yz fh fi) (a:=x) inferInstance hh).1) ?_;refine W.more (Δ:=[pS fi x.i]) rfl (fun I w _ hh=>aS (aW.p (k:=yz fh fi) (a:=x) inferInstance hh).2) ?_;obtain⟨ia,im,ic⟩:=fi;refine W.len lZ mN.x ⟨ia,im,ic⟩ rfl (fun i1 i2 i3=>?_);simp only at i1 i2 i3;refine Ji fh rfl (fun eh hhe hhn hha=>?_);have Ou:(fS x).length=eh.length+((x.i.flatMap fH).length+1):=by rw[fS,aA,aA,←hhe,bI];rfl
  refine bj [] 15 (decide (z<(cn:Int))) (au (by omega)) ?_;refine bW [15] 2 b off cn cc .i64 i z hz aB hlt ?_;refine cV [] b (off+i*2) [aZ fh,.slice ia im ic] aB (cA b (off+i*2)) ?_;refine vK [] O 3 32 es.length fh.n v (aZ fh) (es.flatMap dd.cells) (eh.flatMap dd.cells) aB hg (xr fh O hhn hha) (js eh) (by omega) (by decide) (fun v1 O1 hg1=>?_);refine gV [] [3,25] (fun a:XN=>[(3,a.v),(25,.int .i64 a.z)]) (fun _=>[]) (fun a=>a.O) (fun a=>[lH ⟨some ⟨b,off,none⟩,cn,cc⟩ t.c,pS ⟨ia,im,ic⟩ x.i,iO a.v a.es]) (fun a=>a.z=a.i∧a.i≤im∧a.es.map dC.r=t.h++(t.c.take i).flatMap fS++(x.h++(x.i.take a.i).flatMap fH)∧qP 3 a.O a.v a.es.length (a.es.flatMap dd.cells)) (fun a=>im-a.i) ⟨0,0,v1,O1,es++eh⟩ ⟨rfl,aJ _,by simp[he,hhe],hg1.cast (by simp) (by simp[hhn])⟩ (eC eK (eC eK (eC (fun I w hd hh=>iO.app (v:=v1) (eK (k:=iO v) I w hd hh) (eK (k:=iO (aZ fh)) I w hd hh)) eE))) ?_;rintro⟨j,zj,vj,Oj,ej⟩ K2 ⟨XH,hj,NZ,hgj⟩ iB;simp only at XH hj NZ hgj;have abC:ej.length=es.length+(x.h++(x.i.take j).flatMap fH).length:=by rw[hel,←aA,←NZ,bI]
  by_cases Zb:j<im
  ·obtain⟨y,hy⟩:∃y,x.i[j]? =some y:=⟨_,ai (by omega)⟩;have FM:=NN x hy;rw[aA]at FM;refine wm ⟨ia,im,ic⟩ hy (fun b2 pD yf yp ha=>?_);simp only at ha;subst ha;refine W.more (Δ:=[la yf y.f]) rfl (fun I w _ hh=>aS (aW.p (k:=mI yf yp) (a:=y) inferInstance hh).1) ?_;refine W.more (Δ:=[la yp y.p]) rfl (fun I w _ hh=>aS (aW.p (k:=mI yf yp) (a:=y) inferInstance hh).2) ?_;refine Ji yf rfl (fun ef hfe hfn hfa=>?_);refine Ji yp rfl (fun ep QS hpn Zj=>?_);have hyl:(fH y).length=ef.length+(ep.length+1):=by rw[fH,aA,aA,←hfe,←QS,bI,bI];rfl
   refine bj [] 26 (decide (zj<(im:Int))) (au (by omega)) ?_;refine bW [26] 2 b2 pD im ic .i64 j zj XH aB Zb ?_;refine cV [] b2 (pD+j*2) [aZ yf,aZ yp] aB (cA b2 (pD+j*2)) ?_;refine vK [] Oj 3 32 ej.length yf.n vj (aZ yf) (ej.flatMap dd.cells) (ef.flatMap dd.cells) aB hgj (xr yf Oj hfn hfa) (js ef) (by omega) (by decide) (fun v2 O2 hg2=>?_);refine vK [] O2 3 32 (ej.length+yf.n) yp.n v2 (aZ yp) (ej.flatMap dd.cells++ef.flatMap dd.cells) (ep.flatMap dd.cells) aB hg2 (xr yp O2 hpn Zj) (js ep) (by omega) (by decide) (fun v3 O3 yM=>?_);refine cH [] 1 [.int .u8 17,.int .u8 0,.slice none 0 0] aB (fun b4=>?_);refine vK [] O3 3 32 (ej.length+yf.n+yp.n) 1 v3 (.slice (some ⟨b4,0,none⟩) 1 1) (ej.flatMap dd.cells++ef.flatMap dd.cells++ep.flatMap dd.cells) [.int .u8 17,.int .u8 0,.slice none 0 0] aB yM (bX b4 _ 1 3 rfl 1) (DR 17) (by omega) (by decide) (fun v4 O4 FP=>?_);refine iB [] _ _ ⟨j+1,IntKind.i64.wrap (zj+1),v4,O4,ej++(ef++(ep++[⟨⟨none,0,0⟩,gx 17⟩]))⟩ (by kernel_rfl) (by kernel_rfl) ⟨by simp only[af];omega,Zb,?_,FP.cast (by simp[dd,gx]) (by simp[hfn,hpn];omega)⟩ (by simp only;omega) (eC eK (eC eK (eC (fun I w hd hh=>iO.app (v1:=vj) (eK (k:=iO vj) I w hd hh) (iO.app (v:=vj) (eK (k:=iO (aZ yf)) I w hd hh) (iO.app (v:=vj) (eK (k:=iO (aZ yp)) I w hd hh) (iO.one (v:=vj) (EB (.inl rfl) I w))))) eE)))
   rw[fw hy];simp[NZ,hfe,QS,fH]
  ·have hjx:j=x.i.length:=by omega
   refine aQ [] 26 (decide (zj<(im:Int))) (aj (by omega)) ?_;refine cH [26] 1 [.int .u8 7,.int .u8 0,.slice none 0 0] aB (fun b4=>?_);refine vK [] Oj 3 32 ej.length 1 vj (.slice (some ⟨b4,0,none⟩) 1 1) (ej.flatMap dd.cells) [.int .u8 7,.int .u8 0,.slice none 0 0] aB hgj (bX b4 _ 1 3 rfl 1) (DR 7) (by
    rw[aU (l:=x.i) (by omega),aA,←hhe,bI]at abC;omega) (by decide) (fun v4 O4 FP=>?_)
   refine close [] _ _ ⟨i+1,IntKind.i64.wrap (z+1),v4,O4,ej++[⟨⟨none,0,0⟩,gx 7⟩]⟩ (by kernel_rfl) (by kernel_rfl) ⟨by simp only[af];omega,hlt,?_,FP.cast (by simp[dd,gx]) (by simp)⟩ (by simp only;omega) (eC eK (eC (fun I w hd hh=>iO.app (v1:=vj) (eK (k:=iO vj) I w hd hh) (iO.one (v:=vj) (EB (.inr (.inl rfl)) I w))) eE));rw[fw hx];rw[aU (l:=x.i) (by omega)]at NZ;simp[NZ,fS]
 ·have QQ:i=t.c.length:=by omega
  have hfl:(g9 t).length=es.length+1:=by
   rw[hel,aU (by omega)];simp[g9];omega
  refine aQ [] 15 (decide (z<(cn:Int))) (aj (by omega)) ?_;refine cH [15] 1 [.int .u8 4,.int .u8 0,.slice none 0 0] aB (fun b4=>?_);refine vK [] O 3 32 es.length 1 v (.slice (some ⟨b4,0,none⟩) 1 1) (es.flatMap dd.cells) [.int .u8 4,.int .u8 0,.slice none 0 0] aB hg (bX b4 _ 1 3 rfl 1) (DR 4) (by omega) (by decide) (fun v4 O4 FP=>?_);refine UQ O4 FP (fun u hv g5 g1 g2=>?_);subst hv;refine W.r [] (aZ u) ⟨u,rfl,rfl⟩ (eC (fun I w hd hh=>?_) eE);have e:g9 t=(es++[(⟨⟨none,0,0⟩,gx 4⟩:dC)]).map dC.r:=by
   rw[aU (by omega)]at he;simp[g9,he]
  rw[e];refine mA (v:=v) (es:=es++[(⟨⟨none,0,0⟩,gx 4⟩:dC)]) (by simp[g5]) g1 g2 (iO.app (v1:=v) (eK (k:=iO v) I w hd hh) (iO.one (v:=v) (EB (.inr (.inr rfl)) I w))) ?_;have:=eK (k:=RA u.ao) I w hd hh;simpa [dd,gx]using this
end
theorem AU:∀{l m:List Im},jS l m=true→l.length=m.length
 | [],[],_=>rfl
 |x::l,y::m,h=>by
  simp only[jS,aM]at h;simp[AU h.2]
 | [],_::_,h=>by simp[jS]at h
 |_::_,[],h=>by simp[jS]at h
theorem AT:∀{l m:List Ce},jR l m=true→l.length=m.length
 | [],[],_=>rfl
 |x::l,y::m,h=>by
  simp only[jR,aM]at h;simp[AT h.2]
 | [],_::_,h=>by simp[jR]at h
 |_::_,[],h=>by simp[jR]at h
theorem rW(n m:Nat):((n:Int)==(m:Int))=(n==m):=by
 by_cases h:n=m
 ·subst h;simp
 ·rw[beq_eq_false_iff_ne.2 h,beq_eq_false_iff_ne.2 (by omega)]
section
variable{Γ:List aD}
theorem Sq(a b c d:Sl){x y:Im} [h1:aW (mI a b) x Γ] [h2:aW (mI c d) y Γ]:aw tb Tryz.prog 78 [lY a b,lY c d] Γ (jq (.bool (wX x y))):=by
 refine aw.of_W aB Tryz.func78 rfl ?_;refine qD (a.n=x.f.length∧b.n=x.p.length∧c.n=y.f.length∧d.n=y.p.length) rfl (fun I w _ hh=>by
  obtain⟨⟨_,_,e1,_⟩,_,_,e2,_⟩:=h1.p hh;obtain⟨⟨_,_,e3,_⟩,_,_,e4,_⟩:=h2.p hh;exact⟨e1,e2,e3,e4⟩) (fun⟨e1,e2,e3,e4⟩=>?_)
 have hl:wX x y=((a.n==c.n)&&(b.n==d.n)):=by rw[e1,e2,e3,e4];rfl
 refine W.d [] 12 ((a.n:Int)==(c.n:Int)) (fun hb=>?_) (fun hb=>?_)
 ·exact W.r [12] (.bool ((b.n:Int)==(d.n:Int))) ⟨by rw[hl,←rW,hb,dA,rW],rfl⟩ bT
 ·exact W.r [12] (.bool false) ⟨by rw[hl,←rW,hb];rfl,rfl⟩ bT
theorem ZG(a b:Sl){l m:List Im} [h1:aW (pS a) l Γ] [h2:aW (pS b) m Γ]:aw tb Tryz.prog 77 [aZ a,aZ b,.func (.func 78) #[] #[]] Γ (jq (.bool (jS l m))):=by
 refine aw.of_W aB Tryz.func77 rfl ?_;obtain⟨aa,an,ac⟩:=a;obtain⟨ba,bn,bc⟩:=b;refine W.len lZ mN.x ⟨aa,an,ac⟩ rfl (fun g1 g2 g3=>?_);refine W.len lZ mN.x ⟨ba,bn,bc⟩ rfl (fun k1 k2 k3=>?_);simp only at g1 g2 g3 k1 k2 k3;by_cases hne:an=bn
 ·refine aQ [] 14 ((an:Int) != (bn:Int)) (by simp[hne]) ?_;refine zd [14] [6,17] (fun q:Nat×Int=>[(6,.bool false),(17,.int .i64 q.2)]) (fun _=>[]) (fun _=>[pS ⟨aa,an,ac⟩ l,pS ⟨ba,bn,bc⟩ m]) (fun q=>q.2=q.1∧q.1≤an∧jS (l.drop q.1) (m.drop q.1)=jS l m) (fun q=>an-q.1) (0,0) ⟨rfl,aJ _,rfl⟩ (eC eK (eC eK eE)) ?_;rintro⟨i,z⟩ K ⟨hz,hi,hall⟩ close;simp only at hz hi hall;by_cases hlt:i<an
  ·obtain⟨x,hx⟩:∃x,l[i]? =some x:=⟨_,ai (by omega)⟩;obtain⟨y,hy⟩:∃y,m[i]? =some y:=⟨_,ai (by omega)⟩;rw[ir hx,ir hy,jS]at hall;refine wm ⟨aa,an,ac⟩ hx (fun b1 o1 f1 p1 ha=>?_);refine wm ⟨ba,bn,bc⟩ hy (fun b2 o2 f2 p2 hb=>?_);simp only at ha hb;subst ha hb;refine bj [] 18 (decide (z<(an:Int))) (au (by omega)) ?_;refine bW [18] 2 b1 o1 an ac .i64 i z hz aB hlt ?_;refine cV [] b1 (o1+i*2) [aZ f1,aZ p1] aB (cA b1 (o1+i*2)) ?_;refine bW [] 2 b2 o2 bn bc .i64 i z hz aB (by omega) ?_;refine cV [] b2 (o2+i*2) [aZ f2,aZ p2] aB (cA b2 (o2+i*2)) ?_;refine aq [] (Sq f1 p1 f2 p2 (x:=x) (y:=y)) ?_;rintro _ _ ⟨rfl,rfl⟩;refine W.d [] 30 (!wX x y) (fun hb=>?_) (fun hb=>?_)
   ·exact W.r [30] (.bool false) ⟨by rw[←hall,(by simpa using hb:wX x y=false)];rfl,rfl⟩ bT
   ·refine close [30] _ _ (i+1,IntKind.i64.wrap (z+1)) (by kernel_rfl) (by kernel_rfl) ⟨by simp only[af];omega,hlt,?_⟩ (by simp only;omega) (eC eK (eC eK eE));rw[←hall,(by simpa using hb:wX x y=true),dA]
  ·refine aQ [] 18 (decide (z<(an:Int))) (aj (by omega)) ?_;refine W.r [18] (.bool true) ⟨?_,rfl⟩ bT;rw[←hall,bu (by omega),bu (by omega)];rfl
 ·refine bj [] 14 ((an:Int) != (bn:Int)) (bne_iff_ne.2 (fun h=>hne (by omega))) ?_;refine W.r [14] (.bool false) ⟨?_,rfl⟩ bT;cases hq:jS l m with
  |false=>rfl
  |true=>exact absurd (by rw[g1,k1];exact AU hq) hne
theorem Sp(a b c d:Sl){x y:Ce} [h1:aW (yz a b) x Γ] [h2:aW (yz c d) y Γ]:aw tb Tryz.prog 76 [lY a b,lY c d] Γ (jq (.bool (wW x y))):=by
 refine aw.of_W aB Tryz.func76 rfl ?_;refine qD (a.n=x.h.length∧c.n=y.h.length) rfl (fun I w _ hh=>by
  obtain⟨⟨_,_,e1,_⟩,_⟩:=h1.p hh;obtain⟨⟨_,_,e3,_⟩,_⟩:=h2.p hh;exact⟨e1,e3⟩) (fun⟨e1,e3⟩=>?_)
 have hl:wW x y=((a.n==c.n)&&(jS x.i y.i)):=by rw[e1,e3];rfl
 refine W.more (Δ:=[pS b x.i]) rfl (fun I w _ hh=>aS (aW.p (k:=yz a b) (a:=x) inferInstance hh).2) ?_;refine W.more (Δ:=[pS d y.i]) rfl (fun I w _ hh=>aS (aW.p (k:=yz c d) (a:=y) inferInstance hh).2) ?_;refine W.d [] 12 ((a.n:Int)==(c.n:Int)) (fun hb=>?_) (fun hb=>?_)
 ·refine aq [12] (ZG b d (l:=x.i) (m:=y.i)) ?_;rintro _ _ ⟨rfl,rfl⟩;exact W.r [12] (.bool (jS x.i y.i)) ⟨by rw[hl,←rW,hb,dA],rfl⟩ bT
 ·exact W.r [12] (.bool false) ⟨by rw[hl,←rW,hb];rfl,rfl⟩ bT
theorem ZD(a b:Sl){l m:List Ce} [h1:aW (lH a) l Γ] [h2:aW (lH b) m Γ]:aw tb Tryz.prog 75 [aZ a,aZ b,.func (.func 76) #[] #[]] Γ (jq (.bool (jR l m))):=by
 refine aw.of_W aB Tryz.func75 rfl ?_;obtain⟨aa,an,ac⟩:=a;obtain⟨ba,bn,bc⟩:=b;refine W.len g8 lj.x ⟨aa,an,ac⟩ rfl (fun g1 g2 g3=>?_);refine W.len g8 lj.x ⟨ba,bn,bc⟩ rfl (fun k1 k2 k3=>?_);simp only at g1 g2 g3 k1 k2 k3;by_cases hne:an=bn
 ·refine aQ [] 14 ((an:Int) != (bn:Int)) (by simp[hne]) ?_;refine zd [14] [6,17] (fun q:Nat×Int=>[(6,.bool false),(17,.int .i64 q.2)]) (fun _=>[]) (fun _=>[lH ⟨aa,an,ac⟩ l,lH ⟨ba,bn,bc⟩ m]) (fun q=>q.2=q.1∧q.1≤an∧jR (l.drop q.1) (m.drop q.1)=jR l m) (fun q=>an-q.1) (0,0) ⟨rfl,aJ _,rfl⟩ (eC eK (eC eK eE)) ?_;rintro⟨i,z⟩ K ⟨hz,hi,hall⟩ close;simp only at hz hi hall;by_cases hlt:i<an
  ·obtain⟨x,hx⟩:∃x,l[i]? =some x:=⟨_,ai (by omega)⟩;obtain⟨y,hy⟩:∃y,m[i]? =some y:=⟨_,ai (by omega)⟩;rw[ir hx,ir hy,jR]at hall;refine sI ⟨aa,an,ac⟩ hx (fun b1 o1 f1 p1 ha=>?_);refine sI ⟨ba,bn,bc⟩ hy (fun b2 o2 f2 p2 hb=>?_);simp only at ha hb;subst ha hb;refine bj [] 18 (decide (z<(an:Int))) (au (by omega)) ?_;refine bW [18] 2 b1 o1 an ac .i64 i z hz aB hlt ?_;refine cV [] b1 (o1+i*2) [aZ f1,aZ p1] aB (cA b1 (o1+i*2)) ?_;refine bW [] 2 b2 o2 bn bc .i64 i z hz aB (by omega) ?_;refine cV [] b2 (o2+i*2) [aZ f2,aZ p2] aB (cA b2 (o2+i*2)) ?_;refine aq [] (Sp f1 p1 f2 p2 (x:=x) (y:=y)) ?_;rintro _ _ ⟨rfl,rfl⟩;refine W.d [] 30 (!wW x y) (fun hb=>?_) (fun hb=>?_)
   ·exact W.r [30] (.bool false) ⟨by rw[←hall,(by simpa using hb:wW x y=false)];rfl,rfl⟩ bT
   ·refine close [30] _ _ (i+1,IntKind.i64.wrap (z+1)) (by kernel_rfl) (by kernel_rfl) ⟨by simp only[af];omega,hlt,?_⟩ (by simp only;omega) (eC eK (eC eK eE));rw[←hall,(by simpa using hb:wW x y=true),dA]
  ·refine aQ [] 18 (decide (z<(an:Int))) (aj (by omega)) ?_;refine W.r [18] (.bool true) ⟨?_,rfl⟩ bT;rw[←hall,bu (by omega),bu (by omega)];rfl
 ·refine bj [] 14 ((an:Int) != (bn:Int)) (bne_iff_ne.2 (fun h=>hne (by omega))) ?_;refine W.r [14] (.bool false) ⟨?_,rfl⟩ bT;cases hq:jR l m with
  |false=>rfl
  |true=>exact absurd (by rw[g1,k1];exact AT hq) hne
theorem Ww(a b c d:Sl){x y:Li} [h1:aW (yA a b) x Γ] [h2:aW (yA c d) y Γ]:aw tb Tryz.prog 43 [lY a b,lY c d] Γ (jq (.bool (Gd x y))):=by
 refine aw.of_W aB Tryz.func43 rfl ?_;refine qD (a.n=x.h.length∧c.n=y.h.length) rfl (fun I w _ hh=>by
  obtain⟨⟨_,_,e1,_⟩,_⟩:=h1.p hh;obtain⟨⟨_,_,e3,_⟩,_⟩:=h2.p hh;exact⟨e1,e3⟩) (fun⟨e1,e3⟩=>?_)
 have hl:Gd x y=((a.n==c.n)&&(jR x.c y.c)):=by rw[e1,e3];rfl
 refine W.more (Δ:=[lH b x.c]) rfl (fun I w _ hh=>aS (aW.p (k:=yA a b) (a:=x) inferInstance hh).2) ?_;refine W.more (Δ:=[lH d y.c]) rfl (fun I w _ hh=>aS (aW.p (k:=yA c d) (a:=y) inferInstance hh).2) ?_;refine W.d [] 12 ((a.n:Int)==(c.n:Int)) (fun hb=>?_) (fun hb=>?_)
 ·refine aq [12] (ZD b d (l:=x.c) (m:=y.c)) ?_;rintro _ _ ⟨rfl,rfl⟩;exact W.r [12] (.bool (jR x.c y.c)) ⟨by rw[hl,←rW,hb,dA],rfl⟩ bT
 ·exact W.r [12] (.bool false) ⟨by rw[hl,←rW,hb];rfl,rfl⟩ bT
end
theorem Sc(w:World):(binOp BinOp.neq 20 .nilIface .nilIface).run Tryz.prog w=.ok (.bool false) w:=by kernel_rfl
theorem HZ(p q:Addr)(w:World):
  CallsD Tryz.prog 72 #[.pointer (some p),.pointer (some q)] .returning w fun e u' w'=>e=.returned (.tuple #[])∧u'=.returning∧w'=w:=by
 refine callsD_of_wpS Tryz.func72 rfl fun c₀ cs hu=>?_;apply wpS_seq;apply wpS_region;simp[wpOpsS,go_sem,recoverD,hu,Exit.thenS];apply wpS_seq;apply wpS_region;simp[wpOpsS,go_sem,Exit.thenS,Sc];refine wpS_cond (t:=false) (by simp[Act.eval,Array.replicate]) ?_;simp only[iv,d_];refine wpS_of_wp (wp_skip ?_);cases c₀
 simp_all [bodyPostS,results]
theorem LK(w:World):(binOp BinOp.neq 20 (.iface 149 (.agg #[])) .nilIface).run Tryz.prog w=.ok (.bool true) w:=by kernel_rfl
theorem Qp(w:World):(Instr.typeAssert (.iface 149 (.agg #[])) 20 149 true).run Tryz.prog w=.ok (.tuple #[.agg #[],.bool true]) w:=by kernel_rfl
theorem ji{w:World}{b o:Nat}{v:Value}{c:Array Value}{e:TypeId}(h:w.heap[b]? =some (.cells c e (0,0))):(w.setCell ⟨b,o,none⟩ v).heap[b]? =some (.cells (c.setIfInBounds o v) e (0,0)):=by
 simp[World.setCell,jX,h]
theorem eN{w:World}{b o k:Nat}{v:Value}(h:k≠b):(w.setCell ⟨b,o,none⟩ v).heap[k]? =w.heap[k]? :=by
 simp only[World.setCell,jX];rw[if_neg (fun e=>h e.symm)]
theorem oF{w:World}{b o:Nat}{c:Array Value}{e:TypeId}(h:w.heap[b]? =some (.cells c e (0,0))):w.cell? ⟨b,o,none⟩=c[o]? :=by simp[World.cell?,h]
theorem uI{w:World}{b o:Nat}{c:Array Value}{e:TypeId}(h:w.heap[b]? =some (.cells c e (0,0))):w.frozen? ⟨b,o,none⟩=false:=by simp[World.frozen?,h]
theorem kI{w:World}{x:Obj}{k:Nat}{y:Obj}(h:w.heap[k]? =some y):(w.alloc x).heap[k]? =some y:=by
 have:=(Array.getElem?_eq_some_iff.1 h).1;simp only[World.alloc];rw[Array.getElem?_push_lt this,←h];exact(Array.getElem?_eq_getElem this).symm
def uC(tb eb:Nat)(w:World):World:=((((w.alloc (.cells #[] 149)).setCell ⟨tb,0,none⟩ (.slice none 0 0)).setCell ⟨tb,1,none⟩ (.slice none 0 0)).setCell ⟨eb,0,none⟩ (.int .i64 20))
theorem Fw(tb eb:Nat)(w:World)(x y z:Value)(et ee:TypeId)(h1:w.heap[tb]? =some (.cells #[x,y] et (0,0)))(h2:w.heap[eb]? =some (.cells #[z] ee (0,0)))(hne:tb≠eb):
  CallsD Tryz.prog 72 #[.pointer (some ⟨tb,0,none⟩),.pointer (some ⟨eb,0,none⟩)] (.panicking [{v:=.iface 149 (.agg #[]),recovered:=false}]) w fun e u' w'=>e=.returned (.tuple #[])∧u'=.panicking [{v:=.iface 149 (.agg #[]),recovered:=true}]∧w'=uC tb eb w:=by
 have a1:=kI (x:=.cells #[] 149) h1;have a2:=kI (x:=.cells #[] 149) h2;have b1:=ji (o:=0) (v:=.slice none 0 0) a1;have b2:((w.alloc (.cells #[] 149)).setCell ⟨tb,0,none⟩ (.slice none 0 0)).heap[eb]? =_:=(eN (fun e=>hne e.symm)).trans a2;have d2:(((w.alloc (.cells #[] 149)).setCell ⟨tb,0,none⟩ (.slice none 0 0)).setCell ⟨tb,1,none⟩ (.slice none 0 0)).heap[eb]? =_:=(eN (fun e=>hne e.symm)).trans b2;have c1:=oF (o:=0) a1;have z1:=uI (o:=0) a1;have c2:=oF (o:=1) b1;have z2:=uI (o:=1) b1;have c3:=oF (o:=0) d2;have z3:=uI (o:=0) d2;refine callsD_of_wpS Tryz.func72 rfl fun c₀ cs hu=>?_;apply wpS_seq;apply wpS_region;simp[wpOpsS,go_sem,recoverD,hu,Exit.thenS];apply wpS_seq;apply wpS_region;simp[wpOpsS,go_sem,Exit.thenS,LK];refine wpS_cond (t:=true) (by simp[Act.eval,Array.replicate]) ?_;simp only[e8];apply wpS_seq;apply wpS_seq;apply wpS_region;simp[wpOpsS,go_sem,Exit.thenS,Qp,storeCells];apply wpS_seq;apply wpS_region;simp[wpOpsS,go_sem,Exit.thenS];refine wpS_cond (t:=false) (by simp[Act.eval,Array.replicate]) ?_;simp only[iv,d_];refine wpS_of_wp (wp_skip ?_);simp only[Exit.thenS];apply wpS_region;simp[wpOpsS,go_sem,Exit.thenS,c1,z1,c2,z2,c3,z3];simp[bodyPostS,results,uC]
theorem S5{T:Tb}{P:Program}{rc:Code}{tm:List Value}{nb:Nat}{Oin:List (Nat×List Value)}{I:fQ}{w:World}{ds:List Deferred}{fin:VS→List aD→Prop}{Q:Exit→Act→World→Prop}{Γ:List aD}(hT:T.Ok P)(hQ:∀l a w,¬Q (.goto l) a w)
  (hfin:∀s Γ a w' ρ,fin s Γ→gZ T w ⟨I,gI Oin [],ds⟩ Γ s a w' ρ→Q .normal a w'∧Q .ret a w')
  (vv:∀ch a w',T.pan ch→a.defers=ds→j9 (gI Oin []) w w'→(∃ks own,T.held ks own∧gn T own w'∧∀x∈ks,a.tmps.getD x.1 undef=x.2)→Q (.panic ch) a w')
  (hW:W T P fin ⟨⟨tm.map .val,List.replicate nb none,Oin,[]⟩,[.code rc]⟩ Γ)(hd:br T I w)(hh:aG Γ I w)(ho:gn T Oin w)(hon:(Oin.map (·.1)).Nodup)(hx:∀b,gI Oin [] b→¬I b):
  rc.wp P Q {tmps:=tm.toArray,defers:=ds} w:=by
 have tL:∀(t:Nat) (cs:List Value),(List.replicate nb (none:Option (List Value)))[t]? =some (some cs)→False:=by
  intro t cs ht;rw[cX]at ht;split at ht<;>simp at ht
 have hs0:gZ T w ⟨I,gI Oin [],ds⟩ Γ ⟨tm.map .val,List.replicate nb none,Oin,[]⟩ {tmps:=tm.toArray,defers:=ds} w (fun _=>0):=by
  refine⟨rfl,by simp,fun i sv hi=>?_,j9.refl _ _,fun t cs ht=>(tL t cs ht).elim,fun t u cs cs' ht=>(tL t cs ht).elim,fun i t off hi=>?_,hd,hh.up (fun b hb hI=>⟨fun _=>.inl hI,fun t cs ht=>(tL t cs ht).elim,fun cs hc=>hx b (.inl ⟨cs,hc⟩) hI,fun m hm=>absurd hm (by simp)⟩) (fun _ _ _=>rfl) (ak _),ho,fun b cs hb=>.inr (.inl ⟨cs,hb⟩),fun b cs hb t cs' ht=>(tL t cs' ht).elim,hon,fun b m hb=>absurd hb (by simp),fun b m hb=>absurd hb (by simp),by simp⟩
  ·simp only[bK]at hi;cases hv:tm[i]? with
   |none=>rw[hv]at hi;simp at hi
   |some v=>
    rw[hv]at hi;simp only[c_,ar]at hi;subst hi;simp[rel,dE,hv]
  ·simp only[bK]at hi;cases hv:tm[i]? with
   |none=>rw[hv]at hi;simp at hi
   |some v=>rw[hv]at hi;simp at hi
 have:=hW.sound (w0:=w) (I0:=⟨I,gI Oin [],ds⟩) (Q:=Q) hT hQ hfin vv rfl;rw[dz rfl]at this;exact this _ w _ hs0
theorem tI{P:Program}{ops:Array Oper}{Q:Exit→Act→World→Prop}{i:Nat}{rest:List Nat}{o:Oper}{a:Act}{v:Value}{w w':World}(hi:ops[i]? =some o)(hg:o.guard=none)(hr:(execOp a.eval o).run P w=.ok (.value v) w')(hk:wpOps P ops Q rest (a.put o.dst v) w'):wpOps P ops Q (i::rest) a w:=by
 rw[wpOps_cons];unfold wpOp;rw[hi];simp only;rw[show Region.wanted o (yielded ops a.tmps)=true from by unfold Region.wanted;rw[hg],if_pos rfl];left;unfold Oper.wp;rw[hr];exact hk
theorem Vr{P:Program}{ops:Array Oper}{Q:Exit→Act→World→Prop}{i:Nat}{rest:List Nat}{o:Oper}{a:Act}{d:Deferred}{w w':World}(hi:ops[i]? =some o)(hg:o.guard=none)(hk:wpOps P ops Q rest ({a with defers:=d::a.defers}.put o.dst undef) w')(hr:(execOp a.eval o).run P w=.ok (.defer d) w':=by kernel_rfl):wpOps P ops Q (i::rest) a w:=by
 rw[wpOps_cons];unfold wpOp;rw[hi];simp only;rw[show Region.wanted o (yielded ops a.tmps)=true from by unfold Region.wanted;rw[hg],if_pos rfl];left;unfold Oper.wp;rw[hr];exact hk
section
variable{T:Tb}{P:Program}{fin:VS→List aD→Prop}{c:fG}{Γ:List aD}
theorem aaH(D:List Nat)(hk:fin ((jb (aL T (bh T D 999 c))).getD ⟨[],[],[],[]⟩) Γ)(h:(jb (aL T (bh T D 999 c))).isSome=true:=by kernel_rfl):W T P fin c Γ:=by
 refine eD D 999 ?_;generalize bh T D 999 c=c1 at*;cases he:aL T c1<;>rw[he]at h hk<;>simp[jb]at h hk;exact W.ret he hk
theorem UN(D:List Nat)(n:Nat)(v:Value)(ks:List (Nat×Value))(own:List (Nat×List Value))(hp:T.pan [{v,recovered:=false}])(hh:T.held ks own)(hk:∀x∈ks,lK x.1 (WN (bh T D n c))=false∧(bh T D n c).s.tmps[x.1]? =some (.val x.2))(h:xi T (bh T D n c)=some v:=by kernel_rfl)(ho:(bh T D n c).s.own=own:=by kernel_rfl):W T P fin c Γ:=
 W.pan D n v (h:=h) hp ⟨ks,by rw[ho];exact hh,hk⟩
end
def Dx(rs:List Re)(v:Value)(Δ:List aD):Prop:=
 (∃(t:Li) (h c:Sl),sk rs=some (t,[])∧v=.tuple #[lY h c,.int .i64 0]∧Δ=[yA h c t])∨((∀t,sk rs≠some (t,[]))∧v=.tuple #[lY ⟨none,0,0⟩ ⟨none,0,0⟩,.int .i64 20]∧Δ=[])
abbrev Z0(B:Prop)(tv ev:Nat):Tb:={su B with pins:=[2,3],held:=fun ks own=>ks=[(2,fo tv),(3,fo ev)]∧(∃x y,(tv,[x,y])∈own)∧∃z,(ev,[z])∈own}
theorem y8(B:Prop)(tv ev:Nat):(Z0 B tv ev).Ok Tryz.prog:=⟨aB.mixed,aB.ty⟩
theorem dB.q{B:Prop}{tv ev:Nat}{f:FuncId}{args:List Value}{Oin:List (Nat×List Value)}{Min:List (Nat×List (Value×Value))}{Γ:List aD}{post:Value→List (Nat×List Value)→List (Nat×List (Value×Value))→List aD→Prop}(h:dB (su B) Tryz.prog f args Oin Min Γ post):dB (Z0 B tv ev) Tryz.prog f args Oin Min Γ post:=h
def I1(fn:Func):Code:=match fn.body with
 |some (.seq _ (.seq _ c))=>c
 |_=>.skip
def UC(rs:List Re)(tv ev:Nat)(s:VS)(Γ:List aD):Prop:=
 ∃(t:Li) (h c:Sl),sk rs=some (t,[])∧s.tmps[2]? =some (.val (fo tv))∧s.tmps[3]? =some (.val (fo ev))∧(tv,[aZ h,aZ c])∈s.own∧(ev,[.int .i64 0])∈s.own∧∀I w,br (Z0 True tv ev) I w→aG Γ I w→aG [yA h c t] I w
theorem IT(s:Sl){rs:List Re}{Γ:List aD} [h:aW (la s) rs Γ](hlen:rs.length≤100000)(tv ev:Nat)(fv:Value):
  W (Z0 (∀t,sk rs≠some (t,[])) tv ev) Tryz.prog (UC rs tv ev) ⟨⟨([aZ s,undef,fo tv,fo ev,undef,fv]++List.replicate 17 undef).map .val,List.replicate 23 none,[(tv,[.slice none 0 0,.slice none 0 0]),(ev,[.int .i64 0])],[]⟩,[.code (I1 Tryz.f41)]⟩ Γ:=by
 have hd0:rs.drop 0=rs:=rfl;refine W.len dd dC.r s rfl (fun n1 n2 n3=>?_);refine vn 9 (fun pb=>?_);refine ML [] [] (PO pb s 0) [(tv,[.slice none 0 0,.slice none 0 0]),(ev,[.int .i64 0])] [] [] [] ⟨rfl,by rfl⟩ ⟨[(2,fo tv),(3,fo ev)],⟨rfl,⟨_,_,.head _⟩,_,.tail _ (.head _)⟩,fun x hx=>by
  simp only[aF,aE,bL]at hx;rcases hx with rfl|rfl
  ·exact⟨rfl,by kernel_rfl⟩
  ·exact⟨rfl,by kernel_rfl⟩⟩ (by kernel_rfl) (by kernel_rfl) (by kernel_rfl) (ZI (∀t,sk rs≠some (t,[])) pb s 0 (rs:=rs) hlen (fun hno t=>by rw[hd0]at hno;rw[hno];simp)).q ?_
 rintro _ _ _ _ ⟨t,hs,cs,at2,hp,rfl,rfl,rfl,rfl⟩;rw[hd0]at hp;refine nD [] ([]++(PO pb s at2++[(tv,[.slice none 0 0,.slice none 0 0]),(ev,[.int .i64 0])])) (PO pb s at2) [(ev,[.int .i64 0])] 2 tv 0 [.slice none 0 0,.slice none 0 0] (lY hs cs) [aZ hs,aZ cs] (y8 _ tv ev) rfl rfl (by intro u hu;simp[Value.cells]at hu;rcases hu with rfl|rfl<;>rfl) (ak 2) rfl ?_;refine bZ [] 0 pb 0 (y8 _ tv ev) ?_;refine bZ [] 1 pb (0+0) (y8 _ tv ev) ?_;refine dR [] (PO pb s at2++(tv,[aZ hs,aZ cs])::[(ev,[.int .i64 0])]) pb (0+0+1) 1 [aZ s,.int .i64 (at2:Int)] (.int .i64 (at2:Int)) (y8 _ tv ev) (.head _) rfl ?_;by_cases hlt:at2<s.n
 ·have hne:∀t,sk rs≠some (t,[]):=fun t' e=>by
   rw[hp]at e;injection e with e;injection e with _ e;have:=dH List.length e;simp at this;omega
  refine bj [] 19 (decide ((at2:Int)<(s.n:Int))) (au (by omega)) ?_;exact UN [19] 1 yy [(2,fo tv),(3,fo ev)] (PO pb s at2++(tv,[aZ hs,aZ cs])::[(ev,[.int .i64 0])]) ⟨hne,rfl⟩ ⟨rfl,⟨aZ hs,aZ cs,by simp⟩,.int .i64 0,by simp⟩ (fun x hx=>by
   simp only[aF,aE,bL]at hx;rcases hx with rfl|rfl
   ·exact⟨by kernel_rfl,by kernel_rfl⟩
   ·exact⟨by kernel_rfl,by kernel_rfl⟩)
 ·have hnil:rs.drop at2=[]:=bu (by omega);rw[hnil]at hp;refine aQ [] 19 (decide ((at2:Int)<(s.n:Int))) (aj (by omega)) ?_;refine wu [19] (PO pb s at2++(tv,[aZ hs,aZ cs])::[(ev,[.int .i64 0])]) tv 0 2 [aZ hs,aZ cs] [aZ hs,aZ cs] (y8 _ tv ev) (by simp) rfl rfl ?_;refine nD [] (PO pb s at2++(tv,[aZ hs,aZ cs])::[(ev,[.int .i64 0])]) (PO pb s at2) [(ev,[.int .i64 0])] 2 tv 0 [aZ hs,aZ cs] (lY hs cs) [aZ hs,aZ cs] (y8 _ tv ev) rfl rfl (by intro u hu;simp[Value.cells]at hu;rcases hu with rfl|rfl<;>rfl) (ak 2) rfl ?_;refine nD [] (PO pb s at2++(tv,[aZ hs,aZ cs])::[(ev,[.int .i64 0])]) (PO pb s at2++[(tv,[aZ hs,aZ cs])]) [] 1 ev 0 [.int .i64 0] (.int .i64 0) [.int .i64 0] (y8 _ tv ev) rfl rfl (JZ _ _) (ak 1) rfl ?_;have lU:∀(own:List (Nat×List Value)),own=PO pb s at2++[(tv,[aZ hs,aZ cs])]++(ev,[.int .i64 0])::[]→(tv,[aZ hs,aZ cs])∈own∧(ev,[.int .i64 0])∈own:=fun own e=>by
   subst e;exact⟨by simp,by simp⟩
  refine aaH [] ⟨t,hs,cs,hp,by kernel_rfl,by kernel_rfl,(lU _ (by kernel_rfl)).1,(lU _ (by kernel_rfl)).2,fun I w hd hh=>eC eK eE I w hd hh⟩
theorem B7:Tryz.f41.results= #[.cell 2 25,.cell 3 33]:=by kernel_rfl
theorem jx{w:World}{x:Obj}{k:Nat}(h:k<w.heap.size):(w.alloc x).heap[k]? =w.heap[k]? :=by
 simp only[World.alloc];rw[Array.getElem?_push_lt h];exact(Array.getElem?_eq_getElem h).symm
theorem nc(w:World)(x:Obj):(w.alloc x).heap[w.heap.size]? =some x:=by
 simp only[World.alloc];exact Array.getElem?_push_size
theorem Bi{tm:Array Value}{tv ev:Nat}{w:World}{x y z:Value}{et ee:TypeId}(h2:tm.getD 2 undef=fo tv)(h3:tm.getD 3 undef=fo ev)(g1:w.heap[tv]? =some (.cells #[x,y] et (0,0)))(g2:w.heap[ev]? =some (.cells #[z] ee (0,0))):(results Tryz.f41 tm).run Tryz.prog w=.ok (.tuple #[.agg #[x,y],z]) w:=by
 have c1:w.cell? ⟨tv,0,none⟩=some x:=oF (o:=0) g1;have c2:w.cell? ⟨tv,1,none⟩=some y:=oF (o:=1) g1;have c3:w.cell? ⟨ev,0,none⟩=some z:=oF (o:=0) g2;rw[dE]at h2 h3;unfold results;rw[B7];simp[go_sem,h2,h3,c1,c2,c3]
section
variable{Γ:List aD}
theorem Pn(s:Sl){rs:List Re} [h:aW (la s) rs Γ](hlen:rs.length≤100000):aw tb Tryz.prog 41 [aZ s] Γ (Dx rs):=by
 refine⟨⟨_,Tryz.func41,by kernel_rfl,by kernel_rfl⟩,fun I w hd hh=>?_⟩;obtain⟨w1,hw1⟩:∃w1,w1=w.alloc (.cells #[.slice none 0 0,.slice none 0 0] 25):=⟨_,rfl⟩;obtain⟨w2,hw2⟩:∃w2,w2=w1.alloc (.cells #[.int .i64 0] 33):=⟨_,rfl⟩;obtain⟨tv,htv⟩:∃tv,tv=w.heap.size:=⟨_,rfl⟩;obtain⟨ev,hev⟩:∃ev,ev=w1.heap.size:=⟨_,rfl⟩;have hs1:w1.heap.size=w.heap.size+1:=by rw[hw1];simp
 have hs2:w2.heap.size=w.heap.size+2:=by rw[hw2,World.size_alloc,hs1]
 have hne:tv≠ev:=by omega
 have g1:w2.heap[tv]? =some (.cells #[.slice none 0 0,.slice none 0 0] 25 (0,0)):=by
  rw[hw2,jx (by omega),hw1,htv];exact nc _ _
 have g2:w2.heap[ev]? =some (.cells #[.int .i64 0] 33 (0,0)):=by
  rw[hw2,hev];exact nc _ _
 have hold:∀k,k<w.heap.size→w2.heap[k]? =w.heap[k]? :=fun k hk=>by
  rw[hw2,jx (by omega),hw1,jx hk]
 have YI:∀{w':World},w'.os=w2.os→w'.tape=w2.tape→w'.output=w2.output→w2.heap.size≤w'.heap.size→(∀k,k<w2.heap.size→k≠tv→k≠ev→w'.heap[k]? =w2.heap[k]?)→Below w.heap.size w w':=fun{w'} a1 a2 a3 a4 a5=>
  ⟨by rw[a1,hw2,hw1];rfl,by rw[a2,hw2,hw1];rfl,by rw[a3,hw2,hw1];rfl,by omega,fun k hk=>by rw[a5 k (by omega) (by omega) (by omega),hold k hk]⟩
 have hX:∀b,gI [(tv,[.slice none 0 0,.slice none 0 0]),(ev,[.int .i64 0])] [] b↔(b=tv∨b=ev):=fun b=>by
  unfold gI;constructor
  ·rintro(⟨cs,hc⟩|⟨m,hm⟩)
   ·simp only[aF,aH,aE,bL]at hc;rcases hc with h|h
    ·exact .inl h.1
    ·exact .inr h.1
   ·simp at hm
  ·rintro(rfl|rfl)
   ·exact .inl ⟨_,.head _⟩
   ·exact .inl ⟨_,.tail _ (.head _)⟩
 refine calls_of_wp_defers Tryz.func41 rfl ?_;have key:(I1 Tryz.f41).wp Tryz.prog (bodyPostD Tryz.prog Tryz.f41 (fun e w'=>∃v Δ,e=.returned v∧Dx rs v Δ∧Below w.heap.size w w'∧aG Δ (fun b=>b<w.heap.size→I b) w')) {tmps:=([aZ s,undef,fo tv,fo ev,undef,.func (.func 72) #[] #[fo tv,fo ev]]++List.replicate 17 undef).toArray,defers:=[{target:=.fn (.func 72) #[fo tv,fo ev],args:= #[]}]} w2:=by
  refine S5 (T:=Z0 (∀t,sk rs≠some (t,[])) tv ev) (y8 _ tv ev) (fun l a w h=>h) ?_ ?_ (IT s (rs:=rs) hlen tv ev _) (I:=fun b=>b<w.heap.size∧I b) ?_ (hh.up (fun _ hb h=>⟨hb,h⟩) (fun b hb _=>hold b hb) (by omega)) ?_ ?_ ?_
  ·rintro s' Γ' a w' ρ ⟨t,h',c',hp,t2,t3,o1,o2,hf⟩ hs;have r2:a.tmps.getD 2 undef=fo tv:=hs.tmps 2 _ t2;have r3:a.tmps.getD 3 undef=fo ev:=hs.tmps 3 _ t3;obtain⟨e1,_,q1⟩:=hs.own _ _ o1;obtain⟨e2,_,q2⟩:=hs.own _ _ o2;have hL:Leaves Tryz.prog Tryz.f41 a.tmps (fun e w'=>∃v Δ,e=.returned v∧Dx rs v Δ∧Below w.heap.size w w'∧aG Δ (fun b=>b<w.heap.size→I b) w') a.defers .returning w':=by
    rw[hs.defers];refine leaves_cons (f:=72) (args:= #[fo tv,fo ev]) (by simp) (by simp[go_sem]) ?_;refine(HZ ⟨tv,0,none⟩ ⟨ev,0,none⟩ w').mono ?_;rintro e u' w'' ⟨rfl,rfl,rfl⟩;refine⟨_,Bi r2 r3 q1 q2,_,[yA h' c' t],rfl,.inl ⟨t,h',c',hp,rfl,rfl⟩,YI hs.below.os hs.below.tape hs.below.output hs.below.size (fun k k1 k2 k3=>hs.below.block k k1 (fun hx=>((hX k).1 hx).elim k2 k3)),?_⟩;refine(hf _ _ hs.dataOK hs.facts).up (fun b _ hI hb=>?_) (fun _ _ _=>rfl) (ak _);rcases hI.1 (by omega)with h|h
    ·exact h.2
    ·rcases(hX b).1 h with h|h<;>omega
   exact⟨hL,hL⟩
  ·rintro ch a w' ⟨hB,rfl⟩ abx hk ⟨ks,own,⟨rfl,⟨x,y,m1⟩,z,m2⟩,hown,htm⟩;have r2:a.tmps.getD 2 undef=fo tv:=htm (2,fo tv) (.head _);have r3:a.tmps.getD 3 undef=fo ev:=htm (3,fo ev) (.tail _ (.head _));obtain⟨e1,_,q1⟩:=hown _ _ m1;obtain⟨e2,_,q2⟩:=hown _ _ m2;show Leaves Tryz.prog Tryz.f41 a.tmps _ a.defers _ w';rw[abx];refine leaves_cons (f:=72) (args:= #[fo tv,fo ev]) (by simp) (by simp[go_sem]) ?_;refine(Fw tv ev w' x y z e1 e2 q1 q2 hne).mono ?_;rintro e u' w'' ⟨rfl,rfl,rfl⟩;have a1:=kI (x:=.cells #[] 149) q1;have a2:=kI (x:=.cells #[] 149) q2;have b1:=ji (o:=1) (v:=.slice none 0 0) (ji (o:=0) (v:=.slice none 0 0) a1);have d1:(uC tv ev w').heap[tv]? =some (.cells #[.slice none 0 0,.slice none 0 0] e1 (0,0)):=(eN hne).trans b1;have d2:(uC tv ev w').heap[ev]? =some (.cells #[.int .i64 20] e2 (0,0)):=ji ((eN (fun e=>hne e.symm)).trans ((eN (fun e=>hne e.symm)).trans a2));refine⟨_,Bi r2 r3 d1 d2,_,[],rfl,.inr ⟨hB,rfl,rfl⟩,YI hk.os hk.tape hk.output (by simp only[uC,p7,World.size_alloc];have:=hk.size;omega) (fun k k1 k2 k3=>?_),aG.nil _ _⟩;unfold uC;rw[eN k3,eN k2,eN k2,jx (by have:=hk.size;omega)];exact hk.block k k1 (fun hx=>((hX k).1 hx).elim k2 k3)
  ·intro b cs e f hb he;by_cases h0:b<w.heap.size
   ·rw[hold b h0]at hb;exact⟨h0,hd b cs e f hb he⟩
   ·by_cases h1:b=tv
    ·rw[h1,g1]at hb;injection hb with hb;injection hb with _ hb _;subst hb;exact absurd (show tb.dat 25=true from he) (by decide+kernel)
    ·by_cases h2:b=ev
     ·rw[h2,g2]at hb;injection hb with hb;injection hb with _ hb _;subst hb;exact absurd (show tb.dat 33=true from he) (by decide+kernel)
     ·have:=cu hb;omega
  ·intro b cs hb;simp only[aF,aH,aE,bL]at hb;rcases hb with⟨rfl,rfl⟩|⟨rfl,rfl⟩
   ·exact⟨_,(by decide+kernel:tb.dat 25=false),g1⟩
   ·exact⟨_,(by decide+kernel:tb.dat 33=false),g2⟩
  ·simp[hne]
  ·intro b hb hI;rcases(hX b).1 hb with h|h<;>(have:=hI.1;omega)
 refine wp_seq (wp_region ?_);show wpOps Tryz.prog _ _ [0,1] _ _;refine tI (v:=fo tv) (w':=w1) rfl rfl (by rw[htv,hw1];kernel_rfl) ?_;refine tI (v:=fo ev) (w':=w2) rfl rfl (by rw[hev,hw2];kernel_rfl) ?_;refine wp_seq (wp_region ?_);show wpOps Tryz.prog _ _ [0,1] _ _;refine tI (v:=.func (.func 72) #[] #[fo tv,fo ev]) (w':=w2) rfl rfl (by kernel_rfl) ?_;refine Vr (d:={target:=.fn (.func 72) #[fo tv,fo ev],args:= #[]}) (w':=w2) rfl rfl ?_;refine Eq.mp ?_ key;kernel_rfl
end
section
variable{Γ:List aD}
theorem SB(h c:Sl){t:Li} [hF:aW (yA h c) t Γ](hl:(g9 t).length≤100000):aw tb Tryz.prog 27 [lY h c] Γ (jq (.bool (jo t))):=by
 refine aw.of_W aB Tryz.func27 rfl ?_;refine aq [] (Wt h c (t:=t) hl) ?_;rintro _ _ ⟨u,rfl,rfl⟩;refine aq [] (Pn u (rs:=g9 t) hl) ?_;rintro _ _ (⟨t2,h2,c2,hp,rfl,rfl⟩|⟨hno,rfl,rfl⟩)
 ·have hv:jo t=Gd t t2:=by unfold jo;rw[hp]
  refine bj [] 13 ((0:Int)==0) rfl ?_;refine aq [13] (Ww h c h2 c2 (x:=t) (y:=t2)) ?_;rintro _ _ ⟨rfl,rfl⟩;exact W.r [13] (.bool (Gd t t2)) ⟨by rw[hv],rfl⟩ bT
 ·have hv:jo t=false:=by
   unfold jo;split
   ·rename_i u' hq;exact absurd hq (hno _)
   ·rfl
  refine aQ [] 13 ((20:Int)==0) rfl ?_;exact W.r [13] (.bool false) ⟨by rw[hv],rfl⟩ bT
end
end Go.Proofs.YtgaaopjagcaojaaGreat
