import Derived.Test.YtgaaopjagcaojaaGreatMo
import Derived.Test.YtgaaopjagcaojaaGreatLs
import Derived.Test.YtgaaopjagcaojaaGreatLe
set_option linter.unusedSimpArgs false
set_option linter.unusedVariables false
set_option maxHeartbeats 8000000
namespace Go.Proofs.YtgaaopjagcaojaaGreat
open Go.RowKit Go.IntWalk
def Ag(nm:List (Int×Value))(L:List Int):Prop:=∀k,gJ k nm=if k∈L then some (.bool true)else none
theorem Ag.nil:Ag [] []:=fun k=>rfl
theorem Ag.set{nm:List (Int×Value)}{L:List Int}(h:Ag nm L)(k:Int):Ag (kU k (.bool true) nm) (L++[k]):=fun j=>by
 rw[iG,h j];by_cases hj:j=k
 ·subst hj;simp
 ·simp[hj]
theorem Ag.look{nm:List (Int×Value)}{L:List Int}(h:Ag nm L)(k:Int):(gJ k nm).getD (.bool false)=.bool (decide (k∈L)):=by
 rw[h k];by_cases hk:k∈L<;>simp[hk]
def wW(t:List Ce)(l:List Ce):List Int:=l.flatMap (i_ (cw t))
theorem F_{t:List Ce}(h:lost t=false)(c:Nat):decide ((c:Int)∈wW t t)=mR t c:=by
 have e1:((c:Int)∈wW t t)↔∃a,a<t.length∧c∈fB t a:=by
  unfold wW;rw[List.mem_flatMap];constructor
  ·rintro⟨x,hx,hc⟩;obtain⟨a,ha,he⟩:=List.getElem_of_mem hx;have hax:t[a]? =some x:=by rw[ar ha,he]
   rw[Ee h hax,Af]at hc;obtain⟨k,hk,e⟩:=hc;exact⟨a,ha,by rw[←Int.natCast_inj.1 e];exact hk⟩
  ·rintro⟨a,ha,hc⟩;have hax:t[a]? =some t[a]:=ar ha;exact⟨t[a],dW ha,by rw[Ee h hax];exact List.mem_map.2 ⟨c,hc,rfl⟩⟩
 unfold mR;by_cases hc:(c:Int)∈wW t t
 ·rw[aw hc];obtain⟨a,ha,hk⟩:=e1.1 hc;have h1:(fB t a).contains c=true:=List.contains_iff_mem.2 hk;exact(List.any_eq_true.2 ⟨a,List.mem_range.2 ha,h1⟩).symm
 ·rw[ak hc];refine(List.any_eq_false.2 fun a ha hk=>hc (e1.2 ⟨a,List.mem_range.1 ha,?_⟩)).symm;have h1:(fB t a).contains c=true:=hk;exact List.contains_iff_mem.1 h1
theorem AF(t:List Ce)(c:Ce):∀(l:List Ce) (i:Nat),tz t (l++[c]) i=(tz t l i|| !(nC t (DZ c)==some (i+l.length)))
 | [],i=>by simp[tz]
 |a::l,i=>by
  simp only[dO,tz,AF t c l (i+1),aF,Bool.or_assoc];rw[show i+1+l.length=i+(l.length+1)by omega]
theorem Ru{t:List Ce}{c:Ce}(h:c∈t):∃k,nC t (DZ c)=some k:=AT ⟨c,h,rfl⟩
theorem C4{t:List Ce}{j:Nat}{x:Ce}(hx:t[j]? =some x)(h:qZ t x=true):lost t=true:=List.any_eq_true.2 ⟨x,aO hx,h⟩
theorem Oc{t:List Ce}(h:∀(j:Nat) (x:Ce),t[j]? =some x→qZ t x=false):lost t=false:=by
 unfold lost;rw[gC];intro x hx;obtain⟨j,hj⟩:=mD hx;rw[h j x hj];simp
theorem M9{t:List Ce}:∀{d n c:Nat},dep t n c=some d→dep t d c=some d:=by
 intro d
 induction d using Nat.strongRecOn with
 |ind d ih=>
 intro n c h;cases n with
 |zero=>simp[dep]at h
 |succ n=>
  unfold dep at h;cases hq:js (dep t n) (fB t c) 0 with
  |none=>rw[hq]at h;simp at h
  |some r=>
   rw[hq]at h;simp only[dq,aq]at h;subst h;unfold dep;have:js (dep t r) (fB t c) 0=some r:=by
    rw[←hq];refine oV fun k hk=>?_;obtain⟨e,he,hle⟩:=(lU hq).2 k hk;rw[he];exact nw (ih e (by omega) he) hle
   rw[this];rfl
theorem uj(f:Nat→Int){j n:Nat}(h:j<n):(((List.range n).take (j+1)).map f).sum=(((List.range n).take j).map f).sum+f j:=by
 have hj:(List.range n)[j]? =some j:=nP h;rw[fz hj,aX,sX];simp
theorem DH{T:Tb}{P:Program}{f:FuncId}{args:List Value}{Oin:List (Nat×List Value)}{M M':List (Nat×List (Value×Value))}{Γ:List aE}{post:Value→List (Nat×List Value)→List (Nat×List (Value×Value))→List aE→Prop}
  (h:dC T P f args Oin M Γ post)(hm:M.Perm M'):dC T P f args Oin M' Γ post:=by
 have e:gV Oin M=gV Oin M':=by
  funext b;unfold gV;apply propext;constructor
  ·rintro(h|⟨m,h⟩)
   ·exact .inl h
   ·exact .inr ⟨m,hm.mem_iff.1 h⟩
  ·rintro(h|⟨m,h⟩)
   ·exact .inl h
   ·exact .inr ⟨m,hm.mem_iff.2 h⟩
 refine⟨h.1,fun I w hd hh ho hon hma hmn hx=>?_⟩;rw[←e]at hx⊢;exact h.2 I w hd hh ho hon (fun b m hb=>hma b m (hm.mem_iff.1 hb)) ((hm.map (·.1)).nodup_iff.2 hmn) hx
structure Xq where
 j:Nat
 z:Int
 f:Bool
 nm:List (Int×Value)
structure CkB where
 j:Nat
 z:Int
 d:Nat
 dm:List (Int×Int)
structure CkD where
 j:Nat
 z:Int
 n:Int
 cm:List (Int×Int)
def ck0(fb mb:Nat)(cs:Sl):Xq→List (Nat×SV):=fun a=>[(0,.val (fp fb)),(4,.val (.map (some mb))),(27,.val (bz cs)),(28,.val (.int .i64 cs.n)),(3,.val (.bool a.f)),(2,.val (.int .i64 0)),(29,.val (.int .i64 a.z))]
def ck1(fb mb:Nat)(n:Nat)(f:Bool):CkB→List (Nat×SV):=fun a=>[(0,.val (fp fb)),(3,.val (.bool f)),(4,.val (.map (some mb))),(68,.val (.int .i64 n)),(2,.val (.int .i64 0)),(11,.val (.int .i64 a.d)),(69,.val (.int .i64 a.z))]
def ck2(fb mb:Nat)(cs:Sl)(d:Nat):Xq→List (Nat×SV):=fun a=>[(0,.val (fp fb)),(2,.val (.int .i64 0)),(4,.val (.map (some mb))),(11,.val (.int .i64 d)),(87,.val (bz cs)),(88,.val (.int .i64 cs.n)),(3,.val (.bool a.f)),(89,.val (.int .i64 a.z))]
def ck3(fb mb:Nat)(n:Nat):CkD→List (Nat×SV):=fun a=>[(0,.val (fp fb)),(2,.val (.int .i64 0)),(4,.val (.map (some mb))),(117,.val (.int .i64 n)),(19,.val (.int .i64 a.n)),(118,.val (.int .i64 a.z))]
def ck4(fb mb:Nat)(n:Nat):Mi→List (Nat×SV):=fun a=>[(0,.val (fp fb)),(4,.val (.map (some mb))),(147,.val (.int .i64 n)),(2,.val (.int .i64 0)),(148,.val (.int .i64 a.z))]
theorem Wn(I:f_)(w:World)(hd:bB tb I w):(OF ⟨bV,bV,bV,bV,bV⟩ (0,yg)).p I w:=by
 have h:=(kW (Γ:=[]) (L':=0) I w hd (aG.nil _ _)).h0';exact⟨h,h,h,h,h⟩
theorem OD(v:Value)(I:f_)(w:World):(ru oR v []).p I w:=fun e he=>by simp at he
section
theorem RQ(fb bn cn dn:Nat)(ca:Option Addr)(cl cc:Nat)(most:Int){t:List Ce}(hF:SN t)(hmost:0≤most∧most≤100000)(hW:zr t≤160)(Γ:List aE) [aZ (pE ⟨ca,cl,cc⟩) t Γ]:
  dC Kt Tryz.prog 28 [fp fb] (FO fb ⟨ca,cl,cc⟩ bn cn dn most (.slice none 0 0)) [(bn,bM dT (cf (cw t))),(dn,[]),(cn,[])] Γ (fun v O _ Δ=>DF (wJ t most) (fun v=>FO fb ⟨ca,cl,cc⟩ bn cn dn most v) [] v O Δ):=by
 obtain⟨R,hR⟩:∃R,wJ t most=R:=⟨_,rfl⟩;have hR2:=hR;unfold wJ at hR2;rw[hR];have back:∀e:Int,R=.error e→∀(Γ':List aE),DF R (fun v=>FO fb ⟨ca,cl,cc⟩ bn cn dn most v) [] (.int .i64 e) (FO fb ⟨ca,cl,cc⟩ bn cn dn most (.slice none 0 0)) [ru oR (bz ⟨none,0,0⟩) ([]++[])]:=fun e he Γ'=>
  ⟨⟨none,0,0⟩,[],[],fun q h=>by rw[he]at h;simp at h,by rw[he];rfl,rfl,cG.nil 3,rfl⟩
 have bent:∀(Γ':List aE) (I:f_) (w:World),bB Kt I w→aG Γ' I w→aG [ru oR (bz ⟨none,0,0⟩) ([]++[])] I w:=fun Γ' I w _ _=>aV (OD _ I w);refine dC.of_W bK Tryz.func28 rfl ?_;refine W.len pG qg.x ⟨ca,cl,cc⟩ rfl (fun c1 c2 c3=>?_);simp only at c1 c2 c3;have htl:=hF.tl;refine Jb [] (FO fb ⟨ca,cl,cc⟩ bn cn dn most (.slice none 0 0)) [(bn,bM dT (cf (cw t))),(dn,[]),(cn,[])] (fun mb=>?_);refine cr [] 0 fb 0 bK ?_;refine dQ [] (FO fb ⟨ca,cl,cc⟩ bn cn dn most (.slice none 0 0)) fb (0+0) 1 [.slice ca cl cc,.map (some bn),.map (some cn),.map (some dn),.int .i64 most,.slice none 0 0] (.slice ca cl cc) bK (.head _) rfl ?_;refine kA [] Tryz.f28 0 163 163 [0,4,27,28,3,2,29] [] (ck0 fb mb ⟨ca,cl,cc⟩) (fun _=>[]) (fun _=>FO fb ⟨ca,cl,cc⟩ bn cn dn most (.slice none 0 0)) (fun a=>[(mb,bM dA a.nm),(bn,bM dT (cf (cw t))),(dn,[]),(cn,[])]) (fun a=>[pE ⟨ca,cl,cc⟩ t])
  (fun a=>a.z=a.j∧a.j≤cl∧a.f=tz t (t.take a.j) 0∧Ag a.nm (wW t (t.take a.j))∧∀(i:Nat) (x:Ce),i<a.j→t[i]? =some x→qZ t x=false) (fun a=>cl-a.j) ⟨0,0,false,[]⟩ ⟨rfl,aM _,rfl,Ag.nil,fun i x hi=>absurd hi (jl _)⟩ (eC eK eE) ?_
 rintro⟨j,z,f,nm⟩ K ⟨hz,hj,hf,hnm,hlo⟩ close;simp only at hz hj hf hnm hlo;by_cases hlt:j<cl
 ·obtain⟨x,hx⟩:∃x,t[j]? =some x:=⟨_,ar (by omega)⟩;have hxm:=aO hx;obtain⟨k,hk⟩:=Ru hxm;have hget:gJ (DZ x) (cf (cw t))=some (.int .i64 (k:Int)):=by
   rw[mI,vG,hk];rfl
  have hdup:tz t (t.take (j+1)) 0=(f|| !((k:Int)==z)):=by
   have e1:(some k==some j)=((k:Int)==(j:Int)):=by
    by_cases hkj:k=j
    ·subst hkj;simp
    ·have h2:(k:Int)≠(j:Int):=by omega
     rw[beq_eq_false_iff_ne.2 h2,beq_eq_false_iff_ne.2 (fun h=>hkj (Option.some.inj h))]
   rw[fz hx,AF,←hf,hk,dF,cz,fu (by omega),hz,e1]
  refine wj ⟨ca,cl,cc⟩ hx (fun b off fh fi ha=>?_);simp only at ha;subst ha;refine bD [] 30 (decide (z<(cl:Int))) (aw (by omega)) ?_;refine cA [30] 2 b off cl cc .i64 j z hz bK hlt ?_;refine de [] b (off+j*2) [bz fh,bz fi] bK (dL b (off+j*2)) ?_;refine cr [] 1 fb 0 bK ?_;refine dQ [] (FO fb ⟨some ⟨b,off,none⟩,cl,cc⟩ bn cn dn most (.slice none 0 0)) fb (0+1) 1 [.slice (some ⟨b,off,none⟩) cl cc,.map (some bn),.map (some cn),.map (some dn),.int .i64 most,.slice none 0 0] (.map (some bn)) bK (.head _) rfl ?_;refine aj [] (Er fh fi (x:=x)).mF ?_;rintro _ _ ⟨rfl,rfl⟩;refine ve [] dT 69 9 3 true (FO fb ⟨some ⟨b,off,none⟩,cl,cc⟩ bn cn dn most (.slice none 0 0)) [(mb,bM dA nm),(bn,bM dT (cf (cw t))),(dn,[]),(cn,[])] bn (DZ x) (cf (cw t)) (.int .i64 0) bK (.tail _ (.head _)) ?_;rw[hget];refine bD [] 45 true rfl ?_;by_cases hkz:(k:Int)=z
  ·refine aS [45] 49 ((k:Int) != z) (by rw[hkz];simp) ?_;rw[hkz,beq_self_eq_true,Bool.not_true,Bool.or_false]at hdup;refine c_ [49] [] (FO fb ⟨some ⟨b,off,none⟩,cl,cc⟩ bn cn dn most (.slice none 0 0)) [] [(mb,bM dA nm)] [(bn,bM dT (cf (cw t)))] [(dn,[]),(cn,[])] ⟨rfl,by rfl,trivial⟩ (IE fb bn cn dn ⟨some ⟨b,off,none⟩,cl,cc⟩ most (.slice none 0 0) z (i:=j) hz (t:=t) hx (hF.ce x hxm) (hF.len x hxm) (cw t)) ?_;rintro _ _ _ _ ⟨u,hu,rfl,rfl,rfl,rfl⟩;obtain⟨ua,un,uc⟩:=u;simp only at hu;refine Fa [] [2,54] (fun a:Xq=>[(2,.int .i64 0),(54,.int .i64 a.z)]) (fun _=>[]) (fun _=>FO fb ⟨some ⟨b,off,none⟩,cl,cc⟩ bn cn dn most (.slice none 0 0)) (fun a=>[(mb,bM dA a.nm),(bn,bM dT (cf (cw t))),(dn,[]),(cn,[])]) (fun a=>[NL ⟨ua,un,uc⟩ (i_ (cw t) x),pE ⟨some ⟨b,off,none⟩,cl,cc⟩ t])
    (fun a=>a.z=a.j∧a.j≤un∧Ag a.nm (wW t (t.take j)++(i_ (cw t) x).take a.j)∧∀k∈(i_ (cw t) x).take a.j,¬k<0) (fun a=>un-a.j) ⟨0,0,false,nm⟩ ⟨rfl,aM _,by simpa using hnm,fun k hk=>by simp at hk⟩ (eC eK (eC eK eE)) ?_
   rintro⟨q,y,g,nm2⟩ K2 ⟨hy,hq,hnm2,hpos⟩ close2;simp only at hy hq hnm2 hpos;refine Mx ⟨ua,un,uc⟩ (l:=i_ (cw t) x) rfl (fun _ hu2 hu3=>?_);simp only at hu2 hu3;by_cases hlq:q<un
   ·obtain⟨kk,hkk⟩:∃kk,(i_ (cw t) x)[q]? =some kk:=⟨_,ar (by omega)⟩;have hkm:=aO hkk;obtain⟨bb,o2,hao⟩:=hu3 (by intro e;rw[e]at hkm;simp at hkm);subst hao;refine bD [] 55 (decide (y<(un:Int))) (aw (by omega)) ?_;refine cA [55] 1 bb o2 un uc .i64 q y hy bK hlq ?_;refine eg [] 1 bb (o2+q*1) (.int .i64 kk) bK (sG bb o2 un uc hkk) ?_;by_cases hneg:kk<0
    ·have hl:=C4 hx (uI.1 ⟨kk,hkm,hneg⟩);rw[if_pos hl]at hR2;refine bD [] 59 (decide (kk<0)) (aw hneg) ?_;exact j1 [59] (.int .i64 23) (FO fb ⟨some ⟨b,off,none⟩,cl,cc⟩ bn cn dn most (.slice none 0 0)) [(mb,bM dA nm2),(bn,bM dT (cf (cw t))),(dn,[]),(cn,[])] (back 23 hR2.symm Γ) (bent _)
    ·refine aS [] 59 (decide (kk<0)) (ak hneg) ?_;refine Ct [59] dA 104 3 4 (FO fb ⟨some ⟨b,off,none⟩,cl,cc⟩ bn cn dn most (.slice none 0 0)) [] [(bn,bM dT (cf (cw t))),(dn,[]),(cn,[])] mb kk (.bool true) nm2 ?_;refine close2 [] _ _ ⟨q+1,IntKind.i64.wrap (y+1),false,kU kk (.bool true) nm2⟩ (by kernel_rfl) (by kernel_rfl) ⟨by simp only[ah];omega,hlq,?_,fun k' hk'=>?_⟩ (by simp only;omega) (eC eK (eC eK eE))
     ·simp only;rw[fz hkk,←aU];exact hnm2.set kk
     ·simp only at hk';rw[fz hkk,ez]at hk';rcases hk' with h|h
      ·exact hpos k' h
      ·simp only[aD,aC,bp]at h;rw[h];exact hneg
   ·have hall:(i_ (cw t) x).take q=i_ (cw t) x:=aW (by omega);rw[hall]at hnm2 hpos;refine aS [] 55 (decide (y<(un:Int))) (ak (by omega)) ?_;refine close [55] _ _ ⟨j+1,IntKind.i64.wrap (z+1),f,nm2⟩ (by kernel_rfl) (by kernel_rfl) ⟨by simp only[ah];omega,hlt,hdup.symm,?_,fun i' x' hi' hx'=>?_⟩ (by simp only;omega) (eC eK eE)
    ·simp only;unfold wW at hnm2⊢;rw[fz hx,bA];simpa using hnm2
    ·simp only at hi';by_cases hij:i'<j
     ·exact hlo i' x' hij hx'
     ·obtain rfl:i'=j:=by omega
      rw[hx]at hx';injection hx' with hx';subst hx';cases hlc:qZ t x with
      |false=>rfl
      |true=>
       obtain⟨k',h1,h2⟩:=uI.2 hlc;exact absurd h2 (hpos k' h1)
  ·refine bD [45] 49 ((k:Int) != z) (by simpa using hkz) ?_;rw[beq_eq_false_iff_ne.2 hkz,Bool.not_false,Bool.or_true]at hdup;refine c_ [49] [] (FO fb ⟨some ⟨b,off,none⟩,cl,cc⟩ bn cn dn most (.slice none 0 0)) [] [(mb,bM dA nm)] [(bn,bM dT (cf (cw t)))] [(dn,[]),(cn,[])] ⟨rfl,by rfl,trivial⟩ (IE fb bn cn dn ⟨some ⟨b,off,none⟩,cl,cc⟩ most (.slice none 0 0) z (i:=j) hz (t:=t) hx (hF.ce x hxm) (hF.len x hxm) (cw t)) ?_;rintro _ _ _ _ ⟨u,hu,rfl,rfl,rfl,rfl⟩;obtain⟨ua,un,uc⟩:=u;simp only at hu;refine Fa [] [2,54] (fun a:Xq=>[(2,.int .i64 0),(54,.int .i64 a.z)]) (fun _=>[]) (fun _=>FO fb ⟨some ⟨b,off,none⟩,cl,cc⟩ bn cn dn most (.slice none 0 0)) (fun a=>[(mb,bM dA a.nm),(bn,bM dT (cf (cw t))),(dn,[]),(cn,[])]) (fun a=>[NL ⟨ua,un,uc⟩ (i_ (cw t) x),pE ⟨some ⟨b,off,none⟩,cl,cc⟩ t])
    (fun a=>a.z=a.j∧a.j≤un∧Ag a.nm (wW t (t.take j)++(i_ (cw t) x).take a.j)∧∀k∈(i_ (cw t) x).take a.j,¬k<0) (fun a=>un-a.j) ⟨0,0,false,nm⟩ ⟨rfl,aM _,by simpa using hnm,fun k hk=>by simp at hk⟩ (eC eK (eC eK eE)) ?_
   rintro⟨q,y,g,nm2⟩ K2 ⟨hy,hq,hnm2,hpos⟩ close2;simp only at hy hq hnm2 hpos;refine Mx ⟨ua,un,uc⟩ (l:=i_ (cw t) x) rfl (fun _ hu2 hu3=>?_);simp only at hu2 hu3;by_cases hlq:q<un
   ·obtain⟨kk,hkk⟩:∃kk,(i_ (cw t) x)[q]? =some kk:=⟨_,ar (by omega)⟩;have hkm:=aO hkk;obtain⟨bb,o2,hao⟩:=hu3 (by intro e;rw[e]at hkm;simp at hkm);subst hao;refine bD [] 55 (decide (y<(un:Int))) (aw (by omega)) ?_;refine cA [55] 1 bb o2 un uc .i64 q y hy bK hlq ?_;refine eg [] 1 bb (o2+q*1) (.int .i64 kk) bK (sG bb o2 un uc hkk) ?_;by_cases hneg:kk<0
    ·have hl:=C4 hx (uI.1 ⟨kk,hkm,hneg⟩);rw[if_pos hl]at hR2;refine bD [] 59 (decide (kk<0)) (aw hneg) ?_;exact j1 [59] (.int .i64 23) (FO fb ⟨some ⟨b,off,none⟩,cl,cc⟩ bn cn dn most (.slice none 0 0)) [(mb,bM dA nm2),(bn,bM dT (cf (cw t))),(dn,[]),(cn,[])] (back 23 hR2.symm Γ) (bent _)
    ·refine aS [] 59 (decide (kk<0)) (ak hneg) ?_;refine Ct [59] dA 104 3 4 (FO fb ⟨some ⟨b,off,none⟩,cl,cc⟩ bn cn dn most (.slice none 0 0)) [] [(bn,bM dT (cf (cw t))),(dn,[]),(cn,[])] mb kk (.bool true) nm2 ?_;refine close2 [] _ _ ⟨q+1,IntKind.i64.wrap (y+1),false,kU kk (.bool true) nm2⟩ (by kernel_rfl) (by kernel_rfl) ⟨by simp only[ah];omega,hlq,?_,fun k' hk'=>?_⟩ (by simp only;omega) (eC eK (eC eK eE))
     ·simp only;rw[fz hkk,←aU];exact hnm2.set kk
     ·simp only at hk';rw[fz hkk,ez]at hk';rcases hk' with h|h
      ·exact hpos k' h
      ·simp only[aD,aC,bp]at h;rw[h];exact hneg
   ·have hall:(i_ (cw t) x).take q=i_ (cw t) x:=aW (by omega);rw[hall]at hnm2 hpos;refine aS [] 55 (decide (y<(un:Int))) (ak (by omega)) ?_;refine close [55] _ _ ⟨j+1,IntKind.i64.wrap (z+1),true,nm2⟩ (by kernel_rfl) (by kernel_rfl) ⟨by simp only[ah];omega,hlt,hdup.symm,?_,fun i' x' hi' hx'=>?_⟩ (by simp only;omega) (eC eK eE)
    ·simp only;unfold wW at hnm2⊢;rw[fz hx,bA];simpa using hnm2
    ·simp only at hi';by_cases hij:i'<j
     ·exact hlo i' x' hij hx'
     ·obtain rfl:i'=j:=by omega
      rw[hx]at hx';injection hx' with hx';subst hx';cases hlc:qZ t x with
      |false=>rfl
      |true=>
       obtain⟨k',h1,h2⟩:=uI.2 hlc;exact absurd h2 (hpos k' h1)
 ·obtain rfl:j=cl:=by omega
  have htk:t.take j=t:=aW (by omega);rw[htk]at hf hnm;have hlost:lost t=false:=Oc fun i x hx=>hlo i x (by have:=(List.getElem?_eq_some_iff.1 hx).1;omega) hx;rw[if_neg (by rw[hlost];simp)]at hR2;refine aS [] 30 (decide (z<(j:Int))) (ak (by omega)) ?_;refine cr [30] 0 fb 0 bK ?_;refine dQ [] (FO fb ⟨ca,j,cc⟩ bn cn dn most (.slice none 0 0)) fb (0+0) 1 [.slice ca j cc,.map (some bn),.map (some cn),.map (some dn),.int .i64 most,.slice none 0 0] (.slice ca j cc) bK (.head _) rfl ?_;refine kA [] Tryz.f28 1 163 163 [0,3,4,68,2,11,69] [] (ck1 fb mb j f) (fun _=>[]) (fun _=>FO fb ⟨ca,j,cc⟩ bn cn dn most (.slice none 0 0)) (fun a=>[(mb,bM dA nm),(bn,bM dT (cf (cw t))),(dn,bM dA (cf a.dm)),(cn,[])]) (fun a=>[pE ⟨ca,j,cc⟩ t])
   (fun a=>a.z=a.j∧a.j≤j∧QH t a.dm∧(∀i:Nat,gJ (i:Int) a.dm≠some 0)∧(∀i,i<a.j→∃d,sR t i d∧d≤a.d)∧(a.d=0∨∃i,i<t.length∧sR t i a.d)) (fun a=>j-a.j) ⟨0,0,0,[]⟩ ⟨rfl,aM _,fun k v h=>by simp[gJ]at h,fun i h=>by simp[gJ]at h,fun i h=>absurd h (jl _),.inl rfl⟩ (eC eK eE) ?_
  rintro⟨i,y,D,dm⟩ K1 ⟨hy,hi,hdm,hdz,hda,hdx⟩ close1;simp only at hy hi hdm hdz hda hdx;by_cases hlt1:i<j
  ·refine bD [] 70 (decide (y<(j:Int))) (aw (by omega)) ?_;refine c_ [70] [] (FO fb ⟨ca,j,cc⟩ bn cn dn most (.slice none 0 0)) [] [(mb,bM dA nm)] [(bn,bM dT (cf (cw t))),(dn,bM dA (cf dm))] [(cn,[])] ⟨rfl,by rfl,trivial⟩ (RS fb bn cn dn ⟨ca,j,cc⟩ most (.slice none 0 0) (t:=t) hF.ce hF.len hlost htl (vk t dm) _ y i hy (by omega) dm hdm (fun q hq=>absurd hq (hdz q)) (ai _)) ?_;rintro _ _ _ _ ⟨d,b,dm',⟨ht,hfl⟩,rfl,rfl,rfl,rfl⟩;cases b with
   |false=>
    rw[if_pos (hfl rfl)]at hR2;refine bD [] 79 (!false) rfl ?_;exact j1 [79] (.int .i64 24) (FO fb ⟨ca,j,cc⟩ bn cn dn most (.slice none 0 0)) [(mb,bM dA nm),(bn,bM dT (cf (cw t))),(dn,bM dA (cf dm')),(cn,[])] (back 24 hR2.symm Γ) (bent _)
   |true=>
    obtain⟨e,rfl,hde,hd1,hd2,hd3⟩:=ht rfl;refine aS [] 79 (!true) rfl ?_;refine Mv [79] .i64 (D:Int) (e:Int) ((max D e:Nat):Int) (by omega) ?_;refine close1 [] _ _ ⟨i+1,IntKind.i64.wrap (y+1),max D e,dm'⟩ (by kernel_rfl) (by kernel_rfl) ⟨by simp only[ah];omega,hlt1,hd1,fun q hq=>hdz q (hd2 q hq),fun q hq=>?_,?_⟩ (by simp only;omega) (eC eK eE)
    ·simp only at hq⊢;by_cases hqi:q<i
     ·obtain⟨d',h1,h2⟩:=hda q hqi;exact⟨d',h1,by omega⟩
     ·obtain rfl:q=i:=by omega
      exact⟨e,hde,by omega⟩
    ·simp only;by_cases hDe:e≤D
     ·rw[Nat.max_eq_left hDe];exact hdx
     ·rw[Nat.max_eq_right (by omega)];exact .inr ⟨i,by omega,hde⟩
  ·obtain rfl:i=j:=by omega
   have hcyc:¬cyc t:=fun⟨c,hc,hno⟩=>by
    obtain⟨d,h1,_⟩:=hda c (by omega);exact hno d h1
   rw[if_neg hcyc]at hR2;have hdeep:(D>64)↔M7 t:=by
    constructor
    ·intro hD;rcases hdx with h0|⟨a,ha,hda'⟩
     ·omega
     ·refine⟨a,ha,?_⟩;cases hq:dep t 64 a with
      |none=>rfl
      |some d'=>
       have e1:=hda'.uniq ⟨64,hq⟩;have:=M_ hq;omega
    ·rintro⟨a,ha,hn⟩;obtain⟨d,⟨m,hm⟩,hle⟩:=hda a (by omega);have:=M9 hm;by_cases hd:d≤64
     ·rw[nw this hd]at hn;simp at hn
     ·omega
   refine aS [] 70 (decide (y<(i:Int))) (ak (by omega)) ?_;refine cr [70] 0 fb 0 bK ?_;refine dQ [] (FO fb ⟨ca,i,cc⟩ bn cn dn most (.slice none 0 0)) fb (0+0) 1 [.slice ca i cc,.map (some bn),.map (some cn),.map (some dn),.int .i64 most,.slice none 0 0] (.slice ca i cc) bK (.head _) rfl ?_;refine kA [] Tryz.f28 2 163 163 [0,2,4,11,87,88,3,89] [] (ck2 fb mb ⟨ca,i,cc⟩ D) (fun _=>[]) (fun _=>FO fb ⟨ca,i,cc⟩ bn cn dn most (.slice none 0 0)) (fun a=>[(mb,bM dA nm),(bn,bM dT (cf (cw t))),(dn,bM dA (cf dm)),(cn,[])]) (fun a=>[pE ⟨ca,i,cc⟩ t])
    (fun a=>a.z=a.j∧a.j≤i∧a.f=(f||(t.take a.j).any fun c=>c.i.any fun x=> !gU x)) (fun a=>i-a.j) ⟨0,0,f,[]⟩ ⟨rfl,aM _,by simp⟩ (eC eK eE) ?_
   rintro⟨p,y2,g,nm2⟩ K2 ⟨hy2,hp,hg⟩ close2;simp only at hy2 hp hg;by_cases hlt2:p<i
   ·obtain⟨x,hx⟩:∃x,t[p]? =some x:=⟨_,ar (by omega)⟩;have hxm:=aO hx;refine wj ⟨ca,i,cc⟩ hx (fun b off fh fi ha=>?_);simp only at ha;subst ha;refine W.more (Δ:=[uv fi x.i]) rfl (fun I w _ hh=>aV (aZ.p (k:=xL fh fi) (a:=x) inferInstance hh).2) ?_;obtain⟨ia,im,ic⟩:=fi;refine W.len lJ nj.x ⟨ia,im,ic⟩ rfl (fun i1 i2 i3=>?_);simp only at i1 i2 i3;refine bD [] 90 (decide (y2<(i:Int))) (aw (by omega)) ?_;refine cA [90] 2 b off i cc .i64 p y2 hy2 bK hlt2 ?_;refine de [] b (off+p*2) [bz fh,bz ⟨ia,im,ic⟩] bK (dL b (off+p*2)) ?_;refine Fa [] [3,96] (fun a:Xq=>[(3,.bool a.f),(96,.int .i64 a.z)]) (fun _=>[]) (fun _=>FO fb ⟨some ⟨b,off,none⟩,i,cc⟩ bn cn dn most (.slice none 0 0)) (fun a=>[(mb,bM dA nm),(bn,bM dT (cf (cw t))),(dn,bM dA (cf dm)),(cn,[])]) (fun a=>[uv ⟨ia,im,ic⟩ x.i,pE ⟨some ⟨b,off,none⟩,i,cc⟩ t])
     (fun a=>a.z=a.j∧a.j≤im∧a.f=(g||(x.i.take a.j).any fun x=> !gU x)) (fun a=>im-a.j) ⟨0,0,g,[]⟩ ⟨rfl,aM _,by simp⟩ (eC eK (eC eK eE)) ?_
    rintro⟨q,y3,g2,nm3⟩ K3 ⟨hy3,hq,hg2⟩ close3;simp only at hy3 hq hg2;by_cases hlt3:q<im
    ·obtain⟨v,hv⟩:∃v,x.i[q]? =some v:=⟨_,ar (by omega)⟩;have hvo:=hF.ok x hxm v (aO hv);have hnx:((x.i.take (q+1)).any fun x=> !gU x)=(((x.i.take q).any fun x=> !gU x)|| !gU v):=by rw[fz hv,List.any_append];simp
     refine Al ⟨ia,im,ic⟩ hv (fun b2 off2 yf yp ha=>?_);simp only at ha;subst ha;refine bD [] 97 (decide (y3<(im:Int))) (aw (by omega)) ?_;refine cA [97] 2 b2 off2 im ic .i64 q y3 hy3 bK hlt3 ?_;refine de [] b2 (off2+q*2) [bz yf,bz yp] bK (dL b2 (off2+q*2)) ?_;cases g2 with
     |true=>
      refine bD [] 101 true rfl ?_;exact close3 [101] _ _ ⟨q+1,IntKind.i64.wrap (y3+1),true,[]⟩ (by kernel_rfl) (by kernel_rfl) ⟨by simp only[ah];omega,hlt3,by simp only;rw[hnx,←Bool.or_assoc,←hg2,Bool.true_or]⟩ (by simp only;omega) (eC eK (eC eK eE))
     |false=>
      refine aS [] 101 false rfl ?_;refine aj [101] (R9 yf yp (x:=v) hvo.im hvo.kind).mF ?_;rintro _ _ ⟨rfl,rfl⟩;exact close3 [101] _ _ ⟨q+1,IntKind.i64.wrap (y3+1),!gU v,[]⟩ (by kernel_rfl) (by kernel_rfl) ⟨by simp only[ah];omega,hlt3,by simp only;rw[hnx,←Bool.or_assoc,←hg2,Bool.false_or]⟩ (by simp only;omega) (eC eK (eC eK eE))
    ·have hall:x.i.take q=x.i:=aW (by omega);rw[hall]at hg2;refine aS [] 97 (decide (y3<(im:Int))) (ak (by omega)) ?_;refine close2 [97] _ _ ⟨p+1,IntKind.i64.wrap (y2+1),g2,[]⟩ (by kernel_rfl) (by kernel_rfl) ⟨by simp only[ah];omega,hlt2,?_⟩ (by simp only;omega) (eC eK eE);simp only;rw[fz hx,List.any_append,←Bool.or_assoc,←hg,hg2];simp
   ·obtain rfl:p=i:=by omega
    rw[htk,hf]at hg;have hfeat:g=yN t:=by rw[hg];rfl
    refine aS [] 90 (decide (y2<(p:Int))) (ak (by omega)) ?_;cases g with
    |true=>
     rw[if_pos (.inl hfeat.symm)]at hR2;refine bD [90] 109 true rfl ?_;exact j1 [112,109] (.int .i64 25) (FO fb ⟨ca,p,cc⟩ bn cn dn most (.slice none 0 0)) [(mb,bM dA nm),(bn,bM dT (cf (cw t))),(dn,bM dA (cf dm)),(cn,[])] (back 25 hR2.symm Γ) (bent _)
    |false=>
    refine aS [90] 109 false rfl ?_;by_cases hD:D>64
    ·rw[if_pos (.inr (hdeep.1 hD))]at hR2;refine bD [109] 112 (decide ((D:Int)>64)) (aw (by omega)) ?_;exact j1 [112] (.int .i64 25) (FO fb ⟨ca,p,cc⟩ bn cn dn most (.slice none 0 0)) [(mb,bM dA nm),(bn,bM dT (cf (cw t))),(dn,bM dA (cf dm)),(cn,[])] (back 25 hR2.symm Γ) (bent _)
    rw[if_neg (fun h=>h.elim (fun h=>by rw[←hfeat]at h;simp at h) (fun h=>hD (hdeep.2 h)))]at hR2;have hDom:zu t:=⟨hlost,fun c hc x hx=>by
     have:=hfeat.symm;unfold yN at this;rw[mB]at this;have h2:=List.any_eq_false.1 this.2 c hc;simp only[Bool.not_eq_true]at h2;have h3:=List.any_eq_false.1 h2 x hx;simpa using h3,fun a ha=>by
     cases hq:dep t 64 a with
     |none=>exact absurd (hdeep.2 ⟨a,ha,hq⟩) hD
     |some d=>exact⟨d,rfl⟩⟩
    have hlook:∀c:Nat,(gJ (c:Int) nm).getD (.bool false)=.bool (mR t c):=fun c=>by rw[hnm.look,F_ hlost]
    have hm1:IntKind.i64.wrap (most+1)=most+1:=by rw[ah];omega
    have hcT:∀c,0≤ox t c:=fun c=>by
     unfold ox;split
     ·exact Int.le_refl _
     ·exact hDom.cnt_nn 64 c
    have hsn:∀l:List Nat,0≤(l.map (ox t)).sum:=fun l=>BS fun q hq=>by
     obtain⟨c,_,rfl⟩:=List.mem_map.1 hq;exact hcT c
    refine aS [109] 112 (decide ((D:Int)>64)) (ak (by omega)) ?_;refine cr [112] 0 fb 0 bK ?_;refine dQ [] (FO fb ⟨ca,p,cc⟩ bn cn dn most (.slice none 0 0)) fb (0+0) 1 [.slice ca p cc,.map (some bn),.map (some cn),.map (some dn),.int .i64 most,.slice none 0 0] (.slice ca p cc) bK (.head _) rfl ?_;refine kA [] Tryz.f28 3 163 163 [0,2,4,117,19,118] [] (ck3 fb mb p) (fun _=>[]) (fun _=>FO fb ⟨ca,p,cc⟩ bn cn dn most (.slice none 0 0)) (fun a=>[(mb,bM dA nm),(bn,bM dT (cf (cw t))),(dn,bM dA (cf dm)),(cn,bM dA (cf a.cm))]) (fun a=>[pE ⟨ca,p,cc⟩ t])
     (fun a=>a.z=a.j∧a.j≤p∧a.n=min ((((List.range t.length).take a.j).map (ox t)).sum) (most+1)∧we t most a.cm) (fun a=>p-a.j) ⟨0,0,0,[]⟩ ⟨rfl,aM _,by simp only[qt,cZ,uY];omega,fun k v h=>by simp[gJ]at h⟩ (eC eK eE) ?_
    rintro⟨q,y3,tot,cm⟩ K3 ⟨hy3,hq,htot,hcm⟩ close3;simp only at hy3 hq htot hcm;by_cases hlt3:q<p
    ·have hst:=uj (ox t) (j:=q) (n:=t.length) (by omega);obtain⟨S,hS⟩:∃S,(((List.range t.length).take q).map (ox t)).sum=S:=⟨_,rfl⟩;have hS0:=hsn ((List.range t.length).take q);rw[hS]at htot hst hS0;refine bD [] 119 (decide (y3<(p:Int))) (aw (by omega)) ?_;refine ve [119] dA 104 3 4 false (FO fb ⟨ca,p,cc⟩ bn cn dn most (.slice none 0 0)) [(mb,bM dA nm),(bn,bM dT (cf (cw t))),(dn,bM dA (cf dm)),(cn,bM dA (cf cm))] mb y3 nm (.bool false) bK (.head _) ?_;rw[show(gJ y3 nm).getD (.bool false)=.bool (mR t q)by rw[hy3];exact hlook q];cases hnq:mR t q with
     |true=>
      have hc0:ox t q=0:=by unfold ox;rw[if_pos hnq]
      refine aS [] 124 (!true) rfl ?_;exact close3 [124] _ _ ⟨q+1,IntKind.i64.wrap (y3+1),tot,cm⟩ (by kernel_rfl) (by kernel_rfl) ⟨by simp only[ah];omega,hlt3,by simp only;rw[hst,hc0,qh];exact htot,hcm⟩ (by simp only;omega) (eC eK eE)
     |false=>
      have hcq:ox t q=jF t 64 q:=by unfold ox;rw[if_neg (by rw[hnq];simp)]
      have hcn:=hDom.cnt_nn 64 q;have hnext:min (tot+min (jF t 64 q) (most+1)) (most+1)=min (S+jF t 64 q) (most+1):=by omega
      have hw:IntKind.i64.wrap (tot+min (jF t 64 q) (most+1))=tot+min (jF t 64 q) (most+1):=by rw[ah];omega
      refine bD [] 124 (!false) rfl ?_;have pc:=JX fb bn cn dn ca p cc most (.slice none 0 0) (bM dA (cf dm)) hF hDom hmost 64 [pE ⟨ca,p,cc⟩ t] y3 q hy3 (by omega) (hDom.deep q (by omega)) cm hcm;refine Mt [124] ?_ ?_
      ·refine cr [] 4 fb 0 bK ?_;refine dQ [] (FO fb ⟨ca,p,cc⟩ bn cn dn most (.slice none 0 0)) fb (0+4) 1 [.slice ca p cc,.map (some bn),.map (some cn),.map (some dn),.int .i64 most,.slice none 0 0] (.int .i64 most) bK (.head _) rfl ?_;refine c_ [] [] (FO fb ⟨ca,p,cc⟩ bn cn dn most (.slice none 0 0)) [] [(mb,bM dA nm)] [(bn,bM dT (cf (cw t))),(dn,bM dA (cf dm)),(cn,bM dA (cf cm))] [] ⟨rfl,by rfl,trivial⟩ pc ?_;rintro _ _ _ _ ⟨cm2,hcm2,rfl,rfl,rfl,rfl⟩;refine Cb [] .i64 (IntKind.i64.wrap (tot+min (jF t 64 q) (most+1))) (IntKind.i64.wrap (most+1)) (min (S+jF t 64 q) (most+1)) (by rw[hw,hm1];exact hnext) ?_;exact close3 [] _ _ ⟨q+1,IntKind.i64.wrap (y3+1),min (S+jF t 64 q) (most+1),cm2⟩ (by kernel_rfl) (by kernel_rfl) ⟨by simp only[ah];omega,hlt3,by simp only;rw[hst,hcq],hcm2⟩ (by simp only;omega) (eC eK eE)
      ·refine cr [] 4 fb 0 bK ?_;refine c_ [] [] (FO fb ⟨ca,p,cc⟩ bn cn dn most (.slice none 0 0)) [] [(mb,bM dA nm)] [(bn,bM dT (cf (cw t))),(dn,bM dA (cf dm)),(cn,bM dA (cf cm))] [] ⟨rfl,by rfl,trivial⟩ pc ?_;rintro _ _ _ _ ⟨cm2,hcm2,rfl,rfl,rfl,rfl⟩;refine dQ [] (FO fb ⟨ca,p,cc⟩ bn cn dn most (.slice none 0 0)) fb (0+4) 1 [.slice ca p cc,.map (some bn),.map (some cn),.map (some dn),.int .i64 most,.slice none 0 0] (.int .i64 most) bK (.head _) rfl ?_;refine Cb [] .i64 (IntKind.i64.wrap (tot+min (jF t 64 q) (most+1))) (IntKind.i64.wrap (most+1)) (min (S+jF t 64 q) (most+1)) (by rw[hw,hm1];exact hnext) ?_;exact close3 [] _ _ ⟨q+1,IntKind.i64.wrap (y3+1),min (S+jF t 64 q) (most+1),cm2⟩ (by kernel_rfl) (by kernel_rfl) ⟨by simp only[ah];omega,hlt3,by simp only;rw[hst,hcq],hcm2⟩ (by simp only;omega) (eC eK eE)
    ·obtain rfl:q=p:=by omega
     rw[aW (by rw[dX];omega)]at htot;have htt:tot=min (total t) (most+1):=htot;refine aS [] 119 (decide (y3<(q:Int))) (ak (by omega)) ?_;refine cr [119] 4 fb 0 bK ?_;refine dQ [] (FO fb ⟨ca,q,cc⟩ bn cn dn most (.slice none 0 0)) fb (0+4) 1 [.slice ca q cc,.map (some bn),.map (some cn),.map (some dn),.int .i64 most,.slice none 0 0] (.int .i64 most) bK (.head _) rfl ?_;by_cases hbig:total t>most
     ·rw[if_pos hbig]at hR2;refine bD [] 142 (decide (tot>most)) (aw (by omega)) ?_;exact j1 [142] (.int .i64 27) (FO fb ⟨ca,q,cc⟩ bn cn dn most (.slice none 0 0)) [(mb,bM dA nm),(bn,bM dT (cf (cw t))),(dn,bM dA (cf dm)),(cn,bM dA (cf cm))] (back 27 hR2.symm Γ) (bent _)
     rw[if_neg hbig]at hR2;unfold Iu at hR2;refine aS [] 142 (decide (tot>most)) (ak (by omega)) ?_;refine cr [142] 0 fb 0 bK ?_;refine dQ [] (FO fb ⟨ca,q,cc⟩ bn cn dn most (.slice none 0 0)) fb (0+0) 1 [.slice ca q cc,.map (some bn),.map (some cn),.map (some dn),.int .i64 most,.slice none 0 0] (.slice ca q cc) bK (.head _) rfl ?_;refine kA [] Tryz.f28 4 163 163 [0,4,147,2,148] [] (ck4 fb mb q) (fun _=>[]) (fun a=>FO fb ⟨ca,q,cc⟩ bn cn dn most (bz a.s)++a.O) (fun a=>[(mb,bM dA nm),(bn,bM dT (cf (cw t))),(dn,bM dA (cf dm)),(cn,bM dA (cf a.cm))]) (fun a=>[pE ⟨ca,q,cc⟩ t,OF ⟨bV,bV,bV,bV,bV⟩ (0,yg),ru oR (bz a.s) a.E])
      (fun a=>a.z=a.j∧a.j≤q∧we t most a.cm∧cG 3 a.O (bz a.s) a.E.length (a.E.flatMap oR.cells)∧(a.E.length:Int)≤(((List.range t.length).take a.j).map (ox t)).sum∧B_ (Ch t) (List.range t.length) R a.j a.E) (fun a=>q-a.j) ⟨0,0,cm,⟨none,0,0⟩,[],[]⟩ ⟨rfl,aM _,hcm,cG.nil 3,by simp,by rw[←hR2];exact rB _ _⟩ (eC eK (eC (fun I w hd _=>Wn I w hd) (eC (fun I w _ _=>OD _ I w) eE))) ?_
     rintro⟨r,y4,cm4,s4,O4,E4⟩ K4 ⟨hy4,hr,hcm4,hg4,hE4,hl4⟩ close4;simp only at hy4 hr hcm4 hg4 hE4 hl4;by_cases hlt4:r<q
     ·have hst:=uj (ox t) (j:=r) (n:=t.length) (by omega);have hra:(List.range t.length)[r]? =some r:=nP (by omega);have hle:(((List.range t.length).take (r+1)).map (ox t)).sum≤total t:=by
       unfold total;have e0:((List.range t.length).map (ox t)).sum=(((List.range t.length).take (r+1)).map (ox t)).sum+(((List.range t.length).drop (r+1)).map (ox t)).sum:=by
        rw[←sX,←aX,jY]
       have:=hsn ((List.range t.length).drop (r+1));omega
      refine bD [] 149 (decide (y4<(q:Int))) (aw (by omega)) ?_;refine ve [149] dA 104 3 4 false (FO fb ⟨ca,q,cc⟩ bn cn dn most (bz s4)++O4) [(mb,bM dA nm),(bn,bM dT (cf (cw t))),(dn,bM dA (cf dm)),(cn,bM dA (cf cm4))] mb y4 nm (.bool false) bK (.head _) ?_;rw[show(gJ y4 nm).getD (.bool false)=.bool (mR t r)by rw[hy4];exact hlook r];cases hnq:mR t r with
      |true=>
       have hc0:ox t r=0:=by unfold ox;rw[if_pos hnq]
       have hln:Ch t r=.ok []:=by unfold Ch;rw[if_pos hnq]
       refine aS [] 154 (!true) rfl ?_;exact close4 [154] _ _ ⟨r+1,IntKind.i64.wrap (y4+1),cm4,s4,O4,E4⟩ (by kernel_rfl) (by kernel_rfl) ⟨by simp only[ah];omega,hlt4,hcm4,hg4,by simp only;rw[hst,hc0];omega,by have:=hl4.step (es:=[]) hra hln rfl;rwa [af]at this⟩ (by simp only;omega) (eC eK (eC eK (eC eK eE)))
      |false=>
       have hcq:ox t r=jF t 64 r:=by unfold ox;rw[if_neg (by rw[hnq];simp)]
       have hln:Ch t r=fH t 64 r yg:=by unfold Ch;rw[if_neg (by rw[hnq];simp)]
       have hcn:=hDom.cnt_nn 64 r;obtain⟨dr,hdr⟩:=hDom.deep r (by omega);refine bD [] 154 (!false) rfl ?_;refine c_ [154] [] (FO fb ⟨ca,q,cc⟩ bn cn dn most (bz s4)++O4) [] [(mb,bM dA nm)] [(bn,bM dT (cf (cw t))),(dn,bM dA (cf dm)),(cn,bM dA (cf cm4))] [] ⟨rfl,by rfl,trivial⟩ (eo:=(by simp only[af];kernel_rfl)) (T9 fb bn cn dn ca q cc most (bM dA (cf dm)) hF hDom hmost hW 64 _ y4 r dr hy4 (by omega) hdr yg ⟨bV,bV,bV,bV,bV⟩ 0 0 (by decide) (by decide) aam (aM _) cm4 hcm4 s4 O4 E4 hg4 (by omega)) ?_;rintro _ _ _ _ ⟨cm5,hcm5,rfl,s5,O5,es5,hes5,rfl,rfl,hg5,rfl⟩;rw[af (FO fb ⟨ca,q,cc⟩ bn cn dn most (bz s5)++O5)];cases hlr:fH t 64 r yg with
       |error er=>
        have her:=oA _ _ _ _ hlr;have hRe:R=.error er:=hl4.err hra (by rw[hln,hlr]);refine bD [] 160 (er != 0) (by rcases her with rfl|rfl<;>rfl) ?_;exact j1 [160] (.int .i64 er) (FO fb ⟨ca,q,cc⟩ bn cn dn most (bz s5)++O5) [(mb,bM dA nm),(bn,bM dT (cf (cw t))),(dn,bM dA (cf dm)),(cn,bM dA (cf cm5))] ⟨s5,O5,E4++es5,fun q h=>by rw[hRe]at h;simp at h,by rw[hRe];rfl,rfl,hg5,rfl⟩ (eC eK eE)
       |ok sr=>
        have hsl:=hDom.lay_len _ _ _ _ hlr;have he5:es5.length=sr.length:=by rw[←hes5 sr hlr,bL]
        refine aS [] 160 ((0:Int) != 0) (by decide) ?_;exact close4 [160] _ _ ⟨r+1,IntKind.i64.wrap (y4+1),cm5,s5,O5,E4++es5⟩ (by kernel_rfl) (by kernel_rfl) ⟨by simp only[ah];omega,hlt4,hcm5,hg5,by simp only[az];rw[hst,hcq];omega,hl4.step hra (by rw[hln,hlr]) (hes5 sr hlr)⟩ (by simp only;omega) (eC eK (eC eK (eC eK eE)))
     ·have hRo:R=.ok (E4.map qK.x):=hl4.fin (by rw[dX];omega);refine aS [] 149 (decide (y4<(q:Int))) (ak (by omega)) ?_;exact j1 [149] (.int .i64 0) (FO fb ⟨ca,q,cc⟩ bn cn dn most (bz s4)++O4) [(mb,bM dA nm),(bn,bM dT (cf (cw t))),(dn,bM dA (cf dm)),(cn,bM dA (cf cm4))] ⟨s4,O4,E4,fun q h=>by rw[hRo]at h;injection h,by rw[hRo];rfl,rfl,hg4,rfl⟩ (eC eK eE)
end
theorem C7(c:Ce):∀(l:List Ce) (i:Nat) (nm:List (ByteArray×Int)),yb (l++[c]) i nm=if(gJ (DZ c) (yb l i nm)).isSome then yb l i nm else kU (DZ c) ((i+l.length:Nat):Int) (yb l i nm)
 | [],i,nm=>rfl
 |a::l,i,nm=>by
  simp only[dO,yb,aF];rw[C7 c l (i+1),show i+1+l.length=i+(l.length+1)by omega]<;>rfl
theorem K5{t:List Ce}{n e:Int}(h:wJ t n=.error e):e≠0:=by
 unfold wJ at h;split at h
 ·injection h with h;omega
 ·split at h
  ·injection h with h;omega
  ·split at h
   ·injection h with h;omega
   ·split at h
    ·injection h with h;omega
    ·have:=ui (A:=fun e=>e=25∨e=26) (fun c _ e' he=>by
      unfold Ch at he;split at he
      ·simp at he
      ·exact oA _ _ _ _ he) h
     omega
theorem aaa{s:Sl}{r:Re}{I:f_}{w:World}(h:(xR s r).p I w):Mm r:=h.2.2.2.2.1
theorem Iy{α β:Type}{R:kT α}{num:α→β}{s:Sl}{l:List β}{I:f_}{w:World}(h:(LF R num s l).p I w){Q:β→Prop}(hq:∀e:α,(R.fact 0 e).p I w→Q (num e)):∀x∈l,Q x:=fun x hx=>by
 obtain⟨es,rfl,_,_,h4,_⟩:=h;obtain⟨e,he,rfl⟩:=List.mem_map.1 hx;exact hq e (h4 e he)
theorem YA{h i:Sl}{x:Ce}{I:f_}{w:World}(hf:(xL h i x).p I w):Xp x:=
 Iy hf.2 (Q:=fun y=>∀r∈y.f,Mm r) fun e he=>Iy (show(nX e.f e.x.f).p I w from he.1) (Q:=Mm) fun e' he'=>aaa he'
theorem Zu{h c:Sl}{t:Li}{I:f_}{w:World}(hf:(Hy h c t).p I w):∀x∈t.c,Xp x:=
 Iy hf.2 (Q:=Xp) fun e he=>YA he
theorem K7(f:List Re){l:List Ce}{c:Ce}(h:c∈l):c.i.length≤(l.flatMap gi).length:=by
 obtain⟨a,b,rfl⟩:=vy h;have h1:=tD qV c.i;simp only[bA,bj,az];have:(gi c).length=c.h.length+((c.i.flatMap eQ).length+1):=by simp[gi]
 omega
theorem Vq{t:Li}(hv:valid t=true)(hl:(jr t).length≤100000)(hb:∀x∈t.c,Xp x):SN t.c:=by
 have h1:=(uo.1 hv).2;have h2:(t.c.flatMap gi).length≤100000:=by
  have:(jr t).length=t.h.length+((t.c.flatMap gi).length+1):=by simp[jr]
  omega
 exact⟨fun c hc=>(h1 c hc).2,fun c hc=>aP (K7 [] hc) h2,aP (tD qU t.c) h2,hb⟩
def Me(r:LR)(v:Value)(Δ:List aE):Prop:=
 (∃e,r=.error e∧v=.tuple #[.slice none 0 0,.int .i64 e]∧Δ=[])∨∃(l:List Sh) (s:Sl),r=.ok l∧v=.tuple #[bz s,.int .i64 0]∧Δ=[LF oR qK.x s l]
section
variable{Γ:List aE}
theorem LC(ha:Option Addr)(hn hc':Nat)(ca:Option Addr)(cl cc:Nat)(n:Int){t:Li} [hF:aZ (Hy ⟨ha,hn,hc'⟩ ⟨ca,cl,cc⟩) t Γ](hl:(jr t).length≤100000)(hW:valid t=true→zr t.c≤160):au Kt Tryz.prog 12 [mq ⟨ha,hn,hc'⟩ ⟨ca,cl,cc⟩,.int .i64 n] Γ (Me (vh t n)):=by
 obtain⟨R,hR⟩:∃R,vh t n=R:=⟨_,rfl⟩;have hR2:=hR;unfold vh at hR2;rw[hR];refine au.of_W bK Tryz.func12 rfl ?_ (fun _ h=>h.1);refine qx (∀x∈t.c,Xp x) rfl (fun I w _ hh=>Zu (hF.p hh)) (fun hb=>?_);by_cases h1:n<0
 ·rw[if_pos (.inl h1)]at hR2;refine bD [] 15 (decide (n<0)) (aw h1) ?_;exact W.r [12,15] (.tuple #[.slice none 0 0,.int .i64 1]) (.inl ⟨1,hR2.symm,rfl,rfl⟩) bU
 refine aS [] 15 (decide (n<0)) (ak h1) ?_;by_cases h2:n>100000
 ·rw[if_pos (.inr h2)]at hR2;refine bD [15] 12 (decide (n>100000)) (aw h2) ?_;exact W.r [12] (.tuple #[.slice none 0 0,.int .i64 1]) (.inl ⟨1,hR2.symm,rfl,rfl⟩) bU
 rw[if_neg (by omega)]at hR2;refine aS [15] 12 (decide (n>100000)) (ak h2) ?_;refine aj [12] (R_ ⟨ha,hn,hc'⟩ ⟨ca,cl,cc⟩ (t:=t) hl).mF ?_;rintro _ _ ⟨rfl,rfl⟩;cases hv:valid t with
 |false=>
  rw[if_pos hv]at hR2;refine bD [] 19 (!false) rfl ?_;exact W.r [19] (.tuple #[.slice none 0 0,.int .i64 20]) (.inl ⟨20,hR2.symm,rfl,rfl⟩) bU
 |true=>
 rw[if_neg (by rw[hv];simp)]at hR2;have hfit:=Vq hv hl hb;refine aS [] 19 (!true) rfl ?_;refine W.more (Δ:=[pE ⟨ca,cl,cc⟩ t.c]) (by kernel_rfl) (fun I w _ hh=>aV (hF.p hh).2) ?_;refine Jb [19] [] [] (fun bn=>?_);refine Jb [] [] [(bn,[])] (fun cn=>?_);refine Jb [] [] [(cn,[]),(bn,[])] (fun dn=>?_);refine Fa [] [34] (fun a:Xq=>[(34,.int .i64 a.z)]) (fun _=>[]) (fun _=>[]) (fun a=>[(dn,[]),(cn,[]),(bn,bM dT (cf (yb (t.c.take a.j) 0 [])))]) (fun _=>[pE ⟨ca,cl,cc⟩ t.c]) (fun a=>a.z=a.j∧a.j≤cl) (fun a=>cl-a.j) ⟨0,0,false,[]⟩ ⟨rfl,aM _⟩ (eC eK eE) ?_;rintro⟨j,z,g,nm⟩ K ⟨hz,hj⟩ close;simp only at hz hj;refine W.len pG qg.x ⟨ca,cl,cc⟩ rfl (fun c1 c2 c3=>?_);simp only at c1 c2 c3;by_cases hlt:j<cl
 ·obtain⟨x,hx⟩:∃x,t.c[j]? =some x:=⟨_,ar (by omega)⟩;have hst:=C7 x (t.c.take j) 0 [];rw[←fz hx,dF,cz,fu (by omega)]at hst;obtain⟨N,hN⟩:∃N,yb (t.c.take j) 0 []=N:=⟨_,rfl⟩;rw[hN]at hst;refine wj ⟨ca,cl,cc⟩ hx (fun b off fh fi ha=>?_);simp only at ha;subst ha;refine bD [] 35 (decide (z<(cl:Int))) (aw (by omega)) ?_;refine cA [35] 2 b off cl cc .i64 j z hz bK hlt ?_;refine de [] b (off+j*2) [bz fh,bz fi] bK (dL b (off+j*2)) ?_;refine aj [] (Er fh fi (x:=x)).mF ?_;rintro _ _ ⟨rfl,rfl⟩;refine ve [] dT 69 9 3 true [] [(dn,[]),(cn,[]),(bn,bM dT (cf N))] bn (DZ x) (cf N) (.int .i64 0) bK (h:=(by rw[←hN];kernel_rfl)) (.tail _ (.tail _ (.head _))) ?_;rw[mI];cases hg:gJ (DZ x) N with
  |some v=>
   rw[hg]at hst;refine aS [] 50 (!true) rfl ?_;exact close [50] _ _ ⟨j+1,IntKind.i64.wrap (z+1),false,[]⟩ (by kernel_rfl) (by simp only;rw[hst];kernel_rfl) ⟨by simp only[ah];omega,hlt⟩ (by simp only;omega) (eC eK eE)
  |none=>
   rw[hg]at hst;refine bD [] 50 (!false) rfl ?_;refine aj [50] (Er fh fi (x:=x)).mF ?_;rintro _ _ ⟨rfl,rfl⟩;refine Ct [] dT 69 9 3 [] [(dn,[]),(cn,[])] [] bn (DZ x) (.int .i64 z) (cf N) ?_;rw[qR];exact close [] _ _ ⟨j+1,IntKind.i64.wrap (z+1),false,[]⟩ (by kernel_rfl) (by simp only;rw[hst,←hz];kernel_rfl) ⟨by simp only[ah];omega,hlt⟩ (by simp only;omega) (eC eK eE)
 ·obtain rfl:j=cl:=by omega
  refine aS [] 35 (decide (z<(j:Int))) (ak (by omega)) ?_;refine vf 30 (fun fb=>?_);have hnm:yb (t.c.take j) 0 []=cw t.c:=by rw[aW (by omega)];rfl
  have pc:=DH (RQ fb bn cn dn ca j cc n hfit (by omega) (hW hv) [pE ⟨ca,j,cc⟩ t.c]) (M':=[(dn,[]),(cn,[]),(bn,bM dT (cf (cw t.c)))]) (List.perm_append_comm (l₁:=[(bn,bM dT (cf (cw t.c)))]) (l₂:=[(dn,[]),(cn,[])]));refine c_ [35] [] (FO fb ⟨ca,j,cc⟩ bn cn dn n (.slice none 0 0)) [] [] [(dn,[]),(cn,[]),(bn,bM dT (cf (cw t.c)))] [] ⟨rfl,by rfl,trivial⟩ (em:=(by rw[←hnm];kernel_rfl)) pc ?_;rintro _ _ M _ ⟨s,O2,es2,hes,rfl,rfl,hg,rfl⟩;rw[af (FO fb ⟨ca,j,cc⟩ bn cn dn n (bz s)++O2)];cases hRr:wJ t.c n with
  |error e=>
   rw[hRr]at hR2;refine bD [] 62 (e != 0) (by simpa using K5 hRr) ?_;exact W.r [62] (.tuple #[.slice none 0 0,.int .i64 e]) (.inl ⟨e,hR2.symm,rfl,rfl⟩) bU
  |ok l=>
   rw[hRr]at hR2 hes;refine aS [] 62 ((0:Int) != 0) (by decide) ?_;refine cr [62] 5 fb 0 bK ?_;refine dQ [] (FO fb ⟨ca,j,cc⟩ bn cn dn n (bz s)++O2) fb (0+5) 1 [.slice ca j cc,.map (some bn),.map (some cn),.map (some dn),.int .i64 n,bz s] (bz s) bK (.head _) rfl ?_;refine lR (FO fb ⟨ca,j,cc⟩ bn cn dn n (bz s)) O2 [] (by rw[af O2];kernel_rfl) hg (fun g5 g1 g2=>?_);exact W.r [] (.tuple #[bz s,.int .i64 0]) (.inr ⟨l,s,hR2.symm,rfl,rfl⟩) (fun I w hd hh=>aV (by
    rw[←hes l rfl];obtain⟨sa,sn,sc⟩:=s;exact JJ oR qK.x (v:=bz ⟨sa,sn,sc⟩) g5 g1 g2 (aZ.p (k:=ru oR (bz ⟨sa,sn,sc⟩)) inferInstance hh) (aZ.p (k:=RA sa) inferInstance hh)))
end
section
variable{Γ:List aE}
theorem nG(h c:Sl)(n:Int){t:Li} [hF:aZ (Hy h c) t Γ](hl:(jr t).length≤100000)(hW:valid t=true→zr t.c≤160):au tb Tryz.prog 12 [mq h c,.int .i64 n] Γ (Me (vh t n)):=by
 obtain⟨ha,hn,hc'⟩:=h;obtain⟨ca,cl,cc⟩:=c;exact LC ha hn hc' ca cl cc n (t:=t) hl hW
end
theorem xD{α:Type}{f:α→LR}{w:α→Int}:∀{l:List α} {s:List Sh},(∀a∈l,∀s,f a=.ok s→(s.length:Int)=w a)→gl f l=.ok s→(s.length:Int)=(l.map w).sum
 | [],s,_,h=>by
  simp only[gl,oE]at h;subst h;simp
 |a::l,s,hw,h=>by
  unfold gl at h;cases hf:f a with
  |error e=>rw[hf]at h;simp at h
  |ok s1=>
   rw[hf]at h;cases hs:gl f l with
   |error e=>rw[hs]at h;simp at h
   |ok s2=>
    rw[hs]at h;simp only[oE]at h;subst h;have h1:=hw a (by simp) s1 hf;have h2:=xD (fun b hb=>hw b (by simp[hb])) hs;simp only[az,b_,fA];omega
theorem zu.item_eq{t:List Ce}(hD:zu t){n:Nat}{g:Nat→On→LR}(hg:∀c V s,g c V=.ok s→(s.length:Int)=jF t n c){x:Im}(hr:gU x=true){V:On}{s:List Sh}(h:iW t n g V x=.ok s):(s.length:Int)=jd t (jF t n) x:=by
 unfold iW at h;unfold jd;by_cases h8:cC x=8∨cC x=45
 ·rw[if_pos h8]at h⊢;rw[uR h];rfl
 ·rw[if_neg h8]at h⊢;by_cases h9:cC x=9
  ·rw[if_pos h9]at h⊢;split at h
   ·split at h
    ·rename_i hp;injection h with h;subst h;simp[hp]
    ·rename_i hp;rw[if_neg hp,uR h];rfl
   ·split at h<;>simp at h
  ·rw[if_neg h9]at h⊢;by_cases hk:cC x=10∨cC x=11
   ·rw[if_pos hk]at h⊢;obtain⟨_,h1,h2,_⟩:=oL hr hk;unfold mY at h;cases hkn:mu t x with
    |none=>
     rw[hkn]at h;injection h with h;subst h;simp
    |some c=>
     rw[hkn]at h;simp only at h⊢;split at h
     ·rename_i h0;injection h with h;subst h;rw[h0];simp
     ·have key:=xD (w:=fun _:Nat=>((aT x).1.toNat:Int)*jF t n c) (fun a _ s' hs'=>by
       have:=xD (w:=fun _:Nat=>jF t n c) (fun b _ s'' hs''=>hg _ _ _ hs'') hs';rw[oP,dX]at this;exact this) h
      rw[oP,dX]at key;rw[nN (qi h1),nN (qi h2)]at key;have e:(aT x).2*((aT x).1*jF t n c)=jF t n c*(aT x).1*(aT x).2:=by
       rw[iq (aT x).1,iq (aT x).2]
      omega
   ·rw[if_neg hk]at h⊢;injection h with h;subst h;simp
theorem zu.lay_eq{t:List Ce}(hD:zu t):∀(n c:Nat) (V:On) (s:List Sh),fH t n c V=.ok s→(s.length:Int)=jF t n c
 |0,c,V,s,h=>by
  simp only[fH,oE]at h;subst h;simp[jF]
 |n+1,c,V,s,h=>by
  unfold fH at h;unfold jF;refine xD (fun x hx s' hs'=>?_) h;obtain⟨c',hc',hx'⟩:=x7 hx;exact hD.item_eq (hD.lay_eq n) (hD.right c' hc' x hx') hs'
theorem Vf{t:List Ce}(h1:lost t=false)(h3:¬yN t=true)(h4:¬M7 t):zu t:=by
 refine⟨h1,fun c hc x hx=>?_,fun i hi=>?_⟩
 ·unfold yN at h3;rw[eu,not_or]at h3;have h:=h3.2;simp only[zh,cF,not_exists,not_and,Bool.not_eq_false]at h;exact h c hc x hx
 ·cases hd:dep t 64 i with
  |none=>exact absurd ⟨i,hi,hd⟩ h4
  |some d=>exact⟨d,rfl⟩
theorem Lm{t:List Ce}(hD:zu t){l:List Sh}(h:Iu t=.ok l):(l.length:Int)=total t:=by
 unfold Iu at h;unfold total;refine xD (fun c _ s hs=>?_) h;unfold Ch at hs;unfold ox;split at hs
 ·rename_i hn;rw[if_pos hn];injection hs with hs;subst hs;rfl
 ·rename_i hn;rw[if_neg hn];exact hD.lay_eq 64 c yg s hs
def mz(s:ByteArray):List Int:=if s.size % 2=0 then jc s else jc s++[0]
theorem zg(s:ByteArray):ke (mz s):=by
 unfold mz;split
 ·exact tg s
 ·intro z hz;simp only[ez,aD,aC,bp]at hz;rcases hz with hz|rfl
  ·exact tg s z hz
  ·decide
theorem Cm{P:Program}(w:World)(t ty e:TypeId)(i:TypeInfo)(ht:P.underlying t=some (.slice e))(hi:P.info? e=some i)(hs:i.size=1)
  (g n cap:Nat)(cur:Array Value)(p q:Nat)(hg:w.heap[g]? =some (.cells cur e (p,q)))(x:Value)(hx:x.oneCell'=true)(a:Addr)(c:Nat)(ha:w.cell? a=some x)
  (hroom:n+1≤cap)(hn:n<cur.size)(hp:n<p):
  (Builtin.append_ #[t,t] ty #[.slice (some ⟨g,0,none⟩) n cap,.slice (some a) 1 c]).run P w=.ok (.slice (some ⟨g,0,none⟩) (n+1) cap) (w.setCell ⟨g,n,none⟩ x):=by
 have hf:=run_firstCells_some (P:=P) w 1 1 a 1 c [x] rfl (fun j v hv=>by
  cases j with
  |zero=>
   simp at hv;subst hv;simpa [Addr.add]using ha
  |succ j=>simp at hv)
 have c1:w.cell? ⟨g,n,none⟩=some (cur[n]'hn):=by simp[World.cell?,hg,hn]
 have z1:w.frozen? ⟨g,n,none⟩=false:=by
  simp[World.frozen?,hg];omega
 have hst:=run_store P w ⟨g,n,none⟩ x;simp[Builtin.append_,cP ht,sizeOf,typeInfo,hi,hs,Builtin.lenOf,hroom,hf,Addr.add_lit,storeCells,run_store,hx,c1,z1]
theorem PK(w:World)(ty:TypeId)(B n cap:Nat)(cur:Array Value)(p q:Nat)(hg:w.heap[B]? =some (.cells cur 5 (p,q)))(x:Value)(hx:x.oneCell'=true)(a:Addr)(c:Nat)(ha:w.cell? a=some x)
  (hcap:n≤cap)(hcm:cap≤maxLen)(hn:cap≤cur.size)(hp:cap≤p)(hs:n+1≤1000000000):
  ∃(u:Sl) (w':World),(Builtin.append_ #[28,28] ty #[.slice (some ⟨B,0,none⟩) n cap,.slice (some a) 1 c]).run Tryz.prog w=.ok (bz u) w'∧Below B w w'∧u.n=n+1∧u.n≤u.c∧u.c≤maxLen∧
   ∃g,u.ao=some ⟨g,0,none⟩∧B≤g∧∀i v,(cur.toList.take n++[x])[i]? =some v→w'.cell? ⟨g,i,none⟩=some v:=by
 obtain⟨i0,hi0,hz0,hz1,hz2⟩:=info_parts EK.inf;have hBl:=rK hg;have htl:(cur.toList.take n).length=n:=by rw[dF,uu];omega
 by_cases hroom:n+1≤cap
 ·have hr:=Cm (P:=Tryz.prog) w 28 ty 5 i0 EK.ut hi0 hz1 B n cap cur p q hg x hx a c ha hroom (by omega) (by omega);refine⟨⟨some ⟨B,0,none⟩,n+1,cap⟩,_,hr,⟨rfl,rfl,rfl,by rw[pK];omega,fun k hk=>eS (by omega)⟩,rfl,hroom,hcm,B,rfl,ai _,fun i v hv=>?_⟩;have h2:(w.setCell ⟨B,n,none⟩ x).heap[B]? =some (.cells (cur.setIfInBounds n x) 5 (p,q)):=by simp[World.setCell,jX,hg]
  have hi:i<n+1:=by
   have:=(List.getElem?_eq_some_iff.1 hv).1;simp only[az,htl,aF,bE]at this;omega
  simp only[World.cell?,h2,lq,iK,ea];rw[Array.getElem?_setIfInBounds];by_cases hin:i=n
  ·subst hin;rw[e_ (by omega),htl,qu]at hv;rw[if_pos rfl,if_pos (by omega)];exact hv
  ·rw[dD (by omega),di,if_pos (by omega),eT]at hv;rw[if_neg (by omega)];exact hv
 ·obtain rfl:n=cap:=by omega
  have holds:∀j v,(cur.toList.take n)[j]? =some v→w.cell? ((⟨B,0,none⟩:Addr).add j)=some v:=fun j v hv=>by
   have hj:j<n:=by
    have:=(List.getElem?_eq_some_iff.1 hv).1;omega
   rw[di,if_pos hj,eT]at hv;rw[show(⟨B,0,none⟩:Addr).add j=⟨B,j,none⟩from by unfold Addr.add;split<;>simp_all];simp only[World.cell?,hg,lq,iK,ea];exact hv
  have hr:=run_append_grow (P:=Tryz.prog) w 28 ty 5 i0 (.int .u8 0) EK.ut hi0 hz0 ⟨B,0,none⟩ n n (cur.toList.take n) (by rw[htl,hz1,fO]) holds a 1 c [x] (by rw[hz1];rfl) (fun j v hv=>by
   cases j with
   |zero=>
    simp at hv;subst hv;simpa [Addr.add]using ha
   |succ j=>simp at hv) (by omega) (by omega) (growslice_fits (by omega) (by rw[hz2];omega))
  have hge:=grownCap_ge w (n+1) n 5;have hle:=grownCap_le_maxLen w (n+1) n 5 (by unfold maxLen;omega);refine⟨⟨some ⟨w.heap.size,0,none⟩,n+1,grownCap w (n+1) n 5⟩,_,hr,⟨rfl,rfl,rfl,by simp,fun k hk=>by
   rw[jA (show k<w.drew.heap.size from Nat.lt_trans hk hBl)];rfl⟩,rfl,hge,hle,w.heap.size,rfl,by omega,fun i v hv=>?_⟩
  have h2:=mS w.drew (.cells ((cur.toList.take n).toArray++[x].toArray++Builtin.zeroCells (Value.int IntKind.u8 0).cells (grownCap w (n+1) n 5-(n+1))) 5);have e:w.drew.heap.size=w.heap.size:=rfl;rw[e]at h2;simp only[World.cell?,h2,lq,iK,ea];rw[←eT,Array.toList_append,Array.toList_append,dD (by
   have:=(List.getElem?_eq_some_iff.1 hv).1;simpa using this)]
  exact hv
theorem Hq{w:World}{ops:Array Oper}{rest:List Oper}{o:Oper}{a:Act}{Q:Exit→Act→World→Prop}(hgd:o.guard=none)(s y:Operand)
  (ho:o.op=.call {callee:=.builtin .append,args:= #[s,y],argTypes:= #[28,28]})(B n cap:Nat)(cur:Array Value)(p q:Nat)(x:Value)(ad:Addr)(c:Nat)(hs:a.eval s=.slice (some ⟨B,0,none⟩) n cap)(hy:a.eval y=.slice (some ad) 1 c)
  (hg:w.heap[B]? =some (.cells cur 5 (p,q)))(hx:x.oneCell'=true)(ha:w.cell? ad=some x)
  (hcap:n≤cap)(hcm:cap≤maxLen)(hn:cap≤cur.size)(hp:cap≤p)(hl:n+1≤1000000000)
  (h:∀(u:Sl) (w':World),Below B w w'→u.n=n+1→u.n≤u.c→u.c≤maxLen→(∃g,u.ao=some ⟨g,0,none⟩∧B≤g∧∀i v,(cur.toList.take n++[x])[i]? =some v→w'.cell? ⟨g,i,none⟩=some v)→wpList Tryz.prog ops Q rest (a.put o.dst (.slice u.ao u.n u.c)) w'):
  wpList Tryz.prog ops Q (o::rest) a w:=
 wpList_plain hgd fun _ hK=>by
  obtain⟨u,w',hr,h1,h2,h3,h4,h5⟩:=PK w o.type B n cap cur p q hg x hx ad c ha hcap hcm hn hp hl;unfold Oper.wp execOp;simp only[ho,resolve,invoke,builtin,cB,dS,bC,List.map_toArray,b_,cZ,hs,hy,hr];exact hK _ _ (h u w' h1 h2 h3 h4 h5)
section
variable{Γ:List aE}
set_option maxRecDepth 100000 in
theorem xh(s:ByteArray)(hz:s.size≤1000000):au tb Tryz.prog 22 [.string s] Γ (fun v Δ=>∃u:Sl,v=bz u∧Δ=[BF u (mz s)]):=by
 refine⟨⟨_,Tryz.func22,by kernel_rfl,by kernel_rfl⟩,fun I w hd hh=>?_⟩;have hcv:=Lib.run_convert_string_bytes (P:=Tryz.prog) w 9 28 5 s (u:=.string) Tryz.underlying9 Tryz.underlying28 Tryz.underlying5;have hb1:Below w.heap.size w (Lib.bytesWorld w 5 s):=⟨rfl,rfl,rfl,by rw[Lib.bytesWorld_size];omega,fun k hk=>Lib.bytesWorld_at_old w _ s k hk⟩;have hg:=Lib.bytesWorld_at_new w 5 s;have hge:=grownCap_ge w s.size 0 5;have hle:=grownCap_le_maxLen w s.size 0 5 (by unfold maxLen;omega);have hcs:(Lib.bytesCells w 5 s).size=grownCap w s.size 0 5:=by
  unfold Lib.bytesCells;simp only[Array.size_append,Array.size_map,Array.size_replicate];have:s.data.size=s.size:=rfl;omega
 have htk:(Lib.bytesCells w 5 s).toList.take s.size=(jc s).map (Value.int .u8):=by
  unfold Lib.bytesCells jc;rw[Array.toList_append,List.take_left' (by rw[uu,Array.size_map];rfl),Array.toList_map,List.map_map];rfl
 rw[hcs]at hg;generalize Lib.bytesWorld w 5 s=W1 at*;generalize Lib.bytesCells w 5 s=cur at*;generalize grownCap w s.size 0 5=cap at*;have hsz1:w.heap.size<W1.heap.size:=rK hg
 go_enter Tryz.func22,Tryz.ntmps22
 go_wp2_with (refine Hq rfl (.tmp 10) (.tmp 11) rfl w.heap.size s.size cap cur cap (cap+1) (.int .u8 0) ⟨W1.heap.size,0,none⟩ 1 rfl rfl (kB hg) rfl (by simp only[World.cell?,mS];rfl) hge hle (by omega) (ai _) (by omega) ?_;intro u w2 hb2 hu1 hu2 hu3 hu4)
 ·rename_i hodd
  go_ret
  obtain⟨ao,un,uc⟩:=u;obtain rfl:un=s.size+1:=hu1;obtain⟨g,hao,hgB,hcell⟩:=hu4;have hao:ao=some ⟨g,0,none⟩:=hao;subst hao;have hpar:¬s.size % 2=0:=by
   intro h0;rw[bne_iff_ne]at hodd;omega
  have ht:mz s=jc s++[0]:=by unfold mz;rw[if_neg hpar]
  refine⟨_,[BF ⟨some ⟨g,0,none⟩,s.size+1,uc⟩ (mz s)],rfl,⟨⟨some ⟨g,0,none⟩,s.size+1,uc⟩,rfl,rfl⟩,hb1.trans (((Below.refl w.heap.size W1).alloc (by omega) _).trans hb2),aV ⟨?_,⟨hu2,hu3⟩,zg s,fun hne=>⟨g,0,rfl,fun hlt=>absurd hlt (by omega),fun i v hv=>?_⟩⟩⟩
  ·rw[ht,az,uz];rfl
  ·rw[cz];refine hcell i v ?_;rw[htk,←hv,ht,aX];rfl
 ·rename_i heven
  go_ret
  have hpar:s.size % 2=0:=by
   have h1:((s.size:Int) % 2 != 0)=false:=by simpa using heven
   rw[bne_eq_false_iff_eq]at h1;omega
  have ht:mz s=jc s:=by unfold mz;rw[if_pos hpar]
  refine⟨_,[BF ⟨some ⟨w.heap.size,0,none⟩,s.size,cap⟩ (mz s)],rfl,⟨⟨some ⟨w.heap.size,0,none⟩,s.size,cap⟩,rfl,rfl⟩,hb1,aV ⟨by rw[ht,uz],⟨hge,hle⟩,zg s,fun hne=>⟨w.heap.size,0,rfl,fun hlt=>absurd hlt (by omega),fun i v hv=>?_⟩⟩⟩;rw[ht,←htk,di]at hv;split at hv
  ·rw[cz];simp only[World.cell?,hg,lq,iK,ea];rw[←eT];exact hv
  ·simp at hv
end
def sB(z:Int):List Int:=[z/256 % 256,z % 256]
def lB(z:Int):List Int:=[z/16777216 % 256,z/65536 % 256,z/256 % 256,z % 256]
theorem PL(l:List Int):ke (l.flatMap sB):=by
 intro z hz;obtain⟨x,_,hx⟩:=List.mem_flatMap.1 hz;simp only[sB,aD,aC,bp]at hx;rcases hx with rfl|rfl<;>omega
theorem N7(l:List Int):ke (l.flatMap lB):=by
 intro z hz;obtain⟨x,_,hx⟩:=List.mem_flatMap.1 hz;simp only[lB,aD,aC,bp]at hx;rcases hx with rfl|rfl|rfl|rfl<;>omega
theorem WW(l:List Int):(l.flatMap sB).length=2*l.length:=by
 induction l with
 |nil=>rfl
 |cons z l ih=>
  rw[bj,az,ih];simp only[sB,aF,bE];omega
theorem N8(l:List Int):(l.flatMap lB).length=4*l.length:=by
 induction l with
 |nil=>rfl
 |cons z l ih=>
  rw[bj,az,ih];simp only[lB,aF,bE];omega
theorem LS{l:List Int}(h:∀z∈l,-32768≤z∧z<32768):dM (l.flatMap sB)=l:=by
 induction l with
 |nil=>rfl
 |cons z l ih=>
  have h1:=h z (by simp);show Si _ _::dM (l.flatMap sB)=z::l;rw[ih (fun y hy=>h y (by simp[hy]))];congr 1;unfold Si;split<;>omega
theorem Bb{l:List Int}(h:∀z∈l,-2147483648≤z∧z<2147483648):fe (l.flatMap lB)=l:=by
 induction l with
 |nil=>rfl
 |cons z l ih=>
  have h1:=h z (by simp);show Sj _ _ _ _::fe (l.flatMap lB)=z::l;rw[ih (fun y hy=>h y (by simp[hy]))];congr 1;unfold Sj;split<;>omega
theorem Kx{l:List Int}:∀u∈l.map (Value.int .u8),u.oneCell'=true:=fun u hu=>by
 obtain⟨z,_,rfl⟩:=List.mem_map.1 hu;rfl
theorem yD{α β:Type}{l:List α}{i:Nat}{x:α}(f:α→List β)(h:l[i]? =some x):(l.take (i+1)).flatMap f=(l.take i).flatMap f++f x:=by
 rw[lH h,bA];simp
section
variable{Γ:List aE}
theorem pg(s:Sl){l:List Int} [h:aZ (NL s) l Γ](hl:l.length≤100000):au tb Tryz.prog 23 [bz s] Γ (fun v Δ=>∃u:Sl,v=bz u∧Δ=[BF u (l.flatMap sB)]):=by
 refine au.of_W aB Tryz.func23 rfl ?_;refine Mx s rfl (fun h1 h2 h4=>?_);refine j0 [] [3,8] (fun a:SO=>[(3,a.v),(8,.int .i64 a.z)]) (fun _=>[]) (fun a=>a.O) (fun _=>[NL s l]) (fun a=>a.z=(a.i:Int)∧a.i≤l.length∧cG 1 a.O a.v (2*a.i) (((l.take a.i).flatMap sB).map (Value.int .u8))) (fun a=>l.length-a.i) ⟨0,0,.slice none 0 0,[]⟩ ⟨rfl,aM _,cG.nil 1⟩ (eC eK eE) ?_;rintro⟨i,z,v,O⟩ K ⟨hz,hi,hg⟩ close;simp only at hz hi hg;by_cases hlt:i<l.length
 ·obtain⟨x,hx⟩:∃x,l[i]? =some x:=⟨_,ar hlt⟩;obtain⟨bb,off,hao⟩:=h4 (by rintro rfl;simp at hlt);obtain⟨sa,sn,sc⟩:=s;simp only at h1 h2 hao;subst hao;refine bD [] 9 (decide (z<(sn:Int))) (aw (by omega)) ?_;refine cA [9] 1 bb off sn sc .i64 i z hz aB (by omega) ?_;refine eg [] 1 bb (off+i*1) (.int .i64 x) aB (sG bb off sn sc hx) ?_;refine W.shr [] .i64 .u64 x 8 (x/256) (by decide) (by rw[show(min (8:Int).toNat IntKind.i64.bits)=8 by decide,mC _ (by decide)];rfl) ?_;refine cI [] 2 [.int .u8 (IntKind.u8.wrap (x/256)),.int .u8 (IntKind.u8.wrap x)] aB (fun B=>?_);refine W.app [] O [] O [] 1 1 (2*i) 2 v (.slice (some ⟨B,0,none⟩) 2 2) (((l.take i).flatMap sB).map (Value.int .u8)) [.int .u8 (IntKind.u8.wrap (x/256)),.int .u8 (IntKind.u8.wrap x)] aB (by simp) hg (bW B O 2 1 rfl 2) (Kx (l:=[IntKind.u8.wrap (x/256),IntKind.u8.wrap x])) (by omega) (by decide) (fun v' O' hg'=>?_);refine close [] _ _ ⟨i+1,IntKind.i64.wrap (z+1),v',O'⟩ (by kernel_rfl) (by simp only[aA,af];kernel_rfl) ⟨by simp only[ah];omega,by simp only;omega,cG.cast ?_ (by simp only;omega) hg'⟩ (by simp only;omega) (eC eK eE);simp only;rw[yD sB hx,aX,mo,mo];rfl
 ·refine aS [] 9 (decide (z<(s.n:Int))) (ak (by omega)) ?_;rw[aW (by omega)]at hg;refine lQ (by simp only[aA,af];kernel_rfl) hg (fun ao c' hv hc'=>?_);subst hv;have hcm:c'≤maxLen:=oZ hg;exact W.r [9] (.slice ao (2*i) c') ⟨⟨ao,2*i,c'⟩,rfl,rfl⟩ (fun I w _ hh=>aV (show(BF ⟨ao,2*i,c'⟩ (l.flatMap sB)).p I w from⟨by rw[WW];simp only;omega,⟨hc',hcm⟩,PL l,aZ.p (k:=RA ao) (a:=(l.flatMap sB).map (Value.int .u8)) inferInstance hh⟩))
theorem ri(s:Sl){l:List Int} [h:aZ (NL s) l Γ](hl:l.length≤100000):au tb Tryz.prog 24 [bz s] Γ (fun v Δ=>∃u:Sl,v=bz u∧Δ=[BF u (l.flatMap lB)]):=by
 refine au.of_W aB Tryz.func24 rfl ?_;refine Mx s rfl (fun h1 h2 h4=>?_);refine j0 [] [3,8] (fun a:SO=>[(3,a.v),(8,.int .i64 a.z)]) (fun _=>[]) (fun a=>a.O) (fun _=>[NL s l]) (fun a=>a.z=(a.i:Int)∧a.i≤l.length∧cG 1 a.O a.v (4*a.i) (((l.take a.i).flatMap lB).map (Value.int .u8))) (fun a=>l.length-a.i) ⟨0,0,.slice none 0 0,[]⟩ ⟨rfl,aM _,cG.nil 1⟩ (eC eK eE) ?_;rintro⟨i,z,v,O⟩ K ⟨hz,hi,hg⟩ close;simp only at hz hi hg;by_cases hlt:i<l.length
 ·obtain⟨x,hx⟩:∃x,l[i]? =some x:=⟨_,ar hlt⟩;obtain⟨bb,off,hao⟩:=h4 (by rintro rfl;simp at hlt);obtain⟨sa,sn,sc⟩:=s;simp only at h1 h2 hao;subst hao;refine bD [] 9 (decide (z<(sn:Int))) (aw (by omega)) ?_;refine cA [9] 1 bb off sn sc .i64 i z hz aB (by omega) ?_;refine eg [] 1 bb (off+i*1) (.int .i64 x) aB (sG bb off sn sc hx) ?_;refine W.shr [] .i64 .u64 x 24 (x/16777216) (by decide) (by rw[show(min (24:Int).toNat IntKind.i64.bits)=24 by decide,mC _ (by decide)];rfl) ?_;refine W.shr [] .i64 .u64 x 16 (x/65536) (by decide) (by rw[show(min (16:Int).toNat IntKind.i64.bits)=16 by decide,mC _ (by decide)];rfl) ?_;refine W.shr [] .i64 .u64 x 8 (x/256) (by decide) (by rw[show(min (8:Int).toNat IntKind.i64.bits)=8 by decide,mC _ (by decide)];rfl) ?_;refine cI [] 4 [.int .u8 (IntKind.u8.wrap (x/16777216)),.int .u8 (IntKind.u8.wrap (x/65536)),.int .u8 (IntKind.u8.wrap (x/256)),.int .u8 (IntKind.u8.wrap x)] aB (fun B=>?_);refine W.app [] O [] O [] 1 1 (4*i) 4 v (.slice (some ⟨B,0,none⟩) 4 4) (((l.take i).flatMap lB).map (Value.int .u8)) [.int .u8 (IntKind.u8.wrap (x/16777216)),.int .u8 (IntKind.u8.wrap (x/65536)),.int .u8 (IntKind.u8.wrap (x/256)),.int .u8 (IntKind.u8.wrap x)] aB (by simp) hg (bW B O 4 1 rfl 4) (Kx (l:=[IntKind.u8.wrap (x/16777216),IntKind.u8.wrap (x/65536),IntKind.u8.wrap (x/256),IntKind.u8.wrap x])) (by omega) (by decide) (fun v' O' hg'=>?_)
  refine close [] _ _ ⟨i+1,IntKind.i64.wrap (z+1),v',O'⟩ (by kernel_rfl) (by simp only[aA,af];kernel_rfl) ⟨by simp only[ah];omega,by simp only;omega,cG.cast ?_ (by simp only;omega) hg'⟩ (by simp only;omega) (eC eK eE);simp only;rw[yD lB hx,aX,mo,mo,mo,mo];rfl
 ·refine aS [] 9 (decide (z<(s.n:Int))) (ak (by omega)) ?_;rw[aW (by omega)]at hg;refine lQ (by simp only[aA,af];kernel_rfl) hg (fun ao c' hv hc'=>?_);subst hv;have hcm:c'≤maxLen:=oZ hg;exact W.r [9] (.slice ao (4*i) c') ⟨⟨ao,4*i,c'⟩,rfl,rfl⟩ (fun I w _ hh=>aV (show(BF ⟨ao,4*i,c'⟩ (l.flatMap lB)).p I w from⟨by rw[N8];simp only;omega,⟨hc',hcm⟩,N7 l,aZ.p (k:=RA ao) (a:=(l.flatMap lB).map (Value.int .u8)) inferInstance hh⟩))
theorem gN(k d:Int)(u:Sl):au tb Tryz.prog 21 [.int .u8 k,.int .u8 d,bz u] Γ (jv (.agg #[.int .u8 k,.int .u8 d,bz u])):=by
 refine au.of_W aB Tryz.func21 rfl ?_;exact W.r [] (.agg #[.int .u8 k,.int .u8 d,.slice u.ao u.n u.c]) ⟨rfl,rfl⟩ bU
end
end Go.Proofs.YtgaaopjagcaojaaGreat
