import Derived.Test.YtgaaopjagcaojaaGreatMo
set_option linter.unusedSimpArgs false
set_option linter.unusedVariables false
namespace Go.Proofs.YtgaaopjagcaojaaGreat
open Go.RowKit Go.IntWalk
def Ah(nm:List (Int×Value))(L:List Int):Prop:=∀k,gG k nm=if k∈L then some (.bool true)else none
theorem Ah.nil:Ah [] []:=fun k=>rfl
theorem Ah.set{nm:List (Int×Value)}{L:List Int}(h:Ah nm L)(k:Int):Ah (kV k (.bool true) nm) (L++[k]):=fun j=>by
 rw[iG,h j];by_cases hj:j=k
 ·subst hj;simp
 ·simp[hj]
theorem Ah.look{nm:List (Int×Value)}{L:List Int}(h:Ah nm L)(k:Int):(gG k nm).getD (.bool false)=.bool (decide (k∈L)):=by
 rw[h k];by_cases hk:k∈L<;>simp[hk]
def wX(t:List Ce)(l:List Ce):List Int:=l.flatMap (iZ (cw t))
theorem Gg{t:List Ce}(h:lost t=false)(c:Nat):decide ((c:Int)∈wX t t)=rT t c:=by
 have e1:((c:Int)∈wX t t)↔∃a,a<t.length∧c∈fE t a:=by
  unfold wX;rw[List.mem_flatMap];constructor
  ·rintro⟨x,hx,hc⟩;obtain⟨a,ha,he⟩:=List.getElem_of_mem hx;have hax:t[a]? =some x:=by rw[ar ha,he]
   rw[Ei h hax,Ag]at hc;obtain⟨k,hk,e⟩:=hc;exact⟨a,ha,by rw[←Int.natCast_inj.1 e];exact hk⟩
  ·rintro⟨a,ha,hc⟩;have hax:t[a]? =some t[a]:=ar ha;exact⟨t[a],dW ha,by rw[Ei h hax];exact List.mem_map.2 ⟨c,hc,rfl⟩⟩
 unfold rT;by_cases hc:(c:Int)∈wX t t
 ·rw[aw hc];obtain⟨a,ha,hk⟩:=e1.1 hc;have h1:(fE t a).contains c=true:=List.contains_iff_mem.2 hk;exact(List.any_eq_true.2 ⟨a,List.mem_range.2 ha,h1⟩).symm
 ·rw[ak hc];refine(List.any_eq_false.2 fun a ha hk=>hc (e1.2 ⟨a,List.mem_range.1 ha,?_⟩)).symm;have h1:(fE t a).contains c=true:=hk;exact List.contains_iff_mem.1 h1
theorem AG(t:List Ce)(c:Ce):∀(l:List Ce) (i:Nat),yO t (l++[c]) i=(yO t l i|| !(ns t (D4 c)==some (i+l.length)))
 | [],i=>by simp[yO]
 |a::l,i=>by
  simp only[dO,yO,AG t c l (i+1),aF,Bool.or_assoc];rw[show i+1+l.length=i+(l.length+1)by omega]
theorem R5{t:List Ce}{c:Ce}(h:c∈t):∃k,ns t (D4 c)=some k:=AV ⟨c,h,rfl⟩
theorem C8{t:List Ce}{j:Nat}{x:Ce}(hx:t[j]? =some x)(h:rf t x=true):lost t=true:=List.any_eq_true.2 ⟨x,aO hx,h⟩
theorem OP{t:List Ce}(h:∀(j:Nat) (x:Ce),t[j]? =some x→rf t x=false):lost t=false:=by
 unfold lost;rw[ko];intro x hx;obtain⟨j,hj⟩:=mA hx;rw[h j x hj];simp
theorem Nw{t:List Ce}:∀{d n c:Nat},dep t n c=some d→dep t d c=some d:=by
 intro d
 induction d using Nat.strongRecOn with
 |ind d ih=>
 intro n c h;cases n with
 |zero=>simp[dep]at h
 |succ n=>
  unfold dep at h;cases hq:jG (dep t n) (fE t c) 0 with
  |none=>rw[hq]at h;simp at h
  |some r=>
   rw[hq]at h;simp only[dq,aq]at h;subst h;unfold dep;have:jG (dep t r) (fE t c) 0=some r:=by
    rw[←hq];refine oV fun k hk=>?_;obtain⟨e,he,hle⟩:=(lT hq).2 k hk;rw[he];exact nk (ih e (by omega) he) hle
   rw[this];rfl
theorem uv(f:Nat→Int){j n:Nat}(h:j<n):(((List.range n).take (j+1)).map f).sum=(((List.range n).take j).map f).sum+f j:=by
 have hj:(List.range n)[j]? =some j:=nH h;rw[fy hj,aW,s8];simp
theorem DJ{T:Tb}{P:Program}{f:FuncId}{args:List Value}{Oin:List (Nat×List Value)}{M M':List (Nat×List (Value×Value))}{Γ:List aE}{post:Value→List (Nat×List Value)→List (Nat×List (Value×Value))→List aE→Prop}
  (h:dC T P f args Oin M Γ post)(hm:M.Perm M'):dC T P f args Oin M' Γ post:=by
 have e:gS Oin M=gS Oin M':=by
  funext b;unfold gS;apply propext;constructor
  ·rintro(h|⟨m,h⟩)
   ·exact .inl h
   ·exact .inr ⟨m,hm.mem_iff.1 h⟩
  ·rintro(h|⟨m,h⟩)
   ·exact .inl h
   ·exact .inr ⟨m,hm.mem_iff.2 h⟩
 refine⟨h.1,fun I w hd hh ho hon hma hmn hx=>?_⟩;rw[←e]at hx⊢;exact h.2 I w hd hh ho hon (fun b m hb=>hma b m (hm.mem_iff.1 hb)) ((hm.map (·.1)).nodup_iff.2 hmn) hx
structure Yb where
 j:Nat
 z:Int
 f:Bool
 nm:List (Int×Value)
structure CkB where
 j:Nat
 z:Int
 d:Nat
 dm:List (Int×Int)
structure CkD where
 j:Nat
 z:Int
 n:Int
 cm:List (Int×Int)
def ck0(fb mb:Nat)(cs:Sl):Yb→List (Nat×SV):=fun a=>[(0,.val (fp fb)),(4,.val (.map (some mb))),(27,.val (bz cs)),(28,.val (.int .i64 cs.n)),(3,.val (.bool a.f)),(2,.val (.int .i64 0)),(29,.val (.int .i64 a.z))]
def ck1(fb mb:Nat)(n:Nat)(f:Bool):CkB→List (Nat×SV):=fun a=>[(0,.val (fp fb)),(3,.val (.bool f)),(4,.val (.map (some mb))),(68,.val (.int .i64 n)),(2,.val (.int .i64 0)),(11,.val (.int .i64 a.d)),(69,.val (.int .i64 a.z))]
def ck2(fb mb:Nat)(cs:Sl)(d:Nat):Yb→List (Nat×SV):=fun a=>[(0,.val (fp fb)),(2,.val (.int .i64 0)),(4,.val (.map (some mb))),(11,.val (.int .i64 d)),(87,.val (bz cs)),(88,.val (.int .i64 cs.n)),(3,.val (.bool a.f)),(89,.val (.int .i64 a.z))]
def ck3(fb mb:Nat)(n:Nat):CkD→List (Nat×SV):=fun a=>[(0,.val (fp fb)),(2,.val (.int .i64 0)),(4,.val (.map (some mb))),(117,.val (.int .i64 n)),(19,.val (.int .i64 a.n)),(118,.val (.int .i64 a.z))]
def ck4(fb mb:Nat)(n:Nat):MD→List (Nat×SV):=fun a=>[(0,.val (fp fb)),(4,.val (.map (some mb))),(147,.val (.int .i64 n)),(2,.val (.int .i64 0)),(148,.val (.int .i64 a.z))]
theorem W7(I:fZ)(w:World)(hd:bB tb I w):(OF ⟨bV,bV,bV,bV,bV⟩ (0,Es)).p I w:=by
 have h:=(kX (Γ:=[]) (L':=0) I w hd (aG.nil _ _)).h0';exact⟨h,h,h,h,h⟩
theorem Pe(v:Value)(I:fZ)(w:World):(rB oR v []).p I w:=fun e he=>by simp at he
section
set_option maxHeartbeats 8000000 in
theorem Ss(fb bn cn dn:Nat)(ca:Option Addr)(cl cc:Nat)(most:Int){t:List Ce}(hF:Tp t)(tL:0≤most∧most≤100000)(hW:zx t≤160)(Γ:List aE) [aY (pF ⟨ca,cl,cc⟩) t Γ]:
  dC KH Tryz.prog 28 [fp fb] (FO fb ⟨ca,cl,cc⟩ bn cn dn most (.slice none 0 0)) [(bn,bM dT (b_ (cw t))),(dn,[]),(cn,[])] Γ (fun v O _ Δ=>DH (yQ t most) (fun v=>FO fb ⟨ca,cl,cc⟩ bn cn dn most v) [] v O Δ):=by
 obtain⟨R,hR⟩:∃R,yQ t most=R:=⟨_,rfl⟩;have hR2:=hR;unfold yQ at hR2;rw[hR];have back:∀e:Int,R=.error e→∀(Γ':List aE),DH R (fun v=>FO fb ⟨ca,cl,cc⟩ bn cn dn most v) [] (.int .i64 e) (FO fb ⟨ca,cl,cc⟩ bn cn dn most (.slice none 0 0)) [rB oR (bz ⟨none,0,0⟩) ([]++[])]:=fun e he Γ'=>
  ⟨⟨none,0,0⟩,[],[],fun q h=>by rw[he]at h;simp at h,by rw[he];rfl,rfl,cG.nil 3,rfl⟩
 have K9:∀(Γ':List aE) (I:fZ) (w:World),bB KH I w→aG Γ' I w→aG [rB oR (bz ⟨none,0,0⟩) ([]++[])] I w:=fun Γ' I w _ _=>aU (Pe _ I w);refine dC.of_W bK Tryz.func28 rfl ?_;refine W.len pH qi.x ⟨ca,cl,cc⟩ rfl (fun c1 c2 c3=>?_);simp only at c1 c2 c3;have htl:=hF.tl;refine Jl [] (FO fb ⟨ca,cl,cc⟩ bn cn dn most (.slice none 0 0)) [(bn,bM dT (b_ (cw t))),(dn,[]),(cn,[])] (fun mb=>?_);refine cr [] 0 fb 0 bK ?_;refine dQ [] (FO fb ⟨ca,cl,cc⟩ bn cn dn most (.slice none 0 0)) fb (0+0) 1 [.slice ca cl cc,.map (some bn),.map (some cn),.map (some dn),.int .i64 most,.slice none 0 0] (.slice ca cl cc) bK (.head _) rfl ?_;refine kB [] Tryz.f28 0 163 163 [0,4,27,28,3,2,29] [] (ck0 fb mb ⟨ca,cl,cc⟩) (fun _=>[]) (fun _=>FO fb ⟨ca,cl,cc⟩ bn cn dn most (.slice none 0 0)) (fun a=>[(mb,bM dA a.nm),(bn,bM dT (b_ (cw t))),(dn,[]),(cn,[])]) (fun a=>[pF ⟨ca,cl,cc⟩ t])
  (fun a=>a.z=a.j∧a.j≤cl∧a.f=yO t (t.take a.j) 0∧Ah a.nm (wX t (t.take a.j))∧∀(i:Nat) (x:Ce),i<a.j→t[i]? =some x→rf t x=false) (fun a=>cl-a.j) ⟨0,0,false,[]⟩ ⟨rfl,aM _,rfl,Ah.nil,fun i x hi=>absurd hi (jj _)⟩ (eC eK eE) ?_
 rintro⟨j,z,f,nm⟩ K ⟨hz,hj,hf,hnm,hlo⟩ close;simp only at hz hj hf hnm hlo;by_cases hlt:j<cl
 ·obtain⟨x,hx⟩:∃x,t[j]? =some x:=⟨_,ar (by omega)⟩;have hxm:=aO hx;obtain⟨k,hk⟩:=R5 hxm;have Ls:gG (D4 x) (b_ (cw t))=some (.int .i64 (k:Int)):=by
   rw[mE,vJ,hk];rfl
  have RY:yO t (t.take (j+1)) 0=(f|| !((k:Int)==z)):=by
   have e1:(some k==some j)=((k:Int)==(j:Int)):=by
    by_cases hkj:k=j
    ·subst hkj;simp
    ·have h2:(k:Int)≠(j:Int):=by omega
     rw[beq_eq_false_iff_ne.2 h2,beq_eq_false_iff_ne.2 (fun h=>hkj (Option.some.inj h))]
   rw[fy hx,AG,←hf,hk,dF,cz,fu (by omega),hz,e1]
  refine wv ⟨ca,cl,cc⟩ hx (fun b off fh fi ha=>?_);simp only at ha;subst ha;refine bD [] 30 (decide (z<(cl:Int))) (aw (by omega)) ?_;refine cA [30] 2 b off cl cc .i64 j z hz bK hlt ?_;refine dd [] b (off+j*2) [bz fh,bz fi] bK (dL b (off+j*2)) ?_;refine cr [] 1 fb 0 bK ?_;refine dQ [] (FO fb ⟨some ⟨b,off,none⟩,cl,cc⟩ bn cn dn most (.slice none 0 0)) fb (0+1) 1 [.slice (some ⟨b,off,none⟩) cl cc,.map (some bn),.map (some cn),.map (some dn),.int .i64 most,.slice none 0 0] (.map (some bn)) bK (.head _) rfl ?_;refine aj [] (Ex fh fi (x:=x)).mF ?_;rintro _ _ ⟨rfl,rfl⟩;refine vk [] dT 69 9 3 true (FO fb ⟨some ⟨b,off,none⟩,cl,cc⟩ bn cn dn most (.slice none 0 0)) [(mb,bM dA nm),(bn,bM dT (b_ (cw t))),(dn,[]),(cn,[])] bn (D4 x) (b_ (cw t)) (.int .i64 0) bK (.tail _ (.head _)) ?_;rw[Ls];refine bD [] 45 true rfl ?_;by_cases hkz:(k:Int)=z
  ·refine aS [45] 49 ((k:Int) != z) (by rw[hkz];simp) ?_;rw[hkz,beq_self_eq_true,Bool.not_true,Bool.or_false]at RY;refine cZ [49] [] (FO fb ⟨some ⟨b,off,none⟩,cl,cc⟩ bn cn dn most (.slice none 0 0)) [] [(mb,bM dA nm)] [(bn,bM dT (b_ (cw t)))] [(dn,[]),(cn,[])] ⟨rfl,by rfl,trivial⟩ (IQ fb bn cn dn ⟨some ⟨b,off,none⟩,cl,cc⟩ most (.slice none 0 0) z (i:=j) hz (t:=t) hx (hF.ce x hxm) (hF.len x hxm) (cw t)) ?_;rintro _ _ _ _ ⟨u,hu,rfl,rfl,rfl,rfl⟩;obtain⟨ua,un,uc⟩:=u;simp only at hu;refine Fg [] [2,54] (fun a:Yb=>[(2,.int .i64 0),(54,.int .i64 a.z)]) (fun _=>[]) (fun _=>FO fb ⟨some ⟨b,off,none⟩,cl,cc⟩ bn cn dn most (.slice none 0 0)) (fun a=>[(mb,bM dA a.nm),(bn,bM dT (b_ (cw t))),(dn,[]),(cn,[])]) (fun a=>[NL ⟨ua,un,uc⟩ (iZ (cw t) x),pF ⟨some ⟨b,off,none⟩,cl,cc⟩ t])
    (fun a=>a.z=a.j∧a.j≤un∧Ah a.nm (wX t (t.take j)++(iZ (cw t) x).take a.j)∧∀k∈(iZ (cw t) x).take a.j,¬k<0) (fun a=>un-a.j) ⟨0,0,false,nm⟩ ⟨rfl,aM _,by simpa using hnm,fun k hk=>by simp at hk⟩ (eC eK (eC eK eE)) ?_
   rintro⟨q,y,g,Rg⟩ K2 ⟨hy,hq,AT,hpos⟩ g8;simp only at hy hq AT hpos;refine MU ⟨ua,un,uc⟩ (l:=iZ (cw t) x) rfl (fun _ hu2 hu3=>?_);simp only at hu2 hu3;by_cases JP:q<un
   ·obtain⟨kk,Lt⟩:∃kk,(iZ (cw t) x)[q]? =some kk:=⟨_,ar (by omega)⟩;have hkm:=aO Lt;obtain⟨bb,o2,hao⟩:=hu3 (by intro e;rw[e]at hkm;simp at hkm);subst hao;refine bD [] 55 (decide (y<(un:Int))) (aw (by omega)) ?_;refine cA [55] 1 bb o2 un uc .i64 q y hy bK JP ?_;refine eg [] 1 bb (o2+q*1) (.int .i64 kk) bK (sK bb o2 un uc Lt) ?_;by_cases hneg:kk<0
    ·have hl:=C8 hx (uN.1 ⟨kk,hkm,hneg⟩);rw[if_pos hl]at hR2;refine bD [] 59 (decide (kk<0)) (aw hneg) ?_;exact j0 [59] (.int .i64 23) (FO fb ⟨some ⟨b,off,none⟩,cl,cc⟩ bn cn dn most (.slice none 0 0)) [(mb,bM dA Rg),(bn,bM dT (b_ (cw t))),(dn,[]),(cn,[])] (back 23 hR2.symm Γ) (K9 _)
    ·refine aS [] 59 (decide (kk<0)) (ak hneg) ?_;refine Ct [59] dA 104 3 4 (FO fb ⟨some ⟨b,off,none⟩,cl,cc⟩ bn cn dn most (.slice none 0 0)) [] [(bn,bM dT (b_ (cw t))),(dn,[]),(cn,[])] mb kk (.bool true) Rg ?_;refine g8 [] _ _ ⟨q+1,IntKind.i64.wrap (y+1),false,kV kk (.bool true) Rg⟩ (by kernel_rfl) (by kernel_rfl) ⟨by simp only[ah];omega,JP,?_,fun k' hk'=>?_⟩ (by simp only;omega) (eC eK (eC eK eE))
     ·simp only;rw[fy Lt,←aT];exact AT.set kk
     ·simp only at hk';rw[fy Lt,ez]at hk';rcases hk' with h|h
      ·exact hpos k' h
      ·simp only[aD,aC,bp]at h;rw[h];exact hneg
   ·have fP:(iZ (cw t) x).take q=iZ (cw t) x:=aV (by omega);rw[fP]at AT hpos;refine aS [] 55 (decide (y<(un:Int))) (ak (by omega)) ?_;refine close [55] _ _ ⟨j+1,IntKind.i64.wrap (z+1),f,Rg⟩ (by kernel_rfl) (by kernel_rfl) ⟨by simp only[ah];omega,hlt,RY.symm,?_,fun i' x' hi' hx'=>?_⟩ (by simp only;omega) (eC eK eE)
    ·simp only;unfold wX at AT⊢;rw[fy hx,bA];simpa using AT
    ·simp only at hi';by_cases hij:i'<j
     ·exact hlo i' x' hij hx'
     ·obtain rfl:i'=j:=by omega
      rw[hx]at hx';injection hx' with hx';subst hx';cases hlc:rf t x with
      |false=>rfl
      |true=>
       obtain⟨k',h1,h2⟩:=uN.2 hlc;exact absurd h2 (hpos k' h1)
  ·refine bD [45] 49 ((k:Int) != z) (by simpa using hkz) ?_;rw[beq_eq_false_iff_ne.2 hkz,Bool.not_false,Bool.or_true]at RY;refine cZ [49] [] (FO fb ⟨some ⟨b,off,none⟩,cl,cc⟩ bn cn dn most (.slice none 0 0)) [] [(mb,bM dA nm)] [(bn,bM dT (b_ (cw t)))] [(dn,[]),(cn,[])] ⟨rfl,by rfl,trivial⟩ (IQ fb bn cn dn ⟨some ⟨b,off,none⟩,cl,cc⟩ most (.slice none 0 0) z (i:=j) hz (t:=t) hx (hF.ce x hxm) (hF.len x hxm) (cw t)) ?_;rintro _ _ _ _ ⟨u,hu,rfl,rfl,rfl,rfl⟩;obtain⟨ua,un,uc⟩:=u;simp only at hu;refine Fg [] [2,54] (fun a:Yb=>[(2,.int .i64 0),(54,.int .i64 a.z)]) (fun _=>[]) (fun _=>FO fb ⟨some ⟨b,off,none⟩,cl,cc⟩ bn cn dn most (.slice none 0 0)) (fun a=>[(mb,bM dA a.nm),(bn,bM dT (b_ (cw t))),(dn,[]),(cn,[])]) (fun a=>[NL ⟨ua,un,uc⟩ (iZ (cw t) x),pF ⟨some ⟨b,off,none⟩,cl,cc⟩ t])
    (fun a=>a.z=a.j∧a.j≤un∧Ah a.nm (wX t (t.take j)++(iZ (cw t) x).take a.j)∧∀k∈(iZ (cw t) x).take a.j,¬k<0) (fun a=>un-a.j) ⟨0,0,false,nm⟩ ⟨rfl,aM _,by simpa using hnm,fun k hk=>by simp at hk⟩ (eC eK (eC eK eE)) ?_
   rintro⟨q,y,g,Rg⟩ K2 ⟨hy,hq,AT,hpos⟩ g8;simp only at hy hq AT hpos;refine MU ⟨ua,un,uc⟩ (l:=iZ (cw t) x) rfl (fun _ hu2 hu3=>?_);simp only at hu2 hu3;by_cases JP:q<un
   ·obtain⟨kk,Lt⟩:∃kk,(iZ (cw t) x)[q]? =some kk:=⟨_,ar (by omega)⟩;have hkm:=aO Lt;obtain⟨bb,o2,hao⟩:=hu3 (by intro e;rw[e]at hkm;simp at hkm);subst hao;refine bD [] 55 (decide (y<(un:Int))) (aw (by omega)) ?_;refine cA [55] 1 bb o2 un uc .i64 q y hy bK JP ?_;refine eg [] 1 bb (o2+q*1) (.int .i64 kk) bK (sK bb o2 un uc Lt) ?_;by_cases hneg:kk<0
    ·have hl:=C8 hx (uN.1 ⟨kk,hkm,hneg⟩);rw[if_pos hl]at hR2;refine bD [] 59 (decide (kk<0)) (aw hneg) ?_;exact j0 [59] (.int .i64 23) (FO fb ⟨some ⟨b,off,none⟩,cl,cc⟩ bn cn dn most (.slice none 0 0)) [(mb,bM dA Rg),(bn,bM dT (b_ (cw t))),(dn,[]),(cn,[])] (back 23 hR2.symm Γ) (K9 _)
    ·refine aS [] 59 (decide (kk<0)) (ak hneg) ?_;refine Ct [59] dA 104 3 4 (FO fb ⟨some ⟨b,off,none⟩,cl,cc⟩ bn cn dn most (.slice none 0 0)) [] [(bn,bM dT (b_ (cw t))),(dn,[]),(cn,[])] mb kk (.bool true) Rg ?_;refine g8 [] _ _ ⟨q+1,IntKind.i64.wrap (y+1),false,kV kk (.bool true) Rg⟩ (by kernel_rfl) (by kernel_rfl) ⟨by simp only[ah];omega,JP,?_,fun k' hk'=>?_⟩ (by simp only;omega) (eC eK (eC eK eE))
     ·simp only;rw[fy Lt,←aT];exact AT.set kk
     ·simp only at hk';rw[fy Lt,ez]at hk';rcases hk' with h|h
      ·exact hpos k' h
      ·simp only[aD,aC,bp]at h;rw[h];exact hneg
   ·have fP:(iZ (cw t) x).take q=iZ (cw t) x:=aV (by omega);rw[fP]at AT hpos;refine aS [] 55 (decide (y<(un:Int))) (ak (by omega)) ?_;refine close [55] _ _ ⟨j+1,IntKind.i64.wrap (z+1),true,Rg⟩ (by kernel_rfl) (by kernel_rfl) ⟨by simp only[ah];omega,hlt,RY.symm,?_,fun i' x' hi' hx'=>?_⟩ (by simp only;omega) (eC eK eE)
    ·simp only;unfold wX at AT⊢;rw[fy hx,bA];simpa using AT
    ·simp only at hi';by_cases hij:i'<j
     ·exact hlo i' x' hij hx'
     ·obtain rfl:i'=j:=by omega
      rw[hx]at hx';injection hx' with hx';subst hx';cases hlc:rf t x with
      |false=>rfl
      |true=>
       obtain⟨k',h1,h2⟩:=uN.2 hlc;exact absurd h2 (hpos k' h1)
 ·obtain rfl:j=cl:=by omega
  have htk:t.take j=t:=aV (by omega);rw[htk]at hf hnm;have CW:lost t=false:=OP fun i x hx=>hlo i x (by have:=(List.getElem?_eq_some_iff.1 hx).1;omega) hx;rw[if_neg (by rw[CW];simp)]at hR2;refine aS [] 30 (decide (z<(j:Int))) (ak (by omega)) ?_;refine cr [30] 0 fb 0 bK ?_;refine dQ [] (FO fb ⟨ca,j,cc⟩ bn cn dn most (.slice none 0 0)) fb (0+0) 1 [.slice ca j cc,.map (some bn),.map (some cn),.map (some dn),.int .i64 most,.slice none 0 0] (.slice ca j cc) bK (.head _) rfl ?_;refine kB [] Tryz.f28 1 163 163 [0,3,4,68,2,11,69] [] (ck1 fb mb j f) (fun _=>[]) (fun _=>FO fb ⟨ca,j,cc⟩ bn cn dn most (.slice none 0 0)) (fun a=>[(mb,bM dA nm),(bn,bM dT (b_ (cw t))),(dn,bM dA (b_ a.dm)),(cn,[])]) (fun a=>[pF ⟨ca,j,cc⟩ t])
   (fun a=>a.z=a.j∧a.j≤j∧Rk t a.dm∧(∀i:Nat,gG (i:Int) a.dm≠some 0)∧(∀i,i<a.j→∃d,sW t i d∧d≤a.d)∧(a.d=0∨∃i,i<t.length∧sW t i a.d)) (fun a=>j-a.j) ⟨0,0,0,[]⟩ ⟨rfl,aM _,fun k v h=>by simp[gG]at h,fun i h=>by simp[gG]at h,fun i h=>absurd h (jj _),.inl rfl⟩ (eC eK eE) ?_
  rintro⟨i,y,D,dm⟩ K1 ⟨hy,hi,hdm,hdz,hda,zr⟩ vL;simp only at hy hi hdm hdz hda zr;by_cases x8:i<j
  ·refine bD [] 70 (decide (y<(j:Int))) (aw (by omega)) ?_;refine cZ [70] [] (FO fb ⟨ca,j,cc⟩ bn cn dn most (.slice none 0 0)) [] [(mb,bM dA nm)] [(bn,bM dT (b_ (cw t))),(dn,bM dA (b_ dm))] [(cn,[])] ⟨rfl,by rfl,trivial⟩ (Su fb bn cn dn ⟨ca,j,cc⟩ most (.slice none 0 0) (t:=t) hF.ce hF.len CW htl (vn t dm) _ y i hy (by omega) dm hdm (fun q hq=>absurd hq (hdz q)) (ai _)) ?_;rintro _ _ _ _ ⟨d,b,Lf,⟨ht,hfl⟩,rfl,rfl,rfl,rfl⟩;cases b with
   |false=>
    rw[if_pos (hfl rfl)]at hR2;refine bD [] 79 (!false) rfl ?_;exact j0 [79] (.int .i64 24) (FO fb ⟨ca,j,cc⟩ bn cn dn most (.slice none 0 0)) [(mb,bM dA nm),(bn,bM dT (b_ (cw t))),(dn,bM dA (b_ Lf)),(cn,[])] (back 24 hR2.symm Γ) (K9 _)
   |true=>
    obtain⟨e,rfl,Ir,hd1,hd2,hd3⟩:=ht rfl;refine aS [] 79 (!true) rfl ?_;refine MS [79] .i64 (D:Int) (e:Int) ((max D e:Nat):Int) (by omega) ?_;refine vL [] _ _ ⟨i+1,IntKind.i64.wrap (y+1),max D e,Lf⟩ (by kernel_rfl) (by kernel_rfl) ⟨by simp only[ah];omega,x8,hd1,fun q hq=>hdz q (hd2 q hq),fun q hq=>?_,?_⟩ (by simp only;omega) (eC eK eE)
    ·simp only at hq⊢;by_cases hqi:q<i
     ·obtain⟨d',h1,h2⟩:=hda q hqi;exact⟨d',h1,by omega⟩
     ·obtain rfl:q=i:=by omega
      exact⟨e,Ir,by omega⟩
    ·simp only;by_cases hDe:e≤D
     ·rw[Nat.max_eq_left hDe];exact zr
     ·rw[Nat.max_eq_right (by omega)];exact .inr ⟨i,by omega,Ir⟩
  ·obtain rfl:i=j:=by omega
   have acE:¬cyc t:=fun⟨c,hc,qG⟩=>by
    obtain⟨d,h1,_⟩:=hda c (by omega);exact qG d h1
   rw[if_neg acE]at hR2;have N0:(D>64)↔Nu t:=by
    constructor
    ·intro hD;rcases zr with h0|⟨a,ha,acG⟩
     ·omega
     ·refine⟨a,ha,?_⟩;cases hq:dep t 64 a with
      |none=>rfl
      |some d'=>
       have e1:=acG.uniq ⟨64,hq⟩;have:=Nx hq;omega
    ·rintro⟨a,ha,hn⟩;obtain⟨d,⟨m,hm⟩,hle⟩:=hda a (by omega);have:=Nw hm;by_cases hd:d≤64
     ·rw[nk this hd]at hn;simp at hn
     ·omega
   refine aS [] 70 (decide (y<(i:Int))) (ak (by omega)) ?_;refine cr [70] 0 fb 0 bK ?_;refine dQ [] (FO fb ⟨ca,i,cc⟩ bn cn dn most (.slice none 0 0)) fb (0+0) 1 [.slice ca i cc,.map (some bn),.map (some cn),.map (some dn),.int .i64 most,.slice none 0 0] (.slice ca i cc) bK (.head _) rfl ?_;refine kB [] Tryz.f28 2 163 163 [0,2,4,11,87,88,3,89] [] (ck2 fb mb ⟨ca,i,cc⟩ D) (fun _=>[]) (fun _=>FO fb ⟨ca,i,cc⟩ bn cn dn most (.slice none 0 0)) (fun a=>[(mb,bM dA nm),(bn,bM dT (b_ (cw t))),(dn,bM dA (b_ dm)),(cn,[])]) (fun a=>[pF ⟨ca,i,cc⟩ t])
    (fun a=>a.z=a.j∧a.j≤i∧a.f=(f||(t.take a.j).any fun c=>c.i.any fun x=> !gQ x)) (fun a=>i-a.j) ⟨0,0,f,[]⟩ ⟨rfl,aM _,by simp⟩ (eC eK eE) ?_
   rintro⟨p,y2,g,Rg⟩ K2 ⟨Ox,hp,hg⟩ g8;simp only at Ox hp hg;by_cases hlt2:p<i
   ·obtain⟨x,hx⟩:∃x,t[p]? =some x:=⟨_,ar (by omega)⟩;have hxm:=aO hx;refine wv ⟨ca,i,cc⟩ hx (fun b off fh fi ha=>?_);simp only at ha;subst ha;refine W.more (Δ:=[uC fi x.i]) rfl (fun I w _ hh=>aU (aY.p (k:=xM fh fi) (a:=x) inferInstance hh).2) ?_;obtain⟨ia,im,ic⟩:=fi;refine W.len lI nd.x ⟨ia,im,ic⟩ rfl (fun i1 i2 i3=>?_);simp only at i1 i2 i3;refine bD [] 90 (decide (y2<(i:Int))) (aw (by omega)) ?_;refine cA [90] 2 b off i cc .i64 p y2 Ox bK hlt2 ?_;refine dd [] b (off+p*2) [bz fh,bz ⟨ia,im,ic⟩] bK (dL b (off+p*2)) ?_;refine Fg [] [3,96] (fun a:Yb=>[(3,.bool a.f),(96,.int .i64 a.z)]) (fun _=>[]) (fun _=>FO fb ⟨some ⟨b,off,none⟩,i,cc⟩ bn cn dn most (.slice none 0 0)) (fun a=>[(mb,bM dA nm),(bn,bM dT (b_ (cw t))),(dn,bM dA (b_ dm)),(cn,[])]) (fun a=>[uC ⟨ia,im,ic⟩ x.i,pF ⟨some ⟨b,off,none⟩,i,cc⟩ t])
     (fun a=>a.z=a.j∧a.j≤im∧a.f=(g||(x.i.take a.j).any fun x=> !gQ x)) (fun a=>im-a.j) ⟨0,0,g,[]⟩ ⟨rfl,aM _,by simp⟩ (eC eK (eC eK eE)) ?_
    rintro⟨q,y3,g2,nm3⟩ K3 ⟨Yt,hq,nP⟩ tx;simp only at Yt hq nP;by_cases F7:q<im
    ·obtain⟨v,hv⟩:∃v,x.i[q]? =some v:=⟨_,ar (by omega)⟩;have hvo:=hF.ok x hxm v (aO hv);have Mw:((x.i.take (q+1)).any fun x=> !gQ x)=(((x.i.take q).any fun x=> !gQ x)|| !gQ v):=by rw[fy hv,List.any_append];simp
     refine Am ⟨ia,im,ic⟩ hv (fun b2 pd yf yp ha=>?_);simp only at ha;subst ha;refine bD [] 97 (decide (y3<(im:Int))) (aw (by omega)) ?_;refine cA [97] 2 b2 pd im ic .i64 q y3 Yt bK F7 ?_;refine dd [] b2 (pd+q*2) [bz yf,bz yp] bK (dL b2 (pd+q*2)) ?_;cases g2 with
     |true=>
      refine bD [] 101 true rfl ?_;exact tx [101] _ _ ⟨q+1,IntKind.i64.wrap (y3+1),true,[]⟩ (by kernel_rfl) (by kernel_rfl) ⟨by simp only[ah];omega,F7,by simp only;rw[Mw,←Bool.or_assoc,←nP,Bool.true_or]⟩ (by simp only;omega) (eC eK (eC eK eE))
     |false=>
      refine aS [] 101 false rfl ?_;refine aj [101] (SK yf yp (x:=v) hvo.im hvo.kind).mF ?_;rintro _ _ ⟨rfl,rfl⟩;exact tx [101] _ _ ⟨q+1,IntKind.i64.wrap (y3+1),!gQ v,[]⟩ (by kernel_rfl) (by kernel_rfl) ⟨by simp only[ah];omega,F7,by simp only;rw[Mw,←Bool.or_assoc,←nP,Bool.false_or]⟩ (by simp only;omega) (eC eK (eC eK eE))
    ·have fP:x.i.take q=x.i:=aV (by omega);rw[fP]at nP;refine aS [] 97 (decide (y3<(im:Int))) (ak (by omega)) ?_;refine g8 [97] _ _ ⟨p+1,IntKind.i64.wrap (y2+1),g2,[]⟩ (by kernel_rfl) (by kernel_rfl) ⟨by simp only[ah];omega,hlt2,?_⟩ (by simp only;omega) (eC eK eE);simp only;rw[fy hx,List.any_append,←Bool.or_assoc,←hg,nP];simp
   ·obtain rfl:p=i:=by omega
    rw[htk,hf]at hg;have N7:g=CP t:=by rw[hg];rfl
    refine aS [] 90 (decide (y2<(p:Int))) (ak (by omega)) ?_;cases g with
    |true=>
     rw[if_pos (.inl N7.symm)]at hR2;refine bD [90] 109 true rfl ?_;exact j0 [112,109] (.int .i64 25) (FO fb ⟨ca,p,cc⟩ bn cn dn most (.slice none 0 0)) [(mb,bM dA nm),(bn,bM dT (b_ (cw t))),(dn,bM dA (b_ dm)),(cn,[])] (back 25 hR2.symm Γ) (K9 _)
    |false=>
    refine aS [90] 109 false rfl ?_;by_cases hD:D>64
    ·rw[if_pos (.inr (N0.1 hD))]at hR2;refine bD [109] 112 (decide ((D:Int)>64)) (aw (by omega)) ?_;exact j0 [112] (.int .i64 25) (FO fb ⟨ca,p,cc⟩ bn cn dn most (.slice none 0 0)) [(mb,bM dA nm),(bn,bM dT (b_ (cw t))),(dn,bM dA (b_ dm)),(cn,[])] (back 25 hR2.symm Γ) (K9 _)
    rw[if_neg (fun h=>h.elim (fun h=>by rw[←N7]at h;simp at h) (fun h=>hD (N0.2 h)))]at hR2;have FW:zy t:=⟨CW,fun c hc x hx=>by
     have:=N7.symm;unfold CP at this;rw[sN]at this;have h2:=List.any_eq_false.1 this.2 c hc;simp only[Bool.not_eq_true]at h2;have h3:=List.any_eq_false.1 h2 x hx;simpa using h3,fun a ha=>by
     cases hq:dep t 64 a with
     |none=>exact absurd (N0.2 ⟨a,ha,hq⟩) hD
     |some d=>exact⟨d,rfl⟩⟩
    have Uh:∀c:Nat,(gG (c:Int) nm).getD (.bool false)=.bool (rT t c):=fun c=>by rw[hnm.look,Gg CW]
    have hm1:IntKind.i64.wrap (most+1)=most+1:=by rw[ah];omega
    have hcT:∀c,0≤ou t c:=fun c=>by
     unfold ou;split
     ·exact Int.le_refl _
     ·exact FW.cnt_nn 64 c
    have hsn:∀l:List Nat,0≤(l.map (ou t)).sum:=fun l=>BS fun q hq=>by
     obtain⟨c,_,rfl⟩:=List.mem_map.1 hq;exact hcT c
    refine aS [109] 112 (decide ((D:Int)>64)) (ak (by omega)) ?_;refine cr [112] 0 fb 0 bK ?_;refine dQ [] (FO fb ⟨ca,p,cc⟩ bn cn dn most (.slice none 0 0)) fb (0+0) 1 [.slice ca p cc,.map (some bn),.map (some cn),.map (some dn),.int .i64 most,.slice none 0 0] (.slice ca p cc) bK (.head _) rfl ?_;refine kB [] Tryz.f28 3 163 163 [0,2,4,117,19,118] [] (ck3 fb mb p) (fun _=>[]) (fun _=>FO fb ⟨ca,p,cc⟩ bn cn dn most (.slice none 0 0)) (fun a=>[(mb,bM dA nm),(bn,bM dT (b_ (cw t))),(dn,bM dA (b_ dm)),(cn,bM dA (b_ a.cm))]) (fun a=>[pF ⟨ca,p,cc⟩ t])
     (fun a=>a.z=a.j∧a.j≤p∧a.n=min ((((List.range t.length).take a.j).map (ou t)).sum) (most+1)∧wj t most a.cm) (fun a=>p-a.j) ⟨0,0,0,[]⟩ ⟨rfl,aM _,by simp only[qx,di,List.sum_nil];omega,fun k v h=>by simp[gG]at h⟩ (eC eK eE) ?_
    rintro⟨q,y3,S6,cm⟩ K3 ⟨Yt,hq,Lz,hcm⟩ tx;simp only at Yt hq Lz hcm;by_cases F7:q<p
    ·have hst:=uv (ou t) (j:=q) (n:=t.length) (by omega);obtain⟨S,hS⟩:∃S,(((List.range t.length).take q).map (ou t)).sum=S:=⟨_,rfl⟩;have hS0:=hsn ((List.range t.length).take q);rw[hS]at Lz hst hS0;refine bD [] 119 (decide (y3<(p:Int))) (aw (by omega)) ?_;refine vk [119] dA 104 3 4 false (FO fb ⟨ca,p,cc⟩ bn cn dn most (.slice none 0 0)) [(mb,bM dA nm),(bn,bM dT (b_ (cw t))),(dn,bM dA (b_ dm)),(cn,bM dA (b_ cm))] mb y3 nm (.bool false) bK (.head _) ?_;rw[show(gG y3 nm).getD (.bool false)=.bool (rT t q)by rw[Yt];exact Uh q];cases Wr:rT t q with
     |true=>
      have hc0:ou t q=0:=by unfold ou;rw[if_pos Wr]
      refine aS [] 124 (!true) rfl ?_;exact tx [124] _ _ ⟨q+1,IntKind.i64.wrap (y3+1),S6,cm⟩ (by kernel_rfl) (by kernel_rfl) ⟨by simp only[ah];omega,F7,by simp only;rw[hst,hc0,qj];exact Lz,hcm⟩ (by simp only;omega) (eC eK eE)
     |false=>
      have hcq:ou t q=jY t 64 q:=by unfold ou;rw[if_neg (by rw[Wr];simp)]
      have Yn:=FW.cnt_nn 64 q;have JQ:min (S6+min (jY t 64 q) (most+1)) (most+1)=min (S+jY t 64 q) (most+1):=by omega
      have hw:IntKind.i64.wrap (S6+min (jY t 64 q) (most+1))=S6+min (jY t 64 q) (most+1):=by rw[ah];omega
      refine bD [] 124 (!false) rfl ?_;have pc:=Kd fb bn cn dn ca p cc most (.slice none 0 0) (bM dA (b_ dm)) hF FW tL 64 [pF ⟨ca,p,cc⟩ t] y3 q Yt (by omega) (FW.deep q (by omega)) cm hcm;refine MQ [124] ?_ ?_
      ·refine cr [] 4 fb 0 bK ?_;refine dQ [] (FO fb ⟨ca,p,cc⟩ bn cn dn most (.slice none 0 0)) fb (0+4) 1 [.slice ca p cc,.map (some bn),.map (some cn),.map (some dn),.int .i64 most,.slice none 0 0] (.int .i64 most) bK (.head _) rfl ?_;refine cZ [] [] (FO fb ⟨ca,p,cc⟩ bn cn dn most (.slice none 0 0)) [] [(mb,bM dA nm)] [(bn,bM dT (b_ (cw t))),(dn,bM dA (b_ dm)),(cn,bM dA (b_ cm))] [] ⟨rfl,by rfl,trivial⟩ pc ?_;rintro _ _ _ _ ⟨VQ,Lr,rfl,rfl,rfl,rfl⟩;refine Cc [] .i64 (IntKind.i64.wrap (S6+min (jY t 64 q) (most+1))) (IntKind.i64.wrap (most+1)) (min (S+jY t 64 q) (most+1)) (by rw[hw,hm1];exact JQ) ?_;exact tx [] _ _ ⟨q+1,IntKind.i64.wrap (y3+1),min (S+jY t 64 q) (most+1),VQ⟩ (by kernel_rfl) (by kernel_rfl) ⟨by simp only[ah];omega,F7,by simp only;rw[hst,hcq],Lr⟩ (by simp only;omega) (eC eK eE)
      ·refine cr [] 4 fb 0 bK ?_;refine cZ [] [] (FO fb ⟨ca,p,cc⟩ bn cn dn most (.slice none 0 0)) [] [(mb,bM dA nm)] [(bn,bM dT (b_ (cw t))),(dn,bM dA (b_ dm)),(cn,bM dA (b_ cm))] [] ⟨rfl,by rfl,trivial⟩ pc ?_;rintro _ _ _ _ ⟨VQ,Lr,rfl,rfl,rfl,rfl⟩;refine dQ [] (FO fb ⟨ca,p,cc⟩ bn cn dn most (.slice none 0 0)) fb (0+4) 1 [.slice ca p cc,.map (some bn),.map (some cn),.map (some dn),.int .i64 most,.slice none 0 0] (.int .i64 most) bK (.head _) rfl ?_;refine Cc [] .i64 (IntKind.i64.wrap (S6+min (jY t 64 q) (most+1))) (IntKind.i64.wrap (most+1)) (min (S+jY t 64 q) (most+1)) (by rw[hw,hm1];exact JQ) ?_;exact tx [] _ _ ⟨q+1,IntKind.i64.wrap (y3+1),min (S+jY t 64 q) (most+1),VQ⟩ (by kernel_rfl) (by kernel_rfl) ⟨by simp only[ah];omega,F7,by simp only;rw[hst,hcq],Lr⟩ (by simp only;omega) (eC eK eE)
    ·obtain rfl:q=p:=by omega
     rw[aV (by rw[dX];omega)]at Lz;have htt:S6=min (total t) (most+1):=Lz;refine aS [] 119 (decide (y3<(q:Int))) (ak (by omega)) ?_;refine cr [119] 4 fb 0 bK ?_;refine dQ [] (FO fb ⟨ca,q,cc⟩ bn cn dn most (.slice none 0 0)) fb (0+4) 1 [.slice ca q cc,.map (some bn),.map (some cn),.map (some dn),.int .i64 most,.slice none 0 0] (.int .i64 most) bK (.head _) rfl ?_;by_cases Wd:total t>most
     ·rw[if_pos Wd]at hR2;refine bD [] 142 (decide (S6>most)) (aw (by omega)) ?_;exact j0 [142] (.int .i64 27) (FO fb ⟨ca,q,cc⟩ bn cn dn most (.slice none 0 0)) [(mb,bM dA nm),(bn,bM dT (b_ (cw t))),(dn,bM dA (b_ dm)),(cn,bM dA (b_ cm))] (back 27 hR2.symm Γ) (K9 _)
     rw[if_neg Wd]at hR2;unfold OK at hR2;refine aS [] 142 (decide (S6>most)) (ak (by omega)) ?_;refine cr [142] 0 fb 0 bK ?_;refine dQ [] (FO fb ⟨ca,q,cc⟩ bn cn dn most (.slice none 0 0)) fb (0+0) 1 [.slice ca q cc,.map (some bn),.map (some cn),.map (some dn),.int .i64 most,.slice none 0 0] (.slice ca q cc) bK (.head _) rfl ?_;refine kB [] Tryz.f28 4 163 163 [0,4,147,2,148] [] (ck4 fb mb q) (fun _=>[]) (fun a=>FO fb ⟨ca,q,cc⟩ bn cn dn most (bz a.s)++a.O) (fun a=>[(mb,bM dA nm),(bn,bM dT (b_ (cw t))),(dn,bM dA (b_ dm)),(cn,bM dA (b_ a.cm))]) (fun a=>[pF ⟨ca,q,cc⟩ t,OF ⟨bV,bV,bV,bV,bV⟩ (0,Es),rB oR (bz a.s) a.E])
      (fun a=>a.z=a.j∧a.j≤q∧wj t most a.cm∧cG 3 a.O (bz a.s) a.E.length (a.E.flatMap oR.cells)∧(a.E.length:Int)≤(((List.range t.length).take a.j).map (ou t)).sum∧B_ (Gi t) (List.range t.length) R a.j a.E) (fun a=>q-a.j) ⟨0,0,cm,⟨none,0,0⟩,[],[]⟩ ⟨rfl,aM _,hcm,cG.nil 3,by simp,by rw[←hR2];exact rE _ _⟩ (eC eK (eC (fun I w hd _=>W7 I w hd) (eC (fun I w _ _=>Pe _ I w) eE))) ?_
     rintro⟨r,y4,RM,s4,O4,E4⟩ K4 ⟨hy4,hr,Iq,JO,hE4,Yq⟩ Nn;simp only at hy4 hr Iq JO hE4 Yq;by_cases ZZ:r<q
     ·have hst:=uv (ou t) (j:=r) (n:=t.length) (by omega);have R0:(List.range t.length)[r]? =some r:=nH (by omega);have hle:(((List.range t.length).take (r+1)).map (ou t)).sum≤total t:=by
       unfold total;have e0:((List.range t.length).map (ou t)).sum=(((List.range t.length).take (r+1)).map (ou t)).sum+(((List.range t.length).drop (r+1)).map (ou t)).sum:=by
        rw[←s8,←aW,jW]
       have:=hsn ((List.range t.length).drop (r+1));omega
      refine bD [] 149 (decide (y4<(q:Int))) (aw (by omega)) ?_;refine vk [149] dA 104 3 4 false (FO fb ⟨ca,q,cc⟩ bn cn dn most (bz s4)++O4) [(mb,bM dA nm),(bn,bM dT (b_ (cw t))),(dn,bM dA (b_ dm)),(cn,bM dA (b_ RM))] mb y4 nm (.bool false) bK (.head _) ?_;rw[show(gG y4 nm).getD (.bool false)=.bool (rT t r)by rw[hy4];exact Uh r];cases Wr:rT t r with
      |true=>
       have hc0:ou t r=0:=by unfold ou;rw[if_pos Wr]
       have hln:Gi t r=.ok []:=by unfold Gi;rw[if_pos Wr]
       refine aS [] 154 (!true) rfl ?_;exact Nn [154] _ _ ⟨r+1,IntKind.i64.wrap (y4+1),RM,s4,O4,E4⟩ (by kernel_rfl) (by kernel_rfl) ⟨by simp only[ah];omega,ZZ,Iq,JO,by simp only;rw[hst,hc0];omega,by have:=Yq.step (es:=[]) R0 hln rfl;rwa [af]at this⟩ (by simp only;omega) (eC eK (eC eK (eC eK eE)))
      |false=>
       have hcq:ou t r=jY t 64 r:=by unfold ou;rw[if_neg (by rw[Wr];simp)]
       have hln:Gi t r=gB t 64 r Es:=by unfold Gi;rw[if_neg (by rw[Wr];simp)]
       have Yn:=FW.cnt_nn 64 r;obtain⟨dr,hdr⟩:=FW.deep r (by omega);refine bD [] 154 (!false) rfl ?_;refine cZ [154] [] (FO fb ⟨ca,q,cc⟩ bn cn dn most (bz s4)++O4) [] [(mb,bM dA nm)] [(bn,bM dT (b_ (cw t))),(dn,bM dA (b_ dm)),(cn,bM dA (b_ RM))] [] ⟨rfl,by rfl,trivial⟩ (eo:=(by simp only[af];kernel_rfl)) (UI fb bn cn dn ca q cc most (bM dA (b_ dm)) hF FW tL hW 64 _ y4 r dr hy4 (by omega) hdr Es ⟨bV,bV,bV,bV,bV⟩ 0 0 (by decide) (by decide) aa5 (aM _) RM Iq s4 O4 E4 JO (by omega)) ?_;rintro _ _ _ _ ⟨Yl,RW,rfl,s5,O5,es5,ZL,rfl,rfl,CV,rfl⟩;rw[af (FO fb ⟨ca,q,cc⟩ bn cn dn most (bz s5)++O5)];cases hlr:gB t 64 r Es with
       |error er=>
        have Is:=oy _ _ _ _ hlr;have yV:R=.error er:=Yq.err R0 (by rw[hln,hlr]);refine bD [] 160 (er != 0) (by rcases Is with rfl|rfl<;>rfl) ?_;exact j0 [160] (.int .i64 er) (FO fb ⟨ca,q,cc⟩ bn cn dn most (bz s5)++O5) [(mb,bM dA nm),(bn,bM dT (b_ (cw t))),(dn,bM dA (b_ dm)),(cn,bM dA (b_ Yl))] ⟨s5,O5,E4++es5,fun q h=>by rw[yV]at h;simp at h,by rw[yV];rfl,rfl,CV,rfl⟩ (eC eK eE)
       |ok sr=>
        have hsl:=FW.lay_len _ _ _ _ hlr;have he5:es5.length=sr.length:=by rw[←ZL sr hlr,bL]
        refine aS [] 160 ((0:Int) != 0) (by decide) ?_;exact Nn [160] _ _ ⟨r+1,IntKind.i64.wrap (y4+1),Yl,s5,O5,E4++es5⟩ (by kernel_rfl) (by kernel_rfl) ⟨by simp only[ah];omega,ZZ,RW,CV,by simp only[az];rw[hst,hcq];omega,Yq.step R0 (by rw[hln,hlr]) (ZL sr hlr)⟩ (by simp only;omega) (eC eK (eC eK (eC eK eE)))
     ·have Ud:R=.ok (E4.map qO.x):=Yq.fin (by rw[dX];omega);refine aS [] 149 (decide (y4<(q:Int))) (ak (by omega)) ?_;exact j0 [149] (.int .i64 0) (FO fb ⟨ca,q,cc⟩ bn cn dn most (bz s4)++O4) [(mb,bM dA nm),(bn,bM dT (b_ (cw t))),(dn,bM dA (b_ dm)),(cn,bM dA (b_ RM))] ⟨s4,O4,E4,fun q h=>by rw[Ud]at h;injection h,by rw[Ud];rfl,rfl,JO,rfl⟩ (eC eK eE)
end
end Go.Proofs.YtgaaopjagcaojaaGreat
