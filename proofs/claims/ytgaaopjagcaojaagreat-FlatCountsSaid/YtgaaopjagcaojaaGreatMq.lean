import Derived.Test.YtgaaopjagcaojaaGreatMo
set_option linter.unusedSimpArgs false
set_option linter.unusedVariables false
namespace Go.Proofs.YtgaaopjagcaojaaGreat
open Go.RowKit Go.IntWalk
def zS(nm:List (Int×Value))(L:List Int):Prop:=∀k,gl k nm=if k∈L then some (.bool true)else none
theorem zS.nil:zS [] []:=fun k=>rfl
theorem zS.set{nm:List (Int×Value)}{L:List Int}(h:zS nm L)(k:Int):zS (kL k (.bool true) nm) (L++[k]):=fun j=>by
 rw[h_,h j];by_cases hj:j=k
 ·subst hj;simp
 ·simp[hj]
theorem zS.look{nm:List (Int×Value)}{L:List Int}(h:zS nm L)(k:Int):(gl k nm).getD (.bool false)=.bool (decide (k∈L)):=by
 rw[h k];by_cases hk:k∈L<;>simp[hk]
def wF(t:List Ce)(l:List Ce):List Int:=l.flatMap (iI (cr t))
theorem FU{t:List Ce}(h:lost t=false)(c:Nat):decide ((c:Int)∈wF t t)=ru t c:=by
 have e1:((c:Int)∈wF t t)↔∃a,a<t.length∧c∈fy t a:=by
  unfold wF;rw[List.mem_flatMap];constructor
  ·rintro⟨x,hx,hc⟩;obtain⟨a,ha,he⟩:=List.getElem_of_mem hx;have hax:t[a]? =some x:=by rw[ak ha,he]
   rw[DU h hax,zR]at hc;obtain⟨k,hk,e⟩:=hc;exact⟨a,ha,by rw[←Int.natCast_inj.1 e];exact hk⟩
  ·rintro⟨a,ha,hc⟩;have hax:t[a]? =some t[a]:=ak ha;exact⟨t[a],dS ha,by rw[DU h hax];exact List.mem_map.2 ⟨c,hc,rfl⟩⟩
 unfold ru;by_cases hc:(c:Int)∈wF t t
 ·rw[ar hc];obtain⟨a,ha,hk⟩:=e1.1 hc;have h1:(fy t a).contains c=true:=List.contains_iff_mem.2 hk;exact(List.any_eq_true.2 ⟨a,List.mem_range.2 ha,h1⟩).symm
 ·rw[ai hc];refine(List.any_eq_false.2 fun a ha hk=>hc (e1.2 ⟨a,List.mem_range.1 ha,?_⟩)).symm;have h1:(fy t a).contains c=true:=hk;exact List.contains_iff_mem.1 h1
theorem Am(t:List Ce)(c:Ce):∀(l:List Ce) (i:Nat),yu t (l++[c]) i=(yu t l i|| !(pL t (Fj c)==some (i+l.length)))
 | [],i=>by simp[yu]
 |a::l,i=>by
  simp only[dR,yu,Am t c l (i+1),aD,Bool.or_assoc];rw[show i+1+l.length=i+(l.length+1)by omega]
theorem RV{t:List Ce}{c:Ce}(h:c∈t):∃k,pL t (Fj c)=some k:=AF ⟨c,h,rfl⟩
theorem CM{t:List Ce}{j:Nat}{x:Ce}(hx:t[j]? =some x)(h:rZ t x=true):lost t=true:=List.any_eq_true.2 ⟨x,aN hx,h⟩
theorem Ox{t:List Ce}(h:∀(j:Nat) (x:Ce),t[j]? =some x→rZ t x=false):lost t=false:=by
 unfold lost;rw[pY];intro x hx;obtain⟨j,hj⟩:=mi hx;rw[h j x hj];simp
theorem M7{t:List Ce}:∀{d n c:Nat},dep t n c=some d→dep t d c=some d:=by
 intro d
 induction d using Nat.strongRecOn with
 |ind d ih=>
 intro n c h;cases n with
 |zero=>simp[dep]at h
 |succ n=>
  unfold dep at h;cases hq:jr (dep t n) (fy t c) 0 with
  |none=>rw[hq]at h;simp at h
  |some r=>
   rw[hq]at h;simp only[dd,au]at h;subst h;unfold dep;have:jr (dep t r) (fy t c) 0=some r:=by
    rw[←hq];refine oI fun k hk=>?_;obtain⟨e,he,hle⟩:=(lL hq).2 k hk;rw[he];exact mZ (ih e (by omega) he) hle
   rw[this];rfl
theorem tQ(f:Nat→Int){j n:Nat}(h:j<n):(((List.range n).take (j+1)).map f).sum=(((List.range n).take j).map f).sum+f j:=by
 have hj:(List.range n)[j]? =some j:=tU h;rw[fr hj,aX,n_];simp
theorem Dn{T:Tb}{P:Program}{f:FuncId}{args:List Value}{Oin:List (Nat×List Value)}{M M':List (Nat×List (Value×Value))}{Γ:List aC}{post:Value→List (Nat×List Value)→List (Nat×List (Value×Value))→List aC→Prop}
  (h:dj T P f args Oin M Γ post)(hm:M.Perm M'):dj T P f args Oin M' Γ post:=by
 have e:gC Oin M=gC Oin M':=by
  funext b;unfold gC;apply propext;constructor
  ·rintro(h|⟨m,h⟩)
   ·exact .inl h
   ·exact .inr ⟨m,hm.mem_iff.1 h⟩
  ·rintro(h|⟨m,h⟩)
   ·exact .inl h
   ·exact .inr ⟨m,hm.mem_iff.2 h⟩
 refine⟨h.1,fun I w hd hh ho hon hma hmn hx=>?_⟩;rw[←e]at hx⊢;exact h.2 I w hd hh ho hon (fun b m hb=>hma b m (hm.mem_iff.1 hb)) ((hm.map (·.1)).nodup_iff.2 hmn) hx
structure XO where
 j:Nat
 z:Int
 f:Bool
 nm:List (Int×Value)
structure CkB where
 j:Nat
 z:Int
 d:Nat
 dm:List (Int×Int)
structure CkD where
 j:Nat
 z:Int
 n:Int
 cm:List (Int×Int)
def ck0(fb mb:Nat)(cs:Sl):XO→List (Nat×SV):=fun a=>[(0,.val (fg fb)),(4,.val (.map (some mb))),(27,.val (a_ cs)),(28,.val (.int .i64 cs.n)),(3,.val (.bool a.f)),(2,.val (.int .i64 0)),(29,.val (.int .i64 a.z))]
def ck1(fb mb:Nat)(n:Nat)(f:Bool):CkB→List (Nat×SV):=fun a=>[(0,.val (fg fb)),(3,.val (.bool f)),(4,.val (.map (some mb))),(68,.val (.int .i64 n)),(2,.val (.int .i64 0)),(11,.val (.int .i64 a.d)),(69,.val (.int .i64 a.z))]
def ck2(fb mb:Nat)(cs:Sl)(d:Nat):XO→List (Nat×SV):=fun a=>[(0,.val (fg fb)),(2,.val (.int .i64 0)),(4,.val (.map (some mb))),(11,.val (.int .i64 d)),(87,.val (a_ cs)),(88,.val (.int .i64 cs.n)),(3,.val (.bool a.f)),(89,.val (.int .i64 a.z))]
def ck3(fb mb:Nat)(n:Nat):CkD→List (Nat×SV):=fun a=>[(0,.val (fg fb)),(2,.val (.int .i64 0)),(4,.val (.map (some mb))),(117,.val (.int .i64 n)),(19,.val (.int .i64 a.n)),(118,.val (.int .i64 a.z))]
def ck4(fb mb:Nat)(n:Nat):Mm→List (Nat×SV):=fun a=>[(0,.val (fg fb)),(4,.val (.map (some mb))),(147,.val (.int .i64 n)),(2,.val (.int .i64 0)),(148,.val (.int .i64 a.z))]
theorem WK(I:fN)(w:World)(hd:br tb I w):(OF ⟨bV,bV,bV,bV,bV⟩ (0,Un)).p I w:=by
 have h:=(kN (Γ:=[]) (L':=0) I w hd (aE.nil _ _)).h0';exact⟨h,h,h,h,h⟩
theorem OR(v:Value)(I:fN)(w:World):(sK oB v []).p I w:=fun e he=>by simp at he
section
set_option maxHeartbeats 8000000 in
theorem Sj(fb bn cn dn:Nat)(ca:Option Addr)(cl cc:Nat)(most:Int){t:List Ce}(hF:S_ t)(tg:0≤most∧most≤100000)(hW:yb t≤160)(Γ:List aC) [aY (lC ⟨ca,cl,cc⟩) t Γ]:
  dj Km Tryz.prog 28 [fg fb] (FO fb ⟨ca,cl,cc⟩ bn cn dn most (.slice none 0 0)) [(bn,bJ dO (bZ (cr t))),(dn,[]),(cn,[])] Γ (fun v O _ Δ=>Dl (pJ t most) (fun v=>FO fb ⟨ca,cl,cc⟩ bn cn dn most v) [] v O Δ):=by
 obtain⟨R,hR⟩:∃R,pJ t most=R:=⟨_,rfl⟩;have hR2:=hR;unfold pJ at hR2;rw[hR];have back:∀e:Int,R=.error e→∀(Γ':List aC),Dl R (fun v=>FO fb ⟨ca,cl,cc⟩ bn cn dn most v) [] (.int .i64 e) (FO fb ⟨ca,cl,cc⟩ bn cn dn most (.slice none 0 0)) [sK oB (a_ ⟨none,0,0⟩) ([]++[])]:=fun e he Γ'=>
  ⟨⟨none,0,0⟩,[],[],fun q h=>by rw[he]at h;simp at h,by rw[he];rfl,rfl,cH.nil 3,rfl⟩
 have KJ:∀(Γ':List aC) (I:fN) (w:World),br Km I w→aE Γ' I w→aE [sK oB (a_ ⟨none,0,0⟩) ([]++[])] I w:=fun Γ' I w _ _=>aU (OR _ I w);refine dj.of_W bG Tryz.func28 rfl ?_;refine W.len lF pd.x ⟨ca,cl,cc⟩ rfl (fun c1 c2 c3=>?_);simp only at c1 c2 c3;have htl:=hF.tl;refine I4 [] (FO fb ⟨ca,cl,cc⟩ bn cn dn most (.slice none 0 0)) [(bn,bJ dO (bZ (cr t))),(dn,[]),(cn,[])] (fun mb=>?_);refine bW [] 0 fb 0 bG ?_;refine dK [] (FO fb ⟨ca,cl,cc⟩ bn cn dn most (.slice none 0 0)) fb (0+0) 1 [.slice ca cl cc,.map (some bn),.map (some cn),.map (some dn),.int .i64 most,.slice none 0 0] (.slice ca cl cc) bG (.head _) rfl ?_;refine j7 [] Tryz.f28 0 163 163 [0,4,27,28,3,2,29] [] (ck0 fb mb ⟨ca,cl,cc⟩) (fun _=>[]) (fun _=>FO fb ⟨ca,cl,cc⟩ bn cn dn most (.slice none 0 0)) (fun a=>[(mb,bJ de a.nm),(bn,bJ dO (bZ (cr t))),(dn,[]),(cn,[])]) (fun a=>[lC ⟨ca,cl,cc⟩ t])
  (fun a=>a.z=a.j∧a.j≤cl∧a.f=yu t (t.take a.j) 0∧zS a.nm (wF t (t.take a.j))∧∀(i:Nat) (x:Ce),i<a.j→t[i]? =some x→rZ t x=false) (fun a=>cl-a.j) ⟨0,0,false,[]⟩ ⟨rfl,aJ _,rfl,zS.nil,fun i x hi=>absurd hi (iY _)⟩ (eC eK eE) ?_
 rintro⟨j,z,f,nm⟩ K ⟨hz,hj,hf,hnm,hlo⟩ close;simp only at hz hj hf hnm hlo;by_cases hlt:j<cl
 ·obtain⟨x,hx⟩:∃x,t[j]? =some x:=⟨_,ak (by omega)⟩;have hxm:=aN hx;obtain⟨k,hk⟩:=RV hxm;have K_:gl (Fj x) (bZ (cr t))=some (.int .i64 (k:Int)):=by
   rw[mq,vu,hk];rfl
  have RN:yu t (t.take (j+1)) 0=(f|| !((k:Int)==z)):=by
   have e1:(some k==some j)=((k:Int)==(j:Int)):=by
    by_cases hkj:k=j
    ·subst hkj;simp
    ·have h2:(k:Int)≠(j:Int):=by omega
     rw[beq_eq_false_iff_ne.2 h2,beq_eq_false_iff_ne.2 (fun h=>hkj (Option.some.inj h))]
   rw[fr hx,Am,←hf,hk,dE,cu,fm (by omega),hz,e1]
  refine uR ⟨ca,cl,cc⟩ hx (fun b off fh fi ha=>?_);simp only at ha;subst ha;refine bk [] 30 (decide (z<(cl:Int))) (ar (by omega)) ?_;refine bY [30] 2 b off cl cc .i64 j z hz bG hlt ?_;refine cY [] b (off+j*2) [a_ fh,a_ fi] bG (cB b (off+j*2)) ?_;refine bW [] 1 fb 0 bG ?_;refine dK [] (FO fb ⟨some ⟨b,off,none⟩,cl,cc⟩ bn cn dn most (.slice none 0 0)) fb (0+1) 1 [.slice (some ⟨b,off,none⟩) cl cc,.map (some bn),.map (some cn),.map (some dn),.int .i64 most,.slice none 0 0] (.map (some bn)) bG (.head _) rfl ?_;refine aq [] (D_ fh fi (x:=x)).mF ?_;rintro _ _ ⟨rfl,rfl⟩;refine uS [] dO 69 9 3 true (FO fb ⟨some ⟨b,off,none⟩,cl,cc⟩ bn cn dn most (.slice none 0 0)) [(mb,bJ de nm),(bn,bJ dO (bZ (cr t))),(dn,[]),(cn,[])] bn (Fj x) (bZ (cr t)) (.int .i64 0) bG (.tail _ (.head _)) ?_;rw[K_];refine bk [] 45 true rfl ?_;by_cases hkz:(k:Int)=z
  ·refine aR [45] 49 ((k:Int) != z) (by rw[hkz];simp) ?_;rw[hkz,beq_self_eq_true,Bool.not_true,Bool.or_false]at RN;refine cX [49] [] (FO fb ⟨some ⟨b,off,none⟩,cl,cc⟩ bn cn dn most (.slice none 0 0)) [] [(mb,bJ de nm)] [(bn,bJ dO (bZ (cr t)))] [(dn,[]),(cn,[])] ⟨rfl,by rfl,trivial⟩ (Iz fb bn cn dn ⟨some ⟨b,off,none⟩,cl,cc⟩ most (.slice none 0 0) z (i:=j) hz (t:=t) hx (hF.ce x hxm) (hF.len x hxm) (cr t)) ?_;rintro _ _ _ _ ⟨u,hu,rfl,rfl,rfl,rfl⟩;obtain⟨ua,un,uc⟩:=u;simp only at hu;refine ER [] [2,54] (fun a:XO=>[(2,.int .i64 0),(54,.int .i64 a.z)]) (fun _=>[]) (fun _=>FO fb ⟨some ⟨b,off,none⟩,cl,cc⟩ bn cn dn most (.slice none 0 0)) (fun a=>[(mb,bJ de a.nm),(bn,bJ dO (bZ (cr t))),(dn,[]),(cn,[])]) (fun a=>[NL ⟨ua,un,uc⟩ (iI (cr t) x),lC ⟨some ⟨b,off,none⟩,cl,cc⟩ t])
    (fun a=>a.z=a.j∧a.j≤un∧zS a.nm (wF t (t.take j)++(iI (cr t) x).take a.j)∧∀k∈(iI (cr t) x).take a.j,¬k<0) (fun a=>un-a.j) ⟨0,0,false,nm⟩ ⟨rfl,aJ _,by simpa using hnm,fun k hk=>by simp at hk⟩ (eC eK (eC eK eE)) ?_
   rintro⟨q,y,g,QX⟩ K2 ⟨hy,hq,AD,hpos⟩ iu;simp only at hy hq AD hpos;refine MB ⟨ua,un,uc⟩ (l:=iI (cr t) x) rfl (fun _ hu2 hu3=>?_);simp only at hu2 hu3;by_cases Jy:q<un
   ·obtain⟨kk,La⟩:∃kk,(iI (cr t) x)[q]? =some kk:=⟨_,ak (by omega)⟩;have hkm:=aN La;obtain⟨bb,o2,hao⟩:=hu3 (by intro e;rw[e]at hkm;simp at hkm);subst hao;refine bk [] 55 (decide (y<(un:Int))) (ar (by omega)) ?_;refine bY [55] 1 bb o2 un uc .i64 q y hy bG Jy ?_;refine dB [] 1 bb (o2+q*1) (.int .i64 kk) bG (r_ bb o2 un uc La) ?_;by_cases hneg:kk<0
    ·have hl:=CM hx (uo.1 ⟨kk,hkm,hneg⟩);rw[if_pos hl]at hR2;refine bk [] 59 (decide (kk<0)) (ar hneg) ?_;exact jO [59] (.int .i64 23) (FO fb ⟨some ⟨b,off,none⟩,cl,cc⟩ bn cn dn most (.slice none 0 0)) [(mb,bJ de QX),(bn,bJ dO (bZ (cr t))),(dn,[]),(cn,[])] (back 23 hR2.symm Γ) (KJ _)
    ·refine aR [] 59 (decide (kk<0)) (ai hneg) ?_;refine Ca [59] de 104 3 4 (FO fb ⟨some ⟨b,off,none⟩,cl,cc⟩ bn cn dn most (.slice none 0 0)) [] [(bn,bJ dO (bZ (cr t))),(dn,[]),(cn,[])] mb kk (.bool true) QX ?_;refine iu [] _ _ ⟨q+1,IntKind.i64.wrap (y+1),false,kL kk (.bool true) QX⟩ (by kernel_rfl) (by kernel_rfl) ⟨by simp only[af];omega,Jy,?_,fun k' hk'=>?_⟩ (by simp only;omega) (eC eK (eC eK eE))
     ·simp only;rw[fr La,←aT];exact AD.set kk
     ·simp only at hk';rw[fr La,dU]at hk';rcases hk' with h|h
      ·exact hpos k' h
      ·simp only[aH,aI,bU]at h;rw[h];exact hneg
   ·have fI:(iI (cr t) x).take q=iI (cr t) x:=aS (by omega);rw[fI]at AD hpos;refine aR [] 55 (decide (y<(un:Int))) (ai (by omega)) ?_;refine close [55] _ _ ⟨j+1,IntKind.i64.wrap (z+1),f,QX⟩ (by kernel_rfl) (by kernel_rfl) ⟨by simp only[af];omega,hlt,RN.symm,?_,fun i' x' hi' hx'=>?_⟩ (by simp only;omega) (eC eK eE)
    ·simp only;unfold wF at AD⊢;rw[fr hx,bB];simpa using AD
    ·simp only at hi';by_cases hij:i'<j
     ·exact hlo i' x' hij hx'
     ·obtain rfl:i'=j:=by omega
      rw[hx]at hx';injection hx' with hx';subst hx';cases hlc:rZ t x with
      |false=>rfl
      |true=>
       obtain⟨k',h1,h2⟩:=uo.2 hlc;exact absurd h2 (hpos k' h1)
  ·refine bk [45] 49 ((k:Int) != z) (by simpa using hkz) ?_;rw[beq_eq_false_iff_ne.2 hkz,Bool.not_false,Bool.or_true]at RN;refine cX [49] [] (FO fb ⟨some ⟨b,off,none⟩,cl,cc⟩ bn cn dn most (.slice none 0 0)) [] [(mb,bJ de nm)] [(bn,bJ dO (bZ (cr t)))] [(dn,[]),(cn,[])] ⟨rfl,by rfl,trivial⟩ (Iz fb bn cn dn ⟨some ⟨b,off,none⟩,cl,cc⟩ most (.slice none 0 0) z (i:=j) hz (t:=t) hx (hF.ce x hxm) (hF.len x hxm) (cr t)) ?_;rintro _ _ _ _ ⟨u,hu,rfl,rfl,rfl,rfl⟩;obtain⟨ua,un,uc⟩:=u;simp only at hu;refine ER [] [2,54] (fun a:XO=>[(2,.int .i64 0),(54,.int .i64 a.z)]) (fun _=>[]) (fun _=>FO fb ⟨some ⟨b,off,none⟩,cl,cc⟩ bn cn dn most (.slice none 0 0)) (fun a=>[(mb,bJ de a.nm),(bn,bJ dO (bZ (cr t))),(dn,[]),(cn,[])]) (fun a=>[NL ⟨ua,un,uc⟩ (iI (cr t) x),lC ⟨some ⟨b,off,none⟩,cl,cc⟩ t])
    (fun a=>a.z=a.j∧a.j≤un∧zS a.nm (wF t (t.take j)++(iI (cr t) x).take a.j)∧∀k∈(iI (cr t) x).take a.j,¬k<0) (fun a=>un-a.j) ⟨0,0,false,nm⟩ ⟨rfl,aJ _,by simpa using hnm,fun k hk=>by simp at hk⟩ (eC eK (eC eK eE)) ?_
   rintro⟨q,y,g,QX⟩ K2 ⟨hy,hq,AD,hpos⟩ iu;simp only at hy hq AD hpos;refine MB ⟨ua,un,uc⟩ (l:=iI (cr t) x) rfl (fun _ hu2 hu3=>?_);simp only at hu2 hu3;by_cases Jy:q<un
   ·obtain⟨kk,La⟩:∃kk,(iI (cr t) x)[q]? =some kk:=⟨_,ak (by omega)⟩;have hkm:=aN La;obtain⟨bb,o2,hao⟩:=hu3 (by intro e;rw[e]at hkm;simp at hkm);subst hao;refine bk [] 55 (decide (y<(un:Int))) (ar (by omega)) ?_;refine bY [55] 1 bb o2 un uc .i64 q y hy bG Jy ?_;refine dB [] 1 bb (o2+q*1) (.int .i64 kk) bG (r_ bb o2 un uc La) ?_;by_cases hneg:kk<0
    ·have hl:=CM hx (uo.1 ⟨kk,hkm,hneg⟩);rw[if_pos hl]at hR2;refine bk [] 59 (decide (kk<0)) (ar hneg) ?_;exact jO [59] (.int .i64 23) (FO fb ⟨some ⟨b,off,none⟩,cl,cc⟩ bn cn dn most (.slice none 0 0)) [(mb,bJ de QX),(bn,bJ dO (bZ (cr t))),(dn,[]),(cn,[])] (back 23 hR2.symm Γ) (KJ _)
    ·refine aR [] 59 (decide (kk<0)) (ai hneg) ?_;refine Ca [59] de 104 3 4 (FO fb ⟨some ⟨b,off,none⟩,cl,cc⟩ bn cn dn most (.slice none 0 0)) [] [(bn,bJ dO (bZ (cr t))),(dn,[]),(cn,[])] mb kk (.bool true) QX ?_;refine iu [] _ _ ⟨q+1,IntKind.i64.wrap (y+1),false,kL kk (.bool true) QX⟩ (by kernel_rfl) (by kernel_rfl) ⟨by simp only[af];omega,Jy,?_,fun k' hk'=>?_⟩ (by simp only;omega) (eC eK (eC eK eE))
     ·simp only;rw[fr La,←aT];exact AD.set kk
     ·simp only at hk';rw[fr La,dU]at hk';rcases hk' with h|h
      ·exact hpos k' h
      ·simp only[aH,aI,bU]at h;rw[h];exact hneg
   ·have fI:(iI (cr t) x).take q=iI (cr t) x:=aS (by omega);rw[fI]at AD hpos;refine aR [] 55 (decide (y<(un:Int))) (ai (by omega)) ?_;refine close [55] _ _ ⟨j+1,IntKind.i64.wrap (z+1),true,QX⟩ (by kernel_rfl) (by kernel_rfl) ⟨by simp only[af];omega,hlt,RN.symm,?_,fun i' x' hi' hx'=>?_⟩ (by simp only;omega) (eC eK eE)
    ·simp only;unfold wF at AD⊢;rw[fr hx,bB];simpa using AD
    ·simp only at hi';by_cases hij:i'<j
     ·exact hlo i' x' hij hx'
     ·obtain rfl:i'=j:=by omega
      rw[hx]at hx';injection hx' with hx';subst hx';cases hlc:rZ t x with
      |false=>rfl
      |true=>
       obtain⟨k',h1,h2⟩:=uo.2 hlc;exact absurd h2 (hpos k' h1)
 ·obtain rfl:j=cl:=by omega
  have htk:t.take j=t:=aS (by omega);rw[htk]at hf hnm;have CC:lost t=false:=Ox fun i x hx=>hlo i x (by have:=(List.getElem?_eq_some_iff.1 hx).1;omega) hx;rw[if_neg (by rw[CC];simp)]at hR2;refine aR [] 30 (decide (z<(j:Int))) (ai (by omega)) ?_;refine bW [30] 0 fb 0 bG ?_;refine dK [] (FO fb ⟨ca,j,cc⟩ bn cn dn most (.slice none 0 0)) fb (0+0) 1 [.slice ca j cc,.map (some bn),.map (some cn),.map (some dn),.int .i64 most,.slice none 0 0] (.slice ca j cc) bG (.head _) rfl ?_;refine j7 [] Tryz.f28 1 163 163 [0,3,4,68,2,11,69] [] (ck1 fb mb j f) (fun _=>[]) (fun _=>FO fb ⟨ca,j,cc⟩ bn cn dn most (.slice none 0 0)) (fun a=>[(mb,bJ de nm),(bn,bJ dO (bZ (cr t))),(dn,bJ de (bZ a.dm)),(cn,[])]) (fun a=>[lC ⟨ca,j,cc⟩ t])
   (fun a=>a.z=a.j∧a.j≤j∧Ra t a.dm∧(∀i:Nat,gl (i:Int) a.dm≠some 0)∧(∀i,i<a.j→∃d,sE t i d∧d≤a.d)∧(a.d=0∨∃i,i<t.length∧sE t i a.d)) (fun a=>j-a.j) ⟨0,0,0,[]⟩ ⟨rfl,aJ _,fun k v h=>by simp[gl]at h,fun i h=>by simp[gl]at h,fun i h=>absurd h (iY _),.inl rfl⟩ (eC eK eE) ?_
  rintro⟨i,y,D,dm⟩ K1 ⟨hy,hi,hdm,hdz,hda,Zy⟩ q7;simp only at hy hi hdm hdz hda Zy;by_cases xF:i<j
  ·refine bk [] 70 (decide (y<(j:Int))) (ar (by omega)) ?_;refine cX [70] [] (FO fb ⟨ca,j,cc⟩ bn cn dn most (.slice none 0 0)) [] [(mb,bJ de nm)] [(bn,bJ dO (bZ (cr t))),(dn,bJ de (bZ dm))] [(cn,[])] ⟨rfl,by rfl,trivial⟩ (Sm fb bn cn dn ⟨ca,j,cc⟩ most (.slice none 0 0) (t:=t) hF.ce hF.len CC htl (uX t dm) _ y i hy (by omega) dm hdm (fun q hq=>absurd hq (hdz q)) (aj _)) ?_;rintro _ _ _ _ ⟨d,b,KQ,⟨ht,Ya⟩,rfl,rfl,rfl,rfl⟩;cases b with
   |false=>
    rw[if_pos (Ya rfl)]at hR2;refine bk [] 79 (!false) rfl ?_;exact jO [79] (.int .i64 24) (FO fb ⟨ca,j,cc⟩ bn cn dn most (.slice none 0 0)) [(mb,bJ de nm),(bn,bJ dO (bZ (cr t))),(dn,bJ de (bZ KQ)),(cn,[])] (back 24 hR2.symm Γ) (KJ _)
   |true=>
    obtain⟨e,rfl,H6,hd1,hd2,hd3⟩:=ht rfl;refine aR [] 79 (!true) rfl ?_;refine Mz [79] .i64 (D:Int) (e:Int) ((max D e:Nat):Int) (by omega) ?_;refine q7 [] _ _ ⟨i+1,IntKind.i64.wrap (y+1),max D e,KQ⟩ (by kernel_rfl) (by kernel_rfl) ⟨by simp only[af];omega,xF,hd1,fun q hq=>hdz q (hd2 q hq),fun q hq=>?_,?_⟩ (by simp only;omega) (eC eK eE)
    ·simp only at hq⊢;by_cases hqi:q<i
     ·obtain⟨d',h1,h2⟩:=hda q hqi;exact⟨d',h1,by omega⟩
     ·obtain rfl:q=i:=by omega
      exact⟨e,H6,by omega⟩
    ·simp only;by_cases hDe:e≤D
     ·rw[Nat.max_eq_left hDe];exact Zy
     ·rw[Nat.max_eq_right (by omega)];exact .inr ⟨i,by omega,H6⟩
  ·obtain rfl:i=j:=by omega
   have acx:¬cyc t:=fun⟨c,hc,p_⟩=>by
    obtain⟨d,h1,_⟩:=hda c (by omega);exact p_ d h1
   rw[if_neg acx]at hR2;have ND:(D>64)↔Ji t:=by
    constructor
    ·intro hD;rcases Zy with h0|⟨a,ha,acz⟩
     ·omega
     ·refine⟨a,ha,?_⟩;cases hq:dep t 64 a with
      |none=>rfl
      |some d'=>
       have e1:=acz.uniq ⟨64,hq⟩;have:=M8 hq;omega
    ·rintro⟨a,ha,hn⟩;obtain⟨d,⟨m,hm⟩,hle⟩:=hda a (by omega);have:=M7 hm;by_cases hd:d≤64
     ·rw[mZ this hd]at hn;simp at hn
     ·omega
   refine aR [] 70 (decide (y<(i:Int))) (ai (by omega)) ?_;refine bW [70] 0 fb 0 bG ?_;refine dK [] (FO fb ⟨ca,i,cc⟩ bn cn dn most (.slice none 0 0)) fb (0+0) 1 [.slice ca i cc,.map (some bn),.map (some cn),.map (some dn),.int .i64 most,.slice none 0 0] (.slice ca i cc) bG (.head _) rfl ?_;refine j7 [] Tryz.f28 2 163 163 [0,2,4,11,87,88,3,89] [] (ck2 fb mb ⟨ca,i,cc⟩ D) (fun _=>[]) (fun _=>FO fb ⟨ca,i,cc⟩ bn cn dn most (.slice none 0 0)) (fun a=>[(mb,bJ de nm),(bn,bJ dO (bZ (cr t))),(dn,bJ de (bZ dm)),(cn,[])]) (fun a=>[lC ⟨ca,i,cc⟩ t])
    (fun a=>a.z=a.j∧a.j≤i∧a.f=(f||(t.take a.j).any fun c=>c.i.any fun x=> !j1 x)) (fun a=>i-a.j) ⟨0,0,f,[]⟩ ⟨rfl,aJ _,by simp⟩ (eC eK eE) ?_
   rintro⟨p,y2,g,QX⟩ K2 ⟨N8,hp,hg⟩ iu;simp only at N8 hp hg;by_cases hlt2:p<i
   ·obtain⟨x,hx⟩:∃x,t[p]? =some x:=⟨_,ak (by omega)⟩;have hxm:=aN hx;refine uR ⟨ca,i,cc⟩ hx (fun b off fh fi ha=>?_);simp only at ha;subst ha;refine W.more (Δ:=[qy fi x.i]) rfl (fun I w _ hh=>aU (aY.p (k:=za fh fi) (a:=x) inferInstance hh).2) ?_;obtain⟨ia,im,ic⟩:=fi;refine W.len pX ph.x ⟨ia,im,ic⟩ rfl (fun i1 i2 i3=>?_);simp only at i1 i2 i3;refine bk [] 90 (decide (y2<(i:Int))) (ar (by omega)) ?_;refine bY [90] 2 b off i cc .i64 p y2 N8 bG hlt2 ?_;refine cY [] b (off+p*2) [a_ fh,a_ ⟨ia,im,ic⟩] bG (cB b (off+p*2)) ?_;refine ER [] [3,96] (fun a:XO=>[(3,.bool a.f),(96,.int .i64 a.z)]) (fun _=>[]) (fun _=>FO fb ⟨some ⟨b,off,none⟩,i,cc⟩ bn cn dn most (.slice none 0 0)) (fun a=>[(mb,bJ de nm),(bn,bJ dO (bZ (cr t))),(dn,bJ de (bZ dm)),(cn,[])]) (fun a=>[qy ⟨ia,im,ic⟩ x.i,lC ⟨some ⟨b,off,none⟩,i,cc⟩ t])
     (fun a=>a.z=a.j∧a.j≤im∧a.f=(g||(x.i.take a.j).any fun x=> !j1 x)) (fun a=>im-a.j) ⟨0,0,g,[]⟩ ⟨rfl,aJ _,by simp⟩ (eC eK (eC eK eE)) ?_
    rintro⟨q,y3,g2,nm3⟩ K3 ⟨Yh,hq,hg2⟩ xA;simp only at Yh hq hg2;by_cases H_:q<im
    ·obtain⟨v,hv⟩:∃v,x.i[q]? =some v:=⟨_,ak (by omega)⟩;have hvo:=hF.ok x hxm v (aN hv);have L_:((x.i.take (q+1)).any fun x=> !j1 x)=(((x.i.take q).any fun x=> !j1 x)|| !j1 v):=by rw[fr hv,List.any_append];simp
     refine vV ⟨ia,im,ic⟩ hv (fun b2 oU yf yp ha=>?_);simp only at ha;subst ha;refine bk [] 97 (decide (y3<(im:Int))) (ar (by omega)) ?_;refine bY [97] 2 b2 oU im ic .i64 q y3 Yh bG H_ ?_;refine cY [] b2 (oU+q*2) [a_ yf,a_ yp] bG (cB b2 (oU+q*2)) ?_;cases g2 with
     |true=>
      refine bk [] 101 true rfl ?_;exact xA [101] _ _ ⟨q+1,IntKind.i64.wrap (y3+1),true,[]⟩ (by kernel_rfl) (by kernel_rfl) ⟨by simp only[af];omega,H_,by simp only;rw[L_,←Bool.or_assoc,←hg2,Bool.true_or]⟩ (by simp only;omega) (eC eK (eC eK eE))
     |false=>
      refine aR [] 101 false rfl ?_;refine aq [101] (SC yf yp (x:=v) hvo.im hvo.kind).mF ?_;rintro _ _ ⟨rfl,rfl⟩;exact xA [101] _ _ ⟨q+1,IntKind.i64.wrap (y3+1),!j1 v,[]⟩ (by kernel_rfl) (by kernel_rfl) ⟨by simp only[af];omega,H_,by simp only;rw[L_,←Bool.or_assoc,←hg2,Bool.false_or]⟩ (by simp only;omega) (eC eK (eC eK eE))
    ·have fI:x.i.take q=x.i:=aS (by omega);rw[fI]at hg2;refine aR [] 97 (decide (y3<(im:Int))) (ai (by omega)) ?_;refine iu [97] _ _ ⟨p+1,IntKind.i64.wrap (y2+1),g2,[]⟩ (by kernel_rfl) (by kernel_rfl) ⟨by simp only[af];omega,hlt2,?_⟩ (by simp only;omega) (eC eK eE);simp only;rw[fr hx,List.any_append,←Bool.or_assoc,←hg,hg2];simp
   ·obtain rfl:p=i:=by omega
    rw[htk,hf]at hg;have NJ:g=Ap t:=by rw[hg];rfl
    refine aR [] 90 (decide (y2<(p:Int))) (ai (by omega)) ?_;cases g with
    |true=>
     rw[if_pos (.inl NJ.symm)]at hR2;refine bk [90] 109 true rfl ?_;exact jO [112,109] (.int .i64 25) (FO fb ⟨ca,p,cc⟩ bn cn dn most (.slice none 0 0)) [(mb,bJ de nm),(bn,bJ dO (bZ (cr t))),(dn,bJ de (bZ dm)),(cn,[])] (back 25 hR2.symm Γ) (KJ _)
    |false=>
    refine aR [90] 109 false rfl ?_;by_cases hD:D>64
    ·rw[if_pos (.inr (ND.1 hD))]at hR2;refine bk [109] 112 (decide ((D:Int)>64)) (ar (by omega)) ?_;exact jO [112] (.int .i64 25) (FO fb ⟨ca,p,cc⟩ bn cn dn most (.slice none 0 0)) [(mb,bJ de nm),(bn,bJ dO (bZ (cr t))),(dn,bJ de (bZ dm)),(cn,[])] (back 25 hR2.symm Γ) (KJ _)
    rw[if_neg (fun h=>h.elim (fun h=>by rw[←NJ]at h;simp at h) (fun h=>hD (ND.2 h)))]at hR2;have FA:zL t:=⟨CC,fun c hc x hx=>by
     have:=NJ.symm;unfold Ap at this;rw[sj]at this;have h2:=List.any_eq_false.1 this.2 c hc;simp only[Bool.not_eq_true]at h2;have h3:=List.any_eq_false.1 h2 x hx;simpa using h3,fun a ha=>by
     cases hq:dep t 64 a with
     |none=>exact absurd (ND.2 ⟨a,ha,hq⟩) hD
     |some d=>exact⟨d,rfl⟩⟩
    have TW:∀c:Nat,(gl (c:Int) nm).getD (.bool false)=.bool (ru t c):=fun c=>by rw[hnm.look,FU CC]
    have hm1:IntKind.i64.wrap (most+1)=most+1:=by rw[af];omega
    have hcT:∀c,0≤pq t c:=fun c=>by
     unfold pq;split
     ·exact Int.le_refl _
     ·exact FA.cnt_nn 64 c
    have hsn:∀l:List Nat,0≤(l.map (pq t)).sum:=fun l=>Bw fun q hq=>by
     obtain⟨c,_,rfl⟩:=List.mem_map.1 hq;exact hcT c
    refine aR [109] 112 (decide ((D:Int)>64)) (ai (by omega)) ?_;refine bW [112] 0 fb 0 bG ?_;refine dK [] (FO fb ⟨ca,p,cc⟩ bn cn dn most (.slice none 0 0)) fb (0+0) 1 [.slice ca p cc,.map (some bn),.map (some cn),.map (some dn),.int .i64 most,.slice none 0 0] (.slice ca p cc) bG (.head _) rfl ?_;refine j7 [] Tryz.f28 3 163 163 [0,2,4,117,19,118] [] (ck3 fb mb p) (fun _=>[]) (fun _=>FO fb ⟨ca,p,cc⟩ bn cn dn most (.slice none 0 0)) (fun a=>[(mb,bJ de nm),(bn,bJ dO (bZ (cr t))),(dn,bJ de (bZ dm)),(cn,bJ de (bZ a.cm))]) (fun a=>[lC ⟨ca,p,cc⟩ t])
     (fun a=>a.z=a.j∧a.j≤p∧a.n=min ((((List.range t.length).take a.j).map (pq t)).sum) (most+1)∧vR t most a.cm) (fun a=>p-a.j) ⟨0,0,0,[]⟩ ⟨rfl,aJ _,by simp only[mj,dA,List.sum_nil];omega,fun k v h=>by simp[gl]at h⟩ (eC eK eE) ?_
    rintro⟨q,y3,SR,cm⟩ K3 ⟨Yh,hq,Lg,hcm⟩ xA;simp only at Yh hq Lg hcm;by_cases H_:q<p
    ·have hst:=tQ (pq t) (j:=q) (n:=t.length) (by omega);obtain⟨S,hS⟩:∃S,(((List.range t.length).take q).map (pq t)).sum=S:=⟨_,rfl⟩;have hS0:=hsn ((List.range t.length).take q);rw[hS]at Lg hst hS0;refine bk [] 119 (decide (y3<(p:Int))) (ar (by omega)) ?_;refine uS [119] de 104 3 4 false (FO fb ⟨ca,p,cc⟩ bn cn dn most (.slice none 0 0)) [(mb,bJ de nm),(bn,bJ dO (bZ (cr t))),(dn,bJ de (bZ dm)),(cn,bJ de (bZ cm))] mb y3 nm (.bool false) bG (.head _) ?_;rw[show(gl y3 nm).getD (.bool false)=.bool (ru t q)by rw[Yh];exact TW q];cases V9:ru t q with
     |true=>
      have hc0:pq t q=0:=by unfold pq;rw[if_pos V9]
      refine aR [] 124 (!true) rfl ?_;exact xA [124] _ _ ⟨q+1,IntKind.i64.wrap (y3+1),SR,cm⟩ (by kernel_rfl) (by kernel_rfl) ⟨by simp only[af];omega,H_,by simp only;rw[hst,hc0,uK];exact Lg,hcm⟩ (by simp only;omega) (eC eK eE)
     |false=>
      have hcq:pq t q=jT t 64 q:=by unfold pq;rw[if_neg (by rw[V9];simp)]
      have NC:=FA.cnt_nn 64 q;have Jz:min (SR+min (jT t 64 q) (most+1)) (most+1)=min (S+jT t 64 q) (most+1):=by omega
      have hw:IntKind.i64.wrap (SR+min (jT t 64 q) (most+1))=SR+min (jT t 64 q) (most+1):=by rw[af];omega
      refine bk [] 124 (!false) rfl ?_;have pc:=JS fb bn cn dn ca p cc most (.slice none 0 0) (bJ de (bZ dm)) hF FA tg 64 [lC ⟨ca,p,cc⟩ t] y3 q Yh (by omega) (FA.deep q (by omega)) cm hcm;refine Mx [124] ?_ ?_
      ·refine bW [] 4 fb 0 bG ?_;refine dK [] (FO fb ⟨ca,p,cc⟩ bn cn dn most (.slice none 0 0)) fb (0+4) 1 [.slice ca p cc,.map (some bn),.map (some cn),.map (some dn),.int .i64 most,.slice none 0 0] (.int .i64 most) bG (.head _) rfl ?_;refine cX [] [] (FO fb ⟨ca,p,cc⟩ bn cn dn most (.slice none 0 0)) [] [(mb,bJ de nm)] [(bn,bJ dO (bZ (cr t))),(dn,bJ de (bZ dm)),(cn,bJ de (bZ cm))] [] ⟨rfl,by rfl,trivial⟩ pc ?_;rintro _ _ _ _ ⟨Vx,K8,rfl,rfl,rfl,rfl⟩;refine pj [] .i64 (IntKind.i64.wrap (SR+min (jT t 64 q) (most+1))) (IntKind.i64.wrap (most+1)) (min (S+jT t 64 q) (most+1)) (by rw[hw,hm1];exact Jz) ?_;exact xA [] _ _ ⟨q+1,IntKind.i64.wrap (y3+1),min (S+jT t 64 q) (most+1),Vx⟩ (by kernel_rfl) (by kernel_rfl) ⟨by simp only[af];omega,H_,by simp only;rw[hst,hcq],K8⟩ (by simp only;omega) (eC eK eE)
      ·refine bW [] 4 fb 0 bG ?_;refine cX [] [] (FO fb ⟨ca,p,cc⟩ bn cn dn most (.slice none 0 0)) [] [(mb,bJ de nm)] [(bn,bJ dO (bZ (cr t))),(dn,bJ de (bZ dm)),(cn,bJ de (bZ cm))] [] ⟨rfl,by rfl,trivial⟩ pc ?_;rintro _ _ _ _ ⟨Vx,K8,rfl,rfl,rfl,rfl⟩;refine dK [] (FO fb ⟨ca,p,cc⟩ bn cn dn most (.slice none 0 0)) fb (0+4) 1 [.slice ca p cc,.map (some bn),.map (some cn),.map (some dn),.int .i64 most,.slice none 0 0] (.int .i64 most) bG (.head _) rfl ?_;refine pj [] .i64 (IntKind.i64.wrap (SR+min (jT t 64 q) (most+1))) (IntKind.i64.wrap (most+1)) (min (S+jT t 64 q) (most+1)) (by rw[hw,hm1];exact Jz) ?_;exact xA [] _ _ ⟨q+1,IntKind.i64.wrap (y3+1),min (S+jT t 64 q) (most+1),Vx⟩ (by kernel_rfl) (by kernel_rfl) ⟨by simp only[af];omega,H_,by simp only;rw[hst,hcq],K8⟩ (by simp only;omega) (eC eK eE)
    ·obtain rfl:q=p:=by omega
     rw[aS (by rw[gU];omega)]at Lg;have htt:SR=min (ve t) (most+1):=Lg;refine aR [] 119 (decide (y3<(q:Int))) (ai (by omega)) ?_;refine bW [119] 4 fb 0 bG ?_;refine dK [] (FO fb ⟨ca,q,cc⟩ bn cn dn most (.slice none 0 0)) fb (0+4) 1 [.slice ca q cc,.map (some bn),.map (some cn),.map (some dn),.int .i64 most,.slice none 0 0] (.int .i64 most) bG (.head _) rfl ?_;by_cases VO:ve t>most
     ·rw[if_pos VO]at hR2;refine bk [] 142 (decide (SR>most)) (ar (by omega)) ?_;exact jO [142] (.int .i64 27) (FO fb ⟨ca,q,cc⟩ bn cn dn most (.slice none 0 0)) [(mb,bJ de nm),(bn,bJ dO (bZ (cr t))),(dn,bJ de (bZ dm)),(cn,bJ de (bZ cm))] (back 27 hR2.symm Γ) (KJ _)
     rw[if_neg VO]at hR2;unfold Lm at hR2;refine aR [] 142 (decide (SR>most)) (ai (by omega)) ?_;refine bW [142] 0 fb 0 bG ?_;refine dK [] (FO fb ⟨ca,q,cc⟩ bn cn dn most (.slice none 0 0)) fb (0+0) 1 [.slice ca q cc,.map (some bn),.map (some cn),.map (some dn),.int .i64 most,.slice none 0 0] (.slice ca q cc) bG (.head _) rfl ?_;refine j7 [] Tryz.f28 4 163 163 [0,4,147,2,148] [] (ck4 fb mb q) (fun _=>[]) (fun a=>FO fb ⟨ca,q,cc⟩ bn cn dn most (a_ a.s)++a.O) (fun a=>[(mb,bJ de nm),(bn,bJ dO (bZ (cr t))),(dn,bJ de (bZ dm)),(cn,bJ de (bZ a.cm))]) (fun a=>[lC ⟨ca,q,cc⟩ t,OF ⟨bV,bV,bV,bV,bV⟩ (0,Un),sK oB (a_ a.s) a.E])
      (fun a=>a.z=a.j∧a.j≤q∧vR t most a.cm∧cH 3 a.O (a_ a.s) a.E.length (a.E.flatMap oB.cells)∧(a.E.length:Int)≤(((List.range t.length).take a.j).map (pq t)).sum∧BL (FX t) (List.range t.length) R a.j a.E) (fun a=>q-a.j) ⟨0,0,cm,⟨none,0,0⟩,[],[]⟩ ⟨rfl,aJ _,hcm,cH.nil 3,by simp,by rw[←hR2];exact qW _ _⟩ (eC eK (eC (fun I w hd _=>WK I w hd) (eC (fun I w _ _=>OR _ I w) eE))) ?_
     rintro⟨r,y4,Rx,s4,O4,E4⟩ K4 ⟨hy4,hr,H2,Jw,hE4,Yd⟩ MV;simp only at hy4 hr H2 Jw hE4 Yd;by_cases ZQ:r<q
     ·have hst:=tQ (pq t) (j:=r) (n:=t.length) (by omega);have NY:(List.range t.length)[r]? =some r:=tU (by omega);have hle:(((List.range t.length).take (r+1)).map (pq t)).sum≤ve t:=by
       unfold ve;have e0:((List.range t.length).map (pq t)).sum=(((List.range t.length).take (r+1)).map (pq t)).sum+(((List.range t.length).drop (r+1)).map (pq t)).sum:=by
        rw[←n_,←aX,jM]
       have:=hsn ((List.range t.length).drop (r+1));omega
      refine bk [] 149 (decide (y4<(q:Int))) (ar (by omega)) ?_;refine uS [149] de 104 3 4 false (FO fb ⟨ca,q,cc⟩ bn cn dn most (a_ s4)++O4) [(mb,bJ de nm),(bn,bJ dO (bZ (cr t))),(dn,bJ de (bZ dm)),(cn,bJ de (bZ Rx))] mb y4 nm (.bool false) bG (.head _) ?_;rw[show(gl y4 nm).getD (.bool false)=.bool (ru t r)by rw[hy4];exact TW r];cases V9:ru t r with
      |true=>
       have hc0:pq t r=0:=by unfold pq;rw[if_pos V9]
       have hln:FX t r=.ok []:=by unfold FX;rw[if_pos V9]
       refine aR [] 154 (!true) rfl ?_;exact MV [154] _ _ ⟨r+1,IntKind.i64.wrap (y4+1),Rx,s4,O4,E4⟩ (by kernel_rfl) (by kernel_rfl) ⟨by simp only[af];omega,ZQ,H2,Jw,by simp only;rw[hst,hc0];omega,by have:=Yd.step (es:=[]) NY hln rfl;rwa [ah]at this⟩ (by simp only;omega) (eC eK (eC eK (eC eK eE)))
      |false=>
       have hcq:pq t r=jT t 64 r:=by unfold pq;rw[if_neg (by rw[V9];simp)]
       have hln:FX t r=gg t 64 r Un:=by unfold FX;rw[if_neg (by rw[V9];simp)]
       have NC:=FA.cnt_nn 64 r;obtain⟨dr,hdr⟩:=FA.deep r (by omega);refine bk [] 154 (!false) rfl ?_;refine cX [154] [] (FO fb ⟨ca,q,cc⟩ bn cn dn most (a_ s4)++O4) [] [(mb,bJ de nm)] [(bn,bJ dO (bZ (cr t))),(dn,bJ de (bZ dm)),(cn,bJ de (bZ Rx))] [] ⟨rfl,by rfl,trivial⟩ (eo:=(by simp only[ah];kernel_rfl)) (Up fb bn cn dn ca q cc most (bJ de (bZ dm)) hF FA tg hW 64 _ y4 r dr hy4 (by omega) hdr Un ⟨bV,bV,bV,bV,bV⟩ 0 0 (by decide) (by decide) aaV (aJ _) Rx H2 s4 O4 E4 Jw (by omega)) ?_;rintro _ _ _ _ ⟨X8,RJ,rfl,s5,O5,es5,ZA,rfl,rfl,CB,rfl⟩;rw[ah (FO fb ⟨ca,q,cc⟩ bn cn dn most (a_ s5)++O5)];cases hlr:gg t 64 r Un with
       |error er=>
        have Hf:=nU _ _ _ _ hlr;have yA:R=.error er:=Yd.err NY (by rw[hln,hlr]);refine bk [] 160 (er != 0) (by rcases Hf with rfl|rfl<;>rfl) ?_;exact jO [160] (.int .i64 er) (FO fb ⟨ca,q,cc⟩ bn cn dn most (a_ s5)++O5) [(mb,bJ de nm),(bn,bJ dO (bZ (cr t))),(dn,bJ de (bZ dm)),(cn,bJ de (bZ X8))] ⟨s5,O5,E4++es5,fun q h=>by rw[yA]at h;simp at h,by rw[yA];rfl,rfl,CB,rfl⟩ (eC eK eE)
       |ok sr=>
        have hsl:=FA.lay_len _ _ _ _ hlr;have he5:es5.length=sr.length:=by rw[←ZA sr hlr,bT]
        refine aR [] 160 ((0:Int) != 0) (by decide) ?_;exact MV [160] _ _ ⟨r+1,IntKind.i64.wrap (y4+1),X8,s5,O5,E4++es5⟩ (by kernel_rfl) (by kernel_rfl) ⟨by simp only[af];omega,ZQ,RJ,CB,by simp only[aA];rw[hst,hcq];omega,Yd.step NY (by rw[hln,hlr]) (ZA sr hlr)⟩ (by simp only;omega) (eC eK (eC eK (eC eK eE)))
     ·have TR:R=.ok (E4.map qt.x):=Yd.fin (by rw[gU];omega);refine aR [] 149 (decide (y4<(q:Int))) (ai (by omega)) ?_;exact jO [149] (.int .i64 0) (FO fb ⟨ca,q,cc⟩ bn cn dn most (a_ s4)++O4) [(mb,bJ de nm),(bn,bJ dO (bZ (cr t))),(dn,bJ de (bZ dm)),(cn,bJ de (bZ Rx))] ⟨s4,O4,E4,fun q h=>by rw[TR]at h;injection h,by rw[TR];rfl,rfl,Jw,rfl⟩ (eC eK eE)
end
end Go.Proofs.YtgaaopjagcaojaaGreat
