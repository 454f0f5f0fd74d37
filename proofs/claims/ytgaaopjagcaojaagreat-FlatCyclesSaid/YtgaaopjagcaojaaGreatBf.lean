import Derived.Test.YtgaaopjagcaojaaGreatMq
import Derived.Test.YtgaaopjagcaojaaGreatLs
import Derived.Test.YtgaaopjagcaojaaGreatLk
import Derived.Lib.SmallJoins
set_option linter.unusedSimpArgs false
set_option linter.unusedVariables false
set_option maxHeartbeats 4000000
namespace Go.Proofs.YtgaaopjagcaojaaGreat
open Go.RowKit Go.IntWalk
theorem CW(c:Ce):∀(l:List Ce) (i:Nat) (nm:List (ByteArray×Int)),xY (l++[c]) i nm=if(gw (jG c) (xY l i nm)).isSome then xY l i nm else lk (jG c) ((i+l.length:Nat):Int) (xY l i nm)
 | [],i,nm=>rfl
 |a::l,i,nm=>by
  simp only[cT,xY,aC];rw[CW c l (i+1),show i+1+l.length=i+(l.length+1)by omega]<;>rfl
theorem Lj{t:List Ce}{n e:Int}(h:vt t n=.error e):e≠0:=by
 unfold vt at h;split at h
 ·injection h with h;omega
 ·split at h
  ·injection h with h;omega
  ·split at h
   ·injection h with h;omega
   ·split at h
    ·injection h with h;omega
    ·have:=uk (A:=fun e=>e=25∨e=26) (fun c _ e' he=>by
      unfold Ix at he;split at he
      ·simp at he
      ·exact oI _ _ _ _ he) h
     omega
theorem ZT{s:Sl}{r:Re}{I:fQ}{w:World}(h:(xG s r).p I w):ME r:=h.2.2.2.2.1
theorem IB{α β:Type}{R:kG α}{num:α→β}{s:Sl}{l:List β}{I:fQ}{w:World}(h:(LF R num s l).p I w){Q:β→Prop}(hq:∀e:α,(R.fact 0 e).p I w→Q (num e)):∀x∈l,Q x:=fun x hx=>by
 obtain⟨es,rfl,_,_,h4,_⟩:=h;obtain⟨e,he,rfl⟩:=List.mem_map.1 hx;exact hq e (h4 e he)
theorem Yr{h i:Sl}{x:Ce}{I:fQ}{w:World}(hf:(yz h i x).p I w):Xt x:=
 IB hf.2 (Q:=fun y=>∀r∈y.f,ME r) fun e he=>IB (show(la e.f e.x.f).p I w from he.1) (Q:=ME) fun e' he'=>ZT he'
theorem Zo{h c:Sl}{t:Li}{I:fQ}{w:World}(hf:(yA h c t).p I w):∀x∈t.c,Xt x:=
 IB hf.2 (Q:=Xt) fun e he=>Yr he
theorem Lk(f:List Re){l:List Ce}{c:Ce}(h:c∈l):c.i.length≤(l.flatMap fS).length:=by
 obtain⟨a,b,rfl⟩:=vG h;have h1:=qZ qY c.i;simp only[bp,bz,aA];have:(fS c).length=c.h.length+((c.i.flatMap fH).length+1):=by simp[fS]
 omega
theorem Vq{t:Li}(hv:jo t=true)(hl:(g9 t).length≤100000)(hb:∀x∈t.c,Xt x):S6 t.c:=by
 have h1:=(gp.1 hv).2;have h2:(t.c.flatMap fS).length≤100000:=by
  have:(g9 t).length=t.h.length+((t.c.flatMap fS).length+1):=by simp[g9]
  omega
 exact⟨fun c hc=>(h1 c hc).2,fun c hc=>aP (Lk [] hc) h2,aP (qZ pg t.c) h2,hb⟩
def Mw(r:LR)(v:Value)(Δ:List aD):Prop:=
 (∃e,r=.error e∧v=.tuple #[.slice none 0 0,.int .i64 e]∧Δ=[])∨∃(l:List Sh) (s:Sl),r=.ok l∧v=.tuple #[aZ s,.int .i64 0]∧Δ=[LF pU qS.x s l]
section
variable{Γ:List aD}
theorem LV(ha:Option Addr)(hn hc':Nat)(ca:Option Addr)(cl cc:Nat)(n:Int){t:Li} [hF:aW (yA ⟨ha,hn,hc'⟩ ⟨ca,cl,cc⟩) t Γ](hl:(g9 t).length≤100000)(hW:jo t=true→xw t.c≤160):aw KG Tryz.prog 12 [lY ⟨ha,hn,hc'⟩ ⟨ca,cl,cc⟩,.int .i64 n] Γ (Mw (qX t n)):=by
 obtain⟨R,hR⟩:∃R,qX t n=R:=⟨_,rfl⟩;have hR2:=hR;unfold qX at hR2;rw[hR];refine aw.of_W bH Tryz.func12 rfl ?_ (fun _ h=>h.1);refine qD (∀x∈t.c,Xt x) rfl (fun I w _ hh=>Zo (hF.p hh)) (fun hb=>?_);by_cases h1:n<0
 ·rw[if_pos (.inl h1)]at hR2;refine bj [] 15 (decide (n<0)) (au h1) ?_;exact W.r [12,15] (.tuple #[.slice none 0 0,.int .i64 1]) (.inl ⟨1,hR2.symm,rfl,rfl⟩) bT
 refine aQ [] 15 (decide (n<0)) (aj h1) ?_;by_cases h2:n>100000
 ·rw[if_pos (.inr h2)]at hR2;refine bj [15] 12 (decide (n>100000)) (au h2) ?_;exact W.r [12] (.tuple #[.slice none 0 0,.int .i64 1]) (.inl ⟨1,hR2.symm,rfl,rfl⟩) bT
 rw[if_neg (by omega)]at hR2;refine aQ [15] 12 (decide (n>100000)) (aj h2) ?_;refine aq [12] (SB ⟨ha,hn,hc'⟩ ⟨ca,cl,cc⟩ (t:=t) hl).mF ?_;rintro _ _ ⟨rfl,rfl⟩;cases hv:jo t with
 |false=>
  rw[if_pos hv]at hR2;refine bj [] 19 (!false) rfl ?_;exact W.r [19] (.tuple #[.slice none 0 0,.int .i64 20]) (.inl ⟨20,hR2.symm,rfl,rfl⟩) bT
 |true=>
 rw[if_neg (by rw[hv];simp)]at hR2;have hfit:=Vq hv hl hb;refine aQ [] 19 (!true) rfl ?_;refine W.more (Δ:=[lH ⟨ca,cl,cc⟩ t.c]) (by kernel_rfl) (fun I w _ hh=>aS (hF.p hh).2) ?_;refine Jh [19] [] [] (fun bn=>?_);refine Jh [] [] [(bn,[])] (fun cn=>?_);refine Jh [] [] [(cn,[]),(bn,[])] (fun dn=>?_);refine E0 [] [34] (fun a:Xu=>[(34,.int .i64 a.z)]) (fun _=>[]) (fun _=>[]) (fun a=>[(dn,[]),(cn,[]),(bn,bM dU (cg (xY (t.c.take a.j) 0 [])))]) (fun _=>[lH ⟨ca,cl,cc⟩ t.c]) (fun a=>a.z=a.j∧a.j≤cl) (fun a=>cl-a.j) ⟨0,0,false,[]⟩ ⟨rfl,aJ _⟩ (eC eK eE) ?_;rintro⟨j,z,g,nm⟩ K ⟨hz,hj⟩ close;simp only at hz hj;refine W.len g8 lj.x ⟨ca,cl,cc⟩ rfl (fun c1 c2 c3=>?_);simp only at c1 c2 c3;by_cases hlt:j<cl
 ·obtain⟨x,hx⟩:∃x,t.c[j]? =some x:=⟨_,ai (by omega)⟩;have hst:=CW x (t.c.take j) 0 [];rw[←fw hx,dG,bQ,fr (by omega)]at hst;obtain⟨N,hN⟩:∃N,xY (t.c.take j) 0 []=N:=⟨_,rfl⟩;rw[hN]at hst;refine sI ⟨ca,cl,cc⟩ hx (fun b off fh fi ha=>?_);simp only at ha;subst ha;refine bj [] 35 (decide (z<(cl:Int))) (au (by omega)) ?_;refine bW [35] 2 b off cl cc .i64 j z hz bH hlt ?_;refine cV [] b (off+j*2) [aZ fh,aZ fi] bH (cA b (off+j*2)) ?_;refine aq [] (uM fh fi (x:=x)).mF ?_;rintro _ _ ⟨rfl,rfl⟩;refine vm [] dU 69 9 3 true [] [(dn,[]),(cn,[]),(bn,bM dU (cg N))] bn (jG x) (cg N) (.int .i64 0) bH (h:=(by rw[←hN];kernel_rfl)) (.tail _ (.tail _ (.head _))) ?_;rw[mT];cases hg:gw (jG x) N with
  |some v=>
   rw[hg]at hst;refine aQ [] 50 (!true) rfl ?_;exact close [50] _ _ ⟨j+1,IntKind.i64.wrap (z+1),false,[]⟩ (by kernel_rfl) (by simp only;rw[hst];kernel_rfl) ⟨by simp only[af];omega,hlt⟩ (by simp only;omega) (eC eK eE)
  |none=>
   rw[hg]at hst;refine bj [] 50 (!false) rfl ?_;refine aq [50] (uM fh fi (x:=x)).mF ?_;rintro _ _ ⟨rfl,rfl⟩;refine Cf [] dU 69 9 3 [] [(dn,[]),(cn,[])] [] bn (jG x) (.int .i64 z) (cg N) ?_;rw[qU];exact close [] _ _ ⟨j+1,IntKind.i64.wrap (z+1),false,[]⟩ (by kernel_rfl) (by simp only;rw[hst,←hz];kernel_rfl) ⟨by simp only[af];omega,hlt⟩ (by simp only;omega) (eC eK eE)
 ·obtain rfl:j=cl:=by omega
  refine aQ [] 35 (decide (z<(j:Int))) (aj (by omega)) ?_;refine vn 30 (fun fb=>?_);have hnm:xY (t.c.take j) 0 []=cw t.c:=by rw[aU (by omega)];rfl
  have pc:=DB (Sg fb bn cn dn ca j cc n hfit (by omega) (hW hv) [lH ⟨ca,j,cc⟩ t.c]) (M':=[(dn,[]),(cn,[]),(bn,bM dU (cg (cw t.c)))]) (List.perm_append_comm (l₁:=[(bn,bM dU (cg (cw t.c)))]) (l₂:=[(dn,[]),(cn,[])]));refine cZ [35] [] (FO fb ⟨ca,j,cc⟩ bn cn dn n (.slice none 0 0)) [] [] [(dn,[]),(cn,[]),(bn,bM dU (cg (cw t.c)))] [] ⟨rfl,by rfl,trivial⟩ (em:=(by rw[←hnm];kernel_rfl)) pc ?_;rintro _ _ M _ ⟨s,O2,es2,hes,rfl,rfl,hg,rfl⟩;rw[ah (FO fb ⟨ca,j,cc⟩ bn cn dn n (aZ s)++O2)];cases hRr:vt t.c n with
  |error e=>
   rw[hRr]at hR2;refine bj [] 62 (e != 0) (by simpa using Lj hRr) ?_;exact W.r [62] (.tuple #[.slice none 0 0,.int .i64 e]) (.inl ⟨e,hR2.symm,rfl,rfl⟩) bT
  |ok l=>
   rw[hRr]at hR2 hes;refine aQ [] 62 ((0:Int) != 0) (by decide) ?_;refine bZ [62] 5 fb 0 bH ?_;refine dR [] (FO fb ⟨ca,j,cc⟩ bn cn dn n (aZ s)++O2) fb (0+5) 1 [.slice ca j cc,.map (some bn),.map (some cn),.map (some dn),.int .i64 n,aZ s] (aZ s) bH (.head _) rfl ?_;refine k8 (FO fb ⟨ca,j,cc⟩ bn cn dn n (aZ s)) O2 [] (by rw[ah O2];kernel_rfl) hg (fun g5 g1 g2=>?_);exact W.r [] (.tuple #[aZ s,.int .i64 0]) (.inr ⟨l,s,hR2.symm,rfl,rfl⟩) (fun I w hd hh=>aS (by
    rw[←hes l rfl];obtain⟨sa,sn,sc⟩:=s;exact CP pU qS.x (v:=aZ ⟨sa,sn,sc⟩) g5 g1 g2 (aW.p (k:=mS pU (aZ ⟨sa,sn,sc⟩)) inferInstance hh) (aW.p (k:=RA sa) inferInstance hh)))
end
section
variable{Γ:List aD}
theorem mo(h c:Sl)(n:Int){t:Li} [hF:aW (yA h c) t Γ](hl:(g9 t).length≤100000)(hW:jo t=true→xw t.c≤160):aw tb Tryz.prog 12 [lY h c,.int .i64 n] Γ (Mw (qX t n)):=by
 obtain⟨ha,hn,hc'⟩:=h;obtain⟨ca,cl,cc⟩:=c;exact LV ha hn hc' ca cl cc n (t:=t) hl hW
end
def jH(s:ByteArray):List Int:=if s.size % 2=0 then iW s else iW s++[0]
theorem y9(s:ByteArray):kW (jH s):=by
 unfold jH;split
 ·exact tt s
 ·intro z hz;simp only[dI,aF,aE,bL]at hz;rcases hz with hz|rfl
  ·exact tt s z hz
  ·decide
theorem B8{P:Program}(w:World)(t ty e:TypeId)(i:TypeInfo)(ht:P.underlying t=some (.slice e))(hi:P.info? e=some i)(hs:i.size=1)
  (g n cap:Nat)(cur:Array Value)(p q:Nat)(hg:w.heap[g]? =some (.cells cur e (p,q)))(x:Value)(hx:x.oneCell'=true)(a:Addr)(c:Nat)(ha:w.cell? a=some x)
  (hroom:n+1≤cap)(hn:n<cur.size)(hp:n<p):
  (Builtin.append_ #[t,t] ty #[.slice (some ⟨g,0,none⟩) n cap,.slice (some a) 1 c]).run P w=.ok (.slice (some ⟨g,0,none⟩) (n+1) cap) (w.setCell ⟨g,n,none⟩ x):=by
 have hf:=run_firstCells_some (P:=P) w 1 1 a 1 c [x] rfl (fun j v hv=>by
  cases j with
  |zero=>
   simp at hv;subst hv;simpa [Addr.add]using ha
  |succ j=>simp at hv)
 have c1:w.cell? ⟨g,n,none⟩=some (cur[n]'hn):=by simp[World.cell?,hg,hn]
 have z1:w.frozen? ⟨g,n,none⟩=false:=by
  simp[World.frozen?,hg];omega
 have hst:=run_store P w ⟨g,n,none⟩ x;simp[Builtin.append_,cL ht,sizeOf,typeInfo,hi,hs,Builtin.lenOf,hroom,hf,Addr.add_lit,storeCells,run_store,hx,c1,z1]
theorem Qf(w:World)(ty:TypeId)(B n cap:Nat)(cur:Array Value)(p q:Nat)(hg:w.heap[B]? =some (.cells cur 5 (p,q)))(x:Value)(hx:x.oneCell'=true)(a:Addr)(c:Nat)(ha:w.cell? a=some x)
  (hcap:n≤cap)(hcm:cap≤maxLen)(hn:cap≤cur.size)(hp:cap≤p)(hs:n+1≤1000000000):
  ∃(u:Sl) (w':World),(Builtin.append_ #[28,28] ty #[.slice (some ⟨B,0,none⟩) n cap,.slice (some a) 1 c]).run Tryz.prog w=.ok (aZ u) w'∧Below B w w'∧u.n=n+1∧u.n≤u.c∧u.c≤maxLen∧
   ∃g,u.ao=some ⟨g,0,none⟩∧B≤g∧∀i v,(cur.toList.take n++[x])[i]? =some v→w'.cell? ⟨g,i,none⟩=some v:=by
 obtain⟨i0,hi0,hz0,hz1,hz2⟩:=info_parts EE.inf;have hBl:=rL hg;have htl:(cur.toList.take n).length=n:=by rw[dG,uv];omega
 by_cases hroom:n+1≤cap
 ·have hr:=B8 (P:=Tryz.prog) w 28 ty 5 i0 EE.ut hi0 hz1 B n cap cur p q hg x hx a c ha hroom (by omega) (by omega);refine⟨⟨some ⟨B,0,none⟩,n+1,cap⟩,_,hr,⟨rfl,rfl,rfl,by rw[p7];omega,fun k hk=>eN (by omega)⟩,rfl,hroom,hcm,B,rfl,ak _,fun i v hv=>?_⟩;have h2:(w.setCell ⟨B,n,none⟩ x).heap[B]? =some (.cells (cur.setIfInBounds n x) 5 (p,q)):=by simp[World.setCell,jX,hg]
  have hi:i<n+1:=by
   have:=(List.getElem?_eq_some_iff.1 hv).1;simp only[aA,htl,aC,a_]at this;omega
  simp only[World.cell?,h2,lI,iv,d_];rw[Array.getElem?_setIfInBounds];by_cases hin:i=n
  ·subst hin;rw[dZ (by omega),htl,nA]at hv;rw[if_pos rfl,if_pos (by omega)];exact hv
  ·rw[cW (by omega),dF,if_pos (by omega),eO]at hv;rw[if_neg (by omega)];exact hv
 ·obtain rfl:n=cap:=by omega
  have holds:∀j v,(cur.toList.take n)[j]? =some v→w.cell? ((⟨B,0,none⟩:Addr).add j)=some v:=fun j v hv=>by
   have hj:j<n:=by
    have:=(List.getElem?_eq_some_iff.1 hv).1;omega
   rw[dF,if_pos hj,eO]at hv;rw[show(⟨B,0,none⟩:Addr).add j=⟨B,j,none⟩from by unfold Addr.add;split<;>simp_all];simp only[World.cell?,hg,lI,iv,d_];exact hv
  have hr:=run_append_grow (P:=Tryz.prog) w 28 ty 5 i0 (.int .u8 0) EE.ut hi0 hz0 ⟨B,0,none⟩ n n (cur.toList.take n) (by rw[htl,hz1,fK]) holds a 1 c [x] (by rw[hz1];rfl) (fun j v hv=>by
   cases j with
   |zero=>
    simp at hv;subst hv;simpa [Addr.add]using ha
   |succ j=>simp at hv) (by omega) (by omega) (growslice_fits (by omega) (by rw[hz2];omega))
  have hge:=grownCap_ge w (n+1) n 5;have hle:=grownCap_le_maxLen w (n+1) n 5 (by unfold maxLen;omega);refine⟨⟨some ⟨w.heap.size,0,none⟩,n+1,grownCap w (n+1) n 5⟩,_,hr,⟨rfl,rfl,rfl,by simp,fun k hk=>by
   rw[jx (show k<w.drew.heap.size from Nat.lt_trans hk hBl)];rfl⟩,rfl,hge,hle,w.heap.size,rfl,by omega,fun i v hv=>?_⟩
  have h2:=nc w.drew (.cells ((cur.toList.take n).toArray++[x].toArray++Builtin.zeroCells (Value.int IntKind.u8 0).cells (grownCap w (n+1) n 5-(n+1))) 5);have e:w.drew.heap.size=w.heap.size:=rfl;rw[e]at h2;simp only[World.cell?,h2,lI,iv,d_];rw[←eO,Array.toList_append,Array.toList_append,cW (by
   have:=(List.getElem?_eq_some_iff.1 hv).1;simpa using this)]
  exact hv
theorem Hk{w:World}{ops:Array Oper}{rest:List Oper}{o:Oper}{a:Act}{Q:Exit→Act→World→Prop}(hgd:o.guard=none)(s y:Operand)
  (ho:o.op=.call {callee:=.builtin .append,args:= #[s,y],argTypes:= #[28,28]})(B n cap:Nat)(cur:Array Value)(p q:Nat)(x:Value)(ad:Addr)(c:Nat)(hs:a.eval s=.slice (some ⟨B,0,none⟩) n cap)(hy:a.eval y=.slice (some ad) 1 c)
  (hg:w.heap[B]? =some (.cells cur 5 (p,q)))(hx:x.oneCell'=true)(ha:w.cell? ad=some x)
  (hcap:n≤cap)(hcm:cap≤maxLen)(hn:cap≤cur.size)(hp:cap≤p)(hl:n+1≤1000000000)
  (h:∀(u:Sl) (w':World),Below B w w'→u.n=n+1→u.n≤u.c→u.c≤maxLen→(∃g,u.ao=some ⟨g,0,none⟩∧B≤g∧∀i v,(cur.toList.take n++[x])[i]? =some v→w'.cell? ⟨g,i,none⟩=some v)→wpList Tryz.prog ops Q rest (a.put o.dst (.slice u.ao u.n u.c)) w'):
  wpList Tryz.prog ops Q (o::rest) a w:=
 wpList_plain hgd fun _ hK=>by
  obtain⟨u,w',hr,h1,h2,h3,h4,h5⟩:=Qf w o.type B n cap cur p q hg x hx ad c ha hcap hcm hn hp hl;unfold Oper.wp execOp;simp only[ho,resolve,invoke,builtin,cz,dS,bB,List.map_toArray,bY,dk,hs,hy,hr];exact hK _ _ (h u w' h1 h2 h3 h4 h5)
section
variable{Γ:List aD}
set_option maxRecDepth 100000 in
theorem A8(s:ByteArray)(hz:s.size≤1000000):aw tb Tryz.prog 22 [.string s] Γ (fun v Δ=>∃u:Sl,v=aZ u∧Δ=[BF u (jH s)]):=by
 refine⟨⟨_,Tryz.func22,by kernel_rfl,by kernel_rfl⟩,fun I w hd hh=>?_⟩;have hcv:=Lib.run_convert_string_bytes (P:=Tryz.prog) w 9 28 5 s (u:=.string) Tryz.underlying9 Tryz.underlying28 Tryz.underlying5;have hb1:Below w.heap.size w (Lib.bytesWorld w 5 s):=⟨rfl,rfl,rfl,by rw[Lib.bytesWorld_size];omega,fun k hk=>Lib.bytesWorld_at_old w _ s k hk⟩;have hg:=Lib.bytesWorld_at_new w 5 s;have hge:=grownCap_ge w s.size 0 5;have hle:=grownCap_le_maxLen w s.size 0 5 (by unfold maxLen;omega);have hcs:(Lib.bytesCells w 5 s).size=grownCap w s.size 0 5:=by
  unfold Lib.bytesCells;simp only[Array.size_append,Array.size_map,Array.size_replicate];have:s.data.size=s.size:=rfl;omega
 have htk:(Lib.bytesCells w 5 s).toList.take s.size=(iW s).map (Value.int .u8):=by
  unfold Lib.bytesCells iW;rw[Array.toList_append,List.take_left' (by rw[uv,Array.size_map];rfl),Array.toList_map,List.map_map];rfl
 rw[hcs]at hg;generalize Lib.bytesWorld w 5 s=W1 at*;generalize Lib.bytesCells w 5 s=cur at*;generalize grownCap w s.size 0 5=cap at*;have hsz1:w.heap.size<W1.heap.size:=rL hg
 go_enter Tryz.func22,Tryz.ntmps22
 go_wp2_with (refine Hk rfl (.tmp 10) (.tmp 11) rfl w.heap.size s.size cap cur cap (cap+1) (.int .u8 0) ⟨W1.heap.size,0,none⟩ 1 rfl rfl (kI hg) rfl (by simp only[World.cell?,nc];rfl) hge hle (by omega) (ak _) (by omega) ?_;intro u w2 hb2 hu1 hu2 hu3 hu4)
 ·rename_i hodd
  go_ret
  obtain⟨ao,un,uc⟩:=u;obtain rfl:un=s.size+1:=hu1;obtain⟨g,hao,hgB,hcell⟩:=hu4;have hao:ao=some ⟨g,0,none⟩:=hao;subst hao;have hpar:¬s.size % 2=0:=by
   intro h0;rw[bne_iff_ne]at hodd;omega
  have ht:jH s=iW s++[0]:=by unfold jH;rw[if_neg hpar]
  refine⟨_,[BF ⟨some ⟨g,0,none⟩,s.size+1,uc⟩ (jH s)],rfl,⟨⟨some ⟨g,0,none⟩,s.size+1,uc⟩,rfl,rfl⟩,hb1.trans (((bD w.heap.size W1).alloc (by omega) _).trans hb2),aS ⟨?_,⟨hu2,hu3⟩,y9 s,fun hne=>⟨g,0,rfl,fun hlt=>absurd hlt (by omega),fun i v hv=>?_⟩⟩⟩
  ·rw[ht,aA,qW];rfl
  ·rw[bQ];refine hcell i v ?_;rw[htk,←hv,ht,aT];rfl
 ·rename_i heven
  go_ret
  have hpar:s.size % 2=0:=by
   have h1:((s.size:Int) % 2 != 0)=false:=by simpa using heven
   rw[bne_eq_false_iff_eq]at h1;omega
  have ht:jH s=iW s:=by unfold jH;rw[if_pos hpar]
  refine⟨_,[BF ⟨some ⟨w.heap.size,0,none⟩,s.size,cap⟩ (jH s)],rfl,⟨⟨some ⟨w.heap.size,0,none⟩,s.size,cap⟩,rfl,rfl⟩,hb1,aS ⟨by rw[ht,qW],⟨hge,hle⟩,y9 s,fun hne=>⟨w.heap.size,0,rfl,fun hlt=>absurd hlt (by omega),fun i v hv=>?_⟩⟩⟩;rw[ht,←htk,dF]at hv;split at hv
  ·rw[bQ];simp only[World.cell?,hg,lI,iv,d_];rw[←eO];exact hv
  ·simp at hv
end
def sB(z:Int):List Int:=[z/256 % 256,z % 256]
def lB(z:Int):List Int:=[z/16777216 % 256,z/65536 % 256,z/256 % 256,z % 256]
theorem Qg(l:List Int):kW (l.flatMap sB):=by
 intro z hz;obtain⟨x,_,hx⟩:=List.mem_flatMap.1 hz;simp only[sB,aF,aE,bL]at hx;rcases hx with rfl|rfl<;>omega
theorem OG(l:List Int):kW (l.flatMap lB):=by
 intro z hz;obtain⟨x,_,hx⟩:=List.mem_flatMap.1 hz;simp only[lB,aF,aE,bL]at hx;rcases hx with rfl|rfl|rfl|rfl<;>omega
theorem W4(l:List Int):(l.flatMap sB).length=2*l.length:=by
 induction l with
 |nil=>rfl
 |cons z l ih=>
  rw[bz,aA,ih];simp only[sB,aC,a_];omega
theorem VQ(l:List Int):(l.flatMap lB).length=4*l.length:=by
 induction l with
 |nil=>rfl
 |cons z l ih=>
  rw[bz,aA,ih];simp only[lB,aC,a_];omega
theorem KH{l:List Int}:∀u∈l.map (Value.int .u8),u.oneCell'=true:=fun u hu=>by
 obtain⟨z,_,rfl⟩:=List.mem_map.1 hu;rfl
theorem yo{α β:Type}{l:List α}{i:Nat}{x:α}(f:α→List β)(h:l[i]? =some x):(l.take (i+1)).flatMap f=(l.take i).flatMap f++f x:=by
 rw[lR h,bp];simp
section
variable{Γ:List aD}
theorem rY(s:Sl){l:List Int} [h:aW (NL s) l Γ](hl:l.length≤100000):aw tb Tryz.prog 23 [aZ s] Γ (fun v Δ=>∃u:Sl,v=aZ u∧Δ=[BF u (l.flatMap sB)]):=by
 refine aw.of_W aB Tryz.func23 rfl ?_;refine MQ s rfl (fun h1 h2 h4=>?_);refine gV [] [3,8] (fun a:S7=>[(3,a.v),(8,.int .i64 a.z)]) (fun _=>[]) (fun a=>a.O) (fun _=>[NL s l]) (fun a=>a.z=(a.i:Int)∧a.i≤l.length∧cF 1 a.O a.v (2*a.i) (((l.take a.i).flatMap sB).map (Value.int .u8))) (fun a=>l.length-a.i) ⟨0,0,.slice none 0 0,[]⟩ ⟨rfl,aJ _,cF.nil 1⟩ (eC eK eE) ?_;rintro⟨i,z,v,O⟩ K ⟨hz,hi,hg⟩ close;simp only at hz hi hg;by_cases hlt:i<l.length
 ·obtain⟨x,hx⟩:∃x,l[i]? =some x:=⟨_,ai hlt⟩;obtain⟨bb,off,hao⟩:=h4 (by rintro rfl;simp at hlt);obtain⟨sa,sn,sc⟩:=s;simp only at h1 h2 hao;subst hao;refine bj [] 9 (decide (z<(sn:Int))) (au (by omega)) ?_;refine bW [9] 1 bb off sn sc .i64 i z hz aB (by omega) ?_;refine dJ [] 1 bb (off+i*1) (.int .i64 x) aB (sL bb off sn sc hx) ?_;refine W.shr [] .i64 .u64 x 8 (x/256) (by decide) (by rw[show(min (8:Int).toNat IntKind.i64.bits)=8 by decide,mM _ (by decide)];rfl) ?_;refine cH [] 2 [.int .u8 (IntKind.u8.wrap (x/256)),.int .u8 (IntKind.u8.wrap x)] aB (fun B=>?_);refine W.app [] O [] O [] 1 1 (2*i) 2 v (.slice (some ⟨B,0,none⟩) 2 2) (((l.take i).flatMap sB).map (Value.int .u8)) [.int .u8 (IntKind.u8.wrap (x/256)),.int .u8 (IntKind.u8.wrap x)] aB (by simp) hg (bX B O 2 1 rfl 2) (KH (l:=[IntKind.u8.wrap (x/256),IntKind.u8.wrap x])) (by omega) (by decide) (fun v' O' hg'=>?_);refine close [] _ _ ⟨i+1,IntKind.i64.wrap (z+1),v',O'⟩ (by kernel_rfl) (by simp only[az,ah];kernel_rfl) ⟨by simp only[af];omega,by simp only;omega,cF.cast ?_ (by simp only;omega) hg'⟩ (by simp only;omega) (eC eK eE);simp only;rw[yo sB hx,aT,mH,mH];rfl
 ·refine aQ [] 9 (decide (z<(s.n:Int))) (aj (by omega)) ?_;rw[aU (by omega)]at hg;refine l_ (by simp only[az,ah];kernel_rfl) hg (fun ao c' hv hc'=>?_);subst hv;have hcm:c'≤maxLen:=ph hg;exact W.r [9] (.slice ao (2*i) c') ⟨⟨ao,2*i,c'⟩,rfl,rfl⟩ (fun I w _ hh=>aS (show(BF ⟨ao,2*i,c'⟩ (l.flatMap sB)).p I w from⟨by rw[W4];simp only;omega,⟨hc',hcm⟩,Qg l,aW.p (k:=RA ao) (a:=(l.flatMap sB).map (Value.int .u8)) inferInstance hh⟩))
theorem uO(s:Sl){l:List Int} [h:aW (NL s) l Γ](hl:l.length≤100000):aw tb Tryz.prog 24 [aZ s] Γ (fun v Δ=>∃u:Sl,v=aZ u∧Δ=[BF u (l.flatMap lB)]):=by
 refine aw.of_W aB Tryz.func24 rfl ?_;refine MQ s rfl (fun h1 h2 h4=>?_);refine gV [] [3,8] (fun a:S7=>[(3,a.v),(8,.int .i64 a.z)]) (fun _=>[]) (fun a=>a.O) (fun _=>[NL s l]) (fun a=>a.z=(a.i:Int)∧a.i≤l.length∧cF 1 a.O a.v (4*a.i) (((l.take a.i).flatMap lB).map (Value.int .u8))) (fun a=>l.length-a.i) ⟨0,0,.slice none 0 0,[]⟩ ⟨rfl,aJ _,cF.nil 1⟩ (eC eK eE) ?_;rintro⟨i,z,v,O⟩ K ⟨hz,hi,hg⟩ close;simp only at hz hi hg;by_cases hlt:i<l.length
 ·obtain⟨x,hx⟩:∃x,l[i]? =some x:=⟨_,ai hlt⟩;obtain⟨bb,off,hao⟩:=h4 (by rintro rfl;simp at hlt);obtain⟨sa,sn,sc⟩:=s;simp only at h1 h2 hao;subst hao;refine bj [] 9 (decide (z<(sn:Int))) (au (by omega)) ?_;refine bW [9] 1 bb off sn sc .i64 i z hz aB (by omega) ?_;refine dJ [] 1 bb (off+i*1) (.int .i64 x) aB (sL bb off sn sc hx) ?_;refine W.shr [] .i64 .u64 x 24 (x/16777216) (by decide) (by rw[show(min (24:Int).toNat IntKind.i64.bits)=24 by decide,mM _ (by decide)];rfl) ?_;refine W.shr [] .i64 .u64 x 16 (x/65536) (by decide) (by rw[show(min (16:Int).toNat IntKind.i64.bits)=16 by decide,mM _ (by decide)];rfl) ?_;refine W.shr [] .i64 .u64 x 8 (x/256) (by decide) (by rw[show(min (8:Int).toNat IntKind.i64.bits)=8 by decide,mM _ (by decide)];rfl) ?_;refine cH [] 4 [.int .u8 (IntKind.u8.wrap (x/16777216)),.int .u8 (IntKind.u8.wrap (x/65536)),.int .u8 (IntKind.u8.wrap (x/256)),.int .u8 (IntKind.u8.wrap x)] aB (fun B=>?_);refine W.app [] O [] O [] 1 1 (4*i) 4 v (.slice (some ⟨B,0,none⟩) 4 4) (((l.take i).flatMap lB).map (Value.int .u8)) [.int .u8 (IntKind.u8.wrap (x/16777216)),.int .u8 (IntKind.u8.wrap (x/65536)),.int .u8 (IntKind.u8.wrap (x/256)),.int .u8 (IntKind.u8.wrap x)] aB (by simp) hg (bX B O 4 1 rfl 4) (KH (l:=[IntKind.u8.wrap (x/16777216),IntKind.u8.wrap (x/65536),IntKind.u8.wrap (x/256),IntKind.u8.wrap x])) (by omega) (by decide) (fun v' O' hg'=>?_)
  refine close [] _ _ ⟨i+1,IntKind.i64.wrap (z+1),v',O'⟩ (by kernel_rfl) (by simp only[az,ah];kernel_rfl) ⟨by simp only[af];omega,by simp only;omega,cF.cast ?_ (by simp only;omega) hg'⟩ (by simp only;omega) (eC eK eE);simp only;rw[yo lB hx,aT,mH,mH,mH,mH];rfl
 ·refine aQ [] 9 (decide (z<(s.n:Int))) (aj (by omega)) ?_;rw[aU (by omega)]at hg;refine l_ (by simp only[az,ah];kernel_rfl) hg (fun ao c' hv hc'=>?_);subst hv;have hcm:c'≤maxLen:=ph hg;exact W.r [9] (.slice ao (4*i) c') ⟨⟨ao,4*i,c'⟩,rfl,rfl⟩ (fun I w _ hh=>aS (show(BF ⟨ao,4*i,c'⟩ (l.flatMap lB)).p I w from⟨by rw[VQ];simp only;omega,⟨hc',hcm⟩,OG l,aW.p (k:=RA ao) (a:=(l.flatMap lB).map (Value.int .u8)) inferInstance hh⟩))
theorem iL(k d:Int)(u:Sl):aw tb Tryz.prog 21 [.int .u8 k,.int .u8 d,aZ u] Γ (jq (.agg #[.int .u8 k,.int .u8 d,aZ u])):=by
 refine aw.of_W aB Tryz.func21 rfl ?_;exact W.r [] (.agg #[.int .u8 k,.int .u8 d,.slice u.ao u.n u.c]) ⟨rfl,rfl⟩ bT
end
theorem uW{b:Nat}(es:List dC){I:fQ}{w:World}(hm:es.length≤1000)(h:(ek b (es.flatMap dd.cells)).p I w)(hf:∀e∈es,(xG e.s e.r).p I w):(la ⟨some ⟨b,0,none⟩,es.length,es.length⟩ (es.map dC.r)).p I w:=
 mA (v:=.int .i64 0) rfl (ak _) (by unfold maxLen;omega) (fun e he=>hf e he) (RA.of_row h fun _ _ hv=>hv)
theorem zK(I:fQ)(w:World):(la ⟨none,0,0⟩ []).p I w:=⟨[],rfl,rfl,⟨ak _,aJ _⟩,fun e he=>by simp at he,RA.nil _ _ _⟩
theorem iS{s:Sl}{k d:Int}{b:List Int}{I:fQ}{w:World}(hk:0≤k∧k<256)(hd:0≤d∧d<256)(h:(BF s b).p I w):(xG s ⟨k,d,b⟩).p I w:=⟨hk,hd,h⟩
theorem Js{g n:Nat}{I:fQ}{w:World}(hn:n≤1000000)(h:(ek g (List.replicate n (.int .u8 0))).p I w):(BF ⟨some ⟨g,0,none⟩,n,n⟩ (List.replicate n 0)).p I w:=
 ⟨by simp,⟨ak _,by simp only;unfold maxLen;omega⟩,fun z hz=>by
  obtain rfl:=List.eq_of_mem_replicate hz;decide,by
  rw[List.map_replicate];exact RA.of_row h fun _ _ hv=>hv⟩
theorem xX{b:Nat}{l:List Int}{I:fQ}{w:World}(hl:l.length≤1000)(h:(ek b (l.map (Value.int .i64))).p I w):(NL ⟨some ⟨b,0,none⟩,l.length,l.length⟩ l).p I w:=
 ⟨rfl,⟨ak _,by simp only;unfold maxLen;omega⟩,RA.of_row h fun _ _ hv=>hv⟩
def DW(s:ByteArray):List Re:=[⟨5,2,List.replicate 24 0⟩,⟨6,6,jH s⟩]
def jN(s:ByteArray)(l:List Im):Ce:=⟨DW s,l⟩
def fY(s:ByteArray)(x y:Int):Im:=⟨[⟨10,0,[]⟩,⟨18,6,jH s⟩,⟨16,3,[x,y].flatMap lB⟩],[]⟩
def vq(d:Dp):List Int:=[d.x,d.y]
def jO(l:List Dp):List Dp:=l++l.take 1
def iA(a k:Int)(l:List Dp):Im:=⟨[⟨8,0,[]⟩,⟨13,2,[a].flatMap sB⟩,⟨14,2,[k].flatMap sB⟩,⟨16,3,((jO l).flatMap vq).flatMap lB⟩],[]⟩
def Jq:List Re:=[⟨0,2,List.replicate 2 0⟩,⟨1,2,List.replicate 24 0⟩,⟨2,6,[108,98]⟩,⟨3,5,List.replicate 16 0⟩]
theorem yE(l:List Dp):(l.flatMap vq).map (Value.int .i64)=l.flatMap eg:=by
 induction l with
 |nil=>rfl
 |cons d l ih=>
  rw[bz,aT,ih];rfl
theorem RI{P:Program}{ops:Array Oper}{Q:Exit→Act→World→Prop}{i:Nat}{rest:List Nat}{o:Oper}{a:Act}{w w':World}(hi:ops[i]? =some o)(hg:o.guard=none)(hr:(execOp a.eval o).run P w=.ok .skip w')(hk:wpOps P ops Q rest (a.put o.dst undef) w'):wpOps P ops Q (i::rest) a w:=by
 rw[wpOps_cons];unfold wpOp;rw[hi];simp only;rw[show Region.wanted o (yielded ops a.tmps)=true from by unfold Region.wanted;rw[hg],if_pos rfl];left;unfold Oper.wp;rw[hr];exact hk
section
variable{Γ:List aD}
theorem Eo(k d:Int)(n:Nat)(hn:n≤1000):aw tb Tryz.prog 71 [.int .u8 k,.int .u8 d,.int .i64 (n:Int)] Γ (fun v Δ=>∃u:Sl,v=.agg #[.int .u8 k,.int .u8 d,aZ u]∧Δ=[BF u (List.replicate n 0)]):=by
 refine aw.of_W aB Tryz.func71 rfl ?_;refine Te [] [] 1 1 n [.int .u8 0] (List.replicate n (.int .u8 0)) .i64 .i64 aB (by simp[madeCells,Nat.mod_one,List.map_const']) (by omega) (by decide) (fun g=>?_);refine DE [] [] g (List.replicate n (.int .u8 0)) ?_;exact W.r [] (.agg #[.int .u8 k,.int .u8 d,.slice (some ⟨g,0,none⟩) n n]) ⟨⟨some ⟨g,0,none⟩,n,n⟩,rfl,rfl⟩ (fun I w _ hh=>aS (Js (by omega) hh.h0'))
theorem pF(s:ByteArray)(i:Sl){l:List Im} [h:aW (pS i) l Γ](hs:s.size≤1000000):aw tb Tryz.prog 19 [.string s,aZ i] Γ (fun v Δ=>∃u:Sl,v=lY u i∧Δ=[yz u i (jN s l)]):=by
 refine aw.of_W aB Tryz.func19 rfl ?_;refine Te [] [] 1 1 24 [.int .u8 0] (List.replicate 24 (.int .u8 0)) .i64 .i64 aB (by kernel_rfl) (by decide) (by decide) (fun g=>?_);refine aq [] (iL 5 2 ⟨some ⟨g,0,none⟩,24,24⟩) ?_;rintro _ _ ⟨rfl,rfl⟩;refine aq [] (A8 s hs) ?_;rintro _ _ ⟨u3,rfl,rfl⟩;refine aq [] (iL 6 6 u3) ?_;rintro _ _ ⟨rfl,rfl⟩;refine cH [] 2 [.int .u8 5,.int .u8 2,.slice (some ⟨g,0,none⟩) 24 24,.int .u8 6,.int .u8 6,aZ u3] aB (fun B=>?_);refine DE [] [] g (List.replicate 24 (.int .u8 0)) ?_;exact W.r [] (.agg #[.slice (some ⟨B,0,none⟩) 2 2,aZ i]) ⟨⟨some ⟨B,0,none⟩,2,2⟩,rfl,rfl⟩ (fun I w _ hh=>aS ⟨uW [⟨⟨some ⟨g,0,none⟩,24,24⟩,⟨5,2,List.replicate 24 0⟩⟩,⟨u3,⟨6,6,jH s⟩⟩] (by simp) (aW.p (k:=ek B) inferInstance hh) (fun e he=>by
  simp only[aF,aE,bL]at he;rcases he with rfl|rfl
  ·exact iS (by decide) (by decide) (Js (by decide) hh.h0')
  ·exact iS (by decide) (by decide) (aW.p (k:=BF u3) inferInstance hh)),h.p (fun F hF=>hh F (by simp[hF]))⟩)
theorem Ke(s:ByteArray)(x y:Int)(hs:s.size≤1000000):aw tb Tryz.prog 18 [.string s,.int .i64 x,.int .i64 y] Γ (fun v Δ=>∃u:Sl,v=lY u ⟨none,0,0⟩∧Δ=[mI u ⟨none,0,0⟩ (fY s x y)]):=by
 refine aw.of_W aB Tryz.func18 rfl ?_;refine aq [] (iL 10 0 ⟨none,0,0⟩) ?_;rintro _ _ ⟨rfl,rfl⟩;refine aq [] (A8 s hs) ?_;rintro _ _ ⟨u2,rfl,rfl⟩;refine aq [] (iL 18 6 u2) ?_;rintro _ _ ⟨rfl,rfl⟩;refine cH [] 2 [.int .i64 x,.int .i64 y] aB (fun b4=>?_);refine gT [] (Γ':=[NL ⟨some ⟨b4,0,none⟩,2,2⟩ [x,y]]) (fun I w _ hh=>aS (xX (l:=[x,y]) (by simp) hh.h0')) (uO ⟨some ⟨b4,0,none⟩,2,2⟩ (l:=[x,y]) (by simp)) ?_;rintro _ _ ⟨u5,rfl,rfl⟩;refine aq [] (iL 16 3 u5) ?_;rintro _ _ ⟨rfl,rfl⟩;refine cH [] 3 [.int .u8 10,.int .u8 0,.slice none 0 0,.int .u8 18,.int .u8 6,aZ u2,.int .u8 16,.int .u8 3,aZ u5] aB (fun B=>?_);exact W.r [] (.agg #[.slice (some ⟨B,0,none⟩) 3 3,.slice none 0 0]) ⟨⟨some ⟨B,0,none⟩,3,3⟩,rfl,rfl⟩ (fun I w _ hh=>aS ⟨uW [⟨⟨none,0,0⟩,⟨10,0,[]⟩⟩,⟨u2,⟨18,6,jH s⟩⟩,⟨u5,⟨16,3,[x,y].flatMap lB⟩⟩] (by simp) (aW.p (k:=ek B) inferInstance hh) (fun e he=>by
  simp only[aF,aE,bL]at he;rcases he with rfl|rfl|rfl
  ·exact iS (by decide) (by decide) (rH _ _ _)
  ·exact iS (by decide) (by decide) (aW.p (k:=BF u2) inferInstance hh)
  ·exact iS (by decide) (by decide) (aW.p (k:=BF u5) inferInstance hh)),zK _ _⟩)
theorem Xs{fn:Func}{rc:Code}{c:VS}{post:Value→List aD→Prop}{I:fQ}{w w1:World}{a:Act}{ρ:Nat→Nat}(h:W tb Tryz.prog (Fin tb fn post) ⟨c,[.code rc]⟩ Γ)(hs:gZ tb w ⟨I,fun _=>False,[]⟩ Γ c a w1 ρ):
  rc.wp Tryz.prog (bodyPost Tryz.prog fn fun e w'=>∃v Δ,e=.returned v∧post v Δ∧Below w.heap.size w w'∧aG Δ (fun b=>b<w.heap.size→I b) w') a w1:=by
 have:=h.sound (w0:=w) (I0:=⟨I,fun _=>False,[]⟩) (Q:=bodyPost Tryz.prog fn fun e w'=>∃v Δ,e=.returned v∧post v Δ∧Below w.heap.size w w'∧aG Δ (fun b=>b<w.heap.size→I b) w') aB (fun l a w h=>h) (fun s Γ a w' ρ hfin hs=>by
  obtain⟨v,Δ,hv,hp,hd'⟩:=hfin;have hr:=zJ aB hs hv;have hpost:∃v' Δ',Ending.returned v=.returned v'∧post v' Δ'∧Below w.heap.size w w'∧aG Δ' (fun b=>b<w.heap.size→I b) w':=
   ⟨v,Δ,rfl,hp,hs.below.below,(hd' _ _ hs.dataOK hs.facts).up (fun b _ hI hl=>(hI.1 hl).elim id (fun h=>h.elim)) (fun _ _ _=>rfl) (ak _)⟩
  exact⟨⟨hs.defers,v,hr,hpost⟩,⟨hs.defers,v,hr,hpost⟩⟩) (fun ch _ _ h _ _=>h.elim) rfl
 rw[dz rfl]at this;exact this a w1 ρ hs
def ox(b1:Nat):VS:=⟨[.ptr 0 0,.ptr 1 0,.val (.slice (some ⟨b1,0,none⟩) 2 2),.val (.slice (some ⟨b1,0,none⟩) 2 2),.val (.agg #[.int .u8 2,.int .u8 6,.slice (some ⟨b1,0,none⟩) 2 2])]++List.replicate 6 (.val undef),
 [some [.slice none 0 0,.slice none 0 0],some [.int .u8 2,.int .u8 6,.slice (some ⟨b1,0,none⟩) 2 2]]++List.replicate 9 none,[],[]⟩
theorem K0(b1:Nat){Γ:List aD} [h:aW (BF ⟨some ⟨b1,0,none⟩,2,2⟩) [108,98] Γ]:
  W tb Tryz.prog (Fin tb Tryz.f40 (fun v Δ=>∃u:Sl,v=lY u ⟨none,0,0⟩∧Δ=[la u Jq])) ⟨ox b1,[.code (I1 Tryz.f40)]⟩ Γ:=by
 refine aq [] (Eo 0 2 2 (by decide)) ?_;rintro _ _ ⟨u3,rfl,rfl⟩;refine aq [] (Eo 1 2 24 (by decide)) ?_;rintro _ _ ⟨u4,rfl,rfl⟩;refine aq [] (Eo 3 5 16 (by decide)) ?_;rintro _ _ ⟨u5,rfl,rfl⟩;refine cH [] 4 [.int .u8 0,.int .u8 2,aZ u3,.int .u8 1,.int .u8 2,aZ u4,.int .u8 2,.int .u8 6,.slice (some ⟨b1,0,none⟩) 2 2,.int .u8 3,.int .u8 5,aZ u5] aB (fun B=>?_);exact W.r [] (.agg #[.slice (some ⟨B,0,none⟩) 4 4,.slice none 0 0]) ⟨⟨some ⟨B,0,none⟩,4,4⟩,rfl,rfl⟩ (fun I w _ hh=>aS (uW [⟨u3,⟨0,2,List.replicate 2 0⟩⟩,⟨u4,⟨1,2,List.replicate 24 0⟩⟩,⟨⟨some ⟨b1,0,none⟩,2,2⟩,⟨2,6,[108,98]⟩⟩,⟨u5,⟨3,5,List.replicate 16 0⟩⟩] (by simp) (aW.p (k:=ek B) inferInstance hh) (fun e he=>by
  simp only[aF,aE,bL]at he;rcases he with rfl|rfl|rfl|rfl
  ·exact iS (by decide) (by decide) (aW.p (k:=BF u3) inferInstance hh)
  ·exact iS (by decide) (by decide) (aW.p (k:=BF u4) inferInstance hh)
  ·exact iS (by decide) (by decide) (aW.p (k:=BF ⟨some ⟨b1,0,none⟩,2,2⟩) inferInstance hh)
  ·exact iS (by decide) (by decide) (aW.p (k:=BF u5) inferInstance hh))))
theorem Ws:aw tb Tryz.prog 40 [] Γ (fun v Δ=>∃u:Sl,v=lY u ⟨none,0,0⟩∧Δ=[la u Jq]):=by
 refine⟨⟨_,Tryz.func40,by kernel_rfl,by kernel_rfl⟩,fun I w hd hh=>?_⟩;obtain⟨w1,hw1⟩:∃w1,w1=w.alloc (.cells #[.slice none 0 0,.slice none 0 0] 25):=⟨_,rfl⟩;obtain⟨b0,hb0⟩:∃b,b=w.heap.size:=⟨_,rfl⟩;obtain⟨b1,hb1⟩:∃b,b=w1.heap.size:=⟨_,rfl⟩;obtain⟨w3,hw3⟩:∃w3,w3=w1.alloc (.cells #[.int .u8 108,.int .u8 98] 5 (2,3)):=⟨_,rfl⟩;obtain⟨b2,hb2⟩:∃b,b=w3.heap.size:=⟨_,rfl⟩;obtain⟨w4,hw4⟩:∃w4,w4=w3.alloc (.cells #[.int .u8 0,.int .u8 0,.slice none 0 0] 45):=⟨_,rfl⟩;obtain⟨w5,hw5⟩:∃w5,w5=((w4.setCell ⟨b2,0,none⟩ (.int .u8 2)).setCell ⟨b2,1,none⟩ (.int .u8 6)).setCell ⟨b2,2,none⟩ (.slice (some ⟨b1,0,none⟩) 2 2):=⟨_,rfl⟩;have hs1:w1.heap.size=w.heap.size+1:=by rw[hw1];simp
 have hs3:w3.heap.size=w.heap.size+2:=by rw[hw3,World.size_alloc,hs1]
 have hs4:w4.heap.size=w.heap.size+3:=by rw[hw4,World.size_alloc,hs3]
 have hs5:w5.heap.size=w.heap.size+3:=by rw[hw5,p7,p7,p7,hs4]
 have q0:w4.heap[b2]? =some (.cells #[.int .u8 0,.int .u8 0,.slice none 0 0] 45 (0,0)):=by rw[hw4,hb2];exact nc _ _
 have q1:=ji (o:=0) (v:=.int .u8 2) q0;have q2:=ji (o:=1) (v:=.int .u8 6) q1;have q3:=ji (o:=2) (v:=.slice (some ⟨b1,0,none⟩) 2 2) q2;rw[←hw5]at q3;have old5:∀k,k≠b2→w5.heap[k]? =w4.heap[k]? :=fun k hk=>by rw[hw5,eN hk,eN hk,eN hk]
 have g1:w5.heap[b1]? =some (.cells #[.int .u8 108,.int .u8 98] 5 (2,3)):=by
  rw[old5 b1 (by omega),hw4,jx (by omega),hw3,hb1];exact nc _ _
 have g0:w5.heap[b0]? =some (.cells #[.slice none 0 0,.slice none 0 0] 25 (0,0)):=by
  rw[old5 b0 (by omega),hw4,jx (by omega),hw3,jx (by omega),hw1,hb0];exact nc _ _
 have hold:∀k,k<w.heap.size→w5.heap[k]? =w.heap[k]? :=fun k hk=>by
  rw[old5 k (by omega),hw4,jx (by omega),hw3,jx (by omega),hw1,jx hk]
 have key:=Xs (I:=I) (w:=w) (w1:=w5) (a:={tmps:= #[fo b0,fo b2,.slice (some ⟨b1,0,none⟩) 2 2,.slice (some ⟨b1,0,none⟩) 2 2,.agg #[.int .u8 2,.int .u8 6,.slice (some ⟨b1,0,none⟩) 2 2],undef,undef,undef,undef,undef,undef],defers:=[]})
  (ρ:=fun t=>if t=0 then b0 else b2) (K0 b1 (Γ:=BF ⟨some ⟨b1,0,none⟩,2,2⟩ [108,98]::Γ)) ?_
 ·refine calls_of_wp Tryz.func40 rfl ?_;refine wp_seq (wp_region ?_);show wpOps Tryz.prog _ _ [0] _ _;refine tI (v:=fo b0) (w':=w1) rfl rfl (by rw[hb0,hw1];kernel_rfl) ?_;refine wp_seq (wp_region ?_);show wpOps Tryz.prog _ _ [0,1,2,3,4] _ _;refine tI (v:=.slice (some ⟨b1,0,none⟩) 2 2) (w':=w1.alloc (.cells #[.int .u8 108,.int .u8 98] 5)) rfl rfl (by rw[hb1];kernel_rfl) ?_;refine tI (v:=.slice (some ⟨b1,0,none⟩) 2 2) (w':=w3) rfl rfl (by
   have hcv:=Joins.run_convert_bytes_const_at (P:=Tryz.prog) w1 28 5 #[.int .u8 108,.int .u8 98] 2 2 b1 hb1 Tryz.underlying28 Tryz.underlying5;simp[execOp,go_sem,hcv,hw3]) ?_
  refine tI (v:=.agg #[.int .u8 2,.int .u8 6,.slice (some ⟨b1,0,none⟩) 2 2]) (w':=w3) rfl rfl (by kernel_rfl) ?_;refine tI (v:=fo b2) (w':=w4) rfl rfl (by rw[hb2,hw4];kernel_rfl) ?_;refine RI (w':=w5) rfl rfl (by
   have c0:=oF (o:=0) q0;have z0:=uI (o:=0) q0;have c1:=oF (o:=1) q1;have z1:=uI (o:=1) q1;have c2:=oF (o:=2) q2;have z2:=uI (o:=2) q2;rw[hw5];simp[execOp,go_sem,storeCells,c0,z0,c1,z1,c2,z2]) ?_
  refine Eq.mp ?_ key;kernel_rfl
 ·have hbx:∀t cs,(ox b1).boxes[t]? =some (some cs)→(t=0∧cs=[.slice none 0 0,.slice none 0 0])∨(t=1∧cs=[.int .u8 2,.int .u8 6,.slice (some ⟨b1,0,none⟩) 2 2]):=fun t cs ht=>by
   match t,ht with
   |0,ht=>exact .inl ⟨rfl,by injection ht with ht;injection ht with ht;exact ht.symm⟩
   |1,ht=>exact .inr ⟨rfl,by injection ht with ht;injection ht with ht;exact ht.symm⟩
   |t+2,ht=>
    exfalso
    have:(List.replicate 9 (none:Option (List Value)))[t]? =some (some cs):=ht;rw[cX]at this;split at this<;>simp at this
  refine⟨rfl,rfl,fun i sv hi=>?_,?_,fun t cs ht=>?_,fun t u cs cs' ht hu e=>?_,fun i t off hi=>?_,hd,?_,fun b cs hc=>by simp[ox]at hc,fun b cs hc=>by simp[ox]at hc,fun b cs hc=>by simp[ox]at hc,by simp[ox],fun b m hm=>by simp[ox]at hm,fun b m hm=>by simp[ox]at hm,by simp[ox]⟩
  ·match i,hi with
   |0,hi=>injection hi with hi;subst hi;rfl
   |1,hi=>injection hi with hi;subst hi;rfl
   |2,hi=>injection hi with hi;subst hi;rfl
   |3,hi=>injection hi with hi;subst hi;rfl
   |4,hi=>injection hi with hi;subst hi;rfl
   |5,hi=>injection hi with hi;subst hi;rfl
   |6,hi=>injection hi with hi;subst hi;rfl
   |7,hi=>injection hi with hi;subst hi;rfl
   |8,hi=>injection hi with hi;subst hi;rfl
   |9,hi=>injection hi with hi;subst hi;rfl
   |10,hi=>injection hi with hi;subst hi;rfl
   |i+11,hi=>exact absurd hi (by simp[ox])
  ·exact⟨by rw[hw5,hw4,hw3,hw1];rfl,by rw[hw5,hw4,hw3,hw1];rfl,by rw[hw5,hw4,hw3,hw1];rfl,by omega,fun k hk _=>hold k hk⟩
  ·rcases hbx t cs ht with⟨rfl,rfl⟩|⟨rfl,rfl⟩
   ·exact⟨by simp only[e8];omega,_,(by decide+kernel:tb.dat 25=false),g0⟩
   ·exact⟨by simp only[Nat.one_ne_zero,d_];omega,_,(by decide+kernel:tb.dat 45=false),q3⟩
  ·rcases hbx t cs ht with⟨rfl,_⟩|⟨rfl,_⟩<;>rcases hbx u cs' hu with⟨rfl,_⟩|⟨rfl,_⟩
   ·rfl
   ·simp only[e8,Nat.one_ne_zero,d_]at e;omega
   ·simp only[e8,Nat.one_ne_zero,d_]at e;omega
   ·rfl
  ·match i,hi with
   |0,hi=>injection hi with hi;injection hi with h1 h2;subst h1;exact⟨_,rfl⟩
   |1,hi=>injection hi with hi;injection hi with h1 h2;subst h1;exact⟨_,rfl⟩
   |2,hi=>simp[ox]at hi
   |3,hi=>simp[ox]at hi
   |4,hi=>simp[ox]at hi
   |i+5,hi=>
    exfalso
    have:(List.replicate 6 (SV.val undef))[i]? =some (.ptr t off):=hi;rw[cX]at this;split at this<;>simp at this
  ·have hI:∀b,(b<w.heap.size∧I b)∨b=b1→UD w ⟨I,fun _=>False,[]⟩ (fun t=>if t=0 then b0 else b2) (ox b1) b:=fun b hb=>by
    refine⟨fun hl=>.inl ?_,fun t cs ht e=>?_,fun cs hc=>by simp[ox]at hc,fun m hm=>by simp[ox]at hm⟩
    ·rcases hb with h|h
     ·exact h.2
     ·omega
    ·rcases hbx t cs ht with⟨rfl,_⟩|⟨rfl,_⟩
     ·simp only[e8]at e;rcases hb with h|h<;>omega
     ·simp only[Nat.one_ne_zero,d_]at e;rcases hb with h|h<;>omega
   refine aG.cons ⟨rfl,⟨ak _,by show 2≤maxLen;decide⟩,fun z hz=>?_,fun _=>⟨b1,0,rfl,hI b1 (.inr rfl),fun i v hv=>?_⟩⟩ (hh.up (fun b hb h=>hI b (.inl ⟨hb,h⟩)) (fun b hb _=>hold b hb) (by omega))
   ·simp only[aF,aE,bL]at hz;rcases hz with rfl|rfl<;>decide
   ·rw[bQ];simp only[World.cell?,g1,lI,iv,d_];rw[←eO];exact hv
theorem Ek(c:Sl){cs:List Ce} [h:aW (lH c) cs Γ]:aw tb Tryz.prog 25 [aZ c] Γ (fun v Δ=>∃u:Sl,v=lY u c∧Δ=[yA u c ⟨Jq,cs⟩]):=by
 refine aw.of_W aB Tryz.func25 rfl ?_;refine aq [] Ws ?_;rintro _ _ ⟨u,rfl,rfl⟩;exact W.r [] (.agg #[aZ u,aZ c]) ⟨u,rfl,rfl⟩ (fun I w _ hh=>aS ⟨hh.h0',h.p (fun F hF=>hh F (by simp[hF]))⟩)
end
theorem uH(l:List Dp):(l.flatMap vq).length=2*l.length:=by
 induction l with
 |nil=>rfl
 |cons d l ih=>
  rw[bz,aA,ih];simp only[vq,aC,a_];omega
theorem DQ:∀{l:List Dp} {i:Nat} {x:Dp},l[i]? =some x→∀(j:Nat) (v:Value),(eg x)[j]? =some v→(l.flatMap eg)[i*2+j]? =some v
 | [],i,x,h,j,v,hv=>by simp at h
 |d::l,0,x,h,j,v,hv=>by
  simp only[dO,ar]at h;subst h;rw[bz,nC,bQ,cW (List.getElem?_eq_some_iff.1 hv).1];exact hv
 |d::l,i+1,x,h,j,v,hv=>by
  rw[bz,dZ (by simp;omega)];have:=DQ (l:=l) (i:=i) h j v hv;rw[←this];congr 1;simp;omega
theorem zq{T:Tb}{Γ:List aD}(b off:Nat){l:List Dp} [h:aW (RA (some ⟨b,off,none⟩)) (l.flatMap eg) Γ]{i:Nat}{x:Dp}(hx:l[i]? =some x)(j:Nat){v:Value}(hv:(eg x)[j]? =some v):∀I w,br T I w→aG Γ I w→w.cell? ⟨b,off+i*2+j,none⟩=some v:=fun I w _ hh=>by
 rw[gU];exact RA.cell (h.p hh) (DQ hx j v hv)
section
variable{Γ:List aD}
theorem Pj(a k:Int)(po:Option Addr)(pn pc:Nat){ps:List Dp} [h:aW (RA po) (ps.flatMap eg) Γ](hn:pn=ps.length)(hl:ps.length≤1000):
  aw tb Tryz.prog 20 [.int .i64 a,.int .i64 k,.slice po pn pc] Γ (fun v Δ=>∃u:Sl,v=lY u ⟨none,0,0⟩∧Δ=[mI u ⟨none,0,0⟩ (iA a k ps)]):=by
 refine aw.of_W aB Tryz.func20 rfl ?_;refine gV [] [7,8] (fun q:S7=>[(7,q.v),(8,.int .i64 q.z)]) (fun _=>[]) (fun q=>q.O) (fun _=>[RA po (ps.flatMap eg)]) (fun q=>q.z=(q.i:Int)∧q.i≤ps.length∧cF 1 q.O q.v (2*q.i) ((ps.take q.i).flatMap eg)) (fun q=>ps.length-q.i) ⟨0,0,.slice none 0 0,[]⟩ ⟨rfl,aJ _,cF.nil 1⟩ (eC eK eE) ?_;rintro⟨i,z,v,O⟩ K ⟨hz,hi,hg⟩ close;simp only at hz hi hg;by_cases hlt:i<ps.length
 ·obtain⟨x,hx⟩:∃x,ps[i]? =some x:=⟨_,ai hlt⟩;refine HH po (xs:=ps.flatMap eg) (by kernel_rfl) (fun e=>by
   have:=DQ hx 0 _ rfl;rw[e]at this;simp at this) ?_
  rintro b off rfl;refine bj [] 12 (decide (z<(pn:Int))) (au (by omega)) ?_;refine bW [12] 2 b off pn pc .i64 i z hz aB (by omega) ?_;refine bZ [] 0 b (off+i*2) aB ?_;refine dJ [] 1 b (off+i*2+0) (.int .i64 x.x) aB (zq b off hx 0 rfl) ?_;refine bW [] 2 b off pn pc .i64 i z hz aB (by omega) ?_;refine bZ [] 1 b (off+i*2) aB ?_;refine dJ [] 1 b (off+i*2+1) (.int .i64 x.y) aB (zq b off hx 1 rfl) ?_;refine cH [] 2 [.int .i64 x.x,.int .i64 x.y] aB (fun B=>?_);refine W.app [] O [] O [] 1 8 (2*i) 2 v (.slice (some ⟨B,0,none⟩) 2 2) ((ps.take i).flatMap eg) [.int .i64 x.x,.int .i64 x.y] aB (by simp) hg (bX B O 2 1 rfl 2) (F5 (l:=[x.x,x.y])) (by omega) (by decide) (fun v' O' hg'=>?_);refine close [] _ _ ⟨i+1,IntKind.i64.wrap (z+1),v',O'⟩ (by kernel_rfl) (by simp only[az,ah];kernel_rfl) ⟨by simp only[af];omega,by simp only;omega,cF.cast ?_ (by simp only;omega) hg'⟩ (by simp only;omega) (eC eK eE);simp only;rw[yo eg hx]
 refine aQ [] 12 (decide (z<(pn:Int))) (aj (by omega)) ?_;obtain rfl:i=ps.length:=by omega
 rw[aU (ak _)]at hg;by_cases h0:0<ps.length
 ·obtain⟨x,hx⟩:∃x,ps[0]? =some x:=⟨_,ai h0⟩;have hc:jO ps=ps++[x]:=by
   unfold jO;cases ps with
   |nil=>simp at h0
   |cons d l=>
    simp only[dO,ar]at hx;subst hx;rfl
  have hcl:(jO ps).length=ps.length+1:=by rw[hc];simp
  have hcd:(jO ps).flatMap eg=ps.flatMap eg++[.int .i64 x.x,.int .i64 x.y]:=by rw[hc,bp];simp
  refine HH po (xs:=ps.flatMap eg) (by kernel_rfl) (fun e=>by
   have:=DQ hx 0 _ rfl;rw[e]at this;simp at this) ?_
  rintro b off rfl;refine bj [12] 30 (decide ((pn:Int)>0)) (au (by omega)) ?_;refine bW [30] 2 b off pn pc .i64 0 0 rfl aB (by omega) ?_;refine bZ [] 0 b (off+0*2) aB ?_;refine dJ [] 1 b (off+0*2+0) (.int .i64 x.x) aB (zq b off hx 0 rfl) ?_;refine bW [] 2 b off pn pc .i64 0 0 rfl aB (by omega) ?_;refine bZ [] 1 b (off+0*2) aB ?_;refine dJ [] 1 b (off+0*2+1) (.int .i64 x.y) aB (zq b off hx 1 rfl) ?_;refine cH [] 2 [.int .i64 x.x,.int .i64 x.y] aB (fun B0=>?_);refine W.app [] O [] O [] 1 8 (2*ps.length) 2 v (.slice (some ⟨B0,0,none⟩) 2 2) (ps.flatMap eg) [.int .i64 x.x,.int .i64 x.y] aB (by simp) hg (bX B0 O 2 1 rfl 2) (F5 (l:=[x.x,x.y])) (by omega) (by decide) (fun v' O' hg'=>?_);have hg2:=hg';refine l_ (by simp only[az,ah];kernel_rfl) hg2 (fun ao c' hv hc'=>?_);subst hv;have hcm:c'≤maxLen:=ph hg2;refine aq [] (iL 8 0 ⟨none,0,0⟩) ?_;rintro _ _ ⟨rfl,rfl⟩;refine cH [] 1 [.int .i64 a] aB (fun b15=>?_);refine gT [] (Γ':=[NL ⟨some ⟨b15,0,none⟩,1,1⟩ [a]]) (fun I w _ hh=>aS (xX (l:=[a]) (by simp) hh.h0')) (rY ⟨some ⟨b15,0,none⟩,1,1⟩ (l:=[a]) (by simp)) ?_;rintro _ _ ⟨u16,rfl,rfl⟩;refine aq [] (iL 13 2 u16) ?_;rintro _ _ ⟨rfl,rfl⟩;refine cH [] 1 [.int .i64 k] aB (fun b18=>?_);refine gT [] (Γ':=[NL ⟨some ⟨b18,0,none⟩,1,1⟩ [k]]) (fun I w _ hh=>aS (xX (l:=[k]) (by simp) hh.h0')) (rY ⟨some ⟨b18,0,none⟩,1,1⟩ (l:=[k]) (by simp)) ?_
  rintro _ _ ⟨u19,rfl,rfl⟩;refine aq [] (iL 14 2 u19) ?_;rintro _ _ ⟨rfl,rfl⟩;refine gT [] (Γ':=[NL ⟨ao,(2*ps.length+2),c'⟩ ((jO ps).flatMap vq)]) (fun I w _ hh=>aS ⟨by have e:=uH (jO ps);rw[hcl]at e;simp only;omega,⟨hc',hcm⟩,by rw[yE,hcd];exact aW.p (k:=RA ao) inferInstance hh⟩) (uO ⟨ao,(2*ps.length+2),c'⟩ (l:=(jO ps).flatMap vq) (by rw[uH,hcl];omega)) ?_;rintro _ _ ⟨u21,rfl,rfl⟩;refine aq [] (iL 16 3 u21) ?_;rintro _ _ ⟨rfl,rfl⟩;refine cH [] 4 [.int .u8 8,.int .u8 0,.slice none 0 0,.int .u8 13,.int .u8 2,aZ u16,.int .u8 14,.int .u8 2,aZ u19,.int .u8 16,.int .u8 3,aZ u21] aB (fun B=>?_);exact W.r [] (.agg #[.slice (some ⟨B,0,none⟩) 4 4,.slice none 0 0]) ⟨⟨some ⟨B,0,none⟩,4,4⟩,rfl,rfl⟩ (fun I w _ hh=>aS ⟨uW [⟨⟨none,0,0⟩,⟨8,0,[]⟩⟩,⟨u16,⟨13,2,[a].flatMap sB⟩⟩,⟨u19,⟨14,2,[k].flatMap sB⟩⟩,⟨u21,⟨16,3,((jO ps).flatMap vq).flatMap lB⟩⟩] (by simp) (aW.p (k:=ek B) inferInstance hh) (fun e he=>by
   simp only[aF,aE,bL]at he;rcases he with rfl|rfl|rfl|rfl
   ·exact iS (by decide) (by decide) (rH _ _ _)
   ·exact iS (by decide) (by decide) (aW.p (k:=BF u16) inferInstance hh)
   ·exact iS (by decide) (by decide) (aW.p (k:=BF u19) inferInstance hh)
   ·exact iS (by decide) (by decide) (aW.p (k:=BF u21) inferInstance hh)),zK _ _⟩)
 ·have hps:ps=[]:=aN (by omega);have hcl:(jO ps).length=ps.length:=by rw[hps];rfl
  have hcd:(jO ps).flatMap eg=ps.flatMap eg:=by rw[hps];rfl
  refine aQ [12] 30 (decide ((pn:Int)>0)) (aj (by omega)) ?_;have hg2:=hg;refine l_ (by simp only[az,ah];kernel_rfl) hg2 (fun ao c' hv hc'=>?_);subst hv;have hcm:c'≤maxLen:=ph hg2;refine aq [30] (iL 8 0 ⟨none,0,0⟩) ?_;rintro _ _ ⟨rfl,rfl⟩;refine cH [] 1 [.int .i64 a] aB (fun b15=>?_);refine gT [] (Γ':=[NL ⟨some ⟨b15,0,none⟩,1,1⟩ [a]]) (fun I w _ hh=>aS (xX (l:=[a]) (by simp) hh.h0')) (rY ⟨some ⟨b15,0,none⟩,1,1⟩ (l:=[a]) (by simp)) ?_;rintro _ _ ⟨u16,rfl,rfl⟩;refine aq [] (iL 13 2 u16) ?_;rintro _ _ ⟨rfl,rfl⟩;refine cH [] 1 [.int .i64 k] aB (fun b18=>?_);refine gT [] (Γ':=[NL ⟨some ⟨b18,0,none⟩,1,1⟩ [k]]) (fun I w _ hh=>aS (xX (l:=[k]) (by simp) hh.h0')) (rY ⟨some ⟨b18,0,none⟩,1,1⟩ (l:=[k]) (by simp)) ?_;rintro _ _ ⟨u19,rfl,rfl⟩;refine aq [] (iL 14 2 u19) ?_;rintro _ _ ⟨rfl,rfl⟩;refine gT [] (Γ':=[NL ⟨ao,(2*ps.length),c'⟩ ((jO ps).flatMap vq)]) (fun I w _ hh=>aS ⟨by have e:=uH (jO ps);rw[hcl]at e;simp only;omega,⟨hc',hcm⟩,by rw[yE,hcd];exact aW.p (k:=RA ao) inferInstance hh⟩) (uO ⟨ao,(2*ps.length),c'⟩ (l:=(jO ps).flatMap vq) (by rw[uH,hcl];omega)) ?_;rintro _ _ ⟨u21,rfl,rfl⟩;refine aq [] (iL 16 3 u21) ?_;rintro _ _ ⟨rfl,rfl⟩;refine cH [] 4 [.int .u8 8,.int .u8 0,.slice none 0 0,.int .u8 13,.int .u8 2,aZ u16,.int .u8 14,.int .u8 2,aZ u19,.int .u8 16,.int .u8 3,aZ u21] aB (fun B=>?_)
  exact W.r [] (.agg #[.slice (some ⟨B,0,none⟩) 4 4,.slice none 0 0]) ⟨⟨some ⟨B,0,none⟩,4,4⟩,rfl,rfl⟩ (fun I w _ hh=>aS ⟨uW [⟨⟨none,0,0⟩,⟨8,0,[]⟩⟩,⟨u16,⟨13,2,[a].flatMap sB⟩⟩,⟨u19,⟨14,2,[k].flatMap sB⟩⟩,⟨u21,⟨16,3,((jO ps).flatMap vq).flatMap lB⟩⟩] (by simp) (aW.p (k:=ek B) inferInstance hh) (fun e he=>by
   simp only[aF,aE,bL]at he;rcases he with rfl|rfl|rfl|rfl
   ·exact iS (by decide) (by decide) (rH _ _ _)
   ·exact iS (by decide) (by decide) (aW.p (k:=BF u16) inferInstance hh)
   ·exact iS (by decide) (by decide) (aW.p (k:=BF u19) inferInstance hh)
   ·exact iS (by decide) (by decide) (aW.p (k:=BF u21) inferInstance hh)),zK _ _⟩)
end
def Mq:ByteArray:=⟨#[97]⟩
def yU:ByteArray:=⟨#[116,111,112]⟩
def jU:Im:=⟨[⟨10,0,[]⟩,⟨18,6,jH Mq⟩,⟨26,1,[0,0]⟩,⟨28,5,[66,90,0,0,0,0,0,0]⟩,⟨16,3,[100,0].flatMap lB⟩],[]⟩
def kL:Li:=⟨Jq,[jN Mq [iA 1 0 [⟨0,0⟩,⟨10,0⟩,⟨10,10⟩,⟨0,10⟩]],jN yU [jU]]⟩
theorem F_:jo kL=true:=by decide+kernel
theorem Iv:lost kL.c=false:=by decide+kernel
theorem AM:dep kL.c 64 0=some 1:=by decide+kernel
theorem AN:dep kL.c 64 1=some 2:=by decide+kernel
theorem Iu:JB kL.c=false:=by decide+kernel
theorem F9:Dn kL.c=1:=by decide+kernel
def kK:List Dp:=[⟨100,0⟩,⟨100,10⟩,⟨90,10⟩,⟨90,0⟩]
theorem LA:VT kL.c=.ok [⟨1,0,kK⟩]:=by kernel_rfl
theorem mZ(n:Int)(h0:0≤n)(h1:n≤100000):qX kL n=if 1>n then .error 27 else .ok [⟨1,0,kK⟩]:=by
 have hl:kL.c.length=2:=rfl;unfold qX;rw[if_neg (by omega),if_neg (by rw[F_];simp)];unfold vt;rw[Iv,if_neg (by simp),if_neg (by
  rintro⟨c,hc,h⟩;rw[hl]at hc;have:c=0∨c=1:=by omega
  rcases this with rfl|rfl
  ·exact h 1 ⟨64,AM⟩
  ·exact h 2 ⟨64,AN⟩),if_neg (by
  rintro(h|⟨c,hc,h⟩)
  ·rw[Iu]at h;simp at h
  ·rw[hl]at hc;have:c=0∨c=1:=by omega
   rcases this with rfl|rfl
   ·rw[AM]at h;simp at h
   ·rw[AN]at h;simp at h),F9,LA]
def JN(x:Im):Nat:=1+x.f.length+x.p.length
def DL(c:Ce):Nat:=1+c.h.length+(c.i.map JN).sum
def rN(t:Li):Nat:=t.h.length+(t.c.map DL).sum
structure Hu where
 n:Int
 i:Nat
 b:Int
 z:Int
def Ht(N1:Int)(l:List Im)(n:Int)(j:Nat):Prop:=0≤n∧n≤2305843009213693952∧(n<150→n=N1+(((l.take j).map JN).sum:Nat))
def Mv(A:Int)(l:List Ce)(n:Int)(i:Nat):Prop:=0≤n∧n≤9223372036854775807∧(n<150→n=A+(((l.take i).map DL).sum:Nat))
theorem He{α:Type}{l:List α}{i:Nat}{x:α}(f:α→Nat)(h:l[i]? =some x):((l.take (i+1)).map f).sum=((l.take i).map f).sum+f x:=by
 rw[lR h,aT,kq];simp
theorem FF{x:Ce}{A n:Int}{l:List Ce}{i:Nat}{m:Nat}(hb:x.h.length≤1152921504606846976)(h:Mv A l n i)(hn:n<150)(hm:m=x.h.length):Ht (IntKind.i64.wrap (IntKind.i64.wrap (n+1)+(m:Int))) x.i (IntKind.i64.wrap (IntKind.i64.wrap (n+1)+(m:Int))) 0:=by
 obtain⟨h1,h2,_⟩:=h;refine⟨?_,?_,fun _=>by simp⟩<;>simp only[af]<;>omega
theorem nN{N1 n:Int}{l:List Im}{j f p:Nat}{y:Im}(hy:l[j]? =some y)(h:Ht N1 l n j)(hn:n<150)(hf:f=y.f.length)(hp:p=y.p.length):
  Ht N1 l (IntKind.i64.wrap (IntKind.i64.wrap (IntKind.i64.wrap (n+1)+min (f:Int) 150)+min (p:Int) 150)) (j+1):=by
 obtain⟨h1,h2,h3⟩:=h;have h3:=h3 hn;unfold Ht;rw[He JN hy];have e:JN y=1+y.f.length+y.p.length:=rfl;refine⟨?_,?_,?_⟩<;>simp only[af]<;>omega
theorem wK{x:Ce}{A n n6:Int}{l:List Ce}{i j:Nat}{m:Nat}(hx:l[i]? =some x)(hb:x.h.length≤1152921504606846976)(h:Mv A l n i)(hn:n<150)(hm:m=x.h.length)(h6:Ht (IntKind.i64.wrap (IntKind.i64.wrap (n+1)+(m:Int))) x.i n6 j)
  (hj:n6<150→x.i.length≤j):Mv A l n6 (i+1):=by
 obtain⟨h1,h2,h3⟩:=h;obtain⟨g1,g2,g3⟩:=h6;refine⟨g1,by omega,fun hl=>?_⟩;have e1:=g3 hl;have e2:=h3 hn;rw[aU (hj hl)]at e1;rw[He DL hx];have e:DL x=1+x.h.length+(x.i.map JN).sum:=rfl;simp only[af]at e1;omega
theorem RD{n:Int}{t:Li}{i hn:Nat}(h:Mv (hn:Int) t.c n i)(hl:n<150)(hh:hn=t.h.length)(hi:t.c.length≤i):rN t<150:=by
 obtain⟨h1,h2,h3⟩:=h;have:=h3 hl;rw[aU hi]at this;unfold rN;omega
def fwU:Hu→List (Nat×SV):=fun a=>[(1,.ptr 1 0),(3,.val (.int .i64 a.n)),(4,.val (.int .i64 a.b)),(6,.val (.int .i64 a.z))]
def fwX(h c:Sl):Hu→List (Nat×List Value):=fun _=>[(1,[aZ h,aZ c])]
def fwI(t:Li)(cn hn:Nat):Hu→Prop:=fun a=>a.z=a.i∧a.i≤cn∧Mv (hn:Int) t.c a.n a.i
abbrev Dw(t:Li)(v:Value)(Δ:List aD):Prop:=∃g,v=.bool g∧Δ=[]∧(g=true→rN t<150)
set_option maxRecDepth 10000 in
theorem Cz(ha:Option Addr)(hn hc:Nat)(ca:Option Addr)(cn cc:Nat){t:Li}(hb:∀x∈t.c,x.h.length≤1152921504606846976)(hhl:hn=t.h.length)(hcn:cn=t.c.length)(hcn2:cn≤cc)(hcn3:cc≤9223372036854775807)
  (q:Hu)(R:VS→List aD→Prop)(hq:fwI t cn hn q)
  (close5:∀(D':List Nat) (c':fG) (Γ':List aD) (a':Hu),og (aL tb (bh tb D' 999 c'))=some R→
   (oh (aL tb (bh tb D' 999 c'))).map (fun s=>s.only [1,3,4,6] [1])=some (iJ 170 170 (fwU a') (fwX ⟨ha,hn,hc⟩ ⟨ca,cn,cc⟩ a') [] [])→
   fwI t cn hn a'→cn-a'.i<cn-q.i→(∀I w,br tb I w→aG Γ' I w→aG [lH ⟨ca,cn,cc⟩ t.c] I w)→W tb Tryz.prog (Fin tb Tryz.f8 (Dw t)) c' Γ'):
  W tb Tryz.prog (Fin tb Tryz.f8 (Dw t)) ⟨iJ 170 170 (fwU q) (fwX ⟨ha,hn,hc⟩ ⟨ca,cn,cc⟩ q) [] [],.code (VV Tryz.f8 1)::.again R::VW Tryz.f8 1⟩ [lH ⟨ca,cn,cc⟩ t.c]:=by
 obtain⟨n5,i5,b5,z5⟩:=q;obtain⟨hz5,hi5,h5⟩:=hq;simp only at hz5 hi5 h5;by_cases q41:z5<(cn:Int)
 ·have hl5:i5<cn:=by omega
  obtain⟨x,hx5⟩:∃x,t.c[i5]? =some x:=⟨_,ai (by omega)⟩;have hhb:=hb x (aK hx5);refine sI ⟨ca,cn,cc⟩ hx5 (fun bc oc fh fi hac=>?_);simp only at hac;subst hac;refine W.more (Δ:=[la fh x.h]) rfl (fun I w _ hh=>aS (aW.p (k:=yz fh fi) (a:=x) inferInstance hh).1) ?_;refine W.more (Δ:=[pS fi x.i]) rfl (fun I w _ hh=>aS (aW.p (k:=yz fh fi) (a:=x) inferInstance hh).2) ?_;obtain⟨ha5,hn5,hc5⟩:=fh;obtain⟨ia,im,ic⟩:=fi;refine W.len dd dC.r ⟨ha5,hn5,hc5⟩ rfl (fun hhn _ _=>?_);refine W.len lZ mN.x ⟨ia,im,ic⟩ rfl (fun him him2 him3=>?_);simp only at hhn him him2 him3;refine bj [] 41 (decide (z5<(cn:Int))) (au q41) ?_;by_cases q44:n5<150
  ·refine bj [41] 44 (decide (n5<150)) (au q44) ?_;refine bW [44] 2 bc oc cn cc .i64 i5 z5 hz5 aB hl5 ?_;refine bZ [] 0 bc (oc+i5*2) aB ?_;refine dJ [] 1 bc (oc+i5*2+0) (aZ ⟨ha5,hn5,hc5⟩) aB (fun I w hd hh=>cA bc (oc+i5*2) I w hd hh 0 _ rfl) ?_;refine gV [] [4,7] (fun a:Hu=>[(4,.int .i64 a.b),(7,.int .i64 a.z)]) (fun _=>[]) (fun _=>[]) (fun _=>[lH ⟨some ⟨bc,oc,none⟩,cn,cc⟩ t.c,la ⟨ha5,hn5,hc5⟩ x.h,pS ⟨ia,im,ic⟩ x.i,RA (some ⟨bc,oc+i5*2,none⟩) [aZ ⟨ha5,hn5,hc5⟩,aZ ⟨ia,im,ic⟩]]) (fun a=>a.z=a.i∧a.i≤hn5) (fun a=>hn5-a.i) ⟨0,0,b5,0⟩ ⟨rfl,aJ _⟩ (eC eK (eC eK (eC eK (eC eK eE)))) ?_;rintro⟨n8,i8,b8,z8⟩ R8 ⟨hz8,hi8⟩ close8;simp only at hz8 hi8;by_cases q66:z8<(hn5:Int)
   ·have hl8:i8<hn5:=by omega
    obtain⟨r8,hr8⟩:∃r,x.h[i8]? =some r:=⟨_,ai (by omega)⟩;refine p6 ⟨ha5,hn5,hc5⟩ hr8 (fun bb8 of8 u8 ha8=>?_);simp only at ha8;subst ha8;refine bW [] 2 bc oc cn cc .i64 i5 z5 hz5 aB hl5 ?_;refine bZ [] 0 bc (oc+i5*2) aB ?_;refine dJ [] 1 bc (oc+i5*2+0) (aZ ⟨(some ⟨bb8,of8,none⟩),hn5,hc5⟩) aB (fun I w hd hh=>cA bc (oc+i5*2) I w hd hh 0 _ rfl) ?_;refine bj [] 66 (decide (z8<(hn5:Int))) (au q66) ?_;by_cases q69:z8<100
    ·refine bj [66] 69 (decide (z8<100)) (au q69) ?_;refine bW [69] 2 bc oc cn cc .i64 i5 z5 hz5 aB hl5 ?_;refine bZ [] 0 bc (oc+i5*2) aB ?_;refine dJ [] 1 bc (oc+i5*2+0) (aZ ⟨(some ⟨bb8,of8,none⟩),hn5,hc5⟩) aB (fun I w hd hh=>cA bc (oc+i5*2) I w hd hh 0 _ rfl) ?_;refine bW [] 3 bb8 of8 hn5 hc5 .i64 i8 z8 hz8 aB (by omega) ?_;refine bZ [] 2 bb8 (of8+i8*3) aB ?_;refine dJ [] 1 bb8 (of8+i8*3+2) (aZ u8) aB (fun I w hd hh=>cA bb8 (of8+i8*3) I w hd hh 2 _ rfl) ?_;refine pW [] .i64 (u8.n:Int) 100000 (min (u8.n:Int) 100000) rfl ?_;exact close8 [] _ _ ⟨0,i8+1,IntKind.i64.wrap (b8+min (u8.n:Int) 100000),IntKind.i64.wrap (z8+1)⟩ (by kernel_rfl) (by kernel_rfl) ⟨by simp only[af];omega,by simp only;omega⟩ (by simp only;omega) (eC eK (eC eK (eC eK (eC eK eE))))
    ·refine aQ [66] 69 (decide (z8<100)) (aj q69) ?_;refine gV [69] [3,4,8] (fun a:Hu=>[(3,.int .i64 a.n),(4,.int .i64 a.b),(8,.int .i64 a.z)]) (fun _=>[]) (fun _=>[]) (fun _=>[lH ⟨some ⟨bc,oc,none⟩,cn,cc⟩ t.c,pS ⟨ia,im,ic⟩ x.i,RA (some ⟨bc,oc+i5*2,none⟩) [aZ ⟨(some ⟨bb8,of8,none⟩),hn5,hc5⟩,aZ ⟨ia,im,ic⟩]]) (fun a=>a.z=a.i∧a.i≤im∧Ht (IntKind.i64.wrap (IntKind.i64.wrap (n5+1)+(hn5:Int))) x.i a.n a.i) (fun a=>im-a.i) ⟨IntKind.i64.wrap (IntKind.i64.wrap (n5+1)+(hn5:Int)),0,b8,0⟩ ⟨rfl,aJ _,FF hhb h5 q44 hhn⟩ (eC eK (eC eK (eC eK eE))) ?_;rintro⟨n6,i6,b6,z6⟩ R6 ⟨hz6,hi6,h6⟩ close6;simp only at hz6 hi6 h6;by_cases q95:z6<(im:Int)
     ·have hl6:i6<im:=by omega
      obtain⟨y,hy6⟩:∃y,x.i[i6]? =some y:=⟨_,ai (by omega)⟩;refine wm ⟨ia,im,ic⟩ hy6 (fun bi oi yf yp ha6=>?_);simp only at ha6;subst ha6;refine W.more (Δ:=[la yf y.f]) rfl (fun I w _ hh=>aS (aW.p (k:=mI yf yp) (a:=y) inferInstance hh).1) ?_;refine W.more (Δ:=[la yp y.p]) rfl (fun I w _ hh=>aS (aW.p (k:=mI yf yp) (a:=y) inferInstance hh).2) ?_;obtain⟨fa,fn,fc⟩:=yf;obtain⟨pa,pn,pc⟩:=yp;refine W.len dd dC.r ⟨fa,fn,fc⟩ rfl (fun hfn _ _=>?_);refine W.len dd dC.r ⟨pa,pn,pc⟩ rfl (fun hpn _ _=>?_);simp only at hfn hpn;refine bW [] 2 bc oc cn cc .i64 i5 z5 hz5 aB hl5 ?_;refine bZ [] 1 bc (oc+i5*2) aB ?_;refine dJ [] 1 bc (oc+i5*2+1) (aZ ⟨some ⟨bi,oi,none⟩,im,ic⟩) aB (fun I w hd hh=>cA bc (oc+i5*2) I w hd hh 1 _ rfl) ?_;refine bj [] 95 (decide (z6<(im:Int))) (au q95) ?_;by_cases q98:n6<150
      ·refine bj [95] 98 (decide (n6<150)) (au q98) ?_;refine bW [98] 2 bc oc cn cc .i64 i5 z5 hz5 aB hl5 ?_;refine bZ [] 1 bc (oc+i5*2) aB ?_;refine dJ [] 1 bc (oc+i5*2+1) (aZ ⟨some ⟨bi,oi,none⟩,im,ic⟩) aB (fun I w hd hh=>cA bc (oc+i5*2) I w hd hh 1 _ rfl) ?_;refine bW [] 2 bi oi im ic .i64 i6 z6 hz6 aB hl6 ?_;refine cV [] bi (oi+i6*2) [aZ ⟨fa,fn,fc⟩,aZ ⟨pa,pn,pc⟩] aB (cA bi (oi+i6*2)) ?_;refine pW [] .i64 (fn:Int) 150 (min (fn:Int) 150) rfl ?_;refine pW [] .i64 (pn:Int) 150 (min (pn:Int) 150) rfl ?_;refine gV [] [4,10] (fun a:Hu=>[(4,.int .i64 a.b),(10,.int .i64 a.z)]) (fun _=>[]) (fun _=>[]) (fun _=>[lH ⟨some ⟨bc,oc,none⟩,cn,cc⟩ t.c,pS ⟨some ⟨bi,oi,none⟩,im,ic⟩ x.i,RA (some ⟨bc,oc+i5*2,none⟩) [aZ ⟨(some ⟨bb8,of8,none⟩),hn5,hc5⟩,aZ ⟨some ⟨bi,oi,none⟩,im,ic⟩],la ⟨fa,fn,fc⟩ y.f,la ⟨pa,pn,pc⟩ y.p]) (fun a=>a.z=a.i∧a.i≤fn) (fun a=>fn-a.i) ⟨0,0,b6,0⟩ ⟨rfl,aJ _⟩ (eC eK (eC eK (eC eK (eC eK (eC eK eE))))) ?_;rintro⟨nF,iF,bF,zF⟩ RF ⟨hzF,hiF⟩ closeF;simp only at hzF hiF;by_cases q127:zF<(fn:Int)
       ·have hlF:iF<fn:=by omega
        obtain⟨rF,hrF⟩:∃r,y.f[iF]? =some r:=⟨_,ai (by omega)⟩;refine p6 ⟨fa,fn,fc⟩ hrF (fun bbF ofF uF haF=>?_);simp only at haF;subst haF;refine bj [] 127 (decide (zF<(fn:Int))) (au q127) ?_;by_cases q130:zF<150
        ·refine bj [127] 130 (decide (zF<150)) (au q130) ?_;refine bW [130] 3 bbF ofF fn fc .i64 iF zF hzF aB (by omega) ?_;refine bZ [] 2 bbF (ofF+iF*3) aB ?_;refine dJ [] 1 bbF (ofF+iF*3+2) (aZ uF) aB (fun I w hd hh=>cA bbF (ofF+iF*3) I w hd hh 2 _ rfl) ?_;refine pW [] .i64 (uF.n:Int) 100000 (min (uF.n:Int) 100000) rfl ?_;exact closeF [] _ _ ⟨0,iF+1,IntKind.i64.wrap (bF+min (uF.n:Int) 100000),IntKind.i64.wrap (zF+1)⟩ (by kernel_rfl) (by kernel_rfl) ⟨by simp only[af];omega,by simp only;omega⟩ (by simp only;omega) (eC eK (eC eK (eC eK (eC eK (eC eK eE)))))
        ·refine aQ [127] 130 (decide (zF<150)) (aj q130) ?_;refine gV [130] [4,11] (fun a:Hu=>[(4,.int .i64 a.b),(11,.int .i64 a.z)]) (fun _=>[]) (fun _=>[]) (fun _=>[lH ⟨some ⟨bc,oc,none⟩,cn,cc⟩ t.c,pS ⟨some ⟨bi,oi,none⟩,im,ic⟩ x.i,RA (some ⟨bc,oc+i5*2,none⟩) [aZ ⟨(some ⟨bb8,of8,none⟩),hn5,hc5⟩,aZ ⟨some ⟨bi,oi,none⟩,im,ic⟩],la ⟨pa,pn,pc⟩ y.p]) (fun a=>a.z=a.i∧a.i≤pn) (fun a=>pn-a.i) ⟨0,0,bF,0⟩ ⟨rfl,aJ _⟩ (eC eK (eC eK (eC eK (eC eK eE)))) ?_;rintro⟨nP,iP,bP,zP⟩ RP ⟨hzP,hiP⟩ closeP;simp only at hzP hiP;by_cases q148:zP<(pn:Int)
         ·have hlP:iP<pn:=by omega
          obtain⟨rP,hrP⟩:∃r,y.p[iP]? =some r:=⟨_,ai (by omega)⟩;refine p6 ⟨pa,pn,pc⟩ hrP (fun bbP ofP uP haP=>?_);simp only at haP;subst haP;refine bj [] 148 (decide (zP<(pn:Int))) (au q148) ?_;by_cases q151:zP<150
          ·refine bj [148] 151 (decide (zP<150)) (au q151) ?_;refine bW [151] 3 bbP ofP pn pc .i64 iP zP hzP aB (by omega) ?_;refine bZ [] 2 bbP (ofP+iP*3) aB ?_;refine dJ [] 1 bbP (ofP+iP*3+2) (aZ uP) aB (fun I w hd hh=>cA bbP (ofP+iP*3) I w hd hh 2 _ rfl) ?_;refine pW [] .i64 (uP.n:Int) 100000 (min (uP.n:Int) 100000) rfl ?_;exact closeP [] _ _ ⟨0,iP+1,IntKind.i64.wrap (bP+min (uP.n:Int) 100000),IntKind.i64.wrap (zP+1)⟩ (by kernel_rfl) (by kernel_rfl) ⟨by simp only[af];omega,by simp only;omega⟩ (by simp only;omega) (eC eK (eC eK (eC eK (eC eK eE))))
          ·refine aQ [148] 151 (decide (zP<150)) (aj q151) ?_;exact close6 [151] _ _ ⟨IntKind.i64.wrap (IntKind.i64.wrap (IntKind.i64.wrap (n6+1)+min (fn:Int) 150)+min (pn:Int) 150),i6+1,bP,IntKind.i64.wrap (z6+1)⟩ (by kernel_rfl) (by kernel_rfl) ⟨by simp only[af];omega,hl6,nN hy6 h6 q98 hfn hpn⟩ (by simp only;omega) (eC eK (eC eK (eC eK eE)))
         ·refine aQ [] 148 (decide (zP<(pn:Int))) (aj q148) ?_;exact close6 [151,148] _ _ ⟨IntKind.i64.wrap (IntKind.i64.wrap (IntKind.i64.wrap (n6+1)+min (fn:Int) 150)+min (pn:Int) 150),i6+1,bP,IntKind.i64.wrap (z6+1)⟩ (by kernel_rfl) (by kernel_rfl) ⟨by simp only[af];omega,hl6,nN hy6 h6 q98 hfn hpn⟩ (by simp only;omega) (eC eK (eC eK (eC eK eE)))
       ·refine aQ [] 127 (decide (zF<(fn:Int))) (aj q127) ?_;refine gV [130,127] [4,11] (fun a:Hu=>[(4,.int .i64 a.b),(11,.int .i64 a.z)]) (fun _=>[]) (fun _=>[]) (fun _=>[lH ⟨some ⟨bc,oc,none⟩,cn,cc⟩ t.c,pS ⟨some ⟨bi,oi,none⟩,im,ic⟩ x.i,RA (some ⟨bc,oc+i5*2,none⟩) [aZ ⟨(some ⟨bb8,of8,none⟩),hn5,hc5⟩,aZ ⟨some ⟨bi,oi,none⟩,im,ic⟩],la ⟨pa,pn,pc⟩ y.p]) (fun a=>a.z=a.i∧a.i≤pn) (fun a=>pn-a.i) ⟨0,0,bF,0⟩ ⟨rfl,aJ _⟩ (eC eK (eC eK (eC eK (eC eK eE)))) ?_;rintro⟨nP,iP,bP,zP⟩ RP ⟨hzP,hiP⟩ closeP;simp only at hzP hiP;by_cases q148:zP<(pn:Int)
        ·have hlP:iP<pn:=by omega
         obtain⟨rP,hrP⟩:∃r,y.p[iP]? =some r:=⟨_,ai (by omega)⟩;refine p6 ⟨pa,pn,pc⟩ hrP (fun bbP ofP uP haP=>?_);simp only at haP;subst haP;refine bj [] 148 (decide (zP<(pn:Int))) (au q148) ?_;by_cases q151:zP<150
         ·refine bj [148] 151 (decide (zP<150)) (au q151) ?_;refine bW [151] 3 bbP ofP pn pc .i64 iP zP hzP aB (by omega) ?_;refine bZ [] 2 bbP (ofP+iP*3) aB ?_;refine dJ [] 1 bbP (ofP+iP*3+2) (aZ uP) aB (fun I w hd hh=>cA bbP (ofP+iP*3) I w hd hh 2 _ rfl) ?_;refine pW [] .i64 (uP.n:Int) 100000 (min (uP.n:Int) 100000) rfl ?_;exact closeP [] _ _ ⟨0,iP+1,IntKind.i64.wrap (bP+min (uP.n:Int) 100000),IntKind.i64.wrap (zP+1)⟩ (by kernel_rfl) (by kernel_rfl) ⟨by simp only[af];omega,by simp only;omega⟩ (by simp only;omega) (eC eK (eC eK (eC eK (eC eK eE))))
         ·refine aQ [148] 151 (decide (zP<150)) (aj q151) ?_;exact close6 [151] _ _ ⟨IntKind.i64.wrap (IntKind.i64.wrap (IntKind.i64.wrap (n6+1)+min (fn:Int) 150)+min (pn:Int) 150),i6+1,bP,IntKind.i64.wrap (z6+1)⟩ (by kernel_rfl) (by kernel_rfl) ⟨by simp only[af];omega,hl6,nN hy6 h6 q98 hfn hpn⟩ (by simp only;omega) (eC eK (eC eK (eC eK eE)))
        ·refine aQ [] 148 (decide (zP<(pn:Int))) (aj q148) ?_;exact close6 [151,148] _ _ ⟨IntKind.i64.wrap (IntKind.i64.wrap (IntKind.i64.wrap (n6+1)+min (fn:Int) 150)+min (pn:Int) 150),i6+1,bP,IntKind.i64.wrap (z6+1)⟩ (by kernel_rfl) (by kernel_rfl) ⟨by simp only[af];omega,hl6,nN hy6 h6 q98 hfn hpn⟩ (by simp only;omega) (eC eK (eC eK (eC eK eE)))
      ·refine aQ [95] 98 (decide (n6<150)) (aj q98) ?_;exact close5 [98] _ _ ⟨n6,i5+1,b6,IntKind.i64.wrap (z5+1)⟩ (by kernel_rfl) (by kernel_rfl) ⟨by simp only[af];omega,hl5,wK hx5 hhb h5 q44 hhn h6 (fun h=>absurd h q98)⟩ (by simp only;omega) (eC eK eE)
     ·refine bW [] 2 bc oc cn cc .i64 i5 z5 hz5 aB hl5 ?_;refine bZ [] 1 bc (oc+i5*2) aB ?_;refine dJ [] 1 bc (oc+i5*2+1) (aZ ⟨ia,im,ic⟩) aB (fun I w hd hh=>cA bc (oc+i5*2) I w hd hh 1 _ rfl) ?_;refine aQ [] 95 (decide (z6<(im:Int))) (aj q95) ?_;exact close5 [98,95] _ _ ⟨n6,i5+1,b6,IntKind.i64.wrap (z5+1)⟩ (by kernel_rfl) (by kernel_rfl) ⟨by simp only[af];omega,hl5,wK hx5 hhb h5 q44 hhn h6 (fun _=>by omega)⟩ (by simp only;omega) (eC eK eE)
   ·refine bW [] 2 bc oc cn cc .i64 i5 z5 hz5 aB hl5 ?_;refine bZ [] 0 bc (oc+i5*2) aB ?_;refine dJ [] 1 bc (oc+i5*2+0) (aZ ⟨ha5,hn5,hc5⟩) aB (fun I w hd hh=>cA bc (oc+i5*2) I w hd hh 0 _ rfl) ?_;refine aQ [] 66 (decide (z8<(hn5:Int))) (aj q66) ?_;refine gV [69,66] [3,4,8] (fun a:Hu=>[(3,.int .i64 a.n),(4,.int .i64 a.b),(8,.int .i64 a.z)]) (fun _=>[]) (fun _=>[]) (fun _=>[lH ⟨some ⟨bc,oc,none⟩,cn,cc⟩ t.c,pS ⟨ia,im,ic⟩ x.i,RA (some ⟨bc,oc+i5*2,none⟩) [aZ ⟨ha5,hn5,hc5⟩,aZ ⟨ia,im,ic⟩]]) (fun a=>a.z=a.i∧a.i≤im∧Ht (IntKind.i64.wrap (IntKind.i64.wrap (n5+1)+(hn5:Int))) x.i a.n a.i) (fun a=>im-a.i) ⟨IntKind.i64.wrap (IntKind.i64.wrap (n5+1)+(hn5:Int)),0,b8,0⟩ ⟨rfl,aJ _,FF hhb h5 q44 hhn⟩ (eC eK (eC eK (eC eK eE))) ?_;rintro⟨n6,i6,b6,z6⟩ R6 ⟨hz6,hi6,h6⟩ close6;simp only at hz6 hi6 h6;by_cases q95:z6<(im:Int)
    ·have hl6:i6<im:=by omega
     obtain⟨y,hy6⟩:∃y,x.i[i6]? =some y:=⟨_,ai (by omega)⟩;refine wm ⟨ia,im,ic⟩ hy6 (fun bi oi yf yp ha6=>?_);simp only at ha6;subst ha6;refine W.more (Δ:=[la yf y.f]) rfl (fun I w _ hh=>aS (aW.p (k:=mI yf yp) (a:=y) inferInstance hh).1) ?_;refine W.more (Δ:=[la yp y.p]) rfl (fun I w _ hh=>aS (aW.p (k:=mI yf yp) (a:=y) inferInstance hh).2) ?_;obtain⟨fa,fn,fc⟩:=yf;obtain⟨pa,pn,pc⟩:=yp;refine W.len dd dC.r ⟨fa,fn,fc⟩ rfl (fun hfn _ _=>?_);refine W.len dd dC.r ⟨pa,pn,pc⟩ rfl (fun hpn _ _=>?_);simp only at hfn hpn;refine bW [] 2 bc oc cn cc .i64 i5 z5 hz5 aB hl5 ?_;refine bZ [] 1 bc (oc+i5*2) aB ?_;refine dJ [] 1 bc (oc+i5*2+1) (aZ ⟨some ⟨bi,oi,none⟩,im,ic⟩) aB (fun I w hd hh=>cA bc (oc+i5*2) I w hd hh 1 _ rfl) ?_;refine bj [] 95 (decide (z6<(im:Int))) (au q95) ?_;by_cases q98:n6<150
     ·refine bj [95] 98 (decide (n6<150)) (au q98) ?_;refine bW [98] 2 bc oc cn cc .i64 i5 z5 hz5 aB hl5 ?_;refine bZ [] 1 bc (oc+i5*2) aB ?_;refine dJ [] 1 bc (oc+i5*2+1) (aZ ⟨some ⟨bi,oi,none⟩,im,ic⟩) aB (fun I w hd hh=>cA bc (oc+i5*2) I w hd hh 1 _ rfl) ?_;refine bW [] 2 bi oi im ic .i64 i6 z6 hz6 aB hl6 ?_;refine cV [] bi (oi+i6*2) [aZ ⟨fa,fn,fc⟩,aZ ⟨pa,pn,pc⟩] aB (cA bi (oi+i6*2)) ?_;refine pW [] .i64 (fn:Int) 150 (min (fn:Int) 150) rfl ?_;refine pW [] .i64 (pn:Int) 150 (min (pn:Int) 150) rfl ?_;refine gV [] [4,10] (fun a:Hu=>[(4,.int .i64 a.b),(10,.int .i64 a.z)]) (fun _=>[]) (fun _=>[]) (fun _=>[lH ⟨some ⟨bc,oc,none⟩,cn,cc⟩ t.c,pS ⟨some ⟨bi,oi,none⟩,im,ic⟩ x.i,RA (some ⟨bc,oc+i5*2,none⟩) [aZ ⟨ha5,hn5,hc5⟩,aZ ⟨some ⟨bi,oi,none⟩,im,ic⟩],la ⟨fa,fn,fc⟩ y.f,la ⟨pa,pn,pc⟩ y.p]) (fun a=>a.z=a.i∧a.i≤fn) (fun a=>fn-a.i) ⟨0,0,b6,0⟩ ⟨rfl,aJ _⟩ (eC eK (eC eK (eC eK (eC eK (eC eK eE))))) ?_;rintro⟨nF,iF,bF,zF⟩ RF ⟨hzF,hiF⟩ closeF;simp only at hzF hiF;by_cases q127:zF<(fn:Int)
      ·have hlF:iF<fn:=by omega
       obtain⟨rF,hrF⟩:∃r,y.f[iF]? =some r:=⟨_,ai (by omega)⟩;refine p6 ⟨fa,fn,fc⟩ hrF (fun bbF ofF uF haF=>?_);simp only at haF;subst haF;refine bj [] 127 (decide (zF<(fn:Int))) (au q127) ?_;by_cases q130:zF<150
       ·refine bj [127] 130 (decide (zF<150)) (au q130) ?_;refine bW [130] 3 bbF ofF fn fc .i64 iF zF hzF aB (by omega) ?_;refine bZ [] 2 bbF (ofF+iF*3) aB ?_;refine dJ [] 1 bbF (ofF+iF*3+2) (aZ uF) aB (fun I w hd hh=>cA bbF (ofF+iF*3) I w hd hh 2 _ rfl) ?_;refine pW [] .i64 (uF.n:Int) 100000 (min (uF.n:Int) 100000) rfl ?_;exact closeF [] _ _ ⟨0,iF+1,IntKind.i64.wrap (bF+min (uF.n:Int) 100000),IntKind.i64.wrap (zF+1)⟩ (by kernel_rfl) (by kernel_rfl) ⟨by simp only[af];omega,by simp only;omega⟩ (by simp only;omega) (eC eK (eC eK (eC eK (eC eK (eC eK eE)))))
       ·refine aQ [127] 130 (decide (zF<150)) (aj q130) ?_;refine gV [130] [4,11] (fun a:Hu=>[(4,.int .i64 a.b),(11,.int .i64 a.z)]) (fun _=>[]) (fun _=>[]) (fun _=>[lH ⟨some ⟨bc,oc,none⟩,cn,cc⟩ t.c,pS ⟨some ⟨bi,oi,none⟩,im,ic⟩ x.i,RA (some ⟨bc,oc+i5*2,none⟩) [aZ ⟨ha5,hn5,hc5⟩,aZ ⟨some ⟨bi,oi,none⟩,im,ic⟩],la ⟨pa,pn,pc⟩ y.p]) (fun a=>a.z=a.i∧a.i≤pn) (fun a=>pn-a.i) ⟨0,0,bF,0⟩ ⟨rfl,aJ _⟩ (eC eK (eC eK (eC eK (eC eK eE)))) ?_;rintro⟨nP,iP,bP,zP⟩ RP ⟨hzP,hiP⟩ closeP;simp only at hzP hiP;by_cases q148:zP<(pn:Int)
        ·have hlP:iP<pn:=by omega
         obtain⟨rP,hrP⟩:∃r,y.p[iP]? =some r:=⟨_,ai (by omega)⟩;refine p6 ⟨pa,pn,pc⟩ hrP (fun bbP ofP uP haP=>?_);simp only at haP;subst haP;refine bj [] 148 (decide (zP<(pn:Int))) (au q148) ?_;by_cases q151:zP<150
         ·refine bj [148] 151 (decide (zP<150)) (au q151) ?_;refine bW [151] 3 bbP ofP pn pc .i64 iP zP hzP aB (by omega) ?_;refine bZ [] 2 bbP (ofP+iP*3) aB ?_;refine dJ [] 1 bbP (ofP+iP*3+2) (aZ uP) aB (fun I w hd hh=>cA bbP (ofP+iP*3) I w hd hh 2 _ rfl) ?_;refine pW [] .i64 (uP.n:Int) 100000 (min (uP.n:Int) 100000) rfl ?_;exact closeP [] _ _ ⟨0,iP+1,IntKind.i64.wrap (bP+min (uP.n:Int) 100000),IntKind.i64.wrap (zP+1)⟩ (by kernel_rfl) (by kernel_rfl) ⟨by simp only[af];omega,by simp only;omega⟩ (by simp only;omega) (eC eK (eC eK (eC eK (eC eK eE))))
         ·refine aQ [148] 151 (decide (zP<150)) (aj q151) ?_;exact close6 [151] _ _ ⟨IntKind.i64.wrap (IntKind.i64.wrap (IntKind.i64.wrap (n6+1)+min (fn:Int) 150)+min (pn:Int) 150),i6+1,bP,IntKind.i64.wrap (z6+1)⟩ (by kernel_rfl) (by kernel_rfl) ⟨by simp only[af];omega,hl6,nN hy6 h6 q98 hfn hpn⟩ (by simp only;omega) (eC eK (eC eK (eC eK eE)))
        ·refine aQ [] 148 (decide (zP<(pn:Int))) (aj q148) ?_;exact close6 [151,148] _ _ ⟨IntKind.i64.wrap (IntKind.i64.wrap (IntKind.i64.wrap (n6+1)+min (fn:Int) 150)+min (pn:Int) 150),i6+1,bP,IntKind.i64.wrap (z6+1)⟩ (by kernel_rfl) (by kernel_rfl) ⟨by simp only[af];omega,hl6,nN hy6 h6 q98 hfn hpn⟩ (by simp only;omega) (eC eK (eC eK (eC eK eE)))
      ·refine aQ [] 127 (decide (zF<(fn:Int))) (aj q127) ?_;refine gV [130,127] [4,11] (fun a:Hu=>[(4,.int .i64 a.b),(11,.int .i64 a.z)]) (fun _=>[]) (fun _=>[]) (fun _=>[lH ⟨some ⟨bc,oc,none⟩,cn,cc⟩ t.c,pS ⟨some ⟨bi,oi,none⟩,im,ic⟩ x.i,RA (some ⟨bc,oc+i5*2,none⟩) [aZ ⟨ha5,hn5,hc5⟩,aZ ⟨some ⟨bi,oi,none⟩,im,ic⟩],la ⟨pa,pn,pc⟩ y.p]) (fun a=>a.z=a.i∧a.i≤pn) (fun a=>pn-a.i) ⟨0,0,bF,0⟩ ⟨rfl,aJ _⟩ (eC eK (eC eK (eC eK (eC eK eE)))) ?_;rintro⟨nP,iP,bP,zP⟩ RP ⟨hzP,hiP⟩ closeP;simp only at hzP hiP;by_cases q148:zP<(pn:Int)
       ·have hlP:iP<pn:=by omega
        obtain⟨rP,hrP⟩:∃r,y.p[iP]? =some r:=⟨_,ai (by omega)⟩;refine p6 ⟨pa,pn,pc⟩ hrP (fun bbP ofP uP haP=>?_);simp only at haP;subst haP;refine bj [] 148 (decide (zP<(pn:Int))) (au q148) ?_;by_cases q151:zP<150
        ·refine bj [148] 151 (decide (zP<150)) (au q151) ?_;refine bW [151] 3 bbP ofP pn pc .i64 iP zP hzP aB (by omega) ?_;refine bZ [] 2 bbP (ofP+iP*3) aB ?_;refine dJ [] 1 bbP (ofP+iP*3+2) (aZ uP) aB (fun I w hd hh=>cA bbP (ofP+iP*3) I w hd hh 2 _ rfl) ?_;refine pW [] .i64 (uP.n:Int) 100000 (min (uP.n:Int) 100000) rfl ?_;exact closeP [] _ _ ⟨0,iP+1,IntKind.i64.wrap (bP+min (uP.n:Int) 100000),IntKind.i64.wrap (zP+1)⟩ (by kernel_rfl) (by kernel_rfl) ⟨by simp only[af];omega,by simp only;omega⟩ (by simp only;omega) (eC eK (eC eK (eC eK (eC eK eE))))
        ·refine aQ [148] 151 (decide (zP<150)) (aj q151) ?_;exact close6 [151] _ _ ⟨IntKind.i64.wrap (IntKind.i64.wrap (IntKind.i64.wrap (n6+1)+min (fn:Int) 150)+min (pn:Int) 150),i6+1,bP,IntKind.i64.wrap (z6+1)⟩ (by kernel_rfl) (by kernel_rfl) ⟨by simp only[af];omega,hl6,nN hy6 h6 q98 hfn hpn⟩ (by simp only;omega) (eC eK (eC eK (eC eK eE)))
       ·refine aQ [] 148 (decide (zP<(pn:Int))) (aj q148) ?_;exact close6 [151,148] _ _ ⟨IntKind.i64.wrap (IntKind.i64.wrap (IntKind.i64.wrap (n6+1)+min (fn:Int) 150)+min (pn:Int) 150),i6+1,bP,IntKind.i64.wrap (z6+1)⟩ (by kernel_rfl) (by kernel_rfl) ⟨by simp only[af];omega,hl6,nN hy6 h6 q98 hfn hpn⟩ (by simp only;omega) (eC eK (eC eK (eC eK eE)))
     ·refine aQ [95] 98 (decide (n6<150)) (aj q98) ?_;exact close5 [98] _ _ ⟨n6,i5+1,b6,IntKind.i64.wrap (z5+1)⟩ (by kernel_rfl) (by kernel_rfl) ⟨by simp only[af];omega,hl5,wK hx5 hhb h5 q44 hhn h6 (fun h=>absurd h q98)⟩ (by simp only;omega) (eC eK eE)
    ·refine bW [] 2 bc oc cn cc .i64 i5 z5 hz5 aB hl5 ?_;refine bZ [] 1 bc (oc+i5*2) aB ?_;refine dJ [] 1 bc (oc+i5*2+1) (aZ ⟨ia,im,ic⟩) aB (fun I w hd hh=>cA bc (oc+i5*2) I w hd hh 1 _ rfl) ?_;refine aQ [] 95 (decide (z6<(im:Int))) (aj q95) ?_;exact close5 [98,95] _ _ ⟨n6,i5+1,b6,IntKind.i64.wrap (z5+1)⟩ (by kernel_rfl) (by kernel_rfl) ⟨by simp only[af];omega,hl5,wK hx5 hhb h5 q44 hhn h6 (fun _=>by omega)⟩ (by simp only;omega) (eC eK eE)
  ·refine aQ [41] 44 (decide (n5<150)) (aj q44) ?_;refine aQ [44] 166 (decide (n5<150)) (aj q44) ?_;exact W.r [166] (.bool false) ⟨false,rfl,rfl,fun h=>by simp at h⟩ bT
 ·refine aQ [] 41 (decide (z5<(cn:Int))) (aj q41) ?_;by_cases q165:n5<150
  ·refine bj [44,41] 166 (decide (n5<150)) (au q165) ?_;exact W.r [166] (.bool (decide (b5<8000))) ⟨_,rfl,rfl,fun _=>RD h5 q165 hhl (by omega)⟩ bT
  ·refine aQ [44,41] 166 (decide (n5<150)) (aj q165) ?_;exact W.r [166] (.bool false) ⟨false,rfl,rfl,fun h=>by simp at h⟩ bT
section
variable{Γ:List aD}
set_option maxRecDepth 10000 in
theorem Sk(ha:Option Addr)(hn hc:Nat)(ca:Option Addr)(cn cc:Nat){t:Li} [hF:aW (yA ⟨ha,hn,hc⟩ ⟨ca,cn,cc⟩) t Γ](hb:∀x∈t.c,x.h.length≤1152921504606846976):
  aw tb Tryz.prog 8 [lY ⟨ha,hn,hc⟩ ⟨ca,cn,cc⟩] Γ (Dw t):=by
 refine aw.of_W aB Tryz.func8 rfl ?_;refine W.more (Δ:=[la ⟨ha,hn,hc⟩ t.h]) rfl (fun I w _ hh=>aS (hF.p hh).1) ?_;refine W.more (Δ:=[lH ⟨ca,cn,cc⟩ t.c]) rfl (fun I w _ hh=>aS (aW.p (k:=yA ⟨ha,hn,hc⟩ ⟨ca,cn,cc⟩) (a:=t) inferInstance hh).2) ?_;refine W.len dd dC.r ⟨ha,hn,hc⟩ rfl (fun hhl hhl2 hhl3=>?_);refine W.len g8 lj.x ⟨ca,cn,cc⟩ rfl (fun hcn hcn2 hcn3=>?_);simp only at hhl hcn hhl2 hhl3 hcn2 hcn3;refine gV [] [4,5] (fun a:Hu=>[(4,.int .i64 a.b),(5,.int .i64 a.z)]) (fun _=>[]) (fun _=>[]) (fun _=>[la ⟨ha,hn,hc⟩ t.h,lH ⟨ca,cn,cc⟩ t.c]) (fun a=>a.z=a.i∧a.i≤hn) (fun a=>hn-a.i) ⟨0,0,0,0⟩ ⟨rfl,aJ _⟩ (eC eK (eC eK eE)) ?_;rintro⟨n1,i1,b1,z1⟩ R1 ⟨hz1,hi1⟩ close1;simp only at hz1 hi1;by_cases q20:z1<(hn:Int)
 ·have hl1:i1<hn:=by omega
  obtain⟨r1,hr1⟩:∃r,t.h[i1]? =some r:=⟨_,ai (by omega)⟩;refine p6 ⟨ha,hn,hc⟩ hr1 (fun bb1 of1 u1 ha1=>?_);simp only at ha1;subst ha1;refine bj [] 20 (decide (z1<(hn:Int))) (au q20) ?_;by_cases q23:z1<100
  ·refine bj [20] 23 (decide (z1<100)) (au q23) ?_;refine bW [23] 3 bb1 of1 hn hc .i64 i1 z1 hz1 aB (by omega) ?_;refine bZ [] 2 bb1 (of1+i1*3) aB ?_;refine dJ [] 1 bb1 (of1+i1*3+2) (aZ u1) aB (fun I w hd hh=>cA bb1 (of1+i1*3) I w hd hh 2 _ rfl) ?_;refine pW [] .i64 (u1.n:Int) 100000 (min (u1.n:Int) 100000) rfl ?_;exact close1 [] _ _ ⟨0,i1+1,IntKind.i64.wrap (b1+min (u1.n:Int) 100000),IntKind.i64.wrap (z1+1)⟩ (by kernel_rfl) (by kernel_rfl) ⟨by simp only[af];omega,by simp only;omega⟩ (by simp only;omega) (eC eK (eC eK eE))
  ·refine aQ [20] 23 (decide (z1<100)) (aj q23) ?_;exact j0 [23] Tryz.f8 1 170 170 [1,3,4,6] [1] fwU (fwX ⟨(some ⟨bb1,of1,none⟩),hn,hc⟩ ⟨ca,cn,cc⟩) (fun _=>[]) (fun _=>[]) (fun _=>[lH ⟨ca,cn,cc⟩ t.c]) (fwI t cn hn) (fun a=>cn-a.i) ⟨hn,0,b1,0⟩ ⟨rfl,aJ _,by simp only;omega,by simp only;omega,fun _=>by simp⟩ (eC eK eE) (fun a R hq close=>Cz (some ⟨bb1,of1,none⟩) hn hc ca cn cc hb hhl hcn hcn2 hcn3 a R hq close)
 ·refine aQ [] 20 (decide (z1<(hn:Int))) (aj q20) ?_;exact j0 [23,20] Tryz.f8 1 170 170 [1,3,4,6] [1] fwU (fwX ⟨ha,hn,hc⟩ ⟨ca,cn,cc⟩) (fun _=>[]) (fun _=>[]) (fun _=>[lH ⟨ca,cn,cc⟩ t.c]) (fwI t cn hn) (fun a=>cn-a.i) ⟨hn,0,b1,0⟩ ⟨rfl,aJ _,by simp only;omega,by simp only;omega,fun _=>by simp⟩ (eC eK eE) (fun a R hq close=>Cz ha hn hc ca cn cc hb hhl hcn hcn2 hcn3 a R hq close)
end
end Go.Proofs.YtgaaopjagcaojaaGreat
