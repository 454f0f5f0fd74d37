import Derived.Test.YtgaaopjagcaojaaGreatBb
import Derived.Lib.SmallJoins
set_option linter.unusedSimpArgs false
set_option linter.unusedVariables false
set_option maxHeartbeats 4000000
namespace Go.Proofs.YtgaaopjagcaojaaGreat
open Go.RowKit Go.IntWalk
theorem vl{b:Nat}(es:List dE){I:gd}{w:World}(h:(eT b (es.flatMap de.cells)).p I w)(hf:∀e∈es,(wJ e.s e.r).p I w)(hm:es.length≤1000:=by simp):(kW ⟨some ⟨b,0,none⟩,es.length,es.length⟩ (es.map dE.r)).p I w:=
 mB (v:=.int .i64 0) rfl (aj _) (by unfold maxLen;omega) (fun e he=>hf e he) (RA.of_row h fun _ _ hv=>hv)
theorem Ag(I:gd)(w:World):(kW ⟨none,0,0⟩ []).p I w:=⟨[],rfl,rfl,⟨aj _,aH _⟩,fun e he=>by simp at he,RA.nil _ _ _⟩
theorem ja{s:Sl}{k d:Int}{b:List Int}{I:gd}{w:World}(h:(BF s b).p I w)(hk:0≤k∧k<256:=by decide)(hd:0≤d∧d<256:=by decide):(wJ s ⟨k,d,b⟩).p I w:=⟨hk,hd,h⟩
theorem Kb{g n:Nat}{I:gd}{w:World}(hn:n≤1000000)(h:(eT g (List.replicate n (.int .u8 0))).p I w):(BF ⟨some ⟨g,0,none⟩,n,n⟩ (List.replicate n 0)).p I w:=
 ⟨by simp,⟨aj _,by simp only;unfold maxLen;omega⟩,fun z hz=>by
  obtain rfl:=List.eq_of_mem_replicate hz;decide,by
  rw[List.map_replicate];exact RA.of_row h fun _ _ hv=>hv⟩
theorem yz{b:Nat}{l:List Int}{I:gd}{w:World}(h:(eT b (l.map (Value.int .i64))).p I w)(hl:l.length≤1000:=by simp):(NL ⟨some ⟨b,0,none⟩,l.length,l.length⟩ l).p I w:=
 ⟨rfl,⟨aj _,by simp only;unfold maxLen;omega⟩,RA.of_row h fun _ _ hv=>hv⟩
def Ep(s:ByteArray):List Re:=[⟨5,2,List.replicate 24 0⟩,⟨6,6,j8 s⟩]
def k9(s:ByteArray)(l:List Im):Ce:=⟨Ep s,l⟩
def iZ(s:ByteArray)(x y:Int):Im:=⟨[⟨10,0,[]⟩,⟨18,6,j8 s⟩,⟨16,3,[x,y].flatMap lB⟩],[]⟩
def vF(d:Dp):List Int:=[d.x,d.y]
def jV(l:List Dp):List Dp:=l++l.take 1
def jF(a k:Int)(l:List Dp):Im:=⟨[⟨8,0,[]⟩,⟨13,2,[a].flatMap sB⟩,⟨14,2,[k].flatMap sB⟩,⟨16,3,((jV l).flatMap vF).flatMap lB⟩],[]⟩
def J_:List Re:=[⟨0,2,List.replicate 2 0⟩,⟨1,2,List.replicate 24 0⟩,⟨2,6,[108,98]⟩,⟨3,5,List.replicate 16 0⟩]
theorem y7(l:List Dp):(l.flatMap vF).map (Value.int .i64)=l.flatMap ed:=by
 induction l with
 |nil=>rfl
 |cons d l ih=>
  rw[bB,aS,ih];rfl
theorem Su{P:Program}{ops:Array Oper}{Q:Exit→Act→World→Prop}{i:Nat}{rest:List Nat}{o:Oper}{a:Act}{w w':World}(hi:ops[i]? =some o)(hg:o.guard=none)(hr:(execOp a.eval o).run P w=.ok .skip w')(hk:wpOps P ops Q rest (a.put o.dst undef) w'):wpOps P ops Q (i::rest) a w:=by
 rw[wpOps_cons];unfold wpOp;rw[hi];simp only;rw[show Region.wanted o (yielded ops a.tmps)=true from by unfold Region.wanted;rw[hg],if_pos rfl];left;unfold Oper.wp;rw[hr];exact hk
section
variable{Γ:List aC}
theorem EP(k d:Int)(n:Nat)(hn:n≤1000:=by decide):aw tb Tryz.prog 71 [.int .u8 k,.int .u8 d,.int .i64 (n:Int)] Γ (fun v Δ=>∃u:Sl,v=.agg #[.int .u8 k,.int .u8 d,aY u]∧Δ=[BF u (List.replicate n 0)]):=by
 refine aw.of_W au Tryz.func71 rfl (Uf [] [] 1 1 n [.int .u8 0] (List.replicate n (.int .u8 0)) .i64 .i64 au (by simp[madeCells,Nat.mod_one,List.map_const']) (by omega) (fun g=>D7 [] [] g (List.replicate n (.int .u8 0)) (W.r [] (.agg #[.int .u8 k,.int .u8 d,.slice (some ⟨g,0,none⟩) n n]) ⟨⟨some ⟨g,0,none⟩,n,n⟩,rfl,rfl⟩ (fun I w _ hh=>aT (Kb (by omega) hh.h0')))))
theorem pJ(s:ByteArray)(i:Sl){l:List Im} [h:aZ (qA i) l Γ](hs:s.size≤1000000:=by decide):aw tb Tryz.prog 19 [.string s,aY i] Γ (fun v Δ=>∃u:Sl,v=nd u i∧Δ=[zJ u i (k9 s l)]):=by
 refine aw.of_W au Tryz.func19 rfl (Uf [] [] 1 1 24 [.int .u8 0] (List.replicate 24 (.int .u8 0)) .i64 .i64 au (by kernel_rfl) (by decide) (fun g=>W.c0 [] (iV 5 2 ⟨some ⟨g,0,none⟩,24,24⟩) (W.c1 [] (BC s hs) (fun u3=>W.c0 [] (iV 6 6 u3) (cW [] 2 [.int .u8 5,.int .u8 2,.slice (some ⟨g,0,none⟩) 24 24,.int .u8 6,.int .u8 6,aY u3] au (fun B=>D7 [] [] g (List.replicate 24 (.int .u8 0)) (W.r [] (.agg #[.slice (some ⟨B,0,none⟩) 2 2,aY i]) ⟨⟨some ⟨B,0,none⟩,2,2⟩,rfl,rfl⟩ (fun I w _ hh=>aT ⟨vl [⟨⟨some ⟨g,0,none⟩,24,24⟩,⟨5,2,List.replicate 24 0⟩⟩,⟨u3,⟨6,6,j8 s⟩⟩] (aZ.p (k:=eT B) inferInstance hh) (fun e he=>by
  simp only[aF,aJ,b_]at he;rcases he with rfl|rfl
  ·exact ja (Kb (by decide) hh.h0')
  ·exact ja (aZ.p (k:=BF u3) inferInstance hh)),h.p (fun F hF=>hh F (by simp[hF]))⟩))))))))
theorem Tq(s:ByteArray)(x y:Int)(hs:s.size≤1000000):aw tb Tryz.prog 18 [.string s,.int .i64 x,.int .i64 y] Γ (fun v Δ=>∃u:Sl,v=nd u ⟨none,0,0⟩∧Δ=[oE u ⟨none,0,0⟩ (iZ s x y)]):=by
 refine aw.of_W au Tryz.func18 rfl (W.c0 [] (iV 10 0 ⟨none,0,0⟩) (W.c1 [] (BC s hs) (fun u2=>W.c0 [] (iV 18 6 u2) (cW [] 2 [.int .i64 x,.int .i64 y] au (fun b4=>jT [] (Γ':=[NL ⟨some ⟨b4,0,none⟩,2,2⟩ [x,y]]) (fun I w _ hh=>aT (yz (l:=[x,y]) hh.h0')) (vc ⟨some ⟨b4,0,none⟩,2,2⟩ (l:=[x,y]) (by simp)) ?_)))));rintro _ _ ⟨u5,rfl,rfl⟩;refine W.c0 [] (iV 16 3 u5) (cW [] 3 [.int .u8 10,.int .u8 0,.slice none 0 0,.int .u8 18,.int .u8 6,aY u2,.int .u8 16,.int .u8 3,aY u5] au (fun B=>W.r [] (.agg #[.slice (some ⟨B,0,none⟩) 3 3,.slice none 0 0]) ⟨⟨some ⟨B,0,none⟩,3,3⟩,rfl,rfl⟩ (fun I w _ hh=>aT ⟨vl [⟨⟨none,0,0⟩,⟨10,0,[]⟩⟩,⟨u2,⟨18,6,j8 s⟩⟩,⟨u5,⟨16,3,[x,y].flatMap lB⟩⟩] (aZ.p (k:=eT B) inferInstance hh) (fun e he=>by
  simp only[aF,aJ,b_]at he;rcases he with rfl|rfl|rfl
  ·exact ja (rL _ _ _)
  ·exact ja (aZ.p (k:=BF u2) inferInstance hh)
  ·exact ja (aZ.p (k:=BF u5) inferInstance hh)),Ag _ _⟩)))
theorem Yr{fn:Func}{rc:Code}{c:VS}{post:Value→List aC→Prop}{I:gd}{w w1:World}{a:Act}{ρ:Nat→Nat}(h:W tb Tryz.prog (Fin tb fn post) ⟨c,[.code rc]⟩ Γ)(hs:iq tb w ⟨I,fun _=>False,[]⟩ Γ c a w1 ρ):
  rc.wp Tryz.prog (bodyPost Tryz.prog fn fun e w'=>∃v Δ,e=.returned v∧post v Δ∧Below w.heap.size w w'∧aD Δ (fun b=>b<w.heap.size→I b) w') a w1:=by
 have:=h.sound (w0:=w) (I0:=⟨I,fun _=>False,[]⟩) (Q:=bodyPost Tryz.prog fn fun e w'=>∃v Δ,e=.returned v∧post v Δ∧Below w.heap.size w w'∧aD Δ (fun b=>b<w.heap.size→I b) w') au (fun l a w h=>h) (fun s Γ a w' ρ hfin hs=>by
  obtain⟨v,Δ,hv,hp,qe⟩:=hfin;have hr:=Ae au hs hv;have zc:∃v' Δ',Ending.returned v=.returned v'∧post v' Δ'∧Below w.heap.size w w'∧aD Δ' (fun b=>b<w.heap.size→I b) w':=
   ⟨v,Δ,rfl,hp,hs.below.below,(qe _ _ hs.dataOK hs.facts).up (fun b _ hI hl=>(hI.1 hl).elim id (fun h=>h.elim)) (fun _ _ _=>rfl) (aj _)⟩
  exact⟨⟨hs.defers,v,hr,zc⟩,⟨hs.defers,v,hr,zc⟩⟩) (fun ch _ _ h _ _=>h.elim) rfl
 rw[dB rfl]at this;exact this a w1 ρ hs
def oG(b1:Nat):VS:=⟨[.ptr 0 0,.ptr 1 0,.val (.slice (some ⟨b1,0,none⟩) 2 2),.val (.slice (some ⟨b1,0,none⟩) 2 2),.val (.agg #[.int .u8 2,.int .u8 6,.slice (some ⟨b1,0,none⟩) 2 2])]++List.replicate 6 (.val undef),
 [some [.slice none 0 0,.slice none 0 0],some [.int .u8 2,.int .u8 6,.slice (some ⟨b1,0,none⟩) 2 2]]++List.replicate 9 none,[],[]⟩
theorem LC(b1:Nat){Γ:List aC} [h:aZ (BF ⟨some ⟨b1,0,none⟩,2,2⟩) [108,98] Γ]:
  W tb Tryz.prog (Fin tb Tryz.f40 (fun v Δ=>∃u:Sl,v=nd u ⟨none,0,0⟩∧Δ=[kW u J_])) ⟨oG b1,[.code (JJ Tryz.f40)]⟩ Γ:=by
 refine W.c1 [] (EP 0 2 2) (fun u3=>W.c1 [] (EP 1 2 24) (fun u4=>W.c1 [] (EP 3 5 16) (fun u5=>cW [] 4 [.int .u8 0,.int .u8 2,aY u3,.int .u8 1,.int .u8 2,aY u4,.int .u8 2,.int .u8 6,.slice (some ⟨b1,0,none⟩) 2 2,.int .u8 3,.int .u8 5,aY u5] au (fun B=>W.r [] (.agg #[.slice (some ⟨B,0,none⟩) 4 4,.slice none 0 0]) ⟨⟨some ⟨B,0,none⟩,4,4⟩,rfl,rfl⟩ (fun I w _ hh=>aT (vl [⟨u3,⟨0,2,List.replicate 2 0⟩⟩,⟨u4,⟨1,2,List.replicate 24 0⟩⟩,⟨⟨some ⟨b1,0,none⟩,2,2⟩,⟨2,6,[108,98]⟩⟩,⟨u5,⟨3,5,List.replicate 16 0⟩⟩] (aZ.p (k:=eT B) inferInstance hh) (fun e he=>by
  simp only[aF,aJ,b_]at he;rcases he with rfl|rfl|rfl|rfl
  ·exact ja (aZ.p (k:=BF u3) inferInstance hh)
  ·exact ja (aZ.p (k:=BF u4) inferInstance hh)
  ·exact ja (aZ.p (k:=BF ⟨some ⟨b1,0,none⟩,2,2⟩) inferInstance hh)
  ·exact ja (aZ.p (k:=BF u5) inferInstance hh))))))))
theorem Xo:aw tb Tryz.prog 40 [] Γ (fun v Δ=>∃u:Sl,v=nd u ⟨none,0,0⟩∧Δ=[kW u J_]):=by
 refine⟨⟨_,Tryz.func40,by kernel_rfl,by kernel_rfl⟩,fun I w hd hh=>?_⟩;obtain⟨w1,hw1⟩:∃w1,w1=w.alloc (.cells #[.slice none 0 0,.slice none 0 0] 25):=⟨_,rfl⟩;obtain⟨b0,hb0⟩:∃b,b=w.heap.size:=⟨_,rfl⟩;obtain⟨b1,hb1⟩:∃b,b=w1.heap.size:=⟨_,rfl⟩;obtain⟨w3,hw3⟩:∃w3,w3=w1.alloc (.cells #[.int .u8 108,.int .u8 98] 5 (2,3)):=⟨_,rfl⟩;obtain⟨b2,hb2⟩:∃b,b=w3.heap.size:=⟨_,rfl⟩;obtain⟨w4,hw4⟩:∃w4,w4=w3.alloc (.cells #[.int .u8 0,.int .u8 0,.slice none 0 0] 45):=⟨_,rfl⟩;obtain⟨w5,hw5⟩:∃w5,w5=((w4.setCell ⟨b2,0,none⟩ (.int .u8 2)).setCell ⟨b2,1,none⟩ (.int .u8 6)).setCell ⟨b2,2,none⟩ (.slice (some ⟨b1,0,none⟩) 2 2):=⟨_,rfl⟩;have hs1:w1.heap.size=w.heap.size+1:=by rw[hw1];simp
 have hs3:w3.heap.size=w.heap.size+2:=by rw[hw3,World.size_alloc,hs1]
 have hs4:w4.heap.size=w.heap.size+3:=by rw[hw4,World.size_alloc,hs3]
 have hs5:w5.heap.size=w.heap.size+3:=by rw[hw5,pZ,pZ,pZ,hs4]
 have q0:w4.heap[b2]? =some (.cells #[.int .u8 0,.int .u8 0,.slice none 0 0] 45 (0,0)):=by rw[hw4,hb2];exact ni _ _
 have q1:=jt (o:=0) (v:=.int .u8 2) q0;have q2:=jt (o:=1) (v:=.int .u8 6) q1;have q3:=jt (o:=2) (v:=.slice (some ⟨b1,0,none⟩) 2 2) q2;rw[←hw5]at q3;have Xn:∀k,k≠b2→w5.heap[k]? =w4.heap[k]? :=fun k hk=>by rw[hw5,eU hk,eU hk,eU hk]
 have g1:w5.heap[b1]? =some (.cells #[.int .u8 108,.int .u8 98] 5 (2,3)):=by
  rw[Xn b1 (by omega),hw4,jH,hw3,hb1];exact ni _ _
 have g0:w5.heap[b0]? =some (.cells #[.slice none 0 0,.slice none 0 0] 25 (0,0)):=by
  rw[Xn b0 (by omega),hw4,jH,hw3,jH,hw1,hb0];exact ni _ _
 have hold:∀k,k<w.heap.size→w5.heap[k]? =w.heap[k]? :=fun k hk=>by
  rw[Xn k (by omega),hw4,jH,hw3,jH,hw1,jH (h:=hk)]
 have key:=Yr (I:=I) (w:=w) (w1:=w5) (a:={tmps:= #[fu b0,fu b2,.slice (some ⟨b1,0,none⟩) 2 2,.slice (some ⟨b1,0,none⟩) 2 2,.agg #[.int .u8 2,.int .u8 6,.slice (some ⟨b1,0,none⟩) 2 2],undef,undef,undef,undef,undef,undef],defers:=[]})
  (ρ:=fun t=>if t=0 then b0 else b2) (LC b1 (Γ:=BF ⟨some ⟨b1,0,none⟩,2,2⟩ [108,98]::Γ)) ?_
 ·refine calls_of_wp Tryz.func40 rfl (wp_seq (wp_region ?_));show wpOps Tryz.prog _ _ [0] _ _;refine tK (v:=fu b0) (w':=w1) rfl rfl (by rw[hb0,hw1];kernel_rfl) (wp_seq (wp_region ?_));show wpOps Tryz.prog _ _ [0,1,2,3,4] _ _;refine tK (v:=.slice (some ⟨b1,0,none⟩) 2 2) (w':=w1.alloc (.cells #[.int .u8 108,.int .u8 98] 5)) rfl rfl (by rw[hb1];kernel_rfl) (tK (v:=.slice (some ⟨b1,0,none⟩) 2 2) (w':=w3) rfl rfl (by
   have hcv:=Joins.run_convert_bytes_const_at (P:=Tryz.prog) w1 28 5 #[.int .u8 108,.int .u8 98] 2 2 b1 hb1 Tryz.underlying28 Tryz.underlying5;simp[execOp,go_sem,hcv,hw3]) ?_)
  refine tK (v:=.agg #[.int .u8 2,.int .u8 6,.slice (some ⟨b1,0,none⟩) 2 2]) (w':=w3) rfl rfl (by kernel_rfl) (tK (v:=fu b2) (w':=w4) rfl rfl (by rw[hb2,hw4];kernel_rfl) (Su (w':=w5) rfl rfl (by
   have c0:=oN (o:=0) q0;have z0:=uU (o:=0) q0;have c1:=oN (o:=1) q1;have z1:=uU (o:=1) q1;have c2:=oN (o:=2) q2;have z2:=uU (o:=2) q2;rw[hw5];simp[execOp,go_sem,storeCells,c0,z0,c1,z1,c2,z2]) ?_))
  refine Eq.mp ?_ key;kernel_rfl
 ·have hbx:∀t cs,(oG b1).boxes[t]? =some (some cs)→(t=0∧cs=[.slice none 0 0,.slice none 0 0])∨(t=1∧cs=[.int .u8 2,.int .u8 6,.slice (some ⟨b1,0,none⟩) 2 2]):=fun t cs ht=>by
   match t,ht with
   |0,ht=>exact .inl ⟨rfl,by injection ht with ht;injection ht with ht;exact ht.symm⟩
   |1,ht=>exact .inr ⟨rfl,by injection ht with ht;injection ht with ht;exact ht.symm⟩
   |t+2,ht=>
    exfalso
    have:(List.replicate 9 (none:Option (List Value)))[t]? =some (some cs):=ht;rw[c_]at this;split at this<;>simp at this
  refine⟨rfl,rfl,fun i sv hi=>?_,?_,fun t cs ht=>?_,fun t u cs cs' ht hu e=>?_,fun i t off hi=>?_,hd,?_,fun b cs hc=>by simp[oG]at hc,fun b cs hc=>by simp[oG]at hc,fun b cs hc=>by simp[oG]at hc,by simp[oG],fun b m hm=>by simp[oG]at hm,fun b m hm=>by simp[oG]at hm,by simp[oG]⟩
  ·match i,hi with
   |0,hi=>injection hi with hi;subst hi;rfl
   |1,hi=>injection hi with hi;subst hi;rfl
   |2,hi=>injection hi with hi;subst hi;rfl
   |3,hi=>injection hi with hi;subst hi;rfl
   |4,hi=>injection hi with hi;subst hi;rfl
   |5,hi=>injection hi with hi;subst hi;rfl
   |6,hi=>injection hi with hi;subst hi;rfl
   |7,hi=>injection hi with hi;subst hi;rfl
   |8,hi=>injection hi with hi;subst hi;rfl
   |9,hi=>injection hi with hi;subst hi;rfl
   |10,hi=>injection hi with hi;subst hi;rfl
   |i+11,hi=>exact absurd hi (by simp[oG])
  ·exact⟨by rw[hw5,hw4,hw3,hw1];rfl,by rw[hw5,hw4,hw3,hw1];rfl,by rw[hw5,hw4,hw3,hw1];rfl,by omega,fun k hk _=>hold k hk⟩
  ·rcases hbx t cs ht with⟨rfl,rfl⟩|⟨rfl,rfl⟩
   ·exact⟨by simp only[fj];omega,_,(by decide+kernel:tb.dat 25=false),g0⟩
   ·exact⟨by simp only[Nat.one_ne_zero,dZ];omega,_,(by decide+kernel:tb.dat 45=false),q3⟩
  ·rcases hbx t cs ht with⟨rfl,_⟩|⟨rfl,_⟩<;>rcases hbx u cs' hu with⟨rfl,_⟩|⟨rfl,_⟩
   ·rfl
   ·simp only[fj,Nat.one_ne_zero,dZ]at e;omega
   ·simp only[fj,Nat.one_ne_zero,dZ]at e;omega
   ·rfl
  ·match i,hi with
   |0,hi=>injection hi with hi;injection hi with h1 h2;subst h1;exact⟨_,rfl⟩
   |1,hi=>injection hi with hi;injection hi with h1 h2;subst h1;exact⟨_,rfl⟩
   |2,hi=>simp[oG]at hi
   |3,hi=>simp[oG]at hi
   |4,hi=>simp[oG]at hi
   |i+5,hi=>
    exfalso
    have:(List.replicate 6 (SV.val undef))[i]? =some (.ptr t off):=hi;rw[c_]at this;split at this<;>simp at this
  ·have hI:∀b,(b<w.heap.size∧I b)∨b=b1→Vx w ⟨I,fun _=>False,[]⟩ (fun t=>if t=0 then b0 else b2) (oG b1) b:=fun b hb=>by
    refine⟨fun hl=>.inl ?_,fun t cs ht e=>?_,fun cs hc=>by simp[oG]at hc,fun m hm=>by simp[oG]at hm⟩
    ·rcases hb with h|h
     ·exact h.2
     ·omega
    ·rcases hbx t cs ht with⟨rfl,_⟩|⟨rfl,_⟩
     ·simp only[fj]at e;rcases hb with h|h<;>omega
     ·simp only[Nat.one_ne_zero,dZ]at e;rcases hb with h|h<;>omega
   refine aD.cons ⟨rfl,⟨aj _,by show 2≤maxLen;decide⟩,fun z hz=>?_,fun _=>⟨b1,0,rfl,hI b1 (.inr rfl),fun i v hv=>?_⟩⟩ (hh.up (fun b hb h=>hI b (.inl ⟨hb,h⟩)) (fun b hb _=>hold b hb) (by omega))
   ·simp only[aF,aJ,b_]at hz;rcases hz with rfl|rfl<;>decide
   ·rw[bU];simp only[World.cell?,g1,lF,gN,dZ];rw[←eV];exact hv
theorem Tf(c:Sl){cs:List Ce} [h:aZ (lL c) cs Γ]:aw tb Tryz.prog 25 [aY c] Γ (fun v Δ=>∃u:Sl,v=nd u c∧Δ=[yX u c ⟨J_,cs⟩]):=by
 refine aw.of_W au Tryz.func25 rfl (W.c1 [] Xo (fun u=>W.r [] (.agg #[aY u,aY c]) ⟨u,rfl,rfl⟩ (fun I w _ hh=>aT ⟨hh.h0',h.p (fun F hF=>hh F (by simp[hF]))⟩)))
end
theorem uT(l:List Dp):(l.flatMap vF).length=2*l.length:=by
 induction l with
 |nil=>rfl
 |cons d l ih=>
  rw[bB,aA,ih];simp only[vF,aB,a_];omega
theorem Ej:∀{l:List Dp} {i:Nat} {x:Dp},l[i]? =some x→∀(j:Nat) (v:Value),(ed x)[j]? =some v→(l.flatMap ed)[i*2+j]? =some v
 | [],i,x,h,j,v,hv=>by simp at h
 |d::l,0,x,h,j,v,hv=>by
  simp only[eu,aq]at h;subst h;rw[bB,qD,bU,cZ (List.getElem?_eq_some_iff.1 hv).1];exact hv
 |d::l,i+1,x,h,j,v,hv=>by
  rw[bB,ec (by simp;omega)];have:=Ej (l:=l) (i:=i) h j v hv;rw[←this];congr 1;simp;omega
theorem zO{T:Tb}{Γ:List aC}(b off:Nat){l:List Dp} [h:aZ (RA (some ⟨b,off,none⟩)) (l.flatMap ed) Γ]{i:Nat}{x:Dp}(hx:l[i]? =some x)(j:Nat){v:Value}(hv:(ed x)[j]? =some v):∀I w,bj T I w→aD Γ I w→w.cell? ⟨b,off+i*2+j,none⟩=some v:=fun I w _ hh=>by
 rw[g_];exact RA.cell (h.p hh) (Ej hx j v hv)
section
variable{Γ:List aC}
theorem PN(a k:Int)(po:Option Addr)(pn pc:Nat){ps:List Dp} [h:aZ (RA po) (ps.flatMap ed) Γ](hn:pn=ps.length)(hl:ps.length≤1000):
  aw tb Tryz.prog 20 [.int .i64 a,.int .i64 k,.slice po pn pc] Γ (fun v Δ=>∃u:Sl,v=nd u ⟨none,0,0⟩∧Δ=[oE u ⟨none,0,0⟩ (jF a k ps)]):=by
 refine aw.of_W au Tryz.func20 rfl (gY [] [7,8] (fun q:T9=>[(7,q.v),(8,.int .i64 q.z)]) (fun _=>[]) (fun q=>q.O) (fun _=>[RA po (ps.flatMap ed)]) (fun q=>q.z=(q.i:Int)∧q.i≤ps.length∧cH 1 q.O q.v (2*q.i) ((ps.take q.i).flatMap ed)) (fun q=>ps.length-q.i) ⟨0,0,.slice none 0 0,[]⟩ ⟨rfl,aH _,cH.nil 1⟩ (eC eK eE) ?_);rintro⟨i,z,v,O⟩ K ⟨hz,hi,hg⟩ close;simp only at hz hi hg;by_cases hlt:i<ps.length
 ·obtain⟨x,hx⟩:∃x,ps[i]? =some x:=⟨_,ah hlt⟩;refine IC po (xs:=ps.flatMap ed) (by kernel_rfl) (fun e=>by
   have:=Ej hx 0 _ rfl;rw[e]at this;simp at this) ?_
  rintro b off rfl;refine bh [] 12 (decide (z<(pn:Int))) (ar (by omega)) (bI [12] 2 b off pn pc .i64 i z hz au (by omega) (bN [] 0 b (off+i*2) au (cX [] 1 b (off+i*2+0) (.int .i64 x.x) au (zO b off hx 0 rfl) (bI [] 2 b off pn pc .i64 i z hz au (by omega) (bN [] 1 b (off+i*2) au (cX [] 1 b (off+i*2+1) (.int .i64 x.y) au (zO b off hx 1 rfl) (cW [] 2 [.int .i64 x.x,.int .i64 x.y] au (fun B=>W.app [] O [] O [] 1 8 (2*i) 2 v (.slice (some ⟨B,0,none⟩) 2 2) ((ps.take i).flatMap ed) [.int .i64 x.x,.int .i64 x.y] au hg (cg B O 2 1 rfl 2) (Gz (l:=[x.x,x.y])) (fun v' O' hg'=>close [] _ _ ⟨i+1,IntKind.i64.wrap (z+1),v',O'⟩ (by kernel_rfl) (by simp only[az,ai];kernel_rfl) ⟨by simp only[af];omega,by simp only;omega,cH.cast ?_ (by simp only;omega) hg'⟩ (by simp only;omega) (eC eK eE))))))))));simp only;rw[yS ed hx]
 refine aO [] 12 (decide (z<(pn:Int))) (ak (by omega)) ?_;obtain rfl:i=ps.length:=by omega
 rw[aR (aj _)]at hg;by_cases h0:0<ps.length
 ·obtain⟨x,hx⟩:∃x,ps[0]? =some x:=⟨_,ah h0⟩;have hc:jV ps=ps++[x]:=by
   unfold jV;cases ps with
   |nil=>simp at h0
   |cons d l=>
    simp only[eu,aq]at hx;subst hx;rfl
  have AW:(jV ps).length=ps.length+1:=by rw[hc];simp
  have hcd:(jV ps).flatMap ed=ps.flatMap ed++[.int .i64 x.x,.int .i64 x.y]:=by rw[hc,br];simp
  refine IC po (xs:=ps.flatMap ed) (by kernel_rfl) (fun e=>by
   have:=Ej hx 0 _ rfl;rw[e]at this;simp at this) ?_
  rintro b off rfl;refine bh [12] 30 (decide ((pn:Int)>0)) (ar (by omega)) (bI [30] 2 b off pn pc .i64 0 0 rfl au (by omega) (bN [] 0 b (off+0*2) au (cX [] 1 b (off+0*2+0) (.int .i64 x.x) au (zO b off hx 0 rfl) (bI [] 2 b off pn pc .i64 0 0 rfl au (by omega) (bN [] 1 b (off+0*2) au (cX [] 1 b (off+0*2+1) (.int .i64 x.y) au (zO b off hx 1 rfl) (cW [] 2 [.int .i64 x.x,.int .i64 x.y] au (fun B0=>W.app [] O [] O [] 1 8 (2*ps.length) 2 v (.slice (some ⟨B0,0,none⟩) 2 2) (ps.flatMap ed) [.int .i64 x.x,.int .i64 x.y] au hg (cg B0 O 2 1 rfl 2) (Gz (l:=[x.x,x.y])) (fun v' O' hg'=>?_)))))))));have hg2:=hg';refine l8 (by simp only[az,ai];kernel_rfl) hg2 (fun ao c' hv hc'=>?_);subst hv;have hcm:c'≤maxLen:=pz hg2;refine W.c0 [] (iV 8 0 ⟨none,0,0⟩) (cW [] 1 [.int .i64 a] au (fun b15=>jT [] (Γ':=[NL ⟨some ⟨b15,0,none⟩,1,1⟩ [a]]) (fun I w _ hh=>aT (yz (l:=[a]) hh.h0')) (r9 ⟨some ⟨b15,0,none⟩,1,1⟩ (l:=[a])) ?_));rintro _ _ ⟨u16,rfl,rfl⟩;refine W.c0 [] (iV 13 2 u16) (cW [] 1 [.int .i64 k] au (fun b18=>jT [] (Γ':=[NL ⟨some ⟨b18,0,none⟩,1,1⟩ [k]]) (fun I w _ hh=>aT (yz (l:=[k]) hh.h0')) (r9 ⟨some ⟨b18,0,none⟩,1,1⟩ (l:=[k])) ?_));rintro _ _ ⟨TR,rfl,rfl⟩
  refine W.c0 [] (iV 14 2 TR) (jT [] (Γ':=[NL ⟨ao,(2*ps.length+2),c'⟩ ((jV ps).flatMap vF)]) (fun I w _ hh=>aT ⟨by have e:=uT (jV ps);rw[AW]at e;simp only;omega,⟨hc',hcm⟩,by rw[y7,hcd];exact aZ.p (k:=RA ao) inferInstance hh⟩) (vc ⟨ao,(2*ps.length+2),c'⟩ (l:=(jV ps).flatMap vF) (by rw[uT,AW];omega)) ?_);rintro _ _ ⟨TS,rfl,rfl⟩;refine W.c0 [] (iV 16 3 TS) (cW [] 4 [.int .u8 8,.int .u8 0,.slice none 0 0,.int .u8 13,.int .u8 2,aY u16,.int .u8 14,.int .u8 2,aY TR,.int .u8 16,.int .u8 3,aY TS] au (fun B=>W.r [] (.agg #[.slice (some ⟨B,0,none⟩) 4 4,.slice none 0 0]) ⟨⟨some ⟨B,0,none⟩,4,4⟩,rfl,rfl⟩ (fun I w _ hh=>aT ⟨vl [⟨⟨none,0,0⟩,⟨8,0,[]⟩⟩,⟨u16,⟨13,2,[a].flatMap sB⟩⟩,⟨TR,⟨14,2,[k].flatMap sB⟩⟩,⟨TS,⟨16,3,((jV ps).flatMap vF).flatMap lB⟩⟩] (aZ.p (k:=eT B) inferInstance hh) (fun e he=>by
   simp only[aF,aJ,b_]at he;rcases he with rfl|rfl|rfl|rfl
   ·exact ja (rL _ _ _)
   ·exact ja (aZ.p (k:=BF u16) inferInstance hh)
   ·exact ja (aZ.p (k:=BF TR) inferInstance hh)
   ·exact ja (aZ.p (k:=BF TS) inferInstance hh)),Ag _ _⟩)))
 ·have hps:ps=[]:=aL (by omega);have AW:(jV ps).length=ps.length:=by rw[hps];rfl
  have hcd:(jV ps).flatMap ed=ps.flatMap ed:=by rw[hps];rfl
  refine aO [12] 30 (decide ((pn:Int)>0)) (ak (by omega)) ?_;have hg2:=hg;refine l8 (by simp only[az,ai];kernel_rfl) hg2 (fun ao c' hv hc'=>?_);subst hv;have hcm:c'≤maxLen:=pz hg2;refine W.c0 [30] (iV 8 0 ⟨none,0,0⟩) (cW [] 1 [.int .i64 a] au (fun b15=>jT [] (Γ':=[NL ⟨some ⟨b15,0,none⟩,1,1⟩ [a]]) (fun I w _ hh=>aT (yz (l:=[a]) hh.h0')) (r9 ⟨some ⟨b15,0,none⟩,1,1⟩ (l:=[a])) ?_));rintro _ _ ⟨u16,rfl,rfl⟩;refine W.c0 [] (iV 13 2 u16) (cW [] 1 [.int .i64 k] au (fun b18=>jT [] (Γ':=[NL ⟨some ⟨b18,0,none⟩,1,1⟩ [k]]) (fun I w _ hh=>aT (yz (l:=[k]) hh.h0')) (r9 ⟨some ⟨b18,0,none⟩,1,1⟩ (l:=[k])) ?_));rintro _ _ ⟨TR,rfl,rfl⟩;refine W.c0 [] (iV 14 2 TR) (jT [] (Γ':=[NL ⟨ao,(2*ps.length),c'⟩ ((jV ps).flatMap vF)]) (fun I w _ hh=>aT ⟨by have e:=uT (jV ps);rw[AW]at e;simp only;omega,⟨hc',hcm⟩,by rw[y7,hcd];exact aZ.p (k:=RA ao) inferInstance hh⟩) (vc ⟨ao,(2*ps.length),c'⟩ (l:=(jV ps).flatMap vF) (by rw[uT,AW];omega)) ?_);rintro _ _ ⟨TS,rfl,rfl⟩;refine W.c0 [] (iV 16 3 TS) (cW [] 4 [.int .u8 8,.int .u8 0,.slice none 0 0,.int .u8 13,.int .u8 2,aY u16,.int .u8 14,.int .u8 2,aY TR,.int .u8 16,.int .u8 3,aY TS] au (fun B=>W.r [] (.agg #[.slice (some ⟨B,0,none⟩) 4 4,.slice none 0 0]) ⟨⟨some ⟨B,0,none⟩,4,4⟩,rfl,rfl⟩ (fun I w _ hh=>aT ⟨vl [⟨⟨none,0,0⟩,⟨8,0,[]⟩⟩,⟨u16,⟨13,2,[a].flatMap sB⟩⟩,⟨TR,⟨14,2,[k].flatMap sB⟩⟩,⟨TS,⟨16,3,((jV ps).flatMap vF).flatMap lB⟩⟩] (aZ.p (k:=eT B) inferInstance hh) (fun e he=>by
   simp only[aF,aJ,b_]at he;rcases he with rfl|rfl|rfl|rfl
   ·exact ja (rL _ _ _)
   ·exact ja (aZ.p (k:=BF u16) inferInstance hh)
   ·exact ja (aZ.p (k:=BF TR) inferInstance hh)
   ·exact ja (aZ.p (k:=BF TS) inferInstance hh)),Ag _ _⟩)))
end
def RQ:ByteArray:=⟨#[97]⟩
def Ds:ByteArray:=⟨#[116,111,112]⟩
def kT:Im:=⟨[⟨10,0,[]⟩,⟨18,6,j8 RQ⟩,⟨26,1,[0,0]⟩,⟨28,5,[66,90,0,0,0,0,0,0]⟩,⟨16,3,[100,0].flatMap lB⟩],[]⟩
def ng:Li:=⟨J_,[k9 RQ [jF 1 0 [⟨0,0⟩,⟨10,0⟩,⟨10,10⟩,⟨0,10⟩]],k9 Ds [kT]]⟩
theorem GF:lS ng=true:=by decide+kernel
theorem Jc:lost ng.c=false:=by decide+kernel
theorem Bc:dep ng.c 64 0=some 1:=by decide+kernel
theorem Bd:dep ng.c 64 1=some 2:=by decide+kernel
theorem Jb:tF ng.c=false:=by decide+kernel
theorem GD:sP ng.c=1:=by decide+kernel
def wk:List Dp:=[⟨100,0⟩,⟨100,10⟩,⟨90,10⟩,⟨90,0⟩]
theorem Me:zH ng.c=.ok [⟨1,0,wk⟩]:=by kernel_rfl
theorem Be(n:Int)(h0:0≤n:=by decide)(h1:n≤100000:=by decide):mL ng n=if 1>n then .error 27 else .ok [⟨1,0,wk⟩]:=by
 have hl:ng.c.length=2:=rfl;unfold mL;rw[if_neg (by omega),if_neg (by rw[GF];simp)];unfold pt;rw[Jc,if_neg (by simp),if_neg (by
  rintro⟨c,hc,h⟩;rw[hl]at hc;have:c=0∨c=1:=by omega
  rcases this with rfl|rfl
  ·exact h 1 ⟨64,Bc⟩
  ·exact h 2 ⟨64,Bd⟩),if_neg (by
  rintro(h|⟨c,hc,h⟩)
  ·rw[Jb]at h;simp at h
  ·rw[hl]at hc;have:c=0∨c=1:=by omega
   rcases this with rfl|rfl
   ·rw[Bc]at h;simp at h
   ·rw[Bd]at h;simp at h),GD,Me]
def Pp(x y:Int):On:=⟨false,0,1,(x:Rat),0,(y:Rat),0⟩
theorem SZ(x y:Int):(Pp x y).then Fm=Pp x y:=by
 have hm:Fm.mag=1:=by rfl
 have hm':(Pp x y).mag=1:=by rfl
 unfold On.then
 rw[hm,hm'];unfold On.u0 On.u1 On.v0 On.v1 tm1 tm2 On.sg;rw[hm];simp[Pp,Fm,pc,MD,ps,MJ]
 try grind
theorem lQ{α:Type}(f:α→LR)(a:α)(l:List α):gl f (a::l)=match f a with
  | .error e=>.error e
  | .ok s=>match gl f l with
   | .error e=>.error e
   | .ok s'=>.ok (s++s'):=rfl
theorem Ca{α:Type}(f:α→LR):∀a b:List α,gl f (a++b)=match gl f a with
  | .error e=>.error e
  | .ok s=>match gl f b with
   | .error e=>.error e
   | .ok s'=>.ok (s++s')
 | [],b=>by
  simp only[az,gl];cases gl f b<;>rfl
 |x::a,b=>by
  rw[dA,lQ,lQ,Ca f a b];cases f x with
  |error e=>rfl
  |ok s=>
   simp only;cases gl f a with
   |error e=>rfl
   |ok s1=>
    simp only;cases gl f b with
    |error e=>rfl
    |ok s2=>simp
theorem DI{α β:Type}(f:β→LR)(g:α→List β):∀l:List α,gl (fun a=>gl f (g a)) l=gl f (l.flatMap g)
 | []=>rfl
 |a::l=>by
  rw[bB,Ca,←DI f g l];rfl
theorem xQ{α:Type}(f:α→LR)(a:α):gl f [a]=f a:=by
 rw[lQ];cases f a with
 |error e=>rfl
 |ok s=>simp[gl]
def HR(S:Sn)(q:Int):Sn:=S.add ⟨S.m,S.n,(q:Rat),0,0,0⟩
theorem G5(S:Sn)(hm:0≤S.m)(hn:0≤S.n)(q:Int):∃e,(HR S q).nr=S.nr+q+e∧(-1≤e∧e≤1)∧(q % 2=0→e=0):=by
 by_cases hq:q % 2=0
 ·refine⟨0,?_,by omega,fun _=>rfl⟩;have:=Iz S hm hn (q/2);rw[show q/2+q/2=q by omega]at this;unfold HR;omega
 ·obtain⟨g1,g2⟩:=S.half.fl_spec hm hn;have e:∀f:Int,(HR S q).half.lessq (f+q)=S.half.lessq f:=fun f=>by
   refine Sn.ext' rfl rfl ?_ ?_ ?_ ?_ <;>simp only[HR,Sn.add,Sn.lessq,Sn.half,Sn.up,jr]<;>grind
  have hf:(HR S q).half.fl=S.half.fl+q:=wK (HR S q).half hm hn (by rw[e];exact g1) (by
   rw[show S.half.fl+q+1=(S.half.fl+1)+q by omega,e];exact g2)
  have h2:(HR S q).nr=S.half.fl+q∨(HR S q).nr=S.half.fl+q-1:=by
   unfold Sn.nr;rw[hf];split
   ·exact .inr rfl
   ·exact .inl rfl
  have h3:S.nr=S.half.fl∨S.nr=S.half.fl-1:=by
   unfold Sn.nr;split
   ·exact .inr rfl
   ·exact .inl rfl
  exact⟨(HR S q).nr-S.nr-q,by omega,by omega,fun h=>absurd h hq⟩
def uw{α β:Type}(R:α→β→Prop):List α→List β→Prop
 | [],[]=>True
 |a::l,b::m=>R a b∧uw R l m
 |_,_=>False
theorem uw.app{α β:Type}{R:α→β→Prop}:∀{a c:List α} {b d:List β},uw R a b→uw R c d→uw R (a++c) (b++d)
 | [],c,[],d,_,h=>h
 | [],c,_::_,d,h,_=>h.elim
 |_::_,c,[],d,h,_=>h.elim
 |x::a,c,y::b,d,h,g=>⟨h.1,uw.app h.2 g⟩
theorem uw.len{α β:Type}{R:α→β→Prop}:∀{a:List α} {b:List β},uw R a b→a.length=b.length
 | [],[],_=>rfl
 | [],_::_,h=>h.elim
 |_::_,[],h=>h.elim
 |x::a,y::b,h=>by rw[aB,aB,uw.len h.2]
theorem uw.at{α β:Type}{R:α→β→Prop}:∀{a:List α} {b:List β} {i:Nat} {x:α} {y:β},uw R a b→a[i]? =some x→b[i]? =some y→R x y
 | [],_,i,x,y,_,h,_=>by simp at h
 |_::_,[],i,x,y,h,_,_=>h.elim
 |p::a,q::b,0,x,y,h,g1,g2=>by
  simp only[eu,aq]at g1 g2;subst g1 g2;exact h.1
 |p::a,q::b,i+1,x,y,h,g1,g2=>h.2.at (i:=i) (by simpa using g1) (by simpa using g2)
def ptR(X Y:Int)(p q:Dp):Prop:=(tN p.x∧tN p.y)∧∃e f:Int,q.x=p.x+X+e∧q.y=p.y+Y+f∧(-1≤e∧e≤1)∧(-1≤f∧f≤1)∧(X % 2=0→e=0)∧(Y % 2=0→f=0)
def shR(X Y:Int)(s s':Sh):Prop:=s'.a=s.a∧s'.k=s.k∧uw (ptR X Y) s.p s'.p
def yY(X Y:Int)(r r':LR):Prop:=∀s,r=.ok s→r'=.error 26∨∃s',r'=.ok s'∧uw (shR X Y) s s'
theorem nj(X Y:Int):yY X Y (.ok []) (.ok []):=fun s h=>by
 injection h with h;subst h;exact .inr ⟨[],rfl,trivial⟩
theorem uD{α:Type}{X Y:Int}{f g:α→LR}:∀{l:List α},(∀a∈l,yY X Y (f a) (g a))→yY X Y (gl f l) (gl g l)
 | [],_=>nj X Y
 |a::l,h=>fun s hs=>by
  rw[lQ]at hs⊢;cases hf:f a with
  |error e=>rw[hf]at hs;simp at hs
  |ok s1=>
   rw[hf]at hs;simp only at hs;cases hr:gl f l with
   |error e=>rw[hr]at hs;simp at hs
   |ok s2=>
    rw[hr]at hs;simp only[iu]at hs;subst hs;rcases h a (by simp) s1 hf with h1|⟨t1,h1,h2⟩
    ·rw[h1];exact .inl rfl
    ·rw[h1];simp only;rcases uD (fun b hb=>h b (by simp[hb])) s2 hr with h3|⟨t2,h3,h4⟩
     ·rw[h3];exact .inl rfl
     ·rw[h3];exact .inr ⟨t1++t2,rfl,h2.app h4⟩
def RM(X Y:Int)(P:Sn×Sn):Sn×Sn:=(HR P.1 X,HR P.2 Y)
def Qo(P:Sn×Sn):Prop:=(0≤P.1.m∧0≤P.1.n)∧0≤P.2.m∧0≤P.2.n
theorem Gj{X Y:Int}:∀{l:List (Sn×Sn)} {q:List Dp},(∀P∈l,Qo P)→gS l=.ok q→gS (l.map (RM X Y))=.error 26∨∃q',gS (l.map (RM X Y))=.ok q'∧uw (ptR X Y) q q'
 | [],q,_,h=>by
  simp only[gS,iu]at h;subst h;exact .inr ⟨[],rfl,trivial⟩
 |P::l,q,hp,h=>by
  unfold gS at h;split at h
  ·rename_i acI;cases hr:gS l with
   |error e=>rw[hr]at h;simp at h
   |ok r=>
    rw[hr]at h;simp only[iu]at h;subst h;have h0:=hp P (by simp);obtain⟨e,h1,h2,h3⟩:=G5 P.1 h0.1.1 h0.1.2 X;obtain⟨f,g1,g2,g3⟩:=G5 P.2 h0.2.1 h0.2.2 Y;rw[bQ];unfold gS;by_cases hin:tN (RM X Y P).1.nr∧tN (RM X Y P).2.nr
    ·rw[if_pos hin];rcases Gj (X:=X) (Y:=Y) (fun Q hQ=>hp Q (by simp[hQ])) hr with h4|⟨q',h4,h5⟩
     ·rw[h4];exact .inl rfl
     ·rw[h4];exact .inr ⟨_,rfl,⟨acI,e,f,h1,g1,h2,g2,h3,g3⟩,h5⟩
    ·rw[if_neg hin];exact .inl rfl
  ·simp at h
theorem DJ{X Y:Int}{x:Im}{l:List (Sn×Sn)}(hp:∀P∈l,Qo P):yY X Y (iU x l) (iU x (l.map (RM X Y))):=fun s hs=>by
 unfold iU at hs⊢;cases hg:gS l with
 |error e=>rw[hg]at hs;simp at hs
 |ok q=>
  rw[hg]at hs;simp only[iu]at hs;subst hs;rcases Gj (X:=X) (Y:=Y) hp hg with h|⟨q',h,h2⟩
  ·rw[h];exact .inl rfl
  ·rw[h];exact .inr ⟨_,rfl,⟨rfl,rfl,h2⟩,trivial⟩
structure xW(X Y:Int)(V U:On):Prop where
 f:U.f=V.f
 o:U.o=V.o
 g:U.mag=V.mag
 a:U.a=V.a+(X:Rat)
 b:U.b=V.b
 c:U.c=V.c+(Y:Rat)
 d:U.d=V.d
theorem xW.u0{X Y:Int}{V U:On}(h:xW X Y V U)(x y z w:Rat):U.u0 x y z w=V.u0 x y z w+X:=by
 unfold On.u0 On.sg;rw[h.f,h.o,h.g,h.a];grind
theorem xW.u1{X Y:Int}{V U:On}(h:xW X Y V U)(x y z w:Rat):U.u1 x y z w=V.u1 x y z w:=by
 unfold On.u1 On.sg;rw[h.f,h.o,h.g,h.b]
theorem xW.v0{X Y:Int}{V U:On}(h:xW X Y V U)(x y z w:Rat):U.v0 x y z w=V.v0 x y z w+Y:=by
 unfold On.v0 On.sg;rw[h.f,h.o,h.g,h.c];grind
theorem xW.v1{X Y:Int}{V U:On}(h:xW X Y V U)(x y z w:Rat):U.v1 x y z w=V.v1 x y z w:=by
 unfold On.v1 On.sg;rw[h.f,h.o,h.g,h.d]
theorem xW.thn{X Y:Int}{V U:On}(h:xW X Y V U)(A:On):xW X Y (A.then V) (A.then U):=by
 refine⟨?_,?_,?_,?_,?_,?_,?_⟩
 ·unfold On.then;rw[h.f]
 ·unfold On.then;rw[h.f,h.o]
 ·unfold On.then;rw[h.g];rfl
 ·exact h.u0 _ _ _ _
 ·exact h.u1 _ _ _ _
 ·exact h.v0 _ _ _ _
 ·exact h.v1 _ _ _ _
theorem xW.r2_sh{X Y:Int}{V U:On}(h:xW X Y V U)(x y:Rat)(q:Int):r2 (x+q) y=HR (r2 x y) q:=by
 refine Sn.ext' rfl rfl ?_ ?_ ?_ ?_ <;>simp only[HR,Sn.add,r2]<;>grind
theorem xW.at'{X Y:Int}{V U:On}(h:xW X Y V U)(p:Dp):Ea U p=RM X Y (Ea V p):=by
 unfold Ea RM On.X On.Y;rw[h.u0,h.u1,h.v0,h.v1,h.r2_sh,h.r2_sh]
theorem xW.farX{X Y:Int}{V U:On}(h:xW X Y V U)(A B:Sn):U.farX A B=HR (V.farX A B) X:=by
 unfold On.farX On.farP;rw[h.f,h.o,h.g,h.a,h.b];refine Sn.ext' rfl rfl ?_ ?_ ?_ ?_ <;>simp only[HR,Sn.add]<;>grind
theorem xW.farY{X Y:Int}{V U:On}(h:xW X Y V U)(A B:Sn):U.farY A B=HR (V.farY A B) Y:=by
 unfold On.farY On.farP;rw[h.f,h.o,h.g,h.c,h.d];refine Sn.ext' rfl rfl ?_ ?_ ?_ ?_ <;>simp only[HR,Sn.add]<;>grind
theorem xW.far{X Y:Int}{V U:On}(h:xW X Y V U)(P:Sn×Sn):farP U P=(farP V P).map (RM X Y):=by
 unfold farP;rw[h.o,h.b,h.d];split
 ·rw[h.u0,h.u1,h.v0,h.v1,h.r2_sh,h.r2_sh];rfl
 ·split
  ·rfl
  ·rw[h.farX,h.farY];rfl
theorem xW.farL{X Y:Int}{V U:On}(h:xW X Y V U):∀l:List (Sn×Sn),farL U l=((Go.Proofs.YtgaaopjagcaojaaGreat.farL V l).1.map (RM X Y),(Go.Proofs.YtgaaopjagcaojaaGreat.farL V l).2)
 | []=>rfl
 |P::l=>by
  unfold Go.Proofs.YtgaaopjagcaojaaGreat.farL;rw[h.far];cases farP V P with
  |none=>rfl
  |some q=>
   simp only[di,bQ];rw[xW.farL h l]
theorem QO{m n:Int}:∀(k:Nat) {A B:Sn},A.m=m∧A.n=n→B.m=m∧B.n=n→((Af k A B).1.m=m∧(Af k A B).1.n=n)∧(Af k A B).2.m=m∧(Af k A B).2.n=n
 |0,A,B,h,g=>⟨h,g⟩
 |k+1,A,B,h,g=>QO k (A:=B.neg) (B:=A) g h
theorem Sp{V:On}{P q:Sn×Sn}(hP:Lu P)(hq:farP V P=some q):Qo q:=by
 unfold farP at hq;split at hq
 ·injection hq with hq;subst hq;exact⟨⟨show(0:Int)≤2 by decide,show(0:Int)≤0 by decide⟩,show(0:Int)≤2 by decide,show(0:Int)≤0 by decide⟩
 ·split at hq
  ·simp at hq
  ·injection hq with hq;subst hq;have hm:∀(A B:Sn) (g:Rat),B.m=A.m→B.n=A.n→((A.mul ⟨A.m,A.n,g,0,0,0⟩).m=A.m∧(A.mul ⟨A.m,A.n,g,0,0,0⟩).n=A.n):=fun A B g _ _=>⟨rfl,rfl⟩;have:=QO (m:=P.1.m) (n:=P.1.n) (V.o/2).toNat (A:=P.1.mul ⟨P.1.m,P.1.n,V.mag,0,0,0⟩) (B:=if V.f then(P.2.mul ⟨P.1.m,P.1.n,V.mag,0,0,0⟩).neg else P.2.mul ⟨P.1.m,P.1.n,V.mag,0,0,0⟩) ⟨rfl,rfl⟩ (by
    split
    ·exact⟨hP.em,hP.en⟩
    ·exact⟨hP.em,hP.en⟩)
   have h0:=hP.m0;have h1:=hP.n0;refine⟨⟨?_,?_⟩,?_,?_⟩
   ·show 0≤(V.farP P.1 P.2).1.m;unfold On.farP;rw[this.1.1];exact h0
   ·show 0≤(V.farP P.1 P.2).1.n;unfold On.farP;rw[this.1.2];exact h1
   ·show 0≤(V.farP P.1 P.2).2.m;unfold On.farP;rw[this.2.1];exact h0
   ·show 0≤(V.farP P.1 P.2).2.n;unfold On.farP;rw[this.2.2];exact h1
theorem Gd{V:On}:∀{l:List (Sn×Sn)},(∀P∈l,Lu P)→∀q∈(farL V l).1,Qo q
 | [],_,q,h=>by simp[farL]at h
 |P::l,hP,q,h=>by
  unfold farL at h;cases hf:farP V P with
  |none=>rw[hf]at h;simp at h
  |some p=>
   rw[hf]at h;simp only[aF]at h;rcases h with rfl|h
   ·exact Sp (hP P (by simp)) hf
   ·exact Gd (fun Q hQ=>hP Q (by simp[hQ])) q h
theorem VW(V:On)(p:Dp):Qo (Ea V p):=⟨⟨show(0:Int)≤2 by decide,show(0:Int)≤0 by decide⟩,show(0:Int)≤2 by decide,show(0:Int)≤0 by decide⟩
theorem SO{X Y:Int}{t u:List Ce}{n:Nat}{g g':Nat→On→LR}{V U:On}(h:xW X Y V U){x:Im}(hk:j6 u x=j6 t x)(hc:∀k,j6 t x=some k→jc u n k=jc t n k)(hg:∀k V U,j6 t x=some k→xW X Y V U→yY X Y (g k V) (g' k U)):
  yY X Y (jN t n g V x) (jN u n g' U x):=by
 unfold jN;split
 ·rw[show(bT x).dropLast.map (Ea U)=((bT x).dropLast.map (Ea V)).map (RM X Y)by
   rw[List.map_map];exact jz fun p _=>h.at' p]
  exact DJ fun P hP=>by
   obtain⟨p,_,rfl⟩:=List.mem_map.1 hP;exact VW V p
 ·split
  ·rw[h.farL];simp only;split
   ·split
    ·exact nj X Y
    ·exact DJ (Gd Qj.1)
   ·intro s hs;split at hs<;>simp at hs
  ·split
   ·unfold nv;rw[hk];cases Et:j6 t x with
    |none=>exact nj X Y
    |some k=>
     simp only;rw[hc k Et];split
     ·exact nj X Y
     ·exact uD fun a _=>uD fun b _=>hg k _ _ Et (h.thn _)
   ·exact nj X Y
def Il(x:Im):Nat:=1+x.f.length+x.p.length
def Fi(c:Ce):Nat:=1+c.h.length+(c.i.map Il).sum
def vv(t:Li):Nat:=t.h.length+(t.c.map Fi).sum
structure Ir where
 n:Int
 i:Nat
 b:Int
 z:Int
def Ip(N1:Int)(l:List Im)(n:Int)(j:Nat):Prop:=0≤n∧n≤2305843009213693952∧(n<150→n=N1+(((l.take j).map Il).sum:Nat))
def M9(A:Int)(l:List Ce)(n:Int)(i:Nat):Prop:=0≤n∧n≤9223372036854775807∧(n<150→n=A+(((l.take i).map Fi).sum:Nat))
theorem H2{α:Type}{l:List α}{i:Nat}{x:α}(f:α→Nat)(h:l[i]? =some x):((l.take (i+1)).map f).sum=((l.take i).map f).sum+f x:=by
 rw[kS h,aS,iv];simp
theorem Gf{x:Ce}{A n:Int}{l:List Ce}{i:Nat}{m:Nat}(hb:x.h.length≤1152921504606846976)(h:M9 A l n i)(hn:n<150)(hm:m=x.h.length):Ip (IntKind.i64.wrap (IntKind.i64.wrap (n+1)+(m:Int))) x.i (IntKind.i64.wrap (IntKind.i64.wrap (n+1)+(m:Int))) 0:=by
 obtain⟨h1,h2,_⟩:=h;refine⟨?_,?_,fun _=>by simp⟩<;>simp only[af]<;>omega
theorem nY{N1 n:Int}{l:List Im}{j f p:Nat}{y:Im}(hy:l[j]? =some y)(h:Ip N1 l n j)(hn:n<150)(hf:f=y.f.length)(hp:p=y.p.length):
  Ip N1 l (IntKind.i64.wrap (IntKind.i64.wrap (IntKind.i64.wrap (n+1)+min (f:Int) 150)+min (p:Int) 150)) (j+1):=by
 obtain⟨h1,h2,h3⟩:=h;have h3:=h3 hn;unfold Ip;rw[H2 Il hy];have e:Il y=1+y.f.length+y.p.length:=rfl;refine⟨?_,?_,?_⟩<;>simp only[af]<;>omega
theorem wW{x:Ce}{A n n6:Int}{l:List Ce}{i j:Nat}{m:Nat}(hx:l[i]? =some x)(hb:x.h.length≤1152921504606846976)(h:M9 A l n i)(hn:n<150)(hm:m=x.h.length)(h6:Ip (IntKind.i64.wrap (IntKind.i64.wrap (n+1)+(m:Int))) x.i n6 j)
  (hj:n6<150→x.i.length≤j):M9 A l n6 (i+1):=by
 obtain⟨h1,h2,h3⟩:=h;obtain⟨g1,g2,g3⟩:=h6;refine⟨g1,by omega,fun hl=>?_⟩;have e1:=g3 hl;have e2:=h3 hn;rw[aR (hj hl)]at e1;rw[H2 Fi hx];have e:Fi x=1+x.h.length+(x.i.map Il).sum:=rfl;simp only[af]at e1;omega
theorem Sq{n:Int}{t:Li}{i hn:Nat}(h:M9 (hn:Int) t.c n i)(hl:n<150)(hh:hn=t.h.length)(hi:t.c.length≤i):vv t<150:=by
 obtain⟨h1,h2,h3⟩:=h;have:=h3 hl;rw[aR hi]at this;unfold vv;omega
def fwU:Ir→List (Nat×SV):=fun a=>[(1,.ptr 1 0),(3,.val (.int .i64 a.n)),(4,.val (.int .i64 a.b)),(6,.val (.int .i64 a.z))]
def fwX(h c:Sl):Ir→List (Nat×List Value):=fun _=>[(1,[aY h,aY c])]
def fwI(t:Li)(cn hn:Nat):Ir→Prop:=fun a=>a.z=a.i∧a.i≤cn∧M9 (hn:Int) t.c a.n a.i
abbrev DW(t:Li)(v:Value)(Δ:List aC):Prop:=∃g,v=.bool g∧Δ=[]∧(g=true→vv t<150)
set_option maxRecDepth 10000 in
theorem C7(ha:Option Addr)(hn hc:Nat)(ca:Option Addr)(cn cc:Nat){t:Li}(hb:∀x∈t.c,x.h.length≤1152921504606846976)(Z3:hn=t.h.length)(hcn:cn=t.c.length)(Sy:cn≤cc)(Sz:cc≤9223372036854775807)
  (q:Ir)(R:VS→List aC→Prop)(hq:fwI t cn hn q)
  (Eg:∀(D':List Nat) (c':fF) (Γ':List aC) (a':Ir),kD (aE tb (aV tb D' 999 c'))=some R→
   (kE (aE tb (aV tb D' 999 c'))).map (fun s=>s.only [1,3,4,6] [1])=some (dX 170 170 (fwU a') (fwX ⟨ha,hn,hc⟩ ⟨ca,cn,cc⟩ a') [] [])→
   fwI t cn hn a'→cn-a'.i<cn-q.i→(∀I w,bj tb I w→aD Γ' I w→aD [lL ⟨ca,cn,cc⟩ t.c] I w)→W tb Tryz.prog (Fin tb Tryz.f8 (DW t)) c' Γ'):
  W tb Tryz.prog (Fin tb Tryz.f8 (DW t)) ⟨dX 170 170 (fwU q) (fwX ⟨ha,hn,hc⟩ ⟨ca,cn,cc⟩ q) [] [],.code (RK Tryz.f8 1)::.again R::RL Tryz.f8 1⟩ [lL ⟨ca,cn,cc⟩ t.c]:=by
 obtain⟨n5,i5,b5,z5⟩:=q;obtain⟨Ma,hi5,h5⟩:=hq;simp only at Ma hi5 h5;by_cases q41:z5<(cn:Int)
 ·have Kt:i5<cn:=by omega
  obtain⟨x,YH⟩:∃x,t.c[i5]? =some x:=⟨_,ah (by omega)⟩;have YD:=hb x (aM YH);refine sJ ⟨ca,cn,cc⟩ YH (fun bc oc fh fi hac=>?_);simp only at hac;subst hac;refine W.more (Δ:=[kW fh x.h]) rfl (fun I w _ hh=>aT (aZ.p (k:=zJ fh fi) (a:=x) inferInstance hh).1) (W.more (Δ:=[qA fi x.i]) rfl (fun I w _ hh=>aT (aZ.p (k:=zJ fh fi) (a:=x) inferInstance hh).2) ?_);obtain⟨RB,ye,Gm⟩:=fh;obtain⟨ia,im,ic⟩:=fi;refine W.len de dE.r ⟨RB,ye,Gm⟩ rfl (fun RC _ _=>W.len kM mR.x ⟨ia,im,ic⟩ rfl (fun him acG acH=>?_));simp only at RC him acG acH;refine bh [] 41 (decide (z5<(cn:Int))) (ar q41) ?_;by_cases Tz:n5<150
  ·refine bh [41] 44 (decide (n5<150)) (ar Tz) (bI [44] 2 bc oc cn cc .i64 i5 z5 Ma au Kt (bN [] 0 bc (oc+i5*2) au (cX [] 1 bc (oc+i5*2+0) (aY ⟨RB,ye,Gm⟩) au (fun I w hd hh=>bH bc (oc+i5*2) I w hd hh 0 _ rfl) (gY [] [4,7] (fun a:Ir=>[(4,.int .i64 a.b),(7,.int .i64 a.z)]) (fun _=>[]) (fun _=>[]) (fun _=>[lL ⟨some ⟨bc,oc,none⟩,cn,cc⟩ t.c,kW ⟨RB,ye,Gm⟩ x.h,qA ⟨ia,im,ic⟩ x.i,RA (some ⟨bc,oc+i5*2,none⟩) [aY ⟨RB,ye,Gm⟩,aY ⟨ia,im,ic⟩]]) (fun a=>a.z=a.i∧a.i≤ye) (fun a=>ye-a.i) ⟨0,0,b5,0⟩ ⟨rfl,aH _⟩ (eC eK (eC eK (eC eK (eC eK eE)))) ?_))));rintro⟨n8,i8,b8,z8⟩ R8 ⟨hz8,hi8⟩ Wb;simp only at hz8 hi8;by_cases q66:z8<(ye:Int)
   ·have hl8:i8<ye:=by omega
    obtain⟨r8,hr8⟩:∃r,x.h[i8]? =some r:=⟨_,ah (by omega)⟩;refine o8 ⟨RB,ye,Gm⟩ hr8 (fun Rw RR u8 ha8=>?_);simp only at ha8;subst ha8;refine bI [] 2 bc oc cn cc .i64 i5 z5 Ma au Kt (bN [] 0 bc (oc+i5*2) au (cX [] 1 bc (oc+i5*2+0) (aY ⟨(some ⟨Rw,RR,none⟩),ye,Gm⟩) au (fun I w hd hh=>bH bc (oc+i5*2) I w hd hh 0 _ rfl) (bh [] 66 (decide (z8<(ye:Int))) (ar q66) ?_)));by_cases q69:z8<100
    ·refine bh [66] 69 (decide (z8<100)) (ar q69) (bI [69] 2 bc oc cn cc .i64 i5 z5 Ma au Kt (bN [] 0 bc (oc+i5*2) au (cX [] 1 bc (oc+i5*2+0) (aY ⟨(some ⟨Rw,RR,none⟩),ye,Gm⟩) au (fun I w hd hh=>bH bc (oc+i5*2) I w hd hh 0 _ rfl) (bI [] 3 Rw RR ye Gm .i64 i8 z8 hz8 au (by omega) (bN [] 2 Rw (RR+i8*3) au (cX [] 1 Rw (RR+i8*3+2) (aY u8) au (fun I w hd hh=>bH Rw (RR+i8*3) I w hd hh 2 _ rfl) (pV [] .i64 (u8.n:Int) 100000 (min (u8.n:Int) 100000) rfl (Wb [] _ _ ⟨0,i8+1,IntKind.i64.wrap (b8+min (u8.n:Int) 100000),IntKind.i64.wrap (z8+1)⟩ (by kernel_rfl) (by kernel_rfl) ⟨by simp only[af];omega,by simp only;omega⟩ (by simp only;omega) (eC eK (eC eK (eC eK (eC eK eE))))))))))))
    ·refine aO [66] 69 (decide (z8<100)) (ak q69) (gY [69] [3,4,8] (fun a:Ir=>[(3,.int .i64 a.n),(4,.int .i64 a.b),(8,.int .i64 a.z)]) (fun _=>[]) (fun _=>[]) (fun _=>[lL ⟨some ⟨bc,oc,none⟩,cn,cc⟩ t.c,qA ⟨ia,im,ic⟩ x.i,RA (some ⟨bc,oc+i5*2,none⟩) [aY ⟨(some ⟨Rw,RR,none⟩),ye,Gm⟩,aY ⟨ia,im,ic⟩]]) (fun a=>a.z=a.i∧a.i≤im∧Ip (IntKind.i64.wrap (IntKind.i64.wrap (n5+1)+(ye:Int))) x.i a.n a.i) (fun a=>im-a.i) ⟨IntKind.i64.wrap (IntKind.i64.wrap (n5+1)+(ye:Int)),0,b8,0⟩ ⟨rfl,aH _,Gf YD h5 Tz RC⟩ (eC eK (eC eK (eC eK eE))) ?_);rintro⟨n6,i6,b6,z6⟩ R6 ⟨hz6,hi6,h6⟩ rM;simp only at hz6 hi6 h6;by_cases q95:z6<(im:Int)
     ·have OE:i6<im:=by omega
      obtain⟨y,OU⟩:∃y,x.i[i6]? =some y:=⟨_,ah (by omega)⟩;refine vB ⟨ia,im,ic⟩ OU (fun bi oi yf yp ZL=>?_);simp only at ZL;subst ZL;refine W.more (Δ:=[kW yf y.f]) rfl (fun I w _ hh=>aT (aZ.p (k:=oE yf yp) (a:=y) inferInstance hh).1) (W.more (Δ:=[kW yp y.p]) rfl (fun I w _ hh=>aT (aZ.p (k:=oE yf yp) (a:=y) inferInstance hh).2) ?_);obtain⟨fa,fn,fc⟩:=yf;obtain⟨pa,pn,pc⟩:=yp;refine W.len de dE.r ⟨fa,fn,fc⟩ rfl (fun Fj _ _=>W.len de dE.r ⟨pa,pn,pc⟩ rfl (fun hpn _ _=>?_));simp only at Fj hpn;refine bI [] 2 bc oc cn cc .i64 i5 z5 Ma au Kt (bN [] 1 bc (oc+i5*2) au (cX [] 1 bc (oc+i5*2+1) (aY ⟨some ⟨bi,oi,none⟩,im,ic⟩) au (fun I w hd hh=>bH bc (oc+i5*2) I w hd hh 1 _ rfl) (bh [] 95 (decide (z6<(im:Int))) (ar q95) ?_)));by_cases JE:n6<150
      ·refine bh [95] 98 (decide (n6<150)) (ar JE) (bI [98] 2 bc oc cn cc .i64 i5 z5 Ma au Kt (bN [] 1 bc (oc+i5*2) au (cX [] 1 bc (oc+i5*2+1) (aY ⟨some ⟨bi,oi,none⟩,im,ic⟩) au (fun I w hd hh=>bH bc (oc+i5*2) I w hd hh 1 _ rfl) (bI [] 2 bi oi im ic .i64 i6 z6 hz6 au OE (cJ [] bi (oi+i6*2) [aY ⟨fa,fn,fc⟩,aY ⟨pa,pn,pc⟩] au (bH bi (oi+i6*2)) (pV [] .i64 (fn:Int) 150 (min (fn:Int) 150) rfl (pV [] .i64 (pn:Int) 150 (min (pn:Int) 150) rfl (gY [] [4,10] (fun a:Ir=>[(4,.int .i64 a.b),(10,.int .i64 a.z)]) (fun _=>[]) (fun _=>[]) (fun _=>[lL ⟨some ⟨bc,oc,none⟩,cn,cc⟩ t.c,qA ⟨some ⟨bi,oi,none⟩,im,ic⟩ x.i,RA (some ⟨bc,oc+i5*2,none⟩) [aY ⟨(some ⟨Rw,RR,none⟩),ye,Gm⟩,aY ⟨some ⟨bi,oi,none⟩,im,ic⟩],kW ⟨fa,fn,fc⟩ y.f,kW ⟨pa,pn,pc⟩ y.p]) (fun a=>a.z=a.i∧a.i≤fn) (fun a=>fn-a.i) ⟨0,0,b6,0⟩ ⟨rfl,aH _⟩ (eC eK (eC eK (eC eK (eC eK (eC eK eE))))) ?_))))))));rintro⟨nF,iF,bF,zF⟩ RF ⟨hzF,hiF⟩ IP;simp only at hzF hiF;by_cases Qs:zF<(fn:Int)
       ·have hlF:iF<fn:=by omega
        obtain⟨rF,hrF⟩:∃r,y.f[iF]? =some r:=⟨_,ah (by omega)⟩;refine o8 ⟨fa,fn,fc⟩ hrF (fun Sc S5 uF ZM=>?_);simp only at ZM;subst ZM;refine bh [] 127 (decide (zF<(fn:Int))) (ar Qs) ?_;by_cases Qt:zF<150
        ·refine bh [127] 130 (decide (zF<150)) (ar Qt) (bI [130] 3 Sc S5 fn fc .i64 iF zF hzF au (by omega) (bN [] 2 Sc (S5+iF*3) au (cX [] 1 Sc (S5+iF*3+2) (aY uF) au (fun I w hd hh=>bH Sc (S5+iF*3) I w hd hh 2 _ rfl) (pV [] .i64 (uF.n:Int) 100000 (min (uF.n:Int) 100000) rfl (IP [] _ _ ⟨0,iF+1,IntKind.i64.wrap (bF+min (uF.n:Int) 100000),IntKind.i64.wrap (zF+1)⟩ (by kernel_rfl) (by kernel_rfl) ⟨by simp only[af];omega,by simp only;omega⟩ (by simp only;omega) (eC eK (eC eK (eC eK (eC eK (eC eK eE))))))))))
        ·refine aO [127] 130 (decide (zF<150)) (ak Qt) (gY [130] [4,11] (fun a:Ir=>[(4,.int .i64 a.b),(11,.int .i64 a.z)]) (fun _=>[]) (fun _=>[]) (fun _=>[lL ⟨some ⟨bc,oc,none⟩,cn,cc⟩ t.c,qA ⟨some ⟨bi,oi,none⟩,im,ic⟩ x.i,RA (some ⟨bc,oc+i5*2,none⟩) [aY ⟨(some ⟨Rw,RR,none⟩),ye,Gm⟩,aY ⟨some ⟨bi,oi,none⟩,im,ic⟩],kW ⟨pa,pn,pc⟩ y.p]) (fun a=>a.z=a.i∧a.i≤pn) (fun a=>pn-a.i) ⟨0,0,bF,0⟩ ⟨rfl,aH _⟩ (eC eK (eC eK (eC eK (eC eK eE)))) ?_);rintro⟨nP,iP,bP,zP⟩ RP ⟨OV,Wy⟩ vX;simp only at OV Wy;by_cases BY:zP<(pn:Int)
         ·have hlP:iP<pn:=by omega
          obtain⟨rP,WG⟩:∃r,y.p[iP]? =some r:=⟨_,ah (by omega)⟩;refine o8 ⟨pa,pn,pc⟩ WG (fun Eb EH uP Ot=>?_);simp only at Ot;subst Ot;refine bh [] 148 (decide (zP<(pn:Int))) (ar BY) ?_;by_cases BZ:zP<150
          ·refine bh [148] 151 (decide (zP<150)) (ar BZ) (bI [151] 3 Eb EH pn pc .i64 iP zP OV au (by omega) (bN [] 2 Eb (EH+iP*3) au (cX [] 1 Eb (EH+iP*3+2) (aY uP) au (fun I w hd hh=>bH Eb (EH+iP*3) I w hd hh 2 _ rfl) (pV [] .i64 (uP.n:Int) 100000 (min (uP.n:Int) 100000) rfl (vX [] _ _ ⟨0,iP+1,IntKind.i64.wrap (bP+min (uP.n:Int) 100000),IntKind.i64.wrap (zP+1)⟩ (by kernel_rfl) (by kernel_rfl) ⟨by simp only[af];omega,by simp only;omega⟩ (by simp only;omega) (eC eK (eC eK (eC eK (eC eK eE)))))))))
          ·refine aO [148] 151 (decide (zP<150)) (ak BZ) (rM [151] _ _ ⟨IntKind.i64.wrap (IntKind.i64.wrap (IntKind.i64.wrap (n6+1)+min (fn:Int) 150)+min (pn:Int) 150),i6+1,bP,IntKind.i64.wrap (z6+1)⟩ (by kernel_rfl) (by kernel_rfl) ⟨by simp only[af];omega,OE,nY OU h6 JE Fj hpn⟩ (by simp only;omega) (eC eK (eC eK (eC eK eE))))
         ·refine aO [] 148 (decide (zP<(pn:Int))) (ak BY) (rM [151,148] _ _ ⟨IntKind.i64.wrap (IntKind.i64.wrap (IntKind.i64.wrap (n6+1)+min (fn:Int) 150)+min (pn:Int) 150),i6+1,bP,IntKind.i64.wrap (z6+1)⟩ (by kernel_rfl) (by kernel_rfl) ⟨by simp only[af];omega,OE,nY OU h6 JE Fj hpn⟩ (by simp only;omega) (eC eK (eC eK (eC eK eE))))
       ·refine aO [] 127 (decide (zF<(fn:Int))) (ak Qs) (gY [130,127] [4,11] (fun a:Ir=>[(4,.int .i64 a.b),(11,.int .i64 a.z)]) (fun _=>[]) (fun _=>[]) (fun _=>[lL ⟨some ⟨bc,oc,none⟩,cn,cc⟩ t.c,qA ⟨some ⟨bi,oi,none⟩,im,ic⟩ x.i,RA (some ⟨bc,oc+i5*2,none⟩) [aY ⟨(some ⟨Rw,RR,none⟩),ye,Gm⟩,aY ⟨some ⟨bi,oi,none⟩,im,ic⟩],kW ⟨pa,pn,pc⟩ y.p]) (fun a=>a.z=a.i∧a.i≤pn) (fun a=>pn-a.i) ⟨0,0,bF,0⟩ ⟨rfl,aH _⟩ (eC eK (eC eK (eC eK (eC eK eE)))) ?_);rintro⟨nP,iP,bP,zP⟩ RP ⟨OV,Wy⟩ vX;simp only at OV Wy;by_cases BY:zP<(pn:Int)
        ·have hlP:iP<pn:=by omega
         obtain⟨rP,WG⟩:∃r,y.p[iP]? =some r:=⟨_,ah (by omega)⟩;refine o8 ⟨pa,pn,pc⟩ WG (fun Eb EH uP Ot=>?_);simp only at Ot;subst Ot;refine bh [] 148 (decide (zP<(pn:Int))) (ar BY) ?_;by_cases BZ:zP<150
         ·refine bh [148] 151 (decide (zP<150)) (ar BZ) (bI [151] 3 Eb EH pn pc .i64 iP zP OV au (by omega) (bN [] 2 Eb (EH+iP*3) au (cX [] 1 Eb (EH+iP*3+2) (aY uP) au (fun I w hd hh=>bH Eb (EH+iP*3) I w hd hh 2 _ rfl) (pV [] .i64 (uP.n:Int) 100000 (min (uP.n:Int) 100000) rfl (vX [] _ _ ⟨0,iP+1,IntKind.i64.wrap (bP+min (uP.n:Int) 100000),IntKind.i64.wrap (zP+1)⟩ (by kernel_rfl) (by kernel_rfl) ⟨by simp only[af];omega,by simp only;omega⟩ (by simp only;omega) (eC eK (eC eK (eC eK (eC eK eE)))))))))
         ·refine aO [148] 151 (decide (zP<150)) (ak BZ) (rM [151] _ _ ⟨IntKind.i64.wrap (IntKind.i64.wrap (IntKind.i64.wrap (n6+1)+min (fn:Int) 150)+min (pn:Int) 150),i6+1,bP,IntKind.i64.wrap (z6+1)⟩ (by kernel_rfl) (by kernel_rfl) ⟨by simp only[af];omega,OE,nY OU h6 JE Fj hpn⟩ (by simp only;omega) (eC eK (eC eK (eC eK eE))))
        ·refine aO [] 148 (decide (zP<(pn:Int))) (ak BY) (rM [151,148] _ _ ⟨IntKind.i64.wrap (IntKind.i64.wrap (IntKind.i64.wrap (n6+1)+min (fn:Int) 150)+min (pn:Int) 150),i6+1,bP,IntKind.i64.wrap (z6+1)⟩ (by kernel_rfl) (by kernel_rfl) ⟨by simp only[af];omega,OE,nY OU h6 JE Fj hpn⟩ (by simp only;omega) (eC eK (eC eK (eC eK eE))))
      ·refine aO [95] 98 (decide (n6<150)) (ak JE) (Eg [98] _ _ ⟨n6,i5+1,b6,IntKind.i64.wrap (z5+1)⟩ (by kernel_rfl) (by kernel_rfl) ⟨by simp only[af];omega,Kt,wW YH YD h5 Tz RC h6 (fun h=>absurd h JE)⟩ (by simp only;omega) (eC eK eE))
     ·refine bI [] 2 bc oc cn cc .i64 i5 z5 Ma au Kt (bN [] 1 bc (oc+i5*2) au (cX [] 1 bc (oc+i5*2+1) (aY ⟨ia,im,ic⟩) au (fun I w hd hh=>bH bc (oc+i5*2) I w hd hh 1 _ rfl) (aO [] 95 (decide (z6<(im:Int))) (ak q95) (Eg [98,95] _ _ ⟨n6,i5+1,b6,IntKind.i64.wrap (z5+1)⟩ (by kernel_rfl) (by kernel_rfl) ⟨by simp only[af];omega,Kt,wW YH YD h5 Tz RC h6 (fun _=>by omega)⟩ (by simp only;omega) (eC eK eE)))))
   ·refine bI [] 2 bc oc cn cc .i64 i5 z5 Ma au Kt (bN [] 0 bc (oc+i5*2) au (cX [] 1 bc (oc+i5*2+0) (aY ⟨RB,ye,Gm⟩) au (fun I w hd hh=>bH bc (oc+i5*2) I w hd hh 0 _ rfl) (aO [] 66 (decide (z8<(ye:Int))) (ak q66) (gY [69,66] [3,4,8] (fun a:Ir=>[(3,.int .i64 a.n),(4,.int .i64 a.b),(8,.int .i64 a.z)]) (fun _=>[]) (fun _=>[]) (fun _=>[lL ⟨some ⟨bc,oc,none⟩,cn,cc⟩ t.c,qA ⟨ia,im,ic⟩ x.i,RA (some ⟨bc,oc+i5*2,none⟩) [aY ⟨RB,ye,Gm⟩,aY ⟨ia,im,ic⟩]]) (fun a=>a.z=a.i∧a.i≤im∧Ip (IntKind.i64.wrap (IntKind.i64.wrap (n5+1)+(ye:Int))) x.i a.n a.i) (fun a=>im-a.i) ⟨IntKind.i64.wrap (IntKind.i64.wrap (n5+1)+(ye:Int)),0,b8,0⟩ ⟨rfl,aH _,Gf YD h5 Tz RC⟩ (eC eK (eC eK (eC eK eE))) ?_))));rintro⟨n6,i6,b6,z6⟩ R6 ⟨hz6,hi6,h6⟩ rM;simp only at hz6 hi6 h6;by_cases q95:z6<(im:Int)
    ·have OE:i6<im:=by omega
     obtain⟨y,OU⟩:∃y,x.i[i6]? =some y:=⟨_,ah (by omega)⟩;refine vB ⟨ia,im,ic⟩ OU (fun bi oi yf yp ZL=>?_);simp only at ZL;subst ZL;refine W.more (Δ:=[kW yf y.f]) rfl (fun I w _ hh=>aT (aZ.p (k:=oE yf yp) (a:=y) inferInstance hh).1) (W.more (Δ:=[kW yp y.p]) rfl (fun I w _ hh=>aT (aZ.p (k:=oE yf yp) (a:=y) inferInstance hh).2) ?_);obtain⟨fa,fn,fc⟩:=yf;obtain⟨pa,pn,pc⟩:=yp;refine W.len de dE.r ⟨fa,fn,fc⟩ rfl (fun Fj _ _=>W.len de dE.r ⟨pa,pn,pc⟩ rfl (fun hpn _ _=>?_));simp only at Fj hpn;refine bI [] 2 bc oc cn cc .i64 i5 z5 Ma au Kt (bN [] 1 bc (oc+i5*2) au (cX [] 1 bc (oc+i5*2+1) (aY ⟨some ⟨bi,oi,none⟩,im,ic⟩) au (fun I w hd hh=>bH bc (oc+i5*2) I w hd hh 1 _ rfl) (bh [] 95 (decide (z6<(im:Int))) (ar q95) ?_)));by_cases JE:n6<150
     ·refine bh [95] 98 (decide (n6<150)) (ar JE) (bI [98] 2 bc oc cn cc .i64 i5 z5 Ma au Kt (bN [] 1 bc (oc+i5*2) au (cX [] 1 bc (oc+i5*2+1) (aY ⟨some ⟨bi,oi,none⟩,im,ic⟩) au (fun I w hd hh=>bH bc (oc+i5*2) I w hd hh 1 _ rfl) (bI [] 2 bi oi im ic .i64 i6 z6 hz6 au OE (cJ [] bi (oi+i6*2) [aY ⟨fa,fn,fc⟩,aY ⟨pa,pn,pc⟩] au (bH bi (oi+i6*2)) (pV [] .i64 (fn:Int) 150 (min (fn:Int) 150) rfl (pV [] .i64 (pn:Int) 150 (min (pn:Int) 150) rfl (gY [] [4,10] (fun a:Ir=>[(4,.int .i64 a.b),(10,.int .i64 a.z)]) (fun _=>[]) (fun _=>[]) (fun _=>[lL ⟨some ⟨bc,oc,none⟩,cn,cc⟩ t.c,qA ⟨some ⟨bi,oi,none⟩,im,ic⟩ x.i,RA (some ⟨bc,oc+i5*2,none⟩) [aY ⟨RB,ye,Gm⟩,aY ⟨some ⟨bi,oi,none⟩,im,ic⟩],kW ⟨fa,fn,fc⟩ y.f,kW ⟨pa,pn,pc⟩ y.p]) (fun a=>a.z=a.i∧a.i≤fn) (fun a=>fn-a.i) ⟨0,0,b6,0⟩ ⟨rfl,aH _⟩ (eC eK (eC eK (eC eK (eC eK (eC eK eE))))) ?_))))))));rintro⟨nF,iF,bF,zF⟩ RF ⟨hzF,hiF⟩ IP;simp only at hzF hiF;by_cases Qs:zF<(fn:Int)
      ·have hlF:iF<fn:=by omega
       obtain⟨rF,hrF⟩:∃r,y.f[iF]? =some r:=⟨_,ah (by omega)⟩;refine o8 ⟨fa,fn,fc⟩ hrF (fun Sc S5 uF ZM=>?_);simp only at ZM;subst ZM;refine bh [] 127 (decide (zF<(fn:Int))) (ar Qs) ?_;by_cases Qt:zF<150
       ·refine bh [127] 130 (decide (zF<150)) (ar Qt) (bI [130] 3 Sc S5 fn fc .i64 iF zF hzF au (by omega) (bN [] 2 Sc (S5+iF*3) au (cX [] 1 Sc (S5+iF*3+2) (aY uF) au (fun I w hd hh=>bH Sc (S5+iF*3) I w hd hh 2 _ rfl) (pV [] .i64 (uF.n:Int) 100000 (min (uF.n:Int) 100000) rfl (IP [] _ _ ⟨0,iF+1,IntKind.i64.wrap (bF+min (uF.n:Int) 100000),IntKind.i64.wrap (zF+1)⟩ (by kernel_rfl) (by kernel_rfl) ⟨by simp only[af];omega,by simp only;omega⟩ (by simp only;omega) (eC eK (eC eK (eC eK (eC eK (eC eK eE))))))))))
       ·refine aO [127] 130 (decide (zF<150)) (ak Qt) (gY [130] [4,11] (fun a:Ir=>[(4,.int .i64 a.b),(11,.int .i64 a.z)]) (fun _=>[]) (fun _=>[]) (fun _=>[lL ⟨some ⟨bc,oc,none⟩,cn,cc⟩ t.c,qA ⟨some ⟨bi,oi,none⟩,im,ic⟩ x.i,RA (some ⟨bc,oc+i5*2,none⟩) [aY ⟨RB,ye,Gm⟩,aY ⟨some ⟨bi,oi,none⟩,im,ic⟩],kW ⟨pa,pn,pc⟩ y.p]) (fun a=>a.z=a.i∧a.i≤pn) (fun a=>pn-a.i) ⟨0,0,bF,0⟩ ⟨rfl,aH _⟩ (eC eK (eC eK (eC eK (eC eK eE)))) ?_);rintro⟨nP,iP,bP,zP⟩ RP ⟨OV,Wy⟩ vX;simp only at OV Wy;by_cases BY:zP<(pn:Int)
        ·have hlP:iP<pn:=by omega
         obtain⟨rP,WG⟩:∃r,y.p[iP]? =some r:=⟨_,ah (by omega)⟩;refine o8 ⟨pa,pn,pc⟩ WG (fun Eb EH uP Ot=>?_);simp only at Ot;subst Ot;refine bh [] 148 (decide (zP<(pn:Int))) (ar BY) ?_;by_cases BZ:zP<150
         ·refine bh [148] 151 (decide (zP<150)) (ar BZ) (bI [151] 3 Eb EH pn pc .i64 iP zP OV au (by omega) (bN [] 2 Eb (EH+iP*3) au (cX [] 1 Eb (EH+iP*3+2) (aY uP) au (fun I w hd hh=>bH Eb (EH+iP*3) I w hd hh 2 _ rfl) (pV [] .i64 (uP.n:Int) 100000 (min (uP.n:Int) 100000) rfl (vX [] _ _ ⟨0,iP+1,IntKind.i64.wrap (bP+min (uP.n:Int) 100000),IntKind.i64.wrap (zP+1)⟩ (by kernel_rfl) (by kernel_rfl) ⟨by simp only[af];omega,by simp only;omega⟩ (by simp only;omega) (eC eK (eC eK (eC eK (eC eK eE)))))))))
         ·refine aO [148] 151 (decide (zP<150)) (ak BZ) (rM [151] _ _ ⟨IntKind.i64.wrap (IntKind.i64.wrap (IntKind.i64.wrap (n6+1)+min (fn:Int) 150)+min (pn:Int) 150),i6+1,bP,IntKind.i64.wrap (z6+1)⟩ (by kernel_rfl) (by kernel_rfl) ⟨by simp only[af];omega,OE,nY OU h6 JE Fj hpn⟩ (by simp only;omega) (eC eK (eC eK (eC eK eE))))
        ·refine aO [] 148 (decide (zP<(pn:Int))) (ak BY) (rM [151,148] _ _ ⟨IntKind.i64.wrap (IntKind.i64.wrap (IntKind.i64.wrap (n6+1)+min (fn:Int) 150)+min (pn:Int) 150),i6+1,bP,IntKind.i64.wrap (z6+1)⟩ (by kernel_rfl) (by kernel_rfl) ⟨by simp only[af];omega,OE,nY OU h6 JE Fj hpn⟩ (by simp only;omega) (eC eK (eC eK (eC eK eE))))
      ·refine aO [] 127 (decide (zF<(fn:Int))) (ak Qs) (gY [130,127] [4,11] (fun a:Ir=>[(4,.int .i64 a.b),(11,.int .i64 a.z)]) (fun _=>[]) (fun _=>[]) (fun _=>[lL ⟨some ⟨bc,oc,none⟩,cn,cc⟩ t.c,qA ⟨some ⟨bi,oi,none⟩,im,ic⟩ x.i,RA (some ⟨bc,oc+i5*2,none⟩) [aY ⟨RB,ye,Gm⟩,aY ⟨some ⟨bi,oi,none⟩,im,ic⟩],kW ⟨pa,pn,pc⟩ y.p]) (fun a=>a.z=a.i∧a.i≤pn) (fun a=>pn-a.i) ⟨0,0,bF,0⟩ ⟨rfl,aH _⟩ (eC eK (eC eK (eC eK (eC eK eE)))) ?_);rintro⟨nP,iP,bP,zP⟩ RP ⟨OV,Wy⟩ vX;simp only at OV Wy;by_cases BY:zP<(pn:Int)
       ·have hlP:iP<pn:=by omega
        obtain⟨rP,WG⟩:∃r,y.p[iP]? =some r:=⟨_,ah (by omega)⟩;refine o8 ⟨pa,pn,pc⟩ WG (fun Eb EH uP Ot=>?_);simp only at Ot;subst Ot;refine bh [] 148 (decide (zP<(pn:Int))) (ar BY) ?_;by_cases BZ:zP<150
        ·refine bh [148] 151 (decide (zP<150)) (ar BZ) (bI [151] 3 Eb EH pn pc .i64 iP zP OV au (by omega) (bN [] 2 Eb (EH+iP*3) au (cX [] 1 Eb (EH+iP*3+2) (aY uP) au (fun I w hd hh=>bH Eb (EH+iP*3) I w hd hh 2 _ rfl) (pV [] .i64 (uP.n:Int) 100000 (min (uP.n:Int) 100000) rfl (vX [] _ _ ⟨0,iP+1,IntKind.i64.wrap (bP+min (uP.n:Int) 100000),IntKind.i64.wrap (zP+1)⟩ (by kernel_rfl) (by kernel_rfl) ⟨by simp only[af];omega,by simp only;omega⟩ (by simp only;omega) (eC eK (eC eK (eC eK (eC eK eE)))))))))
        ·refine aO [148] 151 (decide (zP<150)) (ak BZ) (rM [151] _ _ ⟨IntKind.i64.wrap (IntKind.i64.wrap (IntKind.i64.wrap (n6+1)+min (fn:Int) 150)+min (pn:Int) 150),i6+1,bP,IntKind.i64.wrap (z6+1)⟩ (by kernel_rfl) (by kernel_rfl) ⟨by simp only[af];omega,OE,nY OU h6 JE Fj hpn⟩ (by simp only;omega) (eC eK (eC eK (eC eK eE))))
       ·refine aO [] 148 (decide (zP<(pn:Int))) (ak BY) (rM [151,148] _ _ ⟨IntKind.i64.wrap (IntKind.i64.wrap (IntKind.i64.wrap (n6+1)+min (fn:Int) 150)+min (pn:Int) 150),i6+1,bP,IntKind.i64.wrap (z6+1)⟩ (by kernel_rfl) (by kernel_rfl) ⟨by simp only[af];omega,OE,nY OU h6 JE Fj hpn⟩ (by simp only;omega) (eC eK (eC eK (eC eK eE))))
     ·refine aO [95] 98 (decide (n6<150)) (ak JE) (Eg [98] _ _ ⟨n6,i5+1,b6,IntKind.i64.wrap (z5+1)⟩ (by kernel_rfl) (by kernel_rfl) ⟨by simp only[af];omega,Kt,wW YH YD h5 Tz RC h6 (fun h=>absurd h JE)⟩ (by simp only;omega) (eC eK eE))
    ·refine bI [] 2 bc oc cn cc .i64 i5 z5 Ma au Kt (bN [] 1 bc (oc+i5*2) au (cX [] 1 bc (oc+i5*2+1) (aY ⟨ia,im,ic⟩) au (fun I w hd hh=>bH bc (oc+i5*2) I w hd hh 1 _ rfl) (aO [] 95 (decide (z6<(im:Int))) (ak q95) (Eg [98,95] _ _ ⟨n6,i5+1,b6,IntKind.i64.wrap (z5+1)⟩ (by kernel_rfl) (by kernel_rfl) ⟨by simp only[af];omega,Kt,wW YH YD h5 Tz RC h6 (fun _=>by omega)⟩ (by simp only;omega) (eC eK eE)))))
  ·refine aO [41] 44 (decide (n5<150)) (ak Tz) (aO [44] 166 (decide (n5<150)) (ak Tz) (W.r [166] (.bool false) ⟨false,rfl,rfl,fun h=>by simp at h⟩ bX))
 ·refine aO [] 41 (decide (z5<(cn:Int))) (ak q41) ?_;by_cases XM:n5<150
  ·refine bh [44,41] 166 (decide (n5<150)) (ar XM) (W.r [166] (.bool (decide (b5<8000))) ⟨_,rfl,rfl,fun _=>Sq h5 XM Z3 (by omega)⟩ bX)
  ·refine aO [44,41] 166 (decide (n5<150)) (ak XM) (W.r [166] (.bool false) ⟨false,rfl,rfl,fun h=>by simp at h⟩ bX)
section
variable{Γ:List aC}
set_option maxRecDepth 10000 in
theorem Tc(ha:Option Addr)(hn hc:Nat)(ca:Option Addr)(cn cc:Nat){t:Li} [hF:aZ (yX ⟨ha,hn,hc⟩ ⟨ca,cn,cc⟩) t Γ](hb:∀x∈t.c,x.h.length≤1152921504606846976):
  aw tb Tryz.prog 8 [nd ⟨ha,hn,hc⟩ ⟨ca,cn,cc⟩] Γ (DW t):=by
 refine aw.of_W au Tryz.func8 rfl (W.more (Δ:=[kW ⟨ha,hn,hc⟩ t.h]) rfl (fun I w _ hh=>aT (hF.p hh).1) (W.more (Δ:=[lL ⟨ca,cn,cc⟩ t.c]) rfl (fun I w _ hh=>aT (aZ.p (k:=yX ⟨ha,hn,hc⟩ ⟨ca,cn,cc⟩) (a:=t) inferInstance hh).2) (W.len de dE.r ⟨ha,hn,hc⟩ rfl (fun Z3 acC acD=>W.len gT lT.x ⟨ca,cn,cc⟩ rfl (fun hcn Sy Sz=>?_)))));simp only at Z3 hcn acC acD Sy Sz;refine gY [] [4,5] (fun a:Ir=>[(4,.int .i64 a.b),(5,.int .i64 a.z)]) (fun _=>[]) (fun _=>[]) (fun _=>[kW ⟨ha,hn,hc⟩ t.h,lL ⟨ca,cn,cc⟩ t.c]) (fun a=>a.z=a.i∧a.i≤hn) (fun a=>hn-a.i) ⟨0,0,0,0⟩ ⟨rfl,aH _⟩ (eC eK (eC eK eE)) ?_;rintro⟨n1,i1,b1,z1⟩ R1 ⟨hz1,hi1⟩ close1;simp only at hz1 hi1;by_cases q20:z1<(hn:Int)
 ·have hl1:i1<hn:=by omega
  obtain⟨r1,hr1⟩:∃r,t.h[i1]? =some r:=⟨_,ah (by omega)⟩;refine o8 ⟨ha,hn,hc⟩ hr1 (fun iK YI u1 ha1=>?_);simp only at ha1;subst ha1;refine bh [] 20 (decide (z1<(hn:Int))) (ar q20) ?_;by_cases q23:z1<100
  ·refine bh [20] 23 (decide (z1<100)) (ar q23) (bI [23] 3 iK YI hn hc .i64 i1 z1 hz1 au (by omega) (bN [] 2 iK (YI+i1*3) au (cX [] 1 iK (YI+i1*3+2) (aY u1) au (fun I w hd hh=>bH iK (YI+i1*3) I w hd hh 2 _ rfl) (pV [] .i64 (u1.n:Int) 100000 (min (u1.n:Int) 100000) rfl (close1 [] _ _ ⟨0,i1+1,IntKind.i64.wrap (b1+min (u1.n:Int) 100000),IntKind.i64.wrap (z1+1)⟩ (by kernel_rfl) (by kernel_rfl) ⟨by simp only[af];omega,by simp only;omega⟩ (by simp only;omega) (eC eK (eC eK eE)))))))
  ·refine aO [20] 23 (decide (z1<100)) (ak q23) (jO [23] Tryz.f8 1 170 170 [1,3,4,6] [1] fwU (fwX ⟨(some ⟨iK,YI,none⟩),hn,hc⟩ ⟨ca,cn,cc⟩) (fun _=>[]) (fun _=>[]) (fun _=>[lL ⟨ca,cn,cc⟩ t.c]) (fwI t cn hn) (fun a=>cn-a.i) ⟨hn,0,b1,0⟩ ⟨rfl,aH _,by simp only;omega,by simp only;omega,fun _=>by simp⟩ (eC eK eE) (fun a R hq close=>C7 (some ⟨iK,YI,none⟩) hn hc ca cn cc hb Z3 hcn Sy Sz a R hq close))
 ·refine aO [] 20 (decide (z1<(hn:Int))) (ak q20) (jO [23,20] Tryz.f8 1 170 170 [1,3,4,6] [1] fwU (fwX ⟨ha,hn,hc⟩ ⟨ca,cn,cc⟩) (fun _=>[]) (fun _=>[]) (fun _=>[lL ⟨ca,cn,cc⟩ t.c]) (fwI t cn hn) (fun a=>cn-a.i) ⟨hn,0,b1,0⟩ ⟨rfl,aH _,by simp only;omega,by simp only;omega,fun _=>by simp⟩ (eC eK eE) (fun a R hq close=>C7 ha hn hc ca cn cc hb Z3 hcn Sy Sz a R hq close))
end
end Go.Proofs.YtgaaopjagcaojaaGreat
