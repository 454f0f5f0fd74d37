import Derived.Test.YtgaaopjagcaojaaGreatBb
import Derived.Lib.SmallJoins
set_option linter.unusedSimpArgs false
set_option linter.unusedVariables false
set_option maxHeartbeats 4000000
namespace Go.Proofs.YtgaaopjagcaojaaGreat
open Go.RowKit Go.IntWalk
theorem rZ{b:Nat}(es:List dJ){I:f_}{w:World}(hm:es.length≤1000)(h:(dY b (es.flatMap dw.cells)).p I w)(hf:∀e∈es,(xR e.s e.r).p I w):(nX ⟨some ⟨b,0,none⟩,es.length,es.length⟩ (es.map dJ.r)).p I w:=
 mc (v:=.int .i64 0) rfl (ai _) (by unfold maxLen;omega) (fun e he=>hf e he) (RA.of_row h fun _ _ hv=>hv)
theorem xC(I:f_)(w:World):(nX ⟨none,0,0⟩ []).p I w:=⟨[],rfl,rfl,⟨ai _,aM _⟩,fun e he=>by simp at he,RA.nil _ _ _⟩
theorem h_{s:Sl}{k d:Int}{b:List Int}{I:f_}{w:World}(hk:0≤k∧k<256)(hd:0≤d∧d<256)(h:(BF s b).p I w):(xR s ⟨k,d,b⟩).p I w:=⟨hk,hd,h⟩
theorem Jm{g n:Nat}{I:f_}{w:World}(hn:n≤1000000)(h:(dY g (List.replicate n (.int .u8 0))).p I w):(BF ⟨some ⟨g,0,none⟩,n,n⟩ (List.replicate n 0)).p I w:=
 ⟨by simp,⟨ai _,by simp only;unfold maxLen;omega⟩,fun z hz=>by
  obtain rfl:=List.eq_of_mem_replicate hz;decide,by
  rw[List.map_replicate];exact RA.of_row h fun _ _ hv=>hv⟩
theorem tN{b:Nat}{l:List Int}{I:f_}{w:World}(hl:l.length≤1000)(h:(dY b (l.map (Value.int .i64))).p I w):(NL ⟨some ⟨b,0,none⟩,l.length,l.length⟩ l).p I w:=
 ⟨rfl,⟨ai _,by simp only;unfold maxLen;omega⟩,RA.of_row h fun _ _ hv=>hv⟩
def AL(s:ByteArray):List Re:=[⟨5,2,List.replicate 24 0⟩,⟨6,6,mz s⟩]
def eP(s:ByteArray)(l:List Im):Ce:=⟨AL s,l⟩
def k8(s:ByteArray)(x y:Int):Im:=⟨[⟨10,0,[]⟩,⟨18,6,mz s⟩,⟨16,3,[x,y].flatMap lB⟩],[]⟩
def pO(d:Dp):List Int:=[d.x,d.y]
def g8(l:List Dp):List Dp:=l++l.take 1
def cL(a k:Int)(l:List Dp):Im:=⟨[⟨8,0,[]⟩,⟨13,2,[a].flatMap sB⟩,⟨14,2,[k].flatMap sB⟩,⟨16,3,((g8 l).flatMap pO).flatMap lB⟩],[]⟩
def CC:List Re:=[⟨0,2,List.replicate 2 0⟩,⟨1,2,List.replicate 24 0⟩,⟨2,6,[108,98]⟩,⟨3,5,List.replicate 16 0⟩]
theorem yM(l:List Dp):(l.flatMap pO).map (Value.int .i64)=l.flatMap d_:=by
 induction l with
 |nil=>rfl
 |cons d l ih=>
  rw[bj,aX,ih];rfl
theorem Rk{P:Program}{ops:Array Oper}{Q:Exit→Act→World→Prop}{i:Nat}{rest:List Nat}{o:Oper}{a:Act}{w w':World}(hi:ops[i]? =some o)(hg:o.guard=none)(hr:(execOp a.eval o).run P w=.ok .skip w')(hk:wpOps P ops Q rest (a.put o.dst undef) w'):wpOps P ops Q (i::rest) a w:=by
 rw[wpOps_cons];unfold wpOp;rw[hi];simp only;rw[show Region.wanted o (yielded ops a.tmps)=true from by unfold Region.wanted;rw[hg],if_pos rfl];left;unfold Oper.wp;rw[hr];exact hk
section
variable{Γ:List aE}
theorem Ew(k d:Int)(n:Nat)(hn:n≤1000):au tb Tryz.prog 71 [.int .u8 k,.int .u8 d,.int .i64 (n:Int)] Γ (fun v Δ=>∃u:Sl,v=.agg #[.int .u8 k,.int .u8 d,bz u]∧Δ=[BF u (List.replicate n 0)]):=by
 refine au.of_W aB Tryz.func71 rfl ?_;refine S3 [] [] 1 1 n [.int .u8 0] (List.replicate n (.int .u8 0)) .i64 .i64 aB (by simp[madeCells,Nat.mod_one,List.map_const']) (by omega) (by decide) (fun g=>?_);refine DL [] [] g (List.replicate n (.int .u8 0)) ?_;exact W.r [] (.agg #[.int .u8 k,.int .u8 d,.slice (some ⟨g,0,none⟩) n n]) ⟨⟨some ⟨g,0,none⟩,n,n⟩,rfl,rfl⟩ (fun I w _ hh=>aV (Jm (by omega) hh.h0'))
theorem lZ(s:ByteArray)(i:Sl){l:List Im} [h:aZ (uv i) l Γ](hs:s.size≤1000000):au tb Tryz.prog 19 [.string s,bz i] Γ (fun v Δ=>∃u:Sl,v=mq u i∧Δ=[xL u i (eP s l)]):=by
 refine au.of_W aB Tryz.func19 rfl ?_;refine S3 [] [] 1 1 24 [.int .u8 0] (List.replicate 24 (.int .u8 0)) .i64 .i64 aB (by kernel_rfl) (by decide) (by decide) (fun g=>?_);refine aj [] (gN 5 2 ⟨some ⟨g,0,none⟩,24,24⟩) ?_;rintro _ _ ⟨rfl,rfl⟩;refine aj [] (xh s hs) ?_;rintro _ _ ⟨u3,rfl,rfl⟩;refine aj [] (gN 6 6 u3) ?_;rintro _ _ ⟨rfl,rfl⟩;refine cI [] 2 [.int .u8 5,.int .u8 2,.slice (some ⟨g,0,none⟩) 24 24,.int .u8 6,.int .u8 6,bz u3] aB (fun B=>?_);refine DL [] [] g (List.replicate 24 (.int .u8 0)) ?_;exact W.r [] (.agg #[.slice (some ⟨B,0,none⟩) 2 2,bz i]) ⟨⟨some ⟨B,0,none⟩,2,2⟩,rfl,rfl⟩ (fun I w _ hh=>aV ⟨rZ [⟨⟨some ⟨g,0,none⟩,24,24⟩,⟨5,2,List.replicate 24 0⟩⟩,⟨u3,⟨6,6,mz s⟩⟩] (by simp) (aZ.p (k:=dY B) inferInstance hh) (fun e he=>by
  simp only[aD,aC,bp]at he;rcases he with rfl|rfl
  ·exact h_ (by decide) (by decide) (Jm (by decide) hh.h0')
  ·exact h_ (by decide) (by decide) (aZ.p (k:=BF u3) inferInstance hh)),h.p (fun F hF=>hh F (by simp[hF]))⟩)
theorem R8(s:ByteArray)(x y:Int)(hs:s.size≤1000000):au tb Tryz.prog 18 [.string s,.int .i64 x,.int .i64 y] Γ (fun v Δ=>∃u:Sl,v=mq u ⟨none,0,0⟩∧Δ=[mr u ⟨none,0,0⟩ (k8 s x y)]):=by
 refine au.of_W aB Tryz.func18 rfl ?_;refine aj [] (gN 10 0 ⟨none,0,0⟩) ?_;rintro _ _ ⟨rfl,rfl⟩;refine aj [] (xh s hs) ?_;rintro _ _ ⟨u2,rfl,rfl⟩;refine aj [] (gN 18 6 u2) ?_;rintro _ _ ⟨rfl,rfl⟩;refine cI [] 2 [.int .i64 x,.int .i64 y] aB (fun b4=>?_);refine gI [] (Γ':=[NL ⟨some ⟨b4,0,none⟩,2,2⟩ [x,y]]) (fun I w _ hh=>aV (tN (l:=[x,y]) (by simp) hh.h0')) (ri ⟨some ⟨b4,0,none⟩,2,2⟩ (l:=[x,y]) (by simp)) ?_;rintro _ _ ⟨u5,rfl,rfl⟩;refine aj [] (gN 16 3 u5) ?_;rintro _ _ ⟨rfl,rfl⟩;refine cI [] 3 [.int .u8 10,.int .u8 0,.slice none 0 0,.int .u8 18,.int .u8 6,bz u2,.int .u8 16,.int .u8 3,bz u5] aB (fun B=>?_);exact W.r [] (.agg #[.slice (some ⟨B,0,none⟩) 3 3,.slice none 0 0]) ⟨⟨some ⟨B,0,none⟩,3,3⟩,rfl,rfl⟩ (fun I w _ hh=>aV ⟨rZ [⟨⟨none,0,0⟩,⟨10,0,[]⟩⟩,⟨u2,⟨18,6,mz s⟩⟩,⟨u5,⟨16,3,[x,y].flatMap lB⟩⟩] (by simp) (aZ.p (k:=dY B) inferInstance hh) (fun e he=>by
  simp only[aD,aC,bp]at he;rcases he with rfl|rfl|rfl
  ·exact h_ (by decide) (by decide) (qB _ _ _)
  ·exact h_ (by decide) (by decide) (aZ.p (k:=BF u2) inferInstance hh)
  ·exact h_ (by decide) (by decide) (aZ.p (k:=BF u5) inferInstance hh)),xC _ _⟩)
theorem Xo{fn:Func}{rc:Code}{c:VS}{post:Value→List aE→Prop}{I:f_}{w w1:World}{a:Act}{ρ:Nat→Nat}(h:W tb Tryz.prog (Fin tb fn post) ⟨c,[.code rc]⟩ Γ)(hs:iw tb w ⟨I,fun _=>False,[]⟩ Γ c a w1 ρ):
  rc.wp Tryz.prog (bodyPost Tryz.prog fn fun e w'=>∃v Δ,e=.returned v∧post v Δ∧Below w.heap.size w w'∧aG Δ (fun b=>b<w.heap.size→I b) w') a w1:=by
 have:=h.sound (w0:=w) (I0:=⟨I,fun _=>False,[]⟩) (Q:=bodyPost Tryz.prog fn fun e w'=>∃v Δ,e=.returned v∧post v Δ∧Below w.heap.size w w'∧aG Δ (fun b=>b<w.heap.size→I b) w') aB (fun l a w h=>h) (fun s Γ a w' ρ hfin hs=>by
  obtain⟨v,Δ,hv,hp,zK⟩:=hfin;have hr:=zX aB hs hv;have yU:∃v' Δ',Ending.returned v=.returned v'∧post v' Δ'∧Below w.heap.size w w'∧aG Δ' (fun b=>b<w.heap.size→I b) w':=
   ⟨v,Δ,rfl,hp,hs.below.below,(zK _ _ hs.dataOK hs.facts).up (fun b _ hI hl=>(hI.1 hl).elim id (fun h=>h.elim)) (fun _ _ _=>rfl) (ai _)⟩
  exact⟨⟨hs.defers,v,hr,yU⟩,⟨hs.defers,v,hr,yU⟩⟩) (fun ch _ _ h _ _=>h.elim) rfl
 rw[dB rfl]at this;exact this a w1 ρ hs
def nZ(b1:Nat):VS:=⟨[.ptr 0 0,.ptr 1 0,.val (.slice (some ⟨b1,0,none⟩) 2 2),.val (.slice (some ⟨b1,0,none⟩) 2 2),.val (.agg #[.int .u8 2,.int .u8 6,.slice (some ⟨b1,0,none⟩) 2 2])]++List.replicate 6 (.val undef),
 [some [.slice none 0 0,.slice none 0 0],some [.int .u8 2,.int .u8 6,.slice (some ⟨b1,0,none⟩) 2 2]]++List.replicate 9 none,[],[]⟩
theorem KR(b1:Nat){Γ:List aE} [h:aZ (BF ⟨some ⟨b1,0,none⟩,2,2⟩) [108,98] Γ]:
  W tb Tryz.prog (Fin tb Tryz.f40 (fun v Δ=>∃u:Sl,v=mq u ⟨none,0,0⟩∧Δ=[nX u CC])) ⟨nZ b1,[.code (IV Tryz.f40)]⟩ Γ:=by
 refine aj [] (Ew 0 2 2 (by decide)) ?_;rintro _ _ ⟨u3,rfl,rfl⟩;refine aj [] (Ew 1 2 24 (by decide)) ?_;rintro _ _ ⟨u4,rfl,rfl⟩;refine aj [] (Ew 3 5 16 (by decide)) ?_;rintro _ _ ⟨u5,rfl,rfl⟩;refine cI [] 4 [.int .u8 0,.int .u8 2,bz u3,.int .u8 1,.int .u8 2,bz u4,.int .u8 2,.int .u8 6,.slice (some ⟨b1,0,none⟩) 2 2,.int .u8 3,.int .u8 5,bz u5] aB (fun B=>?_);exact W.r [] (.agg #[.slice (some ⟨B,0,none⟩) 4 4,.slice none 0 0]) ⟨⟨some ⟨B,0,none⟩,4,4⟩,rfl,rfl⟩ (fun I w _ hh=>aV (rZ [⟨u3,⟨0,2,List.replicate 2 0⟩⟩,⟨u4,⟨1,2,List.replicate 24 0⟩⟩,⟨⟨some ⟨b1,0,none⟩,2,2⟩,⟨2,6,[108,98]⟩⟩,⟨u5,⟨3,5,List.replicate 16 0⟩⟩] (by simp) (aZ.p (k:=dY B) inferInstance hh) (fun e he=>by
  simp only[aD,aC,bp]at he;rcases he with rfl|rfl|rfl|rfl
  ·exact h_ (by decide) (by decide) (aZ.p (k:=BF u3) inferInstance hh)
  ·exact h_ (by decide) (by decide) (aZ.p (k:=BF u4) inferInstance hh)
  ·exact h_ (by decide) (by decide) (aZ.p (k:=BF ⟨some ⟨b1,0,none⟩,2,2⟩) inferInstance hh)
  ·exact h_ (by decide) (by decide) (aZ.p (k:=BF u5) inferInstance hh))))
theorem Wq:au tb Tryz.prog 40 [] Γ (fun v Δ=>∃u:Sl,v=mq u ⟨none,0,0⟩∧Δ=[nX u CC]):=by
 refine⟨⟨_,Tryz.func40,by kernel_rfl,by kernel_rfl⟩,fun I w hd hh=>?_⟩;obtain⟨w1,hw1⟩:∃w1,w1=w.alloc (.cells #[.slice none 0 0,.slice none 0 0] 25):=⟨_,rfl⟩;obtain⟨b0,hb0⟩:∃b,b=w.heap.size:=⟨_,rfl⟩;obtain⟨b1,hb1⟩:∃b,b=w1.heap.size:=⟨_,rfl⟩;obtain⟨w3,hw3⟩:∃w3,w3=w1.alloc (.cells #[.int .u8 108,.int .u8 98] 5 (2,3)):=⟨_,rfl⟩;obtain⟨b2,hb2⟩:∃b,b=w3.heap.size:=⟨_,rfl⟩;obtain⟨w4,hw4⟩:∃w4,w4=w3.alloc (.cells #[.int .u8 0,.int .u8 0,.slice none 0 0] 45):=⟨_,rfl⟩;obtain⟨w5,hw5⟩:∃w5,w5=((w4.setCell ⟨b2,0,none⟩ (.int .u8 2)).setCell ⟨b2,1,none⟩ (.int .u8 6)).setCell ⟨b2,2,none⟩ (.slice (some ⟨b1,0,none⟩) 2 2):=⟨_,rfl⟩;have hs1:w1.heap.size=w.heap.size+1:=by rw[hw1];simp
 have hs3:w3.heap.size=w.heap.size+2:=by rw[hw3,World.size_alloc,hs1]
 have hs4:w4.heap.size=w.heap.size+3:=by rw[hw4,World.size_alloc,hs3]
 have Zo:w5.heap.size=w.heap.size+3:=by rw[hw5,pK,pK,pK,hs4]
 have q0:w4.heap[b2]? =some (.cells #[.int .u8 0,.int .u8 0,.slice none 0 0] 45 (0,0)):=by rw[hw4,hb2];exact mS _ _
 have q1:=jm (o:=0) (v:=.int .u8 2) q0;have q2:=jm (o:=1) (v:=.int .u8 6) q1;have q3:=jm (o:=2) (v:=.slice (some ⟨b1,0,none⟩) 2 2) q2;rw[←hw5]at q3;have Wp:∀k,k≠b2→w5.heap[k]? =w4.heap[k]? :=fun k hk=>by rw[hw5,eS hk,eS hk,eS hk]
 have g1:w5.heap[b1]? =some (.cells #[.int .u8 108,.int .u8 98] 5 (2,3)):=by
  rw[Wp b1 (by omega),hw4,jA (by omega),hw3,hb1];exact mS _ _
 have g0:w5.heap[b0]? =some (.cells #[.slice none 0 0,.slice none 0 0] 25 (0,0)):=by
  rw[Wp b0 (by omega),hw4,jA (by omega),hw3,jA (by omega),hw1,hb0];exact mS _ _
 have hold:∀k,k<w.heap.size→w5.heap[k]? =w.heap[k]? :=fun k hk=>by
  rw[Wp k (by omega),hw4,jA (by omega),hw3,jA (by omega),hw1,jA hk]
 have key:=Xo (I:=I) (w:=w) (w1:=w5) (a:={tmps:= #[fp b0,fp b2,.slice (some ⟨b1,0,none⟩) 2 2,.slice (some ⟨b1,0,none⟩) 2 2,.agg #[.int .u8 2,.int .u8 6,.slice (some ⟨b1,0,none⟩) 2 2],undef,undef,undef,undef,undef,undef],defers:=[]})
  (ρ:=fun t=>if t=0 then b0 else b2) (KR b1 (Γ:=BF ⟨some ⟨b1,0,none⟩,2,2⟩ [108,98]::Γ)) ?_
 ·refine calls_of_wp Tryz.func40 rfl ?_;refine wp_seq (wp_region ?_);show wpOps Tryz.prog _ _ [0] _ _;refine tG (v:=fp b0) (w':=w1) rfl rfl (by rw[hb0,hw1];kernel_rfl) ?_;refine wp_seq (wp_region ?_);show wpOps Tryz.prog _ _ [0,1,2,3,4] _ _;refine tG (v:=.slice (some ⟨b1,0,none⟩) 2 2) (w':=w1.alloc (.cells #[.int .u8 108,.int .u8 98] 5)) rfl rfl (by rw[hb1];kernel_rfl) ?_;refine tG (v:=.slice (some ⟨b1,0,none⟩) 2 2) (w':=w3) rfl rfl (by
   have hcv:=Joins.run_convert_bytes_const_at (P:=Tryz.prog) w1 28 5 #[.int .u8 108,.int .u8 98] 2 2 b1 hb1 Tryz.underlying28 Tryz.underlying5;simp[execOp,go_sem,hcv,hw3]) ?_
  refine tG (v:=.agg #[.int .u8 2,.int .u8 6,.slice (some ⟨b1,0,none⟩) 2 2]) (w':=w3) rfl rfl (by kernel_rfl) ?_;refine tG (v:=fp b2) (w':=w4) rfl rfl (by rw[hb2,hw4];kernel_rfl) ?_;refine Rk (w':=w5) rfl rfl (by
   have c0:=ov (o:=0) q0;have z0:=uF (o:=0) q0;have c1:=ov (o:=1) q1;have z1:=uF (o:=1) q1;have c2:=ov (o:=2) q2;have z2:=uF (o:=2) q2;rw[hw5];simp[execOp,go_sem,storeCells,c0,z0,c1,z1,c2,z2]) ?_
  refine Eq.mp ?_ key;kernel_rfl
 ·have hbx:∀t cs,(nZ b1).boxes[t]? =some (some cs)→(t=0∧cs=[.slice none 0 0,.slice none 0 0])∨(t=1∧cs=[.int .u8 2,.int .u8 6,.slice (some ⟨b1,0,none⟩) 2 2]):=fun t cs ht=>by
   match t,ht with
   |0,ht=>exact .inl ⟨rfl,by injection ht with ht;injection ht with ht;exact ht.symm⟩
   |1,ht=>exact .inr ⟨rfl,by injection ht with ht;injection ht with ht;exact ht.symm⟩
   |t+2,ht=>
    exfalso
    have:(List.replicate 9 (none:Option (List Value)))[t]? =some (some cs):=ht;rw[cW]at this;split at this<;>simp at this
  refine⟨rfl,rfl,fun i sv hi=>?_,?_,fun t cs ht=>?_,fun t u cs cs' ht hu e=>?_,fun i t off hi=>?_,hd,?_,fun b cs hc=>by simp[nZ]at hc,fun b cs hc=>by simp[nZ]at hc,fun b cs hc=>by simp[nZ]at hc,by simp[nZ],fun b m hm=>by simp[nZ]at hm,fun b m hm=>by simp[nZ]at hm,by simp[nZ]⟩
  ·match i,hi with
   |0,hi=>injection hi with hi;subst hi;rfl
   |1,hi=>injection hi with hi;subst hi;rfl
   |2,hi=>injection hi with hi;subst hi;rfl
   |3,hi=>injection hi with hi;subst hi;rfl
   |4,hi=>injection hi with hi;subst hi;rfl
   |5,hi=>injection hi with hi;subst hi;rfl
   |6,hi=>injection hi with hi;subst hi;rfl
   |7,hi=>injection hi with hi;subst hi;rfl
   |8,hi=>injection hi with hi;subst hi;rfl
   |9,hi=>injection hi with hi;subst hi;rfl
   |10,hi=>injection hi with hi;subst hi;rfl
   |i+11,hi=>exact absurd hi (by simp[nZ])
  ·exact⟨by rw[hw5,hw4,hw3,hw1];rfl,by rw[hw5,hw4,hw3,hw1];rfl,by rw[hw5,hw4,hw3,hw1];rfl,by omega,fun k hk _=>hold k hk⟩
  ·rcases hbx t cs ht with⟨rfl,rfl⟩|⟨rfl,rfl⟩
   ·exact⟨by simp only[eW];omega,_,(by decide+kernel:tb.dat 25=false),g0⟩
   ·exact⟨by simp only[Nat.one_ne_zero,ea];omega,_,(by decide+kernel:tb.dat 45=false),q3⟩
  ·rcases hbx t cs ht with⟨rfl,_⟩|⟨rfl,_⟩<;>rcases hbx u cs' hu with⟨rfl,_⟩|⟨rfl,_⟩
   ·rfl
   ·simp only[eW,Nat.one_ne_zero,ea]at e;omega
   ·simp only[eW,Nat.one_ne_zero,ea]at e;omega
   ·rfl
  ·match i,hi with
   |0,hi=>injection hi with hi;injection hi with h1 h2;subst h1;exact⟨_,rfl⟩
   |1,hi=>injection hi with hi;injection hi with h1 h2;subst h1;exact⟨_,rfl⟩
   |2,hi=>simp[nZ]at hi
   |3,hi=>simp[nZ]at hi
   |4,hi=>simp[nZ]at hi
   |i+5,hi=>
    exfalso
    have:(List.replicate 6 (SV.val undef))[i]? =some (.ptr t off):=hi;rw[cW]at this;split at this<;>simp at this
  ·have hI:∀b,(b<w.heap.size∧I b)∨b=b1→Uv w ⟨I,fun _=>False,[]⟩ (fun t=>if t=0 then b0 else b2) (nZ b1) b:=fun b hb=>by
    refine⟨fun hl=>.inl ?_,fun t cs ht e=>?_,fun cs hc=>by simp[nZ]at hc,fun m hm=>by simp[nZ]at hm⟩
    ·rcases hb with h|h
     ·exact h.2
     ·omega
    ·rcases hbx t cs ht with⟨rfl,_⟩|⟨rfl,_⟩
     ·simp only[eW]at e;rcases hb with h|h<;>omega
     ·simp only[Nat.one_ne_zero,ea]at e;rcases hb with h|h<;>omega
   refine aG.cons ⟨rfl,⟨ai _,by show 2≤maxLen;decide⟩,fun z hz=>?_,fun _=>⟨b1,0,rfl,hI b1 (.inr rfl),fun i v hv=>?_⟩⟩ (hh.up (fun b hb h=>hI b (.inl ⟨hb,h⟩)) (fun b hb _=>hold b hb) (by omega))
   ·simp only[aD,aC,bp]at hz;rcases hz with rfl|rfl<;>decide
   ·rw[cz];simp only[World.cell?,g1,lq,iK,ea];rw[←eT];exact hv
theorem xe(c:Sl){cs:List Ce} [h:aZ (pE c) cs Γ]:au tb Tryz.prog 25 [bz c] Γ (fun v Δ=>∃u:Sl,v=mq u c∧Δ=[Hy u c ⟨CC,cs⟩]):=by
 refine au.of_W aB Tryz.func25 rfl ?_;refine aj [] Wq ?_;rintro _ _ ⟨u,rfl,rfl⟩;exact W.r [] (.agg #[bz u,bz c]) ⟨u,rfl,rfl⟩ (fun I w _ hh=>aV ⟨hh.h0',h.p (fun F hF=>hh F (by simp[hF]))⟩)
end
theorem qT(l:List Dp):(l.flatMap pO).length=2*l.length:=by
 induction l with
 |nil=>rfl
 |cons d l ih=>
  rw[bj,az,ih];simp only[pO,aF,bE];omega
theorem AE:∀{l:List Dp} {i:Nat} {x:Dp},l[i]? =some x→∀(j:Nat) (v:Value),(d_ x)[j]? =some v→(l.flatMap d_)[i*2+j]? =some v
 | [],i,x,h,j,v,hv=>by simp at h
 |d::l,0,x,h,j,v,hv=>by
  simp only[gX,aq]at h;subst h;rw[bj,ln,cz,dD (List.getElem?_eq_some_iff.1 hv).1];exact hv
 |d::l,i+1,x,h,j,v,hv=>by
  rw[bj,e_ (by simp;omega)];have:=AE (l:=l) (i:=i) h j v hv;rw[←this];congr 1;simp;omega
theorem pP{T:Tb}{Γ:List aE}(b off:Nat){l:List Dp} [h:aZ (RA (some ⟨b,off,none⟩)) (l.flatMap d_) Γ]{i:Nat}{x:Dp}(hx:l[i]? =some x)(j:Nat){v:Value}(hv:(d_ x)[j]? =some v):∀I w,bB T I w→aG Γ I w→w.cell? ⟨b,off+i*2+j,none⟩=some v:=fun I w _ hh=>by
 rw[ij];exact RA.cell (h.p hh) (AE hx j v hv)
section
variable{Γ:List aE}
theorem GN(a k:Int)(po:Option Addr)(pn pc:Nat){ps:List Dp} [h:aZ (RA po) (ps.flatMap d_) Γ](hn:pn=ps.length)(hl:ps.length≤1000):
  au tb Tryz.prog 20 [.int .i64 a,.int .i64 k,.slice po pn pc] Γ (fun v Δ=>∃u:Sl,v=mq u ⟨none,0,0⟩∧Δ=[mr u ⟨none,0,0⟩ (cL a k ps)]):=by
 refine au.of_W aB Tryz.func20 rfl ?_;refine j0 [] [7,8] (fun q:SO=>[(7,q.v),(8,.int .i64 q.z)]) (fun _=>[]) (fun q=>q.O) (fun _=>[RA po (ps.flatMap d_)]) (fun q=>q.z=(q.i:Int)∧q.i≤ps.length∧cG 1 q.O q.v (2*q.i) ((ps.take q.i).flatMap d_)) (fun q=>ps.length-q.i) ⟨0,0,.slice none 0 0,[]⟩ ⟨rfl,aM _,cG.nil 1⟩ (eC eK eE) ?_;rintro⟨i,z,v,O⟩ K ⟨hz,hi,hg⟩ close;simp only at hz hi hg;by_cases hlt:i<ps.length
 ·obtain⟨x,hx⟩:∃x,ps[i]? =some x:=⟨_,ar hlt⟩;refine Fb po (xs:=ps.flatMap d_) (fun e=>by
   have:=AE hx 0 _ rfl;rw[e]at this;simp at this) ?_
  rintro b off rfl;refine bD [] 12 (decide (z<(pn:Int))) (aw (by omega)) ?_;refine cA [12] 2 b off pn pc .i64 i z hz aB (by omega) ?_;refine cr [] 0 b (off+i*2) aB ?_;refine eg [] 1 b (off+i*2+0) (.int .i64 x.x) aB (pP b off hx 0 rfl) ?_;refine cA [] 2 b off pn pc .i64 i z hz aB (by omega) ?_;refine cr [] 1 b (off+i*2) aB ?_;refine eg [] 1 b (off+i*2+1) (.int .i64 x.y) aB (pP b off hx 1 rfl) ?_;refine cI [] 2 [.int .i64 x.x,.int .i64 x.y] aB (fun B=>?_);refine W.app [] O [] O [] 1 8 (2*i) 2 v (.slice (some ⟨B,0,none⟩) 2 2) ((ps.take i).flatMap d_) [.int .i64 x.x,.int .i64 x.y] aB (by simp) hg (bW B O 2 1 rfl 2) (F7 (l:=[x.x,x.y])) (by omega) (by decide) (fun v' O' hg'=>?_);refine close [] _ _ ⟨i+1,IntKind.i64.wrap (z+1),v',O'⟩ (by kernel_rfl) (by simp only[aA,af];kernel_rfl) ⟨by simp only[ah];omega,by simp only;omega,cG.cast ?_ (by simp only;omega) hg'⟩ (by simp only;omega) (eC eK eE);simp only;rw[yD d_ hx]
 refine aS [] 12 (decide (z<(pn:Int))) (ak (by omega)) ?_;obtain rfl:i=ps.length:=by omega
 rw[aW (ai _)]at hg;by_cases h0:0<ps.length
 ·obtain⟨x,hx⟩:∃x,ps[0]? =some x:=⟨_,ar h0⟩;have hc:g8 ps=ps++[x]:=by
   unfold g8;cases ps with
   |nil=>simp at h0
   |cons d l=>
    simp only[gX,aq]at hx;subst hx;rfl
  have JA:(g8 ps).length=ps.length+1:=by rw[hc];simp
  have hcd:(g8 ps).flatMap d_=ps.flatMap d_++[.int .i64 x.x,.int .i64 x.y]:=by rw[hc,bA];simp
  refine Fb po (xs:=ps.flatMap d_) (fun e=>by
   have:=AE hx 0 _ rfl;rw[e]at this;simp at this) ?_
  rintro b off rfl;refine bD [12] 30 (decide ((pn:Int)>0)) (aw (by omega)) ?_;refine cA [30] 2 b off pn pc .i64 0 0 rfl aB (by omega) ?_;refine cr [] 0 b (off+0*2) aB ?_;refine eg [] 1 b (off+0*2+0) (.int .i64 x.x) aB (pP b off hx 0 rfl) ?_;refine cA [] 2 b off pn pc .i64 0 0 rfl aB (by omega) ?_;refine cr [] 1 b (off+0*2) aB ?_;refine eg [] 1 b (off+0*2+1) (.int .i64 x.y) aB (pP b off hx 1 rfl) ?_;refine cI [] 2 [.int .i64 x.x,.int .i64 x.y] aB (fun B0=>?_);refine W.app [] O [] O [] 1 8 (2*ps.length) 2 v (.slice (some ⟨B0,0,none⟩) 2 2) (ps.flatMap d_) [.int .i64 x.x,.int .i64 x.y] aB (by simp) hg (bW B0 O 2 1 rfl 2) (F7 (l:=[x.x,x.y])) (by omega) (by decide) (fun v' O' hg'=>?_);have hg2:=hg';refine lQ (by simp only[aA,af];kernel_rfl) hg2 (fun ao c' hv hc'=>?_);subst hv;have hcm:c'≤maxLen:=oZ hg2;refine aj [] (gN 8 0 ⟨none,0,0⟩) ?_;rintro _ _ ⟨rfl,rfl⟩;refine cI [] 1 [.int .i64 a] aB (fun b15=>?_);refine gI [] (Γ':=[NL ⟨some ⟨b15,0,none⟩,1,1⟩ [a]]) (fun I w _ hh=>aV (tN (l:=[a]) (by simp) hh.h0')) (pg ⟨some ⟨b15,0,none⟩,1,1⟩ (l:=[a]) (by simp)) ?_;rintro _ _ ⟨u16,rfl,rfl⟩;refine aj [] (gN 13 2 u16) ?_;rintro _ _ ⟨rfl,rfl⟩;refine cI [] 1 [.int .i64 k] aB (fun L8=>?_);refine gI [] (Γ':=[NL ⟨some ⟨L8,0,none⟩,1,1⟩ [k]]) (fun I w _ hh=>aV (tN (l:=[k]) (by simp) hh.h0')) (pg ⟨some ⟨L8,0,none⟩,1,1⟩ (l:=[k]) (by simp)) ?_
  rintro _ _ ⟨Sy,rfl,rfl⟩;refine aj [] (gN 14 2 Sy) ?_;rintro _ _ ⟨rfl,rfl⟩;refine gI [] (Γ':=[NL ⟨ao,(2*ps.length+2),c'⟩ ((g8 ps).flatMap pO)]) (fun I w _ hh=>aV ⟨by have e:=qT (g8 ps);rw[JA]at e;simp only;omega,⟨hc',hcm⟩,by rw[yM,hcd];exact aZ.p (k:=RA ao) inferInstance hh⟩) (ri ⟨ao,(2*ps.length+2),c'⟩ (l:=(g8 ps).flatMap pO) (by rw[qT,JA];omega)) ?_;rintro _ _ ⟨Sz,rfl,rfl⟩;refine aj [] (gN 16 3 Sz) ?_;rintro _ _ ⟨rfl,rfl⟩;refine cI [] 4 [.int .u8 8,.int .u8 0,.slice none 0 0,.int .u8 13,.int .u8 2,bz u16,.int .u8 14,.int .u8 2,bz Sy,.int .u8 16,.int .u8 3,bz Sz] aB (fun B=>?_);exact W.r [] (.agg #[.slice (some ⟨B,0,none⟩) 4 4,.slice none 0 0]) ⟨⟨some ⟨B,0,none⟩,4,4⟩,rfl,rfl⟩ (fun I w _ hh=>aV ⟨rZ [⟨⟨none,0,0⟩,⟨8,0,[]⟩⟩,⟨u16,⟨13,2,[a].flatMap sB⟩⟩,⟨Sy,⟨14,2,[k].flatMap sB⟩⟩,⟨Sz,⟨16,3,((g8 ps).flatMap pO).flatMap lB⟩⟩] (by simp) (aZ.p (k:=dY B) inferInstance hh) (fun e he=>by
   simp only[aD,aC,bp]at he;rcases he with rfl|rfl|rfl|rfl
   ·exact h_ (by decide) (by decide) (qB _ _ _)
   ·exact h_ (by decide) (by decide) (aZ.p (k:=BF u16) inferInstance hh)
   ·exact h_ (by decide) (by decide) (aZ.p (k:=BF Sy) inferInstance hh)
   ·exact h_ (by decide) (by decide) (aZ.p (k:=BF Sz) inferInstance hh)),xC _ _⟩)
 ·have hps:ps=[]:=aL (by omega);have JA:(g8 ps).length=ps.length:=by rw[hps];rfl
  have hcd:(g8 ps).flatMap d_=ps.flatMap d_:=by rw[hps];rfl
  refine aS [12] 30 (decide ((pn:Int)>0)) (ak (by omega)) ?_;have hg2:=hg;refine lQ (by simp only[aA,af];kernel_rfl) hg2 (fun ao c' hv hc'=>?_);subst hv;have hcm:c'≤maxLen:=oZ hg2;refine aj [30] (gN 8 0 ⟨none,0,0⟩) ?_;rintro _ _ ⟨rfl,rfl⟩;refine cI [] 1 [.int .i64 a] aB (fun b15=>?_);refine gI [] (Γ':=[NL ⟨some ⟨b15,0,none⟩,1,1⟩ [a]]) (fun I w _ hh=>aV (tN (l:=[a]) (by simp) hh.h0')) (pg ⟨some ⟨b15,0,none⟩,1,1⟩ (l:=[a]) (by simp)) ?_;rintro _ _ ⟨u16,rfl,rfl⟩;refine aj [] (gN 13 2 u16) ?_;rintro _ _ ⟨rfl,rfl⟩;refine cI [] 1 [.int .i64 k] aB (fun L8=>?_);refine gI [] (Γ':=[NL ⟨some ⟨L8,0,none⟩,1,1⟩ [k]]) (fun I w _ hh=>aV (tN (l:=[k]) (by simp) hh.h0')) (pg ⟨some ⟨L8,0,none⟩,1,1⟩ (l:=[k]) (by simp)) ?_;rintro _ _ ⟨Sy,rfl,rfl⟩;refine aj [] (gN 14 2 Sy) ?_;rintro _ _ ⟨rfl,rfl⟩;refine gI [] (Γ':=[NL ⟨ao,(2*ps.length),c'⟩ ((g8 ps).flatMap pO)]) (fun I w _ hh=>aV ⟨by have e:=qT (g8 ps);rw[JA]at e;simp only;omega,⟨hc',hcm⟩,by rw[yM,hcd];exact aZ.p (k:=RA ao) inferInstance hh⟩) (ri ⟨ao,(2*ps.length),c'⟩ (l:=(g8 ps).flatMap pO) (by rw[qT,JA];omega)) ?_;rintro _ _ ⟨Sz,rfl,rfl⟩;refine aj [] (gN 16 3 Sz) ?_;rintro _ _ ⟨rfl,rfl⟩;refine cI [] 4 [.int .u8 8,.int .u8 0,.slice none 0 0,.int .u8 13,.int .u8 2,bz u16,.int .u8 14,.int .u8 2,bz Sy,.int .u8 16,.int .u8 3,bz Sz] aB (fun B=>?_)
  exact W.r [] (.agg #[.slice (some ⟨B,0,none⟩) 4 4,.slice none 0 0]) ⟨⟨some ⟨B,0,none⟩,4,4⟩,rfl,rfl⟩ (fun I w _ hh=>aV ⟨rZ [⟨⟨none,0,0⟩,⟨8,0,[]⟩⟩,⟨u16,⟨13,2,[a].flatMap sB⟩⟩,⟨Sy,⟨14,2,[k].flatMap sB⟩⟩,⟨Sz,⟨16,3,((g8 ps).flatMap pO).flatMap lB⟩⟩] (by simp) (aZ.p (k:=dY B) inferInstance hh) (fun e he=>by
   simp only[aD,aC,bp]at he;rcases he with rfl|rfl|rfl|rfl
   ·exact h_ (by decide) (by decide) (qB _ _ _)
   ·exact h_ (by decide) (by decide) (aZ.p (k:=BF u16) inferInstance hh)
   ·exact h_ (by decide) (by decide) (aZ.p (k:=BF Sy) inferInstance hh)
   ·exact h_ (by decide) (by decide) (aZ.p (k:=BF Sz) inferInstance hh)),xC _ _⟩)
end
def mT:ByteArray:=⟨#[97]⟩
def jL:ByteArray:=⟨#[116,111,112]⟩
def jU:Im:=⟨[⟨10,0,[]⟩,⟨18,6,mz mT⟩,⟨26,1,[0,0]⟩,⟨28,5,[66,90,0,0,0,0,0,0]⟩,⟨16,3,[100,0].flatMap lB⟩],[]⟩
def kD:Li:=⟨CC,[eP mT [cL 1 0 [⟨0,0⟩,⟨10,0⟩,⟨10,10⟩,⟨0,10⟩]],eP jL [jU]]⟩
theorem y5:valid kD=true:=by decide+kernel
theorem Ir:lost kD.c=false:=by decide+kernel
theorem AX:dep kD.c 64 0=some 1:=by decide+kernel
theorem AY:dep kD.c 64 1=some 2:=by decide+kernel
theorem Iq:yN kD.c=false:=by decide+kernel
theorem Ga:total kD.c=1:=by decide+kernel
def kC:List Dp:=[⟨100,0⟩,⟨100,10⟩,⟨90,10⟩,⟨90,0⟩]
theorem Ll:Iu kD.c=.ok [⟨1,0,kC⟩]:=by kernel_rfl
theorem mP(n:Int)(h0:0≤n)(h1:n≤100000):vh kD n=if 1>n then .error 27 else .ok [⟨1,0,kC⟩]:=by
 have hl:kD.c.length=2:=rfl;unfold vh;rw[if_neg (by omega),if_neg (by rw[y5];simp)];unfold wJ;rw[Ir,if_neg (by simp),if_neg (by
  rintro⟨c,hc,h⟩;rw[hl]at hc;have:c=0∨c=1:=by omega
  rcases this with rfl|rfl
  ·exact h 1 ⟨64,AX⟩
  ·exact h 2 ⟨64,AY⟩),if_neg (by
  rintro(h|⟨c,hc,h⟩)
  ·rw[Iq]at h;simp at h
  ·rw[hl]at hc;have:c=0∨c=1:=by omega
   rcases this with rfl|rfl
   ·rw[AX]at h;simp at h
   ·rw[AY]at h;simp at h),Ga,Ll]
theorem Oq(z:Int):(r2 (z:Rat) 0).nr=z:=by
 have h0:(r2 0 0).nr=0:=by decide+kernel
 have h1:(r2 1 0).nr=1:=by decide+kernel
 have key:∀(r:Int) (q:Int),(r2 (r:Rat) 0).nr=r→(r2 ((r+(q+q):Int):Rat) 0).nr=r+(q+q):=fun r q h=>by
  have:=HJ (r2 (r:Rat) 0) (show(0:Int)≤2 by decide) (show(0:Int)≤0 by decide) q;rw[h]at this;rw[show r2 ((r+(q+q):Int):Rat) 0=(r2 (r:Rat) 0).add ⟨(r2 (r:Rat) 0).m,(r2 (r:Rat) 0).n,((q+q:Int):Rat),0,0,0⟩by
   refine Sn.ext' rfl rfl ?_ ?_ ?_ ?_ <;>simp only[Sn.add,r2,fV]<;>grind]
  rw[this];omega
 have:=key (z % 2) (z/2) (by
  rcases(show z % 2=0∨z % 2=1 by omega)with h|h<;>rw[h]
  ·exact h0
  ·exact h1)
 rw[show z % 2+(z/2+z/2)=z by omega]at this;exact this
def Gv(x y:Int):On:=⟨false,0,1,(x:Rat),0,(y:Rat),0⟩
theorem Ud{a b c d:Rat}(h:a=c)(g:b=d):r2 a b=r2 c d:=by rw[h,g]
theorem ZC(x y a b:Int):(Gv x y).X (a:Rat) (b:Rat)=r2 ((a+x:Int):Rat) 0:=by
 have hm:(Gv x y).mag=1:=by rfl
 unfold On.X;refine Ud ?_ ?_
 ·unfold On.u0 tm1 On.sg;rw[hm];simp only[Gv,pc,GW,ps,G6,fV];simp;grind
 ·unfold On.u1 tm2 On.sg;rw[hm];simp only[Gv,pc,GW,ps,G6];simp
  try grind
theorem ZD(x y a b:Int):(Gv x y).Y (a:Rat) (b:Rat)=r2 ((b+y:Int):Rat) 0:=by
 have hm:(Gv x y).mag=1:=by rfl
 unfold On.Y;refine Ud ?_ ?_
 ·unfold On.v0 tm1 On.sg;rw[hm];simp only[Gv,pc,GW,ps,G6,fV];simp;grind
 ·unfold On.v1 tm2 On.sg;rw[hm];simp only[Gv,pc,GW,ps,G6];simp
  try grind
theorem RK(x y:Int):(Gv x y).then yg=Gv x y:=by
 have hm:yg.mag=1:=by rfl
 have hm':(Gv x y).mag=1:=by rfl
 unfold On.then
 rw[hm,hm'];unfold On.u0 On.u1 On.v0 On.v1 tm1 tm2 On.sg;rw[hm];simp[Gv,yg,pc,GW,ps,G6]
 try grind
theorem lG{α:Type}(f:α→LR)(a:α)(l:List α):gl f (a::l)=match f a with
  | .error e=>.error e
  | .ok s=>match gl f l with
   | .error e=>.error e
   | .ok s'=>.ok (s++s'):=rfl
theorem BO{α:Type}(f:α→LR):∀a b:List α,gl f (a++b)=match gl f a with
  | .error e=>.error e
  | .ok s=>match gl f b with
   | .error e=>.error e
   | .ok s'=>.ok (s++s')
 | [],b=>by
  simp only[aA,gl];cases gl f b<;>rfl
 |x::a,b=>by
  rw[dO,lG,lG,BO f a b];cases f x with
  |error e=>rfl
  |ok s=>
   simp only;cases gl f a with
   |error e=>rfl
   |ok s1=>
    simp only;cases gl f b with
    |error e=>rfl
    |ok s2=>simp
theorem yB{α β:Type}(f:β→LR)(g:α→List β):∀l:List α,gl (fun a=>gl f (g a)) l=gl f (l.flatMap g)
 | []=>rfl
 |a::l=>by
  rw[bj,BO,←yB f g l];rfl
theorem Hf{α β:Type}(f:β→LR)(g:α→β):∀l:List α,gl (fun a=>f (g a)) l=gl f (l.map g)
 | []=>rfl
 |a::l=>by
  rw[b_,lG,lG,Hf f g l]
theorem BP{α:Type}(f:α→LR)(a:α):gl f [a]=f a:=by
 rw[lG];cases f a with
 |error e=>rfl
 |ok s=>simp[gl]
theorem Hg{α:Type}{f:α→LR}:∀{l:List α},(∀a∈l,∃s,f a=.ok s)→∃s,gl f l=.ok s
 | [],_=>⟨[],rfl⟩
 |a::l,h=>by
  obtain⟨s,hs⟩:=h a (by simp);obtain⟨s',hs'⟩:=Hg (l:=l) fun b hb=>h b (by simp[hb]);exact⟨s++s',by rw[lG,hs,hs']⟩
theorem CR:∀{l:List (Sn×Sn)},(∀p∈l,yW p.1.nr∧yW p.2.nr)→∃q,iZ l=.ok q
 | [],_=>⟨[],rfl⟩
 |p::l,h=>by
  obtain⟨q,hq⟩:=CR (l:=l) fun x hx=>h x (by simp[hx]);exact⟨⟨p.1.nr,p.2.nr⟩::q,by unfold iZ;rw[if_pos (h p (by simp)),hq]⟩
structure qL(B:Im)(l:List Im):Prop where
 ok:hZ B
 kind:cC B=8
 right:gU B=true
 none:iB B=none
 refs:∀x∈l,hZ x∧(cC x=10∨cC x=11)∧gU x=true∧iB x=some [97]
 some:l≠ []
def gn(B:Im)(l:List Im):Li:=⟨CC,[eP mT [B],eP jL l]⟩
theorem Dv(B:Im)(l:List Im):DZ (eP mT [B])=mT∧DZ (eP jL l)=jL:=⟨by kernel_rfl,by kernel_rfl⟩
theorem Kv(B:Im)(l:List Im):nC (gn B l).c mT=some 0∧nC (gn B l).c jL=some 1:=by
 obtain⟨h1,h2⟩:=Dv B l;have hne:¬jL=mT:=by decide
 have hc:(gn B l).c=[eP mT [B],eP jL l]:=rfl;rw[hc];unfold nC sE;rw[h1,if_pos rfl,if_neg hne];refine⟨rfl,?_⟩;unfold sE;rw[h2,if_pos rfl]
theorem qL.kidB{B:Im}{l:List Im}(h:qL B l):mu (gn B l).c B=Option.none:=by unfold mu;rw[h.none];rfl
theorem qL.kid{B:Im}{l:List Im}(h:qL B l){x:Im}(hx:x∈l):mu (gn B l).c x=Option.some 0:=by
 unfold mu;rw[(h.refs x hx).2.2.2];exact(Kv B l).1
theorem qL.kids0{B:Im}{l:List Im}(h:qL B l):fB (gn B l).c 0=[]:=by
 show [B].filterMap (mu (gn B l).c)=[];rw[List.filterMap_cons_none h.kidB];rfl
theorem qL.kids1{B:Im}{l:List Im}(h:qL B l):fB (gn B l).c 1=l.map fun _=>0:=by
 show l.filterMap (mu (gn B l).c)=_;have:∀m:List Im,(∀x∈m,x∈l)→m.filterMap (mu (gn B l).c)=m.map fun _=>0:=by
  intro m
  induction m with
  |nil=>intro _;rfl
  |cons x m ih=>
   intro hm;rw[List.filterMap_cons_some (h.kid (hm x (by simp))),ih fun y hy=>hm y (by simp[hy])];rfl
 exact this l fun x hx=>hx
theorem qL.valid{B:Im}{l:List Im}(h:qL B l):valid (gn B l)=true:=uo.2 ⟨(uo.1 y5).1,fun c hc=>by
 simp only[gn,aD,aC,bp]at hc;rcases hc with rfl|rfl
 ·exact⟨show dk [5,6,308] (AL mT++[iI 7])=Option.some (AL mT,[iI 7])from by kernel_rfl,fun x hx=>by
   simp only[eP,aD,aC,bp]at hx;subst hx;exact h.ok⟩
 ·exact⟨show dk [5,6,308] (AL jL++[iI 7])=Option.some (AL jL,[iI 7])from by kernel_rfl,fun x hx=>(h.refs x hx).1⟩⟩
theorem qL.lost{B:Im}{l:List Im}(h:qL B l):lost (gn B l).c=false:=by
 unfold YtgaaopjagcaojaaGreat.lost;rw[gC];intro c hc;simp only[gn,aD,aC,bp]at hc;unfold qZ;rcases hc with rfl|rfl
 ·show ¬([B].any fun x=>(iB x).isSome&&(mu (gn B l).c x).isNone)=true;simp[h.none]
 ·show ¬(l.any fun x=>(iB x).isSome&&(mu (gn B l).c x).isNone)=true;simp only[Bool.not_eq_true];rw[gC];intro x hx;rw[h.kid hx];simp
theorem qL.dep0{B:Im}{l:List Im}(h:qL B l)(n:Nat):dep (gn B l).c (n+1) 0=Option.some 1:=by
 unfold dep;rw[h.kids0];rfl
theorem qL.dep1{B:Im}{l:List Im}(h:qL B l)(n:Nat):dep (gn B l).c (n+2) 1=Option.some 2:=by
 rw[dep,h.kids1];have:∀(m:List Im) (k:Nat),(m≠ []∨k=1)→k≤1→js (dep (gn B l).c (n+1)) (m.map fun _=>0) k=Option.some 1:=by
  intro m
  induction m with
  |nil=>
   intro k hk _;rcases hk with hk|hk
   ·exact absurd rfl hk
   ·subst hk;rfl
  |cons x m ih=>
   intro k _ hk;rw[b_,js,h.dep0];simp only;rw[show max k 1=1 by omega];exact ih 1 (.inr rfl) (by omega)
 rw[this l 0 (.inl h.some) (by omega)];rfl
theorem qL.named0{B:Im}{l:List Im}(h:qL B l):mR (gn B l).c 0=true:=by
 unfold mR;rw[zh];refine⟨1,by simp[gn],?_⟩;rw[h.kids1];cases hl:l with
 |nil=>exact absurd hl h.some
 |cons x m=>simp
theorem qL.named1{B:Im}{l:List Im}(h:qL B l):mR (gn B l).c 1=false:=by
 unfold mR;rw[gC];intro a ha;have:a=0∨a=1:=by
  simp[gn]at ha;omega
 rcases this with rfl|rfl
 ·rw[h.kids0];simp
 ·rw[h.kids1];simp
theorem qL.cnt0{B:Im}{l:List Im}(h:qL B l)(n:Nat):jF (gn B l).c (n+1) 0=1:=by
 unfold jF;show([B].map (jd (gn B l).c (jF (gn B l).c n))).sum=1;simp only[b_,cZ,fA,uY];unfold jd;rw[if_pos (.inl h.kind)];rfl
theorem qL.cntR{B:Im}{l:List Im}(h:qL B l){x:Im}(hx:x∈l)(n:Nat):jd (gn B l).c (jF (gn B l).c (n+1)) x=(aT x).1*(aT x).2:=by
 obtain⟨_,hk,_⟩:=h.refs x hx;unfold jd;rw[if_neg (by omega),if_neg (by omega),if_pos hk,h.kid hx];simp only;rw[h.cnt0,Int.one_mul]
theorem qL.total{B:Im}{l:List Im}(h:qL B l):total (gn B l).c=(l.map fun x=>(aT x).1*(aT x).2).sum:=by
 unfold Go.Proofs.YtgaaopjagcaojaaGreat.total;show([0,1].map (ox (gn B l).c)).sum=_;simp only[b_,cZ,fA,uY];unfold ox;rw[if_pos h.named0,if_neg (by rw[h.named1];simp)];unfold jF;show 0+((l.map (jd (gn B l).c (jF (gn B l).c 63))).sum+0)=_;rw[nQ (fun x hx=>h.cntR hx 62)];omega
theorem qL.layB{B:Im}{l:List Im}(h:qL B l)(n:Nat)(V:On):fH (gn B l).c (n+1) 0 V=fy B ((a_ B).dropLast.map (s_ V)):=by
 unfold fH;show gl (iW (gn B l).c n (fH (gn B l).c n) V) [B]=_;rw[BP];unfold iW;rw[if_pos (.inl h.kind)]
theorem qL.layR{B:Im}{l:List Im}(h:qL B l){x:Im}(hx:x∈l)(n:Nat)(V:On):iW (gn B l).c (n+1) (fH (gn B l).c (n+1)) V x=
  gl (fun U=>fy B ((a_ B).dropLast.map (s_ U))) ((List.range (aT x).2.toNat).flatMap fun k:Nat=>(List.range (aT x).1.toNat).map fun i:Nat=>(lz x i k).then V):=by
 obtain⟨_,hk,_⟩:=h.refs x hx;unfold iW;rw[if_neg (by omega),if_neg (by omega),if_pos hk];unfold mY;rw[h.kid hx];simp only;rw[if_neg (by rw[h.cnt0];decide),←yB];simp only[h.layB];congr 1;funext k;exact Hf (fun U=>fy B ((a_ B).dropLast.map (s_ U))) (fun i:Nat=>(lz x i k).then V) _
theorem qL.lay{B:Im}{l:List Im}(h:qL B l):Iu (gn B l).c=gl (fun U=>fy B ((a_ B).dropLast.map (s_ U))) (l.flatMap fun x=>(List.range (aT x).2.toNat).flatMap fun k:Nat=>(List.range (aT x).1.toNat).map fun i:Nat=>(lz x i k).then yg):=by
 unfold Iu;show gl (Ch (gn B l).c) ([0]++[1])=_;rw[BO,BP,BP];unfold Ch;rw[if_pos h.named0,if_neg (by rw[h.named1];simp)];simp only[aA];have:fH (gn B l).c 64 1 yg=gl (fun U=>fy B ((a_ B).dropLast.map (s_ U))) (l.flatMap fun x=>(List.range (aT x).2.toNat).flatMap fun k:Nat=>(List.range (aT x).1.toNat).map fun i:Nat=>(lz x i k).then yg):=by
  rw[fH,←yB];show gl (iW (gn B l).c 63 (fH (gn B l).c 63) yg) l=_;have:∀m:List Im,(∀x∈m,x∈l)→gl (iW (gn B l).c 63 (fH (gn B l).c 63) yg) m=gl (fun x=>gl (fun U=>fy B ((a_ B).dropLast.map (s_ U))) ((List.range (aT x).2.toNat).flatMap fun k:Nat=>(List.range (aT x).1.toNat).map fun i:Nat=>(lz x i k).then yg)) m:=by
   intro m
   induction m with
   |nil=>intro _;rfl
   |cons x m ih=>
    intro hm;rw[lG,lG,h.layR (hm x (by simp)) 62,ih fun y hy=>hm y (by simp[hy])]
  exact this l fun x hx=>hx
 rw[this];cases gl (fun U=>fy B ((a_ B).dropLast.map (s_ U))) (l.flatMap fun x=>(List.range (aT x).2.toNat).flatMap fun k:Nat=>(List.range (aT x).1.toNat).map fun i:Nat=>(lz x i k).then yg)<;>rfl
theorem qL.feat{B:Im}{l:List Im}(h:qL B l):yN (gn B l).c=false:=by
 obtain⟨e1,e2⟩:=Kv B l;obtain⟨n1,n2⟩:=Dv B l;unfold yN;rw[mB];refine⟨?_,?_⟩
 ·show tz (gn B l).c [eP mT [B],eP jL l] 0=false;unfold tz;rw[n1,e1];unfold tz;rw[n2,e2];rfl
 ·rw[gC];intro c hc;simp only[gn,aD,aC,bp]at hc;rw[Bool.not_eq_true,gC];rcases hc with rfl|rfl
  ·intro x hx;simp only[eP,aD,aC,bp]at hx;subst hx;rw[h.right];simp
  ·intro x hx;rw[(h.refs x hx).2.2.1];simp
theorem qL.deps{B:Im}{l:List Im}(h:qL B l){c:Nat}(hc:c<(gn B l).c.length):∃d,dep (gn B l).c 64 c=Option.some d:=by
 have:c=0∨c=1:=by
  simp[gn]at hc;omega
 rcases this with rfl|rfl
 ·exact⟨1,h.dep0 63⟩
 ·exact⟨2,h.dep1 62⟩
theorem qL.flat{B:Im}{l:List Im}(h:qL B l){n:Int}(h0:0≤n)(h1:n≤100000)(ht:(l.map fun x=>(aT x).1*(aT x).2).sum≤n):vh (gn B l) n=
  gl (fun U=>fy B ((a_ B).dropLast.map (s_ U))) (l.flatMap fun x=>(List.range (aT x).2.toNat).flatMap fun k:Nat=>(List.range (aT x).1.toNat).map fun i:Nat=>(lz x i k).then yg):=by
 unfold vh;rw[if_neg (by omega),if_neg (by rw[h.valid];simp)];unfold wJ;rw[if_neg (by rw[h.lost];simp),if_neg (fun⟨c,hc,hd⟩=>by
  obtain⟨d,he⟩:=h.deps hc;exact hd d ⟨64,he⟩),if_neg (by
  rintro(h2|⟨c,hc,hd⟩)
  ·rw[h.feat]at h2;simp at h2
  ·obtain⟨d,he⟩:=h.deps hc;rw[he]at hd;simp at hd),if_neg (by rw[h.total];omega),h.lay]
end Go.Proofs.YtgaaopjagcaojaaGreat
