import Derived.WalkKit
import Derived.WalkSpells
import Derived.WalkLawsBesides
import Derived.Lib.Hide
import Derived.Test.YtgaaopjagcaojaaGreatMaths
import Derived.Test.YtgaaopjagcaojaaGreatProg
import Derived.KernelRfl
import Derived.Lib.Strings
import Derived.Lib.Slices
import Derived.Lib.Small
import Derived.Lib.Walk
import Derived.Lib.BitFns
import Derived.Deep.RegionHeld3
import Derived.Deep.RegionWith
import Derived.Deep.DrawnRows
import Derived.BigRegion
import Derived.Deep.Upon
import Derived.Deep.AppendSrc
import Derived.RegionTactic
import Derived.Deep.QuietTactic
import Derived.BigQuiet
set_option linter.unusedSimpArgs false
set_option linter.unusedVariables false
set_option maxHeartbeats 4000000
namespace Go.Proofs.YtgaaopjagcaojaaGreat
open Go.RowKit
abbrev bk:=@Go.Lib.hid
abbrev fg:=@Go.bodyPost_ret
abbrev jP:=@Go.below_drewN
structure Sl where
 ao:Option Addr
 n:Nat
 c:Nat
def dd(w:World)(T:TypeId)(k:IntKind)(s:Sl)(l:List Nat):Prop:=
 s.n=l.length∧s.n≤s.c∧s.c≤9223372036854775807∧
  (0<s.n→∃b off cur,s.ao=some ⟨b,off,none⟩∧w.heap[b]? =some (.cells cur T (0,0))∧off+s.c≤cur.size∧∀i,i<s.n→cur[off+i]? =some (.int k ((dg l i:Nat):Int)))
def Kp(w w':World):Prop:=∀(b:Nat) (cur:Array Value) (T:TypeId) (f:Nat×Nat),(T=273∨T=3∨T=5)→w.heap[b]? =some (Obj.cells cur T f)→w'.heap[b]? =some (Obj.cells cur T f)
theorem lT{B:Nat}{w w':World}(h:Below B w.drew w'):Below B w w':=⟨h.os,h.tape,h.output,h.size,h.block⟩
theorem Kp.refl(w:World):Kp w w:=fun _ _ _ _ _ h=>h
theorem Kp.trans{w w' w'':World}(h:Kp w w')(h':Kp w' w''):Kp w w'':=fun b c T f hT hb=>h' b c T f hT (h b c T f hT hb)
theorem Kp.below{w w' w'':World}(h:Kp w w')(hb:Below w'.heap.size w' w''):Kp w w'':=fun b c T f hT hw=>by
 have h1:=h b c T f hT hw;rw[hb.block b (Array.getElem?_eq_some_iff.1 h1).1];exact h1
theorem Kp.setCell{w w':World}(h:Kp w w'){a:Addr}{c:Array Value}{T:TypeId}{f:Nat×Nat}(hb:w'.heap[a.block]? =some (.cells c T f))(hT:¬(T=273∨T=3∨T=5))(v:Value):Kp w (w'.setCell a v):=fun b c' T' f' hT' hw=>by
 have h1:=h b c' T' f' hT' hw;have:b≠a.block:=by
  rintro rfl;rw[h1]at hb;injection hb with hb;injection hb with _ hb _;exact hT (hb▸hT')
 rw[Below.heap_setCell _ _ _ _ this];exact h1
theorem dd.kp{w w':World}{T:TypeId}{k:IntKind}{s:Sl}{l:List Nat}(h:dd w T k s l)(hT:T=273∨T=3∨T=5)(hk:Kp w w'):dd w' T k s l:=by
 obtain⟨h1,h2,h3,h4⟩:=h;refine⟨h1,h2,h3,fun hp=>?_⟩;obtain⟨b,off,cur,ha,hb,hr⟩:=h4 hp;exact⟨b,off,cur,ha,hk _ _ _ _ hT hb,hr⟩
theorem dd.up{w w':World}{T:TypeId}{k:IntKind}{s:Sl}{l:List Nat}(h:dd w T k s l)(hb:Below w.heap.size w w'):dd w' T k s l:=by
 obtain⟨h1,h2,h3,h4⟩:=h;refine⟨h1,h2,h3,fun hp=>?_⟩;obtain⟨b,off,cur,ha,hh,hr⟩:=h4 hp;exact⟨b,off,cur,ha,by rw[hb.block b (Array.getElem?_eq_some_iff.1 hh).1];exact hh,hr⟩
theorem dd.open{w:World}{T:TypeId}{k:IntKind}{s:Sl}{l:List Nat}(h:dd w T k s l)(hp:0<s.n):
  ∃b off,s.ao=some ⟨b,off,none⟩∧b<w.heap.size∧∀i,i<s.n→w.cell? ⟨b,off+i,none⟩=some (.int k ((dg l i:Nat):Int)):=by
 obtain⟨h1,h2,h3,h4⟩:=h;obtain⟨b,off,cur,ha,hh,hc,hr⟩:=h4 hp;refine⟨b,off,ha,(Array.getElem?_eq_some_iff.1 hh).1,fun i hi=>?_⟩;rw[cell_of_row w b (off+i) cur T (0,0) hh];exact hr i hi
theorem dd.cut{w:World}{T:TypeId}{k:IntKind}{s:Sl}{l:List Nat}(h:dd w T k s l)(j c:Nat)(hj:j≤s.n)(hc:j≤c)(hc':c≤s.c):dd w T k ⟨s.ao,j,c⟩ (l.take j):=by
 obtain⟨h1,h2,h3,h4⟩:=h;refine⟨by simp;omega,hc,by simp;omega,fun hp=>?_⟩;simp only at hp;obtain⟨b,off,cur,ha,hh,hcc,hr⟩:=h4 (by omega);refine⟨b,off,cur,ha,hh,by simp;omega,fun i hi=>?_⟩;simp only at hi;rw[hr i (by omega)];simp[dg,hi]
theorem dd.nil(w:World)(T:TypeId)(k:IntKind)(ao:Option Addr)(c:Nat)(hc:c≤9223372036854775807):dd w T k ⟨ao,0,c⟩ []:=⟨rfl,aM _,hc,fun h=>absurd h (by simp)⟩
theorem Ad{w:World}{base:Nat}{T:TypeId}{k:IntKind}{v:Value}{l:List Nat}(h:w.ownsRow base T 1 v l.length (l.map fun d=>Value.int k ((d:Nat):Int))):
  ∃s:Sl,v=.slice s.ao s.n s.c∧dd w T k s l:=by
 obtain⟨h1,h2⟩:=h;rcases h2 with⟨rfl,h2⟩|⟨g,cap,cur,rfl,_,hg,hnc,hcm,hcs,htake⟩
 ·have:l=[]:=aL h2;subst this;exact⟨⟨none,0,0⟩,rfl,dd.nil _ _ _ _ _ (by omega)⟩
 ·refine⟨⟨some ⟨g,0,none⟩,l.length,cap⟩,rfl,rfl,hnc,by unfold maxLen at hcm;simpa using hcm,fun _=>⟨g,0,cur,rfl,hg,by simp only[fO]at hcs;simp[hcs],fun i hi=>?_⟩⟩;simp only at hi;have h3:(cur.toList.take (l.length*1))[i]? =(l.map fun d=>Value.int k ((d:Nat):Int))[i]? :=by rw[htake]
  rw[List.getElem?_take_of_lt (by omega)]at h3;simp only[cz];simpa [dg,hi]using h3
theorem dd.of_row{w:World}{T:TypeId}{k:IntKind}{b:Nat}{cur:Array Value}(l:List Nat)(h:w.heap[b]? =some (.cells cur T (0,0)))(hc:cur=(l.map fun d=>Value.int k ((d:Nat):Int)).toArray)(hl:l.length≤9223372036854775807):dd w T k ⟨some ⟨b,0,none⟩,l.length,l.length⟩ l:=by
 subst hc;exact⟨rfl,ai _,hl,fun _=>⟨b,0,_,rfl,h,by simp,fun i hi=>by simp only at hi;simp[dg,hi]⟩⟩
def dU(w:World)(s:Sl)(x:Nat):Prop:=∃l:List Nat,dd w 273 .u32 s l∧(∀d∈l,d<4294967296)∧qO l∧val 4294967296 l=x
def Aj(w:World)(s:Sl)(x:Nat):Prop:=∃l:List Nat,dd w 3 .i64 s l∧(∀d∈l,d<10000)∧qO l∧val 10000 l=x
theorem dU.kp{w w':World}{s:Sl}{x:Nat}(h:dU w s x)(hk:Kp w w'):dU w' s x:=by
 obtain⟨l,h1,h2⟩:=h;exact⟨l,h1.kp (.inl rfl) hk,h2⟩
theorem Aj.kp{w w':World}{s:Sl}{x:Nat}(h:Aj w s x)(hk:Kp w w'):Aj w' s x:=by
 obtain⟨l,h1,h2⟩:=h;exact⟨l,h1.kp (.inr (.inl rfl)) hk,h2⟩
theorem dU.up{w w':World}{s:Sl}{x:Nat}(h:dU w s x)(hb:Below w.heap.size w w'):dU w' s x:=h.kp ((Kp.refl w).below hb)
theorem Aj.up{w w':World}{s:Sl}{x:Nat}(h:Aj w s x)(hb:Below w.heap.size w w'):Aj w' s x:=h.kp ((Kp.refl w).below hb)
theorem dU.nil(w:World)(ao:Option Addr)(c:Nat)(hc:c≤9223372036854775807):dU w ⟨ao,0,c⟩ 0:=⟨[],dd.nil _ _ _ _ _ hc,by simp,Gw,rfl⟩
theorem Aj.nil(w:World)(ao:Option Addr)(c:Nat)(hc:c≤9223372036854775807):Aj w ⟨ao,0,c⟩ 0:=⟨[],dd.nil _ _ _ _ _ hc,by simp,Gw,rfl⟩
theorem dU.zero_iff{w:World}{s:Sl}{x:Nat}(h:dU w s x):x=0↔s.n=0:=by
 obtain⟨l,h1,h2,h3,h4⟩:=h;rw[←h4,h3.zero_iff (by omega),h1.1];exact List.length_eq_zero_iff.symm
theorem dU.n_le{w w':World}{s t:Sl}{x y:Nat}(h:dU w s x)(h':dU w' t y)(hxy:x≤y):s.n≤t.n:=by
 obtain⟨l,h1,h2,h3,h4⟩:=h;obtain⟨m,g1,g2,g3,g4⟩:=h';rw[h1.1,g1.1];exact h3.len_le (by omega) g2 (by omega)
structure yI(t T:TypeId)(k:IntKind)(bytes:Nat):Prop where
 ut:Tryz.prog.underlying t=some (.slice T)
 inf:(Tryz.prog.info? T).map (fun i=>(i.zero,i.size,i.bytes))=some (some (.int k 0),1,bytes)
theorem iC:yI 108 273 .u32 4:=⟨Tryz.underlying108,by kernel_rfl⟩
theorem EK:yI 28 5 .u8 1:=⟨Tryz.underlying28,by kernel_rfl⟩
def iX(w:World)(base:Nat)(T:TypeId)(k:IntKind)(v:Value)(l:List Nat):Prop:=
 w.ownsRow base T 1 v l.length (l.map fun d=>Value.int k ((d:Nat):Int))
theorem iX.ints{w:World}{base:Nat}{T:TypeId}{k:IntKind}{v:Value}{l:List Nat}(h:iX w base T k v l):
  ∃s:Sl,v=.slice s.ao s.n s.c∧dd w T k s l:=Ad h
theorem iX.intsAt{w:World}{base:Nat}{T:TypeId}{k:IntKind}{ao:Option Addr}{n c:Nat}{l:List Nat}(h:iX w base T k (.slice ao n c) l):dd w T k ⟨ao,n,c⟩ l:=by
 obtain⟨s,hs,hi⟩:=h.ints;obtain⟨a,b,d⟩:=s;simp only[Value.slice.injEq]at hs;obtain⟨rfl,rfl,rfl⟩:=hs;exact hi
theorem iX.nil(w:World)(base:Nat)(T:TypeId)(k:IntKind):iX w base T k (.slice none 0 0) []:=World.ownsRow_nil w base T 1
theorem iX.below{w w':World}{base B:Nat}{T:TypeId}{k:IntKind}{v:Value}{l:List Nat}(h:iX w base T k v l)(hb:Below B w w')(hB:w.heap.size≤B):iX w' base T k v l:=by
 obtain⟨h1,h2⟩:=h;refine⟨h1,?_⟩;rcases h2 with h2|⟨g,cap,cur,hv,hbg,hg,hr⟩
 ·exact .inl h2
 ·exact .inr ⟨g,cap,cur,hv,hbg,by rw[hb.block g (cQ (Array.getElem?_eq_some_iff.1 hg).1 hB)];exact hg,hr⟩
theorem iX.alloc{w:World}{base:Nat}{T:TypeId}{k:IntKind}{v:Value}{l:List Nat}(h:iX w base T k v l)(o:Obj):iX (w.alloc o) base T k v l:=
 h.below ((Below.refl _ _).alloc (ai _) o) (ai _)
theorem oT{base:Nat}{w w':World}{row:Option Nat}(hg:w.grownBy w' row)(hB:base≤w.heap.size)(hr:∀k,row=some k→base≤k):Below base w w':=
 (Below.refl base w).grown hg hB hr
theorem fo{t T:TypeId}{k:IntKind}{bytes:Nat}(hT:yI t T k bytes)(w0:World){ops:Array Oper}{rest:List Oper}{o:Oper}{a:Act}{Q:Exit→Act→World→Prop}
  (hg:o.guard=none)(s x:Operand)(hop:o.op=Op.call {callee:=Callee.builtin Builtin.append,args:= #[s,x],argTypes:= #[t,t]})
  (base:Nat)(v:Value)(l:List Nat)(z:Int)(d:Nat)(hs:a.eval s=v)(hx:a.eval x=.slice (some ⟨w0.heap.size,0,none⟩) 1 1)
  (hown:iX w0 base T k v l)(hz:z=(d:Int))(hlen:(l.length+1)*bytes≤140737488355328)(hlm:l.length+1≤maxLen)(hbase:base≤w0.heap.size)
  (hK:∀v' w',iX w' base T k v' (l++[d])→Below base w0 w'→wpList Tryz.prog ops Q rest (a.put o.dst v') w'):
  wpList Tryz.prog ops Q (o::rest) a (w0.alloc (.cells #[.int k z] T)):=by
 obtain⟨i0,hi,hz0,hz1,hz2⟩:=info_parts hT.inf;refine wpList_append_own _ hg s x t hop base T i0 (.int k 0) 1 bytes hT.ut hi hz0 hz1 hz2 rfl (by decide) v l.length _ hs (hown.alloc _) ⟨w0.heap.size,0,none⟩ 1 1 [.int k z] hx rfl (cell_one_new _ _ _) ?_ hlm hlen (by simp;omega) ?_
 ·intro u hu;simp at hu;subst hu;rfl
 ·intro v' w' h1 h2 _;refine hK v' w' ?_ ?_
  ·unfold iX;subst hz;simpa using h1
  ·exact((Below.refl base w0).alloc hbase _).grown h2 (by simp;omega) (fun g hgv=>(hown.lt g hgv).1)
theorem uV{t T:TypeId}{k:IntKind}{bytes:Nat}(hT:yI t T k bytes)(w0:World){ops:Array Oper}{rest:List Oper}{o:Oper}{a:Act}{Q:Exit→Act→World→Prop}
  (hg:o.guard=none)(l c:Operand)(hop:o.op=Op.makeSlice t l c)(base:Nat)(kl kc:IntKind)(C:Int)(n:Nat)(hl:a.eval l=.int kl 0)(hc:a.eval c=.int kc C)(hC:C=(n:Int))
  (hbytes:bytes*n≤281474976710656)(hn:n≤maxLen)(hbase:base≤w0.heap.size)
  (hK:∀v' w',iX w' base T k v' []→Below base w0 w'→wpList Tryz.prog ops Q rest (a.put o.dst v') w'):
  wpList Tryz.prog ops Q (o::rest) a w0:=by
 obtain⟨i0,hi,hz0,hz1,hz2⟩:=info_parts hT.inf;refine wpList_make_own _ hg l c t hop base T i0 (.int k 0) 1 hT.ut hi hz0 hz1 kl kc C n hl hc hC (by rw[hz2];exact hbytes) hn hbase ?_;intro w' h1 h2;exact hK _ w' h1 (oT h2 hbase (by simp))
theorem vu{t T:TypeId}{k:IntKind}{bytes:Nat}(hT:yI t T k bytes)(w0:World){ops:Array Oper}{rest:List Oper}{o:Oper}{a:Act}{Q:Exit→Act→World→Prop}
  (hg:o.guard=none)(l c:Operand)(hop:o.op=Op.makeSlice t l c)(base:Nat)(kl kc:IntKind)(L C:Int)(n:Nat)(hl:a.eval l=.int kl L)(hc:a.eval c=.int kc C)(hL:L=(n:Int))(hC:C=(n:Int))
  (hbytes:bytes*n≤281474976710656)(hn:n≤maxLen)(hbase:base≤w0.heap.size)
  (hK:∀w',iX w' base T k (.slice (some ⟨w0.heap.size,0,none⟩) n n) (List.replicate n 0)→Below base w0 w'→w0.heap.size<w'.heap.size→wpList Tryz.prog ops Q rest (a.put o.dst (.slice (some ⟨w0.heap.size,0,none⟩) n n)) w'):
  wpList Tryz.prog ops Q (o::rest) a w0:=by
 obtain⟨i0,hi,hz0,hz1,hz2⟩:=info_parts hT.inf;refine wpList_make_full _ hg l c t hop base T i0 (.int k 0) 1 hT.ut hi hz0 hz1 kl kc L C n hl hc hL hC (by rw[hz2];exact hbytes) hn hbase ?_;intro w' h1 h2;refine hK w' ?_ (oT h2 hbase (by simp)) ?_
 ·unfold iX;have e:(madeCells (Value.int k 0).cells (n*1)).toList=(List.replicate n 0).map fun d=>Value.int k ((d:Nat):Int):=by
   apply rC (by simp[madeCells]);intro j h1 h2;simp[madeCells,Value.cells,Nat.mod_one]
  rw[e]at h1;simpa using h1
 ·have:=(h1.lt w0.heap.size rfl).2;exact this
theorem B8{t T:TypeId}{k:IntKind}{bytes:Nat}(hT:yI t T k bytes)(w0:World){ops:Array Oper}{rest:List Oper}{o:Oper}{a:Act}{Q:Exit→Act→World→Prop}
  (hg:o.guard=none)(l c:Operand)(hop:o.op=Op.makeSlice t l c)(base:Nat)(kl kc:IntKind)(L C:Int)(n:Nat)(hl:a.eval l=.int kl L)(hc:a.eval c=.int kc C)(hL:L=(n:Int))(hC:C=(n:Int))
  (hbytes:bytes*n≤281474976710656)(hn:n≤maxLen)(hbase:base≤w0.heap.size)
  (hK:∀w',iX w' base T k (.slice (some ⟨w0.heap.size,0,none⟩) n n) (List.replicate n 0)→Below w0.heap.size w0 w'→w0.heap.size<w'.heap.size→wpList Tryz.prog ops Q rest (a.put o.dst (.slice (some ⟨w0.heap.size,0,none⟩) n n)) w'):
  wpList Tryz.prog ops Q (o::rest) a w0:=by
 obtain⟨i0,hi,hz0,hz1,hz2⟩:=info_parts hT.inf;refine wpList_make_full _ hg l c t hop base T i0 (.int k 0) 1 hT.ut hi hz0 hz1 kl kc L C n hl hc hL hC (by rw[hz2];exact hbytes) hn hbase ?_;intro w' h1 h2;refine hK w' ?_ (oT h2 (ai _) (by simp)) ?_
 ·unfold iX;have e:(madeCells (Value.int k 0).cells (n*1)).toList=(List.replicate n 0).map fun d=>Value.int k ((d:Nat):Int):=by
   apply rC (by simp[madeCells]);intro j h1 h2;simp[madeCells,Value.cells,Nat.mod_one]
  rw[e]at h1;simpa using h1
 ·have:=(h1.lt w0.heap.size rfl).2;exact this
theorem B9{t T:TypeId}{k:IntKind}{bytes:Nat}(hT:yI t T k bytes)(w0:World){ops:Array Oper}{rest:List Oper}{o:Oper}{a:Act}{Q:Exit→Act→World→Prop}
  (hg:o.guard=none)(s x:Operand)(hop:o.op=Op.call {callee:=Callee.builtin Builtin.append,args:= #[s,x],argTypes:= #[t,t]})
  (base:Nat)(v:Value)(l l2:List Nat)(sl:Sl)(hs:a.eval s=v)(hx:a.eval x=.slice sl.ao sl.n sl.c)
  (hown:iX w0 base T k v l)(hi:dd w0 T k sl l2)(hp:0<sl.n)(hlen:(l.length+l2.length)*bytes≤140737488355328)(hlm:l.length+l2.length≤maxLen)(hbase:base≤w0.heap.size)
  (hK:∀v' w',iX w' base T k v' (l++l2)→Below base w0 w'→wpList Tryz.prog ops Q rest (a.put o.dst v') w'):
  wpList Tryz.prog ops Q (o::rest) a w0:=by
 obtain⟨i0,hi0,hz0,hz1,hz2⟩:=info_parts hT.inf;obtain⟨b,off,ha,hb,hc⟩:=hi.open hp;have hn:=hi.1;refine wpList_append_own _ hg s x t hop base T i0 (.int k 0) 1 bytes hT.ut hi0 hz0 hz1 hz2 rfl (by decide) v l.length _ hs hown ⟨b,off,none⟩ sl.n sl.c (l2.map fun d=>Value.int k ((d:Nat):Int)) (by rw[hx,ha]) (by simp[hn]) ?_ ?_ (by rw[hn];exact hlm) (by rw[hn];exact hlen) hbase ?_
 ·intro j u hj;simp only[bN,Option.map_eq_some_iff]at hj;obtain⟨d,hd,rfl⟩:=hj;have hjl:j<l2.length:=(List.getElem?_eq_some_iff.1 hd).1;have:=hc j (by omega);rw[tx hjl]at this;have e:l2[j]=d:=(List.getElem?_eq_some_iff.1 hd).2;rw[e]at this;rw[←this];unfold Addr.add;split
  ·rename_i h0;subst h0;rfl
  ·rfl
 ·intro u hu;simp only[Af]at hu;obtain⟨d,_,rfl⟩:=hu;rfl
 ·intro v' w' h1 h2 _;refine hK v' w' ?_ ((Below.refl base w0).grown h2 hbase (fun g hgv=>(hown.lt g hgv).1));unfold iX;rw[az,aX,←hn];exact h1
theorem EV{t T:TypeId}{k:IntKind}{bytes:Nat}(hT:yI t T k bytes)(w0:World){ops:Array Oper}{rest:List Oper}{o:Oper}{a:Act}{Q:Exit→Act→World→Prop}
  (hg:o.guard=none)(l c:Operand)(hop:o.op=Op.makeSlice t l c)(base:Nat)(kl kc:IntKind)(L C:Int)(m n:Nat)(hl:a.eval l=.int kl L)(hc:a.eval c=.int kc C)(hL:L=(m:Int))(hC:C=(n:Int))(hmn:m≤n)
  (hbytes:bytes*n≤281474976710656)(hn:n≤maxLen)(hbase:base≤w0.heap.size)
  (hK:∀v' w',iX w' base T k v' (List.replicate m 0)→Below base w0 w'→w0.heap.size<w'.heap.size→wpList Tryz.prog ops Q rest (a.put o.dst v') w'):
  wpList Tryz.prog ops Q (o::rest) a w0:=by
 obtain⟨i0,hi,hz0,hz1,hz2⟩:=info_parts hT.inf;have hnm:n≤9223372036854775807:=by have:=hn;simp only[maxLen]at this;omega
 have hr:=run_make (P:=Tryz.prog) w0 t T i0 (.int k 0) hT.ut hi hz0 kl kc (m:Int) (n:Int) (by omega) (by omega) (by rw[hz2,←dp];omega) (by omega);simp only[gB,hz1,fO]at hr;refine wpList_plain hg fun K hK'=>?_;subst hL;subst hC;unfold Oper.wp;simp[execOp,hop,hl,hc,hr,Result.andThen];refine hK' _ _ (hK _ _ ?_ ((Below.refl base w0).alloc hbase _) (by simp));refine⟨by simp,.inr ⟨w0.heap.size,n,_,by simp,hbase,heap_alloc_new w0 _,by simpa using hmn,hn,by simp[madeCells],?_⟩⟩;apply rC (by simp[madeCells];omega);intro j h1 h2;simp[madeCells,Value.cells,Nat.mod_one]
theorem iX.slot{w:World}{base:Nat}{T:TypeId}{k:IntKind}{g n c:Nat}{l:List Nat}(h:iX w base T k (.slice (some ⟨g,0,none⟩) n c) l)(i:Nat)(hi:i<l.length):
  w.cell? ⟨g,i,none⟩=some (.int k ((dg l i:Nat):Int))∧w.frozen? ⟨g,i,none⟩=false∧base≤g∧g<w.heap.size:=by
 have hn:n=l.length:=by
  rcases h.2 with⟨e,_⟩|⟨_,_,_,e,_⟩
  ·simp at e
  ·simp at e;exact e.2.1
 subst hn;refine⟨?_,World.ownsRow.frozenAt h i,h.lt g rfl⟩;rw[World.ownsRow.cellAt h i (by omega)];simp[dg,hi]
theorem iX.store{w:World}{base:Nat}{T:TypeId}{k:IntKind}{g n c:Nat}{l:List Nat}(h:iX w base T k (.slice (some ⟨g,0,none⟩) n c) l)(i d:Nat):
  iX (w.setCell ⟨g,i,none⟩ (.int k ((d:Nat):Int))) base T k (.slice (some ⟨g,0,none⟩) n c) (l.set i d)∧Below base w (w.setCell ⟨g,i,none⟩ (.int k ((d:Nat):Int))):=by
 have hn:n=l.length:=by
  rcases h.2 with⟨e,_⟩|⟨_,_,_,e,_⟩
  ·simp at e
  ·simp at e;exact e.2.1
 subst hn;have h1:=World.ownsRow.stored h i (.int k ((d:Nat):Int));refine⟨?_,(Below.refl base w).setCell (h.lt g rfl).1 _⟩;have h2:=h1.1;unfold iX;rw[ft];rw[show(l.set i d).map (fun d=>Value.int k ((d:Nat):Int))=(l.map (fun d=>Value.int k ((d:Nat):Int))).set i (Value.int k ((d:Nat):Int))from by rw[List.map_set]];exact h2
theorem iX.store'{w:World}{base:Nat}{T:TypeId}{k:IntKind}{g n c:Nat}{l:List Nat}(h:iX w base T k (.slice (some ⟨g,0,none⟩) n c) l)(i:Nat)(z:Int)(d:Nat)(hz:z=(d:Int)):
  iX (w.setCell ⟨g,i,none⟩ (.int k z)) base T k (.slice (some ⟨g,0,none⟩) n c) (l.set i d)∧Below base w (w.setCell ⟨g,i,none⟩ (.int k z)):=by
 subst hz;exact h.store i d
theorem iX.set_ne{w:World}{base:Nat}{T:TypeId}{k:IntKind}{g n c:Nat}{l:List Nat}(h:iX w base T k (.slice (some ⟨g,0,none⟩) n c) l){a:Addr}(ha:g≠a.block)(u:Value):
  iX (w.setCell a u) base T k (.slice (some ⟨g,0,none⟩) n c) l:=by
 obtain⟨h1,h2⟩:=h;refine⟨h1,?_⟩;rcases h2 with⟨e,_⟩|⟨g',cap,cur,hv,hbg,hg,hr⟩
 ·simp at e
 ·simp only[Value.slice.injEq,aq,Addr.mk.injEq,and_true]at hv;obtain⟨rfl,hv1,hv2⟩:=hv;exact .inr ⟨g,cap,cur,by rw[hv1,hv2],hbg,by rw[Below.heap_setCell _ _ _ _ ha];exact hg,hr⟩
theorem lk(w:World)(o:Obj):(w.alloc o).heap[w.heap.size]? =some o:=heap_alloc_new w o
theorem kJ{w:World}{k:Nat}{o:Obj}(h:w.heap[k]? =some o)(o':Obj):(w.alloc o').heap[k]? =some o:=by
 rw[Below.heap_alloc w o' k (Array.getElem?_eq_some_iff.1 h).1];exact h
theorem cT{B:Nat}{w w':World}{k:Nat}{o:Obj}(hb:Below B w w')(hk:k<B)(h:w.heap[k]? =some o):w'.heap[k]? =some o:=(hb.block k hk).trans h
theorem bJ{w w':World}{k:Nat}{o:Obj}(hb:Below w.heap.size w w')(h:w.heap[k]? =some o):w'.heap[k]? =some o:=cT hb (Array.getElem?_eq_some_iff.1 h).1 h
theorem bQ{w:World}{b:Nat}{c:Array Value}{T:TypeId}{f:Nat×Nat}(h:w.heap[b]? =some (.cells c T f))(i:Nat):w.cell? ⟨b,i,none⟩=c[i]? :=cell_of_row w b i c T f h
theorem dV{w:World}{b:Nat}{c:Array Value}{T:TypeId}(h:w.heap[b]? =some (.cells c T (0,0)))(i:Nat):w.frozen? ⟨b,i,none⟩=false:=frozen_of_row w b i c T h
theorem rK{w:World}{b:Nat}{o:Obj}(h:w.heap[b]? =some o):b<w.heap.size:=(Array.getElem?_eq_some_iff.1 h).1
theorem vO(w:World)(b i:Nat)(c:Array Value)(T:TypeId)(f:Nat×Nat)(v:Value)(h:w.heap[b]? =some (.cells c T f)):(w.setCell ⟨b,i,none⟩ v).heap[b]? =some (.cells (c.setIfInBounds i v) T f):=by
 simp[World.setCell,jX,h]
theorem pS{w:World}{b i:Nat}{c:Array Value}{T:TypeId}{f:Nat×Nat}(h:w.heap[b]? =some (.cells c T f))(v:Value):(w.setCell ⟨b,i,none⟩ v).heap[b]? =some (.cells (c.setIfInBounds i v) T f):=vO w b i c T f v h
theorem cH{w:World}{b:Nat}{o:Obj}(h:w.heap[b]? =some o){a:Addr}(hab:b≠a.block)(v:Value):(w.setCell a v).heap[b]? =some o:=by
 rw[Below.heap_setCell _ _ _ _ hab];exact h
theorem AH(w:World)(o1 o2:Obj):((w.alloc o1).alloc o2).heap[w.heap.size]? =some o1∧((w.alloc o1).alloc o2).heap[w.heap.size+1]? =some o2∧((w.alloc o1).alloc o2).heap.size=w.heap.size+2:=
 ⟨kJ (lk w o1) o2,by have:=lk (w.alloc o1) o2;simpa using this,by simp⟩
theorem lD(w:World)(o1 o2 o3:Obj):(((w.alloc o1).alloc o2).alloc o3).heap[w.heap.size]? =some o1∧(((w.alloc o1).alloc o2).alloc o3).heap[w.heap.size+1]? =some o2∧(((w.alloc o1).alloc o2).alloc o3).heap[w.heap.size+1+1]? =some o3∧(((w.alloc o1).alloc o2).alloc o3).heap.size=w.heap.size+3:=
 ⟨kJ (AH w o1 o2).1 o3,kJ (AH w o1 o2).2.1 o3,by have:=lk ((w.alloc o1).alloc o2) o3;simpa using this,by simp⟩
theorem Np(w:World)(o1 o2 o3 o4:Obj):((((w.alloc o1).alloc o2).alloc o3).alloc o4).heap[w.heap.size]? =some o1∧((((w.alloc o1).alloc o2).alloc o3).alloc o4).heap[w.heap.size+1]? =some o2∧((((w.alloc o1).alloc o2).alloc o3).alloc o4).heap[w.heap.size+1+1]? =some o3∧((((w.alloc o1).alloc o2).alloc o3).alloc o4).heap[w.heap.size+1+1+1]? =some o4∧((((w.alloc o1).alloc o2).alloc o3).alloc o4).heap.size=w.heap.size+4:=
 ⟨kJ (lD w o1 o2 o3).1 o4,kJ (lD w o1 o2 o3).2.1 o4,kJ (lD w o1 o2 o3).2.2.1 o4,by have:=lk (((w.alloc o1).alloc o2).alloc o3) o4;simpa using this,by simp⟩
set_option maxRecDepth 100000 in
theorem Ix(x:Int)(w:World)(h0:0≤x)(h1:x≤4294967295):
  Calls Tryz.prog 266 #[.int .u32 x] w fun e w'=>e=.returned (.int .i64 (Lib.bitLen x.toNat))∧w=w':=by
 have key:∀y:Int,0≤y→y≤255→(∀w,(Instr.index 9 (.string Lib.len8tab) (.int .u8 y)).run Tryz.prog w=.ok (.int .u8 (Lib.bitLen y.toNat:Int)) w)∧Lib.bitLen y.toNat≤8:=fun y a b=>by
  have l:=Lib.bitLen_le8' y a b;refine⟨fun w=>?_,by omega⟩;rw[Lib.run_index_len8tab (P:=Tryz.prog) w 9 .u8 y Tryz.underlying9 a b,Lib.len8_of y a b]
 by_cases c1:x<65536
 ·by_cases c2:x<256
  ·obtain⟨k1,k2⟩:=key x h0 (by omega)
   go_enter Tryz.func266,Tryz.ntmps266
   go_wp2
   go_ret
   exact⟨rfl,rfl⟩
  ·have s:=Lib.bitLen_shift8 x.toNat (by omega) (by omega);obtain⟨k1,k2⟩:=key (x/256) (by omega) (by omega);have e:(x/256).toNat=x.toNat/256:=by omega
   rw[e]at k1 k2;generalize Lib.bitLen (x.toNat/256)=b at*;have hs:=bk s;clear s
   go_enter Tryz.func266,Tryz.ntmps266
   go_wp2
   go_ret
   exact⟨dz Ending.returned (dz (Value.int IntKind.i64) (by have:=hs.out;omega)),rfl⟩
 ·by_cases c2:x/65536<256
  ·have s:=Lib.bitLen_shift16 x.toNat (by omega) (by omega);obtain⟨k1,k2⟩:=key (x/65536) (by omega) (by omega);have e:(x/65536).toNat=x.toNat/65536:=by omega
   rw[e]at k1 k2;generalize Lib.bitLen (x.toNat/65536)=b at*;have hs:=bk s;clear s
   go_enter Tryz.func266,Tryz.ntmps266
   go_wp2
   go_ret
   exact⟨dz Ending.returned (dz (Value.int IntKind.i64) (by have:=hs.out;omega)),rfl⟩
  ·have s:=Lib.bitLen_shift24 x.toNat (by omega) (by omega);obtain⟨k1,k2⟩:=key (x/65536/256) (by omega) (by omega);have e:(x/65536/256).toNat=x.toNat/16777216:=by omega
   rw[e]at k1 k2;generalize Lib.bitLen (x.toNat/16777216)=b at*;have hs:=bk s;clear s
   go_enter Tryz.func266,Tryz.ntmps266
   go_wp2
   go_ret
   exact⟨dz Ending.returned (dz (Value.int IntKind.i64) (by have:=hs.out;omega)),rfl⟩
def bl(x:Nat):Nat:=if x=0 then 0 else Nat.log2 x+1
theorem wB:∀(f x:Nat),x<2^f→Lib.bitLenAux f x=bl x
 |0,x,h=>by
  obtain rfl:x=0:=by omega
  rfl
 |f+1,x,h=>by
  unfold Lib.bitLenAux bl;split
  ·rfl
  ·rename_i hx;rw[wB f (x/2) (by omega)];unfold bl;rw[Nat.log2_def x];split<;>split<;>omega
theorem U4(x:Nat)(h:x<4294967296):Lib.bitLen x=bl x:=wB 64 x (by omega)
theorem qS(x k:Nat):bl x≤k↔x<2^k:=by
 unfold bl;split
 ·rename_i h;subst h;simp;exact gZ (by omega)
 ·rename_i h;rw[←Nat.log2_lt h];omega
theorem AZ(x:Nat)(w:World)(h:x<4294967296):
  Calls Tryz.prog 266 #[.int .u32 (x:Int)] w fun e w'=>e=.returned (.int .i64 (bl x:Int))∧w=w':=by
 refine(Ix x w (by omega) (by omega)).mono ?_;rintro e w' ⟨rfl,rfl⟩;rw[gB,U4 x h];exact⟨rfl,rfl⟩
theorem Gd(x:Nat)(w:World)(h:x<4294967296):
  Calls Tryz.prog 249 #[.int .u32 (x:Int)] w fun e w'=>e=.returned (.int .i64 ((32-bl x:Nat):Int))∧w=w':=by
 have hb:bl x≤32:=(qS x 32).2 (by omega)
 go_enter Tryz.func249,Tryz.ntmps249
 go_wp2_with (go_at_call 266;refine(AZ x _ h).mono ?_;rintro e w' ⟨rfl,rfl⟩)
 go_ret
 have e:((32-bl x:Nat):Int)=32-(bl x:Int):=by omega
 rw[e];exact⟨rfl,rfl⟩
theorem CF{w w':World}{c:Array Value}{T:TypeId}(h:Below (w.alloc (.cells c T)).heap.size (w.alloc (.cells c T)) w'):w'.heap[w.heap.size]? =some (.cells c T (0,0)):=bJ h (lk _ _)
theorem MV{w:World}{b:Nat}{v:Value}{T:TypeId}(h:w.heap[b]? =some (.cells #[v] T (0,0))):w.cell? ⟨b,0,none⟩=some v:=bQ h 0
theorem Aw{w w':World}{c:Array Value}{T:TypeId}(h:Below (w.alloc (.cells c T)).drew.heap.size (w.alloc (.cells c T)).drew w'):w'.heap[w.heap.size]? =some (.cells c T (0,0)):=bJ (lT h) (lk _ _)
theorem dU.alloc{w:World}{s:Sl}{x:Nat}(h:dU w s x)(o:Obj):dU (w.alloc o) s x:=h.up ((Below.refl _ _).alloc (ai _) o)
def Ac(W w:World):Prop:=Below W.heap.size W w
theorem Ac.refl(W:World):Ac W W:=Below.refl _ _
theorem Ac.call{W w w':World}(h:Ac W w)(hb:Below w.heap.size w w'):Ac W w':=Below.trans h (hb.mono (Below.size h))
theorem Ac.trans{W w w':World}(h:Ac W w)(h':Ac w w'):Ac W w':=h.call h'
theorem Ac.below{B:Nat}{w0 W w:World}(h:Below B w0 W)(h':Ac W w)(hB:B≤W.heap.size):Below B w0 w:=h.trans (Below.mono h' hB)
def Mh(W:World)(b:Nat)(w:World):Prop:=∀k,b≤k→w.heap[k]? =W.heap[k]?
theorem Mh.refl(W:World)(b:Nat):Mh W b W:=fun _ _=>rfl
theorem M6(ao:Option Addr)(n c:Nat)(l:List Nat)(w:World)(h:dd w 273 .u32 ⟨ao,n,c⟩ l):
  Calls Tryz.prog 245 #[.slice ao n c] w fun e w'=>
   ∃k:Nat,k≤n∧e=.returned (.agg #[.slice ao k k])∧(∀i,k≤i→i<n→dg l i=0)∧(0<k→dg l (k-1)≠0)∧Below w.heap.size w w':=by
 have hm:n≤9223372036854775807:=by have:=h.2.1;have:=h.2.2.1;simp only at*;omega
 have hnc:n≤c:=h.2.1;have hl:Hid (n=l.length):=h.1;have hop:Hid (0<n→∃b off,ao=some ⟨b,off,none⟩∧b<w.heap.size∧∀i,i<n→w.cell? ⟨b,off+i,none⟩=some (.int .u32 ((dg l i:Nat):Int))):=h.open;have hcc:c≤9223372036854775807:=h.2.2.1;clear h
 go_enter Tryz.func245,Tryz.ntmps245
 go_wp2
 go_loop [3] (fun u=>∃k:Nat,k≤n∧u=.int .i64 k∧Hid (∀i,k≤i→i<n→dg l i=0)) (fun u=>(intOf u).toNat)
 case atStart=>exact⟨n,ai _,rfl,fun i h1 h2=>by omega⟩
 case round=>
  obtain⟨k,hk,rfl,hz⟩:=hrel;by_cases h0:0<k
  ·obtain⟨b,off,rfl,hb,hcell⟩:=hop.out (by omega);obtain⟨j,rfl⟩:∃j,k=j+1:=⟨k-1,by omega⟩;have hcj:=hcell j (by omega);clear hcell;by_cases hd:dg l j=0
   ·rw[hd]at hcj
    go_wp2
    go_round
    case rel=>
     refine⟨j,by omega,by go_num,fun i h1 h2=>?_⟩;by_cases hij:i=j
     ·rw[hij];exact hd
     ·exact hz.out i (by omega) h2
    case measure=>simp[intOf]
   ·have hdd:(((dg l j:Nat):Int)==0)=false:=by simp;omega
    generalize hx:dg l j=x at*;have hx:=bk hx;have hd:=bk hd
    go_wp2
    refine fg (v:=.agg #[.slice (some ⟨b,off,none⟩) (j+1) (j+1)]) (by simp[results,Tryz.results245,go_sem]) rfl ⟨j+1,hk,rfl,hz.out,fun _=>by simp only[eI];rw[hx.out];exact hd.out,?_⟩;exact(Below.refl _ _).alloc (ai _) _
  ·obtain rfl:k=0:=by omega
   go_wp2
   refine fg (v:=.agg #[.slice ao 0 0]) (by simp[results,Tryz.results245,go_sem]) rfl ⟨0,hk,rfl,hz.out,fun h=>absurd h (by omega),?_⟩;exact(Below.refl _ _).alloc (ai _) _
theorem kV{w:World}{s:Sl}{l:List Nat}(h:dd w 273 .u32 s l)(hd:∀d∈l,d<4294967296):
  Calls Tryz.prog 245 #[.slice s.ao s.n s.c] w fun e w'=>
   ∃t:Sl,e=.returned (.agg #[.slice t.ao t.n t.c])∧dU w' t (val 4294967296 l)∧t.n≤s.n∧Below w.heap.size w w':=by
 refine(M6 s.ao s.n s.c l w h).mono ?_;rintro e w' ⟨k,hk,rfl,h0,h1,hb⟩;have hl:=h.1;have hn:=Lu (l:=l) (k:=k) (by omega) (fun i a b=>h0 i a (by omega)) h1 4294967296;exact⟨⟨s.ao,k,k⟩,rfl,⟨l.take k,(h.cut k k hk (ai _) (by have:=h.2.1;omega)).up hb,fun d hdm=>hd d (dI hdm),hn.1,hn.2⟩,hk,hb⟩
theorem Rd(ao:Option Addr)(n c:Nat)(l:List Nat)(w:World)(d:Nat)(h:dd w 273 .u32 ⟨ao,n,c⟩ l)(hl:∀d∈l,d<4294967296)(hd:d<4294967296)(hd0:0<d)(hn:n≤1000000000000):
  Calls Tryz.prog 248 #[.slice ao n c,.int .u32 (d:Int)] w fun e w'=>
   ∃(s:Sl) (o:List Nat) (r:Nat),e=.returned (.tuple #[.slice s.ao s.n s.c,.int .u32 (r:Int)])∧dd w' 273 .u32 s o∧(∀d∈o,d<4294967296)∧o.length=n∧val 4294967296 l=d*val 4294967296 o+r∧r<d∧Below w.heap.size w w':=by
 have hop:Hid (0<n→∃b off,ao=some ⟨b,off,none⟩∧b<w.heap.size∧∀i,i<n→w.cell? ⟨b,off+i,none⟩=some (.int .u32 ((dg l i:Nat):Int))):=h.open;have hlen:Hid (n=l.length):=h.1;clear h;have hll:Hid (∀d∈l,d<4294967296):=hl;clear hl
 go_enter Tryz.func248,Tryz.ntmps248
 go_wp2_with (at_make;refine vu iC _ rfl _ _ rfl w.heap.size _ _ _ _ n rfl rfl rfl rfl (by omega) (by unfold maxLen;omega) (ai _) ?_;intro w1 ho hb hsz)
 go_loopw [7,8] (fun r i wr=>∃(k:Nat) (o:List Nat) (q:Nat),k≤n∧i=.int .i64 ((k:Int)-1)∧r=.int .u64 q∧q<d∧iX wr w.heap.size 273 .u32 (.slice (some ⟨w.heap.size,0,none⟩) n n) o∧Hid (o.length=n)∧Hid (∀d∈o,d<4294967296)∧Hid (val 4294967296 (l.drop k)=d*val 4294967296 (o.drop k)+q)∧Below w.heap.size w wr) (fun _ i _=>(intOf i+1).toNat)
 case atStart=>exact⟨n,List.replicate n 0,0,ai _,rfl,rfl,hd0,ho,by unfold Hid;simp,by unfold Hid;simp,by unfold Hid;have:=hlen.out;simp[val,this],hb⟩
 case round=>
  obtain⟨k,o,q,hk,rfl,rfl,hq,hown,hol,hod,hval,hbl⟩:=hrel;by_cases hlt:0<k
  ·obtain⟨b,off,rfl,hbw,hcell⟩:=hop.out (by omega);obtain⟨j,rfl⟩:∃j,k=j+1:=⟨k-1,by omega⟩;have hck:wr.cell? ⟨b,off+j,none⟩=some (.int .u32 ((dg l j:Nat):Int)):=(hbl.cell (p:=⟨b,off+j,none⟩) hbw).trans (hcell j (by omega));clear hcell;have hx:dg l j<4294967296:=je hll.out (by omega) j;generalize hxe:dg l j=x at*;have HX:=bk hxe;clear hxe;have hj1:j<l.length:=by have:=hlen.out;omega
   have hol':o.length=n:=hol.out;have hstep:=bk (Rc (B:=4294967296) hj1 (by rw[hlen.out.symm,hol']) HX.out hval.out);have hbo:=zP q x (by omega) hx;generalize hN:q*4294967296+x=N at*;have hN1:N/d<4294967296:=by rw[←hN];exact Ng hq hx
   have hN2:N % d<d:=fF _ hd0;have hN3:N<18446744073709551616:=by rw[←hN];omega
   clear hN hol';have hw1:IntKind.u64.wrap ((N:Int)/(d:Int))=((N/d:Nat):Int):=by
    rw[←kP];generalize N/d=u at*;exact IntWalk.u64_in _ (by omega)
   generalize N/d=u at*;have hst:=hown.store j u;obtain⟨hoc,hof,_,_⟩:=hown.slot j (by have:=hol.out;omega)
   go_wp2
   go_roundw
   case rel=>exact⟨j,o.set j u,N % d,by omega,rfl,by go_num,hN2,hst.1,by unfold Hid;rw[ft];exact hol.out,pC hod.out hN1,hstep.out,hbl.trans hst.2⟩
   case measure=>simp[intOf]
  ·obtain rfl:k=0:=by omega
   obtain⟨s,hs,hsi⟩:=hown.ints
   go_wp2
   go_ret2
   exact⟨s,o,q,by rw[hs];rfl,hsi,hod.out,hol.out,by simpa using hval.out,hq,hbl⟩
theorem KJ(ao bo:Option Addr)(n m c d:Nat)(l r:List Nat)(w:World)(h:dd w 273 .u32 ⟨ao,n,c⟩ l)(h':dd w 273 .u32 ⟨bo,m,d⟩ r)(hl:∀d∈l,d<4294967296)(hr:∀d∈r,d<4294967296)(hn:n≤1000000000000)(hm:m≤1000000000000)(hmn:m≤n):
  Calls Tryz.prog 252 #[.agg #[.slice ao n c],.agg #[.slice bo m d]] w fun e w'=>
   ∃(s:Sl),e=.returned (.agg #[.slice s.ao s.n s.c])∧dU w' s (val 4294967296 l+val 4294967296 r)∧s.n≤n+1∧Below w.heap.size w w':=by
 have hop:Hid (0<n→∃b off,ao=some ⟨b,off,none⟩∧b<w.heap.size∧∀i,i<n→w.cell? ⟨b,off+i,none⟩=some (.int .u32 ((dg l i:Nat):Int))):=h.open;have hop':Hid (0<m→∃b off,bo=some ⟨b,off,none⟩∧b<w.heap.size∧∀i,i<m→w.cell? ⟨b,off+i,none⟩=some (.int .u32 ((dg r i:Nat):Int))):=h'.open;have hlen:Hid (n=l.length):=h.1;have hlen':Hid (m=r.length):=h'.1;clear h h';have hll:Hid (∀d∈l,d<4294967296):=hl;have hrr:Hid (∀d∈r,d<4294967296):=hr;clear hl hr
 go_enter Tryz.func252,Tryz.ntmps252
 go_wp2_with (at_make;refine uV iC _ rfl _ _ rfl (w.heap.size+3) _ _ _ (n+1) rfl rfl (by omega) (by omega) (by unfold maxLen;omega) (by simp) ?_;intro v1 w1 ho hb;have hA1:=bQ (cT hb (by omega) (lD w _ _ _).1) 0)
 have hbw:Below w.heap.size w w1:=((((Below.refl _ _).alloc (ai _) _).alloc (by simp) _).alloc (by simp;omega) _).trans (hb.mono (by omega));have hE2:=cT hb (by omega) (lD w _ _ _).2.1;have hE3:=cT hb (by omega) (lD w _ _ _).2.2.1
 go_loopw [5,6,26] (fun v cy i wr=>∃(k:Nat) (o:List Nat) (q:Nat),k≤n∧i=.int .i64 k∧cy=.int .u64 q∧q≤1∧iX wr (w.heap.size+3) 273 .u32 v o∧Hid (o.length=k)∧Hid (∀d∈o,d<4294967296)∧Hid (val 4294967296 o+4294967296^k*q=val 4294967296 (l.take k)+val 4294967296 (r.take k))∧Below (w.heap.size+3) w1 wr) (fun _ _ i _=>n-(intOf i).toNat)
 case atStart=>exact⟨0,[],0,aM _,rfl,rfl,by omega,ho,rfl,by unfold Hid;simp,by unfold Hid;simp[val],Below.refl _ _⟩
 case round=>
  obtain⟨k,o,q,hk,rfl,rfl,hq,hown,hol,hod,hval,hbl⟩:=hrel;have hB:=bQ (cT hbl (by omega) hE2) 0;have hws:w.heap.size+3≤wr.heap.size:=by have:=hbl.size;have:=hb.size;simp at this;omega
  by_cases hlt:k<n
  ·obtain⟨b,off,rfl,hbw0,hcell⟩:=hop.out (by omega);have hck:wr.cell? ⟨b,off+k,none⟩=some (.int .u32 ((dg l k:Nat):Int)):=((hbl.cell (p:=⟨b,off+k,none⟩) (by simp;omega)).trans (hbw.cell (p:=⟨b,off+k,none⟩) hbw0)).trans (hcell k hlt);clear hcell;have hx:dg l k<4294967296:=je hll.out (by omega) k;by_cases hltm:k<m
   ·obtain⟨b',off',rfl,hbw0',hcell'⟩:=hop'.out (by omega);have hck':wr.cell? ⟨b',off'+k,none⟩=some (.int .u32 ((dg r k:Nat):Int)):=((hbl.cell (p:=⟨b',off'+k,none⟩) (by simp;omega)).trans (hbw.cell (p:=⟨b',off'+k,none⟩) hbw0')).trans (hcell' k hltm);clear hcell';have hy:dg r k<4294967296:=je hrr.out (by omega) k;have hstep:=bk (wu (z:=q+dg l k+dg r k) hol.out rfl rfl rfl hval.out);generalize dg l k=x at*;generalize dg r k=y at*
    go_wp2_with (at_builtin;refine fo iC _ rfl _ _ rfl (w.heap.size+3) u5 o _ ((q+x+y) % 4294967296) rfl rfl hown ?hz ?hl ?hm ?hb ?_)
    case hz=>rfl
    case hl=>have:=hol.out;omega
    case hm=>have:=hol.out;unfold maxLen;omega
    case hb=>exact hws
    intro v' w' hown' hb';clear hck hck' hB
    go_wp2
    go_roundw
    case rel=>exact⟨k+1,_,(q+x+y)/4294967296,by omega,by go_num,rfl,by omega,hown',by unfold Hid;have:=hol.out;simp;omega,jT hod.out (fF _ (by omega)),hstep.out,hbl.trans hb'⟩
    case measure=>simp[intOf];omega
   ·have hstep:=bk (wu (z:=q+dg l k) (y:=0) (r:=r) hol.out rfl (tu (by have:=hlen'.out;omega)) rfl hval.out);generalize dg l k=x at*
    go_wp2_with (at_builtin;refine fo iC _ rfl _ _ rfl (w.heap.size+3) u5 o _ ((q+x) % 4294967296) rfl rfl hown ?hz' ?hl' ?hm' ?hb' ?_)
    case hz'=>rfl
    case hl'=>have:=hol.out;omega
    case hm'=>have:=hol.out;unfold maxLen;omega
    case hb'=>exact hws
    intro v' w' hown' hb';clear hck hB
    go_wp2
    go_roundw
    case rel=>exact⟨k+1,_,(q+x)/4294967296,by omega,by go_num,rfl,by omega,hown',by unfold Hid;have:=hol.out;simp;omega,jT hod.out (fF _ (by omega)),hstep.out,hbl.trans hb'⟩
    case measure=>simp[intOf];omega
  ·have hkn:Hid (k=n):=by unfold Hid;omega
   go_wp2_with (at_builtin;refine fo iC _ rfl _ _ rfl (w.heap.size+3) u5 o _ q rfl rfl hown ?hz2 ?hl2 ?hm2 ?hb2 ?_)
   case hz2=>rfl
   case hl2=>have:=hol.out;omega
   case hm2=>have:=hol.out;unfold maxLen;omega
   case hb2=>exact hws
   intro v' w' hown' hb';obtain⟨s,rfl,hs⟩:=hown'.ints;have hsd:=bk (jT hod.out (show q<4294967296 by omega));clear hB
   go_wp2_with (go_at_call 245;refine(kV hs hsd.out).mono ?_;rintro e w2 ⟨t,rfl,ht,htn,hb2⟩;have hE3':=bJ hb2 (cT hb' (by omega) (cT hbl (by omega) hE3));have hR:=bQ hE3' 0;have hRf:=dV hE3' 0)
   refine fg (v:=.agg #[.slice t.ao t.n t.c]) (by simp[results,Tryz.results252,go_sem,hR]) rfl ⟨t,rfl,?_,?_,?_⟩
   ·have e:val 4294967296 (o++[q])=val 4294967296 l+val 4294967296 r:=by
     have h1:=hval.out;rw[eN _ l _ (by have:=hlen.out;have:=hkn.out;omega),eN _ r _ (by have:=hlen'.out;have:=hkn.out;omega)]at h1;rw[kH,hol.out];exact h1
    rw[←e];exact ht.kp ((Kp.refl _).setCell hE3' (by decide) _)
   ·have:=hs.1;have:=hol.out;have:=hkn.out;simp at*;omega
   ·exact(((hbw.trans (hbl.mono (by omega))).trans (hb'.mono (by omega))).trans (hb2.mono (by have:=hb'.size;omega))).setCell (by simp;omega) _
theorem KK(ao bo:Option Addr)(n m c d:Nat)(l r:List Nat)(w:World)(h:dd w 273 .u32 ⟨ao,n,c⟩ l)(h':dd w 273 .u32 ⟨bo,m,d⟩ r)(hl:∀d∈l,d<4294967296)(hr:∀d∈r,d<4294967296)(hn:n≤1000000000000)(hm:m≤1000000000000)(hmn:m<n):
  Calls Tryz.prog 252 #[.agg #[.slice bo m d],.agg #[.slice ao n c]] w fun e w'=>
   ∃(s:Sl),e=.returned (.agg #[.slice s.ao s.n s.c])∧dU w' s (val 4294967296 l+val 4294967296 r)∧s.n≤n+1∧Below w.heap.size w w':=by
 have hop:Hid (0<n→∃b off,ao=some ⟨b,off,none⟩∧b<w.heap.size∧∀i,i<n→w.cell? ⟨b,off+i,none⟩=some (.int .u32 ((dg l i:Nat):Int))):=h.open;have hop':Hid (0<m→∃b off,bo=some ⟨b,off,none⟩∧b<w.heap.size∧∀i,i<m→w.cell? ⟨b,off+i,none⟩=some (.int .u32 ((dg r i:Nat):Int))):=h'.open;have hlen:Hid (n=l.length):=h.1;have hlen':Hid (m=r.length):=h'.1;clear h h';have hll:Hid (∀d∈l,d<4294967296):=hl;have hrr:Hid (∀d∈r,d<4294967296):=hr;clear hl hr
 go_enter Tryz.func252,Tryz.ntmps252
 go_wp2_with (at_make;refine uV iC _ rfl _ _ rfl (w.heap.size+3) _ _ _ (n+1) rfl rfl (by omega) (by omega) (by unfold maxLen;omega) (by simp) ?_;intro v1 w1 ho hb;have hA1:=bQ (cT hb (by omega) (lD w _ _ _).1) 0)
 have hbw:Below w.heap.size w w1:=((((Below.refl _ _).alloc (ai _) _).alloc (by simp) _).alloc (by simp;omega) _).trans (hb.mono (by omega));have hE2:=cT hb (by omega) (lD w _ _ _).2.1;have hE3:=cT hb (by omega) (lD w _ _ _).2.2.1
 go_loopw [5,6,26] (fun v cy i wr=>∃(k:Nat) (o:List Nat) (q:Nat),k≤n∧i=.int .i64 k∧cy=.int .u64 q∧q≤1∧iX wr (w.heap.size+3) 273 .u32 v o∧Hid (o.length=k)∧Hid (∀d∈o,d<4294967296)∧Hid (val 4294967296 o+4294967296^k*q=val 4294967296 (l.take k)+val 4294967296 (r.take k))∧Below (w.heap.size+3) w1 wr) (fun _ _ i _=>n-(intOf i).toNat)
 case atStart=>exact⟨0,[],0,aM _,rfl,rfl,by omega,ho,rfl,by unfold Hid;simp,by unfold Hid;simp[val],Below.refl _ _⟩
 case round=>
  obtain⟨k,o,q,hk,rfl,rfl,hq,hown,hol,hod,hval,hbl⟩:=hrel;have hB:=bQ (cT hbl (by omega) hE2) 0;have hws:w.heap.size+3≤wr.heap.size:=by have:=hbl.size;have:=hb.size;simp at this;omega
  by_cases hlt:k<n
  ·obtain⟨b,off,rfl,hbw0,hcell⟩:=hop.out (by omega);have hck:wr.cell? ⟨b,off+k,none⟩=some (.int .u32 ((dg l k:Nat):Int)):=((hbl.cell (p:=⟨b,off+k,none⟩) (by simp;omega)).trans (hbw.cell (p:=⟨b,off+k,none⟩) hbw0)).trans (hcell k hlt);clear hcell;have hx:dg l k<4294967296:=je hll.out (by omega) k;by_cases hltm:k<m
   ·obtain⟨b',off',rfl,hbw0',hcell'⟩:=hop'.out (by omega);have hck':wr.cell? ⟨b',off'+k,none⟩=some (.int .u32 ((dg r k:Nat):Int)):=((hbl.cell (p:=⟨b',off'+k,none⟩) (by simp;omega)).trans (hbw.cell (p:=⟨b',off'+k,none⟩) hbw0')).trans (hcell' k hltm);clear hcell';have hy:dg r k<4294967296:=je hrr.out (by omega) k;have hstep:=bk (wu (z:=q+dg l k+dg r k) hol.out rfl rfl rfl hval.out);generalize dg l k=x at*;generalize dg r k=y at*
    go_wp2_with (at_builtin;refine fo iC _ rfl _ _ rfl (w.heap.size+3) u5 o _ ((q+x+y) % 4294967296) rfl rfl hown ?hz ?hl ?hm ?hb ?_)
    case hz=>rfl
    case hl=>have:=hol.out;omega
    case hm=>have:=hol.out;unfold maxLen;omega
    case hb=>exact hws
    intro v' w' hown' hb';clear hck hck' hB
    go_wp2
    go_roundw
    case rel=>exact⟨k+1,_,(q+x+y)/4294967296,by omega,by go_num,rfl,by omega,hown',by unfold Hid;have:=hol.out;simp;omega,jT hod.out (fF _ (by omega)),hstep.out,hbl.trans hb'⟩
    case measure=>simp[intOf];omega
   ·have hstep:=bk (wu (z:=q+dg l k) (y:=0) (r:=r) hol.out rfl (tu (by have:=hlen'.out;omega)) rfl hval.out);generalize dg l k=x at*
    go_wp2_with (at_builtin;refine fo iC _ rfl _ _ rfl (w.heap.size+3) u5 o _ ((q+x) % 4294967296) rfl rfl hown ?hz' ?hl' ?hm' ?hb' ?_)
    case hz'=>rfl
    case hl'=>have:=hol.out;omega
    case hm'=>have:=hol.out;unfold maxLen;omega
    case hb'=>exact hws
    intro v' w' hown' hb';clear hck hB
    go_wp2
    go_roundw
    case rel=>exact⟨k+1,_,(q+x)/4294967296,by omega,by go_num,rfl,by omega,hown',by unfold Hid;have:=hol.out;simp;omega,jT hod.out (fF _ (by omega)),hstep.out,hbl.trans hb'⟩
    case measure=>simp[intOf];omega
  ·have hkn:Hid (k=n):=by unfold Hid;omega
   go_wp2_with (at_builtin;refine fo iC _ rfl _ _ rfl (w.heap.size+3) u5 o _ q rfl rfl hown ?hz2 ?hl2 ?hm2 ?hb2 ?_)
   case hz2=>rfl
   case hl2=>have:=hol.out;omega
   case hm2=>have:=hol.out;unfold maxLen;omega
   case hb2=>exact hws
   intro v' w' hown' hb';obtain⟨s,rfl,hs⟩:=hown'.ints;have hsd:=bk (jT hod.out (show q<4294967296 by omega));clear hB
   go_wp2_with (go_at_call 245;refine(kV hs hsd.out).mono ?_;rintro e w2 ⟨t,rfl,ht,htn,hb2⟩;have hE3':=bJ hb2 (cT hb' (by omega) (cT hbl (by omega) hE3));have hR:=bQ hE3' 0;have hRf:=dV hE3' 0)
   refine fg (v:=.agg #[.slice t.ao t.n t.c]) (by simp[results,Tryz.results252,go_sem,hR]) rfl ⟨t,rfl,?_,?_,?_⟩
   ·have e:val 4294967296 (o++[q])=val 4294967296 l+val 4294967296 r:=by
     have h1:=hval.out;rw[eN _ l _ (by have:=hlen.out;have:=hkn.out;omega),eN _ r _ (by have:=hlen'.out;have:=hkn.out;omega)]at h1;rw[kH,hol.out];exact h1
    rw[←e];exact ht.kp ((Kp.refl _).setCell hE3' (by decide) _)
   ·have:=hs.1;have:=hol.out;have:=hkn.out;simp at*;omega
   ·exact(((hbw.trans (hbl.mono (by omega))).trans (hb'.mono (by omega))).trans (hb2.mono (by have:=hb'.size;omega))).setCell (by simp;omega) _
theorem Fc{w:World}{s t:Sl}{x y:Nat}(h:dU w s x)(h':dU w t y)(hn:s.n≤1000000000000)(hm:t.n≤1000000000000):
  Calls Tryz.prog 252 #[.agg #[.slice s.ao s.n s.c],.agg #[.slice t.ao t.n t.c]] w fun e w'=>
   ∃u:Sl,e=.returned (.agg #[.slice u.ao u.n u.c])∧dU w' u (x+y)∧u.n≤max s.n t.n+1∧Below w.heap.size w w':=by
 obtain⟨l,h1,h2,h3,h4⟩:=h;obtain⟨r,g1,g2,g3,g4⟩:=h';subst h4;subst g4;rcases iV s.n t.n with hc|hc
 ·refine(KK t.ao s.ao t.n s.n t.c s.c r l w g1 h1 g2 h2 hm hn hc).mono ?_;rintro e w' ⟨u,rfl,hu,hun,hb⟩;exact⟨u,rfl,by rw[Nat.add_comm];exact hu,by omega,hb⟩
 ·refine(KJ s.ao t.ao s.n t.n s.c t.c l r w h1 g1 h2 g2 hn hm hc).mono ?_;rintro e w' ⟨u,rfl,hu,hun,hb⟩;exact⟨u,rfl,hu,by omega,hb⟩
theorem Ln(ao bo:Option Addr)(n m c d:Nat)(l r:List Nat)(w:World)(h:dd w 273 .u32 ⟨ao,n,c⟩ l)(h':dd w 273 .u32 ⟨bo,m,d⟩ r)(hl:∀d∈l,d<4294967296)(hr:∀d∈r,d<4294967296)(hn:n≤1000000000000)(hm:m≤1000000000000)(hmn:m≤n)(hv:val 4294967296 r≤val 4294967296 l):
  Calls Tryz.prog 267 #[.agg #[.slice ao n c],.agg #[.slice bo m d]] w fun e w'=>
   ∃(s:Sl),e=.returned (.agg #[.slice s.ao s.n s.c])∧dU w' s (val 4294967296 l-val 4294967296 r)∧s.n≤n∧Below w.heap.size w w':=by
 have hop:Hid (0<n→∃b off,ao=some ⟨b,off,none⟩∧b<w.heap.size∧∀i,i<n→w.cell? ⟨b,off+i,none⟩=some (.int .u32 ((dg l i:Nat):Int))):=h.open;have hop':Hid (0<m→∃b off,bo=some ⟨b,off,none⟩∧b<w.heap.size∧∀i,i<m→w.cell? ⟨b,off+i,none⟩=some (.int .u32 ((dg r i:Nat):Int))):=h'.open;have hlen:Hid (n=l.length):=h.1;have hlen':Hid (m=r.length):=h'.1;clear h h';have hll:Hid (∀d∈l,d<4294967296):=hl;have hrr:Hid (∀d∈r,d<4294967296):=hr;clear hl hr;have hvv:=bk hv;clear hv
 go_enter Tryz.func267,Tryz.ntmps267
 go_wp2_with (at_make;refine uV iC _ rfl _ _ rfl (w.heap.size+3) _ _ _ n rfl rfl rfl (by omega) (by unfold maxLen;omega) (by simp) ?_;intro v1 w1 ho hb;have hA1:=bQ (cT hb (by omega) (lD w _ _ _).1) 0)
 have hbw:Below w.heap.size w w1:=((((Below.refl _ _).alloc (ai _) _).alloc (by simp) _).alloc (by simp;omega) _).trans (hb.mono (by omega));have hE2:=cT hb (by omega) (lD w _ _ _).2.1;have hE3:=cT hb (by omega) (lD w _ _ _).2.2.1
 go_loopw [5,6,17] (fun v cy i wr=>∃(k:Nat) (o:List Nat) (q:Nat),k≤n∧i=.int .i64 k∧cy=.int .i64 q∧q≤1∧iX wr (w.heap.size+3) 273 .u32 v o∧Hid (o.length=k)∧Hid (∀d∈o,d<4294967296)∧Hid (val 4294967296 (l.take k)+4294967296^k*q=val 4294967296 o+val 4294967296 (r.take k))∧Below (w.heap.size+3) w1 wr) (fun _ _ i _=>n-(intOf i).toNat)
 case atStart=>exact⟨0,[],0,aM _,rfl,rfl,by omega,ho,rfl,by unfold Hid;simp,by unfold Hid;simp[val],Below.refl _ _⟩
 case round=>
  obtain⟨k,o,q,hk,rfl,rfl,hq,hown,hol,hod,hval,hbl⟩:=hrel;have hB:=bQ (cT hbl (by omega) hE2) 0;have hws:w.heap.size+3≤wr.heap.size:=by have:=hbl.size;have:=hb.size;simp at this;omega
  by_cases hlt:k<n
  ·obtain⟨b,off,rfl,hbw0,hcell⟩:=hop.out (by omega);have hck:wr.cell? ⟨b,off+k,none⟩=some (.int .u32 ((dg l k:Nat):Int)):=((hbl.cell (p:=⟨b,off+k,none⟩) (by simp;omega)).trans (hbw.cell (p:=⟨b,off+k,none⟩) hbw0)).trans (hcell k hlt);clear hcell;have hx:dg l k<4294967296:=je hll.out (by omega) k;by_cases hltm:k<m
   ·obtain⟨b',off',rfl,hbw0',hcell'⟩:=hop'.out (by omega);have hck':wr.cell? ⟨b',off'+k,none⟩=some (.int .u32 ((dg r k:Nat):Int)):=((hbl.cell (p:=⟨b',off'+k,none⟩) (by simp;omega)).trans (hbw.cell (p:=⟨b',off'+k,none⟩) hbw0')).trans (hcell' k hltm);clear hcell';have hy:dg r k<4294967296:=je hrr.out (by omega) k;by_cases hneg:dg l k<q+dg r k
    ·have hstep:=bk (A5 (B:=4294967296) (x:=dg l k) (y:=dg r k) (r:=r) hol.out rfl rfl (by omega) hval.out);generalize dg l k=x at*;generalize dg r k=y at*
     go_wp2_with (at_builtin;refine fo iC _ rfl _ _ rfl (w.heap.size+3) u5 o _ (x+4294967296-(q+y)) rfl rfl hown ?hza ?hla ?hma ?hba ?_)
     case hza=>omega
     case hla=>have:=hol.out;omega
     case hma=>have:=hol.out;unfold maxLen;omega
     case hba=>exact hws
     intro v' w' hown' hb';clear hck hck' hB
     go_wp2
     go_roundw
     case rel=>exact⟨k+1,_,1,by omega,by go_num,rfl,by omega,hown',by unfold Hid;have:=hol.out;simp;omega,jT hod.out (by omega),hstep.out,hbl.trans hb'⟩
     case measure=>simp[intOf];omega
    ·have hstep:=bk (A0 (B:=4294967296) (x:=dg l k) (y:=dg r k) (r:=r) hol.out rfl rfl (by omega) hval.out);generalize dg l k=x at*;generalize dg r k=y at*
     go_wp2_with (at_builtin;refine fo iC _ rfl _ _ rfl (w.heap.size+3) u5 o _ (x-(q+y)) rfl rfl hown ?hzb ?hlb ?hmb ?hbb ?_)
     case hzb=>omega
     case hlb=>have:=hol.out;omega
     case hmb=>have:=hol.out;unfold maxLen;omega
     case hbb=>exact hws
     intro v' w' hown' hb';clear hck hck' hB
     go_wp2
     go_roundw
     case rel=>exact⟨k+1,_,0,by omega,by go_num,rfl,by omega,hown',by unfold Hid;have:=hol.out;simp;omega,jT hod.out (by omega),hstep.out,hbl.trans hb'⟩
     case measure=>simp[intOf];omega
   ·by_cases hneg:dg l k<q
    ·have hstep:=bk (A5 (B:=4294967296) (x:=dg l k) (y:=0) (r:=r) hol.out rfl (tu (by have:=hlen'.out;omega)) (by omega) hval.out);generalize dg l k=x at*
     go_wp2_with (at_builtin;refine fo iC _ rfl _ _ rfl (w.heap.size+3) u5 o _ (x+4294967296-(q+0)) rfl rfl hown ?hzc ?hlc ?hmc ?hbc ?_)
     case hzc=>omega
     case hlc=>have:=hol.out;omega
     case hmc=>have:=hol.out;unfold maxLen;omega
     case hbc=>exact hws
     intro v' w' hown' hb';clear hck hB
     go_wp2
     go_roundw
     case rel=>exact⟨k+1,_,1,by omega,by go_num,rfl,by omega,hown',by unfold Hid;have:=hol.out;simp;omega,jT hod.out (by omega),hstep.out,hbl.trans hb'⟩
     case measure=>simp[intOf];omega
    ·have hstep:=bk (A0 (B:=4294967296) (x:=dg l k) (y:=0) (r:=r) hol.out rfl (tu (by have:=hlen'.out;omega)) (by omega) hval.out);generalize dg l k=x at*
     go_wp2_with (at_builtin;refine fo iC _ rfl _ _ rfl (w.heap.size+3) u5 o _ (x-(q+0)) rfl rfl hown ?hzd ?hld ?hmd ?hbd ?_)
     case hzd=>omega
     case hld=>have:=hol.out;omega
     case hmd=>have:=hol.out;unfold maxLen;omega
     case hbd=>exact hws
     intro v' w' hown' hb';clear hck hB
     go_wp2
     go_roundw
     case rel=>exact⟨k+1,_,0,by omega,by go_num,rfl,by omega,hown',by unfold Hid;have:=hol.out;simp;omega,jT hod.out (by omega),hstep.out,hbl.trans hb'⟩
     case measure=>simp[intOf];omega
  ·have hkn:Hid (k=n):=by unfold Hid;omega
   obtain⟨s,rfl,hs⟩:=hown.ints;clear hB
   go_wp2_with (go_at_call 245;refine(kV hs hod.out).mono ?_;rintro e w2 ⟨t,rfl,ht,htn,hb2⟩;have hE3':=bJ hb2 (cT hbl (by omega) hE3);have hR:=bQ hE3' 0;have hRf:=dV hE3' 0)
   refine fg (v:=.agg #[.slice t.ao t.n t.c]) (by simp[results,Tryz.results267,go_sem,hR]) rfl ⟨t,rfl,?_,?_,?_⟩
   ·have e:val 4294967296 o=val 4294967296 l-val 4294967296 r:=by
     have h1:=hval.out;rw[eN _ l _ (by have:=hlen.out;have:=hkn.out;omega),eN _ r _ (by have:=hlen'.out;have:=hkn.out;omega)]at h1;exact N_ hod.out hol.out hvv.out h1
    rw[←e];exact ht.kp ((Kp.refl _).setCell hE3' (by decide) _)
   ·have:=hs.1;have:=hol.out;have:=hkn.out;simp at*;omega
   ·exact((hbw.trans (hbl.mono (by omega))).trans (hb2.mono (by omega))).setCell (by simp;omega) _
theorem CY{w:World}{s t:Sl}{x y:Nat}(h:dU w s x)(h':dU w t y)(hn:s.n≤1000000000000)(hxy:y≤x):
  Calls Tryz.prog 267 #[.agg #[.slice s.ao s.n s.c],.agg #[.slice t.ao t.n t.c]] w fun e w'=>
   ∃u:Sl,e=.returned (.agg #[.slice u.ao u.n u.c])∧dU w' u (x-y)∧u.n≤s.n∧Below w.heap.size w w':=by
 have hts:=h'.n_le h hxy;obtain⟨l,h1,h2,h3,h4⟩:=h;obtain⟨r,g1,g2,g3,g4⟩:=h';subst h4;subst g4;exact Ln s.ao t.ao s.n t.n s.c t.c l r w h1 g1 h2 g2 hn (by omega) hts hxy
theorem MZ(ao bo:Option Addr)(n m c d:Nat)(l r:List Nat)(w:World)(h:dd w 273 .u32 ⟨ao,n,c⟩ l)(h':dd w 273 .u32 ⟨bo,m,d⟩ r)(hl:∀d∈l,d<4294967296)(hr:∀d∈r,d<4294967296)(hn:n≤1000000000000)(hm:m≤1000000000000)(nl:qO l)(nr:qO r):
  Calls Tryz.prog 204 #[.agg #[.slice ao n c],.agg #[.slice bo m d]] w fun e w'=>
   e=.returned (.int .i64 (mK (val 4294967296 l) (val 4294967296 r)))∧Below w.heap.size w w':=by
 have hop:Hid (0<n→∃b off,ao=some ⟨b,off,none⟩∧b<w.heap.size∧∀i,i<n→w.cell? ⟨b,off+i,none⟩=some (.int .u32 ((dg l i:Nat):Int))):=h.open;have hop':Hid (0<m→∃b off,bo=some ⟨b,off,none⟩∧b<w.heap.size∧∀i,i<m→w.cell? ⟨b,off+i,none⟩=some (.int .u32 ((dg r i:Nat):Int))):=h'.open;have hlen:Hid (n=l.length):=h.1;have hlen':Hid (m=r.length):=h'.1;clear h h';have hll:Hid (∀d∈l,d<4294967296):=hl;have hrr:Hid (∀d∈r,d<4294967296):=hr;have hnl:=bk nl;have hnr:=bk nr;clear hl hr nl nr;have hbx:Below w.heap.size w ((w.alloc (.cells #[.slice ao n c] 110)).alloc (.cells #[.slice bo m d] 110)):=((Below.refl _ _).alloc (ai _) _).alloc (by simp) _;rcases Nat.lt_trichotomy n m with hc|hc|hc
 ·have hres:=bk (wF (hnr.out.len_lt (B:=4294967296) (l:=l) (by omega) hll.out (by have:=hlen.out;have:=hlen'.out;omega)))
  go_enter Tryz.func204,Tryz.ntmps204
  go_wp2
  go_ret
  exact⟨by rw[hres.out];rfl,hbx⟩
 ·subst hc;obtain⟨hE1,hE2,hWs⟩:=AH w (.cells #[.slice ao n c] 110) (.cells #[.slice bo n d] 110);generalize hW:((w.alloc (.cells #[.slice ao n c] 110)).alloc (.cells #[.slice bo n d] 110))=W at hbx hE1 hE2 hWs;have HWs:=bk hWs;clear hWs;have HW:=bk hW;clear hW
  go_enter Tryz.func204,Tryz.ntmps204
  go_wp2
  rw[HW.out]
  go_loopw [5] (fun i wr=>∃k:Nat,k≤n∧i=.int .i64 ((k:Int)-1)∧Hid (∀j,k≤j→j<n→dg l j=dg r j)∧Below (w.heap.size+2) W wr) (fun i _=>(intOf i+1).toNat)
  case atStart=>exact⟨n,ai _,rfl,by unfold Hid;intro j a b;omega,Below.refl _ _⟩
  case round=>
   obtain⟨k,hk,rfl,heq,hbl⟩:=hrel;by_cases hlt:0<k
   ·obtain⟨j,rfl⟩:∃j,k=j+1:=⟨k-1,by omega⟩;obtain⟨b,off,rfl,hbw0,hcell⟩:=hop.out (by omega);obtain⟨b',off',rfl,hbw0',hcell'⟩:=hop'.out (by omega);have hA:=bQ (cT hbl (by omega) hE1) 0;have hB:=bQ (cT hbl (by omega) hE2) 0;have hck:wr.cell? ⟨b,off+j,none⟩=some (.int .u32 ((dg l j:Nat):Int)):=((hbl.cell (p:=⟨b,off+j,none⟩) (by simp;omega)).trans (hbx.cell (p:=⟨b,off+j,none⟩) hbw0)).trans (hcell j (by omega));have hck':wr.cell? ⟨b',off'+j,none⟩=some (.int .u32 ((dg r j:Nat):Int)):=((hbl.cell (p:=⟨b',off'+j,none⟩) (by simp;omega)).trans (hbx.cell (p:=⟨b',off'+j,none⟩) hbw0')).trans (hcell' j (by omega));clear hcell hcell';have hj1:(0:Int)≤(j:Int):=by omega
    have hj2:(j:Int)<(n:Int):=by omega
    by_cases hxy:dg l j=dg r j
    ·rw[hxy]at hck;have heq':Hid (∀i,j≤i→i<n→dg l i=dg r i):=fun i a b=>by
      by_cases hij:i=j
      ·rw[hij];exact hxy
      ·exact heq.out i (by omega) b
     clear hxy;generalize dg r j=x at*
     go_wp2
     go_quiet (fail)
     go_wp2
     go_roundw
     case rel=>exact⟨j,by omega,rfl,heq',jP hbl _⟩
     case measure=>simp[intOf]
    ·rcases iV (dg l j) (dg r j)with hlt2|hge2
     ·have hres:=bk (wF (Dw (B:=4294967296) (l:=l) (m:=r) (i:=j) (by have:=hlen.out;have:=hlen'.out;omega) (by have:=hlen.out;omega) hll.out hlt2 (fun i a b=>heq.out i (by omega) (by have:=hlen.out;omega))));clear hxy;generalize dg r j=y at*;generalize dg l j=x at*;have hxy2:((x:Int)==(y:Int))=false:=by simp;omega
      have hxy3:(x:Int)<(y:Int):=by omega
      go_wp2
      go_quiet (fail)
      go_wp2
      go_quiet (fail)
      go_wp2
      go_ret
      exact⟨by rw[hres.out];rfl,jP (jP (hbx.trans (hbl.mono (by omega))) _) _⟩
     ·have hres:=bk (uD (Dw (B:=4294967296) (l:=r) (m:=l) (i:=j) (by have:=hlen.out;have:=hlen'.out;omega) (by have:=hlen'.out;omega) hrr.out (by omega) (fun i a b=>(heq.out i (by omega) (by have:=hlen'.out;omega)).symm)));have hxy3:dg r j<dg l j:=by omega
      clear hxy hge2;generalize dg r j=y at*;generalize dg l j=x at*;have hxy2:((x:Int)==(y:Int))=false:=by simp;omega
      have hxy4:¬(x:Int)<(y:Int):=by omega
      go_wp2
      go_quiet (fail)
      go_wp2
      go_quiet (fail)
      go_wp2
      go_ret
      exact⟨by rw[hres.out];rfl,jP (jP (hbx.trans (hbl.mono (by omega))) _) _⟩
   ·obtain rfl:k=0:=by omega
    have hres:l=r:=D5 (by have:=hlen.out;have:=hlen'.out;omega) (fun i a=>heq.out i (by omega) (by have:=hlen.out;omega));have hres:=bk hres
    go_wp2
    go_ret
    exact⟨by rw[hres.out,wE];rfl,hbx.trans (hbl.mono (by omega))⟩
 ·have hres:=bk (uD (hnl.out.len_lt (B:=4294967296) (l:=r) (by omega) hrr.out (by have:=hlen.out;have:=hlen'.out;omega)))
  go_enter Tryz.func204,Tryz.ntmps204
  go_wp2
  go_ret
  exact⟨by rw[hres.out];rfl,hbx⟩
theorem nv{w:World}{s t:Sl}{x y:Nat}(h:dU w s x)(h':dU w t y)(hn:s.n≤1000000000000)(hm:t.n≤1000000000000):
  Calls Tryz.prog 204 #[.agg #[.slice s.ao s.n s.c],.agg #[.slice t.ao t.n t.c]] w fun e w'=>
   e=.returned (.int .i64 (mK x y))∧Below w.heap.size w w':=by
 obtain⟨l,h1,h2,h3,h4⟩:=h;obtain⟨r,g1,g2,g3,g4⟩:=h';subst h4;subst g4;exact MZ s.ao t.ao s.n t.n s.c t.c l r w h1 g1 h2 g2 hn hm h3 g3
end Go.Proofs.YtgaaopjagcaojaaGreat
