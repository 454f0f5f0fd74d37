import Derived.WalkKit
import Derived.WalkSpells
import Derived.WalkLawsBesides
import Derived.Lib.Hide
import Derived.Test.YtgaaopjagcaojaaGreatMaths
import Derived.Test.YtgaaopjagcaojaaGreatProg
import Derived.KernelRfl
import Derived.Lib.Strings
import Derived.Lib.Slices
import Derived.Lib.Small
import Derived.Lib.Walk
import Derived.Lib.BitFns
import Derived.Deep.RegionHeld3
import Derived.Deep.RegionWith
import Derived.Deep.DrawnRows
import Derived.BigRegion
import Derived.Deep.Upon
import Derived.Deep.AppendSrc
import Derived.RegionTactic
import Derived.Deep.QuietTactic
import Derived.BigQuiet
import Derived.Deep.DeepCutAuto
import Derived.Deep.CutBlock
set_option linter.unusedSimpArgs false
set_option linter.unusedVariables false
set_option maxHeartbeats 4000000
namespace Go.Proofs.YtgaaopjagcaojaaGreat
open Go.RowKit
abbrev bk:=@Go.Lib.hid
abbrev ff:=@Go.bodyPost_ret
abbrev g9:=@Go.IntKind.wrap_u32
abbrev jU:=@Go.below_drewN
abbrev kL:=@Go.Value.slice.injEq
abbrev mJ:=@Go.Addr.mk.injEq
structure Sl where
 ao:Option Addr
 n:Nat
 c:Nat
def dk(w:World)(T:TypeId)(k:IntKind)(s:Sl)(l:List Nat):Prop:=
 s.n=l.length∧s.n≤s.c∧s.c≤9223372036854775807∧
  (0<s.n→∃b off cur,s.ao=some ⟨b,off,none⟩∧w.heap[b]? =some (.cells cur T (0,0))∧off+s.c≤cur.size∧∀i,i<s.n→cur[off+i]? =some (.int k ((dg l i:Nat):Int)))
def Kp(w w':World):Prop:=∀(b:Nat) (cur:Array Value) (T:TypeId) (f:Nat×Nat),(T=273∨T=3∨T=5)→w.heap[b]? =some (Obj.cells cur T f)→w'.heap[b]? =some (Obj.cells cur T f)
theorem l_{B:Nat}{w w':World}(h:Below B w.drew w'):Below B w w':=⟨h.os,h.tape,h.output,h.size,h.block⟩
theorem Kp.refl(w:World):Kp w w:=fun _ _ _ _ _ h=>h
theorem Kp.trans{w w' w'':World}(h:Kp w w')(h':Kp w' w''):Kp w w'':=fun b c T f hT hb=>h' b c T f hT (h b c T f hT hb)
theorem Kp.below{w w' w'':World}(h:Kp w w')(hb:Below w'.heap.size w' w''):Kp w w'':=fun b c T f hT hw=>by
 have h1:=h b c T f hT hw;rw[hb.block b (Array.getElem?_eq_some_iff.1 h1).1];exact h1
theorem Kp.setCell{w w':World}(h:Kp w w'){a:Addr}{c:Array Value}{T:TypeId}{f:Nat×Nat}(hb:w'.heap[a.block]? =some (.cells c T f))(hT:¬(T=273∨T=3∨T=5))(v:Value):Kp w (w'.setCell a v):=fun b c' T' f' hT' hw=>by
 have h1:=h b c' T' f' hT' hw;have:b≠a.block:=by
  rintro rfl;rw[h1]at hb;injection hb with hb;injection hb with _ hb _;exact hT (hb▸hT')
 rw[Below.heap_setCell _ _ _ _ this];exact h1
theorem dk.kp{w w':World}{T:TypeId}{k:IntKind}{s:Sl}{l:List Nat}(h:dk w T k s l)(hT:T=273∨T=3∨T=5)(hk:Kp w w'):dk w' T k s l:=by
 obtain⟨h1,h2,h3,h4⟩:=h;refine⟨h1,h2,h3,fun hp=>?_⟩;obtain⟨b,off,cur,ha,hb,hr⟩:=h4 hp;exact⟨b,off,cur,ha,hk _ _ _ _ hT hb,hr⟩
theorem dk.up{w w':World}{T:TypeId}{k:IntKind}{s:Sl}{l:List Nat}(h:dk w T k s l)(hb:Below w.heap.size w w'):dk w' T k s l:=by
 obtain⟨h1,h2,h3,h4⟩:=h;refine⟨h1,h2,h3,fun hp=>?_⟩;obtain⟨b,off,cur,ha,hh,hr⟩:=h4 hp;exact⟨b,off,cur,ha,by rw[hb.block b (Array.getElem?_eq_some_iff.1 hh).1];exact hh,hr⟩
theorem dk.open{w:World}{T:TypeId}{k:IntKind}{s:Sl}{l:List Nat}(h:dk w T k s l)(hp:0<s.n):
  ∃b off,s.ao=some ⟨b,off,none⟩∧b<w.heap.size∧∀i,i<s.n→w.cell? ⟨b,off+i,none⟩=some (.int k ((dg l i:Nat):Int)):=by
 obtain⟨h1,h2,h3,h4⟩:=h;obtain⟨b,off,cur,ha,hh,hc,hr⟩:=h4 hp;refine⟨b,off,ha,(Array.getElem?_eq_some_iff.1 hh).1,fun i hi=>?_⟩;rw[cell_of_row w b (off+i) cur T (0,0) hh];exact hr i hi
theorem dk.cut{w:World}{T:TypeId}{k:IntKind}{s:Sl}{l:List Nat}(h:dk w T k s l)(j c:Nat)(hj:j≤s.n)(hc:j≤c)(hc':c≤s.c):dk w T k ⟨s.ao,j,c⟩ (l.take j):=by
 obtain⟨h1,h2,h3,h4⟩:=h;refine⟨by simp;omega,hc,by simp;omega,fun hp=>?_⟩;simp only at hp;obtain⟨b,off,cur,ha,hh,hcc,hr⟩:=h4 (by omega);refine⟨b,off,cur,ha,hh,by simp;omega,fun i hi=>?_⟩;simp only at hi;rw[hr i (by omega)];simp[dg,hi]
theorem dk.nil(w:World)(T:TypeId)(k:IntKind)(ao:Option Addr)(c:Nat)(hc:c≤9223372036854775807):dk w T k ⟨ao,0,c⟩ []:=⟨rfl,aH _,hc,fun h=>absurd h (by simp)⟩
theorem Ap{w:World}{base:Nat}{T:TypeId}{k:IntKind}{v:Value}{l:List Nat}(h:w.ownsRow base T 1 v l.length (l.map fun d=>Value.int k ((d:Nat):Int))):
  ∃s:Sl,v=.slice s.ao s.n s.c∧dk w T k s l:=by
 obtain⟨h1,h2⟩:=h;rcases h2 with⟨rfl,h2⟩|⟨g,cap,cur,rfl,_,hg,hnc,hcm,hcs,htake⟩
 ·have:l=[]:=aL h2;subst this;exact⟨⟨none,0,0⟩,rfl,dk.nil _ _ _ _ _ (by omega)⟩
 ·refine⟨⟨some ⟨g,0,none⟩,l.length,cap⟩,rfl,rfl,hnc,by unfold maxLen at hcm;simpa using hcm,fun _=>⟨g,0,cur,rfl,hg,by simp only[fE]at hcs;simp[hcs],fun i hi=>?_⟩⟩;simp only at hi;have h3:(cur.toList.take (l.length*1))[i]? =(l.map fun d=>Value.int k ((d:Nat):Int))[i]? :=by rw[htake]
  rw[List.getElem?_take_of_lt (by omega)]at h3;simp only[bU];simpa [dg,hi]using h3
theorem dk.of_row{w:World}{T:TypeId}{k:IntKind}{b:Nat}{cur:Array Value}(l:List Nat)(h:w.heap[b]? =some (.cells cur T (0,0)))(hc:cur=(l.map fun d=>Value.int k ((d:Nat):Int)).toArray)(hl:l.length≤9223372036854775807):dk w T k ⟨some ⟨b,0,none⟩,l.length,l.length⟩ l:=by
 subst hc;exact⟨rfl,aj _,hl,fun _=>⟨b,0,_,rfl,h,by simp,fun i hi=>by simp only at hi;simp[dg,hi]⟩⟩
def dV(w:World)(s:Sl)(x:Nat):Prop:=∃l:List Nat,dk w 273 .u32 s l∧(∀d∈l,d<4294967296)∧qR l∧val 4294967296 l=x
def zB(w:World)(s:Sl)(x:Nat):Prop:=∃l:List Nat,dk w 3 .i64 s l∧(∀d∈l,d<10000)∧qR l∧val 10000 l=x
theorem dV.kp{w w':World}{s:Sl}{x:Nat}(h:dV w s x)(hk:Kp w w'):dV w' s x:=by
 obtain⟨l,h1,h2⟩:=h;exact⟨l,h1.kp (.inl rfl) hk,h2⟩
theorem zB.kp{w w':World}{s:Sl}{x:Nat}(h:zB w s x)(hk:Kp w w'):zB w' s x:=by
 obtain⟨l,h1,h2⟩:=h;exact⟨l,h1.kp (.inr (.inl rfl)) hk,h2⟩
theorem dV.up{w w':World}{s:Sl}{x:Nat}(h:dV w s x)(hb:Below w.heap.size w w'):dV w' s x:=h.kp ((Kp.refl w).below hb)
theorem zB.up{w w':World}{s:Sl}{x:Nat}(h:zB w s x)(hb:Below w.heap.size w w'):zB w' s x:=h.kp ((Kp.refl w).below hb)
theorem dV.nil(w:World)(ao:Option Addr)(c:Nat)(hc:c≤9223372036854775807:=by omega):dV w ⟨ao,0,c⟩ 0:=⟨[],dk.nil _ _ _ _ _ hc,by simp,G2,rfl⟩
theorem zB.nil(w:World)(ao:Option Addr)(c:Nat)(hc:c≤9223372036854775807):zB w ⟨ao,0,c⟩ 0:=⟨[],dk.nil _ _ _ _ _ hc,by simp,G2,rfl⟩
theorem dV.zero_iff{w:World}{s:Sl}{x:Nat}(h:dV w s x):x=0↔s.n=0:=by
 obtain⟨l,h1,h2,h3,h4⟩:=h;rw[←h4,h3.zero_iff (by omega),h1.1];exact List.length_eq_zero_iff.symm
theorem dV.n_le{w w':World}{s t:Sl}{x y:Nat}(h:dV w s x)(h':dV w' t y)(hxy:x≤y):s.n≤t.n:=by
 obtain⟨l,h1,h2,h3,h4⟩:=h;obtain⟨m,g1,g2,g3,g4⟩:=h';rw[h1.1,g1.1];exact h3.len_le (by omega) g2 (by omega)
structure yZ(t T:TypeId)(k:IntKind)(bytes:Nat):Prop where
 ut:Tryz.prog.underlying t=some (.slice T)
 inf:(Tryz.prog.info? T).map (fun i=>(i.zero,i.size,i.bytes))=some (some (.int k 0),1,bytes)
theorem iC:yZ 108 273 .u32 4:=⟨Tryz.underlying108,by kernel_rfl⟩
theorem E7:yZ 28 5 .u8 1:=⟨Tryz.underlying28,by kernel_rfl⟩
def iX(w:World)(base:Nat)(T:TypeId)(k:IntKind)(v:Value)(l:List Nat):Prop:=
 w.ownsRow base T 1 v l.length (l.map fun d=>Value.int k ((d:Nat):Int))
theorem iX.ints{w:World}{base:Nat}{T:TypeId}{k:IntKind}{v:Value}{l:List Nat}(h:iX w base T k v l):
  ∃s:Sl,v=.slice s.ao s.n s.c∧dk w T k s l:=Ap h
theorem iX.intsAt{w:World}{base:Nat}{T:TypeId}{k:IntKind}{ao:Option Addr}{n c:Nat}{l:List Nat}(h:iX w base T k (.slice ao n c) l):dk w T k ⟨ao,n,c⟩ l:=by
 obtain⟨s,hs,hi⟩:=h.ints;obtain⟨a,b,d⟩:=s;simp only[kL]at hs;obtain⟨rfl,rfl,rfl⟩:=hs;exact hi
theorem iX.nil(w:World)(base:Nat)(T:TypeId)(k:IntKind):iX w base T k (.slice none 0 0) []:=World.ownsRow_nil w base T 1
theorem iX.below{w w':World}{base B:Nat}{T:TypeId}{k:IntKind}{v:Value}{l:List Nat}(h:iX w base T k v l)(hb:Below B w w')(hB:w.heap.size≤B):iX w' base T k v l:=by
 obtain⟨h1,h2⟩:=h;refine⟨h1,?_⟩;rcases h2 with h2|⟨g,cap,cur,hv,hbg,hg,hr⟩
 ·exact .inl h2
 ·exact .inr ⟨g,cap,cur,hv,hbg,by rw[hb.block g (cN (Array.getElem?_eq_some_iff.1 hg).1 hB)];exact hg,hr⟩
theorem iX.alloc{w:World}{base:Nat}{T:TypeId}{k:IntKind}{v:Value}{l:List Nat}(h:iX w base T k v l)(o:Obj):iX (w.alloc o) base T k v l:=
 h.below ((bD _ _).alloc (aj _) o) (aj _)
theorem o_{base:Nat}{w w':World}{row:Option Nat}(hg:w.grownBy w' row)(hB:base≤w.heap.size)(hr:∀k,row=some k→base≤k:=by simp):Below base w w':=
 (bD base w).grown hg hB hr
theorem ft{t T:TypeId}{k:IntKind}{bytes:Nat}(hT:yZ t T k bytes)(w0:World){ops:Array Oper}{rest:List Oper}{o:Oper}{a:Act}{Q:Exit→Act→World→Prop}
  (hg:o.guard=none)(s x:Operand)(hop:o.op=Op.call {callee:=Callee.builtin Builtin.append,args:= #[s,x],argTypes:= #[t,t]})
  (base:Nat)(v:Value)(l:List Nat)(z:Int)(d:Nat)(hs:a.eval s=v)(hx:a.eval x=.slice (some ⟨w0.heap.size,0,none⟩) 1 1)
  (hown:iX w0 base T k v l)(hz:z=(d:Int))(hlen:(l.length+1)*bytes≤140737488355328)(hlm:l.length+1≤maxLen)(hbase:base≤w0.heap.size)
  (hK:∀v' w',iX w' base T k v' (l++[d])→Below base w0 w'→wpList Tryz.prog ops Q rest (a.put o.dst v') w'):
  wpList Tryz.prog ops Q (o::rest) a (w0.alloc (.cells #[.int k z] T)):=by
 obtain⟨i0,hi,hz0,hz1,hz2⟩:=info_parts hT.inf;refine wpList_append_own _ hg s x t hop base T i0 (.int k 0) 1 bytes hT.ut hi hz0 hz1 hz2 rfl (by decide) v l.length _ hs (hown.alloc _) ⟨w0.heap.size,0,none⟩ 1 1 [.int k z] hx rfl (cell_one_new _ _ _) ?_ hlm hlen (by simp;omega) ?_
 ·intro u hu;simp at hu;subst hu;rfl
 ·intro v' w' h1 h2 _;refine hK v' w' ?_ ?_
  ·unfold iX;subst hz;simpa using h1
  ·exact((bD base w0).alloc hbase _).grown h2 (by simp;omega) (fun g hgv=>(hown.lt g hgv).1)
theorem vr{t T:TypeId}{k:IntKind}{bytes:Nat}(hT:yZ t T k bytes)(w0:World){ops:Array Oper}{rest:List Oper}{o:Oper}{a:Act}{Q:Exit→Act→World→Prop}
  (hg:o.guard=none)(l c:Operand)(hop:o.op=Op.makeSlice t l c)(base:Nat)(kl kc:IntKind)(C:Int)(n:Nat)(hl:a.eval l=.int kl 0)(hc:a.eval c=.int kc C)
   (hn:n≤maxLen)
  (hK:∀v' w',iX w' base T k v' []→Below base w0 w'→wpList Tryz.prog ops Q rest (a.put o.dst v') w')(hC:C=(n:Int):=by omega)(hbytes:bytes*n≤281474976710656:=by omega)(hbase:base≤w0.heap.size:=by simp):
  wpList Tryz.prog ops Q (o::rest) a w0:=by
 obtain⟨i0,hi,hz0,hz1,hz2⟩:=info_parts hT.inf;refine wpList_make_own _ hg l c t hop base T i0 (.int k 0) 1 hT.ut hi hz0 hz1 kl kc C n hl hc hC (by rw[hz2];exact hbytes) hn hbase ?_;intro w' h1 h2;exact hK _ w' h1 (o_ h2 hbase)
theorem vO{t T:TypeId}{k:IntKind}{bytes:Nat}(hT:yZ t T k bytes)(w0:World){ops:Array Oper}{rest:List Oper}{o:Oper}{a:Act}{Q:Exit→Act→World→Prop}
  (hg:o.guard=none)(l c:Operand)(hop:o.op=Op.makeSlice t l c)(base:Nat)(kl kc:IntKind)(L C:Int)(n:Nat)(hl:a.eval l=.int kl L)(hc:a.eval c=.int kc C)(hL:L=(n:Int))(hC:C=(n:Int))
   (hn:n≤maxLen)(hbase:base≤w0.heap.size)
  (hK:∀w',iX w' base T k (.slice (some ⟨w0.heap.size,0,none⟩) n n) (List.replicate n 0)→Below base w0 w'→w0.heap.size<w'.heap.size→wpList Tryz.prog ops Q rest (a.put o.dst (.slice (some ⟨w0.heap.size,0,none⟩) n n)) w')(hbytes:bytes*n≤281474976710656:=by omega):
  wpList Tryz.prog ops Q (o::rest) a w0:=by
 obtain⟨i0,hi,hz0,hz1,hz2⟩:=info_parts hT.inf;refine wpList_make_full _ hg l c t hop base T i0 (.int k 0) 1 hT.ut hi hz0 hz1 kl kc L C n hl hc hL hC (by rw[hz2];exact hbytes) hn hbase ?_;intro w' h1 h2;refine hK w' ?_ (o_ h2 hbase) ?_
 ·unfold iX;have e:(madeCells (Value.int k 0).cells (n*1)).toList=(List.replicate n 0).map fun d=>Value.int k ((d:Nat):Int):=by
   apply rE (by simp[madeCells]);intro j h1 h2;simp[madeCells,Value.cells,Nat.mod_one]
  rw[e]at h1;simpa using h1
 ·have:=(h1.lt w0.heap.size rfl).2;exact this
theorem Cn{t T:TypeId}{k:IntKind}{bytes:Nat}(hT:yZ t T k bytes)(w0:World){ops:Array Oper}{rest:List Oper}{o:Oper}{a:Act}{Q:Exit→Act→World→Prop}
  (hg:o.guard=none)(l c:Operand)(hop:o.op=Op.makeSlice t l c)(base:Nat)(kl kc:IntKind)(L C:Int)(n:Nat)(hl:a.eval l=.int kl L)(hc:a.eval c=.int kc C)(hL:L=(n:Int))(hC:C=(n:Int))
  (hbytes:bytes*n≤281474976710656)(hn:n≤maxLen)(hbase:base≤w0.heap.size)
  (hK:∀w',iX w' base T k (.slice (some ⟨w0.heap.size,0,none⟩) n n) (List.replicate n 0)→Below w0.heap.size w0 w'→w0.heap.size<w'.heap.size→wpList Tryz.prog ops Q rest (a.put o.dst (.slice (some ⟨w0.heap.size,0,none⟩) n n)) w'):
  wpList Tryz.prog ops Q (o::rest) a w0:=by
 obtain⟨i0,hi,hz0,hz1,hz2⟩:=info_parts hT.inf;refine wpList_make_full _ hg l c t hop base T i0 (.int k 0) 1 hT.ut hi hz0 hz1 kl kc L C n hl hc hL hC (by rw[hz2];exact hbytes) hn hbase ?_;intro w' h1 h2;refine hK w' ?_ (o_ h2 (aj _)) ?_
 ·unfold iX;have e:(madeCells (Value.int k 0).cells (n*1)).toList=(List.replicate n 0).map fun d=>Value.int k ((d:Nat):Int):=by
   apply rE (by simp[madeCells]);intro j h1 h2;simp[madeCells,Value.cells,Nat.mod_one]
  rw[e]at h1;simpa using h1
 ·have:=(h1.lt w0.heap.size rfl).2;exact this
theorem Co{t T:TypeId}{k:IntKind}{bytes:Nat}(hT:yZ t T k bytes)(w0:World){ops:Array Oper}{rest:List Oper}{o:Oper}{a:Act}{Q:Exit→Act→World→Prop}
  (hg:o.guard=none)(s x:Operand)(hop:o.op=Op.call {callee:=Callee.builtin Builtin.append,args:= #[s,x],argTypes:= #[t,t]})
  (base:Nat)(v:Value)(l l2:List Nat)(sl:Sl)(hs:a.eval s=v)(hx:a.eval x=.slice sl.ao sl.n sl.c)
  (hown:iX w0 base T k v l)(hi:dk w0 T k sl l2)(hp:0<sl.n)(hlen:(l.length+l2.length)*bytes≤140737488355328)(hlm:l.length+l2.length≤maxLen)(hbase:base≤w0.heap.size)
  (hK:∀v' w',iX w' base T k v' (l++l2)→Below base w0 w'→wpList Tryz.prog ops Q rest (a.put o.dst v') w'):
  wpList Tryz.prog ops Q (o::rest) a w0:=by
 obtain⟨i0,hi0,hz0,hz1,hz2⟩:=info_parts hT.inf;obtain⟨b,off,ha,hb,hc⟩:=hi.open hp;have hn:=hi.1;refine wpList_append_own _ hg s x t hop base T i0 (.int k 0) 1 bytes hT.ut hi0 hz0 hz1 hz2 rfl (by decide) v l.length _ hs hown ⟨b,off,none⟩ sl.n sl.c (l2.map fun d=>Value.int k ((d:Nat):Int)) (by rw[hx,ha]) (by simp[hn]) ?_ ?_ (by rw[hn];exact hlm) (by rw[hn];exact hlen) hbase ?_
 ·intro j u hj;simp only[bL,Option.map_eq_some_iff]at hj;obtain⟨d,hd,rfl⟩:=hj;have hjl:j<l2.length:=(List.getElem?_eq_some_iff.1 hd).1;have:=hc j (by omega);rw[tC hjl]at this;have e:l2[j]=d:=(List.getElem?_eq_some_iff.1 hd).2;rw[e]at this;rw[←this];unfold Addr.add;split
  ·rename_i h0;subst h0;rfl
  ·rfl
 ·intro u hu;simp only[As]at hu;obtain⟨d,_,rfl⟩:=hu;rfl
 ·intro v' w' h1 h2 _;refine hK v' w' ?_ ((bD base w0).grown h2 hbase (fun g hgv=>(hown.lt g hgv).1));unfold iX;rw[aA,aS,←hn];exact h1
theorem Fh{t T:TypeId}{k:IntKind}{bytes:Nat}(hT:yZ t T k bytes)(w0:World){ops:Array Oper}{rest:List Oper}{o:Oper}{a:Act}{Q:Exit→Act→World→Prop}
  (hg:o.guard=none)(l c:Operand)(hop:o.op=Op.makeSlice t l c)(base:Nat)(kl kc:IntKind)(L C:Int)(m n:Nat)(hl:a.eval l=.int kl L)(hc:a.eval c=.int kc C)(hL:L=(m:Int))(hC:C=(n:Int))(hmn:m≤n)
  (hbytes:bytes*n≤281474976710656)(hn:n≤maxLen)(hbase:base≤w0.heap.size)
  (hK:∀v' w',iX w' base T k v' (List.replicate m 0)→Below base w0 w'→w0.heap.size<w'.heap.size→wpList Tryz.prog ops Q rest (a.put o.dst v') w'):
  wpList Tryz.prog ops Q (o::rest) a w0:=by
 obtain⟨i0,hi,hz0,hz1,hz2⟩:=info_parts hT.inf;have hnm:n≤9223372036854775807:=by have:=hn;simp only[maxLen]at this;omega
 have hr:=run_make (P:=Tryz.prog) w0 t T i0 (.int k 0) hT.ut hi hz0 kl kc (m:Int) (n:Int) (by omega) (by omega) (by rw[hz2,←dQ];omega) (by omega);simp only[jm,hz1,fE]at hr;refine wpList_plain hg fun K hK'=>?_;subst hL;subst hC;unfold Oper.wp;simp[execOp,hop,hl,hc,hr,Result.andThen];refine hK' _ _ (hK _ _ ?_ ((bD base w0).alloc hbase _) (by simp));refine⟨by simp,.inr ⟨w0.heap.size,n,_,by simp,hbase,heap_alloc_new w0 _,by simpa using hmn,hn,by simp[madeCells],?_⟩⟩;apply rE (by simp[madeCells];omega);intro j h1 h2;simp[madeCells,Value.cells,Nat.mod_one]
theorem iX.slot{w:World}{base:Nat}{T:TypeId}{k:IntKind}{g n c:Nat}{l:List Nat}(h:iX w base T k (.slice (some ⟨g,0,none⟩) n c) l)(i:Nat)(hi:i<l.length):
  w.cell? ⟨g,i,none⟩=some (.int k ((dg l i:Nat):Int))∧w.frozen? ⟨g,i,none⟩=false∧base≤g∧g<w.heap.size:=by
 have hn:n=l.length:=by
  rcases h.2 with⟨e,_⟩|⟨_,_,_,e,_⟩
  ·simp at e
  ·simp at e;exact e.2.1
 subst hn;refine⟨?_,World.ownsRow.frozenAt h i,h.lt g rfl⟩;rw[World.ownsRow.cellAt h i (by omega)];simp[dg,hi]
theorem iX.store{w:World}{base:Nat}{T:TypeId}{k:IntKind}{g n c:Nat}{l:List Nat}(h:iX w base T k (.slice (some ⟨g,0,none⟩) n c) l)(i d:Nat):
  iX (w.setCell ⟨g,i,none⟩ (.int k ((d:Nat):Int))) base T k (.slice (some ⟨g,0,none⟩) n c) (l.set i d)∧Below base w (w.setCell ⟨g,i,none⟩ (.int k ((d:Nat):Int))):=by
 have hn:n=l.length:=by
  rcases h.2 with⟨e,_⟩|⟨_,_,_,e,_⟩
  ·simp at e
  ·simp at e;exact e.2.1
 subst hn;have h1:=World.ownsRow.stored h i (.int k ((d:Nat):Int));refine⟨?_,(bD base w).setCell (h.lt g rfl).1 _⟩;have h2:=h1.1;unfold iX;rw[fx];rw[show(l.set i d).map (fun d=>Value.int k ((d:Nat):Int))=(l.map (fun d=>Value.int k ((d:Nat):Int))).set i (Value.int k ((d:Nat):Int))from by rw[List.map_set]];exact h2
theorem iX.store'{w:World}{base:Nat}{T:TypeId}{k:IntKind}{g n c:Nat}{l:List Nat}(h:iX w base T k (.slice (some ⟨g,0,none⟩) n c) l)(i:Nat)(z:Int)(d:Nat)(hz:z=(d:Int)):
  iX (w.setCell ⟨g,i,none⟩ (.int k z)) base T k (.slice (some ⟨g,0,none⟩) n c) (l.set i d)∧Below base w (w.setCell ⟨g,i,none⟩ (.int k z)):=by
 subst hz;exact h.store i d
theorem iX.set_ne{w:World}{base:Nat}{T:TypeId}{k:IntKind}{g n c:Nat}{l:List Nat}(h:iX w base T k (.slice (some ⟨g,0,none⟩) n c) l){a:Addr}(ha:g≠a.block)(u:Value):
  iX (w.setCell a u) base T k (.slice (some ⟨g,0,none⟩) n c) l:=by
 obtain⟨h1,h2⟩:=h;refine⟨h1,?_⟩;rcases h2 with⟨e,_⟩|⟨g',cap,cur,hv,hbg,hg,hr⟩
 ·simp at e
 ·simp only[kL,aq,mJ,and_true]at hv;obtain⟨rfl,hv1,hv2⟩:=hv;exact .inr ⟨g,cap,cur,by rw[hv1,hv2],hbg,by rw[Below.heap_setCell _ _ _ _ ha];exact hg,hr⟩
theorem lD(w:World)(o:Obj):(w.alloc o).heap[w.heap.size]? =some o:=heap_alloc_new w o
theorem kN{w:World}{k:Nat}{o:Obj}(h:w.heap[k]? =some o)(o':Obj):(w.alloc o').heap[k]? =some o:=by
 rw[kB w o' k (Array.getElem?_eq_some_iff.1 h).1];exact h
theorem cT{B:Nat}{w w':World}{k:Nat}{o:Obj}(hb:Below B w w')(h:w.heap[k]? =some o)(hk:k<B:=by omega):w'.heap[k]? =some o:=(hb.block k hk).trans h
theorem bG{w w':World}{k:Nat}{o:Obj}(hb:Below w.heap.size w w')(h:w.heap[k]? =some o):w'.heap[k]? =some o:=cT hb (hk:=(Array.getElem?_eq_some_iff.1 h).1) h
theorem bW{w:World}{b:Nat}{c:Array Value}{T:TypeId}{f:Nat×Nat}(h:w.heap[b]? =some (.cells c T f))(i:Nat):w.cell? ⟨b,i,none⟩=c[i]? :=cell_of_row w b i c T f h
theorem dY{w:World}{b:Nat}{c:Array Value}{T:TypeId}(h:w.heap[b]? =some (.cells c T (0,0)))(i:Nat):w.frozen? ⟨b,i,none⟩=false:=frozen_of_row w b i c T h
theorem rR{w:World}{b:Nat}{o:Obj}(h:w.heap[b]? =some o):b<w.heap.size:=(Array.getElem?_eq_some_iff.1 h).1
theorem wh(w:World)(b i:Nat)(c:Array Value)(T:TypeId)(f:Nat×Nat)(v:Value)(h:w.heap[b]? =some (.cells c T f)):(w.setCell ⟨b,i,none⟩ v).heap[b]? =some (.cells (c.setIfInBounds i v) T f):=by
 simp[World.setCell,j1,h]
theorem p9{w:World}{b i:Nat}{c:Array Value}{T:TypeId}{f:Nat×Nat}(h:w.heap[b]? =some (.cells c T f))(v:Value):(w.setCell ⟨b,i,none⟩ v).heap[b]? =some (.cells (c.setIfInBounds i v) T f):=wh w b i c T f v h
theorem cG{w:World}{b:Nat}{o:Obj}(h:w.heap[b]? =some o){a:Addr}(hab:b≠a.block)(v:Value):(w.setCell a v).heap[b]? =some o:=by
 rw[Below.heap_setCell _ _ _ _ hab];exact h
theorem AP(w:World)(o1 o2:Obj):((w.alloc o1).alloc o2).heap[w.heap.size]? =some o1∧((w.alloc o1).alloc o2).heap[w.heap.size+1]? =some o2∧((w.alloc o1).alloc o2).heap.size=w.heap.size+2:=
 ⟨kN (lD w o1) o2,by have:=lD (w.alloc o1) o2;simpa using this,by simp⟩
theorem lN(w:World)(o1 o2 o3:Obj):(((w.alloc o1).alloc o2).alloc o3).heap[w.heap.size]? =some o1∧(((w.alloc o1).alloc o2).alloc o3).heap[w.heap.size+1]? =some o2∧(((w.alloc o1).alloc o2).alloc o3).heap[w.heap.size+1+1]? =some o3∧(((w.alloc o1).alloc o2).alloc o3).heap.size=w.heap.size+3:=
 ⟨kN (AP w o1 o2).1 o3,kN (AP w o1 o2).2.1 o3,by have:=lD ((w.alloc o1).alloc o2) o3;simpa using this,by simp⟩
theorem Oa(w:World)(o1 o2 o3 o4:Obj):((((w.alloc o1).alloc o2).alloc o3).alloc o4).heap[w.heap.size]? =some o1∧((((w.alloc o1).alloc o2).alloc o3).alloc o4).heap[w.heap.size+1]? =some o2∧((((w.alloc o1).alloc o2).alloc o3).alloc o4).heap[w.heap.size+1+1]? =some o3∧((((w.alloc o1).alloc o2).alloc o3).alloc o4).heap[w.heap.size+1+1+1]? =some o4∧((((w.alloc o1).alloc o2).alloc o3).alloc o4).heap.size=w.heap.size+4:=
 ⟨kN (lN w o1 o2 o3).1 o4,kN (lN w o1 o2 o3).2.1 o4,kN (lN w o1 o2 o3).2.2.1 o4,by have:=lD (((w.alloc o1).alloc o2).alloc o3) o4;simpa using this,by simp⟩
set_option maxRecDepth 100000 in
theorem Jg(x:Int)(w:World)(h0:0≤x)(h1:x≤4294967295):
  Calls Tryz.prog 266 #[.int .u32 x] w fun e w'=>e=.returned (.int .i64 (Lib.bitLen x.toNat))∧w=w':=by
 have key:∀y:Int,0≤y→y≤255→(∀w,(Instr.index 9 (.string Lib.len8tab) (.int .u8 y)).run Tryz.prog w=.ok (.int .u8 (Lib.bitLen y.toNat:Int)) w)∧Lib.bitLen y.toNat≤8:=fun y a b=>by
  have l:=Lib.bitLen_le8' y a b;refine⟨fun w=>?_,by omega⟩;rw[Lib.run_index_len8tab (P:=Tryz.prog) w 9 .u8 y Tryz.underlying9 a b,Lib.len8_of y a b]
 by_cases c1:x<65536
 ·by_cases c2:x<256
  ·obtain⟨k1,k2⟩:=key x h0 (by omega)
   go_enter Tryz.func266,Tryz.ntmps266
   go_wp2
   go_ret
   exact⟨rfl,rfl⟩
  ·have s:=Lib.bitLen_shift8 x.toNat (by omega) (by omega);obtain⟨k1,k2⟩:=key (x/256) (by omega) (by omega);have e:(x/256).toNat=x.toNat/256:=by omega
   rw[e]at k1 k2;generalize Lib.bitLen (x.toNat/256)=b at*;have hs:=bk s;clear s
   go_enter Tryz.func266,Tryz.ntmps266
   go_wp2
   go_ret
   exact⟨dM Ending.returned (dM (Value.int IntKind.i64) (by have:=hs.out;omega)),rfl⟩
 ·by_cases c2:x/65536<256
  ·have s:=Lib.bitLen_shift16 x.toNat (by omega) (by omega);obtain⟨k1,k2⟩:=key (x/65536) (by omega) (by omega);have e:(x/65536).toNat=x.toNat/65536:=by omega
   rw[e]at k1 k2;generalize Lib.bitLen (x.toNat/65536)=b at*;have hs:=bk s;clear s
   go_enter Tryz.func266,Tryz.ntmps266
   go_wp2
   go_ret
   exact⟨dM Ending.returned (dM (Value.int IntKind.i64) (by have:=hs.out;omega)),rfl⟩
  ·have s:=Lib.bitLen_shift24 x.toNat (by omega) (by omega);obtain⟨k1,k2⟩:=key (x/65536/256) (by omega) (by omega);have e:(x/65536/256).toNat=x.toNat/16777216:=by omega
   rw[e]at k1 k2;generalize Lib.bitLen (x.toNat/16777216)=b at*;have hs:=bk s;clear s
   go_enter Tryz.func266,Tryz.ntmps266
   go_wp2
   go_ret
   exact⟨dM Ending.returned (dM (Value.int IntKind.i64) (by have:=hs.out;omega)),rfl⟩
def bl(x:Nat):Nat:=if x=0 then 0 else Nat.log2 x+1
theorem wQ:∀(f x:Nat),x<2^f→Lib.bitLenAux f x=bl x
 |0,x,h=>by
  obtain rfl:x=0:=by omega
  rfl
 |f+1,x,h=>by
  unfold Lib.bitLenAux bl;split
  ·rfl
  ·rename_i hx;rw[wQ f (x/2) (by omega)];unfold bl;rw[Nat.log2_def x];split<;>split<;>omega
theorem V2(x:Nat)(h:x<4294967296):Lib.bitLen x=bl x:=wQ 64 x (by omega)
theorem qU(x k:Nat):bl x≤k↔x<2^k:=by
 unfold bl;split
 ·rename_i h;subst h;simp;exact gW (by omega)
 ·rename_i h;rw[←Nat.log2_lt h];omega
theorem Bg(x:Nat)(w:World)(h:x<4294967296):
  Calls Tryz.prog 266 #[.int .u32 (x:Int)] w fun e w'=>e=.returned (.int .i64 (bl x:Int))∧w=w':=by
 refine(Jg x w (by omega) (by omega)).mono ?_;rintro e w' ⟨rfl,rfl⟩;rw[jm,V2 x h];exact⟨rfl,rfl⟩
theorem GH(x:Nat)(w:World)(h:x<4294967296):
  Calls Tryz.prog 249 #[.int .u32 (x:Int)] w fun e w'=>e=.returned (.int .i64 ((32-bl x:Nat):Int))∧w=w':=by
 have hb:bl x≤32:=(qU x 32).2 (by omega)
 go_enter Tryz.func249,Tryz.ntmps249
 go_wp2_with (go_at_call 266;refine(Bg x _ h).mono ?_;rintro e w' ⟨rfl,rfl⟩)
 go_ret
 have e:((32-bl x:Nat):Int)=32-(bl x:Int):=by omega
 rw[e];exact⟨rfl,rfl⟩
theorem CT{w w':World}{c:Array Value}{T:TypeId}(h:Below (w.alloc (.cells c T)).heap.size (w.alloc (.cells c T)) w'):w'.heap[w.heap.size]? =some (.cells c T (0,0)):=bG h (lD _ _)
theorem NJ{w:World}{b:Nat}{v:Value}{T:TypeId}(h:w.heap[b]? =some (.cells #[v] T (0,0))):w.cell? ⟨b,0,none⟩=some v:=bW h 0
theorem AH{w w':World}{c:Array Value}{T:TypeId}(h:Below (w.alloc (.cells c T)).drew.heap.size (w.alloc (.cells c T)).drew w'):w'.heap[w.heap.size]? =some (.cells c T (0,0)):=bG (l_ h) (lD _ _)
theorem dV.alloc{w:World}{s:Sl}{x:Nat}(h:dV w s x)(o:Obj):dV (w.alloc o) s x:=h.up ((bD _ _).alloc (aj _) o)
def Ao(W w:World):Prop:=Below W.heap.size W w
theorem Ao.refl(W:World):Ao W W:=bD _ _
theorem Ao.call{W w w':World}(h:Ao W w)(hb:Below w.heap.size w w'):Ao W w':=Below.trans h (hb.mono (Below.size h))
theorem Ao.trans{W w w':World}(h:Ao W w)(h':Ao w w'):Ao W w':=h.call h'
theorem Ao.below{B:Nat}{w0 W w:World}(h:Below B w0 W)(h':Ao W w)(hB:B≤W.heap.size):Below B w0 w:=h.trans (Below.mono h' hB)
def Nc(W:World)(b:Nat)(w:World):Prop:=∀k,b≤k→w.heap[k]? =W.heap[k]?
theorem Nc.refl(W:World)(b:Nat):Nc W b W:=fun _ _=>rfl
theorem NP(ao:Option Addr)(n c:Nat)(l:List Nat)(w:World)(h:dk w 273 .u32 ⟨ao,n,c⟩ l):
  Calls Tryz.prog 245 #[.slice ao n c] w fun e w'=>
   ∃k:Nat,k≤n∧e=.returned (.agg #[.slice ao k k])∧(∀i,k≤i→i<n→dg l i=0)∧(0<k→dg l (k-1)≠0)∧Below w.heap.size w w':=by
 have hm:n≤9223372036854775807:=by have:=h.2.1;have:=h.2.2.1;simp only at*;omega
 have hnc:n≤c:=h.2.1;have hl:Hid (n=l.length):=h.1;have hop:Hid (0<n→∃b off,ao=some ⟨b,off,none⟩∧b<w.heap.size∧∀i,i<n→w.cell? ⟨b,off+i,none⟩=some (.int .u32 ((dg l i:Nat):Int))):=h.open;have hcc:c≤9223372036854775807:=h.2.2.1;clear h
 go_enter Tryz.func245,Tryz.ntmps245
 go_wp2
 go_loop [3] (fun u=>∃k:Nat,k≤n∧u=.int .i64 k∧Hid (∀i,k≤i→i<n→dg l i=0)) (fun u=>(intOf u).toNat)
 case atStart=>exact⟨n,aj _,rfl,fun i h1 h2=>by omega⟩
 case round=>
  obtain⟨k,hk,rfl,hz⟩:=hrel;by_cases h0:0<k
  ·obtain⟨b,off,rfl,hb,hcell⟩:=hop.out (by omega);obtain⟨j,rfl⟩:∃j,k=j+1:=⟨k-1,by omega⟩;have hcj:=hcell j (by omega);clear hcell;by_cases hd:dg l j=0
   ·rw[hd]at hcj
    go_wp2
    go_round
    case rel=>
     refine⟨j,by omega,by go_num,fun i h1 h2=>?_⟩;by_cases hij:i=j
     ·rw[hij];exact hd
     ·exact hz.out i (by omega) h2
    case measure=>simp[intOf]
   ·have hdd:(((dg l j:Nat):Int)==0)=false:=by simp;omega
    generalize hx:dg l j=x at*;have hx:=bk hx;have hd:=bk hd
    go_wp2
    refine ff (v:=.agg #[.slice (some ⟨b,off,none⟩) (j+1) (j+1)]) (by simp[results,Tryz.results245,go_sem]) rfl ⟨j+1,hk,rfl,hz.out,fun _=>by simp only[eI];rw[hx.out];exact hd.out,?_⟩;exact(bD _ _).alloc (aj _) _
  ·obtain rfl:k=0:=by omega
   go_wp2
   refine ff (v:=.agg #[.slice ao 0 0]) (by simp[results,Tryz.results245,go_sem]) rfl ⟨0,hk,rfl,hz.out,fun h=>absurd h (by omega),?_⟩;exact(bD _ _).alloc (aj _) _
theorem lg{w:World}{s:Sl}{l:List Nat}(h:dk w 273 .u32 s l)(hd:∀d∈l,d<4294967296):
  Calls Tryz.prog 245 #[.slice s.ao s.n s.c] w fun e w'=>
   ∃t:Sl,e=.returned (.agg #[.slice t.ao t.n t.c])∧dV w' t (val 4294967296 l)∧t.n≤s.n∧Below w.heap.size w w':=by
 refine(NP s.ao s.n s.c l w h).mono ?_;rintro e w' ⟨k,hk,rfl,h0,h1,hb⟩;have hl:=h.1;have hn:=Mt (l:=l) (k:=k) (by omega) (fun i a b=>h0 i a (by omega)) h1 4294967296;exact⟨⟨s.ao,k,k⟩,rfl,⟨l.take k,(h.cut k k hk (aj _) (by have:=h.2.1;omega)).up hb,fun d hdm=>hd d (fm hdm),hn.1,hn.2⟩,hk,hb⟩
theorem Sg(ao:Option Addr)(n c:Nat)(l:List Nat)(w:World)(d:Nat)(h:dk w 273 .u32 ⟨ao,n,c⟩ l)(hl:∀d∈l,d<4294967296)(hd:d<4294967296)(hd0:0<d)(hn:n≤1000000000000):
  Calls Tryz.prog 248 #[.slice ao n c,.int .u32 (d:Int)] w fun e w'=>
   ∃(s:Sl) (o:List Nat) (r:Nat),e=.returned (.tuple #[.slice s.ao s.n s.c,.int .u32 (r:Int)])∧dk w' 273 .u32 s o∧(∀d∈o,d<4294967296)∧o.length=n∧val 4294967296 l=d*val 4294967296 o+r∧r<d∧Below w.heap.size w w':=by
 have hop:Hid (0<n→∃b off,ao=some ⟨b,off,none⟩∧b<w.heap.size∧∀i,i<n→w.cell? ⟨b,off+i,none⟩=some (.int .u32 ((dg l i:Nat):Int))):=h.open;have hlen:Hid (n=l.length):=h.1;clear h;have hll:Hid (∀d∈l,d<4294967296):=hl;clear hl
 go_enter Tryz.func248,Tryz.ntmps248
 go_wp2_with (at_make;refine vO iC _ rfl _ _ rfl w.heap.size _ _ _ _ n rfl rfl rfl rfl (by unfold maxLen;omega) (aj _) ?_;intro w1 ho hb hsz)
 go_loopw [7,8] (fun r i wr=>∃(k:Nat) (o:List Nat) (q:Nat),k≤n∧i=.int .i64 ((k:Int)-1)∧r=.int .u64 q∧q<d∧iX wr w.heap.size 273 .u32 (.slice (some ⟨w.heap.size,0,none⟩) n n) o∧Hid (o.length=n)∧Hid (∀d∈o,d<4294967296)∧Hid (val 4294967296 (l.drop k)=d*val 4294967296 (o.drop k)+q)∧Below w.heap.size w wr) (fun _ i _=>(intOf i+1).toNat)
 case atStart=>exact⟨n,List.replicate n 0,0,aj _,rfl,rfl,hd0,ho,by unfold Hid;simp,by unfold Hid;simp,by unfold Hid;have:=hlen.out;simp[val,this],hb⟩
 case round=>
  obtain⟨k,o,q,hk,rfl,rfl,hq,hown,hol,hod,hval,hbl⟩:=hrel;by_cases hlt:0<k
  ·obtain⟨b,off,rfl,hbw,hcell⟩:=hop.out (by omega);obtain⟨j,rfl⟩:∃j,k=j+1:=⟨k-1,by omega⟩;have hck:wr.cell? ⟨b,off+j,none⟩=some (.int .u32 ((dg l j:Nat):Int)):=(hbl.cell (p:=⟨b,off+j,none⟩) hbw).trans (hcell j (by omega));clear hcell;have hx:dg l j<4294967296:=jh hll.out j;generalize hxe:dg l j=x at*;have HX:=bk hxe;clear hxe;have hj1:j<l.length:=by have:=hlen.out;omega
   have hol':o.length=n:=hol.out;have hstep:=bk (Sf (B:=4294967296) hj1 (by rw[hlen.out.symm,hol']) HX.out hval.out);have hbo:=zY q x (by omega) hx;generalize hN:q*4294967296+x=N at*;have hN1:N/d<4294967296:=by rw[←hN];exact NY hq hx
   have hN2:N % d<d:=fG _ hd0;have hN3:N<18446744073709551616:=by rw[←hN];omega
   clear hN hol';have hw1:IntKind.u64.wrap ((N:Int)/(d:Int))=((N/d:Nat):Int):=by
    rw[←kZ];generalize N/d=u at*;exact IntWalk.u64_in _ (by omega)
   generalize N/d=u at*;have hst:=hown.store j u;obtain⟨hoc,hof,_,_⟩:=hown.slot j (by have:=hol.out;omega)
   go_wp2
   go_roundw
   case rel=>exact⟨j,o.set j u,N % d,by omega,rfl,by go_num,hN2,hst.1,by unfold Hid;rw[fx];exact hol.out,pR hod.out hN1,hstep.out,hbl.trans hst.2⟩
   case measure=>simp[intOf]
  ·obtain rfl:k=0:=by omega
   obtain⟨s,hs,hsi⟩:=hown.ints
   go_wp2
   go_ret2
   exact⟨s,o,q,by rw[hs];rfl,hsi,hod.out,hol.out,by simpa using hval.out,hq,hbl⟩
theorem Lw(ao bo:Option Addr)(n m c d:Nat)(l r:List Nat)(w:World)(h:dk w 273 .u32 ⟨ao,n,c⟩ l)(h':dk w 273 .u32 ⟨bo,m,d⟩ r)(hl:∀d∈l,d<4294967296)(hr:∀d∈r,d<4294967296)(hn:n≤1000000000000)(hm:m≤1000000000000)(hmn:m≤n):
  Calls Tryz.prog 252 #[.agg #[.slice ao n c],.agg #[.slice bo m d]] w fun e w'=>
   ∃(s:Sl),e=.returned (.agg #[.slice s.ao s.n s.c])∧dV w' s (val 4294967296 l+val 4294967296 r)∧s.n≤n+1∧Below w.heap.size w w':=by
 have hop:Hid (0<n→∃b off,ao=some ⟨b,off,none⟩∧b<w.heap.size∧∀i,i<n→w.cell? ⟨b,off+i,none⟩=some (.int .u32 ((dg l i:Nat):Int))):=h.open;have hop':Hid (0<m→∃b off,bo=some ⟨b,off,none⟩∧b<w.heap.size∧∀i,i<m→w.cell? ⟨b,off+i,none⟩=some (.int .u32 ((dg r i:Nat):Int))):=h'.open;have hlen:Hid (n=l.length):=h.1;have hlen':Hid (m=r.length):=h'.1;clear h h';have hll:Hid (∀d∈l,d<4294967296):=hl;have hrr:Hid (∀d∈r,d<4294967296):=hr;clear hl hr
 go_enter Tryz.func252,Tryz.ntmps252
 go_wp2_with (at_make;refine vr iC _ rfl _ _ rfl (w.heap.size+3) _ _ _ (n+1) rfl rfl (by unfold maxLen;omega) ?_;intro v1 w1 ho hb;have hA1:=bW (cT hb (lN w _ _ _).1) 0)
 have hbw:Below w.heap.size w w1:=((((bD _ _).alloc (aj _) _).alloc (by simp) _).alloc (by simp;omega) _).trans (hb.mono (by omega));have hE2:=cT hb (lN w _ _ _).2.1;have hE3:=cT hb (lN w _ _ _).2.2.1
 go_loopw [5,6,26] (fun v cy i wr=>∃(k:Nat) (o:List Nat) (q:Nat),k≤n∧i=.int .i64 k∧cy=.int .u64 q∧q≤1∧iX wr (w.heap.size+3) 273 .u32 v o∧Hid (o.length=k)∧Hid (∀d∈o,d<4294967296)∧Hid (val 4294967296 o+4294967296^k*q=val 4294967296 (l.take k)+val 4294967296 (r.take k))∧Below (w.heap.size+3) w1 wr) (fun _ _ i _=>n-(intOf i).toNat)
 case atStart=>exact⟨0,[],0,aH _,rfl,rfl,by omega,ho,rfl,by unfold Hid;simp,by unfold Hid;simp[val],bD _ _⟩
 case round=>
  obtain⟨k,o,q,hk,rfl,rfl,hq,hown,hol,hod,hval,hbl⟩:=hrel;have hB:=bW (cT hbl hE2) 0;have hws:w.heap.size+3≤wr.heap.size:=by have:=hbl.size;have:=hb.size;simp at this;omega
  by_cases hlt:k<n
  ·obtain⟨b,off,rfl,hbw0,hcell⟩:=hop.out (by omega);have hck:wr.cell? ⟨b,off+k,none⟩=some (.int .u32 ((dg l k:Nat):Int)):=((hbl.cell (p:=⟨b,off+k,none⟩) (by simp;omega)).trans (hbw.cell (p:=⟨b,off+k,none⟩) hbw0)).trans (hcell k hlt);clear hcell;have hx:dg l k<4294967296:=jh hll.out k;by_cases hltm:k<m
   ·obtain⟨b',off',rfl,hbw0',hcell'⟩:=hop'.out (by omega);have hck':wr.cell? ⟨b',off'+k,none⟩=some (.int .u32 ((dg r k:Nat):Int)):=((hbl.cell (p:=⟨b',off'+k,none⟩) (by simp;omega)).trans (hbw.cell (p:=⟨b',off'+k,none⟩) hbw0')).trans (hcell' k hltm);clear hcell';have hy:dg r k<4294967296:=jh hrr.out k;have hstep:=bk (wO (z:=q+dg l k+dg r k) hol.out rfl rfl rfl hval.out);generalize dg l k=x at*;generalize dg r k=y at*
    go_wp2_with (at_builtin;refine ft iC _ rfl _ _ rfl (w.heap.size+3) u5 o _ ((q+x+y) % 4294967296) rfl rfl hown ?hz ?hl ?hm ?hb ?_)
    case hz=>rfl
    case hl=>have:=hol.out;omega
    case hm=>have:=hol.out;unfold maxLen;omega
    case hb=>exact hws
    intro v' w' hown' hb';clear hck hck' hB
    go_wp2
    go_roundw
    case rel=>exact⟨k+1,_,(q+x+y)/4294967296,by omega,by go_num,rfl,by omega,hown',by unfold Hid;have:=hol.out;simp;omega,jZ hod.out (fG _ (by omega)),hstep.out,hbl.trans hb'⟩
    case measure=>simp[intOf];omega
   ·have hstep:=bk (wO (z:=q+dg l k) (y:=0) (r:=r) hol.out rfl (tB (by have:=hlen'.out;omega)) rfl hval.out);generalize dg l k=x at*
    go_wp2_with (at_builtin;refine ft iC _ rfl _ _ rfl (w.heap.size+3) u5 o _ ((q+x) % 4294967296) rfl rfl hown ?hz' ?hl' ?hm' ?hb' ?_)
    case hz'=>rfl
    case hl'=>have:=hol.out;omega
    case hm'=>have:=hol.out;unfold maxLen;omega
    case hb'=>exact hws
    intro v' w' hown' hb';clear hck hB
    go_wp2
    go_roundw
    case rel=>exact⟨k+1,_,(q+x)/4294967296,by omega,by go_num,rfl,by omega,hown',by unfold Hid;have:=hol.out;simp;omega,jZ hod.out (fG _ (by omega)),hstep.out,hbl.trans hb'⟩
    case measure=>simp[intOf];omega
  ·have hkn:Hid (k=n):=by unfold Hid;omega
   go_wp2_with (at_builtin;refine ft iC _ rfl _ _ rfl (w.heap.size+3) u5 o _ q rfl rfl hown ?hz2 ?hl2 ?hm2 ?hb2 ?_)
   case hz2=>rfl
   case hl2=>have:=hol.out;omega
   case hm2=>have:=hol.out;unfold maxLen;omega
   case hb2=>exact hws
   intro v' w' hown' hb';obtain⟨s,rfl,hs⟩:=hown'.ints;have hsd:=bk (jZ hod.out (show q<4294967296 by omega));clear hB
   go_wp2_with (go_at_call 245;refine(lg hs hsd.out).mono ?_;rintro e w2 ⟨t,rfl,ht,htn,hb2⟩;have hE3':=bG hb2 (cT hb' (cT hbl hE3));have hR:=bW hE3' 0;have hRf:=dY hE3' 0)
   refine ff (v:=.agg #[.slice t.ao t.n t.c]) (by simp[results,Tryz.results252,go_sem,hR]) rfl ⟨t,rfl,?_,?_,?_⟩
   ·have e:val 4294967296 (o++[q])=val 4294967296 l+val 4294967296 r:=by
     have h1:=hval.out;rw[eP _ l _ (by have:=hlen.out;have:=hkn.out;omega),eP _ r _ (by have:=hlen'.out;have:=hkn.out;omega)]at h1;rw[kK,hol.out];exact h1
    rw[←e];exact ht.kp ((Kp.refl _).setCell hE3' (by decide) _)
   ·have:=hs.1;have:=hol.out;have:=hkn.out;simp at*;omega
   ·exact(((hbw.trans (hbl.mono (by omega))).trans (hb'.mono (by omega))).trans (hb2.mono (by have:=hb'.size;omega))).setCell (by simp;omega) _
theorem Lx(ao bo:Option Addr)(n m c d:Nat)(l r:List Nat)(w:World)(h:dk w 273 .u32 ⟨ao,n,c⟩ l)(h':dk w 273 .u32 ⟨bo,m,d⟩ r)(hl:∀d∈l,d<4294967296)(hr:∀d∈r,d<4294967296)(hn:n≤1000000000000)(hm:m≤1000000000000)(hmn:m<n):
  Calls Tryz.prog 252 #[.agg #[.slice bo m d],.agg #[.slice ao n c]] w fun e w'=>
   ∃(s:Sl),e=.returned (.agg #[.slice s.ao s.n s.c])∧dV w' s (val 4294967296 l+val 4294967296 r)∧s.n≤n+1∧Below w.heap.size w w':=by
 have hop:Hid (0<n→∃b off,ao=some ⟨b,off,none⟩∧b<w.heap.size∧∀i,i<n→w.cell? ⟨b,off+i,none⟩=some (.int .u32 ((dg l i:Nat):Int))):=h.open;have hop':Hid (0<m→∃b off,bo=some ⟨b,off,none⟩∧b<w.heap.size∧∀i,i<m→w.cell? ⟨b,off+i,none⟩=some (.int .u32 ((dg r i:Nat):Int))):=h'.open;have hlen:Hid (n=l.length):=h.1;have hlen':Hid (m=r.length):=h'.1;clear h h';have hll:Hid (∀d∈l,d<4294967296):=hl;have hrr:Hid (∀d∈r,d<4294967296):=hr;clear hl hr
 go_enter Tryz.func252,Tryz.ntmps252
 go_wp2_with (at_make;refine vr iC _ rfl _ _ rfl (w.heap.size+3) _ _ _ (n+1) rfl rfl (by unfold maxLen;omega) ?_;intro v1 w1 ho hb;have hA1:=bW (cT hb (lN w _ _ _).1) 0)
 have hbw:Below w.heap.size w w1:=((((bD _ _).alloc (aj _) _).alloc (by simp) _).alloc (by simp;omega) _).trans (hb.mono (by omega));have hE2:=cT hb (lN w _ _ _).2.1;have hE3:=cT hb (lN w _ _ _).2.2.1
 go_loopw [5,6,26] (fun v cy i wr=>∃(k:Nat) (o:List Nat) (q:Nat),k≤n∧i=.int .i64 k∧cy=.int .u64 q∧q≤1∧iX wr (w.heap.size+3) 273 .u32 v o∧Hid (o.length=k)∧Hid (∀d∈o,d<4294967296)∧Hid (val 4294967296 o+4294967296^k*q=val 4294967296 (l.take k)+val 4294967296 (r.take k))∧Below (w.heap.size+3) w1 wr) (fun _ _ i _=>n-(intOf i).toNat)
 case atStart=>exact⟨0,[],0,aH _,rfl,rfl,by omega,ho,rfl,by unfold Hid;simp,by unfold Hid;simp[val],bD _ _⟩
 case round=>
  obtain⟨k,o,q,hk,rfl,rfl,hq,hown,hol,hod,hval,hbl⟩:=hrel;have hB:=bW (cT hbl hE2) 0;have hws:w.heap.size+3≤wr.heap.size:=by have:=hbl.size;have:=hb.size;simp at this;omega
  by_cases hlt:k<n
  ·obtain⟨b,off,rfl,hbw0,hcell⟩:=hop.out (by omega);have hck:wr.cell? ⟨b,off+k,none⟩=some (.int .u32 ((dg l k:Nat):Int)):=((hbl.cell (p:=⟨b,off+k,none⟩) (by simp;omega)).trans (hbw.cell (p:=⟨b,off+k,none⟩) hbw0)).trans (hcell k hlt);clear hcell;have hx:dg l k<4294967296:=jh hll.out k;by_cases hltm:k<m
   ·obtain⟨b',off',rfl,hbw0',hcell'⟩:=hop'.out (by omega);have hck':wr.cell? ⟨b',off'+k,none⟩=some (.int .u32 ((dg r k:Nat):Int)):=((hbl.cell (p:=⟨b',off'+k,none⟩) (by simp;omega)).trans (hbw.cell (p:=⟨b',off'+k,none⟩) hbw0')).trans (hcell' k hltm);clear hcell';have hy:dg r k<4294967296:=jh hrr.out k;have hstep:=bk (wO (z:=q+dg l k+dg r k) hol.out rfl rfl rfl hval.out);generalize dg l k=x at*;generalize dg r k=y at*
    go_wp2_with (at_builtin;refine ft iC _ rfl _ _ rfl (w.heap.size+3) u5 o _ ((q+x+y) % 4294967296) rfl rfl hown ?hz ?hl ?hm ?hb ?_)
    case hz=>rfl
    case hl=>have:=hol.out;omega
    case hm=>have:=hol.out;unfold maxLen;omega
    case hb=>exact hws
    intro v' w' hown' hb';clear hck hck' hB
    go_wp2
    go_roundw
    case rel=>exact⟨k+1,_,(q+x+y)/4294967296,by omega,by go_num,rfl,by omega,hown',by unfold Hid;have:=hol.out;simp;omega,jZ hod.out (fG _ (by omega)),hstep.out,hbl.trans hb'⟩
    case measure=>simp[intOf];omega
   ·have hstep:=bk (wO (z:=q+dg l k) (y:=0) (r:=r) hol.out rfl (tB (by have:=hlen'.out;omega)) rfl hval.out);generalize dg l k=x at*
    go_wp2_with (at_builtin;refine ft iC _ rfl _ _ rfl (w.heap.size+3) u5 o _ ((q+x) % 4294967296) rfl rfl hown ?hz' ?hl' ?hm' ?hb' ?_)
    case hz'=>rfl
    case hl'=>have:=hol.out;omega
    case hm'=>have:=hol.out;unfold maxLen;omega
    case hb'=>exact hws
    intro v' w' hown' hb';clear hck hB
    go_wp2
    go_roundw
    case rel=>exact⟨k+1,_,(q+x)/4294967296,by omega,by go_num,rfl,by omega,hown',by unfold Hid;have:=hol.out;simp;omega,jZ hod.out (fG _ (by omega)),hstep.out,hbl.trans hb'⟩
    case measure=>simp[intOf];omega
  ·have hkn:Hid (k=n):=by unfold Hid;omega
   go_wp2_with (at_builtin;refine ft iC _ rfl _ _ rfl (w.heap.size+3) u5 o _ q rfl rfl hown ?hz2 ?hl2 ?hm2 ?hb2 ?_)
   case hz2=>rfl
   case hl2=>have:=hol.out;omega
   case hm2=>have:=hol.out;unfold maxLen;omega
   case hb2=>exact hws
   intro v' w' hown' hb';obtain⟨s,rfl,hs⟩:=hown'.ints;have hsd:=bk (jZ hod.out (show q<4294967296 by omega));clear hB
   go_wp2_with (go_at_call 245;refine(lg hs hsd.out).mono ?_;rintro e w2 ⟨t,rfl,ht,htn,hb2⟩;have hE3':=bG hb2 (cT hb' (cT hbl hE3));have hR:=bW hE3' 0;have hRf:=dY hE3' 0)
   refine ff (v:=.agg #[.slice t.ao t.n t.c]) (by simp[results,Tryz.results252,go_sem,hR]) rfl ⟨t,rfl,?_,?_,?_⟩
   ·have e:val 4294967296 (o++[q])=val 4294967296 l+val 4294967296 r:=by
     have h1:=hval.out;rw[eP _ l _ (by have:=hlen.out;have:=hkn.out;omega),eP _ r _ (by have:=hlen'.out;have:=hkn.out;omega)]at h1;rw[kK,hol.out];exact h1
    rw[←e];exact ht.kp ((Kp.refl _).setCell hE3' (by decide) _)
   ·have:=hs.1;have:=hol.out;have:=hkn.out;simp at*;omega
   ·exact(((hbw.trans (hbl.mono (by omega))).trans (hb'.mono (by omega))).trans (hb2.mono (by have:=hb'.size;omega))).setCell (by simp;omega) _
theorem Fz{w:World}{s t:Sl}{x y:Nat}(h:dV w s x)(h':dV w t y)(hn:s.n≤1000000000000)(hm:t.n≤1000000000000):
  Calls Tryz.prog 252 #[.agg #[.slice s.ao s.n s.c],.agg #[.slice t.ao t.n t.c]] w fun e w'=>
   ∃u:Sl,e=.returned (.agg #[.slice u.ao u.n u.c])∧dV w' u (x+y)∧u.n≤max s.n t.n+1∧Below w.heap.size w w':=by
 obtain⟨l,h1,h2,h3,h4⟩:=h;obtain⟨r,g1,g2,g3,g4⟩:=h';subst h4;subst g4;rcases iW s.n t.n with hc|hc
 ·refine(Lx t.ao s.ao t.n s.n t.c s.c r l w g1 h1 g2 h2 hm hn hc).mono ?_;rintro e w' ⟨u,rfl,hu,hun,hb⟩;exact⟨u,rfl,by rw[Nat.add_comm];exact hu,by omega,hb⟩
 ·refine(Lw s.ao t.ao s.n t.n s.c t.c l r w h1 g1 h2 g2 hn hm hc).mono ?_;rintro e w' ⟨u,rfl,hu,hun,hb⟩;exact⟨u,rfl,hu,by omega,hb⟩
theorem Mg(ao bo:Option Addr)(n m c d:Nat)(l r:List Nat)(w:World)(h:dk w 273 .u32 ⟨ao,n,c⟩ l)(h':dk w 273 .u32 ⟨bo,m,d⟩ r)(hl:∀d∈l,d<4294967296)(hr:∀d∈r,d<4294967296)(hn:n≤1000000000000)(hm:m≤1000000000000)(hmn:m≤n)(hv:val 4294967296 r≤val 4294967296 l):
  Calls Tryz.prog 267 #[.agg #[.slice ao n c],.agg #[.slice bo m d]] w fun e w'=>
   ∃(s:Sl),e=.returned (.agg #[.slice s.ao s.n s.c])∧dV w' s (val 4294967296 l-val 4294967296 r)∧s.n≤n∧Below w.heap.size w w':=by
 have hop:Hid (0<n→∃b off,ao=some ⟨b,off,none⟩∧b<w.heap.size∧∀i,i<n→w.cell? ⟨b,off+i,none⟩=some (.int .u32 ((dg l i:Nat):Int))):=h.open;have hop':Hid (0<m→∃b off,bo=some ⟨b,off,none⟩∧b<w.heap.size∧∀i,i<m→w.cell? ⟨b,off+i,none⟩=some (.int .u32 ((dg r i:Nat):Int))):=h'.open;have hlen:Hid (n=l.length):=h.1;have hlen':Hid (m=r.length):=h'.1;clear h h';have hll:Hid (∀d∈l,d<4294967296):=hl;have hrr:Hid (∀d∈r,d<4294967296):=hr;clear hl hr;have hvv:=bk hv;clear hv
 go_enter Tryz.func267,Tryz.ntmps267
 go_wp2_with (at_make;refine vr iC _ rfl _ _ rfl (w.heap.size+3) _ _ _ n rfl rfl (hC:=rfl) (by unfold maxLen;omega) ?_;intro v1 w1 ho hb;have hA1:=bW (cT hb (lN w _ _ _).1) 0)
 have hbw:Below w.heap.size w w1:=((((bD _ _).alloc (aj _) _).alloc (by simp) _).alloc (by simp;omega) _).trans (hb.mono (by omega));have hE2:=cT hb (lN w _ _ _).2.1;have hE3:=cT hb (lN w _ _ _).2.2.1
 go_loopw [5,6,17] (fun v cy i wr=>∃(k:Nat) (o:List Nat) (q:Nat),k≤n∧i=.int .i64 k∧cy=.int .i64 q∧q≤1∧iX wr (w.heap.size+3) 273 .u32 v o∧Hid (o.length=k)∧Hid (∀d∈o,d<4294967296)∧Hid (val 4294967296 (l.take k)+4294967296^k*q=val 4294967296 o+val 4294967296 (r.take k))∧Below (w.heap.size+3) w1 wr) (fun _ _ i _=>n-(intOf i).toNat)
 case atStart=>exact⟨0,[],0,aH _,rfl,rfl,by omega,ho,rfl,by unfold Hid;simp,by unfold Hid;simp[val],bD _ _⟩
 case round=>
  obtain⟨k,o,q,hk,rfl,rfl,hq,hown,hol,hod,hval,hbl⟩:=hrel;have hB:=bW (cT hbl hE2) 0;have hws:w.heap.size+3≤wr.heap.size:=by have:=hbl.size;have:=hb.size;simp at this;omega
  by_cases hlt:k<n
  ·obtain⟨b,off,rfl,hbw0,hcell⟩:=hop.out (by omega);have hck:wr.cell? ⟨b,off+k,none⟩=some (.int .u32 ((dg l k:Nat):Int)):=((hbl.cell (p:=⟨b,off+k,none⟩) (by simp;omega)).trans (hbw.cell (p:=⟨b,off+k,none⟩) hbw0)).trans (hcell k hlt);clear hcell;have hx:dg l k<4294967296:=jh hll.out k;by_cases hltm:k<m
   ·obtain⟨b',off',rfl,hbw0',hcell'⟩:=hop'.out (by omega);have hck':wr.cell? ⟨b',off'+k,none⟩=some (.int .u32 ((dg r k:Nat):Int)):=((hbl.cell (p:=⟨b',off'+k,none⟩) (by simp;omega)).trans (hbw.cell (p:=⟨b',off'+k,none⟩) hbw0')).trans (hcell' k hltm);clear hcell';have hy:dg r k<4294967296:=jh hrr.out k;by_cases hneg:dg l k<q+dg r k
    ·have hstep:=bk (Bj (B:=4294967296) (x:=dg l k) (y:=dg r k) (r:=r) hol.out rfl rfl hval.out);generalize dg l k=x at*;generalize dg r k=y at*
     go_wp2_with (at_builtin;refine ft iC _ rfl _ _ rfl (w.heap.size+3) u5 o _ (x+4294967296-(q+y)) rfl rfl hown ?hza ?hla ?hma ?hba ?_)
     case hza=>omega
     case hla=>have:=hol.out;omega
     case hma=>have:=hol.out;unfold maxLen;omega
     case hba=>exact hws
     intro v' w' hown' hb';clear hck hck' hB
     go_wp2
     go_roundw
     case rel=>exact⟨k+1,_,1,by omega,by go_num,rfl,by omega,hown',by unfold Hid;have:=hol.out;simp;omega,jZ hod.out (by omega),hstep.out,hbl.trans hb'⟩
     case measure=>simp[intOf];omega
    ·have hstep:=bk (Bi (B:=4294967296) (x:=dg l k) (y:=dg r k) (r:=r) hol.out rfl rfl hval.out);generalize dg l k=x at*;generalize dg r k=y at*
     go_wp2_with (at_builtin;refine ft iC _ rfl _ _ rfl (w.heap.size+3) u5 o _ (x-(q+y)) rfl rfl hown ?hzb ?hlb ?hmb ?hbb ?_)
     case hzb=>omega
     case hlb=>have:=hol.out;omega
     case hmb=>have:=hol.out;unfold maxLen;omega
     case hbb=>exact hws
     intro v' w' hown' hb';clear hck hck' hB
     go_wp2
     go_roundw
     case rel=>exact⟨k+1,_,0,by omega,by go_num,rfl,by omega,hown',by unfold Hid;have:=hol.out;simp;omega,jZ hod.out (by omega),hstep.out,hbl.trans hb'⟩
     case measure=>simp[intOf];omega
   ·by_cases hneg:dg l k<q
    ·have hstep:=bk (Bj (B:=4294967296) (x:=dg l k) (y:=0) (r:=r) hol.out rfl (tB (by have:=hlen'.out;omega)) hval.out);generalize dg l k=x at*
     go_wp2_with (at_builtin;refine ft iC _ rfl _ _ rfl (w.heap.size+3) u5 o _ (x+4294967296-(q+0)) rfl rfl hown ?hzc ?hlc ?hmc ?hbc ?_)
     case hzc=>omega
     case hlc=>have:=hol.out;omega
     case hmc=>have:=hol.out;unfold maxLen;omega
     case hbc=>exact hws
     intro v' w' hown' hb';clear hck hB
     go_wp2
     go_roundw
     case rel=>exact⟨k+1,_,1,by omega,by go_num,rfl,by omega,hown',by unfold Hid;have:=hol.out;simp;omega,jZ hod.out (by omega),hstep.out,hbl.trans hb'⟩
     case measure=>simp[intOf];omega
    ·have hstep:=bk (Bi (B:=4294967296) (x:=dg l k) (y:=0) (r:=r) hol.out rfl (tB (by have:=hlen'.out;omega)) hval.out);generalize dg l k=x at*
     go_wp2_with (at_builtin;refine ft iC _ rfl _ _ rfl (w.heap.size+3) u5 o _ (x-(q+0)) rfl rfl hown ?hzd ?hld ?hmd ?hbd ?_)
     case hzd=>omega
     case hld=>have:=hol.out;omega
     case hmd=>have:=hol.out;unfold maxLen;omega
     case hbd=>exact hws
     intro v' w' hown' hb';clear hck hB
     go_wp2
     go_roundw
     case rel=>exact⟨k+1,_,0,by omega,by go_num,rfl,by omega,hown',by unfold Hid;have:=hol.out;simp;omega,jZ hod.out (by omega),hstep.out,hbl.trans hb'⟩
     case measure=>simp[intOf];omega
  ·have hkn:Hid (k=n):=by unfold Hid;omega
   obtain⟨s,rfl,hs⟩:=hown.ints;clear hB
   go_wp2_with (go_at_call 245;refine(lg hs hod.out).mono ?_;rintro e w2 ⟨t,rfl,ht,htn,hb2⟩;have hE3':=bG hb2 (cT hbl hE3);have hR:=bW hE3' 0;have hRf:=dY hE3' 0)
   refine ff (v:=.agg #[.slice t.ao t.n t.c]) (by simp[results,Tryz.results267,go_sem,hR]) rfl ⟨t,rfl,?_,?_,?_⟩
   ·have e:val 4294967296 o=val 4294967296 l-val 4294967296 r:=by
     have h1:=hval.out;rw[eP _ l _ (by have:=hlen.out;have:=hkn.out;omega),eP _ r _ (by have:=hlen'.out;have:=hkn.out;omega)]at h1;exact Pe hod.out hol.out hvv.out h1
    rw[←e];exact ht.kp ((Kp.refl _).setCell hE3' (by decide) _)
   ·have:=hs.1;have:=hol.out;have:=hkn.out;simp at*;omega
   ·exact((hbw.trans (hbl.mono (by omega))).trans (hb2.mono (by omega))).setCell (by simp;omega) _
theorem Dh{w:World}{s t:Sl}{x y:Nat}(h:dV w s x)(h':dV w t y)(hn:s.n≤1000000000000)(hxy:y≤x):
  Calls Tryz.prog 267 #[.agg #[.slice s.ao s.n s.c],.agg #[.slice t.ao t.n t.c]] w fun e w'=>
   ∃u:Sl,e=.returned (.agg #[.slice u.ao u.n u.c])∧dV w' u (x-y)∧u.n≤s.n∧Below w.heap.size w w':=by
 have hts:=h'.n_le h hxy;obtain⟨l,h1,h2,h3,h4⟩:=h;obtain⟨r,g1,g2,g3,g4⟩:=h';subst h4;subst g4;exact Mg s.ao t.ao s.n t.n s.c t.c l r w h1 g1 h2 g2 hn (by omega) hts hxy
theorem NM(ao bo:Option Addr)(n m c d:Nat)(l r:List Nat)(w:World)(h:dk w 273 .u32 ⟨ao,n,c⟩ l)(h':dk w 273 .u32 ⟨bo,m,d⟩ r)(hl:∀d∈l,d<4294967296)(hr:∀d∈r,d<4294967296)(hn:n≤1000000000000)(hm:m≤1000000000000)(nl:qR l)(nr:qR r):
  Calls Tryz.prog 204 #[.agg #[.slice ao n c],.agg #[.slice bo m d]] w fun e w'=>
   e=.returned (.int .i64 (mY (val 4294967296 l) (val 4294967296 r)))∧Below w.heap.size w w':=by
 have hop:Hid (0<n→∃b off,ao=some ⟨b,off,none⟩∧b<w.heap.size∧∀i,i<n→w.cell? ⟨b,off+i,none⟩=some (.int .u32 ((dg l i:Nat):Int))):=h.open;have hop':Hid (0<m→∃b off,bo=some ⟨b,off,none⟩∧b<w.heap.size∧∀i,i<m→w.cell? ⟨b,off+i,none⟩=some (.int .u32 ((dg r i:Nat):Int))):=h'.open;have hlen:Hid (n=l.length):=h.1;have hlen':Hid (m=r.length):=h'.1;clear h h';have hll:Hid (∀d∈l,d<4294967296):=hl;have hrr:Hid (∀d∈r,d<4294967296):=hr;have hnl:=bk nl;have hnr:=bk nr;clear hl hr nl nr;have hbx:Below w.heap.size w ((w.alloc (.cells #[.slice ao n c] 110)).alloc (.cells #[.slice bo m d] 110)):=((bD _ _).alloc (aj _) _).alloc (by simp) _;rcases Nat.lt_trichotomy n m with hc|hc|hc
 ·have hres:=bk (wT (hnr.out.len_lt (B:=4294967296) (l:=l) (by omega) hll.out (by have:=hlen.out;have:=hlen'.out;omega)))
  go_enter Tryz.func204,Tryz.ntmps204
  go_wp2
  go_ret
  exact⟨by rw[hres.out];rfl,hbx⟩
 ·subst hc;obtain⟨hE1,hE2,hWs⟩:=AP w (.cells #[.slice ao n c] 110) (.cells #[.slice bo n d] 110);generalize hW:((w.alloc (.cells #[.slice ao n c] 110)).alloc (.cells #[.slice bo n d] 110))=W at hbx hE1 hE2 hWs;have HWs:=bk hWs;clear hWs;have HW:=bk hW;clear hW
  go_enter Tryz.func204,Tryz.ntmps204
  go_wp2
  rw[HW.out]
  go_loopw [5] (fun i wr=>∃k:Nat,k≤n∧i=.int .i64 ((k:Int)-1)∧Hid (∀j,k≤j→j<n→dg l j=dg r j)∧Below (w.heap.size+2) W wr) (fun i _=>(intOf i+1).toNat)
  case atStart=>exact⟨n,aj _,rfl,by unfold Hid;intro j a b;omega,bD _ _⟩
  case round=>
   obtain⟨k,hk,rfl,heq,hbl⟩:=hrel;by_cases hlt:0<k
   ·obtain⟨j,rfl⟩:∃j,k=j+1:=⟨k-1,by omega⟩;obtain⟨b,off,rfl,hbw0,hcell⟩:=hop.out (by omega);obtain⟨b',off',rfl,hbw0',hcell'⟩:=hop'.out (by omega);have hA:=bW (cT hbl hE1) 0;have hB:=bW (cT hbl hE2) 0;have hck:wr.cell? ⟨b,off+j,none⟩=some (.int .u32 ((dg l j:Nat):Int)):=((hbl.cell (p:=⟨b,off+j,none⟩) (by simp;omega)).trans (hbx.cell (p:=⟨b,off+j,none⟩) hbw0)).trans (hcell j (by omega));have hck':wr.cell? ⟨b',off'+j,none⟩=some (.int .u32 ((dg r j:Nat):Int)):=((hbl.cell (p:=⟨b',off'+j,none⟩) (by simp;omega)).trans (hbx.cell (p:=⟨b',off'+j,none⟩) hbw0')).trans (hcell' j (by omega));clear hcell hcell';have hj1:(0:Int)≤(j:Int):=by omega
    have hj2:(j:Int)<(n:Int):=by omega
    by_cases hxy:dg l j=dg r j
    ·rw[hxy]at hck;have heq':Hid (∀i,j≤i→i<n→dg l i=dg r i):=fun i a b=>by
      by_cases hij:i=j
      ·rw[hij];exact hxy
      ·exact heq.out i (by omega) b
     clear hxy;generalize dg r j=x at*
     go_wp2
     go_quiet (fail)
     go_wp2
     go_roundw
     case rel=>exact⟨j,by omega,rfl,heq',jU hbl _⟩
     case measure=>simp[intOf]
    ·rcases iW (dg l j) (dg r j)with hlt2|hge2
     ·have hres:=bk (wT (DR (B:=4294967296) (l:=l) (m:=r) (i:=j) (by have:=hlen.out;have:=hlen'.out;omega) (by have:=hlen.out;omega) hll.out hlt2 (fun i a b=>heq.out i (by omega) (by have:=hlen.out;omega))));clear hxy;generalize dg r j=y at*;generalize dg l j=x at*;have hxy2:((x:Int)==(y:Int))=false:=by simp;omega
      have hxy3:(x:Int)<(y:Int):=by omega
      go_wp2
      go_quiet (fail)
      go_wp2
      go_quiet (fail)
      go_wp2
      go_ret
      exact⟨by rw[hres.out];rfl,jU (jU (hbx.trans (hbl.mono (by omega))) _) _⟩
     ·have hres:=bk (uQ (DR (B:=4294967296) (l:=r) (m:=l) (i:=j) (by have:=hlen.out;have:=hlen'.out;omega) (by have:=hlen'.out;omega) hrr.out (by omega) (fun i a b=>(heq.out i (by omega) (by have:=hlen'.out;omega)).symm)));have hxy3:dg r j<dg l j:=by omega
      clear hxy hge2;generalize dg r j=y at*;generalize dg l j=x at*;have hxy2:((x:Int)==(y:Int))=false:=by simp;omega
      have hxy4:¬(x:Int)<(y:Int):=by omega
      go_wp2
      go_quiet (fail)
      go_wp2
      go_quiet (fail)
      go_wp2
      go_ret
      exact⟨by rw[hres.out];rfl,jU (jU (hbx.trans (hbl.mono (by omega))) _) _⟩
   ·obtain rfl:k=0:=by omega
    have hres:l=r:=El (by have:=hlen.out;have:=hlen'.out;omega) (fun i a=>heq.out i (by omega) (by have:=hlen.out;omega));have hres:=bk hres
    go_wp2
    go_ret
    exact⟨by rw[hres.out,wS];rfl,hbx.trans (hbl.mono (by omega))⟩
 ·have hres:=bk (uQ (hnl.out.len_lt (B:=4294967296) (l:=r) (by omega) hrr.out (by have:=hlen.out;have:=hlen'.out;omega)))
  go_enter Tryz.func204,Tryz.ntmps204
  go_wp2
  go_ret
  exact⟨by rw[hres.out];rfl,hbx⟩
theorem nW{w:World}{s t:Sl}{x y:Nat}(h:dV w s x)(h':dV w t y)(hn:s.n≤1000000000000)(hm:t.n≤1000000000000):
  Calls Tryz.prog 204 #[.agg #[.slice s.ao s.n s.c],.agg #[.slice t.ao t.n t.c]] w fun e w'=>
   e=.returned (.int .i64 (mY x y))∧Below w.heap.size w w':=by
 obtain⟨l,h1,h2,h3,h4⟩:=h;obtain⟨r,g1,g2,g3,g4⟩:=h';subst h4;subst g4;exact NM s.ao t.ao s.n t.n s.c t.c l r w h1 g1 h2 g2 hn hm h3 g3
theorem EI(x:Nat)(w:World)(hx:x<18446744073709551616):
  Calls Tryz.prog 193 #[.int .u64 (x:Int)] w fun e w'=>
   ∃u:Sl,e=.returned (.agg #[.slice u.ao u.n u.c])∧dV w' u x∧u.n≤2∧Below w.heap.size w w':=by
 have hE:=AP w (.cells #[.slice none 0 0] 110) (.cells #[.int .u32 ((x:Int) % 4294967296),.int .u32 ((x:Int)/4294967296)] 273);have hi:dk _ 273 .u32 ⟨some ⟨w.heap.size+1,0,none⟩,2,2⟩ [x % 4294967296,x/4294967296]:=dk.of_row [x % 4294967296,x/4294967296] hE.2.1 (by simp) (by simp);have hv:val 4294967296 [x % 4294967296,x/4294967296]=x:=by rw[TY];omega
 have hbx:Below w.heap.size w _:=((bD w.heap.size w).alloc (aj _) (.cells #[.slice none 0 0] 110)).alloc (by simp) (.cells #[.int .u32 ((x:Int) % 4294967296),.int .u32 ((x:Int)/4294967296)] 273)
 go_enter Tryz.func193,Tryz.ntmps193
 have HE:=bk hE;have HV:=bk hv;clear hE hv
 go_wp2_with (go_at_call 245;refine(lg hi (by intro d hd;simp at hd;omega)).mono ?_;rintro e w2 ⟨t,rfl,ht,htn,hb2⟩;have hE':=bG hb2 HE.out.1;have hR:=bW hE' 0;have hRf:=dY hE' 0)
 rw[HV.out]at ht;refine ff (v:=.agg #[.slice t.ao t.n t.c]) (by simp[results,Tryz.results193,go_sem,hR]) rfl ⟨t,rfl,ht.kp ((Kp.refl _).setCell hE' (by decide) _),htn,?_⟩;exact(hbx.trans (hb2.mono (by have:=hbx.size;exact this))).setCell (aj _) _
theorem NI{l:List Nat}{j:Nat}(hl:∀d∈l,d<4294967296)(h:l.length=j+1)(hn:dg l j≠0):bl (val 4294967296 l)=32*j+bl (dg l j):=by
 have h1:=vq (B:=4294967296) h;have h2:val 4294967296 (l.take j)<4294967296^j:=by
  have:=mG 4294967296 (l.take j) (fun d hd=>hl d (fm hd));simpa [h]using this
 generalize val 4294967296 (l.take j)=v at*;generalize dg l j=t at*;have hp:4294967296^j=2^(32*j):=by rw[Nat.pow_mul]
 rw[hp]at h1 h2;rw[h1];have ht:=(qU t (bl t)).1 (aj _);have hlo:2^(bl t-1)≤t:=by
  apply gV;intro hh;have:=(qU t (bl t-1)).2 hh;have:bl t≠0:=by unfold bl;rw[if_neg hn];omega
  omega
 have hb0:bl t≠0:=by unfold bl;rw[if_neg hn];omega
 apply Nat.le_antisymm
 ·rw[qU,cR];have h3:2^(32*j)*(t+1)≤2^(32*j)*2^bl t:=cI _ ht;rw[fD]at h3;omega
 ·apply gV;intro hh;have h4:bl (v+2^(32*j)*t)≤32*j+(bl t-1):=by omega
  rw[qU,cR]at h4;have h5:2^(32*j)*2^(bl t-1)≤2^(32*j)*t:=cI _ hlo;omega
theorem CS{w:World}{s:Sl}{x:Nat}(h:dV w s x)(hn:s.n≤1000000000000):
  Calls Tryz.prog 244 #[.agg #[.slice s.ao s.n s.c]] w fun e w'=>e=.returned (.int .i64 (bl x:Int))∧Below w.heap.size w w':=by
 obtain⟨l,h1,h2,h3,h4⟩:=h;obtain⟨ao,n,c⟩:=s;have hop:=h1.open;have hlen:=bk h1.1;clear h1;simp only at hop hlen hn⊢;by_cases h0:n=0
 ·subst h0;have hx:Hid (x=0):=by
   unfold Hid;rw[←h4,aL hlen.out.symm];rfl
  go_enter Tryz.func244,Tryz.ntmps244
  go_wp2
  go_ret
  exact⟨by rw[hx.out];rfl,(bD _ _).alloc (aj _) _⟩
 ·obtain⟨j,rfl⟩:∃j,n=j+1:=⟨n-1,by omega⟩;obtain⟨b,off,rfl,hb,hcell⟩:=hop (by omega);have hc:=hcell j (by omega);have hl1:l.length=j+1:=hlen.out.symm;have hd:dg l j<4294967296:=jh h2 j;have hd0:dg l j≠0:=by
   intro hh;apply h3;rw[fo,hl1];simp only[eI];rw[tC (by omega)]at hh;simp[hl1,hh]
  have hbl:=bk (NI h2 hl1 hd0);have hx:=bk h4;have hb32:bl (dg l j)≤32:=(qU _ 32).2 (by omega);clear h2 h3 h4 hl1 hcell hop hd0 h0;generalize dg l j=d at*
  go_enter Tryz.func244,Tryz.ntmps244
  go_wp2_with (go_at_call 266;refine(Bg d _ hd).mono ?_;rintro e w' ⟨rfl,rfl⟩)
  go_ret
  exact⟨by rw[←hx.out,hbl.out];simp,(bD _ _).alloc (aj _) _⟩
theorem Rs{w:World}{s:Sl}{x:Nat}(h:dV w s x)(hn:s.n≤1000000000000)(hx:18446744073709551616≤x):
  Calls Tryz.prog 202 #[.agg #[.slice s.ao s.n s.c]] w fun e w'=>e=.returned (.tuple #[.int .u64 0,.bool false])∧Below w.heap.size w w':=by
 have h3:2<s.n:=by
  obtain⟨l,h1,h2,h3,h4⟩:=h;apply Nat.lt_of_not_le;intro hh;have:=mG 4294967296 l h2;have h5:4294967296^l.length≤4294967296^2:=da (by omega) (by rw[←h1.1];exact hh);omega
 obtain⟨ao,n,c⟩:=s;simp only at h3 hn⊢;clear h hx
 go_enter Tryz.func202,Tryz.ntmps202
 go_wp2
 go_ret2
 exact⟨rfl,(bD _ _).alloc (aj _) _⟩
theorem JT{w:World}{s:Sl}{x:Nat}(h:dV w s x)(hx:x<18446744073709551616):
  Calls Tryz.prog 202 #[.agg #[.slice s.ao s.n s.c]] w fun e w'=>e=.returned (.tuple #[.int .u64 (x:Int),.bool true])∧Below w.heap.size w w':=by
 obtain⟨l,h1,h2,h3,h4⟩:=h;have hn2:s.n≤2:=by
  rw[h1.1];exact h3.len_of_lt (B:=4294967296) (by omega) (by rw[h4];omega)
 obtain⟨ao,n,c⟩:=s;have hop:=bk h1.open;have hlen:=bk h1.1;have hv:=bk h4;have hll:=bk h2;clear h1 h3 h4 h2;simp only at hop hlen hn2⊢;have hbx:Below w.heap.size w (w.alloc (.cells #[.slice ao n c] 110)):=(bD _ _).alloc (aj _) _
 go_enter Tryz.func202,Tryz.ntmps202
 go_wp2
 go_loop [4,14] (fun v i=>∃k:Nat,k≤n∧i=.int .i64 k∧v=.int .u64 ((val 4294967296 (l.take k):Nat):Int)) (fun _ i=>n-(intOf i).toNat)
 case atStart=>exact⟨0,aH _,rfl,by simp[val]⟩
 case round=>
  obtain⟨k,hk,rfl,rfl⟩:=hrel;by_cases hlt:k<n
  ·obtain⟨b,off,rfl,hbw,hcell⟩:=hop.out (by omega);have hck:=hcell k hlt;clear hcell;have hd:dg l k<4294967296:=jh hll.out k;have hstep:=dj 4294967296 l k;by_cases h0:k=0
   ·subst h0;simp only[mT,Lo,bU,Nat.pow_zero,ly]at hstep⊢;rw[fK]at hck;have hs:=bk hstep;clear hstep;have hor:=Mw (dg l 0) (by omega);generalize dg l 0=d at*
    go_wp2
    go_round
    case rel=>exact⟨1,by omega,by go_num,by rw[hs.out]⟩
    case measure=>simp[intOf];omega
   ·obtain rfl:k=1:=by omega
    have hq:val 4294967296 (l.take 1)<4294967296:=by
     have h5:=mG 4294967296 (l.take 1) (fun d hd=>hll.out d (fm hd));have:(l.take 1).length=1:=by have:=hlen.out;simp;omega
     rw[this]at h5;simpa using h5
    have hs:=bk hstep;clear hstep;generalize val 4294967296 (l.take 1)=q at*;have hor:=Hg q (dg l 1) hq hd;generalize dg l 1=d at*
    go_wp2
    go_round
    case rel=>exact⟨2,by omega,by go_num,by rw[hs.out,Nat.pow_one,fp];simp⟩
    case measure=>simp[intOf];omega
  ·have hkn:Hid (val 4294967296 (l.take k)=x):=by
    unfold Hid;rw[eP _ _ _ (by have:=hlen.out;omega)];exact hv.out
   go_wp2
   go_ret2
   exact⟨by rw[hkn.out];rfl,hbx⟩
theorem X_{w:World}{s t:Sl}{x y:Nat}(h:dV w s x)(h':dV w t y)(hn:s.n≤1000000000000)(hm:t.n≤1000000000000)(hxy:y≤x):
  Calls Tryz.prog 253 #[.agg #[.slice s.ao s.n s.c],.agg #[.slice t.ao t.n t.c]] w fun e w'=>
   ∃u:Sl,e=.returned (.tuple #[.agg #[.slice u.ao u.n u.c],.int .i64 0])∧dV w' u (x-y)∧u.n≤s.n∧Below w.heap.size w w':=by
 have hE:=lN w (.cells #[.slice s.ao s.n s.c] 110) (.cells #[.slice t.ao t.n t.c] 110) (.cells #[.slice none 0 0] 110);have hbx:Below w.heap.size w _:=(((bD w.heap.size w).alloc (aj _) (.cells #[.slice s.ao s.n s.c] 110)).alloc (by simp) (.cells #[.slice t.ao t.n t.c] 110)).alloc (by simp;omega) (.cells #[.slice none 0 0] 110);have hc:mY x y=0∨mY x y=1:=by
  rcases iW y x with h|h
  ·exact .inr (uQ h)
  ·obtain rfl:x=y:=by omega
   exact .inl (wS x)
 have hge:¬mY x y<0:=by omega
 clear hc;have HE:=bk hE;clear hE
 go_enter Tryz.func253,Tryz.ntmps253
 go_wp2_with (first|(go_at_call 204;refine(nW (h.up hbx) (h'.up hbx) hn hm).mono ?_;rintro e w1 ⟨rfl,hb1⟩;have hA:=bW (bG hb1 HE.out.1) 0;have hB:=bW (bG hb1 HE.out.2.1) 0)|(go_at_call 267;refine(Dh ((h.up hbx).up hb1) ((h'.up hbx).up hb1) hn hxy).mono ?_;rintro e w2 ⟨u,rfl,hu,hun,hb2⟩;have hE':=bG hb2 (bG hb1 HE.out.2.2.1);have hR:=bW hE' 0;have hRf:=dY hE' 0))
 refine ff (v:=.tuple #[.agg #[.slice u.ao u.n u.c],.int .i64 0]) (by simp[results,Tryz.results253,go_sem,hR]) rfl ⟨u,rfl,hu.kp ((Kp.refl _).setCell hE' (by decide) _),hun,?_⟩;exact((hbx.trans (hb1.mono (by have:=hbx.size;exact this))).trans (hb2.mono (by have:=hbx.size;have:=hb1.size;omega))).setCell (by simp;omega) _
theorem Ya{w:World}{s t:Sl}{x y:Nat}(h:dV w s x)(h':dV w t y)(hn:s.n≤1000000000000)(hm:t.n≤1000000000000)(hxy:x<y):
  Calls Tryz.prog 253 #[.agg #[.slice s.ao s.n s.c],.agg #[.slice t.ao t.n t.c]] w fun e w'=>
   e=.returned (.tuple #[.agg #[.slice none 0 0],.int .i64 4])∧Below w.heap.size w w':=by
 have hE:=lN w (.cells #[.slice s.ao s.n s.c] 110) (.cells #[.slice t.ao t.n t.c] 110) (.cells #[.slice none 0 0] 110);have hbx:Below w.heap.size w _:=(((bD w.heap.size w).alloc (aj _) (.cells #[.slice s.ao s.n s.c] 110)).alloc (by simp) (.cells #[.slice t.ao t.n t.c] 110)).alloc (by simp;omega) (.cells #[.slice none 0 0] 110);have hlt:mY x y<0:=by rw[wT hxy];omega
 have HE:=bk hE;clear hE
 go_enter Tryz.func253,Tryz.ntmps253
 go_wp2_with (go_at_call 204;refine(nW (h.up hbx) (h'.up hbx) hn hm).mono ?_;rintro e w1 ⟨rfl,hb1⟩;have hE':=bG hb1 HE.out.2.2.1;have hR:=bW hE' 0;have hRf:=dY hE' 0)
 refine ff (v:=.tuple #[.agg #[.slice none 0 0],.int .i64 4]) (by simp[results,Tryz.results253,go_sem,hR]) rfl ⟨rfl,?_⟩;exact(hbx.trans (hb1.mono (by have:=hbx.size;exact this))).setCell (by simp;omega) _
theorem Po(ao bo:Option Addr)(n m c d:Nat)(l r:List Nat)(w:World)(h:dk w 273 .u32 ⟨ao,n,c⟩ l)(h':dk w 273 .u32 ⟨bo,m,d⟩ r)(hl:∀d∈l,d<4294967296)(hr:∀d∈r,d<4294967296)(hn:n≤1000000000000)(hm:m≤1000000000000):
  Calls Tryz.prog 247 #[.agg #[.slice ao n c],.agg #[.slice bo m d]] w fun e w'=>
   ∃(s:Sl),e=.returned (.agg #[.slice s.ao s.n s.c])∧dV w' s (val 4294967296 l*val 4294967296 r)∧s.n≤n+m∧Below w.heap.size w w':=by
 have hop:Hid (0<n→∃b off,ao=some ⟨b,off,none⟩∧b<w.heap.size∧∀i,i<n→w.cell? ⟨b,off+i,none⟩=some (.int .u32 ((dg l i:Nat):Int))):=h.open;have hop':Hid (0<m→∃b off,bo=some ⟨b,off,none⟩∧b<w.heap.size∧∀i,i<m→w.cell? ⟨b,off+i,none⟩=some (.int .u32 ((dg r i:Nat):Int))):=h'.open;have hlen:Hid (n=l.length):=h.1;have hlen':Hid (m=r.length):=h'.1;clear h h';have hll:Hid (∀d∈l,d<4294967296):=hl;have hrr:Hid (∀d∈r,d<4294967296):=hr;clear hl hr
 go_enter Tryz.func247,Tryz.ntmps247
 go_wp2_with (at_make;refine vO iC _ rfl _ _ rfl (w.heap.size+3) _ _ _ _ (n+m) rfl rfl (by omega) (by omega) (by unfold maxLen;omega) (by simp) ?_;intro w1 ho hb hsz;have hA1:=bW (cT hb (lN w _ _ _).1) 0)
 have hbw:Below w.heap.size w w1:=((((bD _ _).alloc (aj _) _).alloc (by simp) _).alloc (by simp;omega) _).trans (hb.mono (by omega));have hE1:=cT hb (lN w _ _ _).1;have hE2:=cT hb (lN w _ _ _).2.1;have hE3:=cT hb (lN w _ _ _).2.2.1;have hw1:w.heap.size+3≤w1.heap.size:=by have:=hb.size;simp at this;omega
 clear hb;replace ho:iX w1 (w.heap.size+3) 273 .u32 (.slice (some ⟨w.heap.size+1+1+1,0,none⟩) (n+m) (n+m)) (List.replicate (n+m) 0):=by simpa using ho
 go_loopw [22] (fun i wr=>∃(k:Nat) (o:List Nat),k≤n∧i=.int .i64 k∧iX wr (w.heap.size+3) 273 .u32 (.slice (some ⟨w.heap.size+1+1+1,0,none⟩) (n+m) (n+m)) o∧Hid (o.length=n+m)∧Hid (∀d∈o,d<4294967296)∧Hid (∀j,k+m≤j→dg o j=0)∧Hid (val 4294967296 o=val 4294967296 (l.take k)*val 4294967296 r)∧Below (w.heap.size+3) w1 wr) (fun i _=>n-(intOf i).toNat)
 case atStart=>exact⟨0,_,aH _,rfl,ho,by unfold Hid;simp,by unfold Hid;simp,by unfold Hid;intro j _;simp[dg,c_];split<;>rfl,by unfold Hid;simp[val,vM],bD _ _⟩
 case round=>
  obtain⟨i,o,hi,rfl,hown,hol,hod,hoz,hval,hbl⟩:=hrel;have hA:=bW (cT hbl hE1) 0;have hB:=bW (cT hbl hE2) 0;by_cases hlt:i<n
  ·obtain⟨b,off,rfl,hbw0,hcell⟩:=hop.out (by omega);have hck:wr.cell? ⟨b,off+i,none⟩=some (.int .u32 ((dg l i:Nat):Int)):=((hbl.cell (p:=⟨b,off+i,none⟩) (by simp;omega)).trans (hbw.cell (p:=⟨b,off+i,none⟩) hbw0)).trans (hcell i hlt);clear hcell;have hx:dg l i<4294967296:=jh hll.out i;generalize hxe:dg l i=x at*;have HX:=bk hxe;clear hxe;obtain⟨wo,hwo⟩:∃wo:World,wo=wr:=⟨_,rfl⟩;subst hwo
   go_wp2
   go_loopw [8,30] (fun cy u wr=>∃(k:Nat) (p:List Nat) (q:Nat),k≤m∧u=.int .i64 k∧cy=.int .u64 q∧q<4294967296∧iX wr (w.heap.size+3) 273 .u32 (.slice (some ⟨w.heap.size+1+1+1,0,none⟩) (n+m) (n+m)) p∧Hid (p.length=n+m)∧Hid (∀d∈p,d<4294967296)∧Hid (∀j,i+m≤j→dg p j=0)∧Hid (val 4294967296 p+4294967296^(i+k)*q=val 4294967296 (l.take i)*val 4294967296 r+4294967296^i*x*val 4294967296 (r.take k))∧Below (w.heap.size+3) w1 wr) (fun _ u _=>m-(intOf u).toNat)
   case atStart=>exact⟨0,o,0,aH _,rfl,rfl,by omega,hown,hol,hod,hoz,by unfold Hid;simp[val];exact hval.out,hbl⟩
   case round=>
    clear hown hol hod hoz hval hbl hA hB hck;obtain⟨k,p,q,hk,rfl,rfl,hq,hown,hol,hod,hoz,hval,hbl⟩:=hrel;have hB:=bW (cT hbl hE2) 0;by_cases hlt2:k<m
    ·obtain⟨b',off',rfl,hbw0',hcell'⟩:=hop'.out (by omega);have hck':wr.cell? ⟨b',off'+k,none⟩=some (.int .u32 ((dg r k:Nat):Int)):=((hbl.cell (p:=⟨b',off'+k,none⟩) (by simp;omega)).trans (hbw.cell (p:=⟨b',off'+k,none⟩) hbw0')).trans (hcell' k hlt2);clear hcell';have hy:dg r k<4294967296:=jh hrr.out k;have hz:dg p (i+k)<4294967296:=jh hod.out (i+k);obtain⟨hoc,hof,_,_⟩:=hown.slot (i+k) (by have:=hol.out;omega);have hstep:=bk (Pn (B:=4294967296) (by have:=hol.out;omega) rfl rfl hval.out);generalize dg r k=y at*;generalize dg p (i+k)=z at*;obtain⟨hx0,hxm⟩:=zV x y hx hy;obtain⟨hu1,hu2⟩:=Mq q x y z hq hx hy hz;have hst:=hown.store (i+k) ((q+(x*y+z)) % 4294967296);simp only[rB,Int.natCast_add,dQ,Int.cast_ofNat_Int]at hst;have hoz':Hid (∀j,i+m≤j→dg (p.set (i+k) ((q+(x*y+z)) % 4294967296)) j=0):=fun j hj=>by rw[oW];exact hoz.out j hj
     clear hx0 hxm;obtain⟨hx0,hxm⟩:=zV x y hx hy
     go_wp2
     go_roundw
     case rel=>exact⟨k+1,_,(q+(x*y+z))/4294967296,by omega,by go_num,rfl,hu1,hst.1,by unfold Hid;rw[fx];exact hol.out,pR hod.out (fG _ (by omega)),hoz',hstep.out,hbl.trans hst.2⟩
     case measure=>simp[intOf];omega
    ·have hkm:Hid (k=m):=by unfold Hid;omega
     have hv2:=hval.out;rw[hkm.out]at hv2;have hrow:=bk (SY (by have:=hol.out;omega) hlen'.out.symm HX.out (hoz.out (i+m) (aj _)) hv2);clear hv2;obtain⟨hoc,hof,_,_⟩:=hown.slot (i+m) (by have:=hol.out;omega);have hoz':Hid (∀j,i+1+m≤j→dg (p.set (i+m) q) j=0):=fun j hj=>by rw[oW];exact hoz.out j (by omega)
     have hst:=hown.store (i+m) q;have hA:=bW (cT hbl hE1) 0
     go_wp2
     go_roundw
     case rel=>exact⟨i+1,_,by omega,by go_num,hst.1,by unfold Hid;rw[fx];exact hol.out,pR hod.out hq,hoz',hrow.out,hbl.trans hst.2⟩
     case measure=>simp[intOf];omega
  ·have hkn:Hid (val 4294967296 o=val 4294967296 l*val 4294967296 r):=by
    unfold Hid;rw[hval.out,eP _ _ _ (by have:=hlen.out;omega)]
   have hsi:dk wr 273 .u32 ⟨some ⟨w.heap.size+1+1+1,0,none⟩,n+m,n+m⟩ o:=by
    obtain⟨s,hs,hi⟩:=hown.ints;obtain⟨a,b,c⟩:=s;simp only[kL]at hs;obtain⟨rfl,rfl,rfl⟩:=hs;exact hi
   go_wp2_with (go_at_call 245;refine(lg hsi hod.out).mono ?_;rintro e w2 ⟨t,rfl,ht,htn,hb2⟩;have hE3':=bG hb2 (cT hbl hE3);have hR:=bW hE3' 0;have hRf:=dY hE3' 0)
   rw[hkn.out]at ht;refine ff (v:=.agg #[.slice t.ao t.n t.c]) (by simp[results,Tryz.results247,go_sem,hR]) rfl ⟨t,rfl,ht.kp ((Kp.refl _).setCell hE3' (by decide) _),htn,?_⟩;exact((hbw.trans (hbl.mono (by omega))).trans (hb2.mono (by have:=hbl.size;omega))).setCell (by simp;omega) _
theorem G0{w:World}{s t:Sl}{x y:Nat}(h:dV w s x)(h':dV w t y)(hn:s.n≤1000000000000)(hm:t.n≤1000000000000):
  Calls Tryz.prog 247 #[.agg #[.slice s.ao s.n s.c],.agg #[.slice t.ao t.n t.c]] w fun e w'=>
   ∃u:Sl,e=.returned (.agg #[.slice u.ao u.n u.c])∧dV w' u (x*y)∧u.n≤s.n+t.n∧Below w.heap.size w w':=by
 obtain⟨l,h1,h2,h3,h4⟩:=h;obtain⟨r,g1,g2,g3,g4⟩:=h';subst h4;subst g4;exact Po s.ao t.ao s.n t.n s.c t.c l r w h1 g1 h2 g2 hn hm
theorem TX(ao:Option Addr)(n c:Nat)(l:List Nat)(w:World)(K sh:Nat)(h:dk w 273 .u32 ⟨ao,n,c⟩ l)(hl:∀d∈l,d<4294967296)(hn:n≤1000000000000)(hsh:sh<32)(hk:32*K+sh≤65536):
  Calls Tryz.prog 246 #[.agg #[.slice ao n c],.int .i64 ((32*K+sh:Nat):Int)] w fun e w'=>
   ∃(s:Sl),e=.returned (.tuple #[.agg #[.slice s.ao s.n s.c],.int .i64 0])∧dV w' s (val 4294967296 l*2^(32*K+sh))∧s.n≤n+K+1∧Below w.heap.size w w':=by
 have hop:Hid (0<n→∃b off,ao=some ⟨b,off,none⟩∧b<w.heap.size∧∀i,i<n→w.cell? ⟨b,off+i,none⟩=some (.int .u32 ((dg l i:Nat):Int))):=h.open;have hlen:Hid (n=l.length):=h.1;clear h;have hll:Hid (∀d∈l,d<4294967296):=hl;clear hl;have hE:=AP w (.cells #[.slice ao n c] 110) (.cells #[.slice none 0 0] 110);have hbx:Below w.heap.size w _:=((bD w.heap.size w).alloc (aj _) (.cells #[.slice ao n c] 110)).alloc (by simp) (.cells #[.slice none 0 0] 110);have HE:=bk hE;clear hE
 go_enter Tryz.func246,Tryz.ntmps246
 go_wp2_with (at_make;refine Fh iC _ rfl _ _ rfl (w.heap.size+2) _ _ _ _ K (K+n+1) rfl rfl (by omega) (by omega) (by omega) (by omega) (by unfold maxLen;omega) (by simp) ?_;intro v1 w1 ho hb hsz;have hA1:=bW (cT hb HE.out.1) 0)
 have hbw:Below w.heap.size w w1:=hbx.trans (hb.mono (by omega));have hE2:=cT hb HE.out.2.1;have hw1:w.heap.size+2≤w1.heap.size:=by have:=hb.size;simp at this;omega
 clear hb hA1
 go_loopw [6,7,30] (fun v cy i wr=>∃(k:Nat) (o:List Nat) (q:Nat),k≤n∧i=.int .i64 k∧cy=.int .u64 q∧Hid (q<2^sh)∧iX wr (w.heap.size+2) 273 .u32 v o∧Hid (o.length=K+k)∧Hid (∀d∈o,d<4294967296)∧Hid (val 4294967296 o+4294967296^(K+k)*q=4294967296^K*(val 4294967296 (l.take k)*2^sh))∧Below (w.heap.size+2) w1 wr) (fun _ _ i _=>n-(intOf i).toNat)
 case atStart=>exact⟨0,_,0,aH _,rfl,rfl,gW (by omega),ho,by unfold Hid;simp,by unfold Hid;simp,by unfold Hid;simp[val,vM],bD _ _⟩
 case round=>
  obtain⟨k,o,q,hk,rfl,rfl,hq,hown,hol,hod,hval,hbl⟩:=hrel;have hws:w.heap.size+2≤wr.heap.size:=by have:=hbl.size;omega
  have h32:(32*(K:Int)+sh) % 32=sh:=by omega
  by_cases hlt:k<n
  ·obtain⟨b,off,rfl,hbw0,hcell⟩:=hop.out (by omega);have hck:wr.cell? ⟨b,off+k,none⟩=some (.int .u32 ((dg l k:Nat):Int)):=((hbl.cell (p:=⟨b,off+k,none⟩) (by simp;omega)).trans (hbw.cell (p:=⟨b,off+k,none⟩) hbw0)).trans (hcell k hlt);clear hcell;have hx:dg l k<4294967296:=jh hll.out k;have hxe:=rfl (a:=dg l k);generalize hxx:dg l k=x at hck hx hxe⊢;have HX:=bk hxx;clear hxx hxe;have hor:=PA q x sh hq.out hx hsh;obtain⟨hN1,hN2,_⟩:=QT hq.out hx hsh;generalize hNe:q+x*2^sh=N at*;have hstep:=bk (TW hol.out HX.out hNe hval.out);have HN2:=bk hN2;clear hN2 hNe
   go_wp2_with (at_builtin;refine ft iC _ rfl _ _ rfl (w.heap.size+2) u6 o _ (N % 4294967296) rfl rfl hown ?hz ?hl ?hm ?hb ?_)
   case hz=>rfl
   case hl=>have:=hol.out;omega
   case hm=>have:=hol.out;unfold maxLen;omega
   case hb=>exact hws
   intro v' w' hown' hb';clear hck
   go_wp2
   go_roundw
   case rel=>exact⟨k+1,_,N/4294967296,by omega,by go_num,rfl,HN2,hown',by unfold Hid;have:=hol.out;simp;omega,jZ hod.out (fG _ (by omega)),hstep.out,hbl.trans hb'⟩
   case measure=>simp[intOf];omega
  ·have hkn:Hid (k=n):=by unfold Hid;omega
   have hq32:q<4294967296:=by
    have:2^sh≤2^31:=da (by omega) (by omega);have:=hq.out;omega
   go_wp2_with (at_builtin;refine ft iC _ rfl _ _ rfl (w.heap.size+2) u6 o _ q rfl rfl hown ?hz2 ?hl2 ?hm2 ?hb2 ?_)
   case hz2=>rfl
   case hl2=>have:=hol.out;omega
   case hm2=>have:=hol.out;unfold maxLen;omega
   case hb2=>exact hws
   intro v' w' hown' hb';obtain⟨s,rfl,hs⟩:=hown'.ints;have hsd:=bk (jZ hod.out hq32)
   go_wp2_with (go_at_call 245;refine(lg hs hsd.out).mono ?_;rintro e w2 ⟨t,rfl,ht,htn,hb2⟩;have hE2':=bG hb2 (cT hb' (cT hbl hE2));have hR:=bW hE2' 0;have hRf:=dY hE2' 0)
   refine ff (v:=.tuple #[.agg #[.slice t.ao t.n t.c],.int .i64 0]) (by simp[results,Tryz.results246,go_sem,hR]) rfl ⟨t,rfl,?_,?_,?_⟩
   ·have e:val 4294967296 (o++[q])=val 4294967296 l*2^(32*K+sh):=by
     have h1:=hval.out;rw[eP _ l _ (by have:=hlen.out;have:=hkn.out;omega)]at h1;rw[kK,hol.out,h1,cR,Nat.pow_mul,show(2:Nat)^32=4294967296 from rfl];grind
    rw[←e];exact ht.kp ((Kp.refl _).setCell hE2' (by decide) _)
   ·have:=hs.1;have:=hol.out;have:=hkn.out;simp at*;omega
   ·exact(((hbw.trans (hbl.mono (by omega))).trans (hb'.mono (by omega))).trans (hb2.mono (by have:=hb'.size;omega))).setCell (by simp) _
theorem Ak{w:World}{s:Sl}{x:Nat}(k:Nat)(h:dV w s x)(hn:s.n≤1000000000000)(hk:k≤65536:=by omega):
  Calls Tryz.prog 246 #[.agg #[.slice s.ao s.n s.c],.int .i64 (k:Int)] w fun e w'=>
   ∃u:Sl,e=.returned (.tuple #[.agg #[.slice u.ao u.n u.c],.int .i64 0])∧dV w' u (x*2^k)∧u.n≤s.n+k/32+1∧Below w.heap.size w w':=by
 obtain⟨K,sh,hsh,rfl⟩:∃K sh,sh<32∧k=32*K+sh:=⟨k/32,k % 32,fG _ (by omega),by omega⟩;obtain⟨l,h1,h2,h3,h4⟩:=h;subst h4;refine(TX s.ao s.n s.c l w K sh h1 h2 hn hsh hk).mono ?_;rintro e w' ⟨u,rfl,hu,hun,hb⟩;exact⟨u,rfl,hu,by omega,hb⟩
theorem LN(ao:Option Addr)(n c:Nat)(l:List Nat)(w:World)(K sh:Nat)(h:dk w 273 .u32 ⟨ao,n,c⟩ l)(hl:∀d∈l,d<4294967296)(hn:n≤1000000000000)(hsh:sh<32)(hk:32*K+sh≤65536)(hKn:K<n):
  Calls Tryz.prog 251 #[.agg #[.slice ao n c],.int .i64 ((32*K+sh:Nat):Int)] w fun e w'=>
   ∃(s:Sl),e=.returned (.tuple #[.agg #[.slice s.ao s.n s.c],.int .i64 0])∧dV w' s (val 4294967296 (l.drop K)/2^sh)∧s.n≤n∧Below w.heap.size w w':=by
 obtain⟨b,off,rfl,hbw0,hcell⟩:=h.open (by exact iN (aH _) hKn);have hnc:n≤c:=h.2.1;have hcm:c≤9223372036854775807:=h.2.2.1;have hcell:=bk hcell;simp only at hcell;have hlen:Hid (n=l.length):=h.1;clear h;have hll:Hid (∀d∈l,d<4294967296):=hl;clear hl;have hE:=AP w (.cells #[.slice (some ⟨b,off,none⟩) n c] 110) (.cells #[.slice none 0 0] 110);have hbx:Below w.heap.size w _:=((bD w.heap.size w).alloc (aj _) (.cells #[.slice (some ⟨b,off,none⟩) n c] 110)).alloc (by simp) (.cells #[.slice none 0 0] 110);have HE:=bk hE;clear hE;have h32:(32*(K:Int)+sh) % 32=sh:=by omega
 have h32':(32*(K:Int)+sh)/32=K:=by omega
 go_enter Tryz.func251,Tryz.ntmps251
 go_wp2_with (at_make;refine vr iC _ rfl _ _ rfl (w.heap.size+2) _ _ _ (n-K) rfl rfl (by unfold maxLen;omega) ?_;intro v1 w1 ho hb)
 have hbw:Below w.heap.size w w1:=hbx.trans (hb.mono (by omega));have hE2:=cT hb HE.out.2.1;have hw1:w.heap.size+2≤w1.heap.size:=by have:=hb.size;simp at this;omega
 have hNl:Hid (n-K=(l.drop K).length):=by unfold Hid;have:=hlen.out;simp;omega
 have hNn:n-K≤n:=by omega
 have hNp:Hid (∀i,i<n-K→w.cell? ⟨b,off+K+i,none⟩=some (.int .u32 ((dg (l.drop K) i:Nat):Int))):=fun i hi=>by
  rw[wV,g_];exact hcell.out (K+i) (by omega)
 have hdl:Hid (∀d∈l.drop K,d<4294967296):=fun d hd=>hll.out d (sR hd);clear hb hcell hll hlen;generalize n-K=N at*;generalize hM:l.drop K=M at*;have HM:=bk hM;clear hM;have hP:Hid (0<2^sh):=gW (by omega);have hBB:=bk (MH (gg hsh))
 go_loopw [7,35] (fun v i wr=>∃(k:Nat) (o:List Nat),k≤N∧i=.int .i64 k∧iX wr (w.heap.size+2) 273 .u32 v o∧Hid (o.length=k)∧Hid (∀d∈o,d<4294967296)∧Hid (val 4294967296 o+4294967296^k*(val 4294967296 (M.drop k)/2^sh)=val 4294967296 M/2^sh)∧Below (w.heap.size+2) w1 wr) (fun _ i _=>N-(intOf i).toNat)
 case atStart=>exact⟨0,_,aH _,rfl,ho,by unfold Hid;simp,by unfold Hid;simp,by unfold Hid;simp[val],bD _ _⟩
 case round=>
  obtain⟨k,o,hk,rfl,hown,hol,hod,hval,hbl⟩:=hrel;have hws:w.heap.size+2≤wr.heap.size:=by have:=hbl.size;omega
  by_cases hlt:k<N
  ·have hck:wr.cell? ⟨b,off+K+k,none⟩=some (.int .u32 ((dg M k:Nat):Int)):=((hbl.cell (p:=⟨b,off+K+k,none⟩) (by simp;omega)).trans (hbw.cell (p:=⟨b,off+K+k,none⟩) hbw0)).trans (hNp.out k hlt);have hx:dg M k<4294967296:=jh hdl.out k;by_cases hlt2:k+1<N
   ·have hck2:wr.cell? ⟨b,off+K+(k+1),none⟩=some (.int .u32 ((dg M (k+1):Nat):Int)):=((hbl.cell (p:=⟨b,off+K+(k+1),none⟩) (by simp;omega)).trans (hbw.cell (p:=⟨b,off+K+(k+1),none⟩) hbw0)).trans (hNp.out (k+1) hlt2);have hy:dg M (k+1)<4294967296:=jh hdl.out (k+1);have hstep:=bk (C4 hBB.out hP.out hol.out (by have:=hNl.out;omega) rfl rfl hdl.out hval.out);generalize dg M k=x at*;generalize dg M (k+1)=y at*;have hor:=Hg x y hx hy;have hX:x+y*4294967296<18446744073709551616:=by omega
    generalize x+y*4294967296=X at*
    go_wp2_with (at_builtin;refine ft iC _ rfl _ _ rfl (w.heap.size+2) u7 o _ (X/2^sh % 4294967296) rfl rfl hown ?hz ?hl ?hm ?hb ?_)
    case hz=>simp
    case hl=>have:=hol.out;omega
    case hm=>have:=hol.out;unfold maxLen;omega
    case hb=>exact hws
    intro v' w' hown' hb';clear hck hck2
    go_wp2
    go_roundw
    case rel=>exact⟨k+1,_,by omega,by go_num,hown',by unfold Hid;have:=hol.out;simp;omega,jZ hod.out (fG _ (by omega)),hstep.out,hbl.trans hb'⟩
    case measure=>simp[intOf];omega
   ·have hstep:=bk (C4 (y:=0) hBB.out hP.out hol.out (by have:=hNl.out;omega) rfl (tB (by have:=hNl.out;omega)) hdl.out hval.out);rw[qD,fK]at hstep;generalize dg M k=x at*
    go_wp2_with (at_builtin;refine ft iC _ rfl _ _ rfl (w.heap.size+2) u7 o _ (x/2^sh % 4294967296) rfl rfl hown ?hz3 ?hl3 ?hm3 ?hb3 ?_)
    case hz3=>simp
    case hl3=>have:=hol.out;omega
    case hm3=>have:=hol.out;unfold maxLen;omega
    case hb3=>exact hws
    intro v' w' hown' hb';clear hck
    go_wp2
    go_roundw
    case rel=>exact⟨k+1,_,by omega,by go_num,hown',by unfold Hid;have:=hol.out;simp;omega,jZ hod.out (fG _ (by omega)),hstep.out,hbl.trans hb'⟩
    case measure=>simp[intOf];omega
  ·have hkn:Hid (k=N):=by unfold Hid;omega
   obtain⟨s,rfl,hs⟩:=hown.ints
   go_wp2_with (go_at_call 245;refine(lg hs hod.out).mono ?_;rintro e w2 ⟨t,rfl,ht,htn,hb2⟩;have hE2':=bG hb2 (cT hbl hE2);have hR:=bW hE2' 0;have hRf:=dY hE2' 0)
   refine ff (v:=.tuple #[.agg #[.slice t.ao t.n t.c],.int .i64 0]) (by simp[results,Tryz.results251,go_sem,hR]) rfl ⟨t,rfl,?_,?_,?_⟩
   ·have e:val 4294967296 o=val 4294967296 M/2^sh:=by
     have h1:=hval.out;rw[bp (by have:=hNl.out;have:=hkn.out;omega)]at h1;simpa [val]using h1
    rw[HM.out,←e];exact ht.kp ((Kp.refl _).setCell hE2' (by decide) _)
   ·have:=hs.1;have:=hol.out;have:=hkn.out;simp at*;omega
   ·exact((hbw.trans (hbl.mono (by omega))).trans (hb2.mono (by omega))).setCell (by simp) _
theorem LO(ao:Option Addr)(n c:Nat)(w:World)(K sh:Nat)(_hn:n≤1000000000000)(hsh:sh<32)(hk:32*K+sh≤65536)(hKn:n≤K):
  Calls Tryz.prog 251 #[.agg #[.slice ao n c],.int .i64 ((32*K+sh:Nat):Int)] w fun e w'=>
   e=.returned (.tuple #[.agg #[.slice none 0 0],.int .i64 0])∧Below w.heap.size w w':=by
 have h32':(32*(K:Int)+sh)/32=K:=by omega
 go_enter Tryz.func251,Tryz.ntmps251
 go_wp2
 refine ff (v:=.tuple #[.agg #[.slice none 0 0],.int .i64 0]) (by simp[results,Tryz.results251,go_sem]) rfl ⟨rfl,?_⟩;exact((bD _ _).alloc (aj _) _).alloc (by simp) _
theorem C3{w:World}{s:Sl}{x:Nat}(k:Nat)(h:dV w s x)(hn:s.n≤1000000000000)(hk:k≤65536:=by omega):
  Calls Tryz.prog 251 #[.agg #[.slice s.ao s.n s.c],.int .i64 (k:Int)] w fun e w'=>
   ∃u:Sl,e=.returned (.tuple #[.agg #[.slice u.ao u.n u.c],.int .i64 0])∧dV w' u (x/2^k)∧u.n≤s.n∧Below w.heap.size w w':=by
 obtain⟨K,sh,hsh,rfl⟩:∃K sh,sh<32∧k=32*K+sh:=⟨k/32,k % 32,fG _ (by omega),by omega⟩;obtain⟨l,h1,h2,h3,h4⟩:=h;have e:x/2^(32*K+sh)=val 4294967296 (l.drop K)/2^sh:=by
  rw[H_ _ (by omega) l K h2,h4,cR,Nat.pow_mul,show(2:Nat)^32=4294967296 from rfl,Nat.div_div_eq_div_mul]
 rw[e];rcases iW K s.n with hc|hc
 ·exact LN s.ao s.n s.c l w K sh h1 h2 hn hsh hk hc
 ·refine(LO s.ao s.n s.c w K sh hn hsh hk hc).mono ?_;rintro e w' ⟨rfl,hb⟩;refine⟨⟨none,0,0⟩,rfl,?_,aH _,hb⟩;rw[bp (by rw[←h1.1];exact hc)];simp only[val,Nat.zero_div];exact dV.nil _ _ _
theorem IN{w:World}{s:Sl}{l:List Nat}(h:dk w 273 .u32 s l)(hp:0<s.n)(hn:s.n≤1000000000000):
  Calls Tryz.prog 250 #[.slice s.ao s.n s.c] w fun e w'=>∃v,e=.returned v∧iX w' w.heap.size 273 .u32 v l∧Below w.heap.size w w':=by
 obtain⟨b,off,ha,hb,hc⟩:=h.open hp;obtain⟨ao,n,c⟩:=s;simp only at ha hp hn hc;subst ha;have hlen:=bk h.1;have hmade:iX (w.alloc (.cells #[] 273)) w.heap.size 273 .u32 (.slice (some ⟨w.heap.size,0,none⟩) 0 0) []:=World.ownsRow_made w #[] 0 (aj _) (by unfold maxLen;omega) (by simp);have hi:dk (w.alloc (.cells #[] 273)) 273 .u32 ⟨some ⟨b,off,none⟩,n,c⟩ l:=h.up ((bD _ _).alloc (aj _) _);have hbx:Below w.heap.size w (w.alloc (.cells #[] 273)):=(bD _ _).alloc (aj _) _;clear hc;have hnil:=fun w=>Lib.run_eql_slice_nil (P:=Tryz.prog) w 108 273 (some ⟨b,off,none⟩) n c 0 0 Tryz.underlying108
 go_enter Tryz.func250,Tryz.ntmps250
 go_wp2_with (at_builtin;refine Co iC _ rfl _ _ rfl w.heap.size (.slice (some ⟨w.heap.size,0,none⟩) 0 0) [] l ⟨some ⟨b,off,none⟩,n,c⟩ rfl rfl hmade hi hp ?hl ?hm (by simp) ?_)
 case hl=>have:=hlen.out;simp at*;omega
 case hm=>have:=hlen.out;unfold maxLen;simp at*;omega
 intro v' w' hown hb'
 go_wp2
 go_ret
 exact⟨_,rfl,by simpa using hown,hbx.trans hb'⟩
set_option maxRecDepth 100000 in
theorem NX{w:World}{s t:Sl}{x y:Nat}(h:dV w s x)(h':dV w t y)(hn:s.n≤1000000000000)(hm:t.n≤1000000000000)(hxy:x<y):
  Calls Tryz.prog 199 #[.agg #[.slice s.ao s.n s.c],.agg #[.slice t.ao t.n t.c]] w fun e w'=>
   e=.returned (.tuple #[.agg #[.slice none 0 0],.agg #[.slice s.ao s.n s.c],.int .i64 0])∧Below w.heap.size w w':=by
 have hE:=Oa w (.cells #[.slice s.ao s.n s.c] 110) (.cells #[.slice t.ao t.n t.c] 110) (.cells #[.slice none 0 0] 110) (.cells #[.slice none 0 0] 110);have hbx:Below w.heap.size w _:=((((bD w.heap.size w).alloc (aj _) (.cells #[.slice s.ao s.n s.c] 110)).alloc (by simp) (.cells #[.slice t.ao t.n t.c] 110)).alloc (by simp;omega) (.cells #[.slice none 0 0] 110)).alloc (by simp;omega) (.cells #[.slice none 0 0] 110);have hlt:mY x y<0:=by rw[wT hxy];omega
 have ht0:((t.n:Int)==0)=false:=by
  have:=h'.zero_iff;simp;omega
 have HE:=bk hE;clear hE
 go_enter Tryz.func199,Tryz.ntmps199
 go_wp2_with (go_at_call 204;refine(nW (h.up hbx) (h'.up hbx) hn hm).mono ?_;rintro e w1 ⟨rfl,hb1⟩;have hE1:=bG hb1 HE.out.1;have hA:=bW hE1 0;have hE3:=bG hb1 HE.out.2.2.1;have hR:=bW hE3 0;have hRf:=dY hE3 0;have hE4:=bG hb1 HE.out.2.2.2.1;have hR2:=bW hE4 0;have hRf2:=dY hE4 0)
 go_region
 go_wp2
 refine ff (v:=.tuple #[.agg #[.slice none 0 0],.agg #[.slice s.ao s.n s.c],.int .i64 0]) (by simp[results,Tryz.results199,go_sem,hR,hR2]) rfl ⟨rfl,?_⟩;have hbb:=hbx.trans (hb1.mono (by have:=hbx.size;exact this));exact(hbb.drew.setCell (by simp;omega) _).setCell (by simp;omega) _
set_option maxRecDepth 100000 in
theorem div_one{w:World}{s t:Sl}{x y:Nat}(h:dV w s x)(h':dV w t y)(hn:s.n≤1000000000000)(hm:t.n=1)(hxy:y≤x):
  Calls Tryz.prog 199 #[.agg #[.slice s.ao s.n s.c],.agg #[.slice t.ao t.n t.c]] w fun e w'=>
   ∃u v:Sl,e=.returned (.tuple #[.agg #[.slice u.ao u.n u.c],.agg #[.slice v.ao v.n v.c],.int .i64 0])∧dV w' u (x/y)∧dV w' v (x % y)∧u.n≤s.n∧v.n≤2∧Below w.heap.size w w':=by
 obtain⟨l,h1,h2,h3,h4⟩:=id h;obtain⟨r,g1,g2,g3,g4⟩:=id h';obtain⟨b,off,hao,hbw,hcell⟩:=g1.open (by omega);obtain⟨ta,tn,tc⟩:=t;simp only at hm hao;subst hm;subst hao;have hcd:=hcell 0 (by simp);have hrl:r.length=1:=g1.1.symm;have hy:y=dg r 0:=by
  rw[←g4,vq (B:=4294967296) (j:=0) hrl];simp[val]
 have hd32:dg r 0<4294967296:=jh g2 0;have hd0:0<dg r 0:=by
  have:=h'.zero_iff;simp at this;omega
 have hsn:((s.n:Int)==0)=false:=by
  have:=h.zero_iff;simp;omega
 rw[←hy]at hcd hd32 hd0;have hE:=Oa w (.cells #[.slice s.ao s.n s.c] 110) (.cells #[.slice (some ⟨b,off,none⟩) 1 tc] 110) (.cells #[.slice none 0 0] 110) (.cells #[.slice none 0 0] 110);have hbx:Below w.heap.size w _:=((((bD w.heap.size w).alloc (aj _) (.cells #[.slice s.ao s.n s.c] 110)).alloc (by simp) (.cells #[.slice (some ⟨b,off,none⟩) 1 tc] 110)).alloc (by simp;omega) (.cells #[.slice none 0 0] 110)).alloc (by simp;omega) (.cells #[.slice none 0 0] 110);have hlt:¬mY x y<0:=by
  rcases iW y x with hh|hh
  ·rw[uQ hh];omega
  ·obtain rfl:x=y:=by omega
   rw[wS];omega
 have HE:=bk hE;have HX:=bk h4;have HY:=bk hy;simp only[fK]at hcd hcell;clear hE h4 hy hcell hrl g4 g3 h3;have hxy':=bk hxy;clear hxy
 go_enter Tryz.func199,Tryz.ntmps199
 go_wp2_with (go_at_call 204;refine(nW (h.up hbx) (h'.up hbx) hn (by simp)).mono ?_;rintro e w1 ⟨rfl,hb1⟩;have hE1:=bG hb1 HE.out.1;have hA:=bW hE1 0;have hE2:=bG hb1 HE.out.2.1;have hB:=bW hE2 0;have hD:=((hb1.cell (p:=⟨b,off,none⟩) (by simp;omega)).trans (hbx.cell (p:=⟨b,off,none⟩) hbw)).trans hcd)
 have hbw1:b<w1.heap.size:=by have:=hb1.size;simp at this;omega
 have hl1:dk w1 273 .u32 s l:=(h1.up hbx).up hb1;clear hcd
 go_region_held3 (fun w'=>w'.cell? ⟨w.heap.size,0,none⟩=some (.slice s.ao s.n s.c)∧w'.cell? ⟨w.heap.size+1,0,none⟩=some (.slice (some ⟨b,off,none⟩) 1 tc)∧w'.cell? ⟨b,off,none⟩=some (.int .u32 (y:Int)))
  (first|exact⟨hA,hB,hD⟩|exact⟨(hb2.cell (p:=⟨w.heap.size,0,none⟩) (rR hE1)).trans hA,(hb2.cell (p:=⟨w.heap.size+1,0,none⟩) (rR hE2)).trans hB,(hb2.cell (p:=⟨b,off,none⟩) hbw1).trans hD⟩)
  (first|(go_at_call 248;refine(Sg s.ao s.n s.c l w1.drew y hl1 h2 hd32 hd0 hn).mono ?_;rintro e w2 ⟨q,ql,rr,rfl,hq,hqd,hql,hqv,hrr,hb2⟩))
 replace hb2:Below w1.heap.size w1 w2:=l_ hb2;have hE3:=bG hb2 (bG hb1 HE.out.2.2.1);have hE4:=bG hb2 (bG hb1 HE.out.2.2.2.1);have hbb:=(hbx.trans (hb1.mono (by have:=hbx.size;exact this))).trans (hb2.mono (by have:=hbx.size;have:=hb1.size;simp at*;omega));have hr64:rr<18446744073709551616:=by omega
 clear hA hB hD
 go_wp2_with (first|(go_at_call 245;refine(lg hq hqd).mono ?_;rintro e w3 ⟨u,rfl,hu,hun,hb3⟩)|(go_at_call 193;refine(EI rr _ hr64).mono ?_;rintro e w4 ⟨v,rfl,hv,hvn,hb4⟩;have hF3:=bG hb4 (bG hb3 hE3);have hR:=bW hF3 0;have hRf:=dY hF3 0;have hF4:=bG hb4 (bG hb3 hE4);have hR2:=bW hF4 0;have hRf2:=dY hF4 0))
 have hqr:x=y*val 4294967296 ql+rr:=by rw[←HX.out];exact hqv
 have e1:val 4294967296 ql=x/y:=by
  rw[hqr,Nat.mul_add_div hd0,jL hrr,fK]
 have e2:rr=x % y:=by
  rw[hqr,Nat.mul_add_mod,Nat.mod_eq_of_lt hrr]
 rw[e1]at hu;rw[e2]at hv;refine ff (v:=.tuple #[.agg #[.slice u.ao u.n u.c],.agg #[.slice v.ao v.n v.c],.int .i64 0]) (by simp[results,Tryz.results199,go_sem,hR,hR2]) rfl ⟨u,v,rfl,?_,?_,?_,hvn,?_⟩
 ·exact((hu.up hb4).kp ((Kp.refl _).setCell hF3 (by decide) _)).kp ((Kp.refl _).setCell (cG hF4 (by simp) _) (by decide) _)
 ·exact(hv.kp ((Kp.refl _).setCell hF3 (by decide) _)).kp ((Kp.refl _).setCell (cG hF4 (by simp) _) (by decide) _)
 ·have:=hq.1;have:=h1.1;omega
 ·exact(((hbb.trans (hb3.mono hbb.size)).trans (hb4.mono (by have:=hbb.size;have:=hb3.size;omega))).setCell (by simp;omega) _).setCell (by simp;omega) _
theorem KZ(n:Nat):4294967296^n=2^(32*n):=by rw[Nat.pow_mul]
theorem Zo{x:Nat}(h:x≠0):2^(bl x-1)≤x:=by
 apply gV;intro hh;have:=(qU x (bl x-1)).2 hh;have:bl x≠0:=by unfold bl;rw[if_neg h];omega
 omega
theorem TV{w:World}{t:Sl}{m sh:Nat}{r:List Nat}(h:dk w 273 .u32 t r)(hd:∀d∈r,d<4294967296)(hr:r.length=m+2)(ht:dg r (m+1)≠0)(hsh:sh=32-bl (dg r (m+1)))(hm:m≤100000000000):
  Calls Tryz.prog 246 #[.agg #[.slice t.ao t.n t.c],.int .i64 (sh:Int)] w fun e w'=>
   ∃(b off c:Nat) (ld:List Nat),e=.returned (.tuple #[.agg #[.slice (some ⟨b,off,none⟩) (m+2) c],.int .i64 0])∧dk w' 273 .u32 ⟨some ⟨b,off,none⟩,m+2,c⟩ ld∧(∀d∈ld,d<4294967296)∧val 4294967296 ld=val 4294967296 r*2^sh∧2147483648≤dg ld (m+1)∧Below w.heap.size w w':=by
 have hbl:=NI (j:=m+1) hd hr ht;have hb0:bl (dg r (m+1))≠0:=by unfold bl;rw[if_neg ht];omega
 have hb1:bl (dg r (m+1))≤32:=(qU _ 32).2 (jh hd (m+1));have hx0:val 4294967296 r≠0:=by
  intro h0;have:=vq (B:=4294967296) (j:=m+1) hr;have h2:0<4294967296^(m+1)*dg r (m+1):=iw (gW (by omega)) (by omega);omega
 have hlo:=Zo hx0;have hhi:=(qU (val 4294967296 r) (bl (val 4294967296 r))).1 (aj _);have hNorm:qR r:=by
  intro hh;rw[fo,hr]at hh;simp only[show m+2-1=m+1 from rfl]at hh;rw[tC (by omega)]at ht;simp[hr]at hh;exact ht hh
 refine(Ak sh ⟨r,h,hd,hNorm,rfl⟩ (by rw[h.1];omega)).mono ?_;rintro e w' ⟨u,rfl,⟨ld,hu1,hu2,hu3,hu4⟩,hun,hb⟩;have e1:32*(m+2)-1=(bl (val 4294967296 r)-1)+sh:=by omega
 have e2:32*(m+2)=bl (val 4294967296 r)+sh:=by omega
 have hP:0<2^sh:=gW (by omega);have h1:2^(32*(m+2)-1)≤val 4294967296 ld:=by
  rw[hu4,e1,cR];exact cj _ hlo
 have h2:val 4294967296 ld<2^(32*(m+2)):=by
  rw[hu4,e2,cR];exact(Nat.mul_lt_mul_right hP).2 hhi
 have hlen:ld.length=m+2:=by
  apply Nat.le_antisymm
  ·exact hu3.len_of_lt (B:=4294967296) (by omega) (by rw[KZ];exact h2)
  ·apply gV;intro hh;have h3:=mG 4294967296 ld hu2;have h4:4294967296^ld.length≤4294967296^(m+1):=da (by omega) (by omega);rw[KZ (m+1)]at h4;have h5:2^(32*(m+1))≤2^(32*(m+2)-1):=da (by omega) (by omega);omega
 have htop:2147483648≤dg ld (m+1):=by
  apply gV;intro hh;have h3:=vq (B:=4294967296) (j:=m+1) hlen;have h4:=xR (B:=4294967296) hu2 (m+1);have h5:4294967296^(m+1)*(dg ld (m+1)+1)≤4294967296^(m+1)*2147483648:=cI _ hh;rw[fD]at h5;have h6:2^(32*(m+2)-1)=4294967296^(m+1)*2147483648:=by
   rw[KZ,show 32*(m+2)-1=32*(m+1)+31 from by omega,cR]
  omega
 have hun':u.n=m+2:=by rw[hu1.1,hlen]
 obtain⟨b,off,hao,_,_⟩:=hu1.open (by omega);obtain⟨uao,un,uc⟩:=u;simp only at hao hun';subst hao;subst hun';exact⟨b,off,uc,ld,rfl,hu1,hu2,hu4,htop,hb⟩
def vP(wA:World)(g cap L gq N D U:Nat)(k:Nat)(wr:World):Prop:=∃p qs:List Nat,
 iX wr wA.heap.size 273 .u32 (.slice (some ⟨g,0,none⟩) (L+1) cap) p∧iX wr wA.heap.size 273 .u32 (.slice (some ⟨gq,0,none⟩) (N+1) (N+1)) qs∧
 p.length=L+1∧qs.length=N+1∧(∀d∈p,d<4294967296)∧(∀d∈qs,d<4294967296)∧
 val 4294967296 p+D*(4294967296^k*val 4294967296 (qs.drop k))=U∧val 4294967296 p<D*4294967296^k∧Below wA.heap.size wA wr
def Nb(D W T two:Nat)(gv lv:Value):Prop:=∃gu lf:Nat,gv=.int .u64 gu∧lv=.int .u64 lf∧Hid (W/D≤gu)∧gu≤4294967297∧Hid (gu*T+lf=two)∧lf<4294967296
def RY(wA:World)(g cap L gq N:Nat)(qs d p0:List Nat)(i gu R nn:Nat)(bv cv kv:Value)(wr:World):Prop:=∃(k:Nat) (p:List Nat) (bo c:Nat),
 bv=.int .i64 bo∧cv=.int .u64 c∧kv=.int .i64 k∧k≤nn∧bo≤1∧c<4294967296∧
 iX wr wA.heap.size 273 .u32 (.slice (some ⟨g,0,none⟩) (L+1) cap) p∧iX wr wA.heap.size 273 .u32 (.slice (some ⟨gq,0,none⟩) (N+1) (N+1)) qs∧
 Hid (p.length=L+1)∧Hid (∀d∈p,d<4294967296)∧Hid (∀j',i+k≤j'→dg p j'=dg p0 j')∧
 Hid (val 4294967296 p+4294967296^i*(gu*val 4294967296 (d.take k))=R+4294967296^(i+k)*(c+bo))∧Below wA.heap.size wA wr
def RV(wA:World)(g cap L gq N:Nat)(qs d p0:List Nat)(i R nn:Nat)(sv kv:Value)(wr:World):Prop:=∃(k:Nat) (p:List Nat) (c:Nat),
 sv=.int .u64 c∧kv=.int .i64 k∧k≤nn∧c≤1∧
 iX wr wA.heap.size 273 .u32 (.slice (some ⟨g,0,none⟩) (L+1) cap) p∧iX wr wA.heap.size 273 .u32 (.slice (some ⟨gq,0,none⟩) (N+1) (N+1)) qs∧
 Hid (p.length=L+1)∧Hid (∀d∈p,d<4294967296)∧Hid (∀j',i+k≤j'→dg p j'=dg p0 j')∧
 Hid (val 4294967296 p+4294967296^(i+k)*c=R+4294967296^i*val 4294967296 (d.take k))∧Below wA.heap.size wA wr
theorem vP.drewN{wA:World}{g cap L gq N D U k:Nat}{wr:World}(h:vP wA g cap L gq N D U k wr)(n:Nat):vP wA g cap L gq N D U k (wr.drewN n):=by
 obtain⟨p,qs,h1,h2,h3,h4,h5,h6,h7,h8,h9⟩:=h;exact⟨p,qs,h1,h2,h3,h4,h5,h6,h7,h8,jU h9 n⟩
theorem NW{wA w6:World}{g cap gq N m:Nat}{lu ld:List Nat}(hr6:iX w6 wA.heap.size 273 .u32 (.slice (some ⟨g,0,none⟩) (lu.length+1) cap) (lu++[0]))
  (hq6:iX w6 wA.heap.size 273 .u32 (.slice (some ⟨gq,0,none⟩) (N+1) (N+1)) (List.replicate (N+1) 0))(hu2:∀d∈lu,d<4294967296)(hN:lu.length+1=m+2+(N+1))(hld:ld.length=m+2)(ht:2147483648≤dg ld (m+1))(hb:Below wA.heap.size wA w6):
  vP wA g cap lu.length gq N (val 4294967296 ld) (val 4294967296 lu) (N+1) w6:=by
 have e:val 4294967296 (lu++[0])=val 4294967296 lu:=by rw[kK,Nat.mul_zero,fK]
 have e2:val 4294967296 (lu++[0])+val 4294967296 ld*(4294967296^(N+1)*val 4294967296 ((List.replicate (N+1) 0).drop (N+1)))=val 4294967296 lu:=by
  rw[e,bp (by rw[List.length_replicate];exact aj _),Lo,Nat.mul_zero,Nat.mul_zero,fK]
 have e3:val 4294967296 (lu++[0])<val 4294967296 ld*4294967296^(N+1):=by
  rw[e];have k1:=mG 4294967296 lu hu2;have k2:lu.length=(m+1)+(N+1):=by omega
  rw[k2,cR]at k1;have k3:4294967296^(m+1)≤val 4294967296 ld:=by
   have k3:=vq (B:=4294967296) (j:=m+1) hld;have k4:4294967296^(m+1)*1≤4294967296^(m+1)*dg ld (m+1):=cI _ (by omega);omega
  have k5:4294967296^(m+1)*4294967296^(N+1)≤val 4294967296 ld*4294967296^(N+1):=cj _ k3;omega
 have e4:∀d∈List.replicate (N+1) 0,d<4294967296:=fun d hd=>by
  have:=(List.mem_replicate.1 hd).2;omega
 exact⟨lu++[0],List.replicate (N+1) 0,hr6,hq6,by rw[aA];rfl,List.length_replicate,jZ hu2 (by omega),e4,e2,e3,hb⟩
set_option maxRecDepth 100000 in
theorem NZ{w:World}{s:Sl}{x:Nat}(h:dV w s x)(b off m tc:Nat)(r:List Nat)(g1:dk w 273 .u32 ⟨some ⟨b,off,none⟩,m+2,tc⟩ r)(g2:∀d∈r,d<4294967296)(g3:qR r)(hn:s.n≤100000000000)(hm:m≤100000000000)(hxy:val 4294967296 r≤x):
  Calls Tryz.prog 199 #[.agg #[.slice s.ao s.n s.c],.agg #[.slice (some ⟨b,off,none⟩) (m+2) tc]] w fun e w'=>
   ∃u v:Sl,e=.returned (.tuple #[.agg #[.slice u.ao u.n u.c],.agg #[.slice v.ao v.n v.c],.int .i64 0])∧dV w' u (x/val 4294967296 r)∧dV w' v (x % val 4294967296 r)∧Below w.heap.size w w':=by
 have h':dV w ⟨some ⟨b,off,none⟩,m+2,tc⟩ (val 4294967296 r):=⟨r,g1,g2,g3,rfl⟩;have hrl:r.length=m+2:=g1.1.symm;obtain⟨b',off',hao,hbw,hcell⟩:=g1.open (by simp);simp only[aq,mJ]at hao;obtain⟨rfl,rfl,_⟩:=hao;have hcd:=hcell (m+1) (by simp);have htop0:dg r (m+1)≠0:=by
  intro hh;apply g3;rw[fo,hrl];simp only[show m+2-1=m+1 from rfl];rw[tC (by omega)]at hh;simp[hrl,hh]
 have hd32:dg r (m+1)<4294967296:=jh g2 (m+1);have hb0:bl (dg r (m+1))≠0:=by unfold bl;rw[if_neg htop0];omega
 have hb1:bl (dg r (m+1))≤32:=(qU _ 32).2 (by omega);obtain⟨sh,hsh⟩:∃sh,sh=32-bl (dg r (m+1)):=⟨_,rfl⟩;have hsh1:sh≤31:=by omega
 generalize hy:val 4294967296 r=y at*;have hlt:¬mY x y<0:=by
  rcases iW y x with hh|hh
  ·rw[uQ hh];omega
  ·obtain rfl:x=y:=by omega
   rw[wS];omega
 have hE:=Oa w (.cells #[.slice s.ao s.n s.c] 110) (.cells #[.slice (some ⟨b,off,none⟩) (m+2) tc] 110) (.cells #[.slice none 0 0] 110) (.cells #[.slice none 0 0] 110);have hbx:Below w.heap.size w _:=((((bD w.heap.size w).alloc (aj _) (.cells #[.slice s.ao s.n s.c] 110)).alloc (by simp) (.cells #[.slice (some ⟨b,off,none⟩) (m+2) tc] 110)).alloc (by simp;omega) (.cells #[.slice none 0 0] 110)).alloc (by simp;omega) (.cells #[.slice none 0 0] 110);have HE:=bk hE;have HY:=bk hy;have HS:=bk hsh;have HT:=bk htop0;have HRL:=bk hrl;have hxy':=bk hxy;clear hE hy hsh htop0 hcell hrl hxy hb0 hb1
 go_enter Tryz.func199,Tryz.ntmps199
 go_wp2_with (first
  |(go_at_call 204;refine(nW (h.up hbx) (h'.up hbx) (by omega) (by simp;omega)).mono ?_;rintro e w1 ⟨rfl,hb1⟩;have hE1:=bG hb1 HE.out.1;have hA:=bW hE1 0;have hE2:=bG hb1 HE.out.2.1;have hB:=bW hE2 0;have hE3:=bG hb1 HE.out.2.2.1;have hE4:=bG hb1 HE.out.2.2.2.1;have hD:=((hb1.cell (p:=⟨b,off+(m+1),none⟩) (by simp;omega)).trans (hbx.cell (p:=⟨b,off+(m+1),none⟩) hbw)).trans hcd;have hs1:=(h.up hbx).up hb1;have hg1:=(g1.up hbx).up hb1)
  |(go_at_call 249;refine(GH _ _ hd32).mono ?_;rintro e w' ⟨rfl,rfl⟩;rw[←HS.out])
  |(go_at_call 246;(with_reducible refine(Ak sh hs1 (by omega)).mono ?_);rintro e w2 ⟨u,rfl,hu,hun,hb2⟩;have hB2:=bW (kN (bG hb2 hE2) (.cells #[.slice u.ao u.n u.c] 110)) 0;have hbu:Below w2.heap.size w2 (w2.alloc (.cells #[.slice u.ao u.n u.c] 110)):=(bD _ _).alloc (aj _) _;clear hA hB hD)
  |(go_at_call 246;(with_reducible refine(TV ((hg1.up hb2).up hbu) g2 HRL.out HT.out HS.out hm).mono ?_);rintro e w3 ⟨bd,offd,dc,ld,rfl,hv1,hv2,hv3,hv4,hb3⟩;have hU:=bW (kN (bG hb3 (lD w2 (.cells #[.slice u.ao u.n u.c] 110))) (.cells #[.slice (some ⟨bd,offd,none⟩) (m+2) dc] 110)) 0))
 obtain⟨lu,hu1,hu2,hu3,hu4⟩:=hu;have F3:=kN (bG hb3 (kN (bG hb2 hE3) (.cells #[.slice u.ao u.n u.c] 110))) (.cells #[.slice (some ⟨bd,offd,none⟩) (m+2) dc] 110);have F4:=kN (bG hb3 (kN (bG hb2 hE4) (.cells #[.slice u.ao u.n u.c] 110))) (.cells #[.slice (some ⟨bd,offd,none⟩) (m+2) dc] 110);have hbv:Below w3.heap.size w3 (w3.alloc (.cells #[.slice (some ⟨bd,offd,none⟩) (m+2) dc] 110)):=(bD _ _).alloc (aj _) _;have hdA:=hv1.up hbv;have huA:=((hu1.up hbu).up hb3).up hbv;have hwA:Below w.heap.size w (w3.alloc (.cells #[.slice (some ⟨bd,offd,none⟩) (m+2) dc] 110)):=by
  have k1:=hbx.size;have k2:=hb1.size;have k3:=hb2.size;have k4:=hbu.size;have k5:=hb3.size;exact((((hbx.trans (hb1.mono k1)).trans (hb2.mono (by omega))).trans (hbu.mono (by omega))).trans (hb3.mono (by omega))).trans (hbv.mono (by omega))
 have hLm:m+2≤lu.length:=by
  apply gV;intro hh;have k1:=mG 4294967296 lu hu2;have k2:4294967296^lu.length≤4294967296^(m+1):=da (by omega) (by omega);have k3:=vq (B:=4294967296) (j:=m+1) hdA.1.symm;have k4:4294967296^(m+1)*1≤4294967296^(m+1)*dg ld (m+1):=cI _ (by omega);have k5:y*2^sh≤x*2^sh:=cj _ hxy'.out;rw[HY.out]at hv3;omega
 have hLu:lu.length=u.n:=hu1.1.symm;obtain⟨N,hN⟩:∃N,lu.length+1=(m+2)+(N+1):=⟨lu.length-(m+2),by omega⟩;clear hb1 hs1 hg1 hE1 hE2 hE3 hE4 hb2 hu1 hb3 hv1 hU hbu hbv hB2 g1 h' hcd hbx HE;generalize(w3.alloc (.cells #[.slice (some ⟨bd,offd,none⟩) (m+2) dc] 110))=wA at*;refine(IN huA (by omega) (by omega)).mono ?_;rintro e w4 ⟨rv,rfl,hrown,hb4⟩;have HN:=bk hN;have HLu:=bk hLu;have hLs:lu.length≤300000000000:=by omega
 clear hLm hN hLu
 go_wp2_with (at_builtin;refine ft iC _ rfl _ _ rfl wA.heap.size rv lu _ 0 rfl rfl hrown ?hz ?hl ?hm hb4.size ?_)
 case hz=>rfl
 case hl=>omega
 case hm=>unfold maxLen;omega
 intro v5 w5 hr5 hb5;obtain⟨g,cap,rfl⟩:∃g cap,v5=.slice (some ⟨g,0,none⟩) (lu.length+1) cap:=by
  rcases hr5.2 with⟨_,hh⟩|⟨g,cap,cur,hv,_⟩
  ·simp at hh
  ·exact⟨g,cap,by rw[hv];simp⟩
 have hg1:=(hr5.slot 0 (by simp)).2.2.2;have hb45:=hb4.trans hb5;clear hrown hb4 hb5
 go_wp2_with (at_make;refine Cn iC _ rfl _ _ rfl wA.heap.size _ _ _ _ (N+1) rfl rfl (by have:=HN.out;omega) (by have:=HN.out;omega) (by have:=HN.out;omega) (by unfold maxLen;have:=HN.out;omega) hb45.size ?_;intro w6 hq6 hb6 hsz6)
 obtain⟨bd',offd',hao,hbd,hcell⟩:=hdA.open (by simp);simp only[aq,mJ]at hao;obtain⟨rfl,rfl,_⟩:=hao;have hr6:=hr5.below hb6 (aj _);have hb46:=hb45.trans (hb6.mono hb45.size);have hcell:=bk hcell;have hd1:w6.cell? ⟨bd,offd+(m+1),none⟩=some (.int .u32 ((dg ld (m+1):Nat):Int)):=(hb46.cell (p:=⟨bd,offd+(m+1),none⟩) hbd).trans (hcell.out (m+1) (by simp));have hd2:w6.cell? ⟨bd,offd+m,none⟩=some (.int .u32 ((dg ld m:Nat):Int)):=(hb46.cell (p:=⟨bd,offd+m,none⟩) hbd).trans (hcell.out m (by simp));have hT2:dg ld (m+1)<4294967296:=jh hv2 (m+1);have hS2:dg ld m<4294967296:=jh hv2 m;obtain⟨T,hTe⟩:∃T,T=dg ld (m+1):=⟨_,rfl⟩;obtain⟨S,hSe⟩:∃S,S=dg ld m:=⟨_,rfl⟩;rw[←hTe]at hd1 hT2 hv4;rw[←hSe]at hd2 hS2;have HTe:=bk hTe;have HSe:=bk hSe;have hNb:N≤300000000000:=by have:=HN.out;omega
 have hgq:g<w5.heap.size:=hg1;have hws6:w5.heap.size+1≤w6.heap.size:=hsz6;clear hTe hSe hr5 hb45 hb6;have hD0:val 4294967296 ld=(T*4294967296+S)*4294967296^m+val 4294967296 (ld.take m):=by
  have:=TO (B:=4294967296) (n:=m) hdA.1.symm;rw[←HTe.out,←HSe.out]at this;exact this
 have hD2:val 4294967296 (ld.take m)<4294967296^m:=xR hv2 m;have hDlt:val 4294967296 ld<4294967296^(m+2):=by
  have:=mG 4294967296 ld hv2;rw[←hdA.1]at this;exact this
 have hinit:vP wA g cap lu.length w5.heap.size N (val 4294967296 ld) (val 4294967296 lu) (N+1) w6:=NW (m:=m) hr6 hq6 hu2 HN.out hdA.1.symm (by rw[←HTe.out];exact hv4) hb46;have hcellA:=bk (show ∀i,i<m+2→wA.cell? ⟨bd,offd+i,none⟩=some (.int .u32 ((dg ld i:Nat):Int))from hcell.out);have hdl:Hid (ld.length=m+2):=hdA.1.symm;have hv2':=bk hv2;have hv3':=bk hv3;have hu2':=bk hu2;have hDl:=bk hDlt;have hDe:=bk hD0;have hD2':=bk hD2;clear hr6 hq6 hcell hv2 hu2 hv3 hDlt hD0 hD2 huA
 go_quiet (fail)
 go_wp2
 clear hd1 hd2;generalize hgqe:w5.heap.size=gq at*;have hi7:vP wA g cap lu.length gq N (val 4294967296 ld) (val 4294967296 lu) (N+1) (w6.drewN nq):=hinit.drewN nq;clear hinit;generalize w6.drewN nq=w7 at*
 go_loopw [20] (fun i wr=>∃k:Nat,k≤N+1∧i=.int .i64 ((k:Int)-1)∧vP wA g cap lu.length gq N (val 4294967296 ld) (val 4294967296 lu) k wr) (fun i _=>(intOf i+1).toNat)
 case atStart=>exact⟨N+1,aj _,by simp,hi7⟩
 case round=>
  obtain⟨k,hk,rfl,hinv⟩:=hrel;by_cases hlt:0<k
  ·obtain⟨j,rfl⟩:∃j,k=j+1:=⟨k-1,by omega⟩;obtain⟨p,qs,hpo,hqo,hpl,hql,hpd,hqd,hpv,hplt,hbl⟩:=hinv;have hidx:j+(m+2)<p.length:=by rw[hpl];have:=HN.out;omega
   have hc2:=(hpo.slot (j+(m+2)) hidx).1;have hc1:=(hpo.slot (j+(m+1)) (by omega)).1;have hc0:wr.cell? ⟨g,j+(m+2)-2,none⟩=some (.int .u32 ((dg p (j+m):Nat):Int)):=by
    rw[show j+(m+2)-2=j+m from by omega];exact(hpo.slot (j+m) (by omega)).1
   have ha2:dg p (j+(m+2))<4294967296:=jh hpd _;have ha1:dg p (j+(m+1))<4294967296:=jh hpd _;have ha0:dg p (j+m)<4294967296:=jh hpd _;have hDpos:0<val 4294967296 ld:=by
    rw[hDe.out];have:0<4294967296^m:=gW (by omega);have:0<(T*4294967296+S)*4294967296^m:=iw (by omega) this;omega
   have hab:∀j',j+(m+2)<j'→dg p j'=0:=by
    have k1:val 4294967296 ld*4294967296^(j+1)<4294967296^(m+2)*4294967296^(j+1):=(Nat.mul_lt_mul_right (gW (by omega))).2 hDl.out;rw[←cR]at k1;intro j' hj';exact NU (B:=4294967296) (m:=m+2+(j+1)) (by omega) (by omega) j' (by omega)
   have hwin:=Yq (B:=4294967296) (i:=j) (n:=m) (by omega) hpd hab (by omega);have hWB:val 4294967296 p/4294967296^j<4294967296*val 4294967296 ld:=by
    rw[eW (gW (by omega))];rw[eF]at hplt;have e:val 4294967296 ld*(4294967296^j*4294967296)=4294967296*val 4294967296 ld*4294967296^j:=by grind
    omega
   have hW2:val 4294967296 ((p.drop j).take m)<4294967296^m:=xR (fun d hd=>hpd d (sR hd)) m;have ej:((j+1:Nat):Int)-1=(j:Int):=by omega
   rw[ej];have hor:=zY (dg p (j+(m+2))) (dg p (j+(m+1))) ha2 ha1;generalize dg p (j+(m+2))=a2 at*;generalize dg p (j+(m+1))=a1 at*;generalize dg p (j+m)=a0 at*;have htwo:a2*4294967296+a1<18446744073709551616:=by omega
   obtain⟨two,htwoe⟩:∃two,two=a2*4294967296+a1:=⟨_,rfl⟩;rw[←htwoe]at hor htwo hwin;clear htwoe;obtain⟨W,hWe⟩:∃W,W=val 4294967296 p/4294967296^j:=⟨_,rfl⟩;rw[←hWe]at hwin hWB;have HWe:=bk hWe;clear hWe;have HP:=bk (And.intro hpl (And.intro hql (And.intro hpd (And.intro hqd (And.intro hpv hplt)))));have hwin':=bk hwin;have hW2':=bk hW2;have hWB':=bk hWB;have hab':=bk hab;have hidx2:j+(m+2)<lu.length+1:=by have:=HN.out;omega
   clear hpl hql hpd hqd hpv hplt hidx hab hwin hWB hW2 ej;have hTpos:(0:Int)<(T:Int):=by omega
   obtain⟨g0,hg0e⟩:∃g0,g0=two/T:=⟨_,rfl⟩;obtain⟨l0,hl0e⟩:∃l0,l0=two % T:=⟨_,rfl⟩;have hq1:IntKind.u64.wrap ((two:Int)/(T:Int))=(g0:Int):=by
    rw[hg0e,←kZ];exact IntWalk.u64_in _ ⟨Int.natCast_nonneg _,by have:=Nat.div_le_self two T;omega⟩
   have hq2:(two:Int) % (T:Int)=(l0:Int):=by rw[hl0e,rB]
   have hG0:Hid (W/val 4294967296 ld≤g0):=by
    rw[hg0e];exact Om hDe.out hwin'.out (by omega) ha0 hW2'.out
   have hG1:g0≤4294967297:=by
    rw[hg0e];exact Gk hDe.out hwin'.out hS2 hD2'.out (by omega) (by omega) hWB'.out
   have hGl:Hid (g0*T+l0=two):=by
    unfold Hid;rw[hg0e,hl0e,fp];exact fY two T
   have hl0:l0<4294967296:=by
    have:l0<T:=by rw[hl0e];exact fG _ (by omega)
    omega
   clear hg0e hl0e
   go_wp2
   go_quiet (fail)
   go_wp2
   go_quiet (fail)
   have hpo8:=hpo;have hqo8:=hqo;have hbl8:=jU (jU hbl 0) 0;clear hc2 hc1
   go_upto_block 3 with fail
   go_cut [22] (fun s22 wx=>∃gu:Nat,s22=.int .u64 gu∧Hid (W/val 4294967296 ld≤gu)∧Hid (gu≤W/val 4294967296 ld+1)∧gu≤4294967296∧iX wx wA.heap.size 273 .u32 (.slice (some ⟨g,0,none⟩) (lu.length+1) cap) p∧iX wx wA.heap.size 273 .u32 (.slice (some ⟨gq,0,none⟩) (N+1) (N+1)) qs∧Below wA.heap.size wA wx)
   case first=>
    go_wp2_with fail
    go_loop [22,23] (fun gv lv=>Nb (val 4294967296 ld) W T two gv lv) (fun gv _=>(intOf gv).toNat)
    case atStart=>exact⟨g0,l0,rfl,by rw[hq2],hG0,hG1,hGl,hl0⟩
    case round=>
     clear hG0 hG1 hGl hl0 hq1 hq2;obtain⟨gu,lf,rfl,rfl,hG0,hG1,hGl,hl0⟩:=hrel;by_cases hge:4294967296≤gu
     ·obtain⟨hG0',hgp⟩:=C_ hDe.out hwin'.out hW2'.out hDpos hWB'.out hG0.out hGl.out (.inl hge);have HG0':=bk hG0';clear hG0';have hGl':Hid ((gu-1)*T+(lf+T)=two):=by
       unfold Hid;obtain⟨z,rfl⟩:∃z,gu=z+1:=⟨gu-1,by omega⟩;have:=hGl.out;rw[eD]at this;rw[eI];omega
      have eG:(gu:Int)-1=((gu-1:Nat):Int):=by omega
      have hG1':gu-1≤4294967296:=by omega
      have hgI:decide ((4294967296:Int)≤(gu:Int))=true:=by simp;omega
      by_cases hbr:4294967296≤lf+T
      ·have hhi:Hid (gu-1≤W/val 4294967296 ld+1):=AV hDe.out hwin'.out hD2'.out hDpos hGl'.out hG1' (za hG1' hS2 hbr);have hbI:decide ((4294967296:Int)≤(lf:Int)+(T:Int))=true:=by simp;omega
       have HB1:=bk (And.intro eG hG1');clear hge hbr eG hG1'
       go_wp2
       go_meet
       exact⟨gu-1,dM (Value.int IntKind.u64) HB1.out.1,HG0',hhi,HB1.out.2,hpo8,hqo8,jU hbl _⟩
      ·have hbI:decide ((4294967296:Int)≤(lf:Int)+(T:Int))=false:=by simp;omega
       have HB1:=bk (And.intro eG (And.intro hG1' hbr));clear hge hbr eG hG1'
       go_wp2
       go_round
       case rel=>exact⟨gu-1,lf+T,dM (Value.int IntKind.u64) HB1.out.1,by go_num,HG0',by have:=HB1.out.2.1;omega,hGl',by have:=HB1.out.2.2;omega⟩
       case measure=>simp[intOf];omega
     ·by_cases hcc:lf*4294967296+a0<gu*S
      ·obtain⟨hG0',hgp⟩:=C_ hDe.out hwin'.out hW2'.out hDpos hWB'.out hG0.out hGl.out (.inr hcc);have HG0':=bk hG0';clear hG0';have hGl':Hid ((gu-1)*T+(lf+T)=two):=by
        unfold Hid;obtain⟨z,rfl⟩:∃z,gu=z+1:=⟨gu-1,by omega⟩;have:=hGl.out;rw[eD]at this;rw[eI];omega
       have eG:(gu:Int)-1=((gu-1:Nat):Int):=by omega
       have hG1':gu-1≤4294967296:=by omega
       have hgI:decide ((4294967296:Int)≤(gu:Int))=false:=by simp;omega
       have hor2:=zY lf a0 hl0 ha0;obtain⟨hmx0,hmx1⟩:=zV gu S (by omega) hS2;have hccI:(((lf*4294967296+a0:Nat):Nat):Int)<(gu:Int)*(S:Int):=by rw[←dQ];omega
       have hXb:lf*4294967296+a0<18446744073709551616:=by omega
       obtain⟨X,hXe⟩:∃X,X=lf*4294967296+a0:=⟨_,rfl⟩;rw[←hXe]at hor2 hccI hXb;clear hXe;by_cases hbr:4294967296≤lf+T
       ·have hhi:Hid (gu-1≤W/val 4294967296 ld+1):=AV hDe.out hwin'.out hD2'.out hDpos hGl'.out hG1' (za hG1' hS2 hbr);have hbI:decide ((4294967296:Int)≤(lf:Int)+(T:Int))=true:=by simp;omega
        have HB1:=bk (And.intro eG hG1');clear hge hcc hbr eG hG1'
        go_wp2
        go_meet
        exact⟨gu-1,dM (Value.int IntKind.u64) HB1.out.1,HG0',hhi,HB1.out.2,hpo8,hqo8,jU hbl _⟩
       ·have hbI:decide ((4294967296:Int)≤(lf:Int)+(T:Int))=false:=by simp;omega
        have HB1:=bk (And.intro eG (And.intro hG1' hbr));clear hge hcc hbr eG hG1'
        go_wp2
        go_round
        case rel=>exact⟨gu-1,lf+T,dM (Value.int IntKind.u64) HB1.out.1,by go_num,HG0',by have:=HB1.out.2.1;omega,hGl',by have:=HB1.out.2.2;omega⟩
        case measure=>simp[intOf];omega
      ·have hhi:Hid (gu≤W/val 4294967296 ld+1):=AV hDe.out hwin'.out hD2'.out hDpos hGl.out (by omega) (by omega);have hgI:decide ((4294967296:Int)≤(gu:Int))=false:=by simp;omega
       have hor2:=zY lf a0 hl0 ha0;obtain⟨hmx0,hmx1⟩:=zV gu S (by omega) hS2;have hccI:¬(((lf*4294967296+a0:Nat):Nat):Int)<(gu:Int)*(S:Int):=by rw[←dQ];omega
       have hXb:lf*4294967296+a0<18446744073709551616:=by omega
       obtain⟨X,hXe⟩:∃X,X=lf*4294967296+a0:=⟨_,rfl⟩;rw[←hXe]at hor2 hccI hXb;have HG1:Hid (gu≤4294967296):=by unfold Hid;omega
       clear hXe hge hcc
       go_wp2
       go_meet
       exact⟨gu,rfl,hG0,hhi,HG1.out,hpo8,hqo8,jU hbl _⟩
   case rest=>
    clear hpo hqo hbl hpo8 hqo8 hbl8 hG0 hG1 hGl hl0 hq1 hq2 hc0 hor htwo;obtain⟨gu,rfl,hlo,hhi,hgB,hpo,hqo,hbl⟩:=hcut
    go_wp2
    go_loopw [24,25,171] (fun bv cv kv wr=>RY wA g cap lu.length gq N qs ld p j gu (val 4294967296 p) (m+2) bv cv kv wr) (fun _ _ kv _=>(m+2)-(intOf kv).toNat)
    case atStart=>exact⟨0,p,0,0,rfl,rfl,rfl,by omega,by omega,by omega,hpo,hqo,HP.out.1,HP.out.2.2.1,by unfold Hid;intro _ _;rfl,by unfold Hid;simp[val],hbl⟩
    case round=>
     clear hpo hqo hbl;obtain⟨k,p1,bo,c,rfl,rfl,rfl,hk,hbo,hc,hpo,hqo,hpl,hpd,hps,hpv,hbl⟩:=hrel;by_cases hkn:k<m+2
     ·have hdk:=(hbl.cell (p:=⟨bd,offd+k,none⟩) hbd).trans (hcellA.out k hkn);have hy:dg ld k<4294967296:=jh hv2'.out k;obtain⟨hzc,hzf,_,_⟩:=hpo.slot (j+k) (by have:=hpl.out;omega);have hz:dg p1 (j+k)<4294967296:=jh hpd.out (j+k);have hj2:j+k<lu.length+1:=by omega
      generalize hye:dg ld k=y at*;generalize hze:dg p1 (j+k)=z at*;have HYE:=bk hye;clear hye;have HZE:=bk hze;clear hze;have hgy:gu*y≤18446744069414584320:=by
       have:=aX hgB (show y≤4294967295 by omega);omega
      have hgyI:(gu:Int)*(y:Int)≤18446744069414584320∧0≤(gu:Int)*(y:Int):=by rw[←dQ];omega
      obtain⟨hgy1,hgy2⟩:=hgyI;obtain⟨C,hCe⟩:∃C,C=c+gu*y:=⟨_,rfl⟩;have hCI:(c:Int)+(gu:Int)*(y:Int)=(C:Int):=by rw[hCe,Int.natCast_add,dQ]
      have hCb:C<18446744073709551616:=by omega
      obtain⟨lo,hLe⟩:∃lo,lo=C % 4294967296:=⟨_,rfl⟩;obtain⟨hi,hHe⟩:∃hi,hi=C/4294967296:=⟨_,rfl⟩;have hLI:(C:Int) % 4294967296=(lo:Int):=by omega
      have hHI:(C:Int)/4294967296=(hi:Int):=by omega
      have hlo2:lo<4294967296:=by omega
      have hhi2:hi<4294967296:=by omega
      have HC:=bk (And.intro hCe (And.intro hLe hHe));clear hCe hLe hHe hgy;by_cases hneg:z<lo+bo
      ·have hstep:=Dn (B:=4294967296) (i:=j) (k:=k) (g:=gu) (c:=c) (bo:=bo) (bo':=1) (x':=(z+4294967296-(lo+bo))) (R:=val 4294967296 p) (by have:=hpl.out;omega) HZE.out HYE.out (by rw[←HC.out.1,←HC.out.2.1];omega) hpv.out;rw[←HC.out.1,←HC.out.2.2]at hstep;have HST:=bk hstep;clear hstep;have hps':Hid (∀j',j+(k+1)≤j'→dg (p1.set (j+k) (z+4294967296-(lo+bo))) j'=dg p j'):=fun j' hj'=>by rw[oW];exact hps.out j' (by omega)
       go_wp2
       go_roundw
       case rel=>exact⟨k+1,_,1,hi,rfl,rfl,by go_num,by omega,by omega,hhi2,(hpo.store' (j+k) _ (z+4294967296-(lo+bo)) (by omega)).1,hqo.set_ne (nS hgq) _,by unfold Hid;rw[fx];exact hpl.out,pR hpd.out (by omega),hps',HST.out,hbl.trans (hpo.store' (j+k) _ (z+4294967296-(lo+bo)) (by omega)).2⟩
       case measure=>simp[intOf];omega
      ·have hstep:=Dn (B:=4294967296) (i:=j) (k:=k) (g:=gu) (c:=c) (bo:=bo) (bo':=0) (x':=(z-(lo+bo))) (R:=val 4294967296 p) (by have:=hpl.out;omega) HZE.out HYE.out (by rw[←HC.out.1,←HC.out.2.1];omega) hpv.out;rw[←HC.out.1,←HC.out.2.2]at hstep;have HST:=bk hstep;clear hstep;have hps':Hid (∀j',j+(k+1)≤j'→dg (p1.set (j+k) (z-(lo+bo))) j'=dg p j'):=fun j' hj'=>by rw[oW];exact hps.out j' (by omega)
       go_wp2
       go_roundw
       case rel=>exact⟨k+1,_,0,hi,rfl,rfl,by go_num,by omega,by omega,hhi2,(hpo.store' (j+k) _ (z-(lo+bo)) (by omega)).1,hqo.set_ne (nS hgq) _,by unfold Hid;rw[fx];exact hpl.out,pR hpd.out (by omega),hps',HST.out,hbl.trans (hpo.store' (j+k) _ (z-(lo+bo)) (by omega)).2⟩
       case measure=>simp[intOf];omega
     ·obtain rfl:k=m+2:=by omega
      have hzc:=(hpo.slot (j+(m+2)) (by have:=hpl.out;omega)).1;have hzf:=(hpo.slot (j+(m+2)) (by have:=hpl.out;omega)).2.1;have hz:dg p1 (j+(m+2))<4294967296:=jh hpd.out (j+(m+2));have hqf:=(hqo.slot j (by have:=HP.out.2.1;omega)).2.1;have hqc:=(hqo.slot j (by have:=HP.out.2.1;omega)).1;have hval:=hpv.out;rw[eP _ ld _ (by rw[hdl.out];exact aj _)]at hval;have habp:∀j',j+(m+2)<j'→dg p1 j'=0:=fun j' hj'=>by rw[hps.out j' (by omega)];exact hab'.out j' hj'
      have hj3:j<N+1:=by omega
      obtain⟨zt,hze⟩:∃zt,zt=dg p1 (j+(m+2)):=⟨_,rfl⟩;rw[←hze]at hzc hz;have HWlt:W/val 4294967296 ld<4294967296:=by rw[eW hDpos];exact hWB'.out
      have hBj:0<4294967296^j:=gW (by omega);by_cases hfit:c+bo≤zt
      ·have hfits:=Mn (B:=4294967296) (i:=j) (n:=m+2) (by have:=hpl.out;omega) hze.symm hfit hval;have hdone:=vZ (B:=4294967296) (i:=j) hDpos hBj (by rw[←HWe.out];exact hlo.out) hfits;have hgu32:gu<4294967296:=by rw[hdone.1,←HWe.out];exact HWlt
       have hput:=Kh (B:=4294967296) (j:=j) (g:=gu) (by rw[HP.out.2.1];omega) hfits HP.out.2.2.2.2.1;have HF:=bk (And.intro hfit (And.intro hput (And.intro hdone.2 hgu32)));have hge0:¬((zt:Int)-(c:Int)-(bo:Int)<0):=by omega
       have hgI:IntKind.u32.wrap (gu:Int)=(gu:Int):=by
        rw[g9];omega
       clear hval habp hze HWlt hfits hdone hput hfit hgu32 hlt hkn
       go_wp2
       go_roundw
       case rel=>
        refine⟨j,by omega,rfl,p1.set (j+(m+2)) (zt-(c+bo)),qs.set j gu,((hpo.store' (j+(m+2)) _ (zt-(c+bo)) (by have:=HF.out.1;omega)).1).set_ne (Nat.ne_of_lt hgq) _,((hqo.set_ne (nS hgq) _).store' j _ gu rfl).1,by rw[fx];exact hpl.out,by rw[fx];exact HP.out.2.1,pR hpd.out (by omega),pR HP.out.2.2.2.1 HF.out.2.2.2,HF.out.2.1,HF.out.2.2.1,?_⟩;exact(hbl.trans (hpo.store' (j+(m+2)) _ (zt-(c+bo)) (by have:=HF.out.1;omega)).2).trans ((hqo.set_ne (nS hgq) _).store' j _ gu rfl).2
       case measure=>simp[intOf]
      ·have hover:=Mp (B:=4294967296) (j:=j) (M:=j+(m+2)) (by omega) hpd.out hze.symm (show zt<c+bo by omega) habp hDpos hval;rw[←HWe.out]at hover;have hge1:1≤gu:=iN (aH _) hover;have hgq1:W/val 4294967296 ld=gu-1:=by have:=hhi.out;generalize W/val 4294967296 ld=qq at*;omega
       have hless:=Mo (B:=4294967296) (i:=j) (n:=m+2) (by have:=hpl.out;omega) hze.symm (show zt<c+bo by omega) (show c+bo≤zt+4294967296 by omega) hval;have hlt0:((zt:Int)-(c:Int)-(bo:Int)<0):=by omega
       have HL:=bk (And.intro hless (And.intro hgq1 hfit));have HAB:=bk habp;clear hval habp hze HWlt hover hgq1 hless hfit hkn;have hst:=hpo.store' (j+(m+2)) (((zt:Int)-(c:Int)-(bo:Int)) % 4294967296) (zt+4294967296-(c+bo)) (by have:=HL.out.2.2;omega);have hqo':=hqo.set_ne (a:=⟨g,j+(m+2),none⟩) (nS hgq) (.int .u32 (((zt:Int)-(c:Int)-(bo:Int)) % 4294967296));have hbl':=hbl.trans hst.2
       go_wp2
       clear hzc hzf hqc hqf;generalize(wr.setCell ⟨g,j+(m+2),none⟩ (.int .u32 (((zt:Int)-(c:Int)-(bo:Int)) % 4294967296)))=wq at*;have hpo2:=hst.1;clear hst hpo hqo hbl;have hpl2:Hid ((p1.set (j+(m+2)) (zt+4294967296-(c+bo))).length=lu.length+1):=by unfold Hid;rw[fx];exact hpl.out
       have hpd2:Hid (∀d∈p1.set (j+(m+2)) (zt+4294967296-(c+bo)),d<4294967296):=pR hpd.out (by have:=HL.out.2.2;omega);have hps2:Hid (∀j',j+(m+2)<j'→dg (p1.set (j+(m+2)) (zt+4294967296-(c+bo))) j'=0):=fun j' hj'=>by rw[oW];exact HAB.out j' hj'
       generalize p1.set (j+(m+2)) (zt+4294967296-(c+bo))=p2 at*;clear hpl hpd hps hpv
       go_loopw [29,234] (fun sv kv wr=>RV wA g cap lu.length gq N qs ld p2 j (val 4294967296 p2) (m+2) sv kv wr) (fun _ kv _=>(m+2)-(intOf kv).toNat)
       case atStart=>exact⟨0,p2,0,rfl,rfl,by omega,by omega,hpo2,hqo',hpl2,hpd2,by unfold Hid;intro _ _;rfl,by unfold Hid;simp[val],hbl'⟩
       case round=>
        clear hpo2 hqo' hbl';obtain⟨k,p3,sm,rfl,rfl,hk,hsm,hpo,hqo,hpl,hpd,hps,hpv,hbl⟩:=hrel;by_cases hkn:k<m+2
        ·have hdk:=(hbl.cell (p:=⟨bd,offd+k,none⟩) hbd).trans (hcellA.out k hkn);have hy:dg ld k<4294967296:=jh hv2'.out k;have hzc:=(hpo.slot (j+k) (by have:=hpl.out;omega)).1;have hzf:=(hpo.slot (j+k) (by have:=hpl.out;omega)).2.1;have hz:dg p3 (j+k)<4294967296:=jh hpd.out (j+k);have hj2:j+k<lu.length+1:=by omega
         have hstep:=LB (B:=4294967296) (i:=j) (k:=k) (c:=sm) (by have:=hpl.out;omega) rfl rfl hpv.out;generalize dg ld k=y at*;generalize dg p3 (j+k)=z at*;obtain⟨C,hCe⟩:∃C,C=sm+(z+y):=⟨_,rfl⟩;rw[←hCe]at hstep;have hCI:(sm:Int)+((z:Int)+(y:Int))=(C:Int):=by omega
         have hCb:C<8589934592:=by omega
         have HST:=bk hstep;clear hstep hCe;have hps':Hid (∀j',j+(k+1)≤j'→dg (p3.set (j+k) (C % 4294967296)) j'=dg p2 j'):=fun j' hj'=>by rw[oW];exact hps.out j' (by omega)
         go_wp2
         go_quiet (fail)
         go_wp2
         have hpoD:iX (wr.drewN nq) wA.heap.size 273 .u32 (.slice (some ⟨g,0,none⟩) (lu.length+1) cap) p3:=hpo;have hqoD:iX (wr.drewN nq) wA.heap.size 273 .u32 (.slice (some ⟨gq,0,none⟩) (N+1) (N+1)) qs:=hqo
         go_roundw
         case rel=>exact⟨k+1,_,C/4294967296,rfl,by go_num,by omega,by omega,(hpoD.store' (j+k) _ (C % 4294967296) rfl).1,hqoD.set_ne (nS hgq) _,by unfold Hid;rw[fx];exact hpl.out,pR hpd.out (by omega),hps',HST.out,(jU hbl nq).trans (hpoD.store' (j+k) _ (C % 4294967296) rfl).2⟩
         case measure=>simp[intOf];omega
        ·obtain rfl:k=m+2:=by omega
         have hval:=hpv.out;rw[eP _ ld _ (by rw[hdl.out];exact aj _)]at hval;have hDM:val 4294967296 ld*4294967296^j≤4294967296^(j+(m+2)):=by
          rw[Nat.add_comm j,cR];exact cj _ (gg hDl.out)
         obtain⟨TT,hT1,hT2',hT3⟩:=VX (B:=4294967296) (j:=j) (M:=j+(m+2)) (g:=gu-1) (R:=val 4294967296 p) (V:=val 4294967296 p2) (by omega) hDpos hDM (by rw[←HWe.out];exact HL.out.2.1) (by rw[gP hge1];exact HL.out.1) hval;obtain⟨hz3,hfin⟩:=Nz (B:=4294967296) (m:=j+(m+2)) (by omega) (by have:=hpl.out;omega) hpd.out rfl (fun j' hj'=>by rw[hps.out j' (by omega)];exact hps2.out j' hj') hT2' hT1;have hdone:=vZ (B:=4294967296) (i:=j) (g:=gu-1) (V:=TT) hDpos hBj (by rw[←HWe.out];exact Nat.le_of_eq HL.out.2.1) hT3;have hgu32:gu-1<4294967296:=by omega
         rw[←hfin]at hT3 hdone;have hput:=Kh (B:=4294967296) (j:=j) (g:=gu-1) (by rw[HP.out.2.1];omega) hT3 HP.out.2.2.2.2.1;have HF:=bk (And.intro hput (And.intro hdone.2 hgu32));have hzc:=(hpo.slot (j+(m+2)) (by have:=hpl.out;omega)).1;have hzf:=(hpo.slot (j+(m+2)) (by have:=hpl.out;omega)).2.1;have hqf:=(hqo.slot j (by have:=HP.out.2.1;omega)).2.1;have hqc:=(hqo.slot j (by have:=HP.out.2.1;omega)).1;obtain⟨z3,hz3e⟩:∃z3,z3=dg p3 (j+(m+2)):=⟨_,rfl⟩;rw[←hz3e]at hzc hz3;have hw3:IntKind.u32.wrap ((z3:Int)+(sm:Int))=0:=by rw[g9];omega
         have hw4:IntKind.u32.wrap ((gu:Int)-1)=((gu-1:Nat):Int):=by rw[g9];omega
         have hw5:((gu:Int)-1) % 4294967296=((gu-1:Nat):Int):=by omega
         have hj3:j<N+1:=by omega
         obtain⟨gm,hgm⟩:∃gm,gm=gu-1:=⟨_,rfl⟩;rw[←hgm]at HF hw4 hw5;clear hval hDM hT1 hT2' hT3 hz3 hfin hdone hgu32 hput hz3e hgm hkn hlt
         go_wp2
         go_roundw
         case rel=>
          refine⟨j,by omega,rfl,p3.set (j+(m+2)) 0,qs.set j gm,((hpo.store' (j+(m+2)) 0 0 rfl).1).set_ne (Nat.ne_of_lt hgq) _,((hqo.set_ne (nS hgq) _).store' j _ gm (by first|rfl|omega)).1,by rw[fx];exact hpl.out,by rw[fx];exact HP.out.2.1,pR hpd.out (by omega),pR HP.out.2.2.2.1 HF.out.2.2,HF.out.1,HF.out.2.1,?_⟩;exact(hbl.trans (hpo.store' (j+(m+2)) 0 0 rfl).2).trans ((hqo.set_ne (nS hgq) _).store' j _ gm (by first|rfl|omega)).2
         case measure=>simp[intOf]
  ·obtain rfl:k=0:=by omega
   obtain⟨p,qs,hpo,hqo,hpl,hql,hpd,hqd,hpv,hplt,hbl⟩:=hinv;rw[h_,Nat.pow_zero,ly]at hpv;rw[Nat.pow_zero,fE]at hplt;have hv3y:=hv3'.out;rw[HY.out]at hv3y;rw[hv3y]at hpv hplt;rw[hu4]at hpv;have hy0:0<y:=by
    apply Nat.pos_of_ne_zero;intro h0;rw[h0,qD]at hplt;omega
   obtain⟨hqq,hpp⟩:=Gb (gW (by omega)) hy0 hpv hplt;have HQ:=bk (And.intro hqq hpp);have hpi:=hpo.intsAt;have hqi:=hqo.intsAt;have hpd':=bk hpd;have hqd':=bk hqd;have hwr:Below w.heap.size w wr:=hwA.trans (hbl.mono hwA.size);have G3:=bG hbl F3;have G4:=bG hbl F4;have hLs':lu.length+1≤1000000000000:=by omega
   have hws:=hbl.size;have hwsA:=hwA.size;have hwA4:w.heap.size+1+1+1<wA.heap.size:=rR F4;clear hqq hpp hpv hplt hpd hqd hpl hql hpo hqo hv3y hk hlt hbl
   go_wp2_with (first
    |(go_at_call 245;(with_reducible refine(lg hpi hpd'.out).mono ?_);rintro e w9 ⟨t,rfl,ht,htn,hb9⟩;have htn':t.n≤1000000000000:=aP htn hLs')
    |(go_at_call 251;(with_reducible refine(C3 sh ht htn').mono ?_);rintro e w10 ⟨v,rfl,hv,hvn,hb10⟩))
   have hb910:=hb9.trans (hb10.mono hb9.size);have hbB:Below w10.heap.size w10 (w10.alloc (.cells #[.slice v.ao v.n v.c] 110)):=(bD _ _).alloc (aj _) _;have hV31:=lD w10 (.cells #[.slice v.ao v.n v.c] 110);have hqi2:=((hqi.up hb910).up hbB);have H3:=bG hbB (bG hb910 G3);have H4:=bG hbB (bG hb910 G4);have hv2:=hv.up hbB;have hwW:Below w.heap.size w (w10.alloc (.cells #[.slice v.ao v.n v.c] 110)):=(hwr.trans (hb910.mono hwr.size)).trans (hbB.mono (by have:=hwr.size;have:=hb910.size;omega));have hsz1:=hwW.size;have hW10:w.heap.size+1+1+1<w10.heap.size:=by have:=hb9.size;have:=hb10.size;omega
   have hcell31:=bW hV31 0;generalize hWd:w10.alloc (.cells #[.slice v.ao v.n v.c] 110)=W0 at*;clear hWd hqi hv hb9 hb10 hb910 hbB G3 G4 hwr
   go_region_held3 (fun w'=>w'.cell? ⟨w10.heap.size,0,none⟩=some (.slice v.ao v.n v.c))
    (first|exact hcell31|exact(bW (bG hb11 hV31) 0)|(rw[World.cell?_setCell_far _ _ _ _ (by simp;omega)];exact(bW (bG hb11 hV31) 0))|(rw[World.cell?_setCell_far _ _ _ _ (by simp;omega),World.cell?_setCell_far _ _ _ _ (by simp;omega)];exact(bW (bG hb11 hV31) 0)))
    (first|(go_at_call 245;refine(lg (w:=W0.drew) hqi2 hqd'.out).mono ?_;rintro e w11 ⟨u9,rfl,hu9,hun9,hb11'⟩;have hb11:=l_ hb11';have hK3:=bG hb11 H3;have hK4:=bG hb11 H4;have hR3:=bW hK3 0;have hR4:=bW hK4 0;have hF3:=dY hK3 0;have hF4:=dY hK4 0))
   go_wp2
   refine ff (v:=.tuple #[.agg #[.slice u9.ao u9.n u9.c],.agg #[.slice v.ao v.n v.c],.int .i64 0]) (by simp[results,Tryz.results199,go_sem,hR3,hR4]) rfl ⟨u9,v,rfl,?_,?_,?_⟩
   ·rw[HQ.out.1]at hu9;exact(hu9.kp ((Kp.refl _).setCell hK3 (by decide) _)).kp ((Kp.refl _).setCell (cG hK4 (by simp) _) (by decide) _)
   ·rw[HQ.out.2]at hv2;exact((hv2.up hb11).kp ((Kp.refl _).setCell hK3 (by decide) _)).kp ((Kp.refl _).setCell (cG hK4 (by simp) _) (by decide) _)
   ·exact(((hwW.trans (hb11.mono hsz1)).setCell (by simp;omega) _).setCell (by simp;omega) _)
end Go.Proofs.YtgaaopjagcaojaaGreat
