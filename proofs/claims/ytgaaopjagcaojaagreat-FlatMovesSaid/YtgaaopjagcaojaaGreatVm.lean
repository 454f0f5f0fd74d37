import Derived.Test.YtgaaopjagcaojaaGreatAa
import Derived.Orders
import Derived.Below
import Derived.Laws.CopyRow
import Derived.Laws.Tables
import Derived.Laws.Cells
import Derived.Great.BuildSlice
import Derived.LoopN
import Derived.Laws.AppendOwn
import Derived.ArgAppend
import Derived.Scope
set_option linter.unusedSimpArgs false
set_option linter.unusedVariables false
namespace Go.Proofs.YtgaaopjagcaojaaGreat
open Go.RowKit
abbrev bu:=@Go.Result.andThen_ok
abbrev bD:=@Go.RowKit.Below.refl
abbrev cB:=@Go.Sem.run_bind
abbrev cM:=@Go.run_underlying
abbrev dT:=@Go.Sem.run_pure
abbrev jd:=@Go.execOp_congr
abbrev kB:=@Go.RowKit.Below.heap_alloc
abbrev oK:=@Go.setRow_other
abbrev gd:=Nat→Prop
structure aC where
 p:gd→World→Prop
 up:∀{I I':gd} {w w':World},p I w→(∀b,b<w.heap.size→I b→I' b)→(∀b,b<w.heap.size→I b→w'.heap[b]? =w.heap[b]?)→w.heap.size≤w'.heap.size→p I' w'
def aD(Γ:List aC)(I:gd)(w:World):Prop:=∀F∈Γ,F.p I w
theorem aD.nil(I:gd)(w:World):aD [] I w:=fun _ h=>absurd h (by simp)
theorem aD.cons{F:aC}{Γ:List aC}{I:gd}{w:World}(h:F.p I w)(h':aD Γ I w):aD (F::Γ) I w:=fun G hG=>by
 rcases List.mem_cons.1 hG with rfl|hG
 ·exact h
 ·exact h' _ hG
theorem aD.append{Γ Δ:List aC}{I:gd}{w:World}(h:aD Γ I w)(h':aD Δ I w):aD (Γ++Δ) I w:=fun F hF=>(List.mem_append.1 hF).elim (h F) (h' F)
theorem aD.sub{Γ Δ:List aC}{I:gd}{w:World}(h:aD Γ I w)(hs:∀F∈Δ,F∈Γ):aD Δ I w:=fun F hF=>h F (hs F hF)
theorem aD.up{Γ:List aC}{I I':gd}{w w':World}(h:aD Γ I w)(h1:∀b,b<w.heap.size→I b→I' b)(h2:∀b,b<w.heap.size→I b→w'.heap[b]? =w.heap[b]?)(h3:w.heap.size≤w'.heap.size):aD Γ I' w':=
 fun F hF=>F.up (h F hF) h1 h2 h3
structure Ty where
 size:Nat
 agg:Bool
 zero:Value
 fields:List (Nat×Nat×Bool)
 isStruct:Bool
 isBool:Bool
 ikind:Option IntKind
 kind:Nat
 esize:Nat
 ezero:List Value
 elem:Nat
 ebytes:Nat
 alen:Nat
def Df:TypeDesc→Nat
 | .string=>2
 | .slice _=>3
 | .array _ _=>4
 |_=>0
def FA:TypeDesc→Bool
 | .struct _=>true
 | .array _ _=>true
 |_=>false
def TQ(P:Program)(t:TypeId):Option Ty:=
 match P.info? t,P.underlying t with
 |some i,some d=>
  match i.zero with
  |some z=>some ⟨i.size,FA d,z,
    (match d with
     | .struct fs=>fs.toList.map fun f=>(f.offset,(((P.info? f.type).map (·.size)).getD 0,((P.underlying f.type).map FA).getD false))
     |_=>[]),
    (match d with| .struct _=>true|_=>false),(match d with| .bool=>true|_=>false),(match d with| .int k=>some k|_=>none),Df d,(match d with| .slice e=>((P.info? e).map (·.size)).getD 0| .array _ e=>((P.info? e).map (·.size)).getD 0|_=>0),(match d with| .slice e=>(((P.info? e).bind (·.zero)).map (·.cells.toList)).getD []|_=>[]),
    (match d with| .slice e=>e| .array _ e=>e|_=>0),(match d with| .slice e=>((P.info? e).map (·.bytes)).getD 0|_=>0),(match d with| .array n _=>n|_=>0)⟩
  |none=>none
 |_,_=>none
structure Tb where
 ty:List (Nat×Ty)
 data:List Nat
 hand:Bool:=false
 calm:Nat→Bool:=fun _=>false
 cloc:Bool:=false
 pins:List Nat:=[]
 held:List (Nat×Value)→List (Nat×List Value)→Prop:=fun _ _=>True
 pan:List PanicEntry→Prop:=fun _=>False
def look{α:Type}(t:Nat):List (Nat×α)→Option α
 | []=>none
 |(u,y)::r=>bif Nat.beq u t then some y else look t r
def lI(t:Nat):List Nat→Bool
 | []=>false
 |u::r=>bif Nat.beq u t then true else lI t r
def Tb.cloq(T:Tb)(f:Nat)(o:Option (List Value)):Option (List Value):=bif T.cloc&& !T.calm f then none else o
theorem wL{T:Tb}{f:Nat}{o:Option (List Value)}{v:List Value}(h:T.cloq f o=some v):o=some v∧(T.cloc=true→T.calm f=true):=by
 unfold Tb.cloq at h;cases hc:T.cloc<;>cases hd:T.calm f<;>simp[hc,hd]at h⊢ <;>exact h
def Tb.get(T:Tb)(t:Nat):Option Ty:=look t T.ty
def Tb.dat(T:Tb)(t:Nat):Bool:=lI t T.data
structure Tb.Ok(T:Tb)(P:Program):Prop where
 mixed:P.follows .mixedOrders=true
 ty:∀t y,T.get t=some y→TQ P t=some y
theorem GN{α:Type}{t:Nat}{y:α}:∀{l:List (Nat×α)},look t l=some y→(t,y)∈l
 | [],h=>by simp[look]at h
 |(u,z)::r,h=>by
  unfold look at h;cases hb:Nat.beq u t with
  |true=>
   have:=aI hb;subst this;simp[hb]at h;simp[h]
  |false=>
   simp only[hb,cK]at h;exact cQ _ (GN h)
theorem Nk{T:Tb}{P:Program}(hm:P.follows .mixedOrders=true:=by kernel_rfl)(h:T.ty.map (fun e=>TQ P e.1)=T.ty.map (fun e=>some e.2):=by kernel_rfl):T.Ok P:=by
 refine⟨hm,fun t y ht=>?_⟩;have lV:=GN ht;have:=List.map_inj_left.1 h (t,y) lV;exact this
def bj(T:Tb)(I:gd)(w:World):Prop:=∀b cs e f,w.heap[b]? =some (Obj.cells cs e f)→T.dat e=true→I b
inductive SV where
 |val (v:Value)
 |ptr (t off:Nat)
 |junk
structure VS where
 tmps:List SV
 boxes:List (Option (List Value))
 own:List (Nat×List Value)
 maps:List (Nat×List (Value×Value))
def VS.ev(s:VS):Operand→SV
 | .tmp t=>s.tmps.getD t .junk
 | .const v=>.val v
 | .global g=>.val (.pointer (some ⟨g,0,none⟩))
 | .func f=>.val (.func (.func f) #[] #[])
def SV.val?:SV→Option Value
 | .val v=>some v
 |_=>none
def VS.rho(s:VS)(x:Operand):Value:=((s.ev x).val?).getD undef
def VS.known(s:VS):List Operand→Bool
 | []=>true
 |x::r=>match s.ev x with
  | .val _=>s.known r
  |_=>false
def VS.vals(s:VS):List Operand→Option (List Value)
 | []=>some []
 |x::r=>match s.ev x,s.vals r with
  | .val v,some vs=>some (v::vs)
  |_,_=>none
def VS.parts(s:VS):List (Nat×Operand)→Option (List (Nat×Value))
 | []=>some []
 |(i,x)::r=>match s.ev x,s.parts r with
  | .val v,some vs=>some ((i,v)::vs)
  |_,_=>none
def VS.put(s:VS)(d:Option Tmp)(v:SV):VS:=
 match d with
 |some t=>{s with tmps:=s.tmps.set t v}
 |none=>s
inductive VR where
 |val (v:SV)
 |new (cs:List Value)
 |upd (t:Nat) (cs:List Value)
 |read
 |ask
 |own
 |call (f:FuncId) (args:List Value)
 |stuck
def Yl(T:Tb)(op:BinOp)(ty:TypeId)(x y:Value):Option Value:=
 match x,y with
 | .int k a,.int k' b=>
  if k=k' then
   match op with
   | .add=>some (.int k (k.wrap (a+b)))
   | .sub=>some (.int k (k.wrap (a-b)))
   | .mul=>some (.int k (k.wrap (a*b)))
   | .and=>some (.int k (Go.bits .and k a b))
   | .or=>some (.int k (Go.bits .or k a b))
   | .xor=>some (.int k (Go.bits .xor k a b))
   | .eql=>some (.bool (a==b))
   | .neq=>some (.bool (a != b))
   | .lss=>some (.bool (decide (a<b)))
   | .leq=>some (.bool (decide (a≤b)))
   | .gtr=>some (.bool (decide (a>b)))
   | .geq=>some (.bool (decide (a≥b)))
   |_=>none
  else none
 | .string a,.string b=>
  match op with
  | .eql=>some (.bool (a.toList==b.toList))
  | .neq=>some (.bool (!(a.toList==b.toList)))
  |_=>none
 | .bool a,.bool b=>
  match op,T.get ty with
  | .eql,some t=>bif t.isBool then some (.bool (a==b))else none
  | .neq,some t=>bif t.isBool then some (.bool (!(a==b)))else none
  |_,_=>none
 |_,_=>none
def vun(op:UnOp)(x:Value):Option Value:=
 match op,x with
 | .neg,.int k n=>some (.int k (k.wrap (0-n)))
 | .not,.bool b=>some (.bool !b)
 |_,_=>none
def Rl(T:Tb)(dst:TypeId)(x:Value):Option Value:=
 match T.get dst,x with
 |some y,.int _ n=>match y.ikind with
  |some k=>some (.int k (k.wrap n))
  |none=>none
 |_,_=>none
def AE:List Value→Bool
 | []=>true
 |v::r=>v.oneCell'&&AE r
def Rp(T:Tb)(t:TypeId)(cs:List Value)(off:Nat):Option Value:=
 match T.get t with
 |some y=>bif y.agg then some (.agg ((cs.drop off).take y.size).toArray)else cs[off]?
 |none=>none
def Vo(n:Int)(m:Nat):Bool:=match n with
 | .ofNat k=>Nat.blt k m
 | .negSucc _=>false
def yU(T:Tb)(s:VS)(ty:TypeId)(x i:Operand):Option Value:=
 match s.ev x,s.ev i,T.get ty with
 | .val (.agg cs),.val (.int _ n),some y=>bif (Nat.beq y.kind 4&&Vo n y.alen)then Rp T y.elem cs.toList (n.toNat*y.esize)else none
 |_,_,_=>none
def xV(T:Tb)(s:VS)(ty:TypeId)(i:Operand)(b off:Nat):Option SV:=
 match s.ev i,T.get ty with
 | .val (.int _ n),some y=>bif (Nat.beq y.kind 4&&(Vo n y.alen&& !Nat.beq y.esize 0))then some (.ptr b (off+n.toNat*y.esize))else none
 |_,_=>none
def Fg(y:Ty)(i:Nat):Option (Nat×Nat):=bif y.isStruct then(y.fields[i]?).map fun f=>(f.1,f.2.1)else some (i*y.esize,y.esize)
def xT(y:Ty):Bool:=bif y.isStruct then y.fields.all fun f=> !Nat.beq f.2.1 0 else(Nat.beq y.kind 4&& !Nat.beq y.esize 0)
def Ke(T:Tb)(src dst:TypeId):Bool:=match T.get src,T.get dst with
 |some a,some b=>Nat.beq a.kind 2&&Nat.beq b.kind 3
 |_,_=>false
def gp(T:Tb)(o:Oper)(s:VS):VR:=
 match o.op with
 | .move x=>.val (s.ev x)
 | .assign x=>.val (s.ev x)
 | .pick c x y=>match s.ev c with
  | .val (.bool b)=>.val (bif b then s.ev x else s.ev y)
  |_=>.stuck
 | .alloc e=>match T.get e with
  |some y=>bif T.dat e then .stuck else .new y.zero.cells.toList
  |none=>.stuck
 | .box e x=>match s.ev x with
  | .val v=>bif T.dat e then .stuck else .new v.cells.toList
  |_=>.stuck
 | .load t x=>match s.ev x with
  | .ptr b off=>match T.get t,s.boxes.getD b none with
   |some y,some cs=>
    bif y.agg then(bif Nat.ble (off+y.size) cs.length then .val (.val (.agg ((cs.drop off).take y.size).toArray))else .stuck)
    else match cs[off]? with
     |some v=>.val (.val v)
     |none=>.stuck
   |_,_=>.stuck
  | .val _=>.read
  | .junk=>.stuck
 | .store t x v=>match s.ev x,s.ev v with
  | .ptr b off,.val u=>match T.get t,s.boxes.getD b none with
   |some y,some cs=>
    bif (Nat.beq u.cells.size y.size&&(Nat.ble (off+y.size) cs.length&&AE u.cells.toList))then .upd b (cs.take off++u.cells.toList++cs.drop (off+y.size))else .stuck
   |_,_=>.stuck
  | .val _,.val _=>.own
  |_,_=>.stuck
 | .fieldAddr ty x f=>match s.ev x with
  | .ptr b off=>match T.get ty with
   |some y=>match y.fields[f]? with
    |some (o,sz,_)=>bif Nat.beq sz 0 then .stuck else .val (.ptr b (off+o))
    |none=>.stuck
   |none=>.stuck
  | .val _=>.read
  | .junk=>.stuck
 | .extract x i=>match s.ev x with
  | .val (.tuple vs)=>match vs[i]? with
   |some v=>.val (.val v)
   |none=>.stuck
  |_=>.stuck
 | .build ty ps=>match s.parts ps.toList,T.get ty with
  |some vs,some y=>bif xT y then(match Instr.fill (Fg y) y.zero.cells vs with
   |some cs=>.val (.val (.agg cs))
   |none=>.stuck)else .stuck
  |_,_=>.stuck
 | .binOp op ty x y _=>match s.ev x,s.ev y with
  | .val a,.val b=>match Yl T op ty a b with
   |some v=>.val (.val v)
   |none=>.read
  |_,_=>.stuck
 | .unOp op _ x=>match s.ev x with
  | .val a=>match vun op a with
   |some v=>.val (.val v)
   |none=>.read
  |_=>.stuck
 | .convert src dst x=>match s.ev x with
  | .val a=>match Rl T dst a,T.get src with
   |some v,some _=>.val (.val v)
   |none,some _=>bif Ke T src dst then .ask else .read
   |_,none=>.stuck
  |_=>.stuck
 | .field .. =>bif s.known o.op.operands.toList then .read else .stuck
 | .buildSlice _ _ _=>bif s.known o.op.operands.toList then .ask else .stuck
 | .index ty x i=>match yU T s ty x i with
  |some v=>.val (.val v)
  |none=>bif s.known o.op.operands.toList then .read else .stuck
 | .indexAddr ty x i=>match s.ev x with
  | .ptr b off=>match xV T s ty i b off with
   |some v=>.val v
   |none=>.stuck
  |_=>bif s.known o.op.operands.toList then .read else .stuck
 | .slice .. =>bif s.known o.op.operands.toList then .read else .stuck
 | .makeSlice _ _ _=>bif s.known o.op.operands.toList then .own else .stuck
 | .call c=>match c.callee with
  | .value (.func f)=>match s.vals c.args.toList with
   |some vs=>.call f vs
   |none=>.stuck
  | .value x=>match s.ev x with
   | .val (.func (.func f) a b)=>match T.cloq f (s.vals c.args.toList)with
    |some vs=>.call f (a.toList++vs++b.toList)
    |none=>.stuck
   |_=>.stuck
  | .builtin .append=>bif s.known o.op.operands.toList then .own else .stuck
  | .builtin .copy=>bif s.known o.op.operands.toList then .own else .stuck
  | .builtin .max=>bif s.known o.op.operands.toList then .read else .stuck
  | .builtin .min=>bif s.known o.op.operands.toList then .read else .stuck
  | .builtin .len=>match(c.argTypes[0]?).bind T.get,c.args[0]? with
   |some y,some x=>match s.ev x with
    | .val (.string b)=>bif Nat.beq y.kind 2 then .val (.val (.int .i64 (b.size:Nat)))else .stuck
    | .val (.slice _ n _)=>bif Nat.beq y.kind 3 then .val (.val (.int .i64 (n:Nat)))else .stuck
    |_=>.stuck
   |_,_=>.stuck
  |_=>.stuck
 | .makeFunc fn a b=>match fn,s.vals a.toList,s.vals b.toList with
  | .func f,some u,some v=>.val (.val (.func (.func f) u.toArray v.toArray))
  |_,_,_=>.stuck
 | .sliceToArrayPointer _ _=>bif s.known o.op.operands.toList then .read else .stuck
 | .makeMap _ _=>bif s.known o.op.operands.toList then .own else .stuck
 | .lookup _ _ _ _=>bif s.known o.op.operands.toList then .own else .stuck
 | .mapUpdate _ _ _ _=>bif s.known o.op.operands.toList then .own else .stuck
 | .makeInterface _ _=>bif s.known o.op.operands.toList then .read else .stuck
 | .nilCheck x=>match s.ev x with
  | .ptr b off=>.val (.ptr b off)
  | .val (.pointer (some a))=>.val (.val (.pointer (some a)))
  |_=>.stuck
 |_=>.stuck
def rel(ρ:Nat→Nat):SV→Value→Prop
 | .val v,x=>x=v
 | .ptr t off,x=>x=.pointer (some ⟨ρ t,off,none⟩)
 | .junk,_=>True
def VS.wf(s:VS):Prop:=∀(i t off:Nat),s.tmps[i]? =some (.ptr t off)→∃cs,s.boxes[t]? =some (some cs)
structure MY where
 r:gd
 x:gd
 ds:List Deferred
structure ka(X:gd)(w w':World):Prop where
 os:w'.os=w.os
 tape:w'.tape=w.tape
 output:w'.output=w.output
 size:w.heap.size≤w'.heap.size
 block:∀k,k<w.heap.size→¬X k→w'.heap[k]? =w.heap[k]?
theorem ka.refl(X:gd)(w:World):ka X w w:=⟨rfl,rfl,rfl,aj _,fun _ _ _=>rfl⟩
theorem ka.of{w w':World}(h:Below w.heap.size w w')(X:gd):ka X w w':=⟨h.os,h.tape,h.output,h.size,fun k hk _=>h.block k hk⟩
theorem ka.below{w w':World}(h:ka (fun _=>False) w w'):Below w.heap.size w w':=⟨h.os,h.tape,h.output,h.size,fun k hk=>h.block k hk (fun h=>h)⟩
theorem ka.then{X:gd}{a b c:World}(h:ka X a b)(g:Below 0 b c)(hk:∀k,k<a.heap.size→¬X k→c.heap[k]? =b.heap[k]?):ka X a c:=
 ⟨g.os.trans h.os,g.tape.trans h.tape,g.output.trans h.output,aP h.size g.size,fun k h1 h2=>(hk k h1 h2).trans (h.block k h1 h2)⟩
theorem ka.trans{X:gd}{a b c:World}(h:ka X a b)(g:Below b.heap.size b c):ka X a c:=
 h.then (g.mono (aH _)) (fun k h1 _=>g.block k (cN h1 h.size))
def vA(M:List (Nat×List (Value×Value)))(w:World):Prop:=∀b m,(b,m)∈M→∃IV clock,w.heap[b]? =some (Obj.map IV clock)∧IV.toList.map (fun e=>(e.key,e.val))=m
def Vx(w0:World)(I0:MY)(ρ:Nat→Nat)(s:VS):gd:=fun b=>(b<w0.heap.size→I0.r b∨I0.x b)∧(∀t cs,s.boxes[t]? =some (some cs)→b≠ρ t)∧(∀cs,(b,cs)∉s.own)∧∀m,(b,m)∉s.maps
def gB(T:Tb)(O:List (Nat×List Value))(w:World):Prop:=∀b cs,(b,cs)∈O→∃e,T.dat e=false∧w.heap[b]? =some (Obj.cells cs.toArray e (0,0))
structure iq(T:Tb)(w0:World)(I0:MY)(Γ:List aC)(s:VS)(a:Act)(w:World)(ρ:Nat→Nat):Prop where
 defers:a.defers=I0.ds
 len:a.tmps.size=s.tmps.length
 tmps:∀i sv,s.tmps[i]? =some sv→rel ρ sv (a.tmps.getD i undef)
 below:ka I0.x w0 w
 box:∀t cs,s.boxes[t]? =some (some cs)→w0.heap.size≤ρ t∧∃e,T.dat e=false∧w.heap[ρ t]? =some (.cells cs.toArray e (0,0))
 inj:∀t u cs cs',s.boxes[t]? =some (some cs)→s.boxes[u]? =some (some cs')→ρ t=ρ u→t=u
 wf:s.wf
 data:bj T I0.r w0
 facts:aD Γ (Vx w0 I0 ρ s) w
 own:gB T s.own w
 fresh:∀b cs,(b,cs)∈s.own→w0.heap.size≤b∨I0.x b
 sep:∀b cs,(b,cs)∈s.own→∀t cs',s.boxes[t]? =some (some cs')→b≠ρ t
 nod:(s.own.map (·.1)).Nodup
 mapAt:vA s.maps w
 mfresh:∀b m,(b,m)∈s.maps→w0.heap.size≤b∨I0.x b
 mnod:(s.maps.map (·.1)).Nodup
theorem cw{α:Type}{a:Array α}{i:Nat}{x:α}(h:a[i]? =some x):i<a.size:=(Array.getElem?_eq_some_iff.1 h).1
section
variable{T:Tb}{w0:World}{I0:MY}{Γ:List aC}{s:VS}{a:Act}{w:World}{ρ:Nat→Nat}
theorem iq.dataOK(h:iq T w0 I0 Γ s a w ρ):bj T (Vx w0 I0 ρ s) w:=by
 intro b cs e f hb he;refine⟨fun hlt=>?_,fun t cs' ht hbt=>?_,fun cs' ho=>?_,fun m hm=>?_⟩
 ·by_cases hx:I0.x b
  ·exact .inr hx
  ·exact .inl (h.data b cs e f (by rw[←h.below.block b hlt hx];exact hb) he)
 ·obtain⟨_,e',he',hc⟩:=h.box t cs' ht;rw[←hbt,hb]at hc;injection hc with hc;injection hc with _ hc _;subst hc;rw[he]at he';exact absurd he' (by simp)
 ·obtain⟨e',he',hc⟩:=h.own b cs' ho;rw[hb]at hc;injection hc with hc;injection hc with _ hc _;subst hc;rw[he]at he';exact absurd he' (by simp)
 ·obtain⟨IV,clock,hc,_⟩:=h.mapAt b m hm;rw[hb]at hc;simp at hc
theorem iq.nomap(h:iq T w0 I0 Γ s a w ρ){b:Nat}{cs:Array Value}{e:TypeId}{f:Nat×Nat}(hb:w.heap[b]? =some (Obj.cells cs e f)):∀m,(b,m)∉s.maps:=fun m hm=>by
 obtain⟨IV,clock,hc,_⟩:=h.mapAt b m hm;rw[hb]at hc;simp at hc
theorem iq.mlt(h:iq T w0 I0 Γ s a w ρ){b:Nat}{m:List (Value×Value)}(hm:(b,m)∈s.maps):b<w.heap.size:=by
 obtain⟨IV,clock,hc,_⟩:=h.mapAt b m hm;exact cw hc
theorem vA.keep{M:List (Nat×List (Value×Value))}{w w':World}(h:vA M w)(hk:∀b m,(b,m)∈M→w'.heap[b]? =w.heap[b]?):vA M w':=fun b m hm=>by
 obtain⟨IV,clock,hc,he⟩:=h b m hm;exact⟨IV,clock,by rw[hk b m hm];exact hc,he⟩
theorem iq.ev(h:iq T w0 I0 Γ s a w ρ)(x:Operand):rel ρ (s.ev x) (a.eval x):=by
 cases x with
 |tmp t=>
  simp only[VS.ev,Act.eval];cases ht:s.tmps[t]? with
  |none=>simp[List.getD,ht,rel]
  |some sv=>simpa [List.getD,ht]using h.tmps t sv ht
 |const v=>rfl
 |global g=>rfl
 |func f=>rfl
theorem iq.val(h:iq T w0 I0 Γ s a w ρ){x:Operand}{v:Value}(hx:s.ev x=.val v):a.eval x=v:=by
 have:=h.ev x;rw[hx]at this;exact this
theorem iq.evptr(h:iq T w0 I0 Γ s a w ρ){x:Operand}{t off:Nat}(hx:s.ev x=.ptr t off):a.eval x=.pointer (some ⟨ρ t,off,none⟩):=by
 have:=h.ev x;rw[hx]at this;exact this
theorem iq.vals(h:iq T w0 I0 Γ s a w ρ):∀{xs:List Operand} {vs:List Value},s.vals xs=some vs→xs.map a.eval=vs
 | [],vs,hx=>by simp[VS.vals]at hx;simp[hx]
 |x::r,vs,hx=>by
  unfold VS.vals at hx;split at hx
  ·rename_i v us hv hu;injection hx with hx;subst hx;simp[h.val hv,iq.vals h hu]
  ·simp at hx
theorem iq.partsEq(h:iq T w0 I0 Γ s a w ρ):∀{xs:List (Nat×Operand)} {vs:List (Nat×Value)},s.parts xs=some vs→xs.map (fun e=>(e.1,a.eval e.2))=vs
 | [],vs,hx=>by simp[VS.parts]at hx;simp[hx]
 |(i,x)::r,vs,hx=>by
  unfold VS.parts at hx;split at hx
  ·rename_i v us hv hu;injection hx with hx;subst hx;simp[h.val hv,iq.partsEq h hu]
  ·simp at hx
theorem iq.known(h:iq T w0 I0 Γ s a w ρ):∀{xs:List Operand},s.known xs=true→∀x∈xs,a.eval x=s.rho x
 | [],_,x,hx=>by simp at hx
 |y::r,hk,x,hx=>by
  unfold VS.known at hk;split at hk
  ·rename_i v hv;rcases List.mem_cons.1 hx with rfl|hx
   ·rw[h.val hv];simp[VS.rho,hv,SV.val?]
   ·exact iq.known h hk x hx
  ·simp at hk
theorem fW(hw:s.wf){x:Operand}{t off:Nat}(hx:s.ev x=.ptr t off):∃cs,s.boxes[t]? =some (some cs):=by
 cases x with
 |tmp i=>
  simp only[VS.ev,List.getD]at hx;cases hi:s.tmps[i]? with
  |none=>simp[hi]at hx
  |some sv=>simp[hi]at hx;subst hx;exact hw i t off hi
 |const v=>simp[VS.ev]at hx
 |global g=>simp[VS.ev]at hx
 |func f=>simp[VS.ev]at hx
theorem uI(hw:s.wf){d:Option Tmp}{v:SV}(hv:∀t off,v=.ptr t off→∃cs,s.boxes[t]? =some (some cs)):(s.put d v).wf:=by
 cases d with
 |none=>exact hw
 |some t=>
  intro i u off hi;simp only[VS.put,bC]at hi⊢;split at hi
  ·split at hi
   ·injection hi with hi;exact hv u off hi
   ·simp at hi
  ·exact hw i u off hi
theorem iq.put(h:iq T w0 I0 Γ s a w ρ){d:Option Tmp}{sv:SV}{v:Value}(hr:rel ρ sv v)(hv:∀t off,sv=.ptr t off→∃cs,s.boxes[t]? =some (some cs)):
  iq T w0 I0 Γ (s.put d sv) (a.put d v) w ρ:=by
 have hw:=uI (d:=d) h.wf hv;cases d with
 |none=>exact h
 |some t=>
  refine⟨h.defers,by simp[Act.put,VS.put,h.len],fun i x hi=>?_,h.below,h.box,h.inj,hw,h.data,h.facts,h.own,h.fresh,h.sep,h.nod,h.mapAt,h.mfresh,h.mnod⟩;simp only[VS.put,Act.put,bC]at hi⊢;by_cases RD:t=i
  ·subst RD;simp only[fj]at hi;split at hi
   ·rename_i hlt;injection hi with hi;subst hi;have:t<a.tmps.size:=by rw[h.len];exact hlt
    simp[this,hr]
   ·simp at hi
  ·simp only[RD,dZ]at hi;have:=h.tmps i x hi;simpa [dG,Array.getElem?_setIfInBounds_ne RD]using this
theorem iq.new(h:iq T w0 I0 Γ s a w ρ){d:Tmp}{cs:List Value}{e:TypeId}(he:T.dat e=false)(hd:s.boxes[d]? =some none):
  iq T w0 I0 Γ {s with tmps:=s.tmps.set d (.ptr d 0),boxes:=s.boxes.set d (some cs)} (a.put (some d) (.pointer (some ⟨w.heap.size,0,none⟩))) (w.alloc (.cells cs.toArray e)) (fun t=>if t=d then w.heap.size else ρ t):=by
 have hdl:d<s.boxes.length:=by
  rcases iW d s.boxes.length with h'|h'
  ·exact h'
  ·simp[lY h']at hd
 have hbx:∀(t:Nat) (cs':List Value),(s.boxes.set d (some cs))[t]? =some (some cs')→(t=d∧cs'=cs)∨(t≠d∧s.boxes[t]? =some (some cs')):=by
  intro t cs' ht;rw[bC]at ht;by_cases WJ:d=t
  ·subst WJ;simp[hdl]at ht;exact .inl ⟨rfl,ht.symm⟩
  ·simp only[WJ,dZ]at ht;exact .inr ⟨fun e=>WJ e.symm,ht⟩
 have hold:∀t cs',s.boxes[t]? =some (some cs')→t≠d:=by
  rintro t cs' ht rfl;rw[hd]at ht;simp at ht
 have hlt:∀t cs',s.boxes[t]? =some (some cs')→ρ t<w.heap.size:=by
  intro t cs' ht;obtain⟨_,e',_,hc⟩:=h.box t cs' ht;exact cw hc
 have hown:∀b c,(b,c)∈s.own→b<w.heap.size:=fun b c hb=>by
  obtain⟨_,_,hc⟩:=h.own b c hb;exact cw hc
 refine⟨h.defers,by simp[Act.put,h.len],fun i x hi=>?_,h.below.trans ((bD _ w).alloc (aj _) _),fun t cs' ht=>?_,fun t u c1 c2 ht hu heq=>?_,?_,h.data,?_,fun b c hb=>?_,h.fresh,fun b c hb t cs' ht=>?_,h.nod,h.mapAt.keep (fun b m hm=>kB _ _ _ (h.mlt hm)),h.mfresh,h.mnod⟩
 ·simp only[Act.put,bC]at hi⊢;by_cases RD:d=i
  ·subst RD;simp only[fj]at hi;split at hi
   ·rename_i hl;injection hi with hi;subst hi;have:d<a.tmps.size:=by rw[h.len];exact hl
    simp[this,rel]
   ·simp at hi
  ·simp only[RD,dZ]at hi;have hx:=h.tmps i x hi;have:rel (fun t=>if t=d then w.heap.size else ρ t) x (a.tmps.getD i undef):=by
    cases x with
    |val v=>exact hx
    |junk=>trivial
    |ptr t off=>
     obtain⟨cs',hcs⟩:=h.wf i t off hi;have:=hold t cs' hcs;simpa [rel,this]using hx
   simpa [dG,Array.getElem?_setIfInBounds_ne RD]using this
 ·rcases hbx t cs' ht with⟨rfl,rfl⟩|⟨hne,A6⟩
  ·simp only[fj];exact⟨h.below.size,e,he,by show(w.heap.push _)[w.heap.size]? =_;simp⟩
  ·simp only[hne,dZ];obtain⟨h1,e',h2,h3⟩:=h.box t cs' A6;refine⟨h1,e',h2,?_⟩;rw[kB _ _ _ (hlt t cs' A6)];exact h3
 ·rcases hbx t c1 ht with⟨rfl,rfl⟩|⟨hne,A6⟩<;>rcases hbx u c2 hu with⟨rfl,rfl⟩|⟨OI,hu'⟩
  ·rfl
  ·simp only[fj,OI,dZ]at heq;have:=hlt u c2 hu';omega
  ·simp only[fj,hne,dZ]at heq;have:=hlt t c1 A6;omega
  ·simp only[hne,OI,dZ]at heq;exact h.inj t u c1 c2 A6 hu' heq
 ·intro i t off hi;simp only[bC]at hi;split at hi
  ·split at hi
   ·injection hi with hi;injection hi with hi _;subst hi;exact⟨cs,by simp[hdl]⟩
   ·simp at hi
  ·obtain⟨cs',hcs⟩:=h.wf i t off hi;exact⟨cs',by rw[bC,if_neg (fun e=>hold t cs' hcs e.symm)];exact hcs⟩
 ·refine h.facts.up (fun b hb hI=>⟨hI.1,fun t cs' ht=>?_,hI.2.2⟩) (fun b hb _=>kB _ _ _ hb) (by simp);rcases hbx t cs' ht with⟨rfl,rfl⟩|⟨hne,A6⟩
  ·simp only[fj];omega
  ·simp only[hne,dZ];exact hI.2.1 t cs' A6
 ·obtain⟨e',he',hc⟩:=h.own b c hb;exact⟨e',he',by rw[kB _ _ _ (cw hc)];exact hc⟩
 ·have sU:=hown b c hb;rcases hbx t cs' ht with⟨rfl,rfl⟩|⟨hne,A6⟩
  ·simp only[fj];omega
  ·simp only[hne,dZ];exact h.sep b c hb t cs' A6
theorem iq.upd(h:iq T w0 I0 Γ s a w ρ){b:Tmp}{cs cs':List Value}(hb:s.boxes[b]? =some (some cs)):
  iq T w0 I0 Γ {s with boxes:=s.boxes.set b (some cs')} a (w.setRow (ρ b) cs'.toArray) ρ:=by
 have hbl:b<s.boxes.length:=by
  rcases iW b s.boxes.length with h'|h'
  ·exact h'
  ·simp[lY h']at hb
 have hbx:∀(t:Nat) (c:List Value),(s.boxes.set b (some cs'))[t]? =some (some c)→(t=b∧c=cs')∨(t≠b∧s.boxes[t]? =some (some c)):=by
  intro t c ht;rw[bC]at ht;by_cases WJ:b=t
  ·subst WJ;simp[hbl]at ht;exact .inl ⟨rfl,ht.symm⟩
  ·simp only[WJ,dZ]at ht;exact .inr ⟨fun e=>WJ e.symm,ht⟩
 have hbs:∀(t:Nat) (c:List Value),(s.boxes.set b (some cs'))[t]? =some (some c)→∃c':List Value,s.boxes[t]? =some (some c'):=by
  intro t c ht;rcases hbx t c ht with⟨rfl,rfl⟩|⟨_,A6⟩
  ·exact⟨cs,hb⟩
  ·exact⟨c,A6⟩
 obtain⟨hge,e0,I1,hc0⟩:=h.box b cs hb;have OJ:∀k,k≠ρ b→(w.setRow (ρ b) cs'.toArray).heap[k]? =w.heap[k]? :=by
  intro k hk;simp only[World.setRow,j1];rw[if_neg (fun e=>hk e.symm)]
 have hsz:(w.setRow (ρ b) cs'.toArray).heap.size=w.heap.size:=by simp[World.setRow]
 refine⟨h.defers,h.len,h.tmps,?_,fun t c ht=>?_,fun t u c1 c2 ht hu heq=>?_,?_,h.data,?_,fun k c hk=>?_,h.fresh,fun k c hk t c' ht=>?_,h.nod,h.mapAt.keep (fun k m hm=>OJ k (by rintro rfl;exact h.nomap hc0 m hm)),h.mfresh,h.mnod⟩
 ·exact h.below.then ⟨rfl,rfl,rfl,by rw[hsz];exact aj _,fun k hk=>absurd hk (gG _)⟩ (fun k hk _=>OJ k (by omega))
 ·rcases hbx t c ht with⟨rfl,rfl⟩|⟨hne,A6⟩
  ·exact⟨hge,e0,I1,setRow_heap w _ _ _ e0 _ hc0⟩
  ·obtain⟨h1,e',h2,h3⟩:=h.box t c A6;refine⟨h1,e',h2,?_⟩;rw[OJ _ (fun(e:ρ t=ρ b)=>hne (h.inj t b c cs A6 hb e))];exact h3
 ·obtain⟨c1',A6⟩:=hbs t c1 ht;obtain⟨c2',hu'⟩:=hbs u c2 hu;exact h.inj t u c1' c2' A6 hu' heq
 ·intro i t off hi;obtain⟨c,hc⟩:=h.wf i t off hi;by_cases WH:b=t
  ·subst WH;exact⟨cs',by simp[hbl]⟩
  ·exact⟨c,by rw[bC,if_neg WH];exact hc⟩
 ·refine h.facts.up (fun k hk hI=>⟨hI.1,fun t c ht=>?_,hI.2.2⟩) (fun k hk hI=>OJ k (hI.2.1 b cs hb)) (by rw[hsz];exact aj _);obtain⟨c',A6⟩:=hbs t c ht;exact hI.2.1 t c' A6
 ·obtain⟨e',he',hc⟩:=h.own k c hk;exact⟨e',he',by rw[OJ k (h.sep k c hk b cs hb)];exact hc⟩
 ·obtain⟨c2,A6⟩:=hbs t c' ht;exact h.sep k c hk t c2 A6
theorem iq.back(h:iq T w0 I0 Γ s a w ρ){w':World}{Δ:List aC}(hb:Below w.heap.size w w')(hd:aD Δ (fun b=>b<w.heap.size→Vx w0 I0 ρ s b) w'):
  iq T w0 I0 (Δ++Γ) s a w' ρ:=by
 have hlt:∀t cs',s.boxes[t]? =some (some cs')→ρ t<w.heap.size:=by
  intro t cs' ht;obtain⟨_,e',_,hc⟩:=h.box t cs' ht;exact cw hc
 refine⟨h.defers,h.len,h.tmps,h.below.trans hb,fun t c ht=>?_,h.inj,h.wf,h.data,?_,fun b c hc=>?_,h.fresh,h.sep,h.nod,h.mapAt.keep (fun b m hm=>hb.block _ (h.mlt hm)),h.mfresh,h.mnod⟩
 ·obtain⟨h1,e',h2,h3⟩:=h.box t c ht;exact⟨h1,e',h2,by rw[hb.block _ (hlt t c ht)];exact h3⟩
 ·refine aD.append (hd.up (fun b hb' hI=>?_) (fun _ _ _=>rfl) (aj _)) (h.facts.up (fun _ _ hI=>hI) (fun b hb' _=>hb.block b hb') hb.size);by_cases sU:b<w.heap.size
  ·exact hI sU
  ·refine⟨fun hw=>?_,fun t cs ht e=>sU ?_,fun cs ho=>sU ?_,fun m hm=>sU (h.mlt hm)⟩
   ·have:=h.below.size;omega
   ·rw[e];exact hlt t cs ht
   ·obtain⟨_,_,hc⟩:=h.own b cs ho;exact cw hc
 ·obtain⟨e',he',hh⟩:=h.own b c hc;exact⟨e',he',by rw[hb.block _ (cw hh)];exact hh⟩
theorem iq.drew(h:iq T w0 I0 Γ s a w ρ):iq T w0 I0 Γ s a w.drew ρ:=
 ⟨h.defers,h.len,h.tmps,h.below.trans (bD _ w).drew,h.box,h.inj,h.wf,h.data,h.facts.up (fun _ _ h=>h) (fun _ _ _=>rfl) (aj _),h.own,h.fresh,h.sep,h.nod,h.mapAt,h.mfresh,h.mnod⟩
theorem iq.weak(h:iq T w0 I0 Γ s a w ρ){Δ:List aC}(hd:∀I w,bj T I w→aD Γ I w→aD Δ I w):iq T w0 I0 Δ s a w ρ:=
 ⟨h.defers,h.len,h.tmps,h.below,h.box,h.inj,h.wf,h.data,hd _ _ h.dataOK h.facts,h.own,h.fresh,h.sep,h.nod,h.mapAt,h.mfresh,h.mnod⟩
theorem iq.owned(h:iq T w0 I0 Γ s a w ρ){w':World}{O:List (Nat×List Value)}{Δ:List aC}(hb:Below 0 w w')(hsz:w.heap.size≤w'.heap.size)
  (hk:∀b,b<w.heap.size→(∀cs,(b,cs)∉s.own)→w'.heap[b]? =w.heap[b]?)(ho:gB T O w')(hn:∀b cs,(b,cs)∈O→(∃uS,(b,uS)∈s.own)∨w.heap.size≤b)(A5:(O.map (·.1)).Nodup)
  (hd:aD Δ (fun b=>(b<w.heap.size→Vx w0 I0 ρ s b∨∃cs,(b,cs)∈s.own)∧∀cs,(b,cs)∉O) w'):
  iq T w0 I0 (Δ++Γ) {s with own:=O} a w' ρ:=by
 have hlt:∀t cs',s.boxes[t]? =some (some cs')→ρ t<w.heap.size:=by
  intro t cs' ht;obtain⟨_,e',_,hc⟩:=h.box t cs' ht;exact cw hc
 have I7:∀b cs,(b,cs)∈O→∀t cs',s.boxes[t]? =some (some cs')→b≠ρ t:=by
  intro b cs hb' t cs' ht;rcases hn b cs hb' with⟨uS,h0⟩|hge
  ·exact h.sep b uS h0 t cs' ht
  ·have:=hlt t cs' ht;omega
 have zG:∀b cs,(b,cs)∈O→w0.heap.size≤b∨I0.x b:=by
  intro b cs hb';rcases hn b cs hb' with⟨uS,h0⟩|hge
  ·exact h.fresh b uS h0
  ·have:=h.below.size;exact .inl (by omega)
 have hnm:∀b m,(b,m)∈s.maps→∀cs,(b,cs)∉s.own:=fun b m hm cs hc=>by
  obtain⟨_,_,hh⟩:=h.own b cs hc;exact h.nomap hh m hm
 refine⟨h.defers,h.len,h.tmps,h.below.then hb (fun k h1 h2=>hk k (cN h1 h.below.size) (fun cs hc=>?_)),fun t c ht=>?_,h.inj,h.wf,h.data,?_,ho,zG,I7,A5,h.mapAt.keep (fun b m hm=>hk b (h.mlt hm) (hnm b m hm)),h.mfresh,h.mnod⟩
 ·rcases h.fresh k cs hc with h'|h'
  ·omega
  ·exact h2 h'
 ·obtain⟨h1,e',h2,h3⟩:=h.box t c ht;exact⟨h1,e',h2,by rw[hk _ (hlt t c ht) (fun cs hc=>h.sep _ cs hc t c ht rfl)];exact h3⟩
 ·refine aD.append (hd.up (fun b hb' hI=>?_) (fun _ _ _=>rfl) (aj _)) (h.facts.up (fun b hb' hI=>⟨hI.1,hI.2.1,fun cs hc=>?_,hI.2.2.2⟩) (fun b hb' hI=>hk b hb' hI.2.2.1) hsz)
  ·by_cases sU:b<w.heap.size
   ·rcases hI.1 sU with this|⟨cs,hcs⟩
    ·exact⟨this.1,this.2.1,hI.2,this.2.2.2⟩
    ·refine⟨fun hw=>?_,fun t c ht=>h.sep b cs hcs t c ht,hI.2,fun m hm=>hnm b m hm cs hcs⟩;rcases h.fresh b cs hcs with h'|h'
     ·omega
     ·exact .inr h'
   ·refine⟨fun hw=>?_,fun t cs ht e=>sU ?_,hI.2,fun m hm=>sU (h.mlt hm)⟩
    ·have:=h.below.size;omega
    ·rw[e];exact hlt t cs ht
  ·rcases hn b cs hc with⟨uS,h0⟩|hge
   ·exact hI.2.2.1 uS h0
   ·omega
theorem iq.backO(h:iq T w0 I0 Γ s a w ρ){w':World}{O:List (Nat×List Value)}{Δ:List aC}(hb:Below w.heap.size w w')(ho:gB T O w')(hn:∀b cs,(b,cs)∈O→w.heap.size≤b)(A5:(O.map (·.1)).Nodup)
  (hd:aD Δ (fun b=>(b<w.heap.size→Vx w0 I0 ρ s b)∧∀cs,(b,cs)∉O) w'):iq T w0 I0 (Δ++Γ) {s with own:=O++s.own} a w' ρ:=by
 have hlt:∀b cs,(b,cs)∈s.own→b<w.heap.size:=fun b cs hc=>by
  obtain⟨_,_,hh⟩:=h.own b cs hc;exact cw hh
 refine h.owned (hb.mono (aH _)) hb.size (fun b sU _=>hb.block b sU) (fun b cs hc=>?_) (fun b cs hc=>?_) ?_ (hd.up (fun b _ hI=>⟨fun hl=>.inl (hI.1 hl),fun cs hc=>?_⟩) (fun _ _ _=>rfl) (aj _))
 ·rcases List.mem_append.1 hc with hc|hc
  ·exact ho b cs hc
  ·obtain⟨e,he,hh⟩:=h.own b cs hc;exact⟨e,he,by rw[hb.block b (hlt b cs hc)];exact hh⟩
 ·rcases List.mem_append.1 hc with hc|hc
  ·exact .inr (hn b cs hc)
  ·exact .inl ⟨cs,hc⟩
 ·rw[aS,fJ];refine⟨A5,h.nod,fun x hx y hy e=>?_⟩;subst e;obtain⟨⟨b,cs⟩,h1,h2⟩:=List.mem_map.1 hx;obtain⟨⟨b',cs'⟩,h3,h4⟩:=List.mem_map.1 hy;have k1:=hn b cs h1;have k2:=hlt b' cs' h3;simp only at h2 h4;omega
 ·rcases List.mem_append.1 hc with hc|hc
  ·exact hI.2 cs hc
  ·exact(hI.1 (hlt b cs hc)).2.2.1 cs hc
end
theorem rf{α β:Type}{l1 l2 l3:List (α×β)}(h:((l1++(l2++l3)).map (·.1)).Nodup):(∀a b c,(a,b)∈l2→(a,c)∉l1∧(a,c)∉l3)∧(l2.map (·.1)).Nodup:=by
 simp only[aS,fJ]at h;obtain⟨_,⟨h2,_,h23⟩,h1⟩:=h;refine⟨fun a b c hb=>⟨fun hc=>?_,fun hc=>?_⟩,h2⟩
 ·exact h1 a (List.mem_map.2 ⟨(a,c),hc,rfl⟩) a (List.mem_append.2 (.inl (List.mem_map.2 ⟨(a,b),hb,rfl⟩))) rfl
 ·exact h23 a (List.mem_map.2 ⟨(a,b),hb,rfl⟩) a (List.mem_map.2 ⟨(a,c),hc,rfl⟩) rfl
theorem BA{α β:Type}{l1 l2 l3 l:List (α×β)}(h:((l1++(l2++l3)).map (·.1)).Nodup)(hl:(l.map (·.1)).Nodup)(hd:∀a b c,(a,b)∈l→(a,c)∉l1∧(a,c)∉l3):((l1++(l++l3)).map (·.1)).Nodup:=by
 simp only[aS,fJ]at h⊢;obtain⟨g1,⟨g2,g3,g23⟩,g4⟩:=h;refine⟨g1,⟨hl,g3,fun x hx y hy e=>?_⟩,fun x hx y hy e=>?_⟩
 ·subst e;obtain⟨⟨a,b⟩,h1,rfl⟩:=List.mem_map.1 hx;obtain⟨⟨a',c⟩,h2,e2⟩:=List.mem_map.1 hy;simp only at e2;subst e2;exact(hd _ b c h1).2 h2
 ·subst e;rcases List.mem_append.1 hy with hy|hy
  ·obtain⟨⟨a,b⟩,h1,rfl⟩:=List.mem_map.1 hy;obtain⟨⟨a',c⟩,h2,e2⟩:=List.mem_map.1 hx;simp only at e2;subst e2;exact(hd _ b c h1).1 h2
  ·exact g4 x hx x (List.mem_append.2 (.inr hy)) rfl
def DV(P:Program)(f:FuncId):Prop:=∃fn,P.funcs[f]? =some fn∧(fn.name== "runtime.NumGoroutine")=false∧fn.body.isNone=false
def aw(T:Tb)(P:Program)(f:FuncId)(args:List Value)(Γ:List aC)(post:Value→List aC→Prop):Prop:=
 DV P f∧∀(I:gd) (w:World),bj T I w→aD Γ I w→Calls P f args.toArray w fun e w'=>
  ∃v Δ,e=.returned v∧post v Δ∧Below w.heap.size w w'∧aD Δ (fun b=>b<w.heap.size→I b) w'
def ko(T:Tb)(P:Program)(f:FuncId)(args:List Value)(Γ:List aC)(post:Value→List (Nat×List Value)→List aC→Prop):Prop:=
 DV P f∧∀(I:gd) (w:World),bj T I w→aD Γ I w→Calls P f args.toArray w fun e w'=>
  ∃v O Δ,e=.returned v∧post v O Δ∧Below w.heap.size w w'∧gB T O w'∧(∀b cs,(b,cs)∈O→w.heap.size≤b)∧(O.map (·.1)).Nodup∧aD Δ (fun b=>(b<w.heap.size→I b)∧∀cs,(b,cs)∉O) w'
theorem aw.o{T:Tb}{P:Program}{f:FuncId}{args:List Value}{Γ:List aC}{post:Value→List aC→Prop}(h:aw T P f args Γ post):ko T P f args Γ (fun v O Δ=>O=[]∧post v Δ):=
 ⟨h.1,fun I w hd hh=>(h.2 I w hd hh).mono fun e w' ⟨v,Δ,h1,h2,h3,h4⟩=>⟨v,[],Δ,h1,⟨rfl,h2⟩,h3,fun _ _ hc=>absurd hc (by simp),fun _ _ hc=>absurd hc (by simp),by simp,h4.up (fun b _ hI=>⟨hI,fun cs hc=>absurd hc (by simp)⟩) (fun _ _ _=>rfl) (aj _)⟩⟩
def gQ(Oin:List (Nat×List Value))(Min:List (Nat×List (Value×Value))):gd:=fun b=>(∃cs,(b,cs)∈Oin)∨∃m,(b,m)∈Min
def dD(T:Tb)(P:Program)(f:FuncId)(args:List Value)(Oin:List (Nat×List Value))(Min:List (Nat×List (Value×Value)))(Γ:List aC)(post:Value→List (Nat×List Value)→List (Nat×List (Value×Value))→List aC→Prop):Prop:=
 DV P f∧∀(I:gd) (w:World),bj T I w→aD Γ I w→gB T Oin w→(Oin.map (·.1)).Nodup→vA Min w→(Min.map (·.1)).Nodup→(∀b,gQ Oin Min b→¬I b)→Calls P f args.toArray w fun e w'=>
  (∃v O M Δ,e=.returned v∧post v O M Δ∧ka (gQ Oin Min) w w'∧gB T O w'∧(∀b cs,(b,cs)∈O→gQ Oin Min b∨w.heap.size≤b)∧(O.map (·.1)).Nodup∧vA M w'∧(∀b m,(b,m)∈M→gQ Oin Min b∨w.heap.size≤b)∧(M.map (·.1)).Nodup∧
   aD Δ (fun b=>(b<w.heap.size→I b∨gQ Oin Min b)∧(∀cs,(b,cs)∉O)∧∀m,(b,m)∉M) w')∨
  (∃ch,e=.panicked ch∧T.pan ch∧ka (gQ Oin Min) w w')
theorem ko.x{T:Tb}{P:Program}{f:FuncId}{args:List Value}{Γ:List aC}{post:Value→List (Nat×List Value)→List aC→Prop}(h:ko T P f args Γ post):dD T P f args [] [] Γ (fun v O M Δ=>M=[]∧post v O Δ):=
 ⟨h.1,fun I w hd hh _ _ _ _ _=>(h.2 I w hd hh).mono fun e w' ⟨v,O,Δ,h1,h2,h3,h4,h5,h6,h7⟩=>.inl ⟨v,O,[],Δ,h1,⟨rfl,h2⟩,ka.of h3 _,h4,fun b cs hb=>.inr (h5 b cs hb),h6,fun _ _ hc=>absurd hc (by simp),fun _ _ hc=>absurd hc (by simp),by simp,h7.up (fun b _ hI=>⟨fun hl=>.inl (hI.1 hl),hI.2,fun m hm=>absurd hm (by simp)⟩) (fun _ _ _=>rfl) (aj _)⟩⟩
def Ko(T:Tb)(tm:List SV)(own:List (Nat×List Value)):Prop:=∃ks:List (Nat×Value),T.held ks own∧∀x∈ks,lI x.1 T.pins=true∧tm[x.1]? =some (.val x.2)
def Ym(T:Tb)(P:Program)(f:FuncId)(args:List Value)(K:Value→VS→List aC→Prop)(s:VS)(Γ:List aC):Prop:=
 ∃O1 Oin O2 M1 Min M2 post,s.own=O1++(Oin++O2)∧s.maps=M1++(Min++M2)∧Ko T s.tmps (O1++O2)∧dD T P f args Oin Min Γ post∧∀v O M Δ,post v O M Δ→K v {s with own:=O1++(O++O2),maps:=M1++(M++M2)} (Δ++Γ)
def xU(T:Tb)(P:Program)(f:FuncId)(args:List Value)(K:Value→VS→List aC→Prop)(s:VS)(Γ:List aC):Prop:=
 (∃post,ko T P f args Γ post∧∀v O Δ,post v O Δ→K v {s with own:=O++s.own} (Δ++Γ))∨((T.hand=true∧T.calm f=false)∧Ym T P f args K s Γ)
theorem xU.mono{T:Tb}{P:Program}{f:FuncId}{args:List Value}{K K':Value→VS→List aC→Prop}{s:VS}{Γ:List aC}(h:xU T P f args K s Γ)(hk:∀v O M Γ',K v {s with own:=O,maps:=M} Γ'→K' v {s with own:=O,maps:=M} Γ'):xU T P f args K' s Γ:=by
 rcases h with⟨post,hp,h⟩|⟨h0,O1,Oin,O2,M1,Min,M2,post,e1,e2,eh,hp,h⟩
 ·exact .inl ⟨post,hp,fun v O Δ hv=>hk v _ s.maps _ (h v O Δ hv)⟩
 ·exact .inr ⟨h0,O1,Oin,O2,M1,Min,M2,post,e1,e2,eh,hp,fun v O M Δ hv=>hk v _ _ _ (h v O M Δ hv)⟩
theorem Cl{T:Tb}{P:Program}{f:FuncId}{args:List Value}{K:Value→VS→List aC→Prop}{s:VS}{Γ:List aC}{post:Value→List (Nat×List Value)→List aC→Prop}(hp:ko T P f args Γ post)(h:∀v O Δ,post v O Δ→K v {s with own:=O++s.own} (Δ++Γ)):xU T P f args K s Γ:=by
 exact .inl ⟨post,hp,h⟩
def ji(T:Tb)(o:Oper):Bool:=
 match o.op with
 | .move _=>true
 | .assign _=>true
 | .pick .. =>true
 | .extract .. =>true
 | .build .. =>true
 | .binOp .. =>true
 | .unOp .. =>true
 | .convert src dst _=>(match T.get src with|some y=> !Nat.beq y.kind 3|none=>true)&& !Ke T src dst
 | .fieldAddr .. =>true
 | .indexAddr .. =>true
 | .nilCheck _=>true
 | .call c=>(match c.callee with| .builtin .len=>true| .builtin .max=>true| .builtin .min=>true|_=>false)
 |_=>false
structure Aw(T:Tb)(P:Program)(s:VS)(o:Oper)(Γ:List aC)(v:Value):Prop where
 all:ji T o=true→∀w:World,(execOp s.rho o).run P w=.ok (.value v) w
 mem:∀(I:gd) (w:World),bj T I w→aD Γ I w→gB T s.own w→(execOp s.rho o).run P w=.ok (.value v) w
theorem Aw.any{T:Tb}{P:Program}{s:VS}{o:Oper}{Γ:List aC}{v:Value}(h:∀w:World,(execOp s.rho o).run P w=.ok (.value v) w):Aw T P s o Γ v:=⟨fun _=>h,fun _ w _ _ _=>h w⟩
theorem Aw.look{T:Tb}{P:Program}{s:VS}{o:Oper}{Γ:List aC}{v:Value}(hm:ji T o=false)(h:∀(I:gd) (w:World),bj T I w→aD Γ I w→gB T s.own w→(execOp s.rho o).run P w=.ok (.value v) w):Aw T P s o Γ v:=⟨fun h'=>by rw[hm]at h';simp at h',h⟩
def Ng(T:Tb)(P:Program)(s:VS)(o:Oper)(Γ:List aC)(post:Value→List aC→Prop):Prop:=
 ∀(I:gd) (w:World),bj T I w→aD Γ I w→∃v Δ w',(execOp s.rho o).run P w=.ok (.value v) w'∧post v Δ∧Below w.heap.size w w'∧aD Δ (fun b=>b<w.heap.size→I b) w'
def VB(T:Tb)(P:Program)(s:VS)(o:Oper)(Γ:List aC)(post:Value→List (Nat×List Value)→List aC→Prop):Prop:=
 ∀(I:gd) (w:World),bj T I w→aD Γ I w→gB T s.own w→(s.own.map (·.1)).Nodup→(∀b cs,(b,cs)∈s.own→¬I b)→∃v O Δ w' r,(execOp s.rho o).run P w=.ok r w'∧(r=.value v∨(r=.skip∧v=undef))∧post v O Δ∧
  (∀n,(∀b cs,(b,cs)∈s.own→n≤b)→n≤w.heap.size→Below n w w')∧w.heap.size≤w'.heap.size∧(∀b,b<w.heap.size→(∀cs,(b,cs)∉s.own)→w'.heap[b]? =w.heap[b]?)∧gB T O w'∧
  (∀b cs,(b,cs)∈O→(∃uS,(b,uS)∈s.own)∨w.heap.size≤b)∧(O.map (·.1)).Nodup∧aD Δ (fun b=>(b<w.heap.size→I b∨∃cs,(b,cs)∈s.own)∧∀cs,(b,cs)∉O) w'
def CG(T:Tb)(P:Program)(s:VS)(o:Oper)(Γ:List aC)(post:Value→List (Nat×List Value)→List (Nat×List (Value×Value))→List aC→Prop):Prop:=
 ∀(I:gd) (w:World),bj T I w→aD Γ I w→gB T s.own w→(s.own.map (·.1)).Nodup→vA s.maps w→(s.maps.map (·.1)).Nodup→(∀b,gQ s.own s.maps b→¬I b)→∃v O M Δ w' r,(execOp s.rho o).run P w=.ok r w'∧(r=.value v∨(r=.skip∧v=undef))∧post v O M Δ∧
  ka (gQ s.own s.maps) w w'∧gB T O w'∧(∀b cs,(b,cs)∈O→gQ s.own s.maps b∨w.heap.size≤b)∧(O.map (·.1)).Nodup∧vA M w'∧(∀b m,(b,m)∈M→gQ s.own s.maps b∨w.heap.size≤b)∧(M.map (·.1)).Nodup∧
  aD Δ (fun b=>(b<w.heap.size→I b∨gQ s.own s.maps b)∧(∀cs,(b,cs)∉O)∧∀m,(b,m)∉M) w'
theorem VB.m{T:Tb}{P:Program}{s:VS}{o:Oper}{Γ:List aC}{post:Value→List (Nat×List Value)→List aC→Prop}(h:VB T P s o Γ post):CG T P s o Γ (fun v O M Δ=>M=s.maps∧post v O Δ):=fun I w hd hh ho A5 hm Ew hx=>by
 obtain⟨v,O,Δ,w',r,hrun,hr,hpv,hb,hsz,hkeep,sV,hn,tL,qe⟩:=h I w hd hh ho A5 (fun b cs hc=>hx b (.inl ⟨cs,hc⟩));have hb0:=hb 0 (fun _ _ _=>aH _) (aH _);have dis:∀b cs m,(b,cs)∈s.own→(b,m)∉s.maps:=fun b cs m h1 h2=>by
  obtain⟨e,_,g1⟩:=ho b cs h1;obtain⟨es,cl,g2,_⟩:=hm b m h2;rw[g1]at g2;simp at g2
 refine⟨v,O,s.maps,Δ,w',r,hrun,hr,⟨rfl,hpv⟩,⟨hb0.os,hb0.tape,hb0.output,hsz,fun k hk hnx=>hkeep k hk (fun cs hc=>hnx (.inl ⟨cs,hc⟩))⟩,sV,fun b cs hc=>(hn b cs hc).elim (fun⟨c0,h0⟩=>.inl (.inl ⟨c0,h0⟩)) .inr,tL,fun b m qP=>?_,fun b m qP=>.inl (.inr ⟨m,qP⟩),Ew,qe.up (fun b _ hI=>⟨fun hl=>(hI.1 hl).elim .inl (fun⟨cs,hc⟩=>.inr (.inl ⟨cs,hc⟩)),hI.2,fun m qP=>?_⟩) (fun _ _ _=>rfl) (aj _)⟩
 ·obtain⟨es,cl,g1,g2⟩:=hm b m qP;exact⟨es,cl,by rw[hkeep b (cw g1) (fun cs hc=>dis b cs m hc qP)];exact g1,g2⟩
 ·obtain⟨es,cl,g1,_⟩:=hm b m qP;rcases hI.1 (cw g1)with h1|⟨cs,h1⟩
  ·exact hx b (.inr ⟨m,qP⟩) h1
  ·exact dis b cs m h1 qP
def gF(ops:Array Oper)(o:Oper)(s:VS):Option Bool:=
 match o.guard with
 |none=>some true
 |some (j,want)=>match(ops[j]?).bind (·.dst)with
  |none=>some false
  |some t=>match s.tmps[t]? with
   |none=>some false
   |some (.val (.bool b))=>some (b==want)
   |some (.val _)=>some false
   |some _=>none
def sG(T:Tb)(P:Program)(o:Oper)(K:VS→List aC→Prop)(s:VS)(Γ:List aC):Prop:=
 match gp T o s with
 | .val v=>K (s.put o.dst v) Γ
 | .new cs=>match o.dst with
  |some d=>s.boxes[d]? =some none∧K {s with tmps:=s.tmps.set d (.ptr d 0),boxes:=s.boxes.set d (some cs)} Γ
  |none=>False
 | .upd b cs=>K ({s with boxes:=s.boxes.set b (some cs)}.put o.dst (.val undef)) Γ
 | .read=>∃v,Aw T P s o Γ v∧K (s.put o.dst (.val v)) Γ
 | .ask=>∃post,Ng T P s o Γ post∧∀v Δ,post v Δ→K (s.put o.dst (.val v)) (Δ++Γ)
 | .own=>∃post,CG T P s o Γ post∧∀v O M Δ,post v O M Δ→K (({s with own:=O,maps:=M}:VS).put o.dst (.val v)) (Δ++Γ)
 | .call f args=>xU T P f args (fun v s' Γ'=>K (s'.put o.dst (.val v)) Γ') s Γ
 | .stuck=>False
def pS(T:Tb)(P:Program)(ops:Array Oper)(o:Oper)(K:VS→List aC→Prop)(s:VS)(Γ:List aC):Prop:=
 match gF ops o s with
 |some true=>sG T P o K s Γ
 |some false=>K (s.put o.dst (.val undef)) Γ
 |none=>False
theorem fk{P:Program}{t:TypeId}{y:Ty}(h:TQ P t=some y):∃i d,P.info? t=some i∧P.underlying t=some d∧i.zero=some y.zero∧i.size=y.size∧FA d=y.agg∧
  ((match d with| .struct _=>true|_=>false)=y.isStruct)∧((match d with| .bool=>true|_=>false)=y.isBool)∧((match d with| .int k=>some k|_=>none)=y.ikind)∧Df d=y.kind∧(match d with| .slice e=>((P.info? e).map (·.size)).getD 0| .array _ e=>((P.info? e).map (·.size)).getD 0|_=>0)=y.esize∧(match d with| .slice e=>(((P.info? e).bind (·.zero)).map (·.cells.toList)).getD []|_=>[])=y.ezero∧
  (match d with| .struct fs=>fs.toList.map fun f=>(f.offset,(((P.info? f.type).map (·.size)).getD 0,((P.underlying f.type).map FA).getD false))|_=>[])=y.fields∧
  (match d with| .slice e=>e| .array _ e=>e|_=>0)=y.elem∧(match d with| .slice e=>((P.info? e).map (·.bytes)).getD 0|_=>0)=y.ebytes∧(match d with| .array n _=>n|_=>0)=y.alen:=by
 unfold TQ at h;cases hi:P.info? t with
 |none=>simp[hi]at h
 |some i=>
  cases hd:P.underlying t with
  |none=>simp[hi,hd]at h
  |some d=>
   cases hz:i.zero with
   |none=>simp[hi,hd,hz]at h
   |some z=>
    simp only[hi,hd,hz,aq]at h;subst h;exact⟨i,d,rfl,rfl,by simp[hz],rfl,rfl,rfl,rfl,rfl,rfl,rfl,rfl,rfl,rfl,rfl,rfl⟩
theorem kR{P:Program}{t:TypeId}{d:TypeDesc}(h:P.underlying t=some d)(w:World):(isAgg t).run P w=.ok (FA d) w:=by
 unfold isAgg;simp only[cB,cM h,bu];cases d<;>rfl
theorem iT{P:Program}{t:TypeId}{i:TypeInfo}(h:P.info? t=some i)(w:World):(sizeOf t).run P w=.ok i.size w:=by
 simp[sizeOf,typeInfo,h]
theorem HJ{P:Program}{t:TypeId}{i:TypeInfo}{z:Value}(h:P.info? t=some i)(hz:i.zero=some z)(w:World):(zeroValue t).run P w=.ok z w:=by
 simp[zeroValue,typeInfo,h,hz]
theorem nV{w:World}{b:Nat}{cs:List Value}{e:TypeId}(h:w.heap[b]? =some (.cells cs.toArray e (0,0)))(i:Nat):w.cell? ⟨b,i,none⟩=cs[i]? :=by
 simp[World.cell?,h]
theorem gZ(b off n:Nat):(⟨b,off,none⟩:Addr).add n=⟨b,off+n,none⟩:=by
 unfold Addr.add;split
 ·simp[*]
 ·rfl
section
variable{T:Tb}{P:Program}{w0:World}{I0:MY}{Γ:List aC}{s:VS}{a:Act}{w:World}{ρ:Nat→Nat}{o:Oper}
theorem iq.ownedX(h:iq T w0 I0 Γ s a w ρ){O1 Oin O2 O:List (Nat×List Value)}{M1 Min M2 M:List (Nat×List (Value×Value))}(eo:s.own=O1++(Oin++O2))(em:s.maps=M1++(Min++M2)){w':World}{Δ:List aC}(hk:ka (gQ Oin Min) w w')
  (ho:gB T O w')(hn:∀b cs,(b,cs)∈O→gQ Oin Min b∨w.heap.size≤b)(A5:(O.map (·.1)).Nodup)(hm:vA M w')(hmn:∀b m,(b,m)∈M→gQ Oin Min b∨w.heap.size≤b)(Ew:(M.map (·.1)).Nodup)
  (hd:aD Δ (fun b=>(b<w.heap.size→Vx w0 I0 ρ s b∨gQ Oin Min b)∧(∀cs,(b,cs)∉O)∧∀m,(b,m)∉M) w'):
  iq T w0 I0 (Δ++Γ) {s with own:=O1++(O++O2),maps:=M1++(M++M2)} a w' ρ:=by
 have hod:=h.nod;have hmd:=h.mnod;rw[eo]at hod;rw[em]at hmd;obtain⟨oo,_⟩:=rf hod;obtain⟨mm,_⟩:=rf hmd;have OX:∀b cs,(b,cs)∈Oin→(b,cs)∈s.own:=fun b cs hb=>by rw[eo];simp[hb]
 have M6:∀b m,(b,m)∈Min→(b,m)∈s.maps:=fun b m hb=>by rw[em];simp[hb]
 have r1:∀b cs,(b,cs)∈O1∨(b,cs)∈O2→(b,cs)∈s.own:=fun b cs hb=>by rw[eo];rcases hb with hb|hb<;>simp[hb]
 have r2:∀b m,(b,m)∈M1∨(b,m)∈M2→(b,m)∈s.maps:=fun b m hb=>by rw[em];rcases hb with hb|hb<;>simp[hb]
 have olt:∀b cs,(b,cs)∈s.own→b<w.heap.size:=fun b cs hb=>by
  obtain⟨_,_,hc⟩:=h.own b cs hb;exact cw hc
 have nom:∀b cs m,(b,cs)∈s.own→(b,m)∉s.maps:=fun b cs m hb=>by
  obtain⟨_,_,hc⟩:=h.own b cs hb;exact h.nomap hc m
 have nO:∀b cs,(b,cs)∈O1∨(b,cs)∈O2→¬gQ Oin Min b:=fun b cs hb hx=>by
  rcases hx with⟨cs',hx⟩|⟨m,hx⟩
  ·rcases hb with hb|hb
   ·exact(oo b cs' cs hx).1 hb
   ·exact(oo b cs' cs hx).2 hb
  ·exact nom b cs m (r1 b cs hb) (M6 b m hx)
 have nM:∀b m,(b,m)∈M1∨(b,m)∈M2→¬gQ Oin Min b:=fun b m hb hx=>by
  rcases hx with⟨cs',hx⟩|⟨m',hx⟩
  ·exact nom b cs' m (OX b cs' hx) (r2 b m hb)
  ·rcases hb with hb|hb
   ·exact(mm b m' m hx).1 hb
   ·exact(mm b m' m hx).2 hb
 have hlt:∀t cs',s.boxes[t]? =some (some cs')→ρ t<w.heap.size:=by
  intro t cs' ht;obtain⟨_,e',_,hc⟩:=h.box t cs' ht;exact cw hc
 have nB:∀t cs',s.boxes[t]? =some (some cs')→¬gQ Oin Min (ρ t):=fun t cs' ht hx=>by
  rcases hx with⟨cs,hx⟩|⟨m,hx⟩
  ·exact h.sep _ cs (OX _ cs hx) t cs' ht rfl
  ·obtain⟨_,_,_,hc⟩:=h.box t cs' ht;exact h.nomap hc m (M6 _ m hx)
 have hxw:∀b,gQ Oin Min b→b<w.heap.size∧(w0.heap.size≤b∨I0.x b):=fun b hx=>by
  rcases hx with⟨cs,hx⟩|⟨m,hx⟩
  ·exact⟨olt b cs (OX b cs hx),h.fresh b cs (OX b cs hx)⟩
  ·exact⟨h.mlt (M6 b m hx),h.mfresh b m (M6 b m hx)⟩
 have hsz:=h.below.size;have EC:∀{α:Type} {x:α} {l1 l2 l3:List α},x∈l1++(l2++l3)→(x∈l1∨x∈l3)∨x∈l2:=fun hx=>by
  rcases List.mem_append.1 hx with hx|hx
  ·exact .inl (.inl hx)
  ·rcases List.mem_append.1 hx with hx|hx
   ·exact .inr hx
   ·exact .inl (.inr hx)
 refine⟨h.defers,h.len,h.tmps,h.below.then ⟨hk.os,hk.tape,hk.output,hk.size,fun k hk=>absurd hk (gG _)⟩ (fun k h1 h2=>hk.block k (by omega) (fun hx=>?_)),fun t c ht=>?_,h.inj,h.wf,h.data,?_,fun b cs hb=>?_,fun b cs hb=>?_,fun b cs hb t cs' ht=>?_,?_,fun b m hb=>?_,fun b m hb=>?_,?_⟩
 ·rcases(hxw k hx).2 with h'|h'
  ·omega
  ·exact h2 h'
 ·obtain⟨h1,e',h2,h3⟩:=h.box t c ht;exact⟨h1,e',h2,by rw[hk.block _ (hlt t c ht) (nB t c ht)];exact h3⟩
 ·refine aD.append (hd.up (fun b hb' hI=>?_) (fun _ _ _=>rfl) (aj _)) (h.facts.up (fun b hb' hI=>⟨hI.1,hI.2.1,fun cs hc=>?_,fun m hm'=>?_⟩) (fun b hb' hI=>hk.block b hb' (fun hx=>?_)) hk.size)
  ·refine⟨fun hw=>?_,fun t cs ht e=>?_,fun cs hc=>?_,fun m hm'=>?_⟩
   ·rcases hI.1 (by omega)with h'|h'
    ·exact h'.1 hw
    ·rcases(hxw b h').2 with h''|h''
     ·omega
     ·exact .inr h''
   ·by_cases hb:b<w.heap.size
    ·rcases hI.1 hb with h'|h'
     ·exact h'.2.1 t cs ht e
     ·rw[e]at h';exact nB t cs ht h'
    ·have:=hlt t cs ht;omega
   ·rcases EC hc with hc|hc
    ·have hb:=olt b cs (r1 b cs hc);rcases hI.1 hb with h'|h'
     ·exact h'.2.2.1 cs (r1 b cs hc)
     ·exact nO b cs hc h'
    ·exact hI.2.1 cs hc
   ·rcases EC hm' with hm'|hm'
    ·have hb:=h.mlt (r2 b m hm');rcases hI.1 hb with h'|h'
     ·exact h'.2.2.2 m (r2 b m hm')
     ·exact nM b m hm' h'
    ·exact hI.2.2 m hm'
  ·rcases EC hc with hc|hc
   ·exact hI.2.2.1 cs (r1 b cs hc)
   ·rcases hn b cs hc with hx|hge
    ·rcases hx with⟨cs',hx⟩|⟨m',hx⟩
     ·exact hI.2.2.1 cs' (OX b cs' hx)
     ·exact hI.2.2.2 m' (M6 b m' hx)
    ·omega
  ·rcases EC hm' with hm'|hm'
   ·exact hI.2.2.2 m (r2 b m hm')
   ·rcases hmn b m hm' with hx|hge
    ·rcases hx with⟨cs',hx⟩|⟨m',hx⟩
     ·exact hI.2.2.1 cs' (OX b cs' hx)
     ·exact hI.2.2.2 m' (M6 b m' hx)
    ·omega
  ·rcases hx with⟨cs',hx⟩|⟨m',hx⟩
   ·exact hI.2.2.1 cs' (OX b cs' hx)
   ·exact hI.2.2.2 m' (M6 b m' hx)
 ·rcases EC hb with hb|hb
  ·obtain⟨e',he',hc⟩:=h.own b cs (r1 b cs hb);exact⟨e',he',by rw[hk.block b (cw hc) (nO b cs hb)];exact hc⟩
  ·exact ho b cs hb
 ·rcases EC hb with hb|hb
  ·exact h.fresh b cs (r1 b cs hb)
  ·rcases hn b cs hb with hx|hge
   ·exact(hxw b hx).2
   ·exact .inl (by omega)
 ·rcases EC hb with hb|hb
  ·exact h.sep b cs (r1 b cs hb) t cs' ht
  ·rcases hn b cs hb with hx|hge
   ·rintro rfl;exact nB t cs' ht hx
   ·have:=hlt t cs' ht;omega
 ·refine BA hod A5 (fun b cs cs' hb=>⟨fun hc=>?_,fun hc=>?_⟩)
  ·rcases hn b cs hb with hx|hge
   ·exact nO b cs' (.inl hc) hx
   ·have:=olt b cs' (r1 b cs' (.inl hc));omega
  ·rcases hn b cs hb with hx|hge
   ·exact nO b cs' (.inr hc) hx
   ·have:=olt b cs' (r1 b cs' (.inr hc));omega
 ·rcases EC hb with hb|hb
  ·obtain⟨en,ck,hc,he⟩:=h.mapAt b m (r2 b m hb);exact⟨en,ck,by rw[hk.block b (cw hc) (nM b m hb)];exact hc,he⟩
  ·exact hm b m hb
 ·rcases EC hb with hb|hb
  ·exact h.mfresh b m (r2 b m hb)
  ·rcases hmn b m hb with hx|hge
   ·exact(hxw b hx).2
   ·exact .inl (by omega)
 ·refine BA hmd Ew (fun b m m' hb=>⟨fun hc=>?_,fun hc=>?_⟩)
  ·rcases hmn b m hb with hx|hge
   ·exact nM b m' (.inl hc) hx
   ·have:=h.mlt (r2 b m' (.inl hc));omega
  ·rcases hmn b m hb with hx|hge
   ·exact nM b m' (.inr hc) hx
   ·have:=h.mlt (r2 b m' (.inr hc));omega
theorem y6:∀{l:List Value},AE l=true→∀v∈l,v.oneCell'=true
 | [],_,v,hv=>by simp at hv
 |x::r,h,v,hv=>by
  simp only[AE,aK]at h;rcases List.mem_cons.1 hv with rfl|hv
  ·exact h.1
  ·exact y6 h.2 v hv
def abD(P:Program)(o:Oper)(a:Act)(w:World)(ρ:Nat→Nat)(s:VS)(sv:SV):Prop:=
 ∃v,rel ρ sv v∧(∀t off,sv=.ptr t off→∃cs,s.boxes[t]? =some (some cs))∧(execOp a.eval o).run P w=.ok (.value v) w
theorem mq{x:Value}:∀t off,SV.val x=.ptr t off→∃cs,s.boxes[t]? =some (some cs):=fun _ _ h=>by simp at h
theorem B_{ty:TypeId}(hd:P.underlying ty=some .bool)(p q:Bool):(Op.equal ty (.bool p) (.bool q)).run P w=.ok (p==q) w:=by
 unfold Op.equal Op.maxDepth;rw[show(10000:Nat)=9999+1 from rfl,Op.equalIn];simp only[cB,cM hd,bu];rfl
theorem xe{t:Ty}{ty:TypeId}(hT:T.Ok P)(hg:T.get ty=some t)(hb:t.isBool=true):P.underlying ty=some .bool:=by
 obtain⟨i,d,hi,hd,_,_,_,_,hb',_⟩:=fk (hT.ty _ _ hg);rw[hd];rw[hb]at hb';cases d<;>simp at hb'⊢
theorem oS{t:Ty}{ty:TypeId}(hT:T.Ok P)(hg:T.get ty=some t)(hb:t.isStruct=true):∃fs,P.underlying ty=some (.struct fs)∧
  t.fields=fs.toList.map fun f=>(f.offset,(((P.info? f.type).map (·.size)).getD 0,((P.underlying f.type).map FA).getD false)):=by
 obtain⟨i,d,hi,hd,_,_,_,hb',_,_,_,_,_,hf,_⟩:=fk (hT.ty _ _ hg);rw[hb]at hb';cases d with
 |struct fs=>exact⟨fs,hd,hf.symm⟩
 |_=>simp at hb'
theorem vG{t:Ty}{ty:TypeId}(hT:T.Ok P)(hg:T.get ty=some t){i:Nat}{x:Nat×Nat×Bool}(hf:t.fields[i]? =some x):t.isStruct=true:=by
 obtain⟨_,d,hi,hd,_,_,_,hb',_,_,_,_,_,hf',_⟩:=fk (hT.ty _ _ hg);rw[←hb'];cases d with
 |struct fs=>rfl
 |_=>simp only at hf';rw[←hf']at hf;simp at hf
theorem zd{t:Ty}{ty:TypeId}{k:IntKind}(hT:T.Ok P)(hg:T.get ty=some t)(hb:t.ikind=some k):P.underlying ty=some (.int k):=by
 obtain⟨i,d,hi,hd,_,_,_,_,_,hb',_,_,_⟩:=fk (hT.ty _ _ hg);rw[hd];rw[hb]at hb';cases d<;>simp at hb'⊢;exact hb'
theorem zg{t:Ty}{ty:TypeId}(hT:T.Ok P)(hg:T.get ty=some t)(hb:t.kind=2):P.underlying ty=some .string:=by
 obtain⟨i,d,hi,hd,_,_,_,_,_,_,hb',_,_⟩:=fk (hT.ty _ _ hg);rw[hd];rw[hb]at hb';cases d<;>simp[Df]at hb'⊢
theorem zf{t:Ty}{ty:TypeId}(hT:T.Ok P)(hg:T.get ty=some t)(hb:t.kind=3):∃e,P.underlying ty=some (.slice e)∧((P.info? e).map (·.size)).getD 0=t.esize∧(((P.info? e).bind (·.zero)).map (·.cells.toList)).getD []=t.ezero:=by
 obtain⟨i,d,hi,hd,_,_,_,_,_,_,hb',he,hz,_⟩:=fk (hT.ty _ _ hg);rw[hb]at hb';cases d<;>simp[Df]at hb';exact⟨_,hd,he,hz⟩
theorem wj{t:Ty}{ty:TypeId}(hT:T.Ok P)(hg:T.get ty=some t)(hb:t.kind=3):∃e,P.underlying ty=some (.slice e)∧((P.info? e).map (·.size)).getD 0=t.esize:=by
 obtain⟨e,h1,h2,_⟩:=zf hT hg hb;exact⟨e,h1,h2⟩
theorem nf{t:Ty}{ty:TypeId}(hT:T.Ok P)(hg:T.get ty=some t)(hb:t.kind=3)(hz:t.esize≠0)(hl:t.ezero.length=t.esize):
  ∃ie z,P.underlying ty=some (.slice t.elem)∧P.info? t.elem=some ie∧ie.zero=some z∧ie.size=t.esize∧ie.bytes=t.ebytes∧z.cells.size=t.esize∧z.cells=t.ezero.toArray:=by
 obtain⟨i,d,hi,hd,_,_,_,_,_,_,hb',he,M0,_,hel,Gl,_⟩:=fk (hT.ty _ _ hg);rw[hb]at hb';cases d<;>simp[Df]at hb';rename_i e;simp only at he M0 hel Gl;subst hel;cases hie:P.info? t.elem with
 |none=>simp[hie]at he;exact absurd he.symm hz
 |some ie=>
  simp[hie]at he Gl;cases Fl:ie.zero with
  |none=>
   simp[hie,Fl]at M0;rw[M0]at hl;simp at hl;exact absurd hl.symm hz
  |some z=>
   simp[hie,Fl]at M0;refine⟨ie,z,hd,rfl,Fl,he,Gl,?_,by rw[←M0]⟩;rw[←hl,←M0];simp
theorem pC{t:Ty}{ty:TypeId}(hT:T.Ok P)(hg:T.get ty=some t)(hb:t.kind=4):P.underlying ty=some (.array t.alen t.elem)∧((P.info? t.elem).map (·.size)).getD 0=t.esize:=by
 obtain⟨i,d,hi,hd,hz,hsz,hag,hst,hbo,hik,hkd,hes,M0,hfs,hel,heb,Cv⟩:=fk (hT.ty _ _ hg);rw[hb]at hkd;cases d with
 |array n e=>simp only at hes hel Cv;subst hel Cv;exact⟨hd,hes⟩
 |_=>simp[Df]at hkd
theorem Ia{n:Int}{m:Nat}(h:Vo n m=true):0≤n∧n<m:=by
 cases n with
 |ofNat k=>unfold Vo at h;have h2:k<m:=lZ h;exact⟨Int.natCast_nonneg k,by show(k:Int)<m;omega⟩
 |negSucc k=>simp[Vo]at h
theorem Qi{t:TypeId}{cs:Array Value}{off:Nat}{v:Value}(hT:T.Ok P)(h:Rp T t cs.toList off=some v):(∃y,T.get t=some y∧∃i,P.info? t=some i∧i.size=y.size)∧∀w:World,(part t cs off).run P w=.ok v w:=by
 unfold Rp at h;split at h
 ·rename_i y hy;obtain⟨i,d,hi,hd,hz,hsz,hag,_⟩:=fk (hT.ty _ _ hy);refine⟨⟨y,hy,i,hi,hsz⟩,fun w=>?_⟩;unfold part;simp only[cB,kR hd,bu,hag];cases Ey:y.agg with
  |true=>
   simp only[Ey,bZ]at h;injection h with h;subst h;simp only[fj,cB,iT hi,bu,dT,hsz];congr 2;apply Array.ext';simp[Array.toList_extract,List.extract_eq_take_drop]
  |false=>
   simp only[Ey,cK]at h;rw[eV]at h;simp[h]
 ·simp at h
theorem Mc{ty:TypeId}{x i:Operand}{v:Value}(hT:T.Ok P)(hs:iq T w0 I0 Γ s a w ρ)(hop:o.op=.index ty x i)(h:yU T s ty x i=some v):(execOp a.eval o).run P w=.ok (.value v) w:=by
 unfold yU at h;split at h
 ·rename_i cs k n y hx hi hy;cases hc:(Nat.beq y.kind 4&&Vo n y.alen)with
  |false=>simp[hc]at h
  |true=>
   simp only[hc,bZ]at h;simp only[aK]at hc;obtain⟨hd,hes⟩:=pC hT hy (aI hc.1);have hin:=Ia hc.2;obtain⟨⟨y',hy',i',hi',hsz'⟩,hp⟩:=Qi hT h;have I3:i'.size=y.esize:=by rw[hi']at hes;simpa using hes
   simp[execOp,hop,Instr.index,hs.val hx,hs.val hi,asIntOf,cM hd,hin,iT hi',I3,hp]
 ·simp at h
theorem O8{ty:TypeId}{x i:Operand}{b off:Nat}{v:SV}(hT:T.Ok P)(hs:iq T w0 I0 Γ s a w ρ)(hop:o.op=.indexAddr ty x i)(hx:s.ev x=.ptr b off)(h:xV T s ty i b off=some v):∃off',v=.ptr b off'∧(execOp a.eval o).run P w=.ok (.value (.pointer (some ⟨ρ b,off',none⟩))) w:=by
 unfold xV at h;split at h
 ·rename_i k n y hi hy;cases hc:(Nat.beq y.kind 4&&(Vo n y.alen&& !Nat.beq y.esize 0))with
  |false=>simp[hc]at h
  |true=>
   simp only[hc,bZ]at h;injection h with h;subst h;simp only[aK]at hc;obtain⟨hd,hes⟩:=pC hT hy (aI hc.1);have hin:=Ia hc.2.1;have hne:y.esize≠0:=by
    intro e;rw[e]at hc;simp at hc
   cases hie:P.info? y.elem with
   |none=>simp[hie]at hes;exact absurd hes.symm hne
   |some ie=>
    have I3:ie.size=y.esize:=by rw[hie]at hes;simpa using hes
    refine⟨_,rfl,?_⟩;simp[execOp,hop,Instr.indexAt,Instr.sureAddr,hs.evptr hx,hs.val hi,asIntOf,cM hd,hin,iT hie,I3,gZ]
 ·simp at h
theorem Rk{op:BinOp}{ty:TypeId}{x y:Operand}{yt:TypeId}{u v r:Value}(hT:T.Ok P)(hop:o.op=.binOp op ty x y yt)(hu:a.eval x=u)(hv:a.eval y=v)(h:Yl T op ty u v=some r):
  (execOp a.eval o).run P w=.ok (.value r) w:=by
 have key:((eqGuard op ty x y u v).bind fun _=>binOp op ty u v:Sem Value).run P w=.ok r w:=by
  unfold Yl at h;split at h
  ·rename_i k p k' q;split at h
   ·rename_i hk;subst hk;have hg:(eqGuard op ty x y (.int k p) (.int k q)).run P w=.ok () w:=by
     unfold eqGuard;cases op<;>simp
    rw[Sem.run_bind',hg];cases op<;>simp only at h<;>(try (simp at h;done))<;>(injection h with h;subst h;simp[binOp,Op.intArith,Op.intCmp,intBits_and,intBits_or,intBits_xor])
   ·simp at h
  ·rename_i p q;have hg:(eqGuard op ty x y (.string p) (.string q)).run P w=.ok () w:=by
    unfold eqGuard;cases op<;>simp
   rw[Sem.run_bind',hg];cases op<;>simp only at h<;>(try (simp at h;done))<;>(injection h with h;subst h;simp[binOp,Op.stringOp])
  ·rename_i p q;have hg:(eqGuard op ty x y (.bool p) (.bool q)).run P w=.ok () w:=by
    unfold eqGuard;cases op<;>simp
   rw[Sem.run_bind',hg];split at h
   ·rename_i t ht;cases hbb:t.isBool with
    |false=>simp[hbb]at h
    |true=>
     simp only[hbb,bZ]at h;injection h with h;subst h;have:=B_ (w:=w) (xe hT ht hbb) p q;show(do pure (.bool (←Op.equal ty (.bool p) (.bool q))):Sem Value).run P w=_;simp only[cB,this,bu,dT]
   ·rename_i t ht;cases hbb:t.isBool with
    |false=>simp[hbb]at h
    |true=>
     simp only[hbb,bZ]at h;injection h with h;subst h;have:=B_ (w:=w) (xe hT ht hbb) p q;show(do pure (.bool (!(←Op.equal ty (.bool p) (.bool q)))):Sem Value).run P w=_;simp only[cB,this,bu,dT]
   ·simp at h
  ·simp at h
 simp only[execOp,hop,hu,hv];show(Sem.bind (Sem.bind _ _) _).run P w=_;rw[Sem.run_bind',key];rfl
theorem GK{t:TypeId}{x:Operand}{b off:Nat}{y:Ty}{cs:List Value}(hT:T.Ok P)(hs:iq T w0 I0 Γ s a w ρ)(hop:o.op=.load t x)(hx:s.ev x=.ptr b off)(hy:T.get t=some y)(hcs:s.boxes.getD b none=some cs):
  (y.agg=true→off+y.size≤cs.length→(execOp a.eval o).run P w=.ok (.value (.agg ((cs.drop off).take y.size).toArray)) w)∧
  (y.agg=false→∀v,cs[off]? =some v→(execOp a.eval o).run P w=.ok (.value v) w):=by
 obtain⟨i,d,hi,hd,hz,hsz,hag,_⟩:=fk (hT.ty _ _ hy);have Sx:s.boxes[b]? =some (some cs):=by
  simp only[List.getD]at hcs;cases hb:s.boxes[b]? with
  |none=>simp[hb]at hcs
  |some q=>simp[hb]at hcs;rw[hcs]
 obtain⟨_,e',_,hblk⟩:=hs.box b cs Sx;refine⟨fun Ey hle=>?_,fun Ey v hv=>?_⟩
 ·have hlen:((cs.drop off).take y.size).length=y.size:=by simp;omega
  have hl:=run_loadCells_list (P:=P) w ⟨ρ b,off,none⟩ ((cs.drop off).take y.size) (fun j v hj=>by
   rw[gZ,nV hblk];rw[dz]at hj;split at hj
   ·rw[List.getElem?_drop]at hj;exact hj
   ·simp at hj)
  rw[hlen]at hl;simp only[execOp,hop,Instr.loadAt,Instr.sureAddr,hs.evptr hx,loadVar,cB,Sem.run_map,dT,Sem.run_ite,bu,kR hd,hag,Ey,fj,iT hi,hsz,hl]
 ·have hc:w.cell? ⟨ρ b,off,none⟩=some v:=by rw[nV hblk];exact hv
  simp[execOp,hop,Instr.loadAt,Instr.sureAddr,hs.evptr hx,loadVar,kR hd,hag,Ey,hc]
theorem Cs{ty:TypeId}{x:Operand}{f b off ofs sz:Nat}{ag:Bool}{y:Ty}(hT:T.Ok P)(hs:iq T w0 I0 Γ s a w ρ)(hop:o.op=.fieldAddr ty x f)(hx:s.ev x=.ptr b off)(hy:T.get ty=some y)(hf:y.fields[f]? =some (ofs,sz,ag))(hsz:sz≠0):
  (execOp a.eval o).run P w=.ok (.value (.pointer (some ⟨ρ b,off+ofs,none⟩))) w:=by
 obtain⟨fs,hd,hfs⟩:=oS hT hy (vG hT hy hf);rw[hfs,bL]at hf;cases hff:fs.toList[f]? with
 |none=>rw[hff]at hf;simp at hf
 |some fl=>
  rw[hff]at hf;simp only[di,aq,aG]at hf;obtain⟨hf1,hf2,hf3⟩:=hf;have hff':fs[f]? =some fl:=by rw[←eV];exact hff
  cases hfi:P.info? fl.type with
  |none=>simp[hfi]at hf2;exact absurd hf2.symm hsz
  |some fi=>
   simp[hfi]at hf2;have hne:¬fi.size=0:=by rw[hf2];exact hsz
   simp[execOp,hop,Instr.fieldAt,cM hd,hff',Instr.sureAddr,hs.evptr hx,fieldPlace,iT hfi,hne,gZ,hf1]
theorem we{p q:Nat→Option (Nat×Nat)}:∀{l:List (Nat×Value)} {cs r:Array Value},(∀i x,p i=some x→q i=some x)→Instr.fill p cs l=some r→Instr.fill q cs l=some r
 | [],_,_,_,h=>h
 |(i,v)::l,cs,r,hpq,h=>by
  unfold Instr.fill at h⊢;cases hp:p i with
  |none=>simp[hp]at h
  |some x=>
   obtain⟨o,n⟩:=x;rw[hp]at h;rw[hpq i _ hp];simp only at h⊢;split at h
   ·simp at h
   ·rename_i hc;rw[if_neg hc];exact we hpq h
theorem LG{ty:TypeId}{ps:Array (Nat×Operand)}{vs:List (Nat×Value)}{y:Ty}{cs:Array Value}(hT:T.Ok P)(hs:iq T w0 I0 Γ s a w ρ)(hop:o.op=.build ty ps)(hvs:s.parts ps.toList=some vs)(hy:T.get ty=some y)
  (hall:xT y=true)(hcs:Instr.fill (Fg y) y.zero.cells vs=some cs):
  (execOp a.eval o).run P w=.ok (.value (.agg cs)) w:=by
 have hb:P.built ty vs=some cs:=by
  obtain⟨i,d,hi,qe,hz,hsz,_⟩:=fk (hT.ty _ _ hy);cases hst:y.isStruct with
  |true=>
   unfold xT at hall;simp only[hst,bZ]at hall;obtain⟨fs,hd,hfs⟩:=oS hT hy hst;have xc:fs.toList.mapM (fun f=>(P.info? f.type).map fun i=>(f.offset,i.size))=some (y.fields.map fun f=>(f.1,f.2.1)):=by
    rw[hfs]at hall⊢;generalize fs.toList=l at hall⊢
    induction l with
    |nil=>rfl
    |cons f l ih=>
     simp only[bQ,List.all_cons,aK]at hall;have ih':=ih hall.2;cases hfi:P.info? f.type with
     |none=>simp[hfi]at hall
     |some fi=>
      simp only[List.mapM_cons,hfi,di,Option.bind_eq_bind,k7,ih',Option.pure_def,bQ,jM]
   unfold Program.built;rw[hi,hd];simp only[hz,xc];refine we (fun i x hx=>?_) hcs;unfold Fg at hx;simp only[hst,bZ]at hx;rw[List.getElem?_toArray,bL];exact hx
  |false=>
   unfold xT at hall;simp only[hst,cK,aK]at hall;obtain⟨hd,hes⟩:=pC hT hy (aI hall.1);have hne:y.esize≠0:=by
    intro e;rw[e]at hall;simp at hall
   cases hie:P.info? y.elem with
   |none=>simp[hie]at hes;exact absurd hes.symm hne
   |some ie=>
    have I3:ie.size=y.esize:=by rw[hie]at hes;simpa using hes
    unfold Program.built;rw[hi,hd];simp only[hz,hie];refine we (fun i x hx=>?_) hcs;unfold Fg at hx;simp only[hst,cK]at hx;rw[I3];exact hx
 have acQ:(ps.map fun(i,x)=>(i,a.eval x))=vs.toArray:=by
  have:=hs.partsEq hvs;rw[←this];apply Array.ext';simp
 have hrun:=run_build (P:=P) w ty vs.toArray cs (by simpa using hb);simp only[execOp,hop];rw[acQ,cB,hrun];rfl
theorem NO{src dst:TypeId}{x:Operand}{u r:Value}(hT:T.Ok P)(hop:o.op=.convert src dst x)(hu:a.eval x=u)(ac2:(T.get src).isSome=true)(h:Rl T dst u=some r):(execOp a.eval o).run P w=.ok (.value r) w:=by
 unfold Rl at h;split at h
 ·rename_i y k n hy;split at h
  ·rename_i kd hk;injection h with h;subst h;have hd:=zd hT hy hk;cases hsr:T.get src with
   |none=>simp[hsr]at ac2
   |some ys=>
    obtain⟨i,d,hi,ZW,_⟩:=fk (hT.ty _ _ hsr);simp only[execOp,hop,hu,convert,cB,cM ZW,cM hd,bu];rfl
  ·simp at h
 ·simp at h
theorem NN{c:Bool}{b:Nat}{x:List Value}{sv:SV}(h:(bif c then VR.upd b x else .stuck)=.val sv):False:=by cases c<;>simp at h
theorem Lp{sv:SV}(hT:T.Ok P)(hs:iq T w0 I0 Γ s a w ρ)(h:gp T o s=.val sv):abD P o a w ρ s sv:=by
 unfold gp at h;split at h
 case h_1 x hop=>
  injection h with h;subst h;exact⟨a.eval x,hs.ev x,fun t off e=>fW hs.wf e,by simp[execOp,hop]⟩
 case h_2 x hop=>
  injection h with h;subst h;exact⟨a.eval x,hs.ev x,fun t off e=>fW hs.wf e,by simp[execOp,hop]⟩
 case h_3 c x y hop=>
  split at h
  ·rename_i b hc;injection h with h;subst h;refine⟨bif b then a.eval x else a.eval y,?_,?_,?_⟩
   ·cases b
    ·exact hs.ev y
    ·exact hs.ev x
   ·intro t off e;cases b
    ·exact fW hs.wf e
    ·exact fW hs.wf e
   ·cases b<;>simp[execOp,hop,hs.val hc,asBool]
  ·simp at h
 case h_4 e hop=>
  split at h
  ·cases hd:T.dat e<;>simp[hd]at h
  ·simp at h
 case h_5 e x hop=>
  split at h
  ·cases hd:T.dat e<;>simp[hd]at h
  ·simp at h
 case h_6 t x hop=>
  split at h
  ·rename_i b off hx;split at h
   ·rename_i y cs hy hcs;obtain⟨h1,h2⟩:=GK hT hs hop hx hy hcs;cases Ey:y.agg with
    |true=>
     simp only[Ey,bZ]at h;cases hle:Nat.ble (off+y.size) cs.length with
     |false=>simp[hle]at h
     |true=>
      simp only[hle,bZ]at h;injection h with h;subst h;exact⟨_,rfl,mq,h1 Ey (lZ hle)⟩
    |false=>
     simp only[Ey,cK]at h;split at h
     ·rename_i v hv;injection h with h;subst h;exact⟨_,rfl,mq,h2 Ey v hv⟩
     ·simp at h
   ·simp at h
  ·simp at h
  ·simp at h
 case h_7 t x v hop=>
  split at h
  ·split at h
   ·exact(NN h).elim
   ·simp at h
  ·simp at h
  ·simp at h
 case h_8 ty x f hop=>
  split at h
  ·rename_i b off hx;split at h
   ·rename_i y hy;split at h
    ·rename_i ofs sz ag hf;cases hsz0:Nat.beq sz 0 with
     |true=>simp only[hsz0,bZ]at h;simp at h
     |false=>
      simp only[hsz0,cK]at h;injection h with h;subst h;refine⟨_,rfl,fun t off' e=>by injection e with e1 _;subst e1;exact fW hs.wf hx,Cs hT hs hop hx hy hf ?_⟩;rintro rfl;simp at hsz0
    ·simp at h
   ·simp at h
  ·simp at h
  ·simp at h
 case h_9 x i hop=>
  split at h
  ·rename_i vs hx;split at h
   ·rename_i v hv;injection h with h;subst h;exact⟨_,rfl,mq,by simp[execOp,hop,hs.val hx,Instr.extract,hv]⟩
   ·simp at h
  ·simp at h
 case h_10 ty ps hop=>
  split at h
  ·rename_i vs y hvs hy;cases hst:xT y with
   |false=>simp only[hst,cK]at h;simp at h
   |true=>
    simp only[hst,bZ]at h;split at h
    ·rename_i cs hcs;injection h with h;subst h;exact⟨_,rfl,mq,LG hT hs hop hvs hy hst hcs⟩
    ·simp at h
  ·simp at h
 case h_11 op ty x y yt hop=>
  split at h
  ·rename_i u v hu hv;split at h
   ·rename_i r hr;injection h with h;subst h;exact⟨_,rfl,mq,Rk hT hop (hs.val hu) (hs.val hv) hr⟩
   ·simp at h
  ·simp at h
 case h_12 op ty x hop=>
  split at h
  ·rename_i u hu;split at h
   ·rename_i r hr;injection h with h;subst h;refine⟨_,rfl,mq,?_⟩;cases op<;>cases u<;>simp[vun]at hr<;>subst hr<;>simp[execOp,hop,hs.val hu,Op.unary,Op.intArith]
   ·simp at h
  ·simp at h
 case h_13 src dst x hop=>
  split at h
  ·rename_i u hu;split at h
   ·rename_i r q hr hq;injection h with h;subst h;exact⟨_,rfl,mq,NO hT hop (hs.val hu) (by rw[hq];rfl) hr⟩
   ·simp only[aN]at h;split at h<;>simp at h
   ·simp at h
  ·simp at h
 case h_16 ty x i hop=>
  split at h
  ·rename_i v hv;injection h with h;subst h;exact⟨_,rfl,mq,Mc hT hs hop hv⟩
  ·cases hk:s.known o.op.operands.toList<;>simp only[hk,bZ,cK]at h<;>simp at h
 case h_17 ty x i hop=>
  split at h
  ·rename_i b off hx;split at h
   ·rename_i v hv;injection h with h;subst h;obtain⟨off',rfl,hr⟩:=O8 hT hs hop hx hv;exact⟨_,rfl,fun t off2 e=>by injection e with e1 _;subst e1;exact fW hs.wf hx,hr⟩
   ·simp at h
  ·cases hk:s.known o.op.operands.toList<;>simp only[hk,bZ,cK]at h<;>simp at h
 case h_27 x hop=>
  split at h
  ·rename_i b off hx;injection h with h;subst h;refine⟨_,rfl,fun t o e=>by injection e with e1 _;subst e1;exact fW hs.wf hx,?_⟩;simp[execOp,hop,hs.evptr hx]
  ·rename_i a hx;injection h with h;subst h;exact⟨_,rfl,mq,by simp[execOp,hop,hs.val hx]⟩
  ·simp at h
 case h_28=>simp at h
 case h_21 fn u v hop=>
  split at h
  ·rename_i f u' v' hu hv;injection h with h;subst h;refine⟨_,rfl,mq,?_⟩;have e1:u.map a.eval=u'.toArray:=by
    rw[←hs.vals hu];apply Array.ext';simp
   have e2:v.map a.eval=v'.toArray:=by
    rw[←hs.vals hv];apply Array.ext';simp
   simp[execOp,hop,Instr.makeFunc,e1,e2]
  ·simp at h
 case h_20 c hop=>
  split at h
  ·split at h<;>simp at h
  ·split at h
   ·split at h<;>simp at h
   ·simp at h
  ·cases hk:s.known o.op.operands.toList<;>simp only[hk,bZ,cK]at h<;>simp at h
  ·cases hk:s.known o.op.operands.toList<;>simp only[hk,bZ,cK]at h<;>simp at h
  ·cases hk:s.known o.op.operands.toList<;>simp only[hk,bZ,cK]at h<;>simp at h
  ·cases hk:s.known o.op.operands.toList<;>simp only[hk,bZ,cK]at h<;>simp at h
  ·rename_i hc;split at h
   ·rename_i y x hy hx;obtain⟨at0,Kn,hy⟩:∃t,c.argTypes[0]? =some t∧T.get t=some y:=by
     cases ha:c.argTypes[0]? with
     |none=>rw[ha]at hy;simp at hy
     |some t=>rw[ha]at hy;exact⟨t,rfl,hy⟩
    have hargs:∀v,a.eval x=v→(c.args.map a.eval)[0]? =some v:=by
     intro v hv;rw[Array.getElem?_map,hx];simp[hv]
    split at h
    ·rename_i b hb;cases hk:Nat.beq y.kind 2 with
     |false=>simp[hk]at h
     |true=>
      simp only[hk,bZ]at h;injection h with h;subst h;refine⟨_,rfl,mq,?_⟩;have hd:=zg hT hy (aI hk);simp[execOp,hop,resolve,hc,invoke,builtin,Builtin.len_,Kn,hargs _ (hs.val hb),cM hd,goInt]
    ·rename_i ao n cc hb;cases hk:Nat.beq y.kind 3 with
     |false=>simp[hk]at h
     |true=>
      simp only[hk,bZ]at h;injection h with h;subst h;refine⟨_,rfl,mq,?_⟩;obtain⟨e,hd,_⟩:=wj hT hy (aI hk);simp[execOp,hop,resolve,hc,invoke,builtin,Builtin.len_,Kn,hargs _ (hs.val hb),cM hd,goInt]
    ·simp at h
   ·simp at h
  ·simp at h
 all_goals (first|(cases hk:s.known o.op.operands.toList<;>simp only[hk,bZ,cK]at h<;>simp at h;done)|skip)
theorem T3{cs:List Value}(hT:T.Ok P)(hs:iq T w0 I0 Γ s a w ρ)(h:gp T o s=.new cs):
  ∃e,T.dat e=false∧(execOp a.eval o).run P w=.ok (.value (.pointer (some ⟨w.heap.size,0,none⟩))) (w.alloc (.cells cs.toArray e)):=by
 unfold gp at h;split at h
 case h_4 e hop=>
  split at h
  ·rename_i y hy;cases hd:T.dat e with
   |true=>simp[hd]at h
   |false=>
    simp only[hd,cK]at h;injection h with h;subst h;obtain⟨i,d,hi,qe,hz,hsz,_⟩:=fk (hT.ty _ _ hy);refine⟨e,hd,?_⟩;simp only[execOp,hop,Instr.alloc,newVar,newRow,cB,dT,HJ hi hz,bu,run_newObj,World.alloc_eq]
  ·simp at h
 case h_5 e x hop=>
  split at h
  ·rename_i v hv;cases hd:T.dat e with
   |true=>simp[hd]at h
   |false=>
    simp only[hd,cK]at h;injection h with h;subst h;refine⟨e,hd,?_⟩;simp only[execOp,hop,hs.val hv,Instr.box,newVar,newRow,cB,dT,bu,run_newObj,World.alloc_eq]
  ·simp at h
 all_goals
  exfalso
  (try simp only[aN]at h)
  (repeat' (first|(simp at h;done)|split at h))
theorem T6{b:Nat}{cs:List Value}(hT:T.Ok P)(hs:iq T w0 I0 Γ s a w ρ)(h:gp T o s=.upd b cs):
  ∃uS,s.boxes[b]? =some (some uS)∧(execOp a.eval o).run P w=.ok .skip (w.setRow (ρ b) cs.toArray):=by
 unfold gp at h;split at h
 case h_7 t x v hop=>
  split at h
  ·rename_i b' off u hx hv;split at h
   ·rename_i y uS hy hcs;cases hc:(Nat.beq u.cells.size y.size&&(Nat.ble (off+y.size) uS.length&&AE u.cells.toList))with
    |false=>simp only[hc,cK]at h;simp at h
    |true=>
     simp only[hc,bZ]at h;injection h with h1 h2;subst h1 h2;simp only[aK]at hc;obtain⟨c1,c2,c3⟩:=hc;have c1':=aI c1;have c2':=lZ c2;have Sx:s.boxes[b']? =some (some uS):=by
      simp only[List.getD]at hcs;cases hb:s.boxes[b']? with
      |none=>simp[hb]at hcs
      |some q=>simp[hb]at hcs;rw[hcs]
     obtain⟨_,e',_,hblk⟩:=hs.box b' uS Sx;obtain⟨i,d,hi,qe,hz,hsz,_⟩:=fk (hT.ty _ _ hy);refine⟨uS,Sx,?_⟩;have hlen:u.cells.toList.length=y.size:=by simpa using c1'
     have hst:=run_storeCells_at (P:=P) (ρ b') off e' u.cells.toList 0 uS.toArray w hblk (by simp only[qB];omega) (fun v hv=>y6 c3 v hv);rw[hlen]at hst;have hne:¬u.cells.size≠i.size:=by simp[c1',hsz]
     simp only[execOp,hop,Instr.storeAt,Instr.sureAddr,hs.evptr hx,hs.val hv,storeVar,cB,dT,bu,iT hi,if_neg hne,hst,fK]
   ·simp at h
  ·simp at h
  ·simp at h
 all_goals
  exfalso
  (try simp only[aN]at h)
  (repeat' (first|(simp at h;done)|split at h))
theorem Ib{f:FuncId}{args:List Value}(hs:iq T w0 I0 Γ s a w ρ)(h:gp T o s=.call f args)(hf:DV P f):
  (execOp a.eval o).run P w=.ok (.enter f args.toArray) w:=by
 unfold gp at h;split at h
 case h_20 c hop=>
  split at h
  ·rename_i f' hc;split at h
   ·rename_i vs hvs;injection h with h1 h2;subst h1 h2;obtain⟨fn,Fj,hnm,hbd⟩:=hf;have hargs:c.args.map a.eval=vs.toArray:=by
     rw[←hs.vals hvs];apply Array.ext';simp
    have WD:¬fn.name= "runtime.NumGoroutine" :=by simpa using hnm
    have Wt:¬fn.body=none:=by
     intro e;rw[e]at hbd;simp at hbd
    simp[execOp,hop,resolve,hc,Act.eval,Deferred.ofValue,invoke,callFunc,Fj,WD,Wt,hargs]
   ·simp at h
  ·rename_i x hc;split at h
   ·rename_i f' u v hx;split at h
    ·rename_i vs hvs;replace hvs:=(wL hvs).1;injection h with h1 h2;subst h1 h2;obtain⟨fn,Fj,hnm,hbd⟩:=hf;have hargs:c.args.map a.eval=vs.toArray:=by
      rw[←hs.vals hvs];apply Array.ext';simp
     have WD:¬fn.name= "runtime.NumGoroutine" :=by simpa using hnm
     have Wt:¬fn.body=none:=by
      intro e;rw[e]at hbd;simp at hbd
     have hxv:=hs.val hx;simp[execOp,hop,resolve,hc,hxv,Deferred.ofValue,invoke,callFunc,Fj,WD,Wt,hargs]
    ·simp at h
   ·simp at h
  all_goals
   exfalso
   (try simp only[aN]at h)
   (repeat' (first|(simp at h;done)|split at h))
 all_goals
  exfalso
  (try simp only[aN]at h)
  (repeat' (first|(simp at h;done)|split at h))
theorem T4(hs:iq T w0 I0 Γ s a w ρ)(h:gp T o s=.own):execOp a.eval o=execOp s.rho o:=by
 have key:(∀cs b,o.op≠.select cs b)∧∀x∈o.op.operands,a.eval x=s.rho x:=by
  unfold gp at h;split at h
  case h_7 t x v hop=>
   split at h
   ·exfalso
    (try simp only[aN]at h)
    (repeat' (first|(simp at h;done)|split at h))
   ·rename_i u v' hu hv;refine⟨by simp[hop],?_⟩;simp only[hop,Op.operands];intro z hz;simp only[iM,aF,aJ,b_]at hz;rcases hz with rfl|rfl
    ·rw[hs.val hu];simp[VS.rho,hu,SV.val?]
    ·rw[hs.val hv];simp[VS.rho,hv,SV.val?]
   ·simp at h
  case h_19 hop=>
   cases hk:s.known o.op.operands.toList with
   |false=>simp[hk]at h
   |true=>exact⟨by simp[hop],fun x hx=>hs.known hk x (by simpa using hx)⟩
  case h_20 c hop=>
   split at h
   ·split at h<;>simp at h
   ·split at h
    ·split at h<;>simp at h
    ·simp at h
   ·cases hk:s.known o.op.operands.toList with
    |false=>simp[hk]at h
    |true=>exact⟨by simp[hop],fun x hx=>hs.known hk x (by simpa using hx)⟩
   ·cases hk:s.known o.op.operands.toList with
    |false=>simp[hk]at h
    |true=>exact⟨by simp[hop],fun x hx=>hs.known hk x (by simpa using hx)⟩
   ·cases hk:s.known o.op.operands.toList<;>simp[hk]at h
   ·cases hk:s.known o.op.operands.toList<;>simp[hk]at h
   ·exfalso
    (try simp only[aN]at h)
    (repeat' (first|(simp at h;done)|split at h))
   ·simp at h
  case h_23 hop=>
   cases hk:s.known o.op.operands.toList with
   |false=>simp[hk]at h
   |true=>exact⟨by simp[hop],fun x hx=>hs.known hk x (by simpa using hx)⟩
  case h_24 hop=>
   cases hk:s.known o.op.operands.toList with
   |false=>simp[hk]at h
   |true=>exact⟨by simp[hop],fun x hx=>hs.known hk x (by simpa using hx)⟩
  case h_25 hop=>
   cases hk:s.known o.op.operands.toList with
   |false=>simp[hk]at h
   |true=>exact⟨by simp[hop],fun x hx=>hs.known hk x (by simpa using hx)⟩
  all_goals
   exfalso
   (try simp only[aN]at h)
   (repeat' (first|(simp at h;done)|split at h))
 exact jd o key.1 key.2
theorem cE{x:Operand}{v:Value}(h:s.ev x=.val v):s.rho x=v:=by simp[VS.rho,h,SV.val?]
theorem T2(hs:iq T w0 I0 Γ s a w ρ)(h:gp T o s=.ask):execOp a.eval o=execOp s.rho o:=by
 unfold gp at h;split at h
 case h_15 hop=>
  cases hk:s.known o.op.operands.toList with
  |false=>simp[hk]at h
  |true=>exact jd o (by simp[hop]) (fun x hx=>hs.known hk x (by simpa using hx))
 case h_13 src dst x hop=>
  split at h
  ·rename_i u hu;refine jd o (by simp[hop]) (fun z hz=>?_);simp only[hop,Op.operands,iM,aF,aJ,b_]at hz;subst hz;rw[hs.val hu,cE hu]
  ·simp at h
 all_goals
  exfalso
  (try simp only[aN]at h)
  (repeat' (first|(simp at h;done)|split at h))
theorem Ro(hs:iq T w0 I0 Γ s a w ρ)(h:gp T o s=.read):execOp a.eval o=execOp s.rho o:=by
 have key:(∀cs b,o.op≠.select cs b)∧∀x∈o.op.operands,a.eval x=s.rho x:=by
  unfold gp at h;split at h
  case h_6 t x hop=>
   split at h
   ·exfalso
    (try simp only[aN]at h)
    (repeat' (first|(simp at h;done)|split at h))
   ·rename_i v hv;refine⟨by simp[hop],?_⟩;simp only[hop,Op.operands];intro y hy;simp only[iM,aF,aJ,b_]at hy;subst hy;rw[hs.val hv,cE hv]
   ·simp at h
  case h_8 ty x f hop=>
   split at h
   ·exfalso
    (try simp only[aN]at h)
    (repeat' (first|(simp at h;done)|split at h))
   ·rename_i v hv;refine⟨by simp[hop],?_⟩;simp only[hop,Op.operands];intro y hy;simp only[iM,aF,aJ,b_]at hy;subst hy;rw[hs.val hv,cE hv]
   ·simp at h
  case h_11 op ty x y yt hop=>
   split at h
   ·rename_i u v hu hv;refine⟨by simp[hop],?_⟩;simp only[hop,Op.operands];intro z hz;simp only[iM,aF,aJ,b_]at hz;rcases hz with rfl|rfl
    ·rw[hs.val hu,cE hu]
    ·rw[hs.val hv,cE hv]
   ·simp at h
  case h_12 op ty x hop=>
   split at h
   ·rename_i u hu;refine⟨by simp[hop],?_⟩;simp only[hop,Op.operands];intro z hz;simp only[iM,aF,aJ,b_]at hz;subst hz;rw[hs.val hu,cE hu]
   ·simp at h
  case h_13 src dst x hop=>
   split at h
   ·rename_i u hu;refine⟨by simp[hop],?_⟩;simp only[hop,Op.operands];intro z hz;simp only[iM,aF,aJ,b_]at hz;subst hz;rw[hs.val hu,cE hu]
   ·simp at h
  case h_20 c hop=>
   split at h
   ·exfalso
    (repeat' (first|(simp at h;done)|split at h))
   ·exfalso
    (repeat' (first|(simp at h;done)|split at h))
   ·cases hk:s.known o.op.operands.toList<;>simp[hk]at h
   ·cases hk:s.known o.op.operands.toList<;>simp[hk]at h
   ·cases hk:s.known o.op.operands.toList with
    |false=>simp[hk]at h
    |true=>exact⟨by simp[hop],fun x hx=>hs.known hk x (by simpa using hx)⟩
   ·cases hk:s.known o.op.operands.toList with
    |false=>simp[hk]at h
    |true=>exact⟨by simp[hop],fun x hx=>hs.known hk x (by simpa using hx)⟩
   ·exfalso
    (try simp only[aN]at h)
    (repeat' (first|(simp at h;done)|split at h))
   ·simp at h
  case h_14 hop=>
   cases hk:s.known o.op.operands.toList with
   |false=>simp[hk]at h
   |true=>exact⟨by simp[hop],fun x hx=>hs.known hk x (by simpa using hx)⟩
  case h_16 hop=>
   split at h
   ·simp at h
   ·cases hk:s.known o.op.operands.toList with
    |false=>simp[hk]at h
    |true=>exact⟨by simp[hop],fun x hx=>hs.known hk x (by simpa using hx)⟩
  case h_17 hop=>
   split at h
   ·split at h<;>simp at h
   ·cases hk:s.known o.op.operands.toList with
    |false=>simp[hk]at h
    |true=>exact⟨by simp[hop],fun x hx=>hs.known hk x (by simpa using hx)⟩
  case h_18 hop=>
   cases hk:s.known o.op.operands.toList with
   |false=>simp[hk]at h
   |true=>exact⟨by simp[hop],fun x hx=>hs.known hk x (by simpa using hx)⟩
  case h_22 hop=>
   cases hk:s.known o.op.operands.toList with
   |false=>simp[hk]at h
   |true=>exact⟨by simp[hop],fun x hx=>hs.known hk x (by simpa using hx)⟩
  case h_26 hop=>
   cases hk:s.known o.op.operands.toList with
   |false=>simp[hk]at h
   |true=>exact⟨by simp[hop],fun x hx=>hs.known hk x (by simpa using hx)⟩
  all_goals
   exfalso
   (try simp only[aN]at h)
   (repeat' (first|(simp at h;done)|split at h))
 exact jd o key.1 key.2
theorem vN{ops:Array Oper}{g:Bool}(hs:iq T w0 I0 Γ s a w ρ)(h:gF ops o s=some g):Region.wanted o (yielded ops a.tmps)=g:=by
 unfold gF at h;unfold Region.wanted;split at h
 ·rename_i hg;rw[hg];cases h;rfl
 ·rename_i j want hg;rw[hg];simp only[yielded];split at h
  ·rename_i hd;rw[hd];cases h;rfl
  ·rename_i t hd;rw[hd];simp only[k7];have Kn:∀sv,s.tmps[t]? =some sv→∃v,a.tmps[t]? =some v∧rel ρ sv v:=by
    intro sv hsv;have hlt:t<a.tmps.size:=by
     rw[hs.len];exact(List.getElem?_eq_some_iff.1 hsv).1
    have:=hs.tmps t sv hsv;exact⟨a.tmps[t],by simp[hlt],by simpa [hlt]using this⟩
   split at h
   ·rename_i hn;have:a.tmps[t]? =none:=by
     apply Array.getElem?_eq_none;rw[hs.len];exact List.getElem?_eq_none_iff.1 hn
    rw[this];cases h;rfl
   ·rename_i b hb;obtain⟨v,hv,hr⟩:=Kn _ hb;rw[hv];have:v=.bool b:=hr;subst this;cases h;cases b<;>cases want<;>rfl
   ·rename_i u hnb hu;obtain⟨v,hv,hr⟩:=Kn _ hu;rw[hv];have:v=u:=hr;subst this;cases h;cases v<;>first|rfl|exact absurd rfl (hnb _)
   ·simp at h
theorem o6{ops:Array Oper}{Q:Exit→Act→World→Prop}{i:Nat}{K:VS→List aC→Prop}{K':Act→World→Prop}(hT:T.Ok P)(hi:ops[i]? =some o)(h:pS T P ops o K s Γ)(hs:iq T w0 I0 Γ s a w ρ)
  (hK:∀s Γ a w ρ,iq T w0 I0 Γ s a w ρ→K s Γ→K' a w)(vI:∀ch a w,T.pan ch→a.defers=I0.ds→ka I0.x w0 w→(∃ks own,T.held ks own∧gB T own w∧∀x∈ks,a.tmps.getD x.1 undef=x.2)→Q (.panic ch) a w):wpOp P ops Q i K' a w:=by
 unfold wpOp;rw[hi];simp only;unfold pS at h;split at h
 ·rename_i hg;rw[vN hs hg,if_pos rfl];left;unfold Oper.wp;unfold sG at h;split at h
  ·rename_i sv hv;obtain⟨v,hr,hp,hrun⟩:=Lp hT hs hv;rw[hrun];exact hK _ _ _ _ _ (hs.put hr hp) h
  ·rename_i cs hv;obtain⟨e,he,hrun⟩:=T3 hT hs hv;rw[hrun];split at h
   ·rename_i d hd;rw[Oper.upon_value,hd];exact hK _ _ _ _ _ (hs.new he h.1) h.2
   ·exact h.elim
  ·rename_i b cs hv;obtain⟨uS,hb,hrun⟩:=T6 hT hs hv;rw[hrun];exact hK _ _ _ _ _ ((hs.upd hb).put (sv:=.val undef) rfl mq) h
  ·rename_i hv;obtain⟨v,aag,hk⟩:=h;rw[Ro hs hv,aag.mem _ _ hs.dataOK hs.facts hs.own];exact hK _ _ _ _ _ (hs.put (sv:=.val v) rfl mq) hk
  ·rename_i hv;obtain⟨post,hp,hk⟩:=h;obtain⟨v,Δ,w',hrun,hpv,hb,hd⟩:=hp _ _ hs.dataOK hs.facts;rw[T2 hs hv,hrun];exact hK _ _ _ _ _ ((hs.back hb hd).put (sv:=.val v) rfl mq) (hk v Δ hpv)
  ·rename_i hv;obtain⟨post,hp,hk⟩:=h;obtain⟨v,O,M,Δ,w',r,hrun,hr,hpv,pA,ho,hn,A5,hm,hmn,Ew,hd⟩:=hp _ _ hs.dataOK hs.facts hs.own hs.nod hs.mapAt hs.mnod (fun b hx hI=>by
    rcases hx with⟨cs,hx⟩|⟨m,hx⟩
    ·exact hI.2.2.1 cs hx
    ·exact hI.2.2.2 m hx)
   have hs1:=hs.ownedX (O1:=[]) (Oin:=s.own) (O2:=[]) (O:=O) (M1:=[]) (Min:=s.maps) (M2:=[]) (M:=M) (by simp) (by simp) pA ho hn A5 hm hmn Ew hd;simp only[az,ai]at hs1;have hs':=hs1.put (d:=o.dst) (sv:=.val v) rfl mq;rw[T4 hs hv,hrun];rcases hr with rfl|⟨rfl,rfl⟩
   ·exact hK _ _ _ _ _ hs' (hk v O M Δ hpv)
   ·exact hK _ _ _ _ _ hs' (hk undef O M Δ hpv)
  ·rename_i f args hv;rcases h with⟨post,⟨hf,hc⟩,hk⟩|⟨_,O1,Oin,O2,M1,Min,M2,post,eo,em,eh,⟨hf,hc⟩,hk⟩
   ·rw[Ib hs hv hf,Oper.upon_enter];refine(hc _ _ hs.dataOK hs.facts).mono fun e w' he=>?_;obtain⟨v,O,Δ,rfl,hp,hb,ho,hn,A5,hd⟩:=he;exact hK _ _ _ _ _ ((hs.backO hb ho hn A5 hd).put (sv:=.val v) rfl mq) (hk v O Δ hp)
   ·rw[Ib hs hv hf,Oper.upon_enter];have OX:∀b cs,(b,cs)∈Oin→(b,cs)∈s.own:=fun b cs hb=>by rw[eo];simp[hb]
    have M6:∀b m,(b,m)∈Min→(b,m)∈s.maps:=fun b m hb=>by rw[em];simp[hb]
    have hod:=hs.nod;have hmd:=hs.mnod;rw[eo]at hod;rw[em]at hmd;refine(hc _ _ hs.dataOK hs.facts (fun b cs hb=>hs.own b cs (OX b cs hb)) (rf hod).2 (fun b m hb=>hs.mapAt b m (M6 b m hb)) (rf hmd).2 (fun b hx hI=>?_)).mono fun e w' he=>?_
    ·rcases hx with⟨cs,hx⟩|⟨m,hx⟩
     ·exact hI.2.2.1 cs (OX b cs hx)
     ·exact hI.2.2.2 m (M6 b m hx)
    ·rcases he with⟨v,O,M,Δ,rfl,hp,hk',ho,hn,A5,hm,hmn,Ew,hd⟩|⟨ch,rfl,hch,hk'⟩
     ·exact hK _ _ _ _ _ ((hs.ownedX eo em hk' ho hn A5 hm hmn Ew hd).put (sv:=.val v) rfl mq) (hk v O M Δ hp)
     ·have aae:gB T (O1++O2) w':=fun b cs hb=>by
       obtain⟨e,he,hc⟩:=hs.own b cs (by rw[eo];rcases List.mem_append.1 hb with h|h<;>simp[h]);refine⟨e,he,?_⟩;rw[hk'.block b (cw hc) (fun hx=>?_)]
       ·exact hc
       ·rcases hx with⟨cs',hx⟩|⟨m,hx⟩
        ·have hn:=(rf hod).1 b cs' cs hx;rcases List.mem_append.1 hb with h|h
         ·exact hn.1 h
         ·exact hn.2 h
        ·obtain⟨es,cl,hmm,_⟩:=hs.mapAt b m (M6 b m hx);rw[hc]at hmm;simp at hmm
      refine vI ch a w' hch hs.defers (hs.below.then ⟨hk'.os,hk'.tape,hk'.output,hk'.size,fun k hk=>absurd hk (gG _)⟩ (fun k h1 h2=>hk'.block k (cN h1 hs.below.size) (fun hx=>?_))) ⟨eh.choose,O1++O2,eh.choose_spec.1,aae,fun x hx=>hs.tmps x.1 _ (eh.choose_spec.2 x hx).2⟩;rcases hx with⟨cs,hx⟩|⟨m,hx⟩
      ·rcases hs.fresh k cs (OX k cs hx)with h'|h'
       ·omega
       ·exact h2 h'
      ·rcases hs.mfresh k m (M6 k m hx)with h'|h'
       ·omega
       ·exact h2 h'
  ·exact h.elim
 ·rename_i hg;rw[vN hs hg,if_neg (by simp)];exact hK _ _ _ _ _ (hs.put (sv:=.val undef) rfl mq) h
 ·exact h.elim
end
def gX(o:Oper):Bool:=match o.op with| .store .. =>true|_=>false
def zI(T:Tb)(o:Oper):Bool:=match o.op with| .convert src dst _=>Ke T src dst| .call c=>(match c.callee with| .value _=>true| .builtin .append=>true| .builtin .copy=>true|_=>false)| .buildSlice .. =>true| .makeSlice .. =>true| .makeMap .. =>true| .lookup .. =>true| .mapUpdate .. =>true|_=>false
def S8(o:Oper):Bool:=match o.op with| .call c=>(match c.callee with| .builtin .append=>true| .builtin .copy=>true|_=>false)| .makeSlice .. =>true| .makeMap .. =>true| .lookup .. =>true| .mapUpdate .. =>true|_=>false
inductive Ru where
 |put (v:SV)
 |new (cs:List Value)
def VS.app(s:VS)(d:Option Tmp):Ru→VS
 | .put v=>s.put d v
 | .new cs=>match d with
  |some t=>{s with tmps:=s.tmps.set t (.ptr t 0),boxes:=s.boxes.set t (some cs)}
  |none=>s
theorem J7{s:VS}{d:Option Tmp}{e:Ru}:(s.app d e).own=s.own:=by cases e<;>cases d<;>rfl
def Ft(s:VS)(d:Option Tmp)(e:Ru):Prop:=∀cs,e=.new cs→∃t,d=some t∧s.boxes[t]? =some none
theorem rS{s:VS}{d:Option Tmp}{e:Ru}{x:Operand}(h:∀t,d=some t→x≠.tmp t):(s.app d e).ev x=s.ev x:=by
 cases x with
 |tmp u=>
  cases d with
  |none=>cases e<;>rfl
  |some t=>
   have hne:t≠u:=fun e=>h t rfl (by rw[e]);cases e<;>simp[VS.app,VS.put,VS.ev,List.getD,bC,hne]
 |const v=>rfl
 |global g=>rfl
 |func f=>rfl
theorem Se{s:VS}{d:Option Tmp}{e:Ru}(hw:s.wf)(hn:Ft s d e){x:Operand}{b off:Nat}(hx:s.ev x=.ptr b off):(s.app d e).boxes.getD b none=s.boxes.getD b none:=by
 cases e with
 |put v=>cases d<;>rfl
 |new cs=>
  obtain⟨t,rfl,ht⟩:=hn cs rfl;obtain⟨c,hc⟩:=fW hw hx;have:t≠b:=by
   rintro rfl;rw[ht]at hc;simp at hc
  simp[VS.app,List.getD,bC,this]
theorem sC{s s':VS}:∀{l:List Operand},(∀x∈l,s'.ev x=s.ev x)→s'.vals l=s.vals l
 | [],_=>rfl
 |x::r,h=>by simp only[VS.vals,h x (by simp),sC (l:=r) (fun y hy=>h y (cQ _ hy))]
theorem qg{s s':VS}:∀{l:List Operand},(∀x∈l,s'.ev x=s.ev x)→s'.known l=s.known l
 | [],_=>rfl
 |x::r,h=>by simp only[VS.known,h x (by simp),qg (l:=r) (fun y hy=>h y (cQ _ hy))]
theorem uj{s s':VS}:∀{l:List (Nat×Operand)},(∀x∈l,s'.ev x.2=s.ev x.2)→s'.parts l=s.parts l
 | [],_=>rfl
 |(i,x)::r,h=>by simp only[VS.parts,h (i,x) (by simp),uj (l:=r) (fun y hy=>h y (cQ _ hy))]
theorem DS{T:Tb}{o:Oper}{s s':VS}(hev:∀x∈o.op.operands,s'.ev x=s.ev x)(hbx:∀x∈o.op.operands,∀b off,s.ev x=.ptr b off→s'.boxes.getD b none=s.boxes.getD b none):gp T o s'=gp T o s:=by
 have hk:s'.known o.op.operands.toList=s.known o.op.operands.toList:=qg (fun x hx=>hev x (by simpa using hx));unfold gp;cases hop:o.op<;>simp only[hop,Op.operands]at hev hbx hk⊢ <;>(try rfl)
 case move x=>rw[hev x (by simp)]
 case assign x=>rw[hev x (by simp)]
 case pick c x y=>rw[hev c (by simp),hev x (by simp),hev y (by simp)]
 case box e x=>rw[hev x (by simp)]
 case build t ps=>
  rw[uj (s:=s) (s':=s') (l:=ps.toList) (fun x hx=>hev x.2 (by simp only[iM,As];exact⟨x,hx,rfl⟩))]
 case load t x=>
  rw[hev x (by simp)];cases hx:s.ev x with
  |ptr b off=>(try simp only);rw[hbx x (by simp) b off hx]
  |val v=>rfl
  |junk=>rfl
 case store t x v=>
  rw[hev x (by simp),hev v (by simp)];cases hx:s.ev x with
  |ptr b off=>
   cases hv:s.ev v with
   |val u=>simp only;rw[hbx x (by simp) b off hx]
   |ptr b' off'=>rfl
   |junk=>rfl
  |val u=>cases hv:s.ev v<;>rfl
  |junk=>rfl
 case makeSlice t l c=>rw[hk]
 case binOp op ty x y yt=>rw[hev x (by simp),hev y (by simp)]
 case unOp op ty x=>rw[hev x (by simp)]
 case convert src dst x=>rw[hev x (by simp)]
 case fieldAddr ty x f=>rw[hev x (by simp)]
 case extract x i=>rw[hev x (by simp)]
 case field ty x f=>rw[hk]
 case index ty x i=>rw[hk,show yU T s' ty x i=yU T s ty x i by unfold yU;rw[hev x (by simp),hev i (by simp)]]
 case indexAddr ty x i=>
  rw[hk,hev x (by simp)];cases hx:s.ev x with
  |ptr b off=>simp only[show xV T s' ty i b off=xV T s ty i b off by unfold xV;rw[hev i (by simp)]]
  |val v=>rfl
  |junk=>rfl
 case slice ty x l h m=>rw[hk]
 case buildSlice t n ps=>rw[hk]
 case sliceToArrayPointer t x=>rw[hk]
 case makeMap t r=>rw[hk]
 case lookup t x i ok=>rw[hk]
 case mapUpdate t m k v=>rw[hk]
 case makeInterface t x=>rw[hk]
 case nilCheck x=>rw[hev x (by simp)]
 case call c=>
  cases hc:c.callee with
  |value f=>
   have e1:s'.ev f=s.ev f:=hev f (by simp[Call.operands,hc]);have e2:=sC (s:=s) (s':=s') (l:=c.args.toList) (fun x hx=>hev x (by simp[Call.operands,hc];exact .inr (by simpa using hx)));cases f<;>simp only[e1,e2]
  |invoke r m=>rfl
  |builtin b=>
   cases b<;>(first|rfl|(simp only[hk];done)|skip);simp only;cases hx:c.args[0]? with
   |none=>cases(c.argTypes[0]?).bind T.get<;>rfl
   |some x=>
    have hm:x∈c.operands:=by
     unfold Call.operands;rw[hc];exact Array.mem_append.2 (.inr (iG hx))
    cases(c.argTypes[0]?).bind T.get with
    |none=>rfl
    |some y=>simp only[hev x hm]
 case makeFunc fn u v=>
  simp only[sC (s:=s) (s':=s') (l:=u.toList) (fun x hx=>hev x (by simp;exact .inl (by simpa using hx))),sC (s:=s) (s':=s') (l:=v.toList) (fun x hx=>hev x (by simp;exact .inr (by simpa using hx)))]
theorem mo{ops:Array Oper}{o:Oper}{d:Option Tmp}(h:∀t,d=some t→t∉o.looksAt ops){x:Operand}(hx:x∈o.op.operands):∀t,d=some t→x≠.tmp t:=by
 rintro t rfl rfl;refine h t rfl ?_;unfold Oper.looksAt;simp only[eA,List.mem_filterMap];exact .inl ⟨.tmp t,by simpa using hx,rfl⟩
section
variable{T:Tb}{P:Program}{ops:Array Oper}{o:Oper}{s:VS}{d:Option Tmp}{e:Ru}
theorem sD(hw:s.wf)(hl:∀t,d=some t→t∉o.looksAt ops)(hn:Ft s d e):gp T o (s.app d e)=gp T o s:=
 DS (fun _ hx=>rS (mo hl hx)) (fun _ _ _ _ hx'=>Se hw hn hx')
theorem j0(hl:∀t,d=some t→t∉o.looksAt ops):gF ops o (s.app d e)=gF ops o s:=by
 unfold gF;cases hg:o.guard with
 |none=>rfl
 |some g=>
  obtain⟨j,want⟩:=g;simp only;cases hd:(ops[j]?).bind (·.dst)with
  |none=>rfl
  |some t=>
   simp only;have:(s.app d e).tmps[t]? =s.tmps[t]? :=by
    cases d with
    |none=>cases e<;>rfl
    |some u=>
     have hne:u≠t:=by
      rintro rfl;refine hl u rfl ?_;unfold Oper.looksAt;simp[hg,hd]
     cases e<;>simp[VS.app,VS.put,bC,hne]
   rw[this]
theorem nu(h:gp T o s=.read):∀cs b,o.op≠.select cs b:=by
 intro cs b hop;simp[gp,hop]at h
theorem Lz(h:gp T o s=.ask):∀cs b,o.op≠.select cs b:=by
 intro cs b hop;simp[gp,hop]at h
theorem My(h:gp T o s=.own):∀cs b,o.op≠.select cs b:=by
 intro cs b hop;simp[gp,hop]at h
theorem D9:(s.app d e).own=s.own∧(s.app d e).maps=s.maps:=by
 cases e<;>cases d<;>exact⟨rfl,rfl⟩
theorem Mz{Γ:List aC}{post:Value→List (Nat×List Value)→List (Nat×List (Value×Value))→List aC→Prop}(hr:gp T o s=.own)(hl:∀t,d=some t→t∉o.looksAt ops)(h:CG T P (s.app d e) o Γ post):CG T P s o Γ post:=by
 unfold CG at h⊢;rw[(D9 (s:=s) (d:=d) (e:=e)).1,(D9 (s:=s) (d:=d) (e:=e)).2]at h;intro I w hd hh ho A5 hm Ew hx;rw[←jd (ρ:=(s.app d e).rho) (ρ':=s.rho) o (My hr) (fun x hx=>by unfold VS.rho;rw[rS (mo hl hx)])];exact h I w hd hh ho A5 hm Ew hx
theorem LA{Γ:List aC}{post:Value→List aC→Prop}(hr:gp T o s=.ask)(hl:∀t,d=some t→t∉o.looksAt ops)(h:Ng T P (s.app d e) o Γ post):Ng T P s o Γ post:=by
 intro I w hd hh;rw[←jd (ρ:=(s.app d e).rho) (ρ':=s.rho) o (Lz hr) (fun x hx=>by unfold VS.rho;rw[rS (mo hl hx)])];exact h I w hd hh
theorem Rb{Γ Γ':List aC}{v:Value}(hr:gp T o s=.read)(hl:∀t,d=some t→t∉o.looksAt ops)(hs:∀F∈Γ,F∈Γ')(h:Aw T P s o Γ v):Aw T P (s.app d e) o Γ' v:=by
 have heq:execOp (s.app d e).rho o=execOp s.rho o:=jd (ρ:=(s.app d e).rho) (ρ':=s.rho) o (nu hr) (fun x hx=>by unfold VS.rho;rw[rS (mo hl hx)]);refine⟨fun hm w=>by rw[heq];exact h.all hm w,fun I w hd hh ho=>?_⟩;rw[J7]at ho;rw[heq];exact h.mem I w hd (hh.sub hs) ho
theorem JR{Γ:List aC}{v:Value}(hr:gp T o s=.read)(hl:∀t,d=some t→t∉o.looksAt ops)(h:Aw T P (s.app d e) o Γ v):Aw T P s o Γ v:=by
 have heq:execOp (s.app d e).rho o=execOp s.rho o:=jd (ρ:=(s.app d e).rho) (ρ':=s.rho) o (nu hr) (fun x hx=>by unfold VS.rho;rw[rS (mo hl hx)]);refine⟨fun hm w=>by rw[←heq];exact h.all hm w,fun I w hd hh ho=>?_⟩;rw[←heq];exact h.mem I w hd hh (by rw[J7];exact ho)
def pU(T:Tb)(P:Program)(ops:Array Oper)(o:Oper)(s:VS)(Γ:List aC)(e:Ru):Prop:=
 (gF ops o s=some false∧e=.put (.val undef))∨
 (gF ops o s=some true∧((∃v,gp T o s=.val v∧e=.put v)∨(∃cs t,gp T o s=.new cs∧o.dst=some t∧s.boxes[t]? =some none∧e=.new cs)∨(gp T o s=.read∧∃v,Aw T P s o Γ v∧e=.put (.val v))))
theorem oQ{K:VS→List aC→Prop}{Γ:List aC}(h:pU T P ops o s Γ e)(hk:K (s.app o.dst e) Γ):pS T P ops o K s Γ:=by
 unfold pS;rcases h with⟨hg,rfl⟩|⟨hg,h⟩
 ·rw[hg];exact hk
 ·rw[hg];simp only[sG];rcases h with⟨v,hv,rfl⟩|⟨cs,t,hv,hd,hb,rfl⟩|⟨hv,v,ht,rfl⟩
  ·rw[hv];exact hk
  ·rw[hv,hd];refine⟨hb,?_⟩;rw[hd]at hk;exact hk
  ·rw[hv];exact⟨v,ht,hk⟩
theorem CF{b:Nat}{cs:List Value}(h:gp T o s=.upd b cs):gX o=true:=by
 unfold gX;unfold gp at h;cases hop:o.op<;>simp only[hop]at h⊢ <;>
  (exfalso
   (try simp only[aN]at h)
   (repeat' (first|(simp at h;done)|split at h)))
theorem qO{f:FuncId}{args:List Value}(h:gp T o s=.call f args):zI T o=true:=by
 unfold zI;unfold gp at h;cases hop:o.op<;>simp only[hop]at h⊢
 case call c=>
  split at h
  ·rename_i hc;rw[hc]
  ·rename_i hc;rw[hc]
  all_goals
   exfalso
   (try simp only[aN]at h)
   (repeat' (first|(simp at h;done)|split at h))
 all_goals
  exfalso
  (try simp only[aN]at h)
  (repeat' (first|(simp at h;done)|split at h))
theorem sE(h:gp T o s=.ask):zI T o=true:=by
 unfold zI;unfold gp at h;cases hop:o.op<;>simp only[hop]at h⊢
 case convert src dst x=>
  split at h
  ·split at h
   ·simp at h
   ·cases hc:Ke T src dst with
    |true=>rfl
    |false=>simp[hc]at h
   ·simp at h
  ·simp at h
 all_goals
  exfalso
  (try simp only[aN]at h)
  (repeat' (first|(simp at h;done)|split at h))
theorem sF(h:gp T o s=.own):gX o=true∨(S8 o=true∧zI T o=true):=by
 unfold gX S8 zI;unfold gp at h;cases hop:o.op<;>simp only[hop]at h⊢
 case store t x v=>simp
 case makeSlice t l c=>simp
 case makeMap t r=>simp
 case lookup t x i ok=>simp
 case mapUpdate t m k v=>simp
 case call c=>
  split at h
  ·exfalso
   (repeat' (first|(simp at h;done)|split at h))
  ·exfalso
   (repeat' (first|(simp at h;done)|split at h))
  ·rename_i hc;rw[hc];simp
  ·rename_i hc;rw[hc];simp
  ·exfalso
   simp only[aN]at h
   (repeat' (first|(simp at h;done)|split at h))
  ·exfalso
   simp only[aN]at h
   (repeat' (first|(simp at h;done)|split at h))
  ·exfalso
   simp only[aN]at h
   (repeat' (first|(simp at h;done)|split at h))
  ·simp at h
 all_goals
  exfalso
  (try simp only[aN]at h)
  (repeat' (first|(simp at h;done)|split at h))
theorem yM(hl:zI T o=false)(hst:gX o=false):gp T o s≠.own:=fun h=>by
 rcases sF h with h'|⟨_,h'⟩
 ·rw[hst]at h';simp at h'
 ·rw[hl]at h';simp at h'
theorem zN{K:VS→List aC→Prop}{Γ:List aC}(hst:gX o=false)(hno:gp T o s≠.own)(h:pS T P ops o K s Γ):
  (∃e,pU T P ops o s Γ e∧K (s.app o.dst e) Γ)∨(gF ops o s=some true∧∃f args,gp T o s=.call f args∧xU T P f args (fun v s' Γ'=>K (s'.app o.dst (.put (.val v))) Γ') s Γ)∨
  (gF ops o s=some true∧gp T o s=.ask∧∃post,Ng T P s o Γ post∧∀v Δ,post v Δ→K (s.app o.dst (.put (.val v))) (Δ++Γ)):=by
 unfold pS at h;split at h
 ·rename_i hg;unfold sG at h;split at h
  ·rename_i v hv;exact .inl ⟨.put v,.inr ⟨hg,.inl ⟨v,hv,rfl⟩⟩,h⟩
  ·rename_i cs hv;split at h
   ·rename_i t ht;exact .inl ⟨.new cs,.inr ⟨hg,.inr (.inl ⟨cs,t,hv,ht,h.1,rfl⟩)⟩,by rw[ht];exact h.2⟩
   ·exact h.elim
  ·rename_i b cs hv;rw[CF hv]at hst;simp at hst
  ·rename_i hv;obtain⟨v,ht,hk⟩:=h;exact .inl ⟨.put (.val v),.inr ⟨hg,.inr (.inr ⟨hv,v,ht,rfl⟩)⟩,hk⟩
  ·rename_i hv;exact .inr (.inr ⟨hg,hv,h⟩)
  ·rename_i hv;exact absurd hv hno
  ·rename_i f args hv;exact .inr (.inl ⟨hg,f,args,hv,h⟩)
  ·exact h.elim
 ·rename_i hg;exact .inl ⟨.put (.val undef),.inl ⟨hg,rfl⟩,h⟩
 ·exact h.elim
theorem pU.newOk{Γ:List aC}(h:pU T P ops o s Γ e):Ft s o.dst e:=by
 intro cs hcs;rcases h with⟨_,rfl⟩|⟨_,⟨v,_,rfl⟩|⟨cs',t,_,hd,hb,rfl⟩|⟨_,v,_,rfl⟩⟩
 ·simp at hcs
 ·simp at hcs
 ·exact⟨t,hd,hb⟩
 ·simp at hcs
theorem wR{t:Nat}(h:d≠some t):(s.app d e).boxes[t]? =s.boxes[t]? :=by
 cases e with
 |put v=>cases d<;>rfl
 |new cs=>
  cases d with
  |none=>rfl
  |some u=>
   have:u≠t:=fun hh=>h (by rw[hh]);simp[VS.app,bC,this]
theorem pU.app{Γ Γ':List aC}{e':Ru}(hw:s.wf)(hl:∀t,d=some t→t∉o.looksAt ops)(hne:∀t,d=some t→o.dst≠some t)(hn:Ft s d e')(hs:∀F∈Γ,F∈Γ')(h:pU T P ops o s Γ e):pU T P ops o (s.app d e') Γ' e:=by
 unfold pU at h⊢;rw[j0 hl,sD hw hl hn];rcases h with h|⟨hg,h⟩
 ·exact .inl h
 ·refine .inr ⟨hg,?_⟩;rcases h with h|⟨cs,t,hv,hd,hb,rfl⟩|⟨hv,v,ht,rfl⟩
  ·exact .inl h
  ·refine .inr (.inl ⟨cs,t,hv,hd,?_,rfl⟩);rw[wR (fun hh=>hne t hh hd)];exact hb
  ·exact .inr (.inr ⟨hv,v,Rb hv hl hs ht,rfl⟩)
theorem pU.unapp{Γ:List aC}{e':Ru}(hw:s.wf)(hl:∀t,d=some t→t∉o.looksAt ops)(hne:∀t,d=some t→o.dst≠some t)(hn:Ft s d e')(h:pU T P ops o (s.app d e') Γ e):pU T P ops o s Γ e:=by
 unfold pU at h⊢;rw[j0 hl,sD hw hl hn]at h;rcases h with h|⟨hg,h⟩
 ·exact .inl h
 ·refine .inr ⟨hg,?_⟩;rcases h with h|⟨cs,t,hv,hd,hb,rfl⟩|⟨hv,v,ht,rfl⟩
  ·exact .inl h
  ·refine .inr (.inl ⟨cs,t,hv,hd,?_,rfl⟩);rw[wR (fun hh=>hne t hh hd)]at hb;exact hb
  ·exact .inr (.inr ⟨hv,v,JR hv hl ht,rfl⟩)
theorem qS{d':Option Tmp}{e':Ru}(hne:∀t,d=some t→d'≠some t):(s.app d e).app d' e'=(s.app d' e').app d e:=by
 cases d with
 |none=>cases e<;>cases d'<;>cases e'<;>rfl
 |some t=>
  cases d' with
  |none=>cases e<;>cases e'<;>rfl
  |some u=>
   have:t≠u:=fun h=>hne t rfl (by rw[h]);cases e<;>cases e'<;>simp[VS.app,VS.put,List.set_comm _ _ this]
theorem IF{O:List (Nat×List Value)}:({s.app d e with own:=O++(s.app d e).own}:VS)=({s with own:=O++s.own}:VS).app d e:=by
 cases e<;>cases d<;>rfl
theorem pU.own{Γ:List aC}(h:pU T P ops o s Γ e)(O:List (Nat×List Value)):pU T P ops o {s with own:=O++s.own} Γ e:=by
 have hv:gp T o {s with own:=O++s.own}=gp T o s:=DS (fun x _=>by cases x<;>rfl) (fun _ _ _ _ _=>rfl);unfold pU at h⊢;rw[hv];rcases h with h|⟨hg,h⟩
 ·exact .inl h
 ·refine .inr ⟨hg,?_⟩;rcases h with h|h|⟨hr,v,ht,rfl⟩
  ·exact .inl h
  ·exact .inr (.inl h)
  ·have heq:execOp ({s with own:=O++s.own}:VS).rho o=execOp s.rho o:=jd (ρ:=({s with own:=O++s.own}:VS).rho) (ρ':=s.rho) o (nu hr) (fun x _=>by cases x<;>rfl);refine .inr (.inr ⟨hr,v,⟨fun hm w=>by rw[heq];exact ht.all hm w,fun I w hd hh ho=>?_⟩,rfl⟩);rw[heq];exact ht.mem I w hd hh (fun b cs hc=>ho b cs (List.mem_append.2 (.inr hc)))
def CU(o:Oper):Bool:=match o.op with| .call c=>(match c.callee with| .value _=>true|_=>false)|_=>false
theorem Cm{f:FuncId}{args:List Value}(h:gp T o s=.call f args):CU o=true:=by
 unfold CU;unfold gp at h;cases hop:o.op<;>simp only[hop]at h⊢
 case call c=>
  split at h
  ·rename_i hc;rw[hc]
  ·rename_i hc;rw[hc]
  all_goals
   exfalso
   (try simp only[aN]at h)
   (repeat' (first|(simp at h;done)|split at h))
 all_goals
  (exfalso
   (try simp only[aN]at h)
   (repeat' (first|(simp at h;done)|split at h)))
def CV(T:Tb)(o:Oper):Bool:=match o.op with| .call c=>(match c.callee with| .value (.func f)=>T.calm f| .value _=>T.cloc|_=>false)|_=>false
theorem Rm{f:FuncId}{args:List Value}(h:gp T o s=.call f args)(hc:CV T o=true):T.calm f=true:=by
 unfold CV at hc;split at hc
 ·rename_i c hop;split at hc
  ·rename_i g hg;unfold gp at h;rw[hop]at h;simp only[hg,VS.ev]at h;split at h
   ·rename_i f' x1 x2
    first
    |(injection h with h1 _;rw[←h1];simp_all;done)
    |simp_all
   ·simp at h
  ·rename_i x hne hg;unfold gp at h;rw[hop]at h;simp only[hg]at h;split at h
   ·rename_i g u v hx;split at h
    ·rename_i vs hvs;injection h with h1 _;rw[←h1];exact(wL hvs).2 hc
    ·simp at h
   ·simp at h
  ·simp at hc
 ·simp at hc
theorem Ly{O:List (Nat×List Value)}{M:List (Nat×List (Value×Value))}:({s.app d e with own:=O,maps:=M}:VS)=({s with own:=O,maps:=M}:VS).app d e:=by
 cases e<;>cases d<;>rfl
theorem mH{s s':VS}(hm:ji T o=true)(hev:∀x∈o.op.operands,s'.ev x=s.ev x):gp T o s'=gp T o s:=by
 unfold ji at hm;unfold gp;cases hop:o.op<;>simp only[hop,Op.operands]at hev hm⊢ <;>(try (simp at hm;done))
 case move x=>rw[hev x (by simp)]
 case assign x=>rw[hev x (by simp)]
 case pick c x y=>rw[hev c (by simp),hev x (by simp),hev y (by simp)]
 case build t ps=>
  rw[uj (s:=s) (s':=s') (l:=ps.toList) (fun x hx=>hev x.2 (by simp only[iM,As];exact⟨x,hx,rfl⟩))]
 case binOp op ty x y yt=>rw[hev x (by simp),hev y (by simp)]
 case unOp op ty x=>rw[hev x (by simp)]
 case convert src dst x=>rw[hev x (by simp)]
 case fieldAddr ty x f=>rw[hev x (by simp)]
 case extract x i=>rw[hev x (by simp)]
 case nilCheck x=>rw[hev x (by simp)]
 case indexAddr ty x i=>
  have e1:=hev x (by simp);have e2:=hev i (by simp);simp only[xV,VS.known,e1,e2]
 case call c=>
  split at hm
  ·rename_i hc;rw[hc];simp only;cases hx:c.args[0]? with
   |none=>cases(c.argTypes[0]?).bind T.get<;>rfl
   |some x=>
    have lV:x∈c.operands:=by
     unfold Call.operands;rw[hc];exact Array.mem_append.2 (.inr (iG hx))
    cases(c.argTypes[0]?).bind T.get with
    |none=>rfl
    |some y=>simp only[hev x lV]
  ·rename_i hc;rw[hc];simp only[qg (s:=s) (s':=s') (l:=c.operands.toList) (fun x hx=>hev x (by simpa using hx))]
  ·rename_i hc;rw[hc];simp only[qg (s:=s) (s':=s') (l:=c.operands.toList) (fun x hx=>hev x (by simpa using hx))]
  ·simp at hm
theorem tQ(hm:ji T o=true){cs:List Value}(h:gp T o s=.new cs):False:=by
 unfold ji at hm;unfold gp at h;cases hop:o.op<;>simp only[hop]at h hm<;>(try (simp at hm;done))<;>
  ((try simp only[aN]at h)
   (repeat' (first|(simp at h;done)|split at h)))
theorem MU(hs:gX o=true):(∃b cs,gp T o s=.upd b cs)∨gp T o s=.stuck∨gp T o s=.own:=by
 unfold gX at hs;unfold gp;cases hop:o.op<;>simp only[hop]at hs⊢ <;>(try (simp at hs;done));simp only[aN]
 (repeat' split)<;>first|exact .inr (.inl rfl)|exact .inr (.inr rfl)|exact .inl ⟨_,_,rfl⟩
theorem uH{oi oj:Oper}{K:VS→List aC→Prop}{Γ:List aC}(hw:s.wf)(hjl:zI T oj=false)(UM:gX oj=false)(zG:∀cs,gp T oj s=.new cs→False)(his:gX oi=true)(hno:gp T oi s≠.own)
  (aah:∀b cs,gp T oi s=.upd b cs→gp T oj (({s with boxes:=s.boxes.set b (some cs)}:VS).put oi.dst (.val undef))=gp T oj s)
  (h1:∀t,oj.dst=some t→t∉oi.looksAt ops)(h2:∀t,oj.dst=some t→oi.dst≠some t)(h3:∀t,oi.dst=some t→t∉oj.looksAt ops)
  (h:pS T P ops oj (pS T P ops oi K) s Γ):pS T P ops oi (pS T P ops oj K) s Γ:=by
 have h2':∀t,oi.dst=some t→oj.dst≠some t:=fun t ht hh=>h2 t hh ht;rcases zN UM (yM hjl UM) h with⟨e,hd,hk⟩|⟨_,f,args,hv,_⟩|⟨_,hv,_⟩
 ·have hn:=hd.newOk;have hput:∃v,e=.put v:=by
   cases e with
   |put v=>exact⟨v,rfl⟩
   |new cs=>
    exfalso
    rcases hd with⟨_,he⟩|⟨_,⟨v,_,he⟩|⟨cs',t,hv,_⟩|⟨_,v,_,he⟩⟩
    ·simp at he
    ·simp at he
    ·exact zG _ hv
    ·simp at he
  obtain⟨v,rfl⟩:=hput;unfold pS at hk;rw[j0 h1]at hk;unfold pS;cases hg:gF ops oi s with
  |none=>rw[hg]at hk;exact hk.elim
  |some g=>
   rw[hg]at hk;cases g with
   |false=>
    simp only at hk⊢;refine oQ (hd.app (d:=oi.dst) (e':=.put (.val undef)) hw h3 h2' (fun cs hcs=>by simp at hcs) (fun _ h=>h)) ?_;have:(s.app oj.dst (.put v)).app oi.dst (.put (.val undef))=(s.app oi.dst (.put (.val undef))).app oj.dst (.put v):=qS h2;simp only[VS.app]at this hk⊢;rw[←this];exact hk
   |true=>
    simp only[sG]at hk⊢;rw[sD hw h1 hn]at hk;rcases MU (T:=T) (s:=s) his with⟨b,cs,hv⟩|hv|hv
    ·rw[hv]at hk;rw[hv];simp only at hk⊢;have I8:({s.app oj.dst (.put v)with boxes:=(s.app oj.dst (.put v)).boxes.set b (some cs)}:VS).put oi.dst (.val undef)=(({s with boxes:=s.boxes.set b (some cs)}:VS).put oi.dst (.val undef)).app oj.dst (.put v):=by
      cases I5:oj.dst with
      |none=>rfl
      |some t=>
       cases hid:oi.dst with
       |none=>rfl
       |some u=>
        have:u≠t:=fun hh=>h2' u hid (by rw[I5,hh]);simp[VS.app,VS.put,List.set_comm _ _ this]
     rw[I8]at hk;have hev:∀x∈oj.op.operands,(({s with boxes:=s.boxes.set b (some cs)}:VS).put oi.dst (.val undef)).ev x=s.ev x:=by
      intro x hx;have:=rS (s:={s with boxes:=s.boxes.set b (some cs)}) (e:=.put (.val undef)) (mo h3 hx);simp only[VS.app]at this;rw[this];cases x<;>rfl
     have pW:=aah b cs hv;have hgd:gF ops oj (({s with boxes:=s.boxes.set b (some cs)}:VS).put oi.dst (.val undef))=gF ops oj s:=by
      have:=j0 (ops:=ops) (o:=oj) (s:={s with boxes:=s.boxes.set b (some cs)}) (d:=oi.dst) (e:=.put (.val undef)) h3;simp only[VS.app]at this;rw[this];rfl
     refine oQ (e:=.put v) ?_ hk;unfold pU at hd⊢;rw[hgd,pW];rcases hd with hd|⟨hg',hd⟩
     ·exact .inl hd
     ·refine .inr ⟨hg',?_⟩;rcases hd with hd|⟨cs',t,hv',_,_,he⟩|⟨hv',v',ht,he⟩
      ·exact .inl hd
      ·simp at he
      ·have heq:=jd (ρ:=(({s with boxes:=s.boxes.set b (some cs)}:VS).put oi.dst (.val undef)).rho) (ρ':=s.rho) oj (nu hv') (fun x hx=>by unfold VS.rho;rw[hev x hx]);refine .inr (.inr ⟨hv',v',⟨fun hm w=>by rw[heq];exact ht.all hm w,fun I w hdd hh ho=>?_⟩,he⟩);rw[heq];exact ht.mem I w hdd hh (by cases hid:oi.dst<;>rw[hid]at ho<;>exact ho)
    ·rw[hv]at hk;exact hk.elim
    ·exact absurd hv hno
 ·have:=qO hv;rw[hjl]at this;simp at this
 ·have:=sE hv;rw[hjl]at this;simp at this
theorem Bo{ty:TypeId}{x:Operand}{cs:List Value}(hop:o.op=.load ty x)(h:gp T o s=.new cs):False:=by
 unfold gp at h;rw[hop]at h;simp only[aN]at h
 (repeat' (first|(simp at h;done)|split at h))
theorem Bp{s':VS}{ty:TypeId}{x:Operand}(hop:o.op=.load ty x)(hx:s'.ev x=s.ev x)(hb:∀b1 o1,s.ev x=.ptr b1 o1→s'.boxes.getD b1 none=s.boxes.getD b1 none):gp T o s'=gp T o s:=by
 unfold gp;rw[hop];simp only[hx];cases he:s.ev x with
 |ptr b1 o1=>simp only[hb b1 o1 he]
 |val v=>rfl
 |junk=>rfl
theorem Dk{ty:TypeId}{x:Operand}(hop:o.op=.load ty x)(h:gp T o s=.read):∃u,s.ev x=.val u:=by
 unfold gp at h;rw[hop]at h;cases hx:s.ev x with
 |val u=>exact⟨u,rfl⟩
 |ptr q r=>
  exfalso
  simp only[hx,aN]at h
  (repeat' (first|(simp at h;done)|split at h))
 |junk=>
  exfalso
  simp only[hx]at h;simp at h
theorem pU.handed{oj:Oper}{Γ Γ':List aC}{u:SV}{O:List (Nat×List Value)}{M:List (Nat×List (Value×Value))}{d:Option Tmp}{v:Value}(hd:pU T P ops oj s Γ (.put u))(hm:ji T oj=true∨∃ty x,oj.op=.load ty x∧∀u,s.ev x≠.val u)
  (h3:∀t,d=some t→t∉oj.looksAt ops):pU T P ops oj (({s with own:=O,maps:=M}:VS).put d (.val v)) Γ' (.put u):=by
 have hev:∀x∈oj.op.operands,(({s with own:=O,maps:=M}:VS).put d (.val v)).ev x=s.ev x:=by
  intro x hx;have:=rS (s:={s with own:=O,maps:=M}) (e:=.put (.val v)) (mo h3 hx);simp only[VS.app]at this;rw[this];cases x<;>rfl
 have pW:gp T oj (({s with own:=O,maps:=M}:VS).put d (.val v))=gp T oj s:=by
  rcases hm with hm|⟨ty,x,hop,_⟩
  ·exact mH (T:=T) hm hev
  ·refine Bp hop (hev x (by rw[hop];simp[Op.operands])) (fun b1 o1 _=>?_);cases d<;>rfl
 have hgd:gF ops oj (({s with own:=O,maps:=M}:VS).put d (.val v))=gF ops oj s:=by
  have:=j0 (ops:=ops) (o:=oj) (s:={s with own:=O,maps:=M}) (d:=d) (e:=.put (.val v)) h3;simp only[VS.app]at this;rw[this];rfl
 unfold pU at hd⊢;rw[hgd,pW];rcases hd with hd|⟨hg',hd⟩
 ·exact .inl hd
 ·refine .inr ⟨hg',?_⟩;rcases hd with hd|⟨cs',t,hv',_,_,he⟩|⟨hv',v',ht,he⟩
  ·exact .inl hd
  ·simp at he
  ·have heq:=jd (ρ:=(({s with own:=O,maps:=M}:VS).put d (.val v)).rho) (ρ':=s.rho) oj (nu hv') (fun x hx=>by unfold VS.rho;rw[hev x hx]);rcases hm with hm|⟨ty,x,hop,hnx⟩
   ·exact .inr (.inr ⟨hv',v',.any fun w=>by rw[heq];exact ht.all hm w,he⟩)
   ·obtain⟨q,hq⟩:=Dk hop hv';exact absurd hq (hnx q)
theorem Ri{oi oj:Oper}{K:VS→List aC→Prop}{Γ:List aC}(hw:s.wf)(hj:zI T oj=false)(UM:gX oj=false)(his:gX oi=false)(hno:gp T oi s≠.own)(hpin:∀t,oj.dst=some t→lI t T.pins=false)(AW:T.hand=true→(CU oi&& !CV T oi)=true→ji T oj=true∨∃ty x,oj.op=.load ty x∧∀u,s.ev x≠.val u)
  (h1:∀t,oj.dst=some t→t∉oi.looksAt ops)(h2:∀t,oj.dst=some t→oi.dst≠some t)(h3:∀t,oi.dst=some t→t∉oj.looksAt ops)
  (h:pS T P ops oj (pS T P ops oi K) s Γ):pS T P ops oi (pS T P ops oj K) s Γ:=by
 have h2':∀t,oi.dst=some t→oj.dst≠some t:=fun t ht hh=>h2 t hh ht;rcases zN UM (yM hj UM) h with⟨e,hd,hk⟩|⟨_,f,args,hv,_⟩|⟨_,hv,_⟩
 ·have hn:=hd.newOk;rcases zN his (by rw[sD hw h1 hn];exact hno) hk with⟨e2,hd2,hk2⟩|⟨hg,f,args,hv,ZS⟩|⟨hg,hv,post,hp,hk2⟩
  ·have ZV:=hd2.unapp hw h1 h2 hn;refine oQ ZV (oQ (hd.app hw h3 h2' ZV.newOk (fun _ h=>h)) ?_);rw[qS h2'];exact hk2
  ·rw[j0 h1]at hg;rw[sD hw h1 hn]at hv;unfold pS;rw[hg];simp only[sG];rw[hv];rcases ZS with⟨post,hp,hk2⟩|⟨ht,O1,Oin,O2,M1,Min,M2,post,eo,em,eh,hp,hk2⟩
   rotate_left
   ·rw[D9.1]at eo;rw[D9.2]at em;have hm:=AW ht.1 (by
     rw[Cm hv,dK];cases hcm:CV T oi with
     |false=>rfl
     |true=>
      have:=Rm hv hcm;rw[ht.2]at this;simp at this)
    have hput:∃v,e=.put v:=by
     cases e with
     |put v=>exact⟨v,rfl⟩
     |new cs=>
      exfalso
      rcases hd with⟨_,he⟩|⟨_,⟨v,_,he⟩|⟨cs',t,hv',_⟩|⟨_,v,_,he⟩⟩
      ·simp at he
      ·simp at he
      ·rcases hm with hm|⟨ty,x,hop,_⟩
       ·exact tQ hm hv'
       ·exact Bo hop hv'
      ·simp at he
    obtain⟨u,rfl⟩:=hput;have eh':Ko T s.tmps (O1++O2):=by
     obtain⟨ks,k1,k2⟩:=eh;refine⟨ks,k1,fun x hx=>⟨(k2 x hx).1,?_⟩⟩;have k3:=(k2 x hx).2;cases I5:oj.dst with
     |none=>rw[I5]at k3;exact k3
     |some t=>
      rw[I5]at k3;have hne:t≠x.1:=by
       intro e;have:=hpin t I5;rw[e,(k2 x hx).1]at this;simp at this
      simp only[VS.app,VS.put,bC,if_neg hne]at k3;exact k3
    refine .inr ⟨ht,O1,Oin,O2,M1,Min,M2,post,eo,em,eh',hp,fun v O M Δ hpv=>?_⟩;have hk:=hk2 v O M Δ hpv;rw[Ly,qS h2]at hk;exact oQ (hd.handed (O:=O1++(O++O2)) (M:=M1++(M++M2)) (d:=oi.dst) (v:=v) hm h3) hk
   refine .inl ⟨post,hp,fun v O Δ yg=>?_⟩;refine oQ ((hd.own O).app (s:={s with own:=O++s.own}) (d:=oi.dst) (e':=.put (.val v)) hw h3 h2' (fun cs hcs=>by simp at hcs) (fun F hF=>List.mem_append.2 (.inr hF))) ?_;have:=hk2 v O Δ yg;rw[IF,qS h2]at this;exact this
  ·rw[j0 h1]at hg;rw[sD hw h1 hn]at hv;unfold pS;rw[hg];simp only[sG];rw[hv];refine⟨post,LA hv h1 hp,fun v Δ yg=>?_⟩;refine oQ (hd.app (d:=oi.dst) (e':=.put (.val v)) hw h3 h2' (fun cs hcs=>by simp at hcs) (fun F hF=>List.mem_append.2 (.inr hF))) ?_;have:=hk2 v Δ yg;rw[qS h2]at this;exact this
 ·rw[qO hv]at hj;simp at hj
 ·rw[sE hv]at hj;simp at hj
theorem Fe{oi oj:Oper}{K:VS→List aC→Prop}{Γ:List aC}(hw:s.wf)(hjl:zI T oj=false)(UM:gX oj=false)(hm:ji T oj=true∨∃ty x,oj.op=.load ty x∧∀u,s.ev x≠.val u)(hv:gp T oi s=.own)
  (h1:∀t,oj.dst=some t→t∉oi.looksAt ops)(h2:∀t,oj.dst=some t→oi.dst≠some t)(h3:∀t,oi.dst=some t→t∉oj.looksAt ops)
  (h:pS T P ops oj (pS T P ops oi K) s Γ):pS T P ops oi (pS T P ops oj K) s Γ:=by
 have h2':∀t,oi.dst=some t→oj.dst≠some t:=fun t ht hh=>h2 t hh ht;rcases zN UM (yM hjl UM) h with⟨e,hd,hk⟩|⟨_,f,args,hv',_⟩|⟨_,hv',_⟩
 ·have hn:=hd.newOk;have hput:∃v,e=.put v:=by
   cases e with
   |put v=>exact⟨v,rfl⟩
   |new cs=>
    exfalso
    rcases hd with⟨_,he⟩|⟨_,⟨v,_,he⟩|⟨cs',t,hv',_⟩|⟨_,v,_,he⟩⟩
    ·simp at he
    ·simp at he
    ·rcases hm with hm|⟨ty,x,hop,_⟩
     ·exact tQ hm hv'
     ·exact Bo hop hv'
    ·simp at he
  obtain⟨u,rfl⟩:=hput;unfold pS at hk;rw[j0 h1]at hk;unfold pS;cases hg:gF ops oi s with
  |none=>rw[hg]at hk;exact hk.elim
  |some g=>
   rw[hg]at hk;cases g with
   |false=>
    simp only at hk⊢;refine oQ (hd.app (d:=oi.dst) (e':=.put (.val undef)) hw h3 h2' (fun cs hcs=>by simp at hcs) (fun _ h=>h)) ?_;have:(s.app oj.dst (.put u)).app oi.dst (.put (.val undef))=(s.app oi.dst (.put (.val undef))).app oj.dst (.put u):=qS h2;simp only[VS.app]at this hk⊢;rw[←this];exact hk
   |true=>
    simp only[sG]at hk⊢;rw[sD hw h1 hn,hv]at hk;rw[hv];obtain⟨post,hp,hk⟩:=hk;refine⟨post,Mz hv h1 hp,fun v O M Δ hpv=>?_⟩;have hk:=hk v O M Δ hpv;have I8:({s.app oj.dst (.put u)with own:=O,maps:=M}:VS).put oi.dst (.val v)=(({s with own:=O,maps:=M}:VS).put oi.dst (.val v)).app oj.dst (.put u):=by
     cases I5:oj.dst with
     |none=>rfl
     |some t=>
      cases hid:oi.dst with
      |none=>rfl
      |some q=>
       have:q≠t:=fun hh=>h2' q hid (by rw[I5,hh]);simp[VS.app,VS.put,List.set_comm _ _ this]
    rw[I8]at hk;have hev:∀x∈oj.op.operands,(({s with own:=O,maps:=M}:VS).put oi.dst (.val v)).ev x=s.ev x:=by
     intro x hx;have:=rS (s:={s with own:=O,maps:=M}) (e:=.put (.val v)) (mo h3 hx);simp only[VS.app]at this;rw[this];cases x<;>rfl
    have pW:gp T oj (({s with own:=O,maps:=M}:VS).put oi.dst (.val v))=gp T oj s:=by
     rcases hm with hm|⟨ty,x,hop,_⟩
     ·exact mH (T:=T) hm hev
     ·refine Bp hop (hev x (by rw[hop];simp[Op.operands])) (fun b1 o1 _=>?_);cases oi.dst<;>rfl
    have hgd:gF ops oj (({s with own:=O,maps:=M}:VS).put oi.dst (.val v))=gF ops oj s:=by
     have:=j0 (ops:=ops) (o:=oj) (s:={s with own:=O,maps:=M}) (d:=oi.dst) (e:=.put (.val v)) h3;simp only[VS.app]at this;rw[this];rfl
    refine oQ (e:=.put u) ?_ hk;unfold pU at hd⊢;rw[hgd,pW];rcases hd with hd|⟨hg',hd⟩
    ·exact .inl hd
    ·refine .inr ⟨hg',?_⟩;rcases hd with hd|⟨cs',t,hv',_,_,he⟩|⟨hv',v',ht,he⟩
     ·exact .inl hd
     ·simp at he
     ·have heq:=jd (ρ:=(({s with own:=O,maps:=M}:VS).put oi.dst (.val v)).rho) (ρ':=s.rho) oj (nu hv') (fun x hx=>by unfold VS.rho;rw[hev x hx]);rcases hm with hm|⟨ty,x,hop,hnx⟩
      ·exact .inr (.inr ⟨hv',v',.any fun w=>by rw[heq];exact ht.all hm w,he⟩)
      ·obtain⟨q,hq⟩:=Dk hop hv';exact absurd hq (hnx q)
 ·have:=qO hv';rw[hjl]at this;simp at this
 ·have:=sE hv';rw[hjl]at this;simp at this
def Eo(ops:Array Oper)(t:Nat):Bool:=ops.toList.all fun o=>match o.dst with
 |some d=> !Nat.beq d t
 |none=>true
def sX(ops:Array Oper)(s0:VS)(b:Nat):Nat→Nat→Bool
 |0,_=>false
 |n+1,x=>(match s0.tmps[x]? with
  |some (.ptr b1 _)=> !Nat.beq b1 b
  |_=>true)&&ops.toList.all fun o=>match o.dst with
   |some d=> !Nat.beq d x||(match o.op with
    | .fieldAddr _ (.tmp z) _=>sX ops s0 b n z
    | .indexAddr _ (.tmp z) _=>sX ops s0 b n z
    | .move (.tmp z)=>sX ops s0 b n z
    | .nilCheck (.tmp z)=>sX ops s0 b n z
    |_=>false)
   |none=>true
def GA(o:Oper):Bool:=(match o.op with
 | .alloc _=>true
 | .box _ _=>true
 |_=>false)&&o.guard.isNone
def AF(ops:Array Oper)(y:Nat):Bool:=ops.toList.all fun o=>match o.dst with
 |some d=> !Nat.beq d y||GA o
 |none=>true
def Cz(ops:Array Oper)(s0:VS):Nat→Nat→Bool
 |0,_=>false
 |n+1,x=>(match s0.tmps[x]? with
  |some (.val _)=>false
  |_=>true)&&ops.toList.all fun o=>match o.dst with
   |some d=> !Nat.beq d x||(o.guard.isNone&&match o.op with
    | .fieldAddr _ (.tmp z) _=>Cz ops s0 n z
    |_=>false)
   |none=>true
def RS(ops:Array Oper)(s0:VS)(b:Nat):Nat→Nat→Bool
 |0,_=>false
 |n+1,x=>(match s0.tmps[x]? with
  |some (.val _)=>false
  |some (.ptr b1 _)=>Nat.beq b1 b
  |_=>true)&&ops.toList.all fun o=>match o.dst with
   |some d=> !Nat.beq d x||(o.guard.isNone&&match o.op with
    | .fieldAddr _ (.tmp z) _=>RS ops s0 b n z
    |_=>false)
   |none=>true
def QM(ops:Array Oper)(s0:VS):Nat→Nat→Option Nat
 |0,_=>none
 |n+1,x=>match s0.tmps[x]? with
  |some (.ptr b _)=>some b
  |_=>match ops.toList.find? (fun o=>match o.dst with|some d=>Nat.beq d x|none=>false)with
   |some o=>match o.op with
    | .fieldAddr _ (.tmp z) _=>QM ops s0 n z
    |_=>none
   |none=>none
def je(ops:Array Oper)(s0 s:VS):Prop:=(∀t,Eo ops t=true→s.tmps[t]? =s0.tmps[t]?)∧(∀n b t,sX ops s0 b n t=true→∀o,s.tmps[t]? ≠some (.ptr b o))∧(∀y,AF ops y=true→s.tmps[y]? =s0.tmps[y]? ∨s.tmps[y]? =some (.ptr y 0))∧(∀n t,Cz ops s0 n t=true→∀v,s.tmps[t]? ≠some (.val v))∧∀n b t,RS ops s0 b n t=true→∀v,s.tmps[t]? =some v→(∀u,v≠.val u)∧∀c o,v=.ptr c o→c=b
theorem je.refl(s0:VS):je ops s0 s0:=by
 refine⟨fun _ _=>rfl,fun n b t h o he=>?_,fun _ _=>.inl rfl,fun n t h v he=>?_,fun n b t h v he=>?_⟩
 ·cases n with
  |zero=>simp[sX]at h
  |succ n=>
   unfold sX at h;rw[he]at h;simp at h
 ·cases n with
  |zero=>simp[Cz]at h
  |succ n=>
   unfold Cz at h;rw[he]at h;simp at h
 ·cases n with
  |zero=>simp[RS]at h
  |succ n=>
   unfold RS at h;rw[he]at h;cases v with
   |val u=>simp at h
   |ptr c o=>
    rw[aK]at h;exact⟨fun _=>by simp,fun c' o' e=>by injection e with e _;rw[←e];exact aI h.1⟩
   |junk=>exact⟨fun _=>by simp,fun _ _ e=>by simp at e⟩
theorem Pu{s0:VS}{b n x:Nat}{i:Nat}(h:RS ops s0 b (n+1) x=true)(hi:ops[i]? =some o)(hd:o.dst=some x):o.guard=none∧(match o.op with
  | .fieldAddr _ (.tmp z) _=>RS ops s0 b n z
  |_=>false)=true:=by
 unfold RS at h;rw[aK,e8]at h;have:=h.2 o (by rw[mP];exact iG hi);rw[hd]at this;simpa using this
theorem KC{s0:VS}{n x:Nat}{i:Nat}(h:Cz ops s0 (n+1) x=true)(hi:ops[i]? =some o)(hd:o.dst=some x):o.guard=none∧(match o.op with
  | .fieldAddr _ (.tmp z) _=>Cz ops s0 n z
  |_=>false)=true:=by
 unfold Cz at h;rw[aK,e8]at h;have:=h.2 o (by rw[mP];exact iG hi);rw[hd]at this;simpa using this
theorem Kl{ty:TypeId}{x:Operand}{f:Nat}(hop:o.op=.fieldAddr ty x f):(∃b q,gp T o s=.val (.ptr b q))∨(gp T o s=.read∧∃w,s.ev x=.val w)∨gp T o s=.stuck:=by
 cases hx:s.ev x with
 |val v=>exact .inr (.inl ⟨by unfold gp;rw[hop];simp only[hx],v,rfl⟩)
 |junk=>exact .inr (.inr (by unfold gp;rw[hop];simp only[hx]))
 |ptr q r=>
  have h:(∃b q,gp T o s=.val (.ptr b q))∨gp T o s=.stuck:=by
   unfold gp;rw[hop];simp only[hx,aN];cases T.get ty with
   |none=>exact .inr rfl
   |some y=>
    simp only;cases y.fields[f]? with
    |none=>exact .inr rfl
    |some p=>
     obtain⟨a,b,c⟩:=p;simp only;split
     ·exact .inr rfl
     ·exact .inl ⟨_,_,rfl⟩
  rcases h with h|h
  ·exact .inl h
  ·exact .inr (.inr h)
theorem xy{r:VR}(hv:gp T o s=r)(h1:∀b q,r≠.val (.ptr b q))(h2:r≠.stuck)(h3:r≠.read):∀ty z f,o.op=.fieldAddr ty (.tmp z) f→∃w,s.ev (.tmp z)=.val w:=fun ty z f hop=>by
 subst hv;rcases Kl (T:=T) (s:=s) hop with⟨b,q,h⟩|⟨h,_⟩|h
 ·exact absurd h (h1 b q)
 ·exact absurd h h3
 ·exact absurd h h2
theorem Pq(hv:gp T o s=.read):∀ty z f,o.op=.fieldAddr ty (.tmp z) f→∃w,s.ev (.tmp z)=.val w:=fun ty z f hop=>by
 rcases Kl (T:=T) (s:=s) hop with⟨b,q,h⟩|⟨_,h⟩|h
 ·rw[hv]at h;simp at h
 ·exact h
 ·rw[hv]at h;simp at h
theorem Nw{y:Nat}{i:Nat}(h:AF ops y=true)(hi:ops[i]? =some o)(hd:o.dst=some y):GA o=true:=by
 unfold AF at h;rw[e8]at h;have:=h o (by rw[mP];exact iG hi);rw[hd]at this;simpa using this
theorem x8{r:VR}(hv:gp T o s=r)(h1:∀cs,r≠.new cs)(h2:r≠.stuck)(h:GA o=true):False:=by
 subst hv;unfold GA at h;rw[aK]at h;replace h:=h.1;cases hop:o.op<;>rw[hop]at h<;>simp at h
 case alloc e=>
  unfold gp at h1 h2;rw[hop]at h1 h2;cases hg:T.get e with
  |none=>simp[hg]at h2
  |some y=>
   cases hd:T.dat e with
   |true=>simp[hg,hd]at h2
   |false=>simp[hg,hd]at h1
 case box e x=>
  unfold gp at h1 h2;rw[hop]at h1 h2;cases hx:s.ev x with
  |val v=>
   cases hd:T.dat e with
   |true=>simp[hx,hd]at h2
   |false=>simp[hx,hd]at h1
  |ptr q r=>simp[hx]at h2
  |junk=>simp[hx]at h2
theorem Nv(hg:gF ops o s=some false)(h:GA o=true):False:=by
 unfold GA at h;rw[aK]at h;have h:=h.2;unfold gF at hg;cases hgo:o.guard with
 |none=>rw[hgo]at hg;simp at hg
 |some q=>rw[hgo]at h;simp at h
theorem KD{s0:VS}{b n x:Nat}{i:Nat}(h:sX ops s0 b (n+1) x=true)(hi:ops[i]? =some o)(hd:o.dst=some x):(match o.op with
  | .fieldAddr _ (.tmp z) _=>sX ops s0 b n z
  | .indexAddr _ (.tmp z) _=>sX ops s0 b n z
  | .move (.tmp z)=>sX ops s0 b n z
  | .nilCheck (.tmp z)=>sX ops s0 b n z
  |_=>false)=true:=by
 unfold sX at h;rw[aK,e8]at h;have:=h.2 o (by rw[mP];exact iG hi);rw[hd]at this;simpa using this
theorem C8{ty:TypeId}{x:Operand}{f b off:Nat}(hop:o.op=.fieldAddr ty x f)(h:gp T o s=.val (.ptr b off)):∃q,s.ev x=.ptr b q:=by
 unfold gp at h;rw[hop]at h;cases hx:s.ev x with
 |ptr q r=>
  simp only[hx,aN]at h
  (repeat' (first|(simp at h;done)|split at h))
  injection h with h;injection h with h1 _;subst h1;exact⟨_,rfl⟩
 |val v=>simp[hx]at h
 |junk=>simp[hx]at h
theorem O7{ty:TypeId}{x i:Operand}{b off:Nat}(hop:o.op=.indexAddr ty x i)(h:gp T o s=.val (.ptr b off)):∃q,s.ev x=.ptr b q:=by
 unfold gp at h;rw[hop]at h;cases hx:s.ev x with
 |ptr q r=>
  simp only[hx]at h;split at h
  ·rename_i v hv;injection h with h;subst h;unfold xV at hv;split at hv
   ·simp only[aN]at hv;split at hv
    ·injection hv with hv;injection hv with h1 _;subst h1;exact⟨_,rfl⟩
    ·simp at hv
   ·simp at hv
  ·simp at h
 |val v=>
  simp only[hx,aN]at h
  (repeat' (first|(simp at h;done)|split at h))
 |junk=>
  simp only[hx,aN]at h
  (repeat' (first|(simp at h;done)|split at h))
theorem Bw{cs:List Value}(h:gp T o s=.new cs):(∃e,o.op=.alloc e)∨∃e x,o.op=.box e x:=by
 cases hop:o.op with
 |alloc e=>exact .inl ⟨e,rfl⟩
 |box e x=>exact .inr ⟨e,x,rfl⟩
 |_=>
  unfold gp at h;simp only[hop,aN]at h
  (repeat' (first|(simp at h;done)|split at h))
theorem Gg{t d i:Nat}(h:Eo ops t=true)(hi:ops[i]? =some o)(hd:o.dst=some d):d≠t:=by
 unfold Eo at h;rw[e8]at h;have:=h o (by rw[mP];exact iG hi);rw[hd]at this;rintro rfl;simp at this
theorem je.put{s0:VS}{i:Nat}{v:SV}(h:je ops s0 s)(hi:ops[i]? =some o)(hv:∀b off,v=.ptr b off→gp T o s=.val v)(Cv:GA o=true→False)(hnv:o.guard=none→∀u,v=.val u→∀ty z f,o.op=.fieldAddr ty (.tmp z) f→∃w,s.ev (.tmp z)=.val w):je ops s0 (s.put o.dst v):=by
 refine⟨fun t ht=>?_,fun n b t ht q=>?_,fun y hy=>?_,fun n t ht u=>?_,fun n b t ht u hu=>?_⟩
 ·cases hd:o.dst with
  |none=>exact h.1 t ht
  |some d=>
   have:=Gg ht hi hd;simp only[VS.put,bC,if_neg this];exact h.1 t ht
 ·cases hd:o.dst with
  |none=>exact h.2.1 n b t ht q
  |some d=>
   by_cases Ou:d=t
   ·subst Ou;simp only[VS.put,bC,fj];intro he;split at he
    ·injection he with he;have pW:=hv b q he;rw[he]at pW;cases n with
     |zero=>simp[sX]at ht
     |succ n=>
      have hm:=KD ht hi hd;split at hm
      ·rename_i z _ hop;obtain⟨r,hr⟩:=C8 hop pW;refine h.2.1 n b z hm r ?_;simp only[VS.ev,List.getD]at hr;cases hz:s.tmps[z]? with
       |none=>rw[hz]at hr;simp at hr
       |some y=>rw[hz]at hr;simp at hr;rw[hr]
      ·rename_i z _ hop;obtain⟨r,hr⟩:=O7 hop pW;refine h.2.1 n b z hm r ?_;simp only[VS.ev,List.getD]at hr;cases hz:s.tmps[z]? with
       |none=>rw[hz]at hr;simp at hr
       |some y=>rw[hz]at hr;simp at hr;rw[hr]
      ·rename_i z hop;have hr:s.ev (.tmp z)=.ptr b q:=by
        unfold gp at pW;rw[hop]at pW;injection pW
       refine h.2.1 n b z hm q ?_;simp only[VS.ev,List.getD]at hr;cases hz:s.tmps[z]? with
       |none=>rw[hz]at hr;simp at hr
       |some y=>rw[hz]at hr;simp at hr;rw[hr]
      ·rename_i z hop;have hr:s.ev (.tmp z)=.ptr b q:=by
        unfold gp at pW;rw[hop]at pW;simp only at pW;split at pW
        ·rename_i b1 o1 hx;injection pW with h1;rw[hx,h1]
        ·simp at pW
        ·simp at pW
       refine h.2.1 n b z hm q ?_;simp only[VS.ev,List.getD]at hr;cases hz:s.tmps[z]? with
       |none=>rw[hz]at hr;simp at hr
       |some y=>rw[hz]at hr;simp at hr;rw[hr]
      ·simp at hm
    ·simp at he
   ·simp only[VS.put,bC,if_neg Ou];exact h.2.1 n b t ht q
 ·cases hd:o.dst with
  |none=>exact h.2.2.1 y hy
  |some d=>
   by_cases Ou:d=y
   ·subst Ou;exact(Cv (Nw hy hi hd)).elim
   ·simp only[VS.put,bC,if_neg Ou];exact h.2.2.1 y hy
 rotate_left
 ·cases hd:o.dst with
  |none=>rw[hd]at hu;exact h.2.2.2.2 n b t ht u hu
  |some d=>
   rw[hd]at hu;by_cases Ou:d=t
   ·subst Ou;simp only[VS.put,bC,fj]at hu;split at hu
    ·injection hu with hu;cases n with
     |zero=>simp[RS]at ht
     |succ n=>
      obtain⟨hg,hm⟩:=Pu ht hi hd;split at hm
      ·rename_i ty z f hop;have hz:∀w,s.ev (.tmp z)=w→w≠.junk→(∀u,w≠.val u)∧∀c o,w=.ptr c o→c=b:=fun w hw hj=>by
        refine h.2.2.2.2 n b z hm w ?_;simp only[VS.ev,List.getD]at hw;cases hz:s.tmps[z]? with
        |none=>rw[hz]at hw;simp at hw;exact absurd hw.symm hj
        |some y=>rw[hz]at hw;simp at hw;rw[hw]
       refine⟨fun q hq=>?_,fun c o hc=>?_⟩
       ·obtain⟨w,hw⟩:=hnv hg q (hu.trans hq) ty z f hop;exact(hz _ hw (by simp)).1 w rfl
       ·have pW:=hv c o (hu.trans hc);rw[hu.trans hc]at pW;obtain⟨r,hr⟩:=C8 hop pW;exact(hz _ hr (by simp)).2 c r rfl
      ·simp at hm
    ·simp at hu
   ·simp only[VS.put,bC,if_neg Ou]at hu;exact h.2.2.2.2 n b t ht u hu
 ·cases hd:o.dst with
  |none=>exact h.2.2.2.1 n t ht u
  |some d=>
   by_cases Ou:d=t
   ·subst Ou;simp only[VS.put,bC,fj];intro he;split at he
    ·injection he with he;cases n with
     |zero=>simp[Cz]at ht
     |succ n=>
      obtain⟨hg,hm⟩:=KC ht hi hd;split at hm
      ·rename_i ty z f hop;obtain⟨w,hw⟩:=hnv hg u he ty z f hop;refine h.2.2.2.1 n z hm w ?_;simp only[VS.ev,List.getD]at hw;cases hz:s.tmps[z]? with
       |none=>rw[hz]at hw;simp at hw
       |some y=>rw[hz]at hw;simp at hw;rw[hw]
      ·simp at hm
    ·simp at he
   ·simp only[VS.put,bC,if_neg Ou];exact h.2.2.2.1 n t ht u
def WO(s0:VS)(ops:Array Oper)(oj oi:Oper):Bool:=
 match oj.op with
 | .load _ (.tmp x)=>Cz ops s0 4 x&& !gX oi
 |_=>false
def XZ(s0:VS)(ops:Array Oper)(oj oi:Oper):Bool:=
 match oj.op,oi.op with
 | .load _ (.tmp x),.store _ (.tmp y) _=>match s0.tmps[y]? with
  |some (.ptr b2 _)=>Eo ops y&&sX ops s0 b2 4 x
  |some .junk=>match QM ops s0 4 y with
   |some b=>RS ops s0 b 4 y&&sX ops s0 b 4 x
   |none=>AF ops y&&sX ops s0 y 4 x
  |_=>false
 |_,_=>false
theorem tE{x:Nat}{v:SV}(h:s.ev (.tmp x)=v)(hv:v≠.junk:=by simp):s.tmps[x]? =some v:=by
 simp only[VS.ev,List.getD]at h;cases hz:s.tmps[x]? with
 |none=>rw[hz]at h;simp at h;exact absurd h.symm hv
 |some u=>rw[hz]at h;simp at h;rw[h]
theorem yQ{s0:VS}{oj oi:Oper}(h:XZ s0 ops oj oi=true)(hk:je ops s0 s):∃tj x ti y v,oj.op=.load tj (.tmp x)∧oi.op=.store ti (.tmp y) v∧(∀u,s.ev (.tmp y)≠.val u)∧∀b o,s.ev (.tmp y)=.ptr b o→∀o1,s.ev (.tmp x)≠.ptr b o1:=by
 unfold XZ at h;split at h
 ·rename_i tj x ti y v hj hi;split at h
  ·rename_i b2 o2 g2;simp only[aK]at h;obtain⟨h2,h3⟩:=h;have e2:=hk.1 y h2;rw[g2]at e2;have ey:s.ev (.tmp y)=.ptr b2 o2:=by simp[VS.ev,List.getD,e2]
   refine⟨tj,x,ti,y,v,hj,hi,fun u hu=>?_,fun b o hb o1 he=>?_⟩
   ·rw[ey]at hu;simp at hu
   ·rw[ey]at hb;injection hb with hb _;subst hb;exact hk.2.1 4 b2 x h3 o1 (tE he)
  ·rename_i g2;cases hr:QM ops s0 4 y with
   |some b1=>
    rw[hr]at h;simp only[aK]at h;obtain⟨h2,h3⟩:=h;refine⟨tj,x,ti,y,v,hj,hi,fun u hu=>?_,fun b o hb o1 he=>?_⟩
    ·exact(hk.2.2.2.2 4 b1 y h2 _ (tE hu)).1 u rfl
    ·obtain rfl:=(hk.2.2.2.2 4 b1 y h2 _ (tE hb)).2 b o rfl;exact hk.2.1 4 b x h3 o1 (tE he)
   |none=>
   rw[hr]at h;simp only[aK]at h;obtain⟨h2,h3⟩:=h;have e2:=hk.2.2.1 y h2;rw[g2]at e2;refine⟨tj,x,ti,y,v,hj,hi,fun u hu=>?_,fun b o hb o1 he=>?_⟩
   ·have:=tE hu;rw[this]at e2;simp at e2
   ·have:=tE hb;rw[this]at e2;simp at e2;obtain⟨rfl,_⟩:=e2;exact hk.2.1 4 b x h3 o1 (tE he)
  ·simp at h
 ·simp at h
theorem yu{s0:VS}{oj oi:Oper}(h:WO s0 ops oj oi=true)(hk:je ops s0 s):gX oi=false∧∃ty x,oj.op=.load ty x∧∀u,s.ev x≠.val u:=by
 unfold WO at h;split at h
 ·rename_i ty x hop;simp only[aK,cF]at h;exact⟨h.2,ty,.tmp x,hop,fun u hu=>hk.2.2.2.1 4 x h.1 u (tE hu)⟩
 ·simp at h
theorem MS{ty:TypeId}{x v:Operand}(hop:o.op=.store ty x v)(h:gp T o s=.own):∃u,s.ev x=.val u:=by
 cases hx:s.ev x with
 |val u=>exact⟨u,rfl⟩
 |ptr q r=>
  exfalso
  unfold gp at h;rw[hop]at h;simp only[hx]at h;cases hv:s.ev v with
  |val u=>
   rw[hv]at h;simp only[aN]at h
   (repeat' (first|(simp at h;done)|split at h))
  |ptr q r=>rw[hv]at h;simp at h
  |junk=>rw[hv]at h;simp at h
 |junk=>
  exfalso
  unfold gp at h;rw[hop]at h;simp only[hx]at h;simp at h
theorem MT{ty:TypeId}{x v:Operand}{b:Nat}{cs:List Value}(hop:o.op=.store ty x v)(h:gp T o s=.upd b cs):∃q,s.ev x=.ptr b q:=by
 cases hx:s.ev x with
 |val u=>
  exfalso
  unfold gp at h;rw[hop]at h;simp only[hx]at h;cases hv:s.ev v<;>rw[hv]at h<;>simp at h
 |junk=>
  exfalso
  unfold gp at h;rw[hop]at h;simp only[hx]at h;simp at h
 |ptr q r=>
  unfold gp at h;rw[hop]at h;simp only[hx]at h;cases hv:s.ev v with
  |val u=>
   rw[hv]at h;simp only[aN]at h
   (repeat' (first|(simp at h;done)|split at h))
   injection h with h1 _;subst h1;exact⟨_,rfl⟩
  |ptr q r=>rw[hv]at h;simp at h
  |junk=>rw[hv]at h;simp at h
theorem T5{t off:Nat}(hw:s.wf)(h:gp T o s=.val (.ptr t off)):∃cs,s.boxes[t]? =some (some cs):=by
 unfold gp at h;cases hop:o.op<;>simp only[hop]at h
 case move x=>injection h with h;exact fW hw h
 case assign x=>injection h with h;exact fW hw h
 case nilCheck x=>
  split at h
  ·rename_i b1 o1 hx;injection h with h;rw[h]at hx;exact fW hw hx
  ·simp at h
  ·simp at h
 case pick c x y=>
  split at h
  ·rename_i b hc;injection h with h;cases b
   ·exact fW hw h
   ·exact fW hw h
  ·simp at h
 case fieldAddr ty x f=>
  split at h
  ·rename_i b off hx;simp only[aN]at h
   (repeat' (first|(simp at h;done)|split at h))
   injection h with h;injection h with h1 h2;subst h1;exact fW hw hx
  ·simp at h
  ·simp at h
 case indexAddr ty x i=>
  split at h
  ·rename_i b off hx;split at h
   ·rename_i v hv;injection h with h;subst h;unfold xV at hv;split at hv
    ·rename_i k n y _ _;cases hc:(Nat.beq y.kind 4&&(Vo n y.alen&& !Nat.beq y.esize 0))with
     |false=>simp[hc]at hv
     |true=>
      simp only[hc,bZ]at hv;injection hv with hv;injection hv with h1 h2;subst h1;exact fW hw hx
    ·simp at hv
   ·simp at h
  ·exfalso
   simp only[aN]at h
   (repeat' (first|(simp at h;done)|split at h))
 all_goals
  exfalso
  (try simp only[aN]at h)
  (repeat' (first|(simp at h;done)|split at h))
theorem Yo{t:Nat}{cs:List Value}(hw:s.wf)(hb:s.boxes[t]? =some none):VS.wf {s with tmps:=s.tmps.set t (.ptr t 0),boxes:=s.boxes.set t (some cs)}:=by
 have hl:t<s.boxes.length:=(List.getElem?_eq_some_iff.1 hb).1;intro i u off hi;simp only[bC]at hi⊢;by_cases Ik:t=u
 ·subst Ik;exact⟨cs,by simp[hl]⟩
 ·rw[if_neg Ik];split at hi
  ·split at hi
   ·injection hi with hi;injection hi with hi _;exact absurd hi Ik
   ·simp at hi
  ·exact hw i u off hi
theorem Yp{b:Nat}{cs:List Value}(hw:s.wf):VS.wf {s with boxes:=s.boxes.set b (some cs)}:=by
 intro i u off hi;obtain⟨c,hc⟩:=hw i u off hi;simp only[bC];by_cases hbu:b=u
 ·subst hbu;have hl:b<s.boxes.length:=(List.getElem?_eq_some_iff.1 hc).1;exact⟨cs,by simp[hl]⟩
 ·rw[if_neg hbu];exact⟨c,hc⟩
theorem om{K K':VS→List aC→Prop}{Γ:List aC}{s0:VS}{i:Nat}(hi:ops[i]? =some o)(pA:je ops s0 s)(hw:s.wf)(hk:∀s Γ,je ops s0 s→s.wf→K s Γ→K' s Γ)(h:pS T P ops o K s Γ):pS T P ops o K' s Γ:=by
 have yC:∀{s:VS} {v:Value} t off,SV.val v=.ptr t off→∃cs,s.boxes[t]? =some (some cs):=fun _ _ h=>by simp at h
 unfold pS at h⊢;split at h
 ·rename_i hg
  (try rw[hg])
  (try simp only)
  unfold sG at h⊢;split at h
  ·rename_i v hv
   (try rw[hv])
   exact hk _ _ (pA.put hi (fun _ _ _=>hv) (x8 hv (fun _=>by simp) (by simp)) (fun _ u hu=>xy hv (fun b q e=>by injection e with e;rw[hu]at e;simp at e) (by simp) (by simp))) (uI hw (fun t off e=>T5 hw (by rw[hv,e]))) h
  ·rename_i cs hv
   (try rw[hv])
   split at h
   ·rename_i t ht
    (try rw[ht])
    refine⟨h.1,hk _ _ ⟨fun u hu=>?_,fun n b u hu q=>?_,fun y hy=>?_,fun n u hu v=>?_,fun n b u hu v hv'=>?_⟩ (Yo hw h.1) h.2⟩
    ·have:=Gg hu hi ht;simp only[bC,if_neg this];exact pA.1 u hu
    ·by_cases Ik:t=u
     ·subst Ik;cases n with
      |zero=>simp[sX]at hu
      |succ n=>
       have hm:=KD hu hi ht;rcases Bw hv with⟨e,he⟩|⟨e,x,he⟩<;>rw[he]at hm<;>simp at hm
     ·simp only[bC,if_neg Ik];exact pA.2.1 n b u hu q
    ·by_cases hty:t=y
     ·subst hty;by_cases hlt:t<s.tmps.length
      ·exact .inr (by simp[hlt])
      ·have e:s.tmps.set t (.ptr t 0)=s.tmps:=List.set_eq_of_length_le (gV hlt);show(s.tmps.set t (.ptr t 0))[t]? =_∨(s.tmps.set t (.ptr t 0))[t]? =_;rw[e];exact pA.2.2.1 _ hy
     ·simp only[bC,if_neg hty];exact pA.2.2.1 y hy
    ·by_cases Ik:t=u
     ·subst Ik;cases n with
      |zero=>simp[Cz]at hu
      |succ n=>
       have hm:=(KC hu hi ht).2;rcases Bw hv with⟨e,he⟩|⟨e,x,he⟩<;>rw[he]at hm<;>simp at hm
     ·simp only[bC,if_neg Ik];exact pA.2.2.2.1 n u hu v
    ·by_cases Ik:t=u
     ·subst Ik;cases n with
      |zero=>simp[RS]at hu
      |succ n=>
       have hm:=(Pu hu hi ht).2;rcases Bw hv with⟨e,he⟩|⟨e,x,he⟩<;>rw[he]at hm<;>simp at hm
     ·simp only[bC,if_neg Ik]at hv';exact pA.2.2.2.2 n b u hu v hv'
   ·exact h.elim
  ·rename_i b cs hv
   (try rw[hv])
   exact hk _ _ (je.put (T:=T) (s:={s with boxes:=s.boxes.set b (some cs)}) pA hi (fun _ _ e=>by simp at e) (x8 hv (fun _=>by simp) (by simp)) (fun _ _ _ ty z f hop=>xy (T:=T) (s:=s) hv (fun _ _=>by simp) (by simp) (by simp) ty z f hop)) (uI (Yp hw) yC) h
  ·rename_i hv
   (try rw[hv])
   obtain⟨v,ht,h⟩:=h;exact⟨v,ht,hk _ _ (je.put (T:=T) pA hi (fun _ _ e=>by simp at e) (x8 hv (fun _=>by simp) (by simp)) (fun _ _ _=>Pq hv)) (uI hw yC) h⟩
  ·rename_i hv
   (try rw[hv])
   obtain⟨post,hp,h⟩:=h;exact⟨post,hp,fun v Δ yg=>hk _ _ (je.put (T:=T) pA hi (fun _ _ e=>by simp at e) (x8 hv (fun _=>by simp) (by simp)) (fun _ _ _ ty z f hop=>xy (T:=T) (s:=s) hv (fun _ _=>by simp) (by simp) (by simp) ty z f hop)) (uI hw yC) (h v Δ yg)⟩
  ·rename_i hv
   (try rw[hv])
   obtain⟨post,hp,h⟩:=h;exact⟨post,hp,fun v O M Δ yg=>hk _ _ (je.put (T:=T) (s:={s with own:=O,maps:=M}) pA hi (fun _ _ e=>by simp at e) (x8 hv (fun _=>by simp) (by simp)) (fun _ _ _ ty z f hop=>xy (T:=T) (s:=s) hv (fun _ _=>by simp) (by simp) (by simp) ty z f hop)) (uI (s:={s with own:=O,maps:=M}) hw yC) (h v O M Δ yg)⟩
  ·rename_i f args hv
   (try rw[hv])
   exact h.mono fun v O M Γ' hvk=>hk _ _ (je.put (T:=T) (s:={s with own:=O,maps:=M}) pA hi (fun _ _ e=>by simp at e) (x8 hv (fun _=>by simp) (by simp)) (fun _ _ _ ty z f hop=>xy (T:=T) (s:=s) hv (fun _ _=>by simp) (by simp) (by simp) ty z f hop)) (uI (s:={s with own:=O,maps:=M}) hw yC) hvk
  ·exact h.elim
 ·rename_i hg
  (try rw[hg])
  exact hk _ _ (je.put (T:=T) pA hi (fun _ _ e=>by simp at e) (Nv hg) (fun hgn=>by unfold gF at hg;rw[hgn]at hg;simp at hg)) (uI hw yC) h
 ·exact h.elim
end
def mE(T:Tb)(P:Program)(ops:Array Oper)(K:VS→List aC→Prop):List Nat→VS→List aC→Prop
 | [],s,Γ=>K s Γ
 |i::r,s,Γ=>match ops[i]? with
  |some o=>pS T P ops o (mE T P ops K r) s Γ
  |none=>False
theorem jJ{T:Tb}{P:Program}{ops:Array Oper}{K:VS→List aC→Prop}{i:Nat}{o:Oper}(ho:ops[i]? =some o)(r:List Nat):mE T P ops K (i::r)=pS T P ops o (mE T P ops K r):=by
 funext s Γ;simp only[mE,ho]
def aaL(T:Tb)(o:Oper):Bool:=match o.dst with|some t=>lI t T.pins|none=>false
def ki(T:Tb)(s0:VS)(ops:Array Oper)(j i:Nat):Bool:=
 match ops[j]?,ops[i]? with
 |some oj,some oi=> !zI T oj&& !gX oj&&(!(gX oi||S8 oi||(T.hand&&(CU oi&& !CV T oi)))||ji T oj||XZ s0 ops oj oi||WO s0 ops oj oi)&&(oj.apart ops oi&& !aaL T oj)
 |_,_=>false
theorem lR{T:Tb}{P:Program}{ops:Array Oper}{K:VS→List aC→Prop}{i:Nat}{oi:Oper}{M7:List Nat}{s0:VS}(hi:ops[i]? =some oi):
  ∀(pre:List Nat) (s:VS) (Γ:List aC),s.wf→je ops s0 s→(∀j∈pre,ki T s0 ops j i=true)→mE T P ops K (pre++i::M7) s Γ→pS T P ops oi (mE T P ops K (pre++M7)) s Γ
 | [],s,Γ,_,_,_,h=>by
  rw[az,jJ hi]at h;exact h
 |j::pre,s,Γ,hw,pA,RE,h=>by
  have hj:=RE j (by simp);unfold ki at hj;rw[hi]at hj;cases hoj:ops[j]? with
  |none=>rw[hoj]at hj;simp at hj
  |some oj=>
   rw[dA,jJ hoj]at h⊢;rw[hoj]at hj;simp only[aK,cF,dI,fS]at hj;obtain⟨⟨⟨h1,h2⟩,h3⟩,h4,h4p⟩:=hj;have hpin:∀t,oj.dst=some t→lI t T.pins=false:=fun t ht=>by
    unfold aaL at h4p;rw[ht]at h4p;exact h4p
   obtain⟨a1,a2,a3⟩:=Oper.apart_spec h4;have:=om hoj pA hw (fun s' Γ' hk' SB h'=>lR hi pre s' Γ' SB hk' (fun k hk=>RE k (by simp[hk])) h') h;by_cases hown:gp T oi s=.own
   ·have hm:ji T oj=true∨∃ty x,oj.op=.load ty x∧∀u,s.ev x≠.val u:=by
     rcases h3 with((h3|hm)|I7)|hlo
     ·rcases sF hown with h'|⟨h',_⟩
      ·rw[h3.1.1]at h';simp at h'
      ·rw[h3.1.2]at h';simp at h'
     ·exact .inl hm
     ·obtain⟨tj,x,ti,y,v,Z7,Z6,hy,hne⟩:=yQ I7 pA;obtain⟨u,hu⟩:=MS Z6 hown;exact(hy u hu).elim
     ·exact .inr (yu hlo pA).2
    have:=Fe hw h1 h2 hm hown a1 a2 a3 this;exact this
   cases hst:gX oi with
   |false=>
    have AW:T.hand=true→(CU oi&& !CV T oi)=true→ji T oj=true∨∃ty x,oj.op=.load ty x∧∀u,s.ev x≠.val u:=fun ht hc=>by
     rcases h3 with((h3|hm)|I7)|hlo
     ·rw[ht,hc]at h3;simp at h3
     ·exact .inl hm
     ·obtain⟨tj,x,ti,y,v,Z7,Z6,hy,hne⟩:=yQ I7 pA;rw[gX,Z6]at hst;simp at hst
     ·exact .inr (yu hlo pA).2
    have:=Ri hw h1 h2 hst hown hpin AW a1 a2 a3 this;exact this
   |true=>
    have hev:∀(b:Nat) (cs:List Value) (x:Operand),x∈oj.op.operands→(({s with boxes:=s.boxes.set b (some cs)}:VS).put oi.dst (.val undef)).ev x=s.ev x:=by
     intro b cs x hx;have:=rS (s:={s with boxes:=s.boxes.set b (some cs)}) (e:=.put (.val undef)) (mo a3 hx);simp only[VS.app]at this;rw[this];cases x<;>rfl
    rcases h3 with((h3|hm)|I7)|hlo
    rotate_right
    ·have:=(yu hlo pA).1;rw[hst]at this;simp at this
    ·rw[hst]at h3;simp at h3
    ·have:=uH hw h1 h2 (fun cs hc=>tQ hm hc) hst hown (fun b cs _=>mH hm (hev b cs)) a1 a2 a3 this;exact this
    ·obtain⟨tj,x,ti,y,v,Z7,Z6,hy,hne⟩:=yQ I7 pA;have:=uH hw h1 h2 (fun cs hc=>Bo Z7 hc) hst hown (fun b cs hu=>by
      obtain⟨q,hq⟩:=MT Z6 hu;refine Bp Z7 (hev b cs (.tmp x) (by rw[Z7];simp[Op.operands])) (fun b1 o1 hx=>?_);have hn:b1≠b:=by
       rintro rfl;exact hne _ _ hq _ hx
      cases oi.dst<;>simp[VS.put,List.getD,bC,Ne.symm hn]) a1 a2 a3 this
     exact this
theorem tr{a b:Nat}(h:Nat.blt a b=true):a<b:=by rw[Nat.blt_eq]at h;exact h
def yw(o:Oper)(acc:List Nat):Nat:=o.after.toList.foldr (fun e s=>bif Region.binds .any e then s|||(2^e.on|||acc.getD e.on 0)else s) 0
def sL:List Oper→List Nat→List Nat
 | [],acc=>acc
 |o::r,acc=>sL r (acc++[yw o acc])
def yb:List Oper→Nat→Bool
 | [],_=>true
 |o::r,k=>o.after.toList.all (fun e=> !Region.binds .any e||Nat.blt e.on k)&&yb r (k+1)
def t_(T:Tb)(s0:VS)(ops:Array Oper)(bm:List Nat):List Nat→Bool
 | []=>true
 |i::r=>r.all (fun j=>Nat.testBit (bm.getD j 0) i||ki T s0 ops i j)&&t_ T s0 ops bm r
def yB:List Nat→Bool
 | []=>true
 |i::r=> !lI i r&&yB r
def KE(T:Tb)(s0:VS)(ops:Array Oper)(ord:List Nat):Bool:=
 Nat.beq ord.length ops.size&&(List.range ops.size).all (fun i=>lI i ord)&&ord.all (fun i=>Nat.blt i ops.size)&&yB ord&&yb ops.toList 0&&t_ T s0 ops (sL ops.toList []) ord
def qt(o:Oper):Bool:= !gX o&&(!S8 o&& !CU o)
def exB(bm:List Nat)(j i x y:Nat):Bool:=(Nat.beq y i||Nat.testBit (bm.getD y 0) i)&&(Nat.beq x j||Nat.testBit (bm.getD j 0) x)
def EV(T:Tb)(s0:VS)(ops:Array Oper)(bm:List Nat)(j i:Nat):List Nat→Bool
 | []=>true
 |x::r=>r.all (fun y=>Nat.testBit (bm.getD y 0) x||ki T s0 ops x y||exB bm j i x y)&&EV T s0 ops bm j i r
def Ps(T:Tb)(s0:VS)(ops:Array Oper)(j i:Nat)(l:List Nat):Bool:=
 Nat.beq l.length ops.size&&((List.range ops.size).all (fun x=>lI x l)&&(l.all (fun x=>Nat.blt x ops.size)&&(yB l&&EV T s0 ops (sL ops.toList []) j i l)))
def Vk(ops:Array Oper)(bm:List Nat)(j i x:Nat):Bool:=(match ops[x]? with|some o=>qt o|none=>true)||(Nat.beq x j||(Nat.beq x i||(Nat.testBit (bm.getD x 0) j||Nat.testBit (bm.getD x 0) i)))
def KG(T:Tb)(s0:VS)(ops:Array Oper)(j i:Nat)(l1 l2:List Nat):Bool:=
 !Nat.beq j i&&(Nat.blt j ops.size&&(Nat.blt i ops.size&&(yb ops.toList 0&&((List.range ops.size).all (fun x=>Vk ops (sL ops.toList []) j i x)&&(Ps T s0 ops j i l1&&Ps T s0 ops i j l2)))))
def J9(T:Tb)(s0:VS)(ops:Array Oper)(bm:List Nat):List Nat→Option (Nat×Nat)
 | []=>none
 |x::r=>match r.find? (fun y=> !(Nat.testBit (bm.getD y 0) x||ki T s0 ops x y))with
  |some y=>some (x,y)
  |none=>J9 T s0 ops bm r
def mW(j:Nat):List Nat→List Nat
 | []=>[]
 |x::r=>bif Nat.beq x j then []else x::mW j r
def Ec(j:Nat):List Nat→List Nat
 | []=>[]
 |x::r=>bif Nat.beq x j then r else Ec j r
def aa1(T:Tb)(s0:VS)(ops:Array Oper)(ord:List Nat):Option (Nat×Nat×List Nat×List Nat):=
 match J9 T s0 ops (sL ops.toList []) ord with
 |none=>none
 |some (j,i)=>some (j,i,ord,mW j ord++((Ec j ord).filter fun x=>Nat.beq x i||Nat.testBit ((sL ops.toList []).getD i 0) x)++j::((Ec j ord).filter fun x=> !(Nat.beq x i||Nat.testBit ((sL ops.toList []).getD i 0) x)))
def BX(T:Tb)(s0:VS)(ops:Array Oper)(x:Nat):List Nat→Option (List Nat)
 | []=>none
 |y::r=>bif Nat.beq y x then some r else(bif ki T s0 ops y x then(match BX T s0 ops x r with|some q=>some (y::q)|none=>none)else none)
def JN(ops:Array Oper)(x:Nat):Bool:=match ops[x]? with|some o=>qt o|none=>false
def JF(ops:Array Oper)(done:Nat)(i:Nat):Bool:=
 match ops[i]? with
 |some o=>o.after.toList.all (fun e=> !Region.binds .any e||Nat.testBit done e.on)
 |none=>false
def okN(T:Tb)(s0:VS)(ops:Array Oper)(bm:List Nat):Nat→List (List Nat)→Nat→Bool
 |0,ls,_=>ls.any (t_ T s0 ops bm)
 |n+1,ls,done=>ls.any (t_ T s0 ops bm)||(List.range ops.size).all fun x=>Nat.testBit done x||(!JF ops done x||(bif JN ops x then !(ls.filterMap (BX T s0 ops x)).isEmpty&&okN T s0 ops bm n (ls.filterMap (BX T s0 ops x)) (done|||2^x)
   else(ls.filterMap (BX T s0 ops x)).any fun l=>okN T s0 ops bm n [l] (done|||2^x)))
def Vf(ops:Array Oper)(l:List Nat):Bool:=Nat.beq l.length ops.size&&((List.range ops.size).all (fun x=>lI x l)&&(l.all (fun x=>Nat.blt x ops.size)&&yB l))
def EJ(T:Tb)(s0:VS)(ops:Array Oper)(ls:List (List Nat)):Bool:= !ls.isEmpty&&(yb ops.toList 0&&(ls.all (Vf ops)&&okN T s0 ops (sL ops.toList []) ops.size ls 0))
theorem ug{T:Tb}{s0:VS}{ops:Array Oper}{bm:List Nat}{j i:Nat}:∀{l:List Nat},EV T s0 ops bm j i l=true→l.Pairwise (fun x y=>Nat.testBit (bm.getD y 0) x=true∨ki T s0 ops x y=true∨((y=i∨Nat.testBit (bm.getD y 0) i=true)∧(x=j∨Nat.testBit (bm.getD j 0) x=true)))
 | [],_=>List.Pairwise.nil
 |x::r,h=>by
  simp only[EV,exB,aK,e8,dI]at h;exact List.Pairwise.cons (fun y hy=>(h.1 y hy).elim (fun q=>q.elim .inl (fun q=>.inr (.inl q))) (fun q=>.inr (.inr ⟨q.1.elim (fun e=>.inl (aI e)) .inr,q.2.elim (fun e=>.inl (aI e)) .inr⟩))) (ug h.2)
def QK(ops:Array Oper)(done:Nat)(i:Nat):Bool:=
 match ops[i]? with
 |some o=>o.after.toList.all (fun e=> !Region.binds .any e||Nat.testBit done e.on)
 |none=>false
def XN(T:Tb)(ops:Array Oper)(i:Nat):Bool:=
 match ops[i]? with
 |some o=> !zI T o&& !gX o
 |none=>false
def PB(T:Tb)(ops:Array Oper):Nat→List Nat→Nat→List Nat
 |0,rem,_=>rem
 |n+1,rem,done=>match rem.find? (fun i=>XN T ops i&&QK ops done i)with
  |some i=>i::PB T ops n (rem.filter fun j=> !Nat.beq i j) (done|||2^i)
  |none=>match rem.find? (fun i=>QK ops done i)with
   |some i=>i::PB T ops n (rem.filter fun j=> !Nat.beq i j) (done|||2^i)
   |none=>rem
def KK(T:Tb)(ops:Array Oper):List Nat:=PB T ops ops.size (List.range ops.size) 0
theorem n_{t:Nat}:∀{l:List Nat},lI t l=true↔t∈l
 | []=>by simp[lI]
 |u::r=>by
  unfold lI;cases hb:Nat.beq u t with
  |true=>simp[aI hb]
  |false=>
   have:¬t=u:=by
    rintro rfl;simp at hb
   simp[this,n_]
theorem oe:∀{l:List Nat},yB l=true→l.Nodup
 | [],_=>List.nodup_nil
 |i::r,h=>by
  simp only[yB,aK,cF]at h;refine List.nodup_cons.2 ⟨fun hm=>?_,oe h.2⟩;rw[n_.2 hm]at h;simp at h
def s7(ops:Array Oper)(cr:Array Bool):Prop:=∀j o,ops[j]? =some o→cr.getD j false=true→∀e∈o.after,Region.binds .any e=true→cr.getD e.on false=true
def xZ(ops:Array Oper)(j i:Nat):Prop:=∀cr:Array Bool,s7 ops cr→(∀o,ops[j]? =some o→∀e∈o.after,Region.binds .any e=true→cr.getD e.on false=true)→cr.getD i false=true
theorem Ji{o:Oper}{acc:List Nat}{i:Nat}(h:Nat.testBit (yw o acc) i=true):∃e∈o.after,Region.binds .any e=true∧(i=e.on∨Nat.testBit (acc.getD e.on 0) i=true):=by
 unfold yw at h;have:∀l:List Edge,Nat.testBit (l.foldr (fun e s=>bif Region.binds .any e then s|||(2^e.on|||acc.getD e.on 0)else s) 0) i=true→∃e∈l,Region.binds .any e=true∧(i=e.on∨Nat.testBit (acc.getD e.on 0) i=true):=by
  intro l
  induction l with
  |nil=>intro h;simp at h
  |cons e l ih=>
   intro h;simp only[List.foldr_cons]at h;cases hb:Region.binds .any e with
   |false=>
    simp only[hb,cK]at h;obtain⟨e',he',hh⟩:=ih h;exact⟨e',by simp[he'],hh⟩
   |true=>
    simp only[hb,bZ,Nat.testBit_or,dI]at h;rcases h with h|h|h
    ·obtain⟨e',he',hh⟩:=ih h;exact⟨e',by simp[he'],hh⟩
    ·rw[Nat.testBit_two_pow]at h;exact⟨e,by simp,hb,.inl (by simpa using h:e.on=i).symm⟩
    ·exact⟨e,by simp,hb,.inr h⟩
 obtain⟨e,he,hh⟩:=this _ h;exact⟨e,by simpa using he,hh⟩
theorem rV{ops:Array Oper}:∀(r:List Oper) (acc:List Nat),(∀k o,r[k]? =some o→ops[acc.length+k]? =some o)→
  (∀j i,Nat.testBit (acc.getD j 0) i=true→xZ ops j i)→∀j i,Nat.testBit ((sL r acc).getD j 0) i=true→xZ ops j i
 | [],acc,_,h,j,i,hb=>h j i hb
 |o::r,acc,hr,h,j,i,hb=>by
  refine rV r (acc++[yw o acc]) (fun k o' hk=>?_) (fun j i hji=>?_) j i hb
  ·have:=hr (k+1) o' (by simpa using hk);rw[←this];congr 1;simp;omega
  ·by_cases hj:j<acc.length
   ·rw[show(acc++[yw o acc]).getD j 0=acc.getD j 0 from by simp only[List.getD];rw[cZ hj]]at hji;exact h j i hji
   ·by_cases hj':j=acc.length
    ·subst hj';have ho:=hr 0 o (by simp);simp only[List.getD,ec (aj _),nT,eu,jM]at hji;obtain⟨e,he,hbd,hh⟩:=Ji hji;intro cr hc hl;have hon:=hl o (by simpa using ho) e he hbd;rcases hh with rfl|hh
     ·exact hon
     ·exact h e.on i hh cr hc (fun o' sV e' he' hb'=>hc e.on o' sV hon e' he' hb')
    ·have:(acc++[yw o acc]).getD j 0=0:=by
      simp only[List.getD];rw[lY (by simp;omega)];rfl
     rw[this]at hji;simp at hji
theorem p7:∀(l:List Oper) (k:Nat),yb l k=true→∀i o,l[i]? =some o→∀e∈o.after,Region.binds .any e=true→e.on<k+i
 | [],_,_,i,o,hi,_,_,_=>by simp at hi
 |o'::r,k,h,i,o,hi,e,he,hb=>by
  simp only[yb,aK,e8]at h;cases i with
  |zero=>
   simp at hi;subst hi;have:=h.1 e (by simpa using he);simp only[hb,Bool.not_true,Bool.false_or]at this;have:=tr this;omega
  |succ i=>
   have:=p7 r (k+1) h.2 i o (by simpa using hi) e he hb;omega
theorem ue{T:Tb}{s0:VS}{ops:Array Oper}{bm:List Nat}:∀{l:List Nat},t_ T s0 ops bm l=true→l.Pairwise (fun i j=>Nat.testBit (bm.getD j 0) i=true∨ki T s0 ops i j=true)
 | [],_=>List.Pairwise.nil
 |i::r,h=>by
  simp only[t_,aK,e8,dI]at h;exact List.Pairwise.cons (fun j hj=>h.1 j hj) (ue h.2)
section
variable{T:Tb}{P:Program}{w0:World}{I0:MY}
theorem tg{s0:VS}{ops:Array Oper}{Q:Exit→Act→World→Prop}{K:VS→List aC→Prop}(hT:T.Ok P)(hE:∀i o,ops[i]? =some o→∀e∈o.after,Region.binds .any e=true→e.on<i)
  {bm:List Nat}(qP:∀j i,Nat.testBit (bm.getD j 0) i=true→xZ ops j i)(hK:∀s Γ a w ρ,iq T w0 I0 Γ s a w ρ→K s Γ→Q .normal a w)(vI:∀ch a w,T.pan ch→a.defers=I0.ds→ka I0.x w0 w→(∃ks own,T.held ks own∧gB T own w∧∀x∈ks,a.tmps.getD x.1 undef=x.2)→Q (.panic ch) a w):
  ∀(fuel:Nat) (rem:List Nat) (cr:Array Bool) (s:VS) (Γ:List aC) (a:Act) (w:World) (ρ:Nat→Nat),rem.length≤fuel→cr.size=ops.size→(∀i,i∈rem↔(i<ops.size∧cr.getD i true=false))→
   rem.Nodup→s7 ops cr→rem.Pairwise (fun i j=>Nat.testBit (bm.getD j 0) i=true∨ki T s0 ops i j=true)→je ops s0 s→mE T P ops K rem s Γ→iq T w0 I0 Γ s a w ρ→wpAny P .any ops Q fuel cr a w:=by
 have aab:∀(rem:List Nat) (cr:Array Bool),cr.size=ops.size→(∀i,i∈rem↔(i<ops.size∧cr.getD i true=false))→Region.ready .any ops cr=[]→rem=[]:=by
  intro rem cr hsz xd hr;have:∀i,i∈rem→False:=by
   intro i
   induction i using Nat.strongRecOn with
   |_ i ih=>
    intro hi;obtain⟨hlt,hl⟩:=(xd i).1 hi;have hn:i∉Region.ready .any ops cr:=by rw[hr];simp
    rw[mem_ready]at hn;apply hn;refine⟨hl,ops[i],by simp[hlt],fun e he hb=>?_⟩;have sU:=hE i ops[i] (by simp[hlt]) e he hb;cases hx:cr.getD e.on false with
    |true=>rfl
    |false=>
     exfalso
     refine ih e.on sU ((xd _).2 ⟨by omega,?_⟩);have:e.on<cr.size:=by omega
     simpa [this]using hx
  cases rem with
  |nil=>rfl
  |cons x r=>exact(this x (by simp)).elim
 intro fuel
 induction fuel with
 |zero=>
  intro rem cr s Γ a w ρ hlen hsz xd A5 hc hp pA hv hs;have:rem=[]:=aL (by omega);subst this;refine⟨?_,hK _ _ _ _ _ hs hv⟩;cases hr:Region.ready .any ops cr with
  |nil=>rfl
  |cons i r=>
   have hi:i∈Region.ready .any ops cr:=by rw[hr];simp
   rw[mem_ready]at hi;obtain⟨h1,o,h2,_⟩:=hi;exact absurd ((xd i).2 ⟨cw h2,h1⟩) (by simp)
 |succ fuel ih=>
  intro rem cr s Γ a w ρ hlen hsz xd A5 hc hp pA hv hs;refine⟨fun hr=>?_,fun i hi=>?_⟩
  ·have:=aab rem cr hsz xd hr;subst this;exact hK _ _ _ _ _ hs hv
  ·rw[mem_ready]at hi;obtain⟨h1,o,h2,h3⟩:=hi;have lV:=(xd i).2 ⟨cw h2,h1⟩;obtain⟨pre,M7,rfl⟩:=vQ lV;have tL:=A5;rw[fJ]at tL;have RE:∀j∈pre,ki T s0 ops j i=true:=by
    intro j hj;have:=(List.pairwise_append.1 hp).2.2 j hj i (by simp);rcases this with h|h
    ·exfalso
     have hl:=qP i j h cr hc (fun o' sV e he hb=>by
      rw[h2]at sV;injection sV with sV;subst sV;exact h3 e he hb)
     have hjm:=(xd j).1 (by simp[hj]);have hlt:j<cr.size:=by omega
     have:=hjm.2;simp[hlt]at hl this;rw[hl]at this;simp at this
    ·exact h
   have hb:=lR h2 pre s Γ hs.wf pA RE hv;have hb:=om (K':=fun s Γ=>je ops s0 s∧mE T P ops K (pre++M7) s Γ) h2 pA hs.wf (fun s Γ hk _ h=>⟨hk,h⟩) hb;refine o6 hT h2 hb hs (fun s' Γ' a' w' ρ' hs' ⟨Eu,hk'⟩=>?_) vI;have Wz:i<cr.size:=by rw[hsz];exact cw h2
   refine ih (pre++M7) _ s' Γ' a' w' ρ' (by simp at hlen⊢;omega) (by simp[hsz]) (fun j=>?_) ?_ ?_ ?_ Eu hk' hs'
   ·have hj:=xd j;by_cases hij:j=i
    ·subst hij;have hn1:j∉pre:=fun h=>(tL.2.2 j h j (by simp)) rfl;have hn2:j∉M7:=(List.nodup_cons.1 tL.2.1).1;simp[hn1,hn2,Wz]
    ·rw[getD_set_ne true (fun h=>hij h.symm),←hj];simp[hij]
   ·rw[fJ];exact⟨tL.1,(List.nodup_cons.1 tL.2.1).2,fun x hx y hy=>tL.2.2 x hx y (by simp[hy])⟩
   ·intro j o' sV hl e he hb';by_cases hij:j=i
    ·subst hij;rw[h2]at sV;injection sV with sV;subst sV;exact getD_set_true (h3 e he hb')
    ·rw[getD_set_ne false (fun h=>hij h.symm)]at hl;exact getD_set_true (hc j o' sV hl e he hb')
   ·exact hp.sublist (by
     refine List.Sublist.append (List.Sublist.refl _) (List.sublist_cons_self _ _))
theorem B8{ops:Array Oper}(hE:∀i o,ops[i]? =some o→∀e∈o.after,Region.binds .any e=true→e.on<i)(rem:List Nat)(cr:Array Bool)(hsz:cr.size=ops.size)(xd:∀i,i∈rem↔(i<ops.size∧cr.getD i true=false))(hr:Region.ready .any ops cr=[]):rem=[]:=by
 have:∀i,i∈rem→False:=by
  intro i
  induction i using Nat.strongRecOn with
  |_ i ih=>
   intro hi;obtain⟨hlt,hl⟩:=(xd i).1 hi;have hn:i∉Region.ready .any ops cr:=by rw[hr];simp
   rw[mem_ready]at hn;apply hn;refine⟨hl,ops[i],by simp[hlt],fun e he hb=>?_⟩;have sU:=hE i ops[i] (by simp[hlt]) e he hb;cases hx:cr.getD e.on false with
   |true=>rfl
   |false=>
    exfalso
    refine ih e.on sU ((xd _).2 ⟨by omega,?_⟩);have:e.on<cr.size:=by omega
    simpa [this]using hx
 cases rem with
 |nil=>rfl
 |cons x r=>exact(this x (by simp)).elim
def zE(T:Tb)(K:VS→List aC→Prop):Prop:=∀s Γ Γ',(∀I w,bj T I w→aD Γ' I w→aD Γ I w)→K s Γ→K s Γ'
theorem zU{Γ Γ':List aC}(Δ:List aC)(h:∀I w,bj T I w→aD Γ' I w→aD Γ I w):∀I w,bj T I w→aD (Δ++Γ') I w→aD (Δ++Γ) I w:=fun I w hd hh F hF=>by
 rcases List.mem_append.1 hF with h1|h1
 ·exact hh F (gU _ h1)
 ·exact h I w hd (fun G hG=>hh G (iH _ hG)) F h1
theorem Rj{ops:Array Oper}{o:Oper}{K:VS→List aC→Prop}(hK:zE T K):zE T (pS T P ops o K):=by
 intro s Γ Γ' hi h;unfold pS at h⊢;cases hg:gF ops o s with
 |none=>rw[hg]at h;exact h.elim
 |some g=>
  rw[hg]at h;cases g with
  |false=>exact hK _ _ _ hi h
  |true=>
   simp only[sG]at h⊢;cases hv:gp T o s with
   |val v=>rw[hv]at h;exact hK _ _ _ hi h
   |new cs=>
    rw[hv]at h;simp only at h⊢;cases hd:o.dst with
    |none=>rw[hd]at h;exact h.elim
    |some d=>rw[hd]at h;exact⟨h.1,hK _ _ _ hi h.2⟩
   |upd b cs=>rw[hv]at h;exact hK _ _ _ hi h
   |read=>
    rw[hv]at h;obtain⟨v,ht,hk⟩:=h;exact⟨v,⟨ht.all,fun I w hd hh ho=>ht.mem I w hd (hi I w hd hh) ho⟩,hK _ _ _ hi hk⟩
   |ask=>
    rw[hv]at h;obtain⟨post,hp,hk⟩:=h;exact⟨post,fun I w hd hh=>hp I w hd (hi I w hd hh),fun v Δ yg=>hK _ _ _ (zU Δ hi) (hk v Δ yg)⟩
   |own=>
    rw[hv]at h;obtain⟨post,hp,hk⟩:=h;exact⟨post,fun I w hd hh=>hp I w hd (hi I w hd hh),fun v O M Δ yg=>hK _ _ _ (zU Δ hi) (hk v O M Δ yg)⟩
   |call f args=>
    rw[hv]at h;rcases h with⟨post,hp,hk⟩|⟨h0,O1,Oin,O2,M1,Min,M2,post,e1,e2,eh,hp,hk⟩
    ·exact .inl ⟨post,⟨hp.1,fun I w hd hh=>hp.2 I w hd (hi I w hd hh)⟩,fun v O Δ yg=>hK _ _ _ (zU Δ hi) (hk v O Δ yg)⟩
    ·exact .inr ⟨h0,O1,Oin,O2,M1,Min,M2,post,e1,e2,eh,⟨hp.1,fun I w hd hh=>hp.2 I w hd (hi I w hd hh)⟩,fun v O M Δ yg=>hK _ _ _ (zU Δ hi) (hk v O M Δ yg)⟩
   |stuck=>rw[hv]at h;exact h.elim
theorem vp{ops:Array Oper}{K:VS→List aC→Prop}(hK:zE T K):∀l:List Nat,zE T (mE T P ops K l)
 | []=>hK
 |i::l=>by
  intro s Γ Γ' hi h;simp only[mE]at h⊢;cases ho:ops[i]? with
  |none=>rw[ho]at h;exact h.elim
  |some o=>rw[ho]at h;exact Rj (vp hK l) s Γ Γ' hi h
theorem H9{ops:Array Oper}{o:Oper}{K1 K2:VS→List aC→Prop}{s:VS}{Γ:List aC}{a:Act}{w:World}{ρ:Nat→Nat}(hsm:qt o=true)(hs:iq T w0 I0 Γ s a w ρ)(k1:zE T K1)(k2:zE T K2)(h1:pS T P ops o K1 s Γ)(h2:pS T P ops o K2 s Γ):pS T P ops o (fun s Γ=>K1 s Γ∧K2 s Γ) s Γ:=by
 simp only[qt,aK,cF]at hsm;unfold pS at h1 h2⊢;cases hg:gF ops o s with
 |none=>rw[hg]at h1;exact h1.elim
 |some g=>
  rw[hg]at h1 h2;cases g with
  |false=>exact⟨h1,h2⟩
  |true=>
   simp only[sG]at h1 h2⊢;cases hv:gp T o s with
   |val v=>rw[hv]at h1 h2;exact⟨h1,h2⟩
   |new cs=>
    rw[hv]at h1 h2;simp only at h1 h2⊢;cases hd:o.dst with
    |none=>rw[hd]at h1;exact h1.elim
    |some d=>rw[hd]at h1 h2;exact⟨h1.1,h1.2,h2.2⟩
   |upd b cs=>rw[hv]at h1 h2;exact⟨h1,h2⟩
   |read=>
    rw[hv]at h1 h2;obtain⟨v1,ht1,hk1⟩:=h1;obtain⟨v2,UQ,hk2⟩:=h2;have e1:=ht1.mem _ w hs.dataOK hs.facts hs.own;have e2:=UQ.mem _ w hs.dataOK hs.facts hs.own;rw[e1]at e2;injection e2 with e2 _;injection e2 with e2;subst e2;exact⟨v1,ht1,hk1,hk2⟩
   |ask=>
    rw[hv]at h1 h2;obtain⟨aaM,hp1,hk1⟩:=h1;obtain⟨aaN,hp2,hk2⟩:=h2;refine⟨fun v Δ=>∃Δ1 Δ2,aaM v Δ1∧aaN v Δ2∧Δ=Δ1++Δ2,fun I w hd hh=>?_,?_⟩
    ·obtain⟨v1,Δ1,w1,e1,q1,b1,f1⟩:=hp1 I w hd hh;obtain⟨v2,Δ2,w2,e2,q2,b2,f2⟩:=hp2 I w hd hh;rw[e1]at e2;injection e2 with e2 e3;injection e2 with e2;subst e2 e3;exact⟨v1,Δ1++Δ2,w1,e1,⟨Δ1,Δ2,q1,q2,rfl⟩,b1,f1.append f2⟩
    ·rintro v Δ ⟨Δ1,Δ2,q1,q2,rfl⟩;refine⟨k1 _ _ _ (fun I w _ hh=>hh.sub (fun F hF=>?_)) (hk1 v Δ1 q1),k2 _ _ _ (fun I w _ hh=>hh.sub (fun F hF=>?_)) (hk2 v Δ2 q2)⟩
     ·rcases List.mem_append.1 hF with h|h<;>simp[h]
     ·rcases List.mem_append.1 hF with h|h<;>simp[h]
   |own=>
    rcases sF hv with h'|⟨h',_⟩
    ·rw[hsm.1]at h';simp at h'
    ·rw[hsm.2.1]at h';simp at h'
   |call f args=>
    have:=Cm hv;rw[hsm.2.2]at this;simp at this
   |stuck=>rw[hv]at h1;exact h1.elim
theorem wP{ops:Array Oper}{cr:Array Bool}{pre M7:List Nat}{i:Nat}(hsz:cr.size=ops.size)(hlt:i<ops.size)(xd:∀x,x∈pre++i::M7↔(x<ops.size∧cr.getD x true=false))(A5:(pre++i::M7).Nodup):
  (cr.setIfInBounds i true).size=ops.size∧(∀x,x∈pre++M7↔(x<ops.size∧(cr.setIfInBounds i true).getD x true=false))∧(pre++M7).Nodup:=by
 have Wz:i<cr.size:=by rw[hsz];exact hlt
 have tL:=A5;rw[fJ]at tL;refine⟨by simp[hsz],fun j=>?_,?_⟩
 ·have hj:=xd j;by_cases hij:j=i
  ·subst hij;have hn1:j∉pre:=fun h=>(tL.2.2 j h j (by simp)) rfl;have hn2:j∉M7:=(List.nodup_cons.1 tL.2.1).1;simp[hn1,hn2,Wz]
  ·rw[getD_set_ne true (fun h=>hij h.symm),←hj];simp[hij]
 ·rw[fJ];exact⟨tL.1,(List.nodup_cons.1 tL.2.1).2,fun x hx y hy=>tL.2.2 x hx y (by simp[hy])⟩
theorem p5{ops:Array Oper}{cr:Array Bool}{i:Nat}{o:Oper}(hc:s7 ops cr)(h2:ops[i]? =some o)(h3:∀e∈o.after,Region.binds .any e=true→cr.getD e.on false=true):s7 ops (cr.setIfInBounds i true):=by
 intro j o' sV hl e he hb';by_cases hij:j=i
 ·subst hij;rw[h2]at sV;injection sV with sV;subst sV;exact getD_set_true (h3 e he hb')
 ·rw[getD_set_ne false (fun h=>hij h.symm)]at hl;exact getD_set_true (hc j o' sV hl e he hb')
theorem Jo{ops:Array Oper}{cr:Array Bool}{i j:Nat}{o:Oper}(hb:xZ ops i j)(hsz:cr.size=ops.size)(hc:s7 ops cr)(h2:ops[i]? =some o)(h3:∀e∈o.after,Region.binds .any e=true→cr.getD e.on false=true)(hj:j<ops.size∧cr.getD j true=false):False:=by
 have hl:=hb cr hc (fun o' sV e he hb=>by
  rw[h2]at sV;injection sV with sV;subst sV;exact h3 e he hb)
 have hlt:j<cr.size:=by omega
 have:=hj.2;simp[hlt]at hl this;rw[hl]at this;simp at this
theorem IE{s0:VS}{ops:Array Oper}{Q:Exit→Act→World→Prop}{K:VS→List aC→Prop}(hT:T.Ok P)(hE:∀i o,ops[i]? =some o→∀e∈o.after,Region.binds .any e=true→e.on<i)
  {bm:List Nat}(qP:∀j i,Nat.testBit (bm.getD j 0) i=true→xZ ops j i)(hK:∀s Γ a w ρ,iq T w0 I0 Γ s a w ρ→K s Γ→Q .normal a w)(vI:∀ch a w,T.pan ch→a.defers=I0.ds→ka I0.x w0 w→(∃ks own,T.held ks own∧gB T own w∧∀x∈ks,a.tmps.getD x.1 undef=x.2)→Q (.panic ch) a w)
  (UH:zE T K){j i:Nat}(hji:j≠i)(ac0:∀x o,ops[x]? =some o→x≠j→x≠i→qt o=true∨Nat.testBit (bm.getD x 0) j=true∨Nat.testBit (bm.getD x 0) i=true):
  ∀(fuel:Nat) (B9 HD:List Nat) (cr:Array Bool) (s:VS) (Γ:List aC) (a:Act) (w:World) (ρ:Nat→Nat),B9.length≤fuel→HD.length≤fuel→cr.size=ops.size→(∀x,x∈B9↔(x<ops.size∧cr.getD x true=false))→(∀x,x∈HD↔(x<ops.size∧cr.getD x true=false))→
   B9.Nodup→HD.Nodup→j∈B9→i∈B9→s7 ops cr→
   B9.Pairwise (fun x y=>Nat.testBit (bm.getD y 0) x=true∨ki T s0 ops x y=true∨((y=i∨Nat.testBit (bm.getD y 0) i=true)∧(x=j∨Nat.testBit (bm.getD j 0) x=true)))→
   HD.Pairwise (fun x y=>Nat.testBit (bm.getD y 0) x=true∨ki T s0 ops x y=true∨((y=j∨Nat.testBit (bm.getD y 0) j=true)∧(x=i∨Nat.testBit (bm.getD i 0) x=true)))→je ops s0 s→
   mE T P ops K B9 s Γ→mE T P ops K HD s Γ→iq T w0 I0 Γ s a w ρ→wpAny P .any ops Q fuel cr a w:=by
 intro fuel
 induction fuel with
 |zero=>
  intro B9 HD cr s Γ a w ρ h1 _ _ _ _ _ _ hj _ _ _ _ _ _ _ _;have:=aL (Nat.le_zero.1 h1);rw[this]at hj;simp at hj
 |succ fuel ih=>
  intro B9 HD cr s Γ a w ρ hl1 hl2 hsz hr1 hr2 hn1 hn2 hj hi hc hp1 hp2 pA hv1 hv2 hs;refine⟨fun hr=>?_,fun x hx=>?_⟩
  ·have:=B8 hE _ cr hsz hr1 hr;rw[this]at hj;simp at hj
  ·rw[mem_ready]at hx;obtain⟨h1,o,h2,h3⟩:=hx;have hnb:∀y,y∈B9→Nat.testBit (bm.getD x 0) y=true→False:=fun y hy hb=>Jo (qP x y hb) hsz hc h2 h3 ((hr1 y).1 hy);have h12:∀y,y∈HD→y∈B9:=fun y hy=>(hr1 y).2 ((hr2 y).1 hy);have fin:∀(p q:List Nat),(∀y,y∈p++x::q↔(y<ops.size∧cr.getD y true=false))→(p++x::q).Nodup→(p++q).Pairwise (fun x y=>Nat.testBit (bm.getD y 0) x=true∨ki T s0 ops x y=true)→(p++x::q).length≤fuel+1→
     (∀y∈p,ki T s0 ops y x=true)→mE T P ops K (p++x::q) s Γ→wpOp P ops Q x (wpAny P .any ops Q fuel (cr.setIfInBounds x true)) a w:=by
    intro p q he tL hpw hle RE hvv;have hb:=lR h2 p s Γ hs.wf pA RE hvv;have hb:=om (K':=fun s Γ=>je ops s0 s∧mE T P ops K (p++q) s Γ) h2 pA hs.wf (fun s Γ hk _ h=>⟨hk,h⟩) hb;refine o6 hT h2 hb hs (fun s' Γ' a' w' ρ' hs' ⟨Eu,hk'⟩=>?_) vI;obtain⟨g1,g2,g3⟩:=wP hsz (cw h2) he tL;exact tg hT hE qP hK vI fuel (p++q) _ s' Γ' a' w' ρ' (by simp at hle⊢;omega) g1 g2 g3 (p5 hc h2 h3) hpw Eu hk' hs'
   have hm1:=(hr1 x).2 ⟨cw h2,h1⟩;have hm2:=(hr2 x).2 ⟨cw h2,h1⟩;obtain⟨p1,q1,rfl⟩:=vQ hm1;obtain⟨p2,q2,rfl⟩:=vQ hm2;have L_:∀(p q:List Nat),(p++q).Sublist (p++x::q):=fun p q=>List.Sublist.append (List.Sublist.refl _) (List.sublist_cons_self _ _);have hxn:∀(p q:List Nat),(p++x::q).Nodup→x∉p++q:=fun p q h hm=>by
    rw[fJ]at h;rcases List.mem_append.1 hm with h'|h'
    ·exact h.2.2 x h' x (by simp) rfl
    ·exact(List.nodup_cons.1 h.2.1).1 h'
   by_cases WK:x=j
   ·refine fin p1 q1 hr1 hn1 ((hp1.sublist (L_ p1 q1)).imp_of_mem (fun{y z} hy _ h=>?_)) hl1 (fun y hy=>?_) hv1
    ·rcases h with h|h|⟨_,h|h⟩
     ·exact .inl h
     ·exact .inr h
     ·exact absurd (by rw[WK,←h];exact hy) (hxn p1 q1 hn1)
     ·rw[←WK]at h;exact(hnb y ((L_ p1 q1).subset hy) h).elim
    ·rcases(List.pairwise_append.1 hp1).2.2 y hy x (by simp)with h|h|⟨h|h,_⟩
     ·exact(hnb y (by simp[hy]) h).elim
     ·exact h
     ·exact absurd (WK.symm.trans h) hji
     ·exact(hnb i hi h).elim
   ·by_cases hxi:x=i
    ·refine fin p2 q2 hr2 hn2 ((hp2.sublist (L_ p2 q2)).imp_of_mem (fun{y z} hy _ h=>?_)) hl2 (fun y hy=>?_) hv2
     ·rcases h with h|h|⟨_,h|h⟩
      ·exact .inl h
      ·exact .inr h
      ·exact absurd (by rw[hxi,←h];exact hy) (hxn p2 q2 hn2)
      ·rw[←hxi]at h;exact(hnb y (h12 y ((L_ p2 q2).subset hy)) h).elim
     ·rcases(List.pairwise_append.1 hp2).2.2 y hy x (by simp)with h|h|⟨h|h,_⟩
      ·exact(hnb y (h12 y (by simp[hy])) h).elim
      ·exact h
      ·exact absurd h WK
      ·exact(hnb j hj h).elim
    ·have hsm:qt o=true:=by
      rcases ac0 x o h2 WK hxi with h|h|h
      ·exact h
      ·exact(hnb j hj h).elim
      ·exact(hnb i hi h).elim
     have sw1:∀y∈p1,ki T s0 ops y x=true:=fun y hy=>by
      rcases(List.pairwise_append.1 hp1).2.2 y hy x (by simp)with h|h|⟨h|h,_⟩
      ·exact(hnb y (by simp[hy]) h).elim
      ·exact h
      ·exact absurd h hxi
      ·exact(hnb i hi h).elim
     have sw2:∀y∈p2,ki T s0 ops y x=true:=fun y hy=>by
      rcases(List.pairwise_append.1 hp2).2.2 y hy x (by simp)with h|h|⟨h|h,_⟩
      ·exact(hnb y (h12 y (by simp[hy])) h).elim
      ·exact h
      ·exact absurd h WK
      ·exact(hnb j hj h).elim
     have hb:=H9 hsm hs (vp UH _) (vp UH _) (lR h2 p1 s Γ hs.wf pA sw1 hv1) (lR h2 p2 s Γ hs.wf pA sw2 hv2);have hb:=om (K':=fun s Γ=>je ops s0 s∧mE T P ops K (p1++q1) s Γ∧mE T P ops K (p2++q2) s Γ) h2 pA hs.wf (fun s Γ hk _ h=>⟨hk,h⟩) hb;refine o6 hT h2 hb hs (fun s' Γ' a' w' ρ' hs' ⟨Eu,hk1,hk2⟩=>?_) vI;obtain⟨g1,g2,g3⟩:=wP hsz (cw h2) hr1 hn1;obtain⟨_,g5,g6⟩:=wP hsz (cw h2) hr2 hn2;have keep:∀y,y∈p1++x::q1→y≠x→y∈p1++q1:=fun y hy hne=>by
      simp only[eA,aF]at hy⊢;rcases hy with h|h|h
      ·exact .inl h
      ·exact absurd h hne
      ·exact .inr h
     exact ih (p1++q1) (p2++q2) _ s' Γ' a' w' ρ' (by simp at hl1⊢;omega) (by simp at hl2⊢;omega) g1 g2 g5 g3 g6 (keep j hj (fun e=>WK e.symm)) (keep i hi (fun e=>hxi e.symm)) (p5 hc h2 h3) (hp1.sublist (L_ p1 q1)) (hp2.sublist (L_ p2 q2)) Eu hk1 hk2 hs'
theorem DE{s0:VS}{ops:Array Oper}{x:Nat}:∀{l l':List Nat},BX T s0 ops x l=some l'→∃p q,l=p++x::q∧l'=p++q∧∀y∈p,ki T s0 ops y x=true
 | [],l',h=>by simp[BX]at h
 |y::r,l',h=>by
  unfold BX at h;cases hb:Nat.beq y x with
  |true=>
   rw[hb]at h;simp only[bZ,aq]at h;subst h;rw[aI hb];exact⟨[],r,rfl,rfl,fun y hy=>by simp at hy⟩
  |false=>
   rw[hb]at h;simp only[cK]at h;cases hs:ki T s0 ops y x with
   |false=>rw[hs]at h;simp at h
   |true=>
    rw[hs]at h;simp only[bZ]at h;cases hp:BX T s0 ops x r with
    |none=>rw[hp]at h;simp at h
    |some q'=>
     rw[hp]at h;simp only[aq]at h;subst h;obtain⟨p,q,rfl,rfl,RE⟩:=DE hp;exact⟨y::p,q,rfl,rfl,fun z hz=>by
      simp only[aF]at hz;rcases hz with rfl|hz
      ·exact hs
      ·exact RE z hz⟩
theorem Ln{ops:Array Oper}{o:Oper}{i:Nat}{s0 s:VS}{Γ:List aC}{a:Act}{w:World}{ρ:Nat→Nat}(hi:ops[i]? =some o)(pA:je ops s0 s)(hsm:qt o=true)(hs:iq T w0 I0 Γ s a w ρ):
  ∀(Ks:List (VS→List aC→Prop)),Ks≠ []→(∀K∈Ks,zE T K)→(∀K∈Ks,pS T P ops o K s Γ)→pS T P ops o (fun s Γ=>∀K∈Ks,K s Γ) s Γ
 | [],h,_,_=>absurd rfl h
 | [K],_,_,h=>om hi pA hs.wf (fun s Γ _ _ hk K' hK'=>by
   simp only[aF,aJ,b_]at hK';subst hK';exact hk) (h K (by simp))
 |K::K2::Ks,_,hw,h=>by
  have ih:=Ln hi pA hsm hs (K2::Ks) (by simp) (fun K' hK'=>hw K' (by simp[hK'])) (fun K' hK'=>h K' (by simp[hK']));have hwk:zE T (fun s Γ=>∀K'∈K2::Ks,K' s Γ):=fun s Γ Γ' hi hk K' hK'=>hw K' (cQ _ hK') s Γ Γ' hi (hk K' hK');have hb:=H9 hsm hs (hw K (by simp)) hwk (h K (by simp)) ih;refine om hi pA hs.wf (fun s Γ _ _ hk K' hK'=>?_) hb;rcases List.mem_cons.1 hK' with rfl|hK'
  ·exact hk.1
  ·exact hk.2 K' hK'
theorem FC{s0:VS}{ops:Array Oper}{Q:Exit→Act→World→Prop}{K:VS→List aC→Prop}(hT:T.Ok P)(hE:∀i o,ops[i]? =some o→∀e∈o.after,Region.binds .any e=true→e.on<i)
  {bm:List Nat}(qP:∀j i,Nat.testBit (bm.getD j 0) i=true→xZ ops j i)(hK:∀s Γ a w ρ,iq T w0 I0 Γ s a w ρ→K s Γ→Q .normal a w)(vI:∀ch a w,T.pan ch→a.defers=I0.ds→ka I0.x w0 w→(∃ks own,T.held ks own∧gB T own w∧∀x∈ks,a.tmps.getD x.1 undef=x.2)→Q (.panic ch) a w)
  (UH:zE T K):
  ∀(fuel n:Nat) (ls:List (List Nat)) (done:Nat) (cr:Array Bool) (s:VS) (Γ:List aC) (a:Act) (w:World) (ρ:Nat→Nat),okN T s0 ops bm n ls done=true→ls≠ []→(∀l∈ls,l.length≤fuel)→cr.size=ops.size→
   (∀i,i<ops.size→cr.getD i true=Nat.testBit done i)→(∀l∈ls,∀i,i∈l↔(i<ops.size∧cr.getD i true=false))→(∀l∈ls,l.Nodup)→s7 ops cr→je ops s0 s→
   (∀l∈ls,mE T P ops K l s Γ)→iq T w0 I0 Γ s a w ρ→wpAny P .any ops Q fuel cr a w:=by
 intro fuel;have one:∀(fuel:Nat) (ls:List (List Nat)) (cr:Array Bool) (s:VS) (Γ:List aC) (a:Act) (w:World) (ρ:Nat→Nat),ls.any (t_ T s0 ops bm)=true→(∀l∈ls,l.length≤fuel)→cr.size=ops.size→
   (∀l∈ls,∀i,i∈l↔(i<ops.size∧cr.getD i true=false))→(∀l∈ls,l.Nodup)→s7 ops cr→je ops s0 s→
   (∀l∈ls,mE T P ops K l s Γ)→iq T w0 I0 Γ s a w ρ→wpAny P .any ops Q fuel cr a w:=by
  intro fuel ls cr s Γ a w ρ LZ hl hsz hr hn hc pA hv hs;obtain⟨l,hm,hp⟩:=List.any_eq_true.1 LZ;exact tg hT hE qP hK vI fuel l cr s Γ a w ρ (hl l hm) hsz (hr l hm) (hn l hm) hc (ue hp) pA (hv l hm) hs
 induction fuel with
 |zero=>
  intro n ls done cr s Γ a w ρ hok hne hl hsz hd hr hn hc pA hv hs;refine one 0 ls cr s Γ a w ρ ?_ hl hsz hr hn hc pA hv hs;obtain⟨l,r,rfl⟩:=List.exists_cons_of_ne_nil hne;have:=aL (Nat.le_zero.1 (hl l (by simp)));subst this;rfl
 |succ fuel ih=>
  intro n ls done cr s Γ a w ρ hok hne hl hsz hd hr hn hc pA hv hs;by_cases LZ:ls.any (t_ T s0 ops bm)=true
  ·exact one _ ls cr s Γ a w ρ LZ hl hsz hr hn hc pA hv hs
  cases n with
  |zero=>exact absurd hok LZ
  |succ n=>
  unfold okN at hok;rw[dI]at hok;have hok:=hok.resolve_left LZ;rw[e8]at hok;refine⟨fun hr0=>?_,fun x hx=>?_⟩
  ·exfalso
   obtain⟨l,r,rfl⟩:=List.exists_cons_of_ne_nil hne;have:=B8 hE _ cr hsz (hr l (by simp)) hr0;subst this;exact LZ rfl
  ·rw[mem_ready]at hx;obtain⟨h1,o,h2,h3⟩:=hx;have hlt:=cw h2;have hdx:Nat.testBit done x=false:=by rw[←hd x hlt];exact h1
   have hrx:JF ops done x=true:=by
    unfold JF;rw[h2];simp only[e8,dI,cF];intro e he;cases hb:Region.binds .any e with
    |false=>exact .inl rfl
    |true=>
     right;have he':e∈o.after:=by simpa using he
     have h4:=h3 e he' hb;have h5:=hE x o h2 e he' hb;have h6:e.on<cr.size:=by omega
     rw[←hd e.on (by omega)];simp only[dG,Array.getElem?_eq_getElem h6,jM]at h4⊢;exact h4
   have hgo:=hok x (List.mem_range.2 hlt);rw[hdx,hrx]at hgo;simp only[Bool.false_or,Bool.not_true]at hgo;have qe:∀i,i<ops.size→(cr.setIfInBounds x true).getD i true=Nat.testBit (done|||2^x) i:=fun i hi=>by
    rw[Nat.testBit_or,Nat.testBit_two_pow,←hd i hi];have hi2:i<cr.size:=by omega
    simp only[dG,Array.getElem?_setIfInBounds];by_cases hxi:x=i
    ·subst hxi;simp[hi2]
    ·simp[hxi,hi2]
   have each:∀l',l'∈ls.filterMap (BX T s0 ops x)→l'.length≤fuel∧(∀i,i∈l'↔(i<ops.size∧(cr.setIfInBounds x true).getD i true=false))∧l'.Nodup∧pS T P ops o (mE T P ops K l') s Γ:=fun l' hl'=>by
    obtain⟨l,hm,hp⟩:=List.mem_filterMap.1 hl';obtain⟨p,q,rfl,rfl,RE⟩:=DE hp;obtain⟨_,g2,g3⟩:=wP hsz hlt (hr _ hm) (hn _ hm);have:=hl _ hm;exact⟨by simp at this⊢;omega,g2,g3,lR h2 p s Γ hs.wf pA RE (hv _ hm)⟩
   cases hsm:JN ops x with
   |true=>
    rw[hsm]at hgo;simp only[bZ,aK,cF,List.isEmpty_eq_false_iff]at hgo;obtain⟨OI,hgo⟩:=hgo;have hso:qt o=true:=by
     unfold JN at hsm;rw[h2]at hsm;exact hsm
    have hb:=Ln (P:=P) h2 pA hso hs ((ls.filterMap (BX T s0 ops x)).map fun l=>mE T P ops K l) (by simpa using OI) (fun K' hK'=>by
     obtain⟨l,_,rfl⟩:=List.mem_map.1 hK';exact vp UH l) (fun K' hK'=>by
     obtain⟨l,hm,rfl⟩:=List.mem_map.1 hK';exact(each l hm).2.2.2)
    have hb:=om (K':=fun s Γ=>je ops s0 s∧∀l∈ls.filterMap (BX T s0 ops x),mE T P ops K l s Γ) h2 pA hs.wf (fun s Γ hk _ h=>⟨hk,fun l hl=>h _ (List.mem_map.2 ⟨l,hl,rfl⟩)⟩) hb;refine o6 hT h2 hb hs (fun s' Γ' a' w' ρ' hs' ⟨Eu,hk'⟩=>?_) vI;exact ih n _ _ _ s' Γ' a' w' ρ' hgo OI (fun l hl=>(each l hl).1) (by simpa using hsz) qe (fun l hl=>(each l hl).2.1) (fun l hl=>(each l hl).2.2.1) (p5 hc h2 h3) Eu hk' hs'
   |false=>
    rw[hsm]at hgo;simp only[cK,nR]at hgo;obtain⟨l,hm,hgo⟩:=hgo;obtain⟨e1,e2,e3,e4⟩:=each l hm;have hb:=om (K':=fun s Γ=>je ops s0 s∧mE T P ops K l s Γ) h2 pA hs.wf (fun s Γ hk _ h=>⟨hk,h⟩) e4;refine o6 hT h2 hb hs (fun s' Γ' a' w' ρ' hs' ⟨Eu,hk'⟩=>?_) vI;have h1':∀{φ:List Nat→Prop},φ l→∀l'∈[l],φ l':=fun h l' hl'=>by
     simp only[aF,aJ,b_]at hl';subst hl';exact h
    exact ih n [l] _ _ s' Γ' a' w' ρ' hgo (by simp) (h1' e1) (by simpa using hsz) qe (h1' e2) (h1' e3) (p5 hc h2 h3) Eu (h1' hk') hs'
theorem HB{ops:Array Oper}{Q:Exit→Act→World→Prop}{K:VS→List aC→Prop}{id:Nat}{ls:List (List Nat)}(hT:T.Ok P)(hK:∀s Γ a w ρ,iq T w0 I0 Γ s a w ρ→K s Γ→Q .normal a w)(vI:∀ch a w,T.pan ch→a.defers=I0.ds→ka I0.x w0 w→(∃ks own,T.held ks own∧gB T own w∧∀x∈ks,a.tmps.getD x.1 undef=x.2)→Q (.panic ch) a w)(UH:zE T K)
  {s:VS}{Γ:List aC}{a:Act}{w:World}{ρ:Nat→Nat}(hok:EJ T s ops ls=true)(hv:∀l∈ls,mE T P ops K l s Γ)(hs:iq T w0 I0 Γ s a w ρ):(Code.region id ops true).wp P Q a w:=by
 simp only[EJ,Vf,aK,cF,e8,List.isEmpty_eq_false_iff]at hok;obtain⟨e0,e1,e2,e3⟩:=hok;refine wp_region_any hT.mixed (FC (K:=K) (bm:=sL ops.toList []) hT (fun i o ho e he hb=>?_) (rV ops.toList [] (fun k o hk=>by simpa using hk) (fun j i h=>by simp at h)) hK vI UH ops.size ops.size ls 0 _ s Γ a _ ρ e3 e0 (fun l hl=>Nat.le_of_eq (aI (e2 l hl).1)) (by simp) (fun i hi=>by simp[hi]) (fun l hl i=>?_)
  (fun l hl=>oe (e2 l hl).2.2.2) ?_ (je.refl _) hv hs.drew)
 ·have:=p7 ops.toList 0 e1 i o (by simpa using ho) e he hb;omega
 ·obtain⟨_,h1,h2,_⟩:=e2 l hl;constructor
  ·intro hx;have hlt:=tr (h2 i hx);exact⟨hlt,by simp[hlt]⟩
  ·rintro⟨hlt,_⟩;exact n_.1 (h1 i (List.mem_range.2 hlt))
 ·intro j o ho hl;by_cases hj:j<ops.size
  ·simp[hj]at hl
  ·simp[hj]at hl
theorem JH{ops:Array Oper}{Q:Exit→Act→World→Prop}{K:VS→List aC→Prop}{id j i:Nat}{l1 l2:List Nat}(hT:T.Ok P)(hK:∀s Γ a w ρ,iq T w0 I0 Γ s a w ρ→K s Γ→Q .normal a w)(vI:∀ch a w,T.pan ch→a.defers=I0.ds→ka I0.x w0 w→(∃ks own,T.held ks own∧gB T own w∧∀x∈ks,a.tmps.getD x.1 undef=x.2)→Q (.panic ch) a w)(UH:zE T K)
  {s:VS}{Γ:List aC}{a:Act}{w:World}{ρ:Nat→Nat}(hok:KG T s ops j i l1 l2=true)(hv1:mE T P ops K l1 s Γ)(hv2:mE T P ops K l2 s Γ)(hs:iq T w0 I0 Γ s a w ρ):(Code.region id ops true).wp P Q a w:=by
 simp only[KG,Ps,aK,cF]at hok;obtain⟨e0,e1,e2,e3,e4,⟨a1,a2,a3,a4,a5⟩,b1,b2,b3,b4,b5⟩:=hok;simp only[e8]at a2 a3 b2 b3 e4;have hji:j≠i:=by
  rintro rfl;simp at e0
 have hin:∀(l:List Nat),(∀x∈List.range ops.size,lI x l=true)→(∀x∈l,Nat.blt x ops.size=true)→∀x,x∈l↔(x<ops.size∧(Array.replicate ops.size false).getD x true=false):=fun l h1 h2 x=>by
  constructor
  ·intro hx;have hlt:=tr (h2 x hx);exact⟨hlt,by simp[hlt]⟩
  ·rintro⟨hlt,_⟩;exact n_.1 (h1 x (List.mem_range.2 hlt))
 refine wp_region_any hT.mixed (IE (K:=K) (bm:=sL ops.toList []) hT (fun i o ho e he hb=>?_) (rV ops.toList [] (fun k o hk=>by simpa using hk) (fun j i h=>by simp at h)) hK vI UH hji (fun x o ho hx1 hx2=>?_) ops.size l1 l2 _ s Γ a _ ρ (Nat.le_of_eq (aI a1)) (Nat.le_of_eq (aI b1)) (by simp) (hin l1 a2 a3) (hin l2 b2 b3) (oe a4) (oe b4)
  (n_.1 (a2 j (List.mem_range.2 (tr e1)))) (n_.1 (a2 i (List.mem_range.2 (tr e2)))) ?_ (ug a5) (ug b5) (je.refl _) hv1 hv2 hs.drew)
 ·have:=p7 ops.toList 0 e3 i o (by simpa using ho) e he hb;omega
 ·have:=e4 x (List.mem_range.2 (cw ho));unfold Vk at this;rw[ho]at this;simp only[dI]at this;rcases this with h|h|h|h|h
  ·exact .inl h
  ·exact absurd (aI h) hx1
  ·exact absurd (aI h) hx2
  ·exact .inr (.inl h)
  ·exact .inr (.inr h)
 ·intro j o ho hl;by_cases hj:j<ops.size
  ·simp[hj]at hl
  ·simp[hj]at hl
theorem JG{ops:Array Oper}{Q:Exit→Act→World→Prop}{K:VS→List aC→Prop}{id:Nat}{ord:List Nat}(hT:T.Ok P)(hK:∀s Γ a w ρ,iq T w0 I0 Γ s a w ρ→K s Γ→Q .normal a w)(vI:∀ch a w,T.pan ch→a.defers=I0.ds→ka I0.x w0 w→(∃ks own,T.held ks own∧gB T own w∧∀x∈ks,a.tmps.getD x.1 undef=x.2)→Q (.panic ch) a w)
  {s:VS}{Γ:List aC}{a:Act}{w:World}{ρ:Nat→Nat}(hok:KE T s ops ord=true)(hv:mE T P ops K ord s Γ)(hs:iq T w0 I0 Γ s a w ρ):(Code.region id ops true).wp P Q a w:=by
 simp only[KE,aK,e8]at hok;obtain⟨⟨⟨⟨⟨h0,h1⟩,h2⟩,h3⟩,h4⟩,h5⟩:=hok;have A5:=oe h3;have hlen:ord.length≤ops.size:=Nat.le_of_eq (aI h0);refine wp_region_any hT.mixed (tg (K:=K) (bm:=sL ops.toList []) hT (fun i o ho e he hb=>?_) (rV ops.toList [] (fun k o hk=>by simpa using hk) (fun j i h=>by simp at h)) hK vI ops.size ord _ s Γ a _ ρ hlen (by simp) (fun i=>?_) A5 ?_ (ue h5) (je.refl _) hv hs.drew)
 ·have:=p7 ops.toList 0 h4 i o (by simpa using ho) e he hb;omega
 ·constructor
  ·intro hi;have hlt:=tr (h2 i hi);exact⟨hlt,by simp[hlt]⟩
  ·rintro⟨hlt,_⟩;exact n_.1 (h1 i (List.mem_range.2 hlt))
 ·intro j o ho hl;by_cases hj:j<ops.size
  ·simp[hj]at hl
  ·simp[hj]at hl
theorem Hf{ops:Array Oper}{Q:Exit→Act→World→Prop}{K:VS→List aC→Prop}(hT:T.Ok P)(hK:∀s Γ a w ρ,iq T w0 I0 Γ s a w ρ→K s Γ→Q .normal a w)(vI:∀ch a w,T.pan ch→a.defers=I0.ds→ka I0.x w0 w→(∃ks own,T.held ks own∧gB T own w∧∀x∈ks,a.tmps.getD x.1 undef=x.2)→Q (.panic ch) a w):
  ∀(l:List Nat) (s:VS) (Γ:List aC) (a:Act) (w:World) (ρ:Nat→Nat),mE T P ops K l s Γ→iq T w0 I0 Γ s a w ρ→wpOps P ops Q l a w
 | [],s,Γ,a,w,ρ,hv,hs=>hK _ _ _ _ _ hs hv
 |i::r,s,Γ,a,w,ρ,hv,hs=>by
  rw[wpOps_cons];cases ho:ops[i]? with
  |some o=>
   rw[jJ ho]at hv;exact o6 hT ho hv hs (fun s' Γ' a' w' ρ' hs' hk'=>Hf hT hK vI r s' Γ' a' w' ρ' hk' hs') vI
  |none=>simp only[mE,ho]at hv
end
def eT(b:Nat)(cs:List Value):aC where
 p I w:=I b∧∃e,w.heap[b]? =some (.cells cs.toArray e (0,0))
 up:=by
  rintro I I' w w' ⟨hI,e,h⟩ h1 h2 _;exact⟨h1 b (cw h) hI,e,by rw[h2 b (cw h) hI];exact h⟩
theorem oY{b:Nat}{cs:List Value}{I:gd}{w:World}(h:(eT b cs).p I w)(i:Nat):w.cell? ⟨b,i,none⟩=cs[i]? :=by
 obtain⟨_,e,h⟩:=h;exact nV h i
theorem iq.pub{T:Tb}{w0:World}{I0:MY}{Γ:List aC}{s:VS}{a:Act}{w:World}{ρ:Nat→Nat}(h:iq T w0 I0 Γ s a w ρ){O1 O2:List (Nat×List Value)}{b:Nat}{cs:List Value}(hs:s.own=O1++(b,cs)::O2):
  iq T w0 I0 (eT b cs::Γ) {s with own:=O1++O2} a w ρ:=by
 have lV:∀x,x∈O1++O2→x∈s.own:=fun x hx=>by
  rw[hs];rcases List.mem_append.1 hx with h|h
  ·exact gU _ h
  ·exact iH _ (cQ _ h)
 have hb:(b,cs)∈s.own:=by rw[hs];simp
 have hnod:=h.nod;rw[hs]at hnod;simp only[aS,bQ]at hnod;have hn2:((O1++O2).map (·.1)).Nodup∧b∉(O1++O2).map (·.1):=by
  have:=(List.perm_middle (a:=b) (l₁:=O1.map (·.1)) (l₂:=O2.map (·.1))).nodup_iff.1 hnod;rw[km,←aS]at this;exact⟨this.2,this.1⟩
 refine h.owned (Δ:=[eT b cs]) (O:=O1++O2) (bD _ _) (aj _) (fun _ _ _=>rfl) (fun k c hk=>h.own k c (lV _ hk)) (fun k c hk=>.inl ⟨c,lV _ hk⟩) hn2.1 (aD.cons ⟨⟨fun _=>.inr ⟨cs,hb⟩,fun c hc=>hn2.2 (List.mem_map.2 ⟨(b,c),hc,rfl⟩)⟩,?_⟩ (aD.nil _ _));obtain⟨e,_,hc⟩:=h.own b cs hb;exact⟨e,hc⟩
def nN(t b:Nat):List SV→List SV
 | []=>[]
 |v::r=>(match v with
  | .ptr u off=>bif Nat.beq u t then .val (.pointer (some ⟨b,off,none⟩))else .ptr u off
  |w=>w)::nN t b r
theorem zw(t b:Nat):∀l:List SV,(nN t b l).length=l.length
 | []=>rfl
 |v::r=>by simp[nN,zw t b r]
theorem uz(t b:Nat):∀(l:List SV) (k:Nat) (sv:SV),(nN t b l)[k]? =some sv→(∃off,l[k]? =some (.ptr t off)∧sv=.val (.pointer (some ⟨b,off,none⟩)))∨(l[k]? =some sv∧∀off,sv≠.ptr t off)
 | [],k,sv,h=>by simp[nN]at h
 |v::r,0,sv,h=>by
  simp only[nN,eu,aq]at h;cases v with
  |ptr u off=>
   simp only at h;cases hb:Nat.beq u t with
   |true=>
    simp only[hb,bZ]at h;have:=aI hb;subst this;exact .inl ⟨off,rfl,h.symm⟩
   |false=>
    simp only[hb,cK]at h;subst h;refine .inr ⟨rfl,fun off' e=>?_⟩;injection e with e1 _;subst e1;simp at hb
  |val v=>simp only at h;subst h;exact .inr ⟨rfl,fun _ e=>by simp at e⟩
  |junk=>simp only at h;subst h;exact .inr ⟨rfl,fun _ e=>by simp at e⟩
 |v::r,k+1,sv,h=>by
  simp only[nN,ek]at h⊢;exact uz t b r k sv h
def VS.reveal(s:VS)(t b:Nat):VS:=⟨nN t b s.tmps,s.boxes.set t none,(b,(s.boxes.getD t none).getD [])::s.own,s.maps⟩
theorem iq.reveal{T:Tb}{w0:World}{I0:MY}{Γ:List aC}{s:VS}{a:Act}{w:World}{ρ:Nat→Nat}(h:iq T w0 I0 Γ s a w ρ)(t:Nat)(ht:(s.boxes.getD t none).isSome=true):iq T w0 I0 Γ (s.reveal t (ρ t)) a w ρ:=by
 obtain⟨cs,hcs⟩:∃cs,s.boxes[t]? =some (some cs):=by
  simp only[List.getD]at ht;cases hb:s.boxes[t]? with
  |none=>simp[hb]at ht
  |some q=>
   cases q with
   |none=>simp[hb]at ht
   |some cs=>exact⟨cs,rfl⟩
 have hgd:(s.boxes.getD t none).getD []=cs:=by simp[List.getD,hcs]
 have hbx:∀(u:Nat) (c:List Value),(s.reveal t (ρ t)).boxes[u]? =some (some c)→u≠t∧s.boxes[u]? =some (some c):=by
  intro u c hu;simp only[VS.reveal,bC]at hu;by_cases Ik:t=u
  ·rw[if_pos Ik]at hu;split at hu<;>simp at hu
  ·rw[if_neg Ik]at hu;exact⟨fun e=>Ik e.symm,hu⟩
 have lV:∀k c,(k,c)∈(s.reveal t (ρ t)).own→(k=ρ t∧c=cs)∨(k,c)∈s.own:=by
  intro k c hk;simp only[VS.reveal,hgd,aF,aG]at hk;exact hk
 refine⟨h.defers,by rw[h.len];exact(zw t (ρ t) s.tmps).symm,fun i sv hi=>?_,h.below,fun u c hu=>h.box u c (hbx u c hu).2,fun u v c1 c2 hu hv=>h.inj u v c1 c2 (hbx u c1 hu).2 (hbx v c2 hv).2,fun i u off hi=>?_,h.data,
  h.facts.up (fun b _ hI=>⟨hI.1,fun u c hu=>hI.2.1 u c (hbx u c hu).2,fun c hc=>?_,hI.2.2.2⟩) (fun _ _ _=>rfl) (aj _),fun k c hk=>?_,fun k c hk=>?_,fun k c hk u c' hu=>?_,?_,h.mapAt,h.mfresh,h.mnod⟩
 ·rcases uz t (ρ t) s.tmps i sv hi with⟨off,hp,rfl⟩|⟨hp,_⟩
  ·have:=h.tmps i (.ptr t off) hp;exact this
  ·exact h.tmps i _ hp
 ·rcases uz t (ρ t) s.tmps i _ hi with⟨off',hp,he⟩|⟨hp,hne⟩
  ·simp at he
  ·obtain⟨c,hc⟩:=h.wf i u off hp;refine⟨c,?_⟩;have:¬t=u:=fun e=>hne off (by rw[e]);simp only[VS.reveal,bC,if_neg this];exact hc
 ·rcases lV b c hc with⟨rfl,rfl⟩|hc
  ·exact hI.2.1 t _ hcs rfl
  ·exact hI.2.2.1 c hc
 ·rcases lV k c hk with⟨rfl,rfl⟩|hc
  ·exact(h.box t _ hcs).2
  ·exact h.own k c hc
 ·rcases lV k c hk with⟨rfl,rfl⟩|hc
  ·exact .inl (h.box t _ hcs).1
  ·exact h.fresh k c hc
 ·obtain⟨hut,hu'⟩:=hbx u c' hu;rcases lV k c hk with⟨rfl,rfl⟩|hc
  ·exact fun e=>hut (h.inj u t c' _ hu' hcs e.symm)
  ·exact h.sep k c hc u c' hu'
 ·simp only[VS.reveal,bQ,km];refine⟨fun hm=>?_,h.nod⟩;obtain⟨⟨k,c⟩,hk,he⟩:=List.mem_map.1 hm;simp only at he;subst he;exact h.sep _ c hk t cs hcs rfl
inductive It where
 |code (c:Code)
 |ops (all:Array Oper) (rest:List Nat)
 |blk (id:Nat)
 |again (R:VS→List aC→Prop)
 |rnd (n:Nat) (b:Code)
structure fF where
 s:VS
 k:List It
inductive Ev where
 |next (c:fF)
 |call (f:FuncId) (args:List Value) (d:Option Tmp) (c:fF)
 |read (o:Oper) (c:fF)
 |ask (o:Oper) (c:fF)
 |own (o:Oper) (c:fF)
 |ret (s:VS)
 |loop (b:Code) (c:fF)
 |again (R:VS→List aC→Prop) (s:VS)
 |stuck
def sO(id:Nat):List It→Option (List It)
 | []=>none
 | .blk i::k=>bif Nat.beq i id then some k else sO id k
 | .code _::k=>sO id k
 | .ops _ _::k=>sO id k
 | .again _::k=>sO id k
 | .rnd _ _::k=>sO id k
def p_(D B:List Nat):Nat→List SV→List SV
 |_,[]=>[]
 |i,v::r=>(bif lI i D then .junk else match v with
  | .ptr t o=>bif lI t B then .junk else .ptr t o
  |w=>w)::p_ D B (i+1) r
def oO(B:List Nat):Nat→List (Option (List Value))→List (Option (List Value))
 |_,[]=>[]
 |i,b::r=>(bif lI i B then none else b)::oO B (i+1) r
def VS.forget(s:VS)(D B:List Nat):VS:=⟨p_ D B 0 s.tmps,oO B 0 s.boxes,s.own,s.maps⟩
def Jr:List Oper→List Nat
 | []=>[]
 |o::r=>match o.dst with
  |some d=>d::Jr r
  |none=>Jr r
def EK:List Oper→List Nat
 | []=>[]
 |o::r=>match o.op,o.dst with
  | .alloc _,some d=>d::EK r
  | .box _ _,some d=>d::EK r
  |_,_=>EK r
def kq:Code→List Nat
 | .region _ ops _=>Jr ops.toList
 | .seq a b=>kq a++kq b
 | .cond _ a b=>kq a++kq b
 | .block _ b=>kq b
 | .loop b=>kq b
 | .scope b=>kq b
 |_=>[]
def jA:Code→List Nat
 | .region _ ops _=>EK ops.toList
 | .seq a b=>jA a++jA b
 | .cond _ a b=>jA a++jA b
 | .block _ b=>jA b
 | .loop b=>jA b
 | .scope b=>jA b
 |_=>[]
def ac8(o:Oper):Bool:=(match o.op with
 | .fieldAddr _ (.tmp _) _=>true
 |_=>false)&&o.guard.isNone
def g8(ops:Array Oper):List Oper→List Nat
 | []=>[]
 |o::r=>match o.dst with
  |some d=>bif (GA o&&AF ops d)||ac8 o then d::g8 ops r else g8 ops r
  |none=>g8 ops r
def aE(T:Tb)(c:fF):Ev:=
 match c.k with
 | []=>.ret c.s
 | .blk _::k=>.next ⟨c.s,k⟩
 | .again R::_=>.again R c.s
 | .rnd n b::k=>match n with
  |0=>.stuck
  |m+1=>.next ⟨c.s.forget [] (jA b),.code b::.rnd m b::k⟩
 | .ops _ []::k=>.next ⟨c.s,k⟩
 | .ops all (i::r)::k=>match all[i]? with
  |none=>.stuck
  |some o=>match gF all o c.s with
   |none=>.stuck
   |some g=>bif g then(match gp T o c.s with
     | .val v=>.next ⟨c.s.put o.dst v,.ops all r::k⟩
     | .new cs=>match o.dst with
      |some d=>match c.s.boxes[d]? with
       |some none=>.next ⟨{c.s with tmps:=c.s.tmps.set d (.ptr d 0),boxes:=c.s.boxes.set d (some cs)},.ops all r::k⟩
       |_=>.stuck
      |none=>.stuck
     | .upd b cs=>.next ⟨({c.s with boxes:=c.s.boxes.set b (some cs)}:VS).put o.dst (.val undef),.ops all r::k⟩
     | .read=>.read o ⟨c.s,.ops all r::k⟩
     | .ask=>.ask o ⟨c.s,.ops all r::k⟩
     | .own=>.own o ⟨c.s,.ops all r::k⟩
     | .call f args=>.call f args o.dst ⟨c.s,.ops all r::k⟩
     | .stuck=>.stuck)else .next ⟨c.s.put o.dst (.val undef),.ops all r::k⟩
 | .code cd::k=>match cd with
  | .skip=>.next ⟨c.s,k⟩
  | .region _ ops draw=>bif draw then(bif KE T (c.s.forget (g8 ops ops.toList) []) ops (KK T ops)then .next ⟨c.s.forget (g8 ops ops.toList) [],.ops ops (KK T ops)::k⟩else .stuck)else .next ⟨c.s,.ops ops (List.range ops.size)::k⟩
  | .seq a b=>.next ⟨c.s,.code a::.code b::k⟩
  | .cond x a b=>match c.s.ev x with
   | .val (.bool t)=>.next ⟨c.s,.code (bif t then a else b)::k⟩
   |_=>.stuck
  | .block id b=>.next ⟨c.s,.code b::.blk id::k⟩
  | .label _=>.next ⟨c.s,k⟩
  | .scope b=>.next ⟨c.s,.code b::k⟩
  | .loop b=>.loop b ⟨c.s,k⟩
  | .exit id=>match sO id k with
   |some k'=>.next ⟨c.s,k'⟩
   |none=>.stuck
  | .ret=>.ret c.s
  |_=>.stuck
def dF:List It→Bool
 | .ops _ _::_=>true
 |_=>false
theorem y8(D B:List Nat):∀(i:Nat) (l:List SV),(p_ D B i l).length=l.length
 |_,[]=>rfl
 |i,v::r=>by simp[p_,y8 D B (i+1) r]
theorem tI(D B:List Nat):∀(l:List SV) (i k:Nat) (sv:SV),(p_ D B i l)[k]? =some sv→sv=.junk∨(l[k]? =some sv∧∀t o,sv=.ptr t o→lI t B=false)
 | [],i,k,sv,h=>by simp[p_]at h
 |v::r,i,0,sv,h=>by
  simp only[p_,eu,aq]at h;cases hd:lI i D with
  |true=>simp only[hd,bZ]at h;exact .inl h.symm
  |false=>
   simp only[hd,cK]at h;cases v with
   |ptr t o=>
    simp only at h;cases ht:lI t B with
    |true=>simp only[ht,bZ]at h;exact .inl h.symm
    |false=>
     simp only[ht,cK]at h;subst h;exact .inr ⟨rfl,fun t' o' e=>by injection e with e1 _;subst e1;exact ht⟩
   |val w=>simp only at h;subst h;exact .inr ⟨rfl,fun _ _ e=>by simp at e⟩
   |junk=>exact .inl h.symm
 |v::r,i,k+1,sv,h=>by
  simp only[p_,ek]at h⊢;exact tI D B r (i+1) k sv h
theorem y9(B:List Nat):∀(l:List (Option (List Value))) (i k:Nat) (x:Option (List Value)),(oO B i l)[k]? =some x→(lI (i+k) B=true∧x=none)∨(lI (i+k) B=false∧l[k]? =some x)
 | [],i,k,x,h=>by simp[oO]at h
 |b::r,i,0,x,h=>by
  simp only[oO,eu,aq,fK]at h⊢;cases hb:lI i B with
  |true=>simp only[hb,bZ]at h;exact .inl ⟨rfl,h.symm⟩
  |false=>simp only[hb,cK]at h;exact .inr ⟨rfl,h⟩
 |b::r,i,k+1,x,h=>by
  simp only[oO,ek]at h⊢;have:=y9 B r (i+1) k x h
  rwa [show i+1+k=i+(k+1)by omega]at this
theorem wY(B:List Nat):∀(l:List (Option (List Value))) (i k:Nat) (x:Option (List Value)),l[k]? =some x→lI (i+k) B=false→(oO B i l)[k]? =some x
 | [],i,k,x,h,_=>by simp at h
 |b::r,i,0,x,h,hm=>by
  simp only[oO,eu,fK]at h hm⊢;simp only[hm,cK];exact h
 |b::r,i,k+1,x,h,hm=>by
  simp only[oO,ek]at h⊢;exact wY B r (i+1) k x h (by rwa [show i+1+k=i+(k+1)by omega])
def xH(T:Tb)(c:fF):Option Value:=
 match c.k with
 | .code (.region _ ops false)::_=>match ops.toList with
  | [a,b,d]=>match a.dst,a.guard,b.op,b.dst,b.guard,d.op,d.guard with
   |some x,none,.makeInterface u (.tmp y),some z,none,.panic (.tmp q),none=>
    match gp T a c.s,T.get u with
    | .val (.val v),some yt=>bif Nat.beq x y&&(Nat.beq z q&&(Nat.blt x c.s.tmps.length&&(Nat.blt z c.s.tmps.length&&yt.isStruct)))then some (.iface u v)else none
    |_,_=>none
   |_,_,_,_,_,_,_=>none
  |_=>none
 |_=>none
def XJ(c:fF):List Nat:=match c.k with
 | .code (.region _ ops _)::_=>ops.toList.filterMap (·.dst)
 |_=>[]
def Ov(T:Tb)(c:fF):Prop:=∃ks:List (Nat×Value),T.held ks c.s.own∧∀x∈ks,lI x.1 (XJ c)=false∧c.s.tmps[x.1]? =some (.val x.2)
inductive W(T:Tb)(P:Program)(fin:VS→List aC→Prop):fF→List aC→Prop
 |next {c c':fF} {Γ:List aC}:aE T c=.next c'→W T P fin c' Γ→W T P fin c Γ
 |call {c c':fF} {f:FuncId} {args:List Value} {d:Option Tmp} {Γ:List aC} (post:Value→List aC→Prop):aE T c=.call f args d c'→aw T P f args Γ post→(∀v Δ,post v Δ→W T P fin ⟨c'.s.put d (.val v),c'.k⟩ (Δ++Γ))→W T P fin c Γ
 |callo {c c':fF} {f:FuncId} {args:List Value} {d:Option Tmp} {Γ:List aC} (post:Value→List (Nat×List Value)→List aC→Prop):aE T c=.call f args d c'→ko T P f args Γ post→(∀v O Δ,post v O Δ→W T P fin ⟨({c'.s with own:=O++c'.s.own}:VS).put d (.val v),c'.k⟩ (Δ++Γ))→W T P fin c Γ
 |callx {c c':fF} {f:FuncId} {args:List Value} {d:Option Tmp} {Γ:List aC} {O1 Oin O2:List (Nat×List Value)} {M1 Min M2:List (Nat×List (Value×Value))} (post:Value→List (Nat×List Value)→List (Nat×List (Value×Value))→List aC→Prop):(T.hand=true∧T.calm f=false∧Ko T c'.s.tmps (O1++O2))→aE T c=.call f args d c'→c'.s.own=O1++(Oin++O2)→c'.s.maps=M1++(Min++M2)→dD T P f args Oin Min Γ post→(∀v O M Δ,post v O M Δ→W T P fin ⟨({c'.s with own:=O1++(O++O2),maps:=M1++(M++M2)}:VS).put d (.val v),c'.k⟩ (Δ++Γ))→W T P fin c Γ
 |read {c c':fF} {o:Oper} {Γ:List aC} (v:Value):aE T c=.read o c'→Aw T P c'.s o Γ v→W T P fin ⟨c'.s.put o.dst (.val v),c'.k⟩ Γ→W T P fin c Γ
 |ask {c c':fF} {o:Oper} {Γ:List aC} (post:Value→List aC→Prop):aE T c=.ask o c'→Ng T P c'.s o Γ post→(∀v Δ,post v Δ→W T P fin ⟨c'.s.put o.dst (.val v),c'.k⟩ (Δ++Γ))→W T P fin c Γ
 |own {c c':fF} {o:Oper} {Γ:List aC} (post:Value→List (Nat×List Value)→List aC→Prop):aE T c=.own o c'→VB T P c'.s o Γ post→(∀v O Δ,post v O Δ→W T P fin ⟨({c'.s with own:=O}:VS).put o.dst (.val v),c'.k⟩ (Δ++Γ))→W T P fin c Γ
 |mop {c c':fF} {o:Oper} {Γ:List aC} (post:Value→List (Nat×List Value)→List (Nat×List (Value×Value))→List aC→Prop):aE T c=.own o c'→CG T P c'.s o Γ post→(∀v O M Δ,post v O M Δ→W T P fin ⟨({c'.s with own:=O,maps:=M}:VS).put o.dst (.val v),c'.k⟩ (Δ++Γ))→W T P fin c Γ
 |pub {s:VS} {k:List It} {Γ:List aC} {O1 O2:List (Nat×List Value)} {b:Nat} {cs:List Value}:dF k=false→s.own=O1++(b,cs)::O2→W T P fin ⟨{s with own:=O1++O2},k⟩ (eT b cs::Γ)→W T P fin ⟨s,k⟩ Γ
 |reveal {s:VS} {k:List It} {Γ:List aC} (t:Nat):dF k=false→(s.boxes.getD t none).isSome=true→(∀b,W T P fin ⟨s.reveal t b,k⟩ Γ)→W T P fin ⟨s,k⟩ Γ
 |un {c c':fF} {b:Code} {Γ:List aC} (n:Nat):aE T c=.loop b c'→W T P fin ⟨c'.s,.rnd n b::c'.k⟩ Γ→W T P fin c Γ
 |ret {c:fF} {s:VS} {Γ:List aC}:aE T c=.ret s→fin s Γ→W T P fin c Γ
 |again {c:fF} {R:VS→List aC→Prop} {s:VS} {Γ:List aC}:aE T c=.again R s→R s Γ→W T P fin c Γ
 |loop {c c':fF} {b:Code} {Γ:List aC} (R:Nat→VS→List aC→Prop) (n:Nat):aE T c=.loop b c'→R n c'.s Γ→
   (∀m s Γ',R m s Γ'→W T P fin ⟨s,.code b::.again (fun s' Γ'=>∃m',m'<m∧R m' s' Γ')::c'.k⟩ Γ')→W T P fin c Γ
 |elim {c:fF} {Γ:List aC} {α:Type} (φ:α→Prop) (D:α→List aC):dF c.k=false→(∀I w,bj T I w→aD Γ I w→∃x,φ x∧aD (D x) I w)→(∀x,φ x→W T P fin c (D x++Γ))→W T P fin c Γ
 |sub {c:fF} {Γ Δ:List aC}:dF c.k=false→(∀I w,bj T I w→aD Γ I w→aD Δ I w)→W T P fin c Δ→W T P fin c Γ
 |two {s:VS} {k:List It} {id j i:Nat} {ops:Array Oper} {l1 l2:List Nat} {Γ:List aC}:KG T (s.forget (g8 ops ops.toList) []) ops j i l1 l2=true→W T P fin ⟨s.forget (g8 ops ops.toList) [],.ops ops l1::k⟩ Γ→W T P fin ⟨s.forget (g8 ops ops.toList) [],.ops ops l2::k⟩ Γ→W T P fin ⟨s,.code (.region id ops true)::k⟩ Γ
 |many {s:VS} {k:List It} {id:Nat} {ops:Array Oper} {ls:List (List Nat)} {Γ:List aC}:EJ T (s.forget (g8 ops ops.toList) []) ops ls=true→(∀l∈ls,W T P fin ⟨s.forget (g8 ops ops.toList) [],.ops ops l::k⟩ Γ)→W T P fin ⟨s,.code (.region id ops true)::k⟩ Γ
 |panic {c:fF} {Γ:List aC} (v:Value):xH T c=some v→T.pan [{v,recovered:=false}]→Ov T c→W T P fin c Γ
 |forget {s:VS} {k:List It} {Γ:List aC} (D B:List Nat):dF k=false→W T P fin ⟨s.forget D B,k⟩ Γ→W T P fin ⟨s,k⟩ Γ
section
variable{T:Tb}{P:Program}{w0:World}{I0:MY}
theorem iq.forget{Γ:List aC}{s:VS}{a:Act}{w:World}{ρ:Nat→Nat}(h:iq T w0 I0 Γ s a w ρ)(D B:List Nat):iq T w0 I0 Γ (s.forget D B) a w ρ:=by
 have hbx:∀(i:Nat) (cs:List Value),(s.forget D B).boxes[i]? =some (some cs)→s.boxes[i]? =some (some cs):=by
  intro i cs hi;rcases y9 B s.boxes 0 i _ hi with⟨_,h'⟩|⟨_,h'⟩
  ·simp at h'
  ·exact h'
 refine⟨h.defers,by rw[h.len];exact(y8 D B 0 s.tmps).symm,fun i sv hi=>?_,h.below,fun i cs hi=>h.box i cs (hbx i cs hi),fun i j c1 c2 hi hj=>h.inj i j c1 c2 (hbx i c1 hi) (hbx j c2 hj),fun i t off hi=>?_,h.data,
  h.facts.up (fun b _ hI=>⟨hI.1,fun i cs hi=>hI.2.1 i cs (hbx i cs hi),hI.2.2⟩) (fun _ _ _=>rfl) (aj _),h.own,h.fresh,fun b c hb i cs hi=>h.sep b c hb i cs (hbx i cs hi),h.nod,h.mapAt,h.mfresh,h.mnod⟩
 ·rcases tI D B s.tmps 0 i sv hi with rfl|⟨h',_⟩
  ·trivial
  ·exact h.tmps i sv h'
 ·rcases tI D B s.tmps 0 i _ hi with h'|⟨h',hm⟩
  ·simp at h'
  ·obtain⟨cs,hcs⟩:=h.wf i t off h';exact⟨cs,wY B s.boxes 0 t _ hcs (by simpa using hm t off rfl)⟩
def qM(T:Tb)(P:Program)(w0:World)(I0:MY)(Q:Exit→Act→World→Prop):List It→Exit→Act→World→Prop
 | []=>Q
 | .code c::k=>fun e a w=>match e with
  | .normal=>c.wp P (qM T P w0 I0 Q k) a w
  |e=>qM T P w0 I0 Q k e a w
 | .blk id::k=>Exit.inBlock id (qM T P w0 I0 Q k)
 | .again R::k=>fun e a w=>match e with
  | .normal=>∃s Γ ρ,R s Γ∧iq T w0 I0 Γ s a w ρ
  |e=>qM T P w0 I0 Q k e a w
 | .rnd n b::k=>fun e a w=>match e with
  | .normal=>Code.rounds P b (qM T P w0 I0 Q k) n a w
  |e=>qM T P w0 I0 Q k e a w
 | .ops _ _::k=>qM T P w0 I0 Q k
theorem rq{Q:Exit→Act→World→Prop}{a:Act}{w:World}(h:Q .ret a w):∀k:List It,qM T P w0 I0 Q k .ret a w
 | []=>h
 | .code _::k=>rq h k
 | .blk _::k=>rq h k
 | .again _::k=>rq h k
 | .rnd _ _::k=>rq h k
 | .ops _ _::k=>rq h k
theorem jx{Q:Exit→Act→World→Prop}{ch:List PanicEntry}{a:Act}{w:World}(h:Q (.panic ch) a w):∀k:List It,qM T P w0 I0 Q k (.panic ch) a w
 | []=>h
 | .code _::k=>jx h k
 | .blk _::k=>jx h k
 | .again _::k=>jx h k
 | .rnd _ _::k=>jx h k
 | .ops _ _::k=>jx h k
theorem o0{Q:Exit→Act→World→Prop}(hQ:∀l a w,¬Q (.goto l) a w){l:Nat}{a:Act}{w:World}:∀k:List It,¬qM T P w0 I0 Q k (.goto l) a w
 | [],h=>hQ l a w h
 | .code _::k,h=>o0 hQ k h
 | .blk _::k,h=>o0 hQ k h
 | .again _::k,h=>o0 hQ k h
 | .rnd _ _::k,h=>o0 hQ k h
 | .ops _ _::k,h=>o0 hQ k h
theorem oZ{Q:Exit→Act→World→Prop}{a:Act}{w:World}{id:Nat}:∀(k:List It) {k':List It},sO id k=some k'→qM T P w0 I0 Q k' .normal a w→qM T P w0 I0 Q k (.exit id) a w
 | [],_,hp,_=>by simp[sO]at hp
 | .code _::k,_,hp,h=>oZ k hp h
 | .again _::k,_,hp,h=>oZ k hp h
 | .rnd _ _::k,_,hp,h=>oZ k hp h
 | .ops _ _::k,_,hp,h=>oZ k hp h
 | .blk i::k,k',hp,h=>by
  simp only[sO]at hp;simp only[qM,Exit.inBlock];cases hb:Nat.beq i id with
  |true=>
   have:=aI hb;subst this;simp only[hb,bZ,aq]at hp;subst hp;simpa using h
  |false=>
   have:¬id=i:=by
    rintro rfl;simp at hb
   simp only[hb,cK]at hp;rw[if_neg this];exact oZ k hp h
def Fu(T:Tb)(P:Program)(w0:World)(I0:MY)(Q:Exit→Act→World→Prop)(c:fF)(Γ:List aC):Prop:=
 ∀a w ρ,iq T w0 I0 Γ c.s a w ρ→qM T P w0 I0 Q c.k .normal a w
def Is(T:Tb)(P:Program)(w0:World)(I0:MY)(Q:Exit→Act→World→Prop)(c:fF)(Γ:List aC):Prop:=
 match c.k with
 | .ops all rest::k=>mE T P all (fun s Γ=>Fu T P w0 I0 Q ⟨s,k⟩ Γ) rest c.s Γ
 |_=>Fu T P w0 I0 Q c Γ
theorem dB{Q:Exit→Act→World→Prop}{c:fF}{Γ:List aC}(hm:dF c.k=false):Is T P w0 I0 Q c Γ=Fu T P w0 I0 Q c Γ:=by
 unfold Is;split
 ·rename_i h;rw[h]at hm;simp[dF]at hm
 ·rfl
def sN:List It→Bool
 | []=>true
 | .ops _ _::_=>false
 |_::k=>sN k
theorem least{p:Nat→Prop}(h:∃n,p n):∃n,p n∧∀m,m<n→¬p m:=by
 obtain⟨n,hn⟩:=h
 induction n using Nat.strongRecOn with
 |_ n ih=>
  by_cases hx:∃m,m<n∧p m
  ·obtain⟨m,hm,hp⟩:=hx;exact ih m hm hp
  ·exact⟨n,hn,fun m hm hp=>hx ⟨m,hm,hp⟩⟩
open Classical in
noncomputable def xl (p:Nat→Prop):Nat:=if h:∃n,p n then Classical.choose (least h)else 0
theorem Jf{p:Nat→Prop}{n:Nat}(h:p n):xl p≤n:=by
 unfold xl;rw[dif_pos ⟨n,h⟩];have:=(Classical.choose_spec (least ⟨n,h⟩)).2;exact gV fun hlt=>this n hlt h
theorem Je{p:Nat→Prop}(h:∃n,p n):p (xl p):=by
 unfold xl;rw[dif_pos h];exact(Classical.choose_spec (least h)).1
theorem MK{Q:Exit→Act→World→Prop}{b:Code}{k:List It}{R:Nat→VS→List aC→Prop}{n:Nat}{s:VS}{Γ:List aC}(h0:R n s Γ)
  (hr:∀m s Γ,R m s Γ→Fu T P w0 I0 Q ⟨s,.code b::.again (fun s' Γ'=>∃m',m'<m∧R m' s' Γ')::k⟩ Γ):Fu T P w0 I0 Q ⟨s,.code (.loop b)::k⟩ Γ:=by
 intro a w ρ hs;show(Code.loop b).wp P (qM T P w0 I0 Q k) a w
 let J:Act→World→Nat→Prop:=fun a w m=>∃s Γ ρ,R m s Γ∧iq T w0 I0 Γ s a w ρ
 refine wp_loop (fun a w=>∃m,J a w m) (fun a w=>xl (J a w)) ⟨n,s,Γ,ρ,h0,hs⟩ (fun a' w' hI=>?_);obtain⟨s',Γ',ρ',hR,hs'⟩:=Je hI;have:=hr _ s' Γ' hR a' w' ρ' hs';refine wp_mono this (fun e a2 w2 he=>?_);cases e with
 |normal=>
  obtain⟨s2,Γ2,ρ2,⟨m',hm',hR2⟩,hs2⟩:=he;exact⟨⟨m',s2,Γ2,ρ2,hR2,hs2⟩,iN (Jf ⟨s2,Γ2,ρ2,hR2,hs2⟩) hm'⟩
 |exit id=>exact he
 |goto l=>exact he
 |ret=>exact he
 |panic c=>exact he
 |outgrown=>exact he
theorem QY{c c':fF}{all:Array Oper}{rest:List Nat}{k:List It}{Q:Exit→Act→World→Prop}{Γ:List aC}(hk:c.k=.ops all rest::k)(hst:aE T c=.next c')(h:Is T P w0 I0 Q c' Γ)(hno:dF k=false):Is T P w0 I0 Q c Γ:=by
 unfold Is;rw[hk];simp only;unfold aE at hst;rw[hk]at hst;cases rest with
 |nil=>
  simp only at hst;injection hst with hst;subst hst;rw[dB hno]at h;exact h
 |cons i r=>
  simp only at hst;split at hst
  ·simp at hst
  ·rename_i o ho;split at hst
   ·simp at hst
   ·rename_i g hg;rw[jJ ho];simp only[pS,hg];cases g with
    |false=>
     simp only[cK]at hst;injection hst with hst;subst hst;exact h
    |true=>
     simp only[bZ]at hst;simp only[sG];split at hst
     ·rename_i v hv
      (try rw[hv])
      injection hst with hst;subst hst;exact h
     ·rename_i cs hv
      (try rw[hv])
      split at hst
      ·rename_i d hd;split at hst
       ·rename_i hb
        (try rw[hd])
        injection hst with hst;subst hst;exact⟨hb,h⟩
       ·simp at hst
      ·simp at hst
     ·rename_i b cs hv
      (try rw[hv])
      injection hst with hst;subst hst;exact h
     ·simp at hst
     ·simp at hst
     ·simp at hst
     ·simp at hst
     ·simp at hst
def okK:List It→Bool
 | .ops _ _::k=>sN k
 |k=>sN k
theorem tV{k:List It}(h:sN k=true):okK k=true:=by
 cases k with
 |nil=>rfl
 |cons x k=>cases x<;>first|exact h|simp[sN]at h
theorem q9{k:List It}(h:sN k=true):dF k=false:=by
 cases k with
 |nil=>rfl
 |cons x k=>cases x<;>first|rfl|simp[sN]at h
theorem q_{id:Nat}:∀{k k':List It},sO id k=some k'→sN k=true→sN k'=true
 | [],_,hp,_=>by simp[sO]at hp
 | .code _::k,_,hp,h=>q_ (k:=k) hp h
 | .again _::k,_,hp,h=>q_ (k:=k) hp h
 | .rnd _ _::k,_,hp,h=>q_ (k:=k) hp h
 | .ops _ _::k,_,_,h=>by simp[sN]at h
 | .blk i::k,k',hp,h=>by
  simp only[sO]at hp;cases hb:Nat.beq i id with
  |true=>simp only[hb,bZ,aq]at hp;subst hp;exact h
  |false=>simp only[hb,cK]at hp;exact q_ (k:=k) hp h
theorem LK{cd:Code}{k:List It}{s:VS}{c':fF}{Q:Exit→Act→World→Prop}{Γ:List aC}(hT:T.Ok P)(hQ:∀l a w,¬Q (.goto l) a w)(vI:∀ch a w,T.pan ch→a.defers=I0.ds→ka I0.x w0 w→(∃ks own,T.held ks own∧gB T own w∧∀x∈ks,a.tmps.getD x.1 undef=x.2)→Q (.panic ch) a w)(hno:sN k=true)(hst:aE T ⟨s,.code cd::k⟩=.next c')(ih:okK c'.k=true→Is T P w0 I0 Q c' Γ):Fu T P w0 I0 Q ⟨s,.code cd::k⟩ Γ:=by
 intro a w ρ hs;show cd.wp P (qM T P w0 I0 Q k) a w;cases cd<;>simp only[aE]at hst<;>(try (simp at hst;done))
 case skip=>
  injection hst with hst;subst hst;have:=ih (tV hno);rw[dB (q9 hno)]at this;exact wp_skip (this a w ρ hs)
 case region id ops draw=>
  cases draw with
  |true=>
   simp only[bZ]at hst;cases hok:KE T (s.forget (g8 ops ops.toList) []) ops (KK T ops)with
   |false=>simp[hok]at hst
   |true=>
    simp only[hok,bZ]at hst;injection hst with hst;subst hst;have:=ih hno;exact JG hT (fun s' Γ' a' w' ρ' hs' hk=>hk a' w' ρ' hs') (fun ch a w h1 h2 h3 h4=>jx (vI ch a w h1 h2 h3 h4) k) hok this (hs.forget _ _)
  |false=>
   simp only[cK]at hst;injection hst with hst;subst hst;have:=ih hno;exact wp_region (Hf hT (fun s' Γ' a' w' ρ' hs' hk=>hk a' w' ρ' hs') (fun ch a w h1 h2 h3 h4=>jx (vI ch a w h1 h2 h3 h4) k) _ _ _ _ _ _ this hs)
 case seq x y=>
  injection hst with hst;subst hst;have:=ih hno;rw[dB rfl]at this;refine wp_seq (wp_mono (this a w ρ hs) (fun e a w he=>?_));cases e<;>exact he
 case cond x p q=>
  split at hst
  ·rename_i t hx;injection hst with hst;subst hst;have:=ih hno;rw[dB rfl]at this;have:=this a w ρ hs;refine wp_cond (hs.val hx) ?_;cases t<;>exact this
  ·simp at hst
 case block id b=>
  injection hst with hst;subst hst;have:=ih hno;rw[dB rfl]at this;exact wp_block (this a w ρ hs)
 case label l=>
  injection hst with hst;subst hst;have:=ih (tV hno);rw[dB (q9 hno)]at this;exact wp_label (this a w ρ hs)
 case scope b=>
  injection hst with hst;subst hst;have:=ih hno;rw[dB rfl]at this;refine wp_scope_straight (wp_mono (this a w ρ hs) (fun e a w he=>?_));cases e with
  |goto l=>exact(o0 hQ k he).elim
  |_=>exact he
 case exit id=>
  split at hst
  ·rename_i k' hk';injection hst with hst;subst hst;have aaa:=q_ hk' hno;have:=ih (tV aaa);rw[dB (q9 aaa)]at this;exact wp_exit (oZ k hk' (this a w ρ hs))
  ·simp at hst
theorem Js{c:fF}{f:FuncId}{args:List Value}{d:Option Tmp}{c':fF}(hst:aE T c=.call f args d c'):∃all i r k o,c.k=.ops all (i::r)::k∧all[i]? =some o∧gF all o c.s=some true∧gp T o c.s=.call f args∧d=o.dst∧c'=⟨c.s,.ops all r::k⟩:=by
 obtain⟨s,k⟩:=c;cases k with
 |nil=>simp[aE]at hst
 |cons x k=>
  cases x with
  |blk id=>simp[aE]at hst
  |again R=>simp[aE]at hst
  |rnd n b=>cases n<;>simp[aE]at hst
  |code cd=>
   exfalso
   cases cd<;>simp only[aE,aN]at hst<;>(repeat' (first|(simp at hst;done)|split at hst))
  |ops all rest=>
   cases rest with
   |nil=>simp[aE]at hst
   |cons i r=>
    simp only[aE]at hst;split at hst
    ·simp at hst
    ·rename_i o ho;split at hst
     ·simp at hst
     ·rename_i g hg;cases g with
      |false=>simp at hst
      |true=>
       simp only[bZ]at hst;split at hst<;>(try (simp at hst;done))
       ·exfalso
        (repeat' (first|(simp at hst;done)|split at hst))
       ·rename_i f' adR hv;injection hst with h1 h2 h3 h4;subst h1 h2 h3 h4;exact⟨all,i,r,k,o,rfl,ho,hg,hv,rfl,rfl⟩
theorem Py{c:fF}{o:Oper}{c':fF}(hst:aE T c=.read o c'):∃all i r k,c.k=.ops all (i::r)::k∧all[i]? =some o∧gF all o c.s=some true∧gp T o c.s=.read∧c'=⟨c.s,.ops all r::k⟩:=by
 obtain⟨s,k⟩:=c;cases k with
 |nil=>simp[aE]at hst
 |cons x k=>
  cases x with
  |blk id=>simp[aE]at hst
  |again R=>simp[aE]at hst
  |rnd n b=>cases n<;>simp[aE]at hst
  |code cd=>
   exfalso
   cases cd<;>simp only[aE,aN]at hst<;>(repeat' (first|(simp at hst;done)|split at hst))
  |ops all rest=>
   cases rest with
   |nil=>simp[aE]at hst
   |cons i r=>
    simp only[aE]at hst;split at hst
    ·simp at hst
    ·rename_i o' ho;split at hst
     ·simp at hst
     ·rename_i g hg;cases g with
      |false=>simp at hst
      |true=>
       simp only[bZ]at hst;split at hst<;>(try (simp at hst;done))
       ·exfalso
        (repeat' (first|(simp at hst;done)|split at hst))
       ·rename_i hv;injection hst with h1 h2;subst h1 h2;exact⟨all,i,r,k,rfl,ho,hg,hv,rfl⟩
theorem S7{c:fF}{o:Oper}{c':fF}(hst:aE T c=.ask o c'):∃all i r k,c.k=.ops all (i::r)::k∧all[i]? =some o∧gF all o c.s=some true∧gp T o c.s=.ask∧c'=⟨c.s,.ops all r::k⟩:=by
 obtain⟨s,k⟩:=c;cases k with
 |nil=>simp[aE]at hst
 |cons x k=>
  cases x with
  |blk id=>simp[aE]at hst
  |again R=>simp[aE]at hst
  |rnd n b=>cases n<;>simp[aE]at hst
  |code cd=>
   exfalso
   cases cd<;>simp only[aE,aN]at hst<;>(repeat' (first|(simp at hst;done)|split at hst))
  |ops all rest=>
   cases rest with
   |nil=>simp[aE]at hst
   |cons i r=>
    simp only[aE]at hst;split at hst
    ·simp at hst
    ·rename_i o' ho;split at hst
     ·simp at hst
     ·rename_i g hg;cases g with
      |false=>simp at hst
      |true=>
       simp only[bZ]at hst;split at hst<;>(try (simp at hst;done))
       ·exfalso
        (repeat' (first|(simp at hst;done)|split at hst))
       ·rename_i hv;injection hst with h1 h2;subst h1 h2;exact⟨all,i,r,k,rfl,ho,hg,hv,rfl⟩
theorem KI{c:fF}{o:Oper}{c':fF}(hst:aE T c=.own o c'):∃all i r k,c.k=.ops all (i::r)::k∧all[i]? =some o∧gF all o c.s=some true∧gp T o c.s=.own∧c'=⟨c.s,.ops all r::k⟩:=by
 obtain⟨s,k⟩:=c;cases k with
 |nil=>simp[aE]at hst
 |cons x k=>
  cases x with
  |blk id=>simp[aE]at hst
  |again R=>simp[aE]at hst
  |rnd n b=>cases n<;>simp[aE]at hst
  |code cd=>
   exfalso
   cases cd<;>simp only[aE,aN]at hst<;>(repeat' (first|(simp at hst;done)|split at hst))
  |ops all rest=>
   cases rest with
   |nil=>simp[aE]at hst
   |cons i r=>
    simp only[aE]at hst;split at hst
    ·simp at hst
    ·rename_i o' ho;split at hst
     ·simp at hst
     ·rename_i g hg;cases g with
      |false=>simp at hst
      |true=>
       simp only[bZ]at hst;split at hst<;>(try (simp at hst;done))
       ·exfalso
        (repeat' (first|(simp at hst;done)|split at hst))
       ·rename_i hv;injection hst with h1 h2;subst h1 h2;exact⟨all,i,r,k,rfl,ho,hg,hv,rfl⟩
theorem y_{arr:Array Value}{i j:Nat}{v d:Value}(h:i≠j):(arr.setIfInBounds i v).getD j d=arr.getD j d:=by
 simp only[dG];rw[Array.getElem?_setIfInBounds_ne h]
theorem Hq{c:fF}{v:Value}{Γ:List aC}{Q:Exit→Act→World→Prop}(hT:T.Ok P)(vI:∀ch a w,T.pan ch→a.defers=I0.ds→ka I0.x w0 w→(∃ks own,T.held ks own∧gB T own w∧∀x∈ks,a.tmps.getD x.1 undef=x.2)→Q (.panic ch) a w)(h:xH T c=some v)(hp:T.pan [{v,recovered:=false}])(Z2:Ov T c):Is T P w0 I0 Q c Γ:=by
 obtain⟨s,k⟩:=c;unfold xH at h;simp only at h;split at h
 rotate_left
 ·simp at h
 rename_i id ops k';split at h
 rotate_left
 ·simp at h
 rename_i oa ob od hl;split at h
 rotate_left
 ·simp at h
 rename_i x u y z q ha1 ha2 hb1 hb2 hb3 hd1 hd2;split at h
 rotate_left
 ·simp at h
 rename_i av yt hav hyt;simp only[aN]at h;split at h
 rotate_left
 ·simp at h
 rename_i hc;injection h with h;subst h;simp only[aK]at hc;obtain⟨c1,c2,c3,c4,c5⟩:=hc;have c1:=aI c1;have c2:=aI c2;subst c1 c2;have c3:=tr c3;have c4:=tr c4;have acX:ops= #[oa,ob,od]:=by rw[←Array.toArray_toList (xs:=ops),hl]
 subst acX;rw[dB rfl];intro a w ρ hs;show(Code.region id #[oa,ob,od] false).wp P (qM T P w0 I0 Q k') a w;refine wp_region ?_;have want:∀(a:Act) (o:Oper),o.guard=none→Region.wanted o (yielded #[oa,ob,od] a.tmps)=true:=fun a o ho=>by unfold Region.wanted;rw[ho]
 have go:∀(i:Nat) (rest:List Nat) (o:Oper) (a:Act) (v:Value),#[oa,ob,od][i]? =some o→o.guard=none→(execOp a.eval o).run P w=.ok (.value v) w→wpOps P #[oa,ob,od] (qM T P w0 I0 Q k') rest (a.put o.dst v) w→wpOps P #[oa,ob,od] (qM T P w0 I0 Q k') (i::rest) a w:=by
  intro i rest o a v hi hg hr hk;rw[wpOps_cons];unfold wpOp;rw[hi];simp only;rw[want a o hg,if_pos rfl];left;unfold Oper.wp;rw[hr];exact hk
 obtain⟨v1,hr1,hp1,hrun⟩:=Lp hT hs hav;have hr1:v1=av:=hr1;subst hr1;have Cv:a.tmps.size=s.tmps.length:=hs.len;have OT:x<a.tmps.size:=by rw[Cv];exact c3
 have hzl:z<a.tmps.size:=by rw[Cv];exact c4
 have get:∀(a:Act) (t:Nat) (v:Value),t<a.tmps.size→(a.put (some t) v).eval (.tmp t)=v:=by
  intro a t v ht;simp[Act.put,Act.eval,ht]
 show wpOps P #[oa,ob,od] _ [0,1,2] a w;refine go 0 _ oa a v1 rfl ha2 hrun ?_;obtain⟨fs,hu,_⟩:=oS hT hyt c5;have e1:(a.put oa.dst v1).eval (.tmp x)=v1:=by
  rw[ha1];exact get a x v1 OT
 refine go 1 _ ob _ (.iface u v1) rfl hb3 ?_ ?_
 ·simp only[execOp,hb1,e1,Instr.makeInterface];simp[cM hu]
 have e2:((a.put oa.dst v1).put ob.dst (.iface u v1)).eval (.tmp z)=.iface u v1:=by
  rw[hb2];refine get _ z _ ?_;rw[ha1];simpa [Act.put]using hzl
 rw[wpOps_cons];unfold wpOp;rw[show(#[oa,ob,od][2]? :Option Oper)=some od from rfl];simp only;rw[want _ od hd2,if_pos rfl];left;unfold Oper.wp;have e3:(execOp ((a.put oa.dst v1).put ob.dst (.iface u v1)).eval od).run P w=.halt (.panic (.iface u v1)) w:=by
  simp only[execOp,hd1,e2,Instr.panic];rfl
 rw[e3];show qM T P w0 I0 Q k' (.panic [{v:=.iface u v1,recovered:=false}]) _ w;obtain⟨ks,kh1,kh2⟩:=Z2;refine jx (vI _ _ w hp ?_ hs.below ⟨ks,_,kh1,hs.own,fun e he=>?_⟩) k'
 ·rw[hb2,ha1];exact hs.defers
 ·obtain⟨g1,g2⟩:=kh2 e he;have aac:e.1∉XJ ⟨s,.code (.region id #[oa,ob,od] false)::k'⟩:=fun h=>by
   rw[n_.2 h]at g1;simp at g1
  have hx:e.1≠x:=fun h=>aac (List.mem_filterMap.2 ⟨oa,by simp,by rw[ha1,h]⟩);have hz:e.1≠z:=fun h=>aac (List.mem_filterMap.2 ⟨ob,by simp,by rw[hb2,h]⟩);have h3:=hs.tmps e.1 _ g2;rw[hb2,ha1];simp only[Act.put];rw[y_ (fun h=>hz h.symm),y_ (fun h=>hx h.symm)];exact h3
theorem W.sound{fin:VS→List aC→Prop}{Q:Exit→Act→World→Prop}{c:fF}{Γ:List aC}(hT:T.Ok P)(hQ:∀l a w,¬Q (.goto l) a w)(hfin:∀s Γ a w ρ,fin s Γ→iq T w0 I0 Γ s a w ρ→Q .normal a w∧Q .ret a w)(vI:∀ch a w,T.pan ch→a.defers=I0.ds→ka I0.x w0 w→(∃ks own,T.held ks own∧gB T own w∧∀x∈ks,a.tmps.getD x.1 undef=x.2)→Q (.panic ch) a w)(h:W T P fin c Γ):okK c.k=true→Is T P w0 I0 Q c Γ:=by
 induction h with
 | @next c c' Γ hst hw ih=>
  intro hok;obtain⟨s,k⟩:=c;cases k with
  |nil=>simp[aE]at hst
  |cons x k=>
   cases x with
   |blk id=>
    simp only[aE]at hst;injection hst with hst;subst hst;have hno:sN k=true:=hok;have:=ih (tV hno);have hm:dF (fF.mk s k).k=false:=q9 hno;rw[dB hm]at this;exact this
   |again R=>simp[aE]at hst
   |rnd n b=>
    cases n with
    |zero=>simp[aE]at hst
    |succ n=>
     simp only[aE]at hst;injection hst with hst;subst hst;have:=ih hok;rw[dB rfl]at this;rw[dB rfl];intro a w ρ hs;have:=this a w ρ (hs.forget [] (jA b));show Code.rounds P b (qM T P w0 I0 Q k) (n+1) a w;rw[rounds_succ];refine wp_mono this (fun e a w he=>?_);cases e<;>exact he
   |code cd=>rw[dB rfl];exact LK hT hQ vI hok hst ih
   |ops all rest=>
    refine QY rfl hst (ih ?_) (q9 hok);cases rest with
    |nil=>
     simp only[aE]at hst;injection hst with hst;subst hst;exact tV hok
    |cons i r=>
     simp only[aE,aN]at hst
     (repeat' (first|(simp at hst;done)|split at hst))<;>(injection hst with hst;subst hst;exact hok)
 | @call c c' f args d Γ post hst hp hk ih=>
  intro hok;obtain⟨all,i,r,k,o,hck,ho,hg,hv,rfl,rfl⟩:=Js hst;unfold Is;rw[hck];rw[hck]at hok;simp only[jJ ho,pS,hg,sG,hv];exact Cl hp.o (fun v O Δ ⟨hO,yg⟩=>by subst hO;exact ih v Δ yg hok)
 | @callo c c' f args d Γ post hst hp hk ih=>
  intro hok;obtain⟨all,i,r,k,o,hck,ho,hg,hv,rfl,rfl⟩:=Js hst;unfold Is;rw[hck];rw[hck]at hok;simp only[jJ ho,pS,hg,sG,hv];exact Cl hp (fun v O Δ yg=>ih v O Δ yg hok)
 | @callx c c' f args d Γ O1 Oin O2 M1 Min M2 post hh hst eo em hp hk ih=>
  intro hok;obtain⟨all,i,r,k,o,hck,ho,hg,hv,rfl,rfl⟩:=Js hst;unfold Is;rw[hck];rw[hck]at hok;simp only[jJ ho,pS,hg,sG,hv];exact .inr ⟨⟨hh.1,hh.2.1⟩,O1,Oin,O2,M1,Min,M2,post,eo,em,hh.2.2,hp,fun v O M Δ yg=>ih v O M Δ yg hok⟩
 | @read c c' o Γ v hst ht hk ih=>
  intro hok;obtain⟨all,i,r,k,hck,ho,hg,hv,rfl⟩:=Py hst;unfold Is;rw[hck];rw[hck]at hok;simp only[jJ ho,pS,hg,sG,hv];exact⟨v,ht,ih hok⟩
 | @ask c c' o Γ post hst hp hk ih=>
  intro hok;obtain⟨all,i,r,k,hck,ho,hg,hv,rfl⟩:=S7 hst;unfold Is;rw[hck];rw[hck]at hok;simp only[jJ ho,pS,hg,sG,hv];exact⟨post,hp,fun v Δ yg=>ih v Δ yg hok⟩
 | @own c c' o Γ post hst hp hk ih=>
  intro hok;obtain⟨all,i,r,k,hck,ho,hg,hv,rfl⟩:=KI hst;unfold Is;rw[hck];rw[hck]at hok;simp only[jJ ho,pS,hg,sG,hv];exact⟨_,hp.m,fun v O M Δ ⟨hM,yg⟩=>by subst hM;exact ih v O Δ yg hok⟩
 | @mop c c' o Γ post hst hp hk ih=>
  intro hok;obtain⟨all,i,r,k,hck,ho,hg,hv,rfl⟩:=KI hst;unfold Is;rw[hck];rw[hck]at hok;simp only[jJ ho,pS,hg,sG,hv];exact⟨post,hp,fun v O M Δ yg=>ih v O M Δ yg hok⟩
 | @pub s k Γ O1 O2 b cs hm ho hk ih=>
  intro hok;have:=ih hok;have hm1:dF (fF.mk s k).k=false:=hm;have hm2:dF (fF.mk {s with own:=O1++O2} k).k=false:=hm;rw[dB hm2]at this;rw[dB hm1];intro a w ρ hs;exact this a w ρ (hs.pub ho)
 | @reveal s k Γ t hm ht hk ih=>
  intro hok;have hm1:dF (fF.mk s k).k=false:=hm;rw[dB hm1];intro a w ρ hs;have:=ih (ρ t) hok;have hm2:dF (fF.mk (s.reveal t (ρ t)) k).k=false:=hm;rw[dB hm2]at this;exact this a w ρ (hs.reveal t ht)
 | @un c c' b Γ n hst hk ih=>
  intro hok;obtain⟨s',k⟩:=c;cases k with
  |nil=>simp[aE]at hst
  |cons x k=>
   cases x with
   |blk id=>simp[aE]at hst
   |again R'=>simp[aE]at hst
   |rnd n b=>cases n<;>simp[aE]at hst
   |ops all rest=>
    exfalso
    cases rest with
    |nil=>simp[aE]at hst
    |cons i r=>
     simp only[aE,aN]at hst
     (repeat' (first|(simp at hst;done)|split at hst))
   |code cd=>
    cases cd<;>simp only[aE,aN]at hst<;>(try (exfalso;(repeat' (first|(simp at hst;done)|split at hst));done))
    case loop b'=>
     injection hst with h1 h2;subst h1 h2;have:=ih hok;rw[dB rfl]at this;rw[dB rfl];intro a w ρ hs;exact wp_loop_rounds n (this a w ρ hs)
 | @ret c s Γ hst hf=>
  intro hok;obtain⟨s',k⟩:=c;cases k with
  |nil=>
   simp only[aE]at hst;injection hst with hst;subst hst;intro a w ρ hs;exact(hfin _ _ _ _ _ hf hs).1
  |cons x k=>
   cases x with
   |blk id=>simp[aE]at hst
   |again R=>simp[aE]at hst
   |rnd n b=>cases n<;>simp[aE]at hst
   |ops all rest=>
    exfalso
    cases rest with
    |nil=>simp[aE]at hst
    |cons i r=>
     simp only[aE,aN]at hst
     (repeat' (first|(simp at hst;done)|split at hst))
   |code cd=>
    cases cd<;>simp only[aE,aN]at hst<;>(try (exfalso;(repeat' (first|(simp at hst;done)|split at hst));done))
    case ret=>
     injection hst with hst;subst hst;rw[dB rfl];intro a w ρ hs;exact wp_ret (rq (hfin _ _ _ _ _ hf hs).2 k)
 | @again c R s Γ hst hR=>
  intro hok;obtain⟨s',k⟩:=c;cases k with
  |nil=>simp[aE]at hst
  |cons x k=>
   cases x with
   |blk id=>simp[aE]at hst
   |again R'=>
    simp only[aE]at hst;injection hst with h1 h2;subst h1 h2;rw[dB rfl];intro a w ρ hs;exact⟨_,_,ρ,hR,hs⟩
   |rnd n b=>cases n<;>simp[aE]at hst
   |ops all rest=>
    exfalso
    cases rest with
    |nil=>simp[aE]at hst
    |cons i r=>
     simp only[aE,aN]at hst
     (repeat' (first|(simp at hst;done)|split at hst))
   |code cd=>exfalso;cases cd<;>simp only[aE,aN]at hst<;>(repeat' (first|(simp at hst;done)|split at hst))
 | @loop c c' b Γ R n hst h0 hr ih=>
  intro hok;obtain⟨s',k⟩:=c;cases k with
  |nil=>simp[aE]at hst
  |cons x k=>
   cases x with
   |blk id=>simp[aE]at hst
   |again R'=>simp[aE]at hst
   |rnd n b=>cases n<;>simp[aE]at hst
   |ops all rest=>
    exfalso
    cases rest with
    |nil=>simp[aE]at hst
    |cons i r=>
     simp only[aE,aN]at hst
     (repeat' (first|(simp at hst;done)|split at hst))
   |code cd=>
    cases cd<;>simp only[aE,aN]at hst<;>(try (exfalso;(repeat' (first|(simp at hst;done)|split at hst));done))
    case loop b'=>
     injection hst with h1 h2;subst h1 h2;rw[dB rfl];exact MK h0 (fun m s Γ' hR=>by
      have:=ih m s Γ' hR hok;rw[dB rfl]at this;exact this)
 | @elim c Γ α φ D hm he hk ih=>
  intro hok;rw[dB hm];intro a w ρ hs;obtain⟨x,hx,hd⟩:=he _ _ hs.dataOK hs.facts;have:=ih x hx hok;rw[dB hm]at this;exact this a w ρ ⟨hs.defers,hs.len,hs.tmps,hs.below,hs.box,hs.inj,hs.wf,hs.data,hd.append hs.facts,hs.own,hs.fresh,hs.sep,hs.nod,hs.mapAt,hs.mfresh,hs.mnod⟩
 | @sub c Γ Δ hm he hk ih=>
  intro hok;have:=ih hok;rw[dB hm]at this⊢;intro a w ρ hs;exact this a w ρ (hs.weak he)
 | @two s k id j i ops l1 l2 Γ I6 h1 h2 ih1 ih2=>
  intro hok;have g1:=ih1 hok;have g2:=ih2 hok;rw[dB rfl];intro a w ρ hs;refine JH (K:=fun s Γ=>Fu T P w0 I0 Q ⟨s,k⟩ Γ) hT (fun s' Γ' a' w' ρ' hs' hk=>hk a' w' ρ' hs') (fun ch a w h1 h2 h3 h4=>jx (vI ch a w h1 h2 h3 h4) k) (fun s Γ Γ' hi hk a w ρ hs=>hk a w ρ (hs.weak hi)) I6 g1 g2 (hs.forget _ _)
 | @many s k id ops ls Γ I6 h1 ih1=>
  intro hok;have g1:=fun l hl=>ih1 l hl hok;rw[dB rfl];intro a w ρ hs;refine HB (K:=fun s Γ=>Fu T P w0 I0 Q ⟨s,k⟩ Γ) hT (fun s' Γ' a' w' ρ' hs' hk=>hk a' w' ρ' hs') (fun ch a w h1 h2 h3 h4=>jx (vI ch a w h1 h2 h3 h4) k) (fun s Γ Γ' hi hk a w ρ hs=>hk a w ρ (hs.weak hi)) I6 g1 (hs.forget _ _)
 |panic v hp1 hp2 hp3=>
  intro hok;exact Hq hT vI hp1 hp2 hp3
 | @forget s k Γ D B hm hk ih=>
  intro hok;have:=ih hok;have hm':dF (fF.mk s k).k=false:=hm;have hm2:dF (fF.mk (s.forget D B) k).k=false:=hm;rw[dB hm2]at this;rw[dB hm'];intro a w ρ hs;exact this a w ρ (hs.forget D B)
end
def Vp(T:Tb)(s:VS)(b off:Nat)(t:TypeId):Option Value:=
 match T.get t,s.boxes.getD b none with
 |some y,some cs=>
  bif y.agg then(bif Nat.ble (off+y.size) cs.length then some (.agg ((cs.drop off).take y.size).toArray)else none)
  else cs[off]?
 |_,_=>none
def Al(T:Tb)(s:VS):ResultVar→Option Value
 | .tmp t=>(s.ev (.tmp t)).val?
 | .cell x ty=>match s.ev (.tmp x)with
  | .ptr b off=>Vp T s b off ty
  |_=>none
def DT(T:Tb)(s:VS):List ResultVar→Option (List Value)
 | []=>some []
 |r::rs=>match Al T s r,DT T s rs with
  |some v,some vs=>some (v::vs)
  |_,_=>none
def ou(T:Tb)(s:VS)(rs:List ResultVar):Option Value:=
 match DT T s rs with
 |some [v]=>some v
 |some vs=>some (.tuple vs.toArray)
 |none=>none
def vk(tm:Array Value)(r:ResultVar):Sem Value:=
 match r with
 | .tmp t=>pure (tm.getD t undef)
 | .cell x t=>do loadVar t (←asAddr (tm.getD x undef))
theorem JK(fn:Func)(tm:Array Value):results fn tm=(do let vs ←fn.results.mapM (vk tm);pure (if h:vs.size=1 then vs[0]else .tuple vs)):=by
 unfold results;have:vk tm=(fun r=>match r with
  | .tmp t=>pure (tm.getD t undef)
  | .cell x t=>do loadVar t (←asAddr (tm.getD x undef)):ResultVar→Sem Value):=by
  funext r;cases r<;>rfl
 rw[this];rfl
section
variable{T:Tb}{P:Program}{w0:World}{I0:MY}
theorem JI{Γ:List aC}{s:VS}{a:Act}{w:World}{ρ:Nat→Nat}{r:ResultVar}{v:Value}(hT:T.Ok P)(hs:iq T w0 I0 Γ s a w ρ)(h:Al T s r=some v):
  (vk a.tmps r).run P w=.ok v w:=by
 cases r with
 |tmp t=>
  simp only[Al,SV.val?]at h;split at h
  ·rename_i u hu;injection h with h;subst h;have:=hs.val hu;simp only[Act.eval]at this;simp only[vk,this];rfl
  ·simp at h
 |cell x ty=>
  simp only[Al]at h;split at h
  ·rename_i b off hx;unfold Vp at h;split at h
   ·rename_i y cs hy hcs;have hp:=hs.evptr hx;simp only[Act.eval]at hp;obtain⟨h1,h2⟩:=GK (o:=⟨none,.load ty (.tmp x),0, "",#[],none⟩) hT hs rfl hx hy hcs;have hrun:∀v,(execOp a.eval ⟨none,.load ty (.tmp x),0, "",#[],none⟩).run P w=.ok (.value v) w→(loadVar ty ⟨ρ b,off,none⟩).run P w=.ok v w:=by
     intro v hv;simp only[execOp,Instr.loadAt,Instr.sureAddr,hs.evptr hx,cB,dT,bu]at hv;cases hl:(loadVar ty ⟨ρ b,off,none⟩).run P w with
     |ok u w'=>
      rw[hl]at hv;simp only[bu]at hv;injection hv with hv1 hv2;injection hv1 with hv1;subst hv1 hv2;rfl
     |halt e w'=>
      rw[hl]at hv;simp at hv
    have Z1:(loadVar ty ⟨ρ b,off,none⟩).run P w=.ok v w:=by
     cases Ey:y.agg with
     |true=>
      simp only[Ey,bZ]at h;cases hle:Nat.ble (off+y.size) cs.length with
      |false=>simp[hle]at h
      |true=>
       simp only[hle,bZ]at h;injection h with h;subst h;exact hrun _ (h1 Ey (lZ hle))
     |false=>
      simp only[Ey,cK]at h;exact hrun _ (h2 Ey v h)
    simp only[vk,cB,hp,asAddr,dT,bu];exact Z1
   ·simp at h
  ·simp at h
theorem HH{Γ:List aC}{s:VS}{a:Act}{w:World}{ρ:Nat→Nat}(hT:T.Ok P)(hs:iq T w0 I0 Γ s a w ρ):∀{rs:List ResultVar} {vs:List Value},DT T s rs=some vs→
  (rs.mapM (vk a.tmps)).run P w=.ok vs w
 | [],vs,h=>by
  simp only[DT,aq]at h;subst h;rfl
 |r::rs,vs,h=>by
  unfold DT at h;split at h
  ·rename_i v us hv hu;injection h with h;subst h;have h1:=JI hT hs hv;have h2:=HH hT hs hu;rw[List.mapM_cons];simp only[cB];rw[h1];simp only[bu];rw[h2];rfl
  ·simp at h
theorem Ae{Γ:List aC}{s:VS}{a:Act}{w:World}{ρ:Nat→Nat}{fn:Func}{v:Value}(hT:T.Ok P)(hs:iq T w0 I0 Γ s a w ρ)(h:ou T s fn.results.toList=some v):(results fn a.tmps).run P w=.ok v w:=by
 unfold ou at h;rw[JK,Array.mapM_eq_mapM_toList];cases hl:DT T s fn.results.toList with
 |none=>simp[hl]at h
 |some vs=>
  have h2:=HH hT hs hl;simp only[cB,Sem.run_map];rw[h2];rw[hl]at h;simp only[bu];split at h
  ·rename_i u hu;injection hu with hu;subst hu;injection h with h;subst h;rfl
  ·rename_i us hne hu;injection hu with hu;subst hu;injection h with h;subst h;have:¬vs.toArray.size=1:=by
    intro he;cases vs with
    |nil=>simp at he
    |cons x r=>
     cases r with
     |nil=>exact hne x rfl
     |cons y r=>simp at he
   rw[dif_neg this];rfl
  ·simp at h
def Fin(T:Tb)(fn:Func)(post:Value→List aC→Prop)(s:VS)(Γ:List aC):Prop:=
 ∃v Δ,ou T s fn.results.toList=some v∧post v Δ∧∀I w,bj T I w→aD Γ I w→aD Δ I w
def fg(fn:Func)(c:Code)(args:List Value):fF:=
 ⟨{tmps:=args.map .val++List.replicate (fn.ntmps-args.length) (.val undef),boxes:=List.replicate fn.ntmps none,own:=[],maps:=[]},[.code c]⟩
theorem aw.of_W{f:FuncId}{fn:Func}{c:Code}{args:List Value}{Γ:List aC}{post:Value→List aC→Prop}(hT:T.Ok P)(hf:P.funcs[f]? =some fn)(hb:fn.body=some c)
  (h:W T P (Fin T fn post) (fg fn c args) Γ)(hnp:∀ch,¬T.pan ch:=by intro _ h;exact h)(hn:(fn.name== "runtime.NumGoroutine")=false:=by kernel_rfl):aw T P f args Γ post:=by
 refine⟨⟨fn,hf,hn,by rw[hb];rfl⟩,fun I w hd hh=>?_⟩;refine calls_of_wp hf hb ?_;have hs0:iq T w ⟨I,fun _=>False,[]⟩ Γ (fg fn c args).s {tmps:=args.toArray++Array.replicate (fn.ntmps-args.toArray.size) undef,defers:=[]} w (fun _=>0):=by
  have tM:∀(t:Nat) (cs:List Value),(fg fn c args).s.boxes[t]? =some (some cs)→False:=by
   intro t cs ht;simp only[fg,c_]at ht;split at ht<;>simp at ht
  refine⟨rfl,by simp[fg],fun i sv hi=>?_,ka.refl _ _,fun t cs ht=>(tM t cs ht).elim,fun t u cs cs' ht=>(tM t cs ht).elim,?_,hd,hh.up (fun b hb hI=>⟨fun _=>.inl hI,fun t cs ht=>(tM t cs ht).elim,fun cs hc=>by simp[fg]at hc,fun m hm=>by simp[fg]at hm⟩) (fun _ _ _=>rfl) (aj _),fun b cs hc=>by simp[fg]at hc,fun b cs hc=>by simp[fg]at hc,fun b cs hc=>by simp[fg]at hc,by simp[fg],fun b m hm=>by simp[fg]at hm,fun b m hm=>by simp[fg]at hm,by simp[fg]⟩
  ·simp only[fg,kt,bM]at hi;simp only[dG,Array.getElem?_append,qB];split at hi
   ·rename_i hlt;simp only[bL]at hi;rw[if_pos hlt];cases hx:args[i]? with
    |none=>rw[hx]at hi;simp at hi
    |some v=>
     rw[hx]at hi;simp only[di,aq]at hi;subst hi;simp[hx,rel]
   ·rename_i hlt;rw[if_neg hlt];simp only[c_]at hi;split at hi
    ·rename_i hl;injection hi with hi;subst hi;simp[hl,rel]
    ·simp at hi
  ·intro i t off hi
   exfalso
   simp only[fg,kt,bM]at hi;split at hi
   ·simp only[bL]at hi;cases hx:args[i]? with
    |none=>rw[hx]at hi;simp at hi
    |some v=>rw[hx]at hi;simp at hi
   ·simp only[c_]at hi;split at hi<;>simp at hi
 have:=h.sound (w0:=w) (I0:=⟨I,fun _=>False,[]⟩) (Q:=bodyPost P fn fun e w'=>∃v Δ,e=.returned v∧post v Δ∧Below w.heap.size w w'∧aD Δ (fun b=>b<w.heap.size→I b) w') hT (fun l a w h=>h) (fun s Γ a w' ρ hfin hs=>by
  obtain⟨v,Δ,hv,hp,qe⟩:=hfin;have hr:=Ae hT hs hv;have zc:∃v' Δ',Ending.returned v=.returned v'∧post v' Δ'∧Below w.heap.size w w'∧aD Δ' (fun b=>b<w.heap.size→I b) w':=
   ⟨v,Δ,rfl,hp,hs.below.below,(qe _ _ hs.dataOK hs.facts).up (fun b _ hI hl=>(hI.1 hl).elim id (fun h=>h.elim)) (fun _ _ _=>rfl) (aj _)⟩
  exact⟨⟨hs.defers,v,hr,zc⟩,⟨hs.defers,v,hr,zc⟩⟩) (fun ch _ _ h _ _=>(hnp ch h).elim) rfl
 rw[dB rfl]at this;exact this _ w _ hs0
def YN(T:Tb)(fn:Func)(post:Value→List (Nat×List Value)→List aC→Prop)(s:VS)(Γ:List aC):Prop:=
 ∃v Δ,ou T s fn.results.toList=some v∧post v s.own Δ∧∀I w,bj T I w→aD Γ I w→aD Δ I w
theorem ko.of_W{f:FuncId}{fn:Func}{c:Code}{args:List Value}{Γ:List aC}{post:Value→List (Nat×List Value)→List aC→Prop}(hT:T.Ok P)(hf:P.funcs[f]? =some fn)(hb:fn.body=some c)
  (h:W T P (YN T fn post) (fg fn c args) Γ)(hnp:∀ch,¬T.pan ch:=by intro _ h;exact h)(hn:(fn.name== "runtime.NumGoroutine")=false:=by kernel_rfl):ko T P f args Γ post:=by
 refine⟨⟨fn,hf,hn,by rw[hb];rfl⟩,fun I w hd hh=>?_⟩;refine calls_of_wp hf hb ?_;have hs0:iq T w ⟨I,fun _=>False,[]⟩ Γ (fg fn c args).s {tmps:=args.toArray++Array.replicate (fn.ntmps-args.toArray.size) undef,defers:=[]} w (fun _=>0):=by
  have tM:∀(t:Nat) (cs:List Value),(fg fn c args).s.boxes[t]? =some (some cs)→False:=by
   intro t cs ht;simp only[fg,c_]at ht;split at ht<;>simp at ht
  refine⟨rfl,by simp[fg],fun i sv hi=>?_,ka.refl _ _,fun t cs ht=>(tM t cs ht).elim,fun t u cs cs' ht=>(tM t cs ht).elim,?_,hd,hh.up (fun b hb hI=>⟨fun _=>.inl hI,fun t cs ht=>(tM t cs ht).elim,fun cs hc=>by simp[fg]at hc,fun m hm=>by simp[fg]at hm⟩) (fun _ _ _=>rfl) (aj _),fun b cs hc=>by simp[fg]at hc,fun b cs hc=>by simp[fg]at hc,fun b cs hc=>by simp[fg]at hc,by simp[fg],fun b m hm=>by simp[fg]at hm,fun b m hm=>by simp[fg]at hm,by simp[fg]⟩
  ·simp only[fg,kt,bM]at hi;simp only[dG,Array.getElem?_append,qB];split at hi
   ·rename_i hlt;simp only[bL]at hi;rw[if_pos hlt];cases hx:args[i]? with
    |none=>rw[hx]at hi;simp at hi
    |some v=>
     rw[hx]at hi;simp only[di,aq]at hi;subst hi;simp[hx,rel]
   ·rename_i hlt;rw[if_neg hlt];simp only[c_]at hi;split at hi
    ·rename_i hl;injection hi with hi;subst hi;simp[hl,rel]
    ·simp at hi
  ·intro i t off hi
   exfalso
   simp only[fg,kt,bM]at hi;split at hi
   ·simp only[bL]at hi;cases hx:args[i]? with
    |none=>rw[hx]at hi;simp at hi
    |some v=>rw[hx]at hi;simp at hi
   ·simp only[c_]at hi;split at hi<;>simp at hi
 have:=h.sound (w0:=w) (I0:=⟨I,fun _=>False,[]⟩) (Q:=bodyPost P fn fun e w'=>∃v O Δ,e=.returned v∧post v O Δ∧Below w.heap.size w w'∧gB T O w'∧(∀b cs,(b,cs)∈O→w.heap.size≤b)∧(O.map (·.1)).Nodup∧aD Δ (fun b=>(b<w.heap.size→I b)∧∀cs,(b,cs)∉O) w') hT (fun l a w h=>h) (fun s Γ a w' ρ hfin hs=>by
  obtain⟨v,Δ,hv,hp,qe⟩:=hfin;have hr:=Ae hT hs hv;have zc:∃v' O' Δ',Ending.returned v=.returned v'∧post v' O' Δ'∧Below w.heap.size w w'∧gB T O' w'∧(∀b cs,(b,cs)∈O'→w.heap.size≤b)∧(O'.map (·.1)).Nodup∧aD Δ' (fun b=>(b<w.heap.size→I b)∧∀cs,(b,cs)∉O') w':=
   ⟨v,s.own,Δ,rfl,hp,hs.below.below,hs.own,fun b cs hb=>(hs.fresh b cs hb).elim id (fun h=>h.elim),hs.nod,(qe _ _ hs.dataOK hs.facts).up (fun b _ hI=>⟨fun hl=>(hI.1 hl).elim id (fun h=>h.elim),hI.2.2.1⟩) (fun _ _ _=>rfl) (aj _)⟩
  exact⟨⟨hs.defers,v,hr,zc⟩,⟨hs.defers,v,hr,zc⟩⟩) (fun ch _ _ h _ _=>(hnp ch h).elim) rfl
 rw[dB rfl]at this;exact this _ w _ hs0
def wB(fn:Func)(c:Code)(args:List Value)(Oin:List (Nat×List Value))(Min:List (Nat×List (Value×Value))):fF:=
 ⟨{tmps:=args.map .val++List.replicate (fn.ntmps-args.length) (.val undef),boxes:=List.replicate fn.ntmps none,own:=Oin,maps:=Min},[.code c]⟩
def Lq(T:Tb)(fn:Func)(post:Value→List (Nat×List Value)→List (Nat×List (Value×Value))→List aC→Prop)(s:VS)(Γ:List aC):Prop:=
 ∃v Δ,ou T s fn.results.toList=some v∧post v s.own s.maps Δ∧∀I w,bj T I w→aD Γ I w→aD Δ I w
theorem dD.of_W{f:FuncId}{fn:Func}{c:Code}{args:List Value}{Oin:List (Nat×List Value)}{Min:List (Nat×List (Value×Value))}{Γ:List aC}{post:Value→List (Nat×List Value)→List (Nat×List (Value×Value))→List aC→Prop}(hT:T.Ok P)(hf:P.funcs[f]? =some fn)(hb:fn.body=some c)
  (h:W T P (Lq T fn post) (wB fn c args Oin Min) Γ)(hn:(fn.name== "runtime.NumGoroutine")=false:=by kernel_rfl):dD T P f args Oin Min Γ post:=by
 refine⟨⟨fn,hf,hn,by rw[hb];rfl⟩,fun I w hd hh ho hon hm hmn hx=>?_⟩;refine calls_of_wp hf hb ?_;have hs0:iq T w ⟨I,gQ Oin Min,[]⟩ Γ (wB fn c args Oin Min).s {tmps:=args.toArray++Array.replicate (fn.ntmps-args.toArray.size) undef,defers:=[]} w (fun _=>0):=by
  have tM:∀(t:Nat) (cs:List Value),(wB fn c args Oin Min).s.boxes[t]? =some (some cs)→False:=by
   intro t cs ht;simp only[wB,c_]at ht;split at ht<;>simp at ht
  refine⟨rfl,by simp[wB],fun i sv hi=>?_,ka.refl _ _,fun t cs ht=>(tM t cs ht).elim,fun t u cs cs' ht=>(tM t cs ht).elim,?_,hd,hh.up (fun b hb hI=>⟨fun _=>.inl hI,fun t cs ht=>(tM t cs ht).elim,fun cs hc=>hx b (.inl ⟨cs,hc⟩) hI,fun m hm=>hx b (.inr ⟨m,hm⟩) hI⟩) (fun _ _ _=>rfl) (aj _),ho,fun b cs hb=>.inr (.inl ⟨cs,hb⟩),fun b cs hb t cs' ht=>(tM t cs' ht).elim,hon,hm,fun b m hb=>.inr (.inr ⟨m,hb⟩),hmn⟩
  ·simp only[wB,kt,bM]at hi;simp only[dG,Array.getElem?_append,qB];split at hi
   ·rename_i hlt;simp only[bL]at hi;rw[if_pos hlt];cases hx:args[i]? with
    |none=>rw[hx]at hi;simp at hi
    |some v=>
     rw[hx]at hi;simp only[di,aq]at hi;subst hi;simp[hx,rel]
   ·rename_i hlt;rw[if_neg hlt];simp only[c_]at hi;split at hi
    ·rename_i hl;injection hi with hi;subst hi;simp[hl,rel]
    ·simp at hi
  ·intro i t off hi
   exfalso
   simp only[wB,kt,bM]at hi;split at hi
   ·simp only[bL]at hi;cases hx:args[i]? with
    |none=>rw[hx]at hi;simp at hi
    |some v=>rw[hx]at hi;simp at hi
   ·simp only[c_]at hi;split at hi<;>simp at hi
 have:=h.sound (w0:=w) (I0:=⟨I,gQ Oin Min,[]⟩) (Q:=bodyPost P fn fun e w'=>(∃v O M Δ,e=.returned v∧post v O M Δ∧ka (gQ Oin Min) w w'∧gB T O w'∧(∀b cs,(b,cs)∈O→gQ Oin Min b∨w.heap.size≤b)∧(O.map (·.1)).Nodup∧vA M w'∧(∀b m,(b,m)∈M→gQ Oin Min b∨w.heap.size≤b)∧(M.map (·.1)).Nodup∧
   aD Δ (fun b=>(b<w.heap.size→I b∨gQ Oin Min b)∧(∀cs,(b,cs)∉O)∧∀m,(b,m)∉M) w')∨
  (∃ch,e=.panicked ch∧T.pan ch∧ka (gQ Oin Min) w w')) hT (fun l a w h=>h) (fun s Γ a w' ρ hfin hs=>by
  obtain⟨v,Δ,hv,hp,qe⟩:=hfin;have hr:=Ae hT hs hv;refine⟨⟨hs.defers,v,hr,.inl ?_⟩,⟨hs.defers,v,hr,.inl ?_⟩⟩<;>
   exact⟨v,s.own,s.maps,Δ,rfl,hp,hs.below,hs.own,fun b cs hb=>(hs.fresh b cs hb).symm,hs.nod,hs.mapAt,fun b m hb=>(hs.mfresh b m hb).symm,hs.mnod,(qe _ _ hs.dataOK hs.facts).up (fun b _ hI=>⟨hI.1,hI.2.2.1,hI.2.2.2⟩) (fun _ _ _=>rfl) (aj _)⟩) (fun ch a w' h1 h2 h3 _=>?_) rfl
 ·rw[dB rfl]at this;exact this _ w _ hs0
 ·exact⟨h2,.inr ⟨ch,rfl,h1,h3⟩⟩
theorem aw.weak{f:FuncId}{args:List Value}{Γ Γ':List aC}{post post':Value→List aC→Prop}(h:aw T P f args Γ post)(hs:∀I w,bj T I w→aD Γ' I w→aD Γ I w)(hp:∀v Δ,post v Δ→post' v Δ):aw T P f args Γ' post':=
 ⟨h.1,fun I w hd hh=>(h.2 I w hd (hs I w hd hh)).mono fun _ _ ⟨v,Δ,h1,h2,h3⟩=>⟨v,Δ,h1,hp v Δ h2,h3⟩⟩
def QZ(D:List Nat)(c:fF):Bool:=
 match c.k with
 | .code (.cond (.tmp t) _ _)::_=> !lI t D
 | .ops all (i::_)::_=>match all[i]? with
  |some o=>
   (match o.guard with
    |some (j,_)=>match(all[j]?).bind (·.dst)with
     |some t=>match c.s.tmps[t]? with
      |some (.val (.bool _))=> !lI t D
      |_=>false
     |none=>false
    |none=>false)||
   (match o.op with
    | .pick (.tmp t) _ _=> !lI t D
    |_=>false)
  |none=>false
 |_=>false
def aV(T:Tb)(D:List Nat):Nat→fF→fF
 |0,c=>c
 |n+1,c=>bif QZ D c then c else match aE T c with
  | .next c'=>aV T D n c'
  |_=>c
def fH(e:Ev)(v:Value):fF:=
 match e with
 | .call _ _ d c=>⟨c.s.put d (.val v),c.k⟩
 | .read o c=>⟨c.s.put o.dst (.val v),c.k⟩
 | .ask o c=>⟨c.s.put o.dst (.val v),c.k⟩
 |_=>⟨⟨[],[],[],[]⟩,[]⟩
def mX:Ev→Option (FuncId×List Value)
 | .call f args _ _=>some (f,args)
 |_=>none
def ady:Ev→Option (Oper×VS)
 | .read o c=>some (o,c.s)
 |_=>none
def jl:Ev→Option VS
 | .ret s=>some s
 |_=>none
def HO(t:Nat)(b:Bool)(c:fF):fF:=⟨{c.s with tmps:=c.s.tmps.set t (.val (.bool b))},c.k⟩
def Zj(c:fF)(t:Nat):Option SV:=c.s.tmps[t]?
variable{fin:VS→List aC→Prop}{c:fF}{Γ:List aC}
theorem ez(D:List Nat):∀(n:Nat) {c:fF},W T P fin (aV T D n c) Γ→W T P fin c Γ
 |0,_,h=>h
 |n+1,c,h=>by
  unfold aV at h;cases hb:QZ D c with
  |true=>simp only[hb,bZ]at h;exact h
  |false=>
   simp only[hb,cK]at h;split at h
   ·rename_i c' hc;exact W.next hc (ez D n h)
   ·exact h
theorem J0(D:List Nat)(n:Nat){f:FuncId}{args:List Value}{Γ0:List aC}{post:Value→List aC→Prop}(h:mX (aE T (aV T D n c))=some (f,args))(hp:aw T P f args Γ0 post)(hs:∀I w,bj T I w→aD Γ I w→aD Γ0 I w)
  (hk:∀v Δ,post v Δ→W T P fin (fH (aE T (aV T D n c)) v) (Δ++Γ)):W T P fin c Γ:=by
 refine ez D n ?_;generalize aV T D n c=c1 at*;cases he:aE T c1<;>rw[he]at h hk<;>simp[mX]at h;obtain⟨rfl,rfl⟩:=h;exact W.call post he (hp.weak hs (fun _ _ h=>h)) hk
def TD(e:Ev)(O:List (Nat×List Value))(v:Value):fF:=
 match e with
 | .call _ _ d c=>⟨({c.s with own:=O++c.s.own}:VS).put d (.val v),c.k⟩
 |_=>⟨⟨[],[],[],[]⟩,[]⟩
theorem Y_(D:List Nat){f:FuncId}{args:List Value}{post:Value→List (Nat×List Value)→List aC→Prop}(hp:ko T P f args Γ post)
  (hk:∀v O Δ,post v O Δ→W T P fin (TD (aE T (aV T D 999 c)) O v) (Δ++Γ))(h:mX (aE T (aV T D 999 c))=some (f,args):=by kernel_rfl):W T P fin c Γ:=by
 refine ez D 999 ?_;generalize aV T D 999 c=c1 at*;cases he:aE T c1<;>rw[he]at h hk<;>simp[mX]at h;obtain⟨rfl,rfl⟩:=h;exact W.callo post he hp hk
def Lf(e:Ev)(O:List (Nat×List Value))(M:List (Nat×List (Value×Value)))(v:Value):fF:=
 match e with
 | .call _ _ d c=>⟨({c.s with own:=O,maps:=M}:VS).put d (.val v),c.k⟩
 |_=>⟨⟨[],[],[],[]⟩,[]⟩
def Va:Ev→List (Nat×List Value)
 | .call _ _ _ c=>c.s.own
 |_=>[]
def Pk:Ev→List (Nat×List (Value×Value))
 | .call _ _ _ c=>c.s.maps
 |_=>[]
def Yb:Ev→List SV
 | .call _ _ _ c=>c.s.tmps
 |_=>[]
theorem No(D:List Nat){f:FuncId}{args:List Value}(O1 Oin O2:List (Nat×List Value))(M1 Min M2:List (Nat×List (Value×Value))){post:Value→List (Nat×List Value)→List (Nat×List (Value×Value))→List aC→Prop}(hT:T.hand=true∧T.calm f=false)(hH:Ko T (Yb (aE T (aV T D 999 c))) (O1++O2))(h:mX (aE T (aV T D 999 c))=some (f,args))
  (eo:Va (aE T (aV T D 999 c))=O1++(Oin++O2))(em:Pk (aE T (aV T D 999 c))=M1++(Min++M2))(hp:dD T P f args Oin Min Γ post)
  (hk:∀v O M Δ,post v O M Δ→W T P fin (Lf (aE T (aV T D 999 c)) (O1++(O++O2)) (M1++(M++M2)) v) (Δ++Γ)):W T P fin c Γ:=by
 refine ez D 999 ?_;generalize aV T D 999 c=c1 at*;cases he:aE T c1<;>rw[he]at h eo em hk hH<;>simp[mX]at h;obtain⟨rfl,rfl⟩:=h;exact W.callx post ⟨hT.1,hT.2,hH⟩ he eo em hp hk
theorem dp(D:List Nat){f:FuncId}{args:List Value}(O1 Oin O2:List (Nat×List Value))(M1 Min M2:List (Nat×List (Value×Value))){post:Value→List (Nat×List Value)→List (Nat×List (Value×Value))→List aC→Prop}(hT:T.hand=true∧T.calm f=false∧T.held [] (O1++O2))
   (hp:dD T P f args Oin Min Γ post)
  (hk:∀v O M Δ,post v O M Δ→W T P fin (Lf (aE T (aV T D 999 c)) (O1++(O++O2)) (M1++(M++M2)) v) (Δ++Γ))(h:mX (aE T (aV T D 999 c))=some (f,args):=by kernel_rfl)(eo:Va (aE T (aV T D 999 c))=O1++(Oin++O2):=by kernel_rfl)(em:Pk (aE T (aV T D 999 c))=M1++(Min++M2):=by kernel_rfl):W T P fin c Γ:=
 No D O1 Oin O2 M1 Min M2 ⟨hT.1,hT.2.1⟩ ⟨[],hT.2.2,fun x hx=>by simp at hx⟩ h eo em hp hk
def ZB(T:Tb):fF→Option (fF×fF)
 |⟨s,.code (.region _ ops true)::k⟩=>match aa1 T (s.forget (g8 ops ops.toList) []) ops (KK T ops)with
  |some (j,i,l1,l2)=>bif KG T (s.forget (g8 ops ops.toList) []) ops j i l1 l2 then some (⟨s.forget (g8 ops ops.toList) [],.ops ops l1::k⟩,⟨s.forget (g8 ops ops.toList) [],.ops ops l2::k⟩)else none
  |none=>none
 |_=>none
def ZC(T:Tb)(c:fF):fF:=((ZB T c).map (·.1)).getD c
def ZD(T:Tb)(c:fF):fF:=((ZB T c).map (·.2)).getD c
theorem x6(D:List Nat)(h1:W T P fin (ZC T (aV T D 999 c)) Γ)(h2:W T P fin (ZD T (aV T D 999 c)) Γ)(h:(ZB T (aV T D 999 c)).isSome=true:=by kernel_rfl):W T P fin c Γ:=by
 refine ez D 999 ?_;generalize aV T D 999 c=c1 at*;unfold ZC at h1;unfold ZD at h2;cases hf:ZB T c1 with
 |none=>rw[hf]at h;simp at h
 |some q=>
  rw[hf]at h1 h2;simp only[di,jM]at h1 h2;unfold ZB at hf;split at hf
  ·rename_i s id ops k;split at hf
   ·rename_i j i l1 l2 ht;rw[aN]at hf;split at hf
    ·rename_i hok;injection hf with hf;subst hf;exact .two hok h1 h2
    ·simp at hf
   ·simp at hf
  ·simp at hf
def Pm(T:Tb)(ls:List (List Nat)):fF→Bool
 |⟨s,.code (.region _ ops true)::_⟩=>EJ T (s.forget (g8 ops ops.toList) []) ops ls
 |_=>false
def mny(l:List Nat):fF→fF
 |⟨s,.code (.region _ ops true)::k⟩=>⟨s.forget (g8 ops ops.toList) [],.ops ops l::k⟩
 |c=>c
theorem R3(D:List Nat)(ls:List (List Nat))(h:Pm T ls (aV T D 999 c)=true)(hk:∀l∈ls,W T P fin (mny l (aV T D 999 c)) Γ):W T P fin c Γ:=by
 refine ez D 999 ?_;generalize aV T D 999 c=c1 at*;unfold Pm at h;split at h
 ·exact .many h hk
 ·simp at h
theorem abN{φ:List Nat→Prop}{a b c:List Nat}(h1:φ a)(h2:φ b)(h3:φ c):∀l∈[a,b,c],φ l:=fun l hl=>by
 simp only[aF,aJ,b_]at hl;rcases hl with rfl|rfl|rfl
 ·exact h1
 ·exact h2
 ·exact h3
theorem R4(D:List Nat)(l1 l2 l3:List Nat)(h:Pm T [l1,l2,l3] (aV T D 999 c)=true)(h1:W T P fin (mny l1 (aV T D 999 c)) Γ)(h2:W T P fin (mny l2 (aV T D 999 c)) Γ)(h3:W T P fin (mny l3 (aV T D 999 c)) Γ):W T P fin c Γ:=
 R3 D [l1,l2,l3] h (abN h1 h2 h3)
theorem ku(D:List Nat){fn:Func}{post:Value→List (Nat×List Value)→List (Nat×List (Value×Value))→List aC→Prop}(v:Value)(O:List (Nat×List Value))(M:List (Nat×List (Value×Value))){Δ:List aC}
   (hp:post v O M Δ)(hd:∀I w,bj T I w→aD Γ I w→aD Δ I w)(h:(jl (aE T (aV T D 999 c))).bind (fun s=>ou T s fn.results.toList)=some v:=by kernel_rfl)(ho:(jl (aE T (aV T D 999 c))).map (fun s=>(s.own,s.maps))=some (O,M):=by kernel_rfl):W T P (Lq T fn post) c Γ:=by
 refine ez D 999 ?_;generalize aV T D 999 c=c1 at*;cases he:aE T c1<;>rw[he]at h ho<;>simp[jl]at h ho;obtain⟨rfl,rfl⟩:=ho;exact W.ret he ⟨v,Δ,h,hp,hd⟩
theorem Ze(D:List Nat){fn:Func}{post:Value→List (Nat×List Value)→List aC→Prop}(v:Value)(O:List (Nat×List Value)){Δ:List aC}
   (hp:post v O Δ)(hs:∀I w,bj T I w→aD Γ I w→aD Δ I w)(h:(jl (aE T (aV T D 999 c))).bind (fun s=>ou T s fn.results.toList)=some v:=by kernel_rfl)(ho:(jl (aE T (aV T D 999 c))).map (·.own)=some O:=by kernel_rfl):W T P (YN T fn post) c Γ:=by
 refine ez D 999 ?_;generalize aV T D 999 c=c1 at*;cases he:aE T c1<;>rw[he]at h ho<;>simp[jl]at h ho;subst ho;exact W.ret he ⟨v,Δ,h,hp,hs⟩
theorem IB(D:List Nat)(n:Nat)(t:Nat)(b:Bool)(h:Zj (aV T D n c) t=some (.val (.bool b)))
  (ht:b=true→W T P fin (HO t true (aV T D n c)) Γ)(hf:b=false→W T P fin (HO t false (aV T D n c)) Γ):W T P fin c Γ:=by
 refine ez D n ?_;generalize aV T D n c=c1 at*;have UP:∀b',b=b'→HO t b' c1=c1:=by
  rintro _ rfl;obtain⟨⟨tm,bx,ow⟩,k⟩:=c1;simp only[Zj]at h;simp only[HO,fF.mk.injEq,VS.mk.injEq,and_true];apply List.ext_getElem?;intro i;rw[bC];split
  ·rename_i hti;subst hti;rw[if_pos (List.getElem?_eq_some_iff.1 h).1];exact h.symm
  ·rfl
 cases hb:b with
 |true=>have:=ht hb;rwa [UP true hb]at this
 |false=>have:=hf hb;rwa [UP false hb]at this
theorem VJ(D:List Nat)(n:Nat){fn:Func}{post:Value→List aC→Prop}(v:Value)(Δ:List aC)(h:(jl (aE T (aV T D n c))).bind (fun s=>ou T s fn.results.toList)=some v)(hp:post v Δ)
  (hd:∀I w,bj T I w→aD Γ I w→aD Δ I w):W T P (Fin T fn post) c Γ:=by
 refine ez D n ?_;generalize aV T D n c=c1 at*;cases he:aE T c1<;>rw[he]at h<;>simp[jl]at h;exact W.ret he ⟨v,Δ,h,hp,hd⟩
end
class aZ{α:Type}(k:α→aC)(a:outParam α)(Γ:List aC):Prop where
 mem:k a∈Γ
instance(priority:=2000) aZ.head{α:Type}{k:α→aC}{a:α}{Γ:List aC}:aZ k a (k a::Γ):=⟨by simp⟩
instance(priority:=100) aZ.tail{α:Type}{k:α→aC}{a:α}{F:aC}{Γ:List aC} [h:aZ k a Γ]:aZ k a (F::Γ):=⟨by simp[h.mem]⟩
instance(priority:=2000) aZ.ahead{α:Type}{k:α→aC}{a:α}{Δ Γ:List aC}:aZ k a ((k a::Δ)++Γ):=⟨by simp⟩
instance(priority:=100) aZ.atail{α:Type}{k:α→aC}{a:α}{F:aC}{Δ Γ:List aC} [h:aZ k a (Δ++Γ)]:aZ k a ((F::Δ)++Γ):=⟨by have:=h.mem;simp at this⊢;exact .inr this⟩
instance(priority:=100) aZ.anil{α:Type}{k:α→aC}{a:α}{Γ:List aC} [h:aZ k a Γ]:aZ k a (([]:List aC)++Γ):=⟨by simp[h.mem]⟩
theorem aZ.p{α:Type}{k:α→aC}{a:α}{Γ:List aC}(h:aZ k a Γ){I:gd}{w:World}(hh:aD Γ I w):(k a).p I w:=hh _ h.mem
def nL(e:Ev):Option (BinOp×Value×Value):=
 match e with
 | .read o c=>match o.op with
  | .binOp op _ x y _=>match c.s.ev x,c.s.ev y with
   | .val a,.val b=>some (op,a,b)
   |_,_=>none
  |_=>none
 |_=>none
def abv(T:Tb)(e:Ev):Option (Value×Value):=
 match e with
 | .read o c=>match o.op with
  | .index ty x y=>match T.get ty,c.s.ev x,c.s.ev y with
   |some t,.val a,.val b=>bif Nat.beq t.kind 2 then some (a,b)else none
   |_,_,_=>none
  |_=>none
 |_=>none
def Ry(s:VS):Option Operand→Option (Option Value)
 |none=>some none
 |some x=>match s.ev x with
  | .val v=>some (some v)
  |_=>none
def QD(T:Tb)(e:Ev):Option (Nat×Value×Value):=
 match e with
 | .read o c=>match o.op with
  | .indexAddr ty x y=>match T.get ty,c.s.ev x,c.s.ev y with
   |some t,.val a,.val b=>bif (Nat.beq t.kind 3&& !Nat.beq t.esize 0)then some (t.esize,a,b)else none
   |_,_,_=>none
  |_=>none
 |_=>none
def B6(T:Tb)(e:Ev):Option (Bool×Nat×Value):=
 match e with
 | .read o c=>match o.op with
  | .load ty x=>match T.get ty,c.s.ev x with
   |some t,.val a=>some (t.agg,t.size,a)
   |_,_=>none
  |_=>none
 |_=>none
section
variable{T:Tb}{P:Program}{fin:VS→List aC→Prop}{c:fF}{Γ:List aC}
theorem bI(D:List Nat)(n b off len cap:Nat)(k:IntKind)(i:Nat)(z:Int)(hz:z=i)(hT:T.Ok P)(hi:i<len)
  (hk:W T P fin (fH (aE T (aV T D 999 c)) (.pointer (some ⟨b,off+i*n,none⟩))) Γ)(h:QD T (aE T (aV T D 999 c))=some (n,.slice (some ⟨b,off,none⟩) len cap,.int k z):=by kernel_rfl):W T P fin c Γ:=by
 subst hz;refine ez D 999 ?_;generalize aV T D 999 c=c1 at*;unfold QD at h;split at h
 ·rename_i o c' he;rw[he]at hk;split at h
  ·rename_i ty u v hop;split at h
   ·rename_i t a b' ht ha hb;cases hkd:(Nat.beq t.kind 3&& !Nat.beq t.esize 0)with
    |false=>simp[hkd]at h
    |true=>
     simp only[hkd,bZ,aq,aG]at h;obtain⟨hn,rfl,rfl⟩:=h;simp only[aK]at hkd;refine W.read _ he (.any ?_) hk;intro w;obtain⟨e,hd,hsz⟩:=wj hT ht (aI hkd.1);have hie:∃ie,P.info? e=some ie∧ie.size=n:=by
      cases hie:P.info? e with
      |none=>
       simp[hie]at hsz;rw[←hsz]at hkd;simp at hkd
      |some ie=>exact⟨ie,rfl,by simp[hie]at hsz;omega⟩
     obtain⟨ie,hie,hin⟩:=hie;simp[execOp,hop,cE ha,cE hb,Instr.indexAt,asIntOf,cM hd,hi,iT hie,hin,gZ]
   ·simp at h
  ·simp at h
 ·simp at h
theorem cX(D:List Nat)(n b off:Nat)(v:Value)(hT:T.Ok P)
  (hv:∀I w,bj T I w→aD Γ I w→w.cell? ⟨b,off,none⟩=some v)
  (hk:W T P fin (fH (aE T (aV T D 999 c)) v) Γ)(h:B6 T (aE T (aV T D 999 c))=some (false,n,.pointer (some ⟨b,off,none⟩)):=by kernel_rfl):W T P fin c Γ:=by
 refine ez D 999 ?_;generalize aV T D 999 c=c1 at*;unfold B6 at h;split at h
 ·rename_i o c' he;rw[he]at hk;split at h
  ·rename_i ty u hop;split at h
   ·rename_i t a ht ha;simp only[aq,aG]at h;obtain⟨hag,hsz,rfl⟩:=h;refine W.read _ he (.look (by simp[ji,hop]) ?_) hk;intro I w hd hh _;obtain⟨i,d,hi,hdd,hz,hsz',hag',_⟩:=fk (hT.ty _ _ ht);have hc:=hv I w hd hh;simp[execOp,hop,Instr.loadAt,Instr.sureAddr,cE ha,loadVar,kR hdd,hag',hag,hc]
   ·simp at h
  ·simp at h
 ·simp at h
theorem cJ(D:List Nat)(b off:Nat)(cs:List Value)(hT:T.Ok P)
  (hv:∀I w,bj T I w→aD Γ I w→∀j v,cs[j]? =some v→w.cell? ⟨b,off+j,none⟩=some v)
  (hk:W T P fin (fH (aE T (aV T D 999 c)) (.agg cs.toArray)) Γ)(h:B6 T (aE T (aV T D 999 c))=some (true,cs.length,.pointer (some ⟨b,off,none⟩)):=by kernel_rfl):W T P fin c Γ:=by
 refine ez D 999 ?_;generalize aV T D 999 c=c1 at*;unfold B6 at h;split at h
 ·rename_i o c' he;rw[he]at hk;split at h
  ·rename_i ty u hop;split at h
   ·rename_i t a ht ha;simp only[aq,aG]at h;obtain⟨hag,hsz,rfl⟩:=h;refine W.read _ he (.look (by simp[ji,hop]) ?_) hk;intro I w hd hh _;obtain⟨i,d,hi,hdd,hz,hsz',hag',_⟩:=fk (hT.ty _ _ ht);have hl:=run_loadCells_list (P:=P) w ⟨b,off,none⟩ cs (fun j v hj=>by rw[gZ];exact hv I w hd hh j v hj);rw[←hsz,←hsz']at hl;simp only[execOp,hop,Instr.loadAt,Instr.sureAddr,cE ha,loadVar,cB,Sem.run_map,dT,Sem.run_ite,bu,kR hdd,hag',hag,fj,iT hi,hl]
   ·simp at h
  ·simp at h
 ·simp at h
theorem jD(D:List Nat){f:FuncId}{args:List Value}{post:Value→List aC→Prop}(hp:aw T P f args Γ post)
  (hk:∀v Δ,post v Δ→W T P fin (fH (aE T (aV T D 999 c)) v) (Δ++Γ))(h:mX (aE T (aV T D 999 c))=some (f,args):=by kernel_rfl):W T P fin c Γ:=
 J0 D 999 h hp (fun _ _ _ hh=>hh) hk
theorem W.c0(D:List Nat){f:FuncId}{args:List Value}{V:Value}{L:List aC}(hp:aw T P f args Γ (fun v Δ=>v=V∧Δ=L))(hk:W T P fin (fH (aE T (aV T D 999 c)) V) (L++Γ))(h:mX (aE T (aV T D 999 c))=some (f,args):=by kernel_rfl):W T P fin c Γ:=by
 refine jD D (h:=h) hp ?_;rintro _ _ ⟨rfl,rfl⟩;exact hk
theorem W.c1(D:List Nat){f:FuncId}{args:List Value}{α:Type}{V:α→Value}{L:α→List aC}(hp:aw T P f args Γ (fun v Δ=>∃a,v=(V a)∧Δ=(L a)))(hk:∀a,W T P fin (fH (aE T (aV T D 999 c)) (V a)) ((L a)++Γ))(h:mX (aE T (aV T D 999 c))=some (f,args):=by kernel_rfl):W T P fin c Γ:=by
 refine jD D (h:=h) hp ?_;rintro _ _ ⟨a',rfl,rfl⟩;exact hk a'
theorem bR(D:List Nat){f:FuncId}{args:List Value}{α β:Type}{V:α→β→Value}{L:α→β→List aC}(hp:aw T P f args Γ (fun v Δ=>∃a b,v=(V a b)∧Δ=(L a b)))(hk:∀a b,W T P fin (fH (aE T (aV T D 999 c)) (V a b)) ((L a b)++Γ))(h:mX (aE T (aV T D 999 c))=some (f,args):=by kernel_rfl):W T P fin c Γ:=by
 refine jD D (h:=h) hp ?_;rintro _ _ ⟨a',b',rfl,rfl⟩;exact hk a' b'
theorem bz(D:List Nat){f:FuncId}{args:List Value}{α β δ ε:Type}{V:α→β→δ→ε→Value}{L:α→β→δ→ε→List aC}(hp:aw T P f args Γ (fun v Δ=>∃a b d e,v=(V a b d e)∧Δ=(L a b d e)))(hk:∀a b d e,W T P fin (fH (aE T (aV T D 999 c)) (V a b d e)) ((L a b d e)++Γ))(h:mX (aE T (aV T D 999 c))=some (f,args):=by kernel_rfl):W T P fin c Γ:=by
 refine jD D (h:=h) hp ?_;rintro _ _ ⟨a',b',d',e',rfl,rfl⟩;exact hk a' b' d' e'
theorem W.d(D:List Nat)(t:Nat)(b:Bool)
  (ht:b=true→W T P fin (HO t true (aV T D 999 c)) Γ)(hf:b=false→W T P fin (HO t false (aV T D 999 c)) Γ)(h:Zj (aV T D 999 c) t=some (.val (.bool b)):=by kernel_rfl):W T P fin c Γ:=IB D 999 t b h ht hf
theorem bh(D:List Nat)(t:Nat)(b:Bool)(hb:b=true)(ht:W T P fin (HO t true (aV T D 999 c)) Γ)(h:Zj (aV T D 999 c) t=some (.val (.bool b)):=by kernel_rfl):W T P fin c Γ:=IB D 999 t b h (fun _=>ht) (fun e=>by rw[hb]at e;simp at e)
theorem aO(D:List Nat)(t:Nat)(b:Bool)(hb:b=false)(hf:W T P fin (HO t false (aV T D 999 c)) Γ)(h:Zj (aV T D 999 c) t=some (.val (.bool b)):=by kernel_rfl):W T P fin c Γ:=IB D 999 t b h (fun e=>by rw[hb]at e;simp at e) (fun _=>hf)
theorem W.r(D:List Nat){fn:Func}{post:Value→List aC→Prop}(v:Value){Δ:List aC}(hp:post v Δ)
  (hd:∀I w,bj T I w→aD Γ I w→aD Δ I w)(h:(jl (aE T (aV T D 999 c))).bind (fun s=>ou T s fn.results.toList)=some v:=by kernel_rfl):W T P (Fin T fn post) c Γ:=VJ D 999 v Δ h hp hd
def iD(N:List Nat):List Nat→List Nat
 | []=>[]
 |x::r=>bif lI x N then iD N r else x::iD N r
def tP:Ev→Code
 | .loop b _=>b
 |_=>.skip
def mN:Ev→VS
 | .loop _ c=>c.s
 |_=>⟨[],[],[],[]⟩
def Dl:Ev→List It
 | .loop _ c=>c.k
 |_=>[]
def oB:Ev→Bool
 | .loop _ _=>true
 |_=>false
def VS.puts(s:VS):List (Nat×Value)→VS
 | []=>s
 |(i,v)::r=>VS.puts {s with tmps:=s.tmps.set i (.val v)} r
def VS.boxs(s:VS):List (Nat×List Value)→VS
 | []=>s
 |(i,v)::r=>VS.boxs {s with boxes:=s.boxes.set i (some v)} r
def jG(e:Ev)(N:List Nat)(s:VS):VS:=s.forget (iD N (kq (tP e))) (jA (tP e))
def kD:Ev→Option (VS→List aC→Prop)
 | .again R _=>some R
 |_=>none
def kE:Ev→Option VS
 | .again _ s=>some s
 |_=>none
theorem x7(D:List Nat){α:Type}(N:List Nat)(V:α→List (Nat×Value))(X:α→List (Nat×List Value))(G:α→List aC)(inv:α→Prop)(μ:α→Nat)(a0:α)
  
  
  (i0:inv a0)(f0:∀I w,bj T I w→aD Γ I w→aD (G a0) I w)
  (hr:∀(a:α) (R:VS→List aC→Prop),inv a→
   (∀(D':List Nat) (c':fF) (Γ':List aC) (a':α),kD (aE T (aV T D' 999 c'))=some R→
    (kE (aE T (aV T D' 999 c'))).map (jG (aE T (aV T D 999 c)) N)=some (((jG (aE T (aV T D 999 c)) N (mN (aE T (aV T D 999 c)))).puts (V a')).boxs (X a'))→
    inv a'→μ a'<μ a→(∀I w,bj T I w→aD Γ' I w→aD (G a') I w)→W T P fin c' Γ')→
   W T P fin ⟨((jG (aE T (aV T D 999 c)) N (mN (aE T (aV T D 999 c)))).puts (V a)).boxs (X a),.code (tP (aE T (aV T D 999 c)))::.again R::Dl (aE T (aV T D 999 c))⟩ (G a))(h:oB (aE T (aV T D 999 c))=true:=by kernel_rfl)(h0:jG (aE T (aV T D 999 c)) N (mN (aE T (aV T D 999 c)))=((jG (aE T (aV T D 999 c)) N (mN (aE T (aV T D 999 c)))).puts (V a0)).boxs (X a0):=by kernel_rfl):W T P fin c Γ:=by
 refine ez D 999 ?_;generalize aV T D 999 c=c1 at*;generalize he:aE T c1=e at*;cases e with
 |loop b c'=>
  generalize hst:jG (Ev.loop b c') N (mN (Ev.loop b c'))=S at*;have key:∀(m:Nat) (s:VS) (Γ':List aC),(∃a,jG (Ev.loop b c') N s=(S.puts (V a)).boxs (X a)∧inv a∧μ a=m∧∀I w,bj T I w→aD Γ' I w→aD (G a) I w)→
    W T P fin ⟨s,.code b::.again (fun s' Γ'=>∃m',m'<m∧∃a,jG (Ev.loop b c') N s'=(S.puts (V a)).boxs (X a)∧inv a∧μ a=m'∧∀I w,bj T I w→aD Γ' I w→aD (G a) I w)::c'.k⟩ Γ':=by
   rintro m s Γ' ⟨a,hs,hi,rfl,hf⟩;refine W.forget (iD N (kq b)) (jA b) rfl ?_;rw[show s.forget (iD N (kq b)) (jA b)=(S.puts (V a)).boxs (X a)from hs];refine W.sub rfl hf (hr a _ hi (fun D' c' Γ' a' hR hS hi' hl' hf'=>ez D' 999 ?_));generalize aV T D' 999 c'=c2 at*;cases hv:aE T c2<;>rw[hv]at hR hS<;>simp[kD,kE]at hR hS;subst hR;exact W.again hv ⟨μ a',hl',a',hS,hi',rfl,hf'⟩
  refine W.loop (fun m s Γ'=>∃a,jG (Ev.loop b c') N s=(S.puts (V a)).boxs (X a)∧inv a∧μ a=m∧∀I w,bj T I w→aD Γ' I w→aD (G a) I w) (μ a0) he ⟨a0,?_,i0,rfl,f0⟩ key;rw[←h0];exact hst
 |_=>simp[oB]at h
def Vi(n size:Nat)(z:List Value)(vs:List (Nat×Value)):Option (List Value):=
 (Instr.fill (fun i=>some (i*size,size)) ((Array.range (n*size)).map (z.toArray[· % z.toArray.size]!)) vs).map (·.toList)
def Qz(T:Tb)(e:Ev):Option (Nat×List Value):=
 match e with
 | .ask o c=>match o.op with
  | .buildSlice ty n ps=>match T.get ty,c.s.parts ps.toList with
   |some t,some vs=>bif (Nat.beq t.kind 3&& !Nat.beq t.esize 0&& !Nat.beq n 0&&Nat.ble (n*t.esize) 16777216&& !Nat.beq t.ezero.length 0)then(Vi n t.esize t.ezero vs).map fun cs=>(n,cs)else none
   |_,_=>none
  |_=>none
 |_=>none
theorem cW(D:List Nat)(n:Nat)(cs:List Value)(hT:T.Ok P)
  (hk:∀b,W T P fin (fH (aE T (aV T D 999 c)) (.slice (some ⟨b,0,none⟩) n n)) (eT b cs::Γ))(h:Qz T (aE T (aV T D 999 c))=some (n,cs):=by kernel_rfl):W T P fin c Γ:=by
 refine ez D 999 ?_;generalize aV T D 999 c=c1 at*;unfold Qz at h;split at h
 ·rename_i o c' he;rw[he]at hk;split at h
  ·rename_i ty m ps hop;split at h
   ·rename_i t vs ht hvs;cases hc:(Nat.beq t.kind 3&& !Nat.beq t.esize 0&& !Nat.beq m 0&&Nat.ble (m*t.esize) 16777216&& !Nat.beq t.ezero.length 0)with
    |false=>simp[hc]at h
    |true=>
     simp only[hc,bZ]at h;simp only[aK,cF]at hc;obtain⟨⟨⟨⟨c1',c2⟩,c3⟩,c4⟩,c5⟩:=hc;obtain⟨e,hd,hsz,M0⟩:=zf hT ht (aI c1');unfold Vi at h;cases Oy:Instr.fill (fun i=>some (i*t.esize,t.esize)) ((Array.range (m*t.esize)).map (t.ezero.toArray[· % t.ezero.toArray.size]!)) vs with
     |none=>rw[Oy]at h;simp at h
     |some cells=>
      rw[Oy]at h;simp only[di,aq,aG]at h;obtain⟨rfl,rfl⟩:=h;have hne:t.esize≠0:=by
       intro e0;rw[e0]at c2;simp at c2
      have hn0:m≠0:=by
       intro e0;rw[e0]at c3;simp at c3
      cases hie:P.info? e with
      |none=>simp[hie]at hsz;exact absurd hsz.symm hne
      |some ie=>
       simp[hie]at hsz;cases hz:ie.zero with
       |none=>
        simp[hie,hz]at M0;rw[M0]at c5;simp at c5
       |some z=>
        simp[hie,hz]at M0;refine W.ask (fun v Δ=>∃b,v=.slice (some ⟨b,0,none⟩) m m∧Δ=[eT b cells.toList]) he (fun I w hdo hh=>?_) ?_
        ·have WE:(ps.map fun(i,x)=>(i,c'.s.rho x)).toList=vs:=by
          have:∀(l:List (Nat×Operand)) (us:List (Nat×Value)),c'.s.parts l=some us→l.map (fun e=>(e.1,c'.s.rho e.2))=us:=by
           intro l
           induction l with
           |nil=>intro us hu;simp[VS.parts]at hu;simp[hu]
           |cons x r ih=>
            intro us hu;obtain⟨i,x⟩:=x;unfold VS.parts at hu;split at hu
            ·rename_i v us' hv hu';injection hu with hu;subst hu;simp[cE hv,ih _ hu']
            ·simp at hu
          simpa using this _ _ hvs
         have hrun:=run_buildSlice (P:=P) w ty e m (ps.map fun(i,x)=>(i,c'.s.rho x)) cells ie z hd hie hz (by rw[hsz];have:=lZ c4;omega) (by rw[hsz];exact Nat.mul_ne_zero hn0 hne) (by
          rw[WE,hsz];have hzc:z.cells=t.ezero.toArray:=by rw[←M0]
          rw[hzc];exact Oy)
         refine⟨_,_,_,?_,⟨w.heap.size,rfl,rfl⟩,(bD _ _).alloc (aj _) (.cells cells e),?_⟩
         ·simp only[execOp,hop,cB];rw[hrun];rfl
         ·refine aD.cons ⟨fun hlt=>absurd hlt (by omega),e,?_⟩ (aD.nil _ _);show(w.heap.push _)[w.heap.size]? =_;simp
        ·rintro v Δ ⟨b,rfl,rfl⟩;exact hk b
   ·simp at h
  ·simp at h
 ·simp at h
def mA(e:Ev)(O:List (Nat×List Value))(v:Value):fF:=
 match e with
 | .own o c=>⟨({c.s with own:=O}:VS).put o.dst (.val v),c.k⟩
 |_=>⟨⟨[],[],[],[]⟩,[]⟩
def cH(z:Nat)(O:List (Nat×List Value))(v:Value)(n:Nat)(xs:List Value):Prop:=
 xs.length=n*z∧((v=.slice none 0 0∧n=0∧O=[])∨∃g cap cur,v=.slice (some ⟨g,0,none⟩) n cap∧O=[(g,cur)]∧n≤cap∧cap≤maxLen∧cur.length=cap*z∧cur.take (n*z)=xs)
theorem cH.nil(z:Nat):cH z [] (.slice none 0 0) 0 []:=⟨by simp,.inl ⟨rfl,rfl,rfl⟩⟩
def pY(T:Tb)(Γ:List aC)(own:List (Nat×List Value))(v:Value)(m z:Nat)(news:List Value):Prop:=
 ∃ao c,v=.slice ao m c∧news.length=m*z∧(0<m→∃a:Addr,ao=some a∧∀I w,bj T I w→aD Γ I w→gB T own w→∀j u,news[j]? =some u→w.cell? (a.add j)=some u)
theorem Mx{F1 F2 O O':List (Nat×List Value)}{w w':World}(ho:gB T (F1++O++F2) w)(hn:((F1++O++F2).map (·.1)).Nodup)(hb:∀k,k<w.heap.size→(∀cs,(k,cs)∉O)→w'.heap[k]? =w.heap[k]?)
  (sV:gB T O' w')(hg:∀b cs,(b,cs)∈O'→(∃uS,(b,uS)∈O)∨w.heap.size≤b)(OH:(O'.map (·.1)).Nodup):
  gB T (F1++O'++F2) w'∧((F1++O'++F2).map (·.1)).Nodup∧∀b cs,(b,cs)∈F1++O'++F2→(∃uS,(b,uS)∈F1++O++F2)∨w.heap.size≤b:=by
 have hlt:∀b cs,(b,cs)∈F1++O++F2→b<w.heap.size:=fun b cs h=>by
  obtain⟨_,_,hc⟩:=ho b cs h;exact cw hc
 simp only[aS,fJ]at hn⊢;obtain⟨⟨n1,nO,n1O⟩,n2,n12⟩:=hn;have m1:∀b cs,(b,cs)∈F1→b∈F1.map (·.1):=fun b cs h=>List.mem_map.2 ⟨(b,cs),h,rfl⟩;have m2:∀b cs,(b,cs)∈F2→b∈F2.map (·.1):=fun b cs h=>List.mem_map.2 ⟨(b,cs),h,rfl⟩;have mO:∀b cs,(b,cs)∈O→b∈O.map (·.1):=fun b cs h=>List.mem_map.2 ⟨(b,cs),h,rfl⟩;refine⟨fun b cs h=>?_,⟨⟨n1,OH,fun x hx y hy e=>?_⟩,n2,fun x hx y hy e=>?_⟩,fun b cs h=>?_⟩
 ·rcases List.mem_append.1 h with h|h
  ·rcases List.mem_append.1 h with h|h
   ·obtain⟨e,he,hc⟩:=ho b cs (by simp[h]);exact⟨e,he,by rw[hb b (cw hc) (fun c hc'=>n1O _ (m1 b cs h) _ (mO b c hc') rfl)];exact hc⟩
   ·exact sV b cs h
  ·obtain⟨e,he,hc⟩:=ho b cs (by simp[h]);exact⟨e,he,by rw[hb b (cw hc) (fun c hc'=>n12 _ (iH _ (mO b c hc')) _ (m2 b cs h) rfl)];exact hc⟩
 ·subst e;obtain⟨⟨b,cs⟩,h1,rfl⟩:=List.mem_map.1 hx;obtain⟨⟨b',cs'⟩,h2,h3⟩:=List.mem_map.1 hy;simp only at h3;subst h3;rcases hg b' cs' h2 with⟨uS,h0⟩|hge
  ·exact n1O _ (m1 b' cs h1) _ (mO b' uS h0) rfl
  ·have:=hlt b' cs (by simp[h1]);omega
 ·subst e;obtain⟨⟨b,cs⟩,h1,rfl⟩:=List.mem_map.1 hy;rcases List.mem_append.1 hx with hx|hx
  ·exact n12 _ (gU _ hx) _ (m2 b cs h1) rfl
  ·obtain⟨⟨b',cs'⟩,h2,h3⟩:=List.mem_map.1 hx;simp only at h3;subst h3;rcases hg b' cs' h2 with⟨uS,h0⟩|hge
   ·exact n12 _ (iH _ (mO b' uS h0)) _ (m2 b' cs h1) rfl
   ·have:=hlt b' cs (by simp[h1]);omega
 ·rcases List.mem_append.1 h with h|h
  ·rcases List.mem_append.1 h with h|h
   ·exact .inl ⟨cs,by simp[h]⟩
   ·rcases hg b cs h with⟨uS,h0⟩|hge
    ·exact .inl ⟨uS,by simp[h0]⟩
    ·exact .inr hge
  ·exact .inl ⟨cs,by simp[h]⟩
theorem FF(w:World)(t ty e e':TypeId)(i:TypeInfo)(ht:P.underlying t=some (.slice e))(hi:P.info? e=some i)
  (g JM XX:Nat)(cur:Array Value)(hg:w.heap[g]? =some (.cells cur e' (0,0)))
  (a:Addr)(m c:Nat)(news:List Value)(hl:news.length=m*i.size)(xa:∀j u,news[j]? =some u→w.cell? (a.add j)=some u)(h1:∀u∈news,u.oneCell'=true)
  (hroom:JM+m≤XX)(hfit:JM*i.size+news.length≤cur.size):
  (Builtin.append_ #[t,t] ty #[.slice (some ⟨g,0,none⟩) JM XX,.slice (some a) m c]).run P w=
   .ok (.slice (some ⟨g,0,none⟩) (JM+m) XX) (w.setRow g (cur.toList.take (JM*i.size)++news++cur.toList.drop (JM*i.size+news.length)).toArray):=by
 have hf:=run_firstCells_some (P:=P) w i.size m a m c news hl xa;have hst:=run_storeCells_at P g (JM*i.size) e' news 0 cur w hg (by simpa using hfit) h1;simp only[fK]at hst;simp[Builtin.append_,cM ht,sizeOf,typeInfo,hi,Builtin.lenOf,hroom,hf,Addr.add_lit,hst]
theorem tp(w:World)(t ty e:TypeId)(i:TypeInfo)(ht:P.underlying t=some (.slice e))(hi:P.info? e=some i)(base ao:Option Addr)(n cap c:Nat)(h:n≤cap):
  (Builtin.append_ #[t,t] ty #[.slice base n cap,.slice ao 0 c]).run P w=.ok (.slice base n cap) w:=by
 cases base<;>cases ao<;>simp[Builtin.append_,cM ht,sizeOf,typeInfo,hi,Builtin.lenOf,Builtin.firstCells,loadCells,loadCellsFrom,storeCells,h]
def oR(T:Tb)(e:Ev):Option (List (Nat×List Value)×Nat×Nat×Value×Value):=
 match e with
 | .own o c=>match o.op with
  | .call cl=>match cl.callee,cl.args.toList,cl.argTypes.toList with
   | .builtin .append,[sx,xx],[t1,t2]=>match c.s.ev sx,c.s.ev xx,T.get t1 with
    | .val a,.val b,some y1=>bif (Nat.beq t1 t2&&(Nat.beq y1.kind 3&&(!Nat.beq y1.esize 0&&(Nat.beq y1.ezero.length y1.esize&& !T.dat y1.elem))))then some (c.s.own,y1.esize,y1.ebytes,a,b)else none
    |_,_,_=>none
   |_,_,_=>none
  |_=>none
 |_=>none
theorem W.app(D:List Nat)(own F1 O F2:List (Nat×List Value))(z bytes n m:Nat)(v x:Value)(xs news:List Value)(hT:T.Ok P)
    (hg:cH z O v n xs)(hx:pY T Γ own x m z news)(h1:∀u∈news,u.oneCell'=true)
   
  (hk:∀v' O',cH z O' v' (n+m) (xs++news)→W T P fin (mA (aE T (aV T D 999 c)) (F1++O'++F2) v') Γ)(h:oR T (aE T (aV T D 999 c))=some (own,z,bytes,v,x):=by kernel_rfl)(hn:n+m≤1000000:=by omega)(hb:bytes≤100000000:=by decide)(ho:own=F1++O++F2:=by simp):W T P fin c Γ:=by
 refine ez D 999 ?_;generalize aV T D 999 c=c1 at*;unfold oR at h;split at h
 ·rename_i o c' he;rw[he]at hk;split at h
  ·rename_i cl hop;split at h
   ·rename_i sx xx t1 t2 hcal hargs htys;split at h
    ·rename_i a b y1 ha hbv hy;cases hc:(Nat.beq t1 t2&&(Nat.beq y1.kind 3&&(!Nat.beq y1.esize 0&&(Nat.beq y1.ezero.length y1.esize&& !T.dat y1.elem))))with
     |false=>simp[hc]at h
     |true=>
      simp only[hc,bZ,aq,aG]at h;obtain⟨hown,rfl,rfl,rfl,rfl⟩:=h;simp only[aK,cF]at hc;obtain⟨c1',c2,c3,c4,c5⟩:=hc;have OP:=aI c1';subst OP;have hne:y1.esize≠0:=by
       intro e0;rw[e0]at c3;simp at c3
      obtain⟨ie,zz,hd,hie,Fl,hsz,Gl,RG,hze⟩:=nf hT hy (aI c2) hne (aI c4);have hcargs:cl.args= #[sx,xx]:=by rw[←fB];exact hargs
      have hctys:cl.argTypes= #[t1,t1]:=by rw[←fB];exact htys
      obtain⟨ao,cc,rfl,hnl,hrd⟩:=hx;have hnb:(n+m)*y1.ebytes≤140737488355328:=by
       have:=aX hn hb;omega
      refine W.own (fun v' iX Δ=>∃O',cH y1.esize O' v' (n+m) (xs++news)∧iX=F1++O'++F2∧Δ=[]) he (fun I w hdo hh hoa hnod _=>?_) ?_
      ·rw[hown]at hoa hnod;have hexec:∀v' w',(Builtin.append_ #[t1,t1] o.type #[a,.slice ao m cc]).run P w=.ok v' w'→(execOp c'.s.rho o).run P w=.ok (.value v') w':=by
        intro v' w' hr;simp[execOp,hop,resolve,invoke,builtin,hcal,hcargs,hctys,cE ha,cE hbv,hr]
       have Sr:∀(v':Value) (w':World) (O':List (Nat×List Value)),(Builtin.append_ #[t1,t1] o.type #[a,.slice ao m cc]).run P w=.ok v' w'→cH y1.esize O' v' (n+m) (xs++news)→
         (∀q,(∀b cs,(b,cs)∈O→q≤b)→q≤w.heap.size→Below q w w')→w.heap.size≤w'.heap.size→(∀k,k<w.heap.size→(∀cs,(k,cs)∉O)→w'.heap[k]? =w.heap[k]?)→gB T O' w'→
         (∀b cs,(b,cs)∈O'→(∃uS,(b,uS)∈O)∨w.heap.size≤b)→(O'.map (·.1)).Nodup→∃v iX Δ w' r,(execOp c'.s.rho o).run P w=.ok r w'∧(r=.value v∨(r=.skip∧v=undef))∧(∃O',cH y1.esize O' v (n+m) (xs++news)∧iX=F1++O'++F2∧Δ=[])∧
         (∀n,(∀b cs,(b,cs)∈c'.s.own→n≤b)→n≤w.heap.size→Below n w w')∧w.heap.size≤w'.heap.size∧(∀b,b<w.heap.size→(∀cs,(b,cs)∉c'.s.own)→w'.heap[b]? =w.heap[b]?)∧gB T iX w'∧
         (∀b cs,(b,cs)∈iX→(∃uS,(b,uS)∈c'.s.own)∨w.heap.size≤b)∧(iX.map (·.1)).Nodup∧aD Δ (fun b=>(b<w.heap.size→I b∨∃cs,(b,cs)∈c'.s.own)∧∀cs,(b,cs)∉iX) w':=by
        intro v' w' O' hr hG hB hS hK hO hN hD;rw[ho]at hoa hnod;obtain⟨f1,f2,f3⟩:=Mx hoa hnod hK hO hN hD;rw[hown,ho];exact⟨v',_,[],w',_,hexec v' w' hr,.inl rfl,⟨O',hG,rfl,rfl⟩,fun q hq Ku=>hB q (fun b cs hb=>hq b cs (by simp[hb])) Ku,hS,fun k hk hk'=>hK k hk (fun cs hcs=>hk' cs (by simp[hcs])),f1,f3,f2,aD.nil _ _⟩
       obtain⟨OT,hgr⟩:=hg;have hGl:(xs++news).length=(n+m)*y1.esize:=by rw[aA,OT,hnl,eD]
       have zG:∀(v':Value) (w':World),(Builtin.append_ #[t1,t1] o.type #[a,.slice ao m cc]).run P w=.ok v' w'→w'.ownsRow w.heap.size y1.elem y1.esize v' (n+m) (xs++news)→0<n+m→w.grownBy w' none→∃v iX Δ w' r,(execOp c'.s.rho o).run P w=.ok r w'∧(r=.value v∨(r=.skip∧v=undef))∧(∃O',cH y1.esize O' v (n+m) (xs++news)∧iX=F1++O'++F2∧Δ=[])∧
         (∀n,(∀b cs,(b,cs)∈c'.s.own→n≤b)→n≤w.heap.size→Below n w w')∧w.heap.size≤w'.heap.size∧(∀b,b<w.heap.size→(∀cs,(b,cs)∉c'.s.own)→w'.heap[b]? =w.heap[b]?)∧gB T iX w'∧
         (∀b cs,(b,cs)∈iX→(∃uS,(b,uS)∈c'.s.own)∨w.heap.size≤b)∧(iX.map (·.1)).Nodup∧aD Δ (fun b=>(b<w.heap.size→I b∨∃cs,(b,cs)∈c'.s.own)∧∀cs,(b,cs)∉iX) w':=fun v' w' hr hw hpos w_=>by
        obtain⟨_,hw⟩:=hw;rcases hw with⟨_,h0⟩|⟨g,cap,cur,rfl,hge,ZZ,hnc,hcm,hcs,htk⟩
        ·omega
        ·exact Sr _ w' [(g,cur.toList)] hr ⟨hGl,.inr ⟨g,cap,cur.toList,rfl,rfl,hnc,hcm,by simpa using hcs,htk⟩⟩ (fun q _ Ku=>⟨w_.os,w_.tape,w_.output,w_.size,fun k hk=>w_.block k (by omega) (by simp)⟩) w_.size (fun k hk _=>w_.block k hk (by simp))
          (fun b cs hb=>by
           simp only[vR,aG]at hb;obtain⟨rfl,rfl⟩:=hb;exact⟨y1.elem,by simpa using c5,by simpa using ZZ⟩)
          (fun b cs hb=>by
           simp only[vR,aG]at hb;obtain⟨rfl,rfl⟩:=hb;exact .inr hge) (by simp)
       by_cases hm:m=0
       ·subst hm;obtain rfl:news=[]:=aL (by simpa using hnl);have hG:cH y1.esize O a (n+0) (xs++[]):=by rw[ai];exact⟨OT,hgr⟩
        have hOO:gB T O w:=fun b cs hb=>hoa b cs (by rw[ho];simp[hb]);have hnO:(O.map (·.1)).Nodup:=by
         rw[ho]at hnod;simp only[aS,fJ]at hnod;exact hnod.1.2.1
        rcases hgr with⟨rfl,rfl,rfl⟩|⟨g,cap,cur,rfl,rfl,hnc,hcm,hcs,htk⟩
        ·exact Sr _ w [] (tp w t1 o.type y1.elem ie hd hie none ao 0 0 cc (aj _)) hG (fun q _ _=>bD _ _) (aj _) (fun _ _ _=>rfl) hOO (fun b cs hb=>.inl ⟨cs,hb⟩) hnO
        ·exact Sr _ w [(g,cur)] (tp w t1 o.type y1.elem ie hd hie (some ⟨g,0,none⟩) ao n cap cc hnc) hG (fun q _ _=>bD _ _) (aj _) (fun _ _ _=>rfl) hOO (fun b cs hb=>.inl ⟨cs,hb⟩) hnO
       ·obtain⟨ad,rfl,hrd2⟩:=hrd (by omega);have xa:=hrd2 I w hdo hh hoa;rcases hgr with⟨rfl,rfl,rfl⟩|⟨g,cap,cur,rfl,rfl,hnc,hcm,hcs,htk⟩
        ·obtain rfl:xs=[]:=aL (by simpa using OT);obtain⟨v',w',hr,hw,w_,_⟩:=run_append_own (P:=P) w w.heap.size t1 o.type y1.elem ie zz y1.esize y1.ebytes hd hie Fl hsz Gl RG (by omega) (.slice none 0 0) 0 [] (World.ownsRow_nil w _ y1.elem y1.esize) ad m cc news hnl xa h1 (by unfold maxLen;omega) hnb (aj _);exact zG v' w' hr hw (by omega) w_
        ·have hoc:(g,cur)∈F1++[(g,cur)]++F2:=by simp
         obtain⟨e',he',hcell⟩:=hoa g cur (by rw[ho];exact hoc);by_cases hr:n+m≤cap
         ·have hfit:n*y1.esize+news.length≤cur.length:=by rw[hnl,hcs,←eD];exact cj _ hr
          have hrun:=FF (P:=P) w t1 o.type y1.elem e' ie hd hie g n cap cur.toArray hcell ad m cc news (by rw[hsz];exact hnl) xa h1 hr (by rw[hsz];simpa using hfit);rw[hsz]at hrun;refine Sr _ _ [(g,cur.take (n*y1.esize)++news++cur.drop (n*y1.esize+news.length))] hrun ⟨hGl,.inr ⟨g,cap,_,rfl,rfl,hr,hcm,?_,?_⟩⟩ (fun q hq _=>⟨rfl,rfl,rfl,by simp,fun k hk=>oK w g k _ (by have:=hq g cur (by simp);omega)⟩) (by simp)
           (fun k hk hk'=>oK w g k _ (by rintro rfl;exact hk' cur (by simp))) (fun b cs hb=>?_) (fun b cs hb=>?_) (by simp)
          ·simp only[aA,dP,jK];omega
          ·rw[htk,←hGl];exact List.take_left
          ·simp only[vR,aG]at hb;obtain⟨rfl,rfl⟩:=hb;exact⟨e',he',by simpa using setRow_heap w b _ _ e' _ hcell⟩
          ·simp only[vR,aG]at hb;obtain⟨rfl,rfl⟩:=hb;exact .inl ⟨cur,by simp⟩
         ·obtain⟨v',w',hrun,hw,w_⟩:=run_append_arg_grows (P:=P) w t1 o.type y1.elem ie zz y1.esize y1.ebytes hd hie Fl hsz Gl RG (by omega) ⟨g,0,none⟩ n cap xs OT (fun j u hj=>by
           rw[gZ,nV hcell,bU];rw[←htk,dz]at hj;split at hj
           ·exact hj
           ·simp at hj) ad m cc news hnl xa (by omega) (by unfold maxLen;omega) hnb
          exact zG v' w' hrun hw (by omega) w_
      ·rintro v' iX Δ ⟨O',hG,rfl,rfl⟩;exact hk v' O' hG
    ·simp at h
   ·simp at h
  ·simp at h
 ·simp at h
theorem bX:∀(I:gd) (w:World),bj T I w→aD Γ I w→aD [] I w:=fun I w _ _=>aD.nil I w
end
end Go.Proofs.YtgaaopjagcaojaaGreat
