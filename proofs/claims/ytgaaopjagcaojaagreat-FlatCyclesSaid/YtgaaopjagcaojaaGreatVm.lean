import Derived.Test.YtgaaopjagcaojaaGreatAa
import Derived.Orders
import Derived.Below
import Derived.Laws.CopyRow
import Derived.Laws.Tables
import Derived.Laws.Cells
import Derived.Great.BuildSlice
import Derived.LoopN
import Derived.Laws.AppendOwn
import Derived.ArgAppend
import Derived.Scope
set_option linter.unusedSimpArgs false
set_option linter.unusedVariables false
namespace Go.Proofs.YtgaaopjagcaojaaGreat
open Go.RowKit
abbrev bB:=@Go.Result.andThen_ok
abbrev bD:=@Go.RowKit.Below.refl
abbrev cz:=@Go.Sem.run_bind
abbrev cL:=@Go.run_underlying
abbrev dS:=@Go.Sem.run_pure
abbrev iU:=@Go.execOp_congr
abbrev kF:=@Go.RowKit.Below.heap_alloc
abbrev oE:=@Go.setRow_other
abbrev fQ:=Nat→Prop
structure aD where
 p:fQ→World→Prop
 up:∀{I I':fQ} {w w':World},p I w→(∀b,b<w.heap.size→I b→I' b)→(∀b,b<w.heap.size→I b→w'.heap[b]? =w.heap[b]?)→w.heap.size≤w'.heap.size→p I' w'
def aG(Γ:List aD)(I:fQ)(w:World):Prop:=∀F∈Γ,F.p I w
theorem aG.nil(I:fQ)(w:World):aG [] I w:=fun _ h=>absurd h (by simp)
theorem aG.cons{F:aD}{Γ:List aD}{I:fQ}{w:World}(h:F.p I w)(h':aG Γ I w):aG (F::Γ) I w:=fun G hG=>by
 rcases List.mem_cons.1 hG with rfl|hG
 ·exact h
 ·exact h' _ hG
theorem aG.append{Γ Δ:List aD}{I:fQ}{w:World}(h:aG Γ I w)(h':aG Δ I w):aG (Γ++Δ) I w:=fun F hF=>(List.mem_append.1 hF).elim (h F) (h' F)
theorem aG.sub{Γ Δ:List aD}{I:fQ}{w:World}(h:aG Γ I w)(hs:∀F∈Δ,F∈Γ):aG Δ I w:=fun F hF=>h F (hs F hF)
theorem aG.up{Γ:List aD}{I I':fQ}{w w':World}(h:aG Γ I w)(h1:∀b,b<w.heap.size→I b→I' b)(h2:∀b,b<w.heap.size→I b→w'.heap[b]? =w.heap[b]?)(h3:w.heap.size≤w'.heap.size):aG Γ I' w':=
 fun F hF=>F.up (h F hF) h1 h2 h3
structure Ty where
 size:Nat
 agg:Bool
 zero:Value
 fields:List (Nat×Nat×Bool)
 isStruct:Bool
 isBool:Bool
 ikind:Option IntKind
 kind:Nat
 esize:Nat
 ezero:List Value
 elem:Nat
 ebytes:Nat
 alen:Nat
def CN:TypeDesc→Nat
 | .string=>2
 | .slice _=>3
 | .array _ _=>4
 |_=>0
def E5:TypeDesc→Bool
 | .struct _=>true
 | .array _ _=>true
 |_=>false
def SP(P:Program)(t:TypeId):Option Ty:=
 match P.info? t,P.underlying t with
 |some i,some d=>
  match i.zero with
  |some z=>some ⟨i.size,E5 d,z,
    (match d with
     | .struct fs=>fs.toList.map fun f=>(f.offset,(((P.info? f.type).map (·.size)).getD 0,((P.underlying f.type).map E5).getD false))
     |_=>[]),
    (match d with| .struct _=>true|_=>false),(match d with| .bool=>true|_=>false),(match d with| .int k=>some k|_=>none),CN d,(match d with| .slice e=>((P.info? e).map (·.size)).getD 0| .array _ e=>((P.info? e).map (·.size)).getD 0|_=>0),(match d with| .slice e=>(((P.info? e).bind (·.zero)).map (·.cells.toList)).getD []|_=>[]),
    (match d with| .slice e=>e| .array _ e=>e|_=>0),(match d with| .slice e=>((P.info? e).map (·.bytes)).getD 0|_=>0),(match d with| .array n _=>n|_=>0)⟩
  |none=>none
 |_,_=>none
structure Tb where
 ty:List (Nat×Ty)
 data:List Nat
 hand:Bool:=false
 calm:Nat→Bool:=fun _=>false
 cloc:Bool:=false
 pins:List Nat:=[]
 held:List (Nat×Value)→List (Nat×List Value)→Prop:=fun _ _=>True
 pan:List PanicEntry→Prop:=fun _=>False
def look{α:Type}(t:Nat):List (Nat×α)→Option α
 | []=>none
 |(u,y)::r=>bif Nat.beq u t then some y else look t r
def lK(t:Nat):List Nat→Bool
 | []=>false
 |u::r=>bif Nat.beq u t then true else lK t r
def Tb.cloq(T:Tb)(f:Nat)(o:Option (List Value)):Option (List Value):=bif T.cloc&& !T.calm f then none else o
theorem wk{T:Tb}{f:Nat}{o:Option (List Value)}{v:List Value}(h:T.cloq f o=some v):o=some v∧(T.cloc=true→T.calm f=true):=by
 unfold Tb.cloq at h;cases hc:T.cloc<;>cases hd:T.calm f<;>simp[hc,hd]at h⊢ <;>exact h
def Tb.get(T:Tb)(t:Nat):Option Ty:=look t T.ty
def Tb.dat(T:Tb)(t:Nat):Bool:=lK t T.data
structure Tb.Ok(T:Tb)(P:Program):Prop where
 mixed:P.follows .mixedOrders=true
 ty:∀t y,T.get t=some y→SP P t=some y
theorem Gh{α:Type}{t:Nat}{y:α}:∀{l:List (Nat×α)},look t l=some y→(t,y)∈l
 | [],h=>by simp[look]at h
 |(u,z)::r,h=>by
  unfold look at h;cases hb:Nat.beq u t with
  |true=>
   have:=aI hb;subst this;simp[hb]at h;simp[h]
  |false=>
   simp only[hb,cI]at h;exact cN _ (Gh h)
theorem MI{T:Tb}{P:Program}(hm:P.follows .mixedOrders=true:=by kernel_rfl)(h:T.ty.map (fun e=>SP P e.1)=T.ty.map (fun e=>some e.2):=by kernel_rfl):T.Ok P:=by
 refine⟨hm,fun t y ht=>?_⟩;have lU:=Gh ht;have:=List.map_inj_left.1 h (t,y) lU;exact this
def br(T:Tb)(I:fQ)(w:World):Prop:=∀b cs e f,w.heap[b]? =some (Obj.cells cs e f)→T.dat e=true→I b
inductive SV where
 |val (v:Value)
 |ptr (t off:Nat)
 |junk
structure VS where
 tmps:List SV
 boxes:List (Option (List Value))
 own:List (Nat×List Value)
 maps:List (Nat×List (Value×Value))
def VS.ev(s:VS):Operand→SV
 | .tmp t=>s.tmps.getD t .junk
 | .const v=>.val v
 | .global g=>.val (.pointer (some ⟨g,0,none⟩))
 | .func f=>.val (.func (.func f) #[] #[])
def SV.val?:SV→Option Value
 | .val v=>some v
 |_=>none
def VS.rho(s:VS)(x:Operand):Value:=((s.ev x).val?).getD undef
def VS.known(s:VS):List Operand→Bool
 | []=>true
 |x::r=>match s.ev x with
  | .val _=>s.known r
  |_=>false
def VS.vals(s:VS):List Operand→Option (List Value)
 | []=>some []
 |x::r=>match s.ev x,s.vals r with
  | .val v,some vs=>some (v::vs)
  |_,_=>none
def VS.parts(s:VS):List (Nat×Operand)→Option (List (Nat×Value))
 | []=>some []
 |(i,x)::r=>match s.ev x,s.parts r with
  | .val v,some vs=>some ((i,v)::vs)
  |_,_=>none
def VS.put(s:VS)(d:Option Tmp)(v:SV):VS:=
 match d with
 |some t=>{s with tmps:=s.tmps.set t v}
 |none=>s
inductive VR where
 |val (v:SV)
 |new (cs:List Value)
 |upd (t:Nat) (cs:List Value)
 |read
 |ask
 |own
 |call (f:FuncId) (args:List Value)
 |stuck
def Xl(T:Tb)(op:BinOp)(ty:TypeId)(x y:Value):Option Value:=
 match x,y with
 | .int k a,.int k' b=>
  if k=k' then
   match op with
   | .add=>some (.int k (k.wrap (a+b)))
   | .sub=>some (.int k (k.wrap (a-b)))
   | .mul=>some (.int k (k.wrap (a*b)))
   | .and=>some (.int k (Go.bits .and k a b))
   | .or=>some (.int k (Go.bits .or k a b))
   | .xor=>some (.int k (Go.bits .xor k a b))
   | .eql=>some (.bool (a==b))
   | .neq=>some (.bool (a != b))
   | .lss=>some (.bool (decide (a<b)))
   | .leq=>some (.bool (decide (a≤b)))
   | .gtr=>some (.bool (decide (a>b)))
   | .geq=>some (.bool (decide (a≥b)))
   |_=>none
  else none
 | .string a,.string b=>
  match op with
  | .eql=>some (.bool (a.toList==b.toList))
  | .neq=>some (.bool (!(a.toList==b.toList)))
  |_=>none
 | .bool a,.bool b=>
  match op,T.get ty with
  | .eql,some t=>bif t.isBool then some (.bool (a==b))else none
  | .neq,some t=>bif t.isBool then some (.bool (!(a==b)))else none
  |_,_=>none
 |_,_=>none
def vun(op:UnOp)(x:Value):Option Value:=
 match op,x with
 | .neg,.int k n=>some (.int k (k.wrap (0-n)))
 | .not,.bool b=>some (.bool !b)
 |_,_=>none
def QD(T:Tb)(dst:TypeId)(x:Value):Option Value:=
 match T.get dst,x with
 |some y,.int _ n=>match y.ikind with
  |some k=>some (.int k (k.wrap n))
  |none=>none
 |_,_=>none
def Ag:List Value→Bool
 | []=>true
 |v::r=>v.oneCell'&&Ag r
def QJ(T:Tb)(t:TypeId)(cs:List Value)(off:Nat):Option Value:=
 match T.get t with
 |some y=>bif y.agg then some (.agg ((cs.drop off).take y.size).toArray)else cs[off]?
 |none=>none
def Ut(n:Int)(m:Nat):Bool:=match n with
 | .ofNat k=>Nat.blt k m
 | .negSucc _=>false
def yw(T:Tb)(s:VS)(ty:TypeId)(x i:Operand):Option Value:=
 match s.ev x,s.ev i,T.get ty with
 | .val (.agg cs),.val (.int _ n),some y=>bif (Nat.beq y.kind 4&&Ut n y.alen)then QJ T y.elem cs.toList (n.toNat*y.esize)else none
 |_,_,_=>none
def xC(T:Tb)(s:VS)(ty:TypeId)(i:Operand)(b off:Nat):Option SV:=
 match s.ev i,T.get ty with
 | .val (.int _ n),some y=>bif (Nat.beq y.kind 4&&(Ut n y.alen&& !Nat.beq y.esize 0))then some (.ptr b (off+n.toNat*y.esize))else none
 |_,_=>none
def EN(y:Ty)(i:Nat):Option (Nat×Nat):=bif y.isStruct then(y.fields[i]?).map fun f=>(f.1,f.2.1)else some (i*y.esize,y.esize)
def xA(y:Ty):Bool:=bif y.isStruct then y.fields.all fun f=> !Nat.beq f.2.1 0 else(Nat.beq y.kind 4&& !Nat.beq y.esize 0)
def Ju(T:Tb)(src dst:TypeId):Bool:=match T.get src,T.get dst with
 |some a,some b=>Nat.beq a.kind 2&&Nat.beq b.kind 3
 |_,_=>false
def gh(T:Tb)(o:Oper)(s:VS):VR:=
 match o.op with
 | .move x=>.val (s.ev x)
 | .assign x=>.val (s.ev x)
 | .pick c x y=>match s.ev c with
  | .val (.bool b)=>.val (bif b then s.ev x else s.ev y)
  |_=>.stuck
 | .alloc e=>match T.get e with
  |some y=>bif T.dat e then .stuck else .new y.zero.cells.toList
  |none=>.stuck
 | .box e x=>match s.ev x with
  | .val v=>bif T.dat e then .stuck else .new v.cells.toList
  |_=>.stuck
 | .load t x=>match s.ev x with
  | .ptr b off=>match T.get t,s.boxes.getD b none with
   |some y,some cs=>
    bif y.agg then(bif Nat.ble (off+y.size) cs.length then .val (.val (.agg ((cs.drop off).take y.size).toArray))else .stuck)
    else match cs[off]? with
     |some v=>.val (.val v)
     |none=>.stuck
   |_,_=>.stuck
  | .val _=>.read
  | .junk=>.stuck
 | .store t x v=>match s.ev x,s.ev v with
  | .ptr b off,.val u=>match T.get t,s.boxes.getD b none with
   |some y,some cs=>
    bif (Nat.beq u.cells.size y.size&&(Nat.ble (off+y.size) cs.length&&Ag u.cells.toList))then .upd b (cs.take off++u.cells.toList++cs.drop (off+y.size))else .stuck
   |_,_=>.stuck
  | .val _,.val _=>.own
  |_,_=>.stuck
 | .fieldAddr ty x f=>match s.ev x with
  | .ptr b off=>match T.get ty with
   |some y=>match y.fields[f]? with
    |some (o,sz,_)=>bif Nat.beq sz 0 then .stuck else .val (.ptr b (off+o))
    |none=>.stuck
   |none=>.stuck
  | .val _=>.read
  | .junk=>.stuck
 | .extract x i=>match s.ev x with
  | .val (.tuple vs)=>match vs[i]? with
   |some v=>.val (.val v)
   |none=>.stuck
  |_=>.stuck
 | .build ty ps=>match s.parts ps.toList,T.get ty with
  |some vs,some y=>bif xA y then(match Instr.fill (EN y) y.zero.cells vs with
   |some cs=>.val (.val (.agg cs))
   |none=>.stuck)else .stuck
  |_,_=>.stuck
 | .binOp op ty x y _=>match s.ev x,s.ev y with
  | .val a,.val b=>match Xl T op ty a b with
   |some v=>.val (.val v)
   |none=>.read
  |_,_=>.stuck
 | .unOp op _ x=>match s.ev x with
  | .val a=>match vun op a with
   |some v=>.val (.val v)
   |none=>.read
  |_=>.stuck
 | .convert src dst x=>match s.ev x with
  | .val a=>match QD T dst a,T.get src with
   |some v,some _=>.val (.val v)
   |none,some _=>bif Ju T src dst then .ask else .read
   |_,none=>.stuck
  |_=>.stuck
 | .field .. =>bif s.known o.op.operands.toList then .read else .stuck
 | .buildSlice _ _ _=>bif s.known o.op.operands.toList then .ask else .stuck
 | .index ty x i=>match yw T s ty x i with
  |some v=>.val (.val v)
  |none=>bif s.known o.op.operands.toList then .read else .stuck
 | .indexAddr ty x i=>match s.ev x with
  | .ptr b off=>match xC T s ty i b off with
   |some v=>.val v
   |none=>.stuck
  |_=>bif s.known o.op.operands.toList then .read else .stuck
 | .slice .. =>bif s.known o.op.operands.toList then .read else .stuck
 | .makeSlice _ _ _=>bif s.known o.op.operands.toList then .own else .stuck
 | .call c=>match c.callee with
  | .value (.func f)=>match s.vals c.args.toList with
   |some vs=>.call f vs
   |none=>.stuck
  | .value x=>match s.ev x with
   | .val (.func (.func f) a b)=>match T.cloq f (s.vals c.args.toList)with
    |some vs=>.call f (a.toList++vs++b.toList)
    |none=>.stuck
   |_=>.stuck
  | .builtin .append=>bif s.known o.op.operands.toList then .own else .stuck
  | .builtin .copy=>bif s.known o.op.operands.toList then .own else .stuck
  | .builtin .max=>bif s.known o.op.operands.toList then .read else .stuck
  | .builtin .min=>bif s.known o.op.operands.toList then .read else .stuck
  | .builtin .len=>match(c.argTypes[0]?).bind T.get,c.args[0]? with
   |some y,some x=>match s.ev x with
    | .val (.string b)=>bif Nat.beq y.kind 2 then .val (.val (.int .i64 (b.size:Nat)))else .stuck
    | .val (.slice _ n _)=>bif Nat.beq y.kind 3 then .val (.val (.int .i64 (n:Nat)))else .stuck
    |_=>.stuck
   |_,_=>.stuck
  |_=>.stuck
 | .makeFunc fn a b=>match fn,s.vals a.toList,s.vals b.toList with
  | .func f,some u,some v=>.val (.val (.func (.func f) u.toArray v.toArray))
  |_,_,_=>.stuck
 | .sliceToArrayPointer _ _=>bif s.known o.op.operands.toList then .read else .stuck
 | .makeMap _ _=>bif s.known o.op.operands.toList then .own else .stuck
 | .lookup _ _ _ _=>bif s.known o.op.operands.toList then .own else .stuck
 | .mapUpdate _ _ _ _=>bif s.known o.op.operands.toList then .own else .stuck
 | .makeInterface _ _=>bif s.known o.op.operands.toList then .read else .stuck
 | .nilCheck x=>match s.ev x with
  | .ptr b off=>.val (.ptr b off)
  | .val (.pointer (some a))=>.val (.val (.pointer (some a)))
  |_=>.stuck
 |_=>.stuck
def rel(ρ:Nat→Nat):SV→Value→Prop
 | .val v,x=>x=v
 | .ptr t off,x=>x=.pointer (some ⟨ρ t,off,none⟩)
 | .junk,_=>True
def VS.wf(s:VS):Prop:=∀(i t off:Nat),s.tmps[i]? =some (.ptr t off)→∃cs,s.boxes[t]? =some (some cs)
structure Mj where
 r:fQ
 x:fQ
 ds:List Deferred
structure j9(X:fQ)(w w':World):Prop where
 os:w'.os=w.os
 tape:w'.tape=w.tape
 output:w'.output=w.output
 size:w.heap.size≤w'.heap.size
 block:∀k,k<w.heap.size→¬X k→w'.heap[k]? =w.heap[k]?
theorem j9.refl(X:fQ)(w:World):j9 X w w:=⟨rfl,rfl,rfl,ak _,fun _ _ _=>rfl⟩
theorem j9.of{w w':World}(h:Below w.heap.size w w')(X:fQ):j9 X w w':=⟨h.os,h.tape,h.output,h.size,fun k hk _=>h.block k hk⟩
theorem j9.below{w w':World}(h:j9 (fun _=>False) w w'):Below w.heap.size w w':=⟨h.os,h.tape,h.output,h.size,fun k hk=>h.block k hk (fun h=>h)⟩
theorem j9.then{X:fQ}{a b c:World}(h:j9 X a b)(g:Below 0 b c)(hk:∀k,k<a.heap.size→¬X k→c.heap[k]? =b.heap[k]?):j9 X a c:=
 ⟨g.os.trans h.os,g.tape.trans h.tape,g.output.trans h.output,aP h.size g.size,fun k h1 h2=>(hk k h1 h2).trans (h.block k h1 h2)⟩
theorem j9.trans{X:fQ}{a b c:World}(h:j9 X a b)(g:Below b.heap.size b c):j9 X a c:=
 h.then (g.mono (aJ _)) (fun k h1 _=>g.block k (cM h1 h.size))
def vl(M:List (Nat×List (Value×Value)))(w:World):Prop:=∀b m,(b,m)∈M→∃H_ clock,w.heap[b]? =some (Obj.map H_ clock)∧H_.toList.map (fun e=>(e.key,e.val))=m
def UD(w0:World)(I0:Mj)(ρ:Nat→Nat)(s:VS):fQ:=fun b=>(b<w0.heap.size→I0.r b∨I0.x b)∧(∀t cs,s.boxes[t]? =some (some cs)→b≠ρ t)∧(∀cs,(b,cs)∉s.own)∧∀m,(b,m)∉s.maps
def gn(T:Tb)(O:List (Nat×List Value))(w:World):Prop:=∀b cs,(b,cs)∈O→∃e,T.dat e=false∧w.heap[b]? =some (Obj.cells cs.toArray e (0,0))
structure gZ(T:Tb)(w0:World)(I0:Mj)(Γ:List aD)(s:VS)(a:Act)(w:World)(ρ:Nat→Nat):Prop where
 defers:a.defers=I0.ds
 len:a.tmps.size=s.tmps.length
 tmps:∀i sv,s.tmps[i]? =some sv→rel ρ sv (a.tmps.getD i undef)
 below:j9 I0.x w0 w
 box:∀t cs,s.boxes[t]? =some (some cs)→w0.heap.size≤ρ t∧∃e,T.dat e=false∧w.heap[ρ t]? =some (.cells cs.toArray e (0,0))
 inj:∀t u cs cs',s.boxes[t]? =some (some cs)→s.boxes[u]? =some (some cs')→ρ t=ρ u→t=u
 wf:s.wf
 data:br T I0.r w0
 facts:aG Γ (UD w0 I0 ρ s) w
 own:gn T s.own w
 fresh:∀b cs,(b,cs)∈s.own→w0.heap.size≤b∨I0.x b
 sep:∀b cs,(b,cs)∈s.own→∀t cs',s.boxes[t]? =some (some cs')→b≠ρ t
 nod:(s.own.map (·.1)).Nodup
 mapAt:vl s.maps w
 mfresh:∀b m,(b,m)∈s.maps→w0.heap.size≤b∨I0.x b
 mnod:(s.maps.map (·.1)).Nodup
theorem cu{α:Type}{a:Array α}{i:Nat}{x:α}(h:a[i]? =some x):i<a.size:=(Array.getElem?_eq_some_iff.1 h).1
section
variable{T:Tb}{w0:World}{I0:Mj}{Γ:List aD}{s:VS}{a:Act}{w:World}{ρ:Nat→Nat}
theorem gZ.dataOK(h:gZ T w0 I0 Γ s a w ρ):br T (UD w0 I0 ρ s) w:=by
 intro b cs e f hb he;refine⟨fun hlt=>?_,fun t cs' ht hbt=>?_,fun cs' ho=>?_,fun m hm=>?_⟩
 ·by_cases hx:I0.x b
  ·exact .inr hx
  ·exact .inl (h.data b cs e f (by rw[←h.below.block b hlt hx];exact hb) he)
 ·obtain⟨_,e',he',hc⟩:=h.box t cs' ht;rw[←hbt,hb]at hc;injection hc with hc;injection hc with _ hc _;subst hc;rw[he]at he';exact absurd he' (by simp)
 ·obtain⟨e',he',hc⟩:=h.own b cs' ho;rw[hb]at hc;injection hc with hc;injection hc with _ hc _;subst hc;rw[he]at he';exact absurd he' (by simp)
 ·obtain⟨H_,clock,hc,_⟩:=h.mapAt b m hm;rw[hb]at hc;simp at hc
theorem gZ.nomap(h:gZ T w0 I0 Γ s a w ρ){b:Nat}{cs:Array Value}{e:TypeId}{f:Nat×Nat}(hb:w.heap[b]? =some (Obj.cells cs e f)):∀m,(b,m)∉s.maps:=fun m hm=>by
 obtain⟨H_,clock,hc,_⟩:=h.mapAt b m hm;rw[hb]at hc;simp at hc
theorem gZ.mlt(h:gZ T w0 I0 Γ s a w ρ){b:Nat}{m:List (Value×Value)}(hm:(b,m)∈s.maps):b<w.heap.size:=by
 obtain⟨H_,clock,hc,_⟩:=h.mapAt b m hm;exact cu hc
theorem vl.keep{M:List (Nat×List (Value×Value))}{w w':World}(h:vl M w)(hk:∀b m,(b,m)∈M→w'.heap[b]? =w.heap[b]?):vl M w':=fun b m hm=>by
 obtain⟨H_,clock,hc,he⟩:=h b m hm;exact⟨H_,clock,by rw[hk b m hm];exact hc,he⟩
theorem gZ.ev(h:gZ T w0 I0 Γ s a w ρ)(x:Operand):rel ρ (s.ev x) (a.eval x):=by
 cases x with
 |tmp t=>
  simp only[VS.ev,Act.eval];cases ht:s.tmps[t]? with
  |none=>simp[List.getD,ht,rel]
  |some sv=>simpa [List.getD,ht]using h.tmps t sv ht
 |const v=>rfl
 |global g=>rfl
 |func f=>rfl
theorem gZ.val(h:gZ T w0 I0 Γ s a w ρ){x:Operand}{v:Value}(hx:s.ev x=.val v):a.eval x=v:=by
 have:=h.ev x;rw[hx]at this;exact this
theorem gZ.evptr(h:gZ T w0 I0 Γ s a w ρ){x:Operand}{t off:Nat}(hx:s.ev x=.ptr t off):a.eval x=.pointer (some ⟨ρ t,off,none⟩):=by
 have:=h.ev x;rw[hx]at this;exact this
theorem gZ.vals(h:gZ T w0 I0 Γ s a w ρ):∀{xs:List Operand} {vs:List Value},s.vals xs=some vs→xs.map a.eval=vs
 | [],vs,hx=>by simp[VS.vals]at hx;simp[hx]
 |x::r,vs,hx=>by
  unfold VS.vals at hx;split at hx
  ·rename_i v us hv hu;injection hx with hx;subst hx;simp[h.val hv,gZ.vals h hu]
  ·simp at hx
theorem gZ.partsEq(h:gZ T w0 I0 Γ s a w ρ):∀{xs:List (Nat×Operand)} {vs:List (Nat×Value)},s.parts xs=some vs→xs.map (fun e=>(e.1,a.eval e.2))=vs
 | [],vs,hx=>by simp[VS.parts]at hx;simp[hx]
 |(i,x)::r,vs,hx=>by
  unfold VS.parts at hx;split at hx
  ·rename_i v us hv hu;injection hx with hx;subst hx;simp[h.val hv,gZ.partsEq h hu]
  ·simp at hx
theorem gZ.known(h:gZ T w0 I0 Γ s a w ρ):∀{xs:List Operand},s.known xs=true→∀x∈xs,a.eval x=s.rho x
 | [],_,x,hx=>by simp at hx
 |y::r,hk,x,hx=>by
  unfold VS.known at hk;split at hk
  ·rename_i v hv;rcases List.mem_cons.1 hx with rfl|hx
   ·rw[h.val hv];simp[VS.rho,hv,SV.val?]
   ·exact gZ.known h hk x hx
  ·simp at hk
theorem fN(hw:s.wf){x:Operand}{t off:Nat}(hx:s.ev x=.ptr t off):∃cs,s.boxes[t]? =some (some cs):=by
 cases x with
 |tmp i=>
  simp only[VS.ev,List.getD]at hx;cases hi:s.tmps[i]? with
  |none=>simp[hi]at hx
  |some sv=>simp[hi]at hx;subst hx;exact hw i t off hi
 |const v=>simp[VS.ev]at hx
 |global g=>simp[VS.ev]at hx
 |func f=>simp[VS.ev]at hx
theorem uu(hw:s.wf){d:Option Tmp}{v:SV}(hv:∀t off,v=.ptr t off→∃cs,s.boxes[t]? =some (some cs)):(s.put d v).wf:=by
 cases d with
 |none=>exact hw
 |some t=>
  intro i u off hi;simp only[VS.put,bA]at hi⊢;split at hi
  ·split at hi
   ·injection hi with hi;exact hv u off hi
   ·simp at hi
  ·exact hw i u off hi
theorem gZ.put(h:gZ T w0 I0 Γ s a w ρ){d:Option Tmp}{sv:SV}{v:Value}(hr:rel ρ sv v)(hv:∀t off,sv=.ptr t off→∃cs,s.boxes[t]? =some (some cs)):
  gZ T w0 I0 Γ (s.put d sv) (a.put d v) w ρ:=by
 have hw:=uu (d:=d) h.wf hv;cases d with
 |none=>exact h
 |some t=>
  refine⟨h.defers,by simp[Act.put,VS.put,h.len],fun i x hi=>?_,h.below,h.box,h.inj,hw,h.data,h.facts,h.own,h.fresh,h.sep,h.nod,h.mapAt,h.mfresh,h.mnod⟩;simp only[VS.put,Act.put,bA]at hi⊢;by_cases QQ:t=i
  ·subst QQ;simp only[e8]at hi;split at hi
   ·rename_i hlt;injection hi with hi;subst hi;have:t<a.tmps.size:=by rw[h.len];exact hlt
    simp[this,hr]
   ·simp at hi
  ·simp only[QQ,d_]at hi;have:=h.tmps i x hi;simpa [dE,Array.getElem?_setIfInBounds_ne QQ]using this
theorem gZ.new(h:gZ T w0 I0 Γ s a w ρ){d:Tmp}{cs:List Value}{e:TypeId}(he:T.dat e=false)(hd:s.boxes[d]? =some none):
  gZ T w0 I0 Γ {s with tmps:=s.tmps.set d (.ptr d 0),boxes:=s.boxes.set d (some cs)} (a.put (some d) (.pointer (some ⟨w.heap.size,0,none⟩))) (w.alloc (.cells cs.toArray e)) (fun t=>if t=d then w.heap.size else ρ t):=by
 have hdl:d<s.boxes.length:=by
  rcases iM d s.boxes.length with h'|h'
  ·exact h'
  ·simp[l7 h']at hd
 have hbx:∀(t:Nat) (cs':List Value),(s.boxes.set d (some cs))[t]? =some (some cs')→(t=d∧cs'=cs)∨(t≠d∧s.boxes[t]? =some (some cs')):=by
  intro t cs' ht;rw[bA]at ht;by_cases VK:d=t
  ·subst VK;simp[hdl]at ht;exact .inl ⟨rfl,ht.symm⟩
  ·simp only[VK,d_]at ht;exact .inr ⟨fun e=>VK e.symm,ht⟩
 have hold:∀t cs',s.boxes[t]? =some (some cs')→t≠d:=by
  rintro t cs' ht rfl;rw[hd]at ht;simp at ht
 have hlt:∀t cs',s.boxes[t]? =some (some cs')→ρ t<w.heap.size:=by
  intro t cs' ht;obtain⟨_,e',_,hc⟩:=h.box t cs' ht;exact cu hc
 have hown:∀b c,(b,c)∈s.own→b<w.heap.size:=fun b c hb=>by
  obtain⟨_,_,hc⟩:=h.own b c hb;exact cu hc
 refine⟨h.defers,by simp[Act.put,h.len],fun i x hi=>?_,h.below.trans ((bD _ w).alloc (ak _) _),fun t cs' ht=>?_,fun t u c1 c2 ht hu heq=>?_,?_,h.data,?_,fun b c hb=>?_,h.fresh,fun b c hb t cs' ht=>?_,h.nod,h.mapAt.keep (fun b m hm=>kF _ _ _ (h.mlt hm)),h.mfresh,h.mnod⟩
 ·simp only[Act.put,bA]at hi⊢;by_cases QQ:d=i
  ·subst QQ;simp only[e8]at hi;split at hi
   ·rename_i hl;injection hi with hi;subst hi;have:d<a.tmps.size:=by rw[h.len];exact hl
    simp[this,rel]
   ·simp at hi
  ·simp only[QQ,d_]at hi;have hx:=h.tmps i x hi;have:rel (fun t=>if t=d then w.heap.size else ρ t) x (a.tmps.getD i undef):=by
    cases x with
    |val v=>exact hx
    |junk=>trivial
    |ptr t off=>
     obtain⟨cs',hcs⟩:=h.wf i t off hi;have:=hold t cs' hcs;simpa [rel,this]using hx
   simpa [dE,Array.getElem?_setIfInBounds_ne QQ]using this
 ·rcases hbx t cs' ht with⟨rfl,rfl⟩|⟨hne,AG⟩
  ·simp only[e8];exact⟨h.below.size,e,he,by show(w.heap.push _)[w.heap.size]? =_;simp⟩
  ·simp only[hne,d_];obtain⟨h1,e',h2,h3⟩:=h.box t cs' AG;refine⟨h1,e',h2,?_⟩;rw[kF _ _ _ (hlt t cs' AG)];exact h3
 ·rcases hbx t c1 ht with⟨rfl,rfl⟩|⟨hne,AG⟩<;>rcases hbx u c2 hu with⟨rfl,rfl⟩|⟨Oc,hu'⟩
  ·rfl
  ·simp only[e8,Oc,d_]at heq;have:=hlt u c2 hu';omega
  ·simp only[e8,hne,d_]at heq;have:=hlt t c1 AG;omega
  ·simp only[hne,Oc,d_]at heq;exact h.inj t u c1 c2 AG hu' heq
 ·intro i t off hi;simp only[bA]at hi;split at hi
  ·split at hi
   ·injection hi with hi;injection hi with hi _;subst hi;exact⟨cs,by simp[hdl]⟩
   ·simp at hi
  ·obtain⟨cs',hcs⟩:=h.wf i t off hi;exact⟨cs',by rw[bA,if_neg (fun e=>hold t cs' hcs e.symm)];exact hcs⟩
 ·refine h.facts.up (fun b hb hI=>⟨hI.1,fun t cs' ht=>?_,hI.2.2⟩) (fun b hb _=>kF _ _ _ hb) (by simp);rcases hbx t cs' ht with⟨rfl,rfl⟩|⟨hne,AG⟩
  ·simp only[e8];omega
  ·simp only[hne,d_];exact hI.2.1 t cs' AG
 ·obtain⟨e',he',hc⟩:=h.own b c hb;exact⟨e',he',by rw[kF _ _ _ (cu hc)];exact hc⟩
 ·have hlt':=hown b c hb;rcases hbx t cs' ht with⟨rfl,rfl⟩|⟨hne,AG⟩
  ·simp only[e8];omega
  ·simp only[hne,d_];exact h.sep b c hb t cs' AG
theorem gZ.upd(h:gZ T w0 I0 Γ s a w ρ){b:Tmp}{cs cs':List Value}(hb:s.boxes[b]? =some (some cs)):
  gZ T w0 I0 Γ {s with boxes:=s.boxes.set b (some cs')} a (w.setRow (ρ b) cs'.toArray) ρ:=by
 have hbl:b<s.boxes.length:=by
  rcases iM b s.boxes.length with h'|h'
  ·exact h'
  ·simp[l7 h']at hb
 have hbx:∀(t:Nat) (c:List Value),(s.boxes.set b (some cs'))[t]? =some (some c)→(t=b∧c=cs')∨(t≠b∧s.boxes[t]? =some (some c)):=by
  intro t c ht;rw[bA]at ht;by_cases VK:b=t
  ·subst VK;simp[hbl]at ht;exact .inl ⟨rfl,ht.symm⟩
  ·simp only[VK,d_]at ht;exact .inr ⟨fun e=>VK e.symm,ht⟩
 have hbs:∀(t:Nat) (c:List Value),(s.boxes.set b (some cs'))[t]? =some (some c)→∃c':List Value,s.boxes[t]? =some (some c'):=by
  intro t c ht;rcases hbx t c ht with⟨rfl,rfl⟩|⟨_,AG⟩
  ·exact⟨cs,hb⟩
  ·exact⟨c,AG⟩
 obtain⟨hge,e0,Vy,hc0⟩:=h.box b cs hb;have Od:∀k,k≠ρ b→(w.setRow (ρ b) cs'.toArray).heap[k]? =w.heap[k]? :=by
  intro k hk;simp only[World.setRow,jX];rw[if_neg (fun e=>hk e.symm)]
 have hsz:(w.setRow (ρ b) cs'.toArray).heap.size=w.heap.size:=by simp[World.setRow]
 refine⟨h.defers,h.len,h.tmps,?_,fun t c ht=>?_,fun t u c1 c2 ht hu heq=>?_,?_,h.data,?_,fun k c hk=>?_,h.fresh,fun k c hk t c' ht=>?_,h.nod,h.mapAt.keep (fun k m hm=>Od k (by rintro rfl;exact h.nomap hc0 m hm)),h.mfresh,h.mnod⟩
 ·exact h.below.then ⟨rfl,rfl,rfl,by rw[hsz];exact ak _,fun k hk=>absurd hk (hZ _)⟩ (fun k hk _=>Od k (by omega))
 ·rcases hbx t c ht with⟨rfl,rfl⟩|⟨hne,AG⟩
  ·exact⟨hge,e0,Vy,setRow_heap w _ _ _ e0 _ hc0⟩
  ·obtain⟨h1,e',h2,h3⟩:=h.box t c AG;refine⟨h1,e',h2,?_⟩;rw[Od _ (fun(e:ρ t=ρ b)=>hne (h.inj t b c cs AG hb e))];exact h3
 ·obtain⟨c1',AG⟩:=hbs t c1 ht;obtain⟨c2',hu'⟩:=hbs u c2 hu;exact h.inj t u c1' c2' AG hu' heq
 ·intro i t off hi;obtain⟨c,hc⟩:=h.wf i t off hi;by_cases htb:b=t
  ·subst htb;exact⟨cs',by simp[hbl]⟩
  ·exact⟨c,by rw[bA,if_neg htb];exact hc⟩
 ·refine h.facts.up (fun k hk hI=>⟨hI.1,fun t c ht=>?_,hI.2.2⟩) (fun k hk hI=>Od k (hI.2.1 b cs hb)) (by rw[hsz];exact ak _);obtain⟨c',AG⟩:=hbs t c ht;exact hI.2.1 t c' AG
 ·obtain⟨e',he',hc⟩:=h.own k c hk;exact⟨e',he',by rw[Od k (h.sep k c hk b cs hb)];exact hc⟩
 ·obtain⟨c2,AG⟩:=hbs t c' ht;exact h.sep k c hk t c2 AG
theorem gZ.back(h:gZ T w0 I0 Γ s a w ρ){w':World}{Δ:List aD}(hb:Below w.heap.size w w')(hd:aG Δ (fun b=>b<w.heap.size→UD w0 I0 ρ s b) w'):
  gZ T w0 I0 (Δ++Γ) s a w' ρ:=by
 have hlt:∀t cs',s.boxes[t]? =some (some cs')→ρ t<w.heap.size:=by
  intro t cs' ht;obtain⟨_,e',_,hc⟩:=h.box t cs' ht;exact cu hc
 refine⟨h.defers,h.len,h.tmps,h.below.trans hb,fun t c ht=>?_,h.inj,h.wf,h.data,?_,fun b c hc=>?_,h.fresh,h.sep,h.nod,h.mapAt.keep (fun b m hm=>hb.block _ (h.mlt hm)),h.mfresh,h.mnod⟩
 ·obtain⟨h1,e',h2,h3⟩:=h.box t c ht;exact⟨h1,e',h2,by rw[hb.block _ (hlt t c ht)];exact h3⟩
 ·refine aG.append (hd.up (fun b hb' hI=>?_) (fun _ _ _=>rfl) (ak _)) (h.facts.up (fun _ _ hI=>hI) (fun b hb' _=>hb.block b hb') hb.size);by_cases hlt':b<w.heap.size
  ·exact hI hlt'
  ·refine⟨fun hw=>?_,fun t cs ht e=>hlt' ?_,fun cs ho=>hlt' ?_,fun m hm=>hlt' (h.mlt hm)⟩
   ·have:=h.below.size;omega
   ·rw[e];exact hlt t cs ht
   ·obtain⟨_,_,hc⟩:=h.own b cs ho;exact cu hc
 ·obtain⟨e',he',hh⟩:=h.own b c hc;exact⟨e',he',by rw[hb.block _ (cu hh)];exact hh⟩
theorem gZ.drew(h:gZ T w0 I0 Γ s a w ρ):gZ T w0 I0 Γ s a w.drew ρ:=
 ⟨h.defers,h.len,h.tmps,h.below.trans (bD _ w).drew,h.box,h.inj,h.wf,h.data,h.facts.up (fun _ _ h=>h) (fun _ _ _=>rfl) (ak _),h.own,h.fresh,h.sep,h.nod,h.mapAt,h.mfresh,h.mnod⟩
theorem gZ.weak(h:gZ T w0 I0 Γ s a w ρ){Δ:List aD}(hd:∀I w,br T I w→aG Γ I w→aG Δ I w):gZ T w0 I0 Δ s a w ρ:=
 ⟨h.defers,h.len,h.tmps,h.below,h.box,h.inj,h.wf,h.data,hd _ _ h.dataOK h.facts,h.own,h.fresh,h.sep,h.nod,h.mapAt,h.mfresh,h.mnod⟩
theorem gZ.owned(h:gZ T w0 I0 Γ s a w ρ){w':World}{O:List (Nat×List Value)}{Δ:List aD}(hb:Below 0 w w')(hsz:w.heap.size≤w'.heap.size)
  (hk:∀b,b<w.heap.size→(∀cs,(b,cs)∉s.own)→w'.heap[b]? =w.heap[b]?)(ho:gn T O w')(hn:∀b cs,(b,cs)∈O→(∃uG,(b,uG)∈s.own)∨w.heap.size≤b)(AE:(O.map (·.1)).Nodup)
  (hd:aG Δ (fun b=>(b<w.heap.size→UD w0 I0 ρ s b∨∃cs,(b,cs)∈s.own)∧∀cs,(b,cs)∉O) w'):
  gZ T w0 I0 (Δ++Γ) {s with own:=O} a w' ρ:=by
 have hlt:∀t cs',s.boxes[t]? =some (some cs')→ρ t<w.heap.size:=by
  intro t cs' ht;obtain⟨_,e',_,hc⟩:=h.box t cs' ht;exact cu hc
 have Ip:∀b cs,(b,cs)∈O→∀t cs',s.boxes[t]? =some (some cs')→b≠ρ t:=by
  intro b cs hb' t cs' ht;rcases hn b cs hb' with⟨uG,h0⟩|hge
  ·exact h.sep b uG h0 t cs' ht
  ·have:=hlt t cs' ht;omega
 have BW:∀b cs,(b,cs)∈O→w0.heap.size≤b∨I0.x b:=by
  intro b cs hb';rcases hn b cs hb' with⟨uG,h0⟩|hge
  ·exact h.fresh b uG h0
  ·have:=h.below.size;exact .inl (by omega)
 have hnm:∀b m,(b,m)∈s.maps→∀cs,(b,cs)∉s.own:=fun b m hm cs hc=>by
  obtain⟨_,_,hh⟩:=h.own b cs hc;exact h.nomap hh m hm
 refine⟨h.defers,h.len,h.tmps,h.below.then hb (fun k h1 h2=>hk k (cM h1 h.below.size) (fun cs hc=>?_)),fun t c ht=>?_,h.inj,h.wf,h.data,?_,ho,BW,Ip,AE,h.mapAt.keep (fun b m hm=>hk b (h.mlt hm) (hnm b m hm)),h.mfresh,h.mnod⟩
 ·rcases h.fresh k cs hc with h'|h'
  ·omega
  ·exact h2 h'
 ·obtain⟨h1,e',h2,h3⟩:=h.box t c ht;exact⟨h1,e',h2,by rw[hk _ (hlt t c ht) (fun cs hc=>h.sep _ cs hc t c ht rfl)];exact h3⟩
 ·refine aG.append (hd.up (fun b hb' hI=>?_) (fun _ _ _=>rfl) (ak _)) (h.facts.up (fun b hb' hI=>⟨hI.1,hI.2.1,fun cs hc=>?_,hI.2.2.2⟩) (fun b hb' hI=>hk b hb' hI.2.2.1) hsz)
  ·by_cases hlt':b<w.heap.size
   ·rcases hI.1 hlt' with this|⟨cs,hcs⟩
    ·exact⟨this.1,this.2.1,hI.2,this.2.2.2⟩
    ·refine⟨fun hw=>?_,fun t c ht=>h.sep b cs hcs t c ht,hI.2,fun m hm=>hnm b m hm cs hcs⟩;rcases h.fresh b cs hcs with h'|h'
     ·omega
     ·exact .inr h'
   ·refine⟨fun hw=>?_,fun t cs ht e=>hlt' ?_,hI.2,fun m hm=>hlt' (h.mlt hm)⟩
    ·have:=h.below.size;omega
    ·rw[e];exact hlt t cs ht
  ·rcases hn b cs hc with⟨uG,h0⟩|hge
   ·exact hI.2.2.1 uG h0
   ·omega
theorem gZ.backO(h:gZ T w0 I0 Γ s a w ρ){w':World}{O:List (Nat×List Value)}{Δ:List aD}(hb:Below w.heap.size w w')(ho:gn T O w')(hn:∀b cs,(b,cs)∈O→w.heap.size≤b)(AE:(O.map (·.1)).Nodup)
  (hd:aG Δ (fun b=>(b<w.heap.size→UD w0 I0 ρ s b)∧∀cs,(b,cs)∉O) w'):gZ T w0 I0 (Δ++Γ) {s with own:=O++s.own} a w' ρ:=by
 have hlt:∀b cs,(b,cs)∈s.own→b<w.heap.size:=fun b cs hc=>by
  obtain⟨_,_,hh⟩:=h.own b cs hc;exact cu hh
 refine h.owned (hb.mono (aJ _)) hb.size (fun b hlt' _=>hb.block b hlt') (fun b cs hc=>?_) (fun b cs hc=>?_) ?_ (hd.up (fun b _ hI=>⟨fun hl=>.inl (hI.1 hl),fun cs hc=>?_⟩) (fun _ _ _=>rfl) (ak _))
 ·rcases List.mem_append.1 hc with hc|hc
  ·exact ho b cs hc
  ·obtain⟨e,he,hh⟩:=h.own b cs hc;exact⟨e,he,by rw[hb.block b (hlt b cs hc)];exact hh⟩
 ·rcases List.mem_append.1 hc with hc|hc
  ·exact .inr (hn b cs hc)
  ·exact .inl ⟨cs,hc⟩
 ·rw[aT,fC];refine⟨AE,h.nod,fun x hx y hy e=>?_⟩;subst e;obtain⟨⟨b,cs⟩,h1,h2⟩:=List.mem_map.1 hx;obtain⟨⟨b',cs'⟩,h3,h4⟩:=List.mem_map.1 hy;have k1:=hn b cs h1;have k2:=hlt b' cs' h3;simp only at h2 h4;omega
 ·rcases List.mem_append.1 hc with hc|hc
  ·exact hI.2 cs hc
  ·exact(hI.1 (hlt b cs hc)).2.2.1 cs hc
end
theorem rf{α β:Type}{l1 l2 l3:List (α×β)}(h:((l1++(l2++l3)).map (·.1)).Nodup):(∀a b c,(a,b)∈l2→(a,c)∉l1∧(a,c)∉l3)∧(l2.map (·.1)).Nodup:=by
 simp only[aT,fC]at h;obtain⟨_,⟨h2,_,h23⟩,h1⟩:=h;refine⟨fun a b c hb=>⟨fun hc=>?_,fun hc=>?_⟩,h2⟩
 ·exact h1 a (List.mem_map.2 ⟨(a,c),hc,rfl⟩) a (List.mem_append.2 (.inl (List.mem_map.2 ⟨(a,b),hb,rfl⟩))) rfl
 ·exact h23 a (List.mem_map.2 ⟨(a,b),hb,rfl⟩) a (List.mem_map.2 ⟨(a,c),hc,rfl⟩) rfl
theorem A5{α β:Type}{l1 l2 l3 l:List (α×β)}(h:((l1++(l2++l3)).map (·.1)).Nodup)(hl:(l.map (·.1)).Nodup)(hd:∀a b c,(a,b)∈l→(a,c)∉l1∧(a,c)∉l3):((l1++(l++l3)).map (·.1)).Nodup:=by
 simp only[aT,fC]at h⊢;obtain⟨g1,⟨g2,g3,g23⟩,g4⟩:=h;refine⟨g1,⟨hl,g3,fun x hx y hy e=>?_⟩,fun x hx y hy e=>?_⟩
 ·subst e;obtain⟨⟨a,b⟩,h1,rfl⟩:=List.mem_map.1 hx;obtain⟨⟨a',c⟩,h2,e2⟩:=List.mem_map.1 hy;simp only at e2;subst e2;exact(hd _ b c h1).2 h2
 ·subst e;rcases List.mem_append.1 hy with hy|hy
  ·obtain⟨⟨a,b⟩,h1,rfl⟩:=List.mem_map.1 hy;obtain⟨⟨a',c⟩,h2,e2⟩:=List.mem_map.1 hx;simp only at e2;subst e2;exact(hd _ b c h1).1 h2
  ·exact g4 x hx x (List.mem_append.2 (.inr hy)) rfl
def Dv(P:Program)(f:FuncId):Prop:=∃fn,P.funcs[f]? =some fn∧(fn.name== "runtime.NumGoroutine")=false∧fn.body.isNone=false
def aw(T:Tb)(P:Program)(f:FuncId)(args:List Value)(Γ:List aD)(post:Value→List aD→Prop):Prop:=
 Dv P f∧∀(I:fQ) (w:World),br T I w→aG Γ I w→Calls P f args.toArray w fun e w'=>
  ∃v Δ,e=.returned v∧post v Δ∧Below w.heap.size w w'∧aG Δ (fun b=>b<w.heap.size→I b) w'
def kt(T:Tb)(P:Program)(f:FuncId)(args:List Value)(Γ:List aD)(post:Value→List (Nat×List Value)→List aD→Prop):Prop:=
 Dv P f∧∀(I:fQ) (w:World),br T I w→aG Γ I w→Calls P f args.toArray w fun e w'=>
  ∃v O Δ,e=.returned v∧post v O Δ∧Below w.heap.size w w'∧gn T O w'∧(∀b cs,(b,cs)∈O→w.heap.size≤b)∧(O.map (·.1)).Nodup∧aG Δ (fun b=>(b<w.heap.size→I b)∧∀cs,(b,cs)∉O) w'
theorem aw.o{T:Tb}{P:Program}{f:FuncId}{args:List Value}{Γ:List aD}{post:Value→List aD→Prop}(h:aw T P f args Γ post):kt T P f args Γ (fun v O Δ=>O=[]∧post v Δ):=
 ⟨h.1,fun I w hd hh=>(h.2 I w hd hh).mono fun e w' ⟨v,Δ,h1,h2,h3,h4⟩=>⟨v,[],Δ,h1,⟨rfl,h2⟩,h3,fun _ _ hc=>absurd hc (by simp),fun _ _ hc=>absurd hc (by simp),by simp,h4.up (fun b _ hI=>⟨hI,fun cs hc=>absurd hc (by simp)⟩) (fun _ _ _=>rfl) (ak _)⟩⟩
def gI(Oin:List (Nat×List Value))(Min:List (Nat×List (Value×Value))):fQ:=fun b=>(∃cs,(b,cs)∈Oin)∨∃m,(b,m)∈Min
def dB(T:Tb)(P:Program)(f:FuncId)(args:List Value)(Oin:List (Nat×List Value))(Min:List (Nat×List (Value×Value)))(Γ:List aD)(post:Value→List (Nat×List Value)→List (Nat×List (Value×Value))→List aD→Prop):Prop:=
 Dv P f∧∀(I:fQ) (w:World),br T I w→aG Γ I w→gn T Oin w→(Oin.map (·.1)).Nodup→vl Min w→(Min.map (·.1)).Nodup→(∀b,gI Oin Min b→¬I b)→Calls P f args.toArray w fun e w'=>
  (∃v O M Δ,e=.returned v∧post v O M Δ∧j9 (gI Oin Min) w w'∧gn T O w'∧(∀b cs,(b,cs)∈O→gI Oin Min b∨w.heap.size≤b)∧(O.map (·.1)).Nodup∧vl M w'∧(∀b m,(b,m)∈M→gI Oin Min b∨w.heap.size≤b)∧(M.map (·.1)).Nodup∧
   aG Δ (fun b=>(b<w.heap.size→I b∨gI Oin Min b)∧(∀cs,(b,cs)∉O)∧∀m,(b,m)∉M) w')∨
  (∃ch,e=.panicked ch∧T.pan ch∧j9 (gI Oin Min) w w')
theorem kt.x{T:Tb}{P:Program}{f:FuncId}{args:List Value}{Γ:List aD}{post:Value→List (Nat×List Value)→List aD→Prop}(h:kt T P f args Γ post):dB T P f args [] [] Γ (fun v O M Δ=>M=[]∧post v O Δ):=
 ⟨h.1,fun I w hd hh _ _ _ _ _=>(h.2 I w hd hh).mono fun e w' ⟨v,O,Δ,h1,h2,h3,h4,h5,h6,h7⟩=>.inl ⟨v,O,[],Δ,h1,⟨rfl,h2⟩,j9.of h3 _,h4,fun b cs hb=>.inr (h5 b cs hb),h6,fun _ _ hc=>absurd hc (by simp),fun _ _ hc=>absurd hc (by simp),by simp,h7.up (fun b _ hI=>⟨fun hl=>.inl (hI.1 hl),hI.2,fun m hm=>absurd hm (by simp)⟩) (fun _ _ _=>rfl) (ak _)⟩⟩
def JI(T:Tb)(tm:List SV)(own:List (Nat×List Value)):Prop:=∃ks:List (Nat×Value),T.held ks own∧∀x∈ks,lK x.1 T.pins=true∧tm[x.1]? =some (.val x.2)
def Xm(T:Tb)(P:Program)(f:FuncId)(args:List Value)(K:Value→VS→List aD→Prop)(s:VS)(Γ:List aD):Prop:=
 ∃O1 Oin O2 M1 Min M2 post,s.own=O1++(Oin++O2)∧s.maps=M1++(Min++M2)∧JI T s.tmps (O1++O2)∧dB T P f args Oin Min Γ post∧∀v O M Δ,post v O M Δ→K v {s with own:=O1++(O++O2),maps:=M1++(M++M2)} (Δ++Γ)
def xB(T:Tb)(P:Program)(f:FuncId)(args:List Value)(K:Value→VS→List aD→Prop)(s:VS)(Γ:List aD):Prop:=
 (∃post,kt T P f args Γ post∧∀v O Δ,post v O Δ→K v {s with own:=O++s.own} (Δ++Γ))∨((T.hand=true∧T.calm f=false)∧Xm T P f args K s Γ)
theorem xB.mono{T:Tb}{P:Program}{f:FuncId}{args:List Value}{K K':Value→VS→List aD→Prop}{s:VS}{Γ:List aD}(h:xB T P f args K s Γ)(hk:∀v O M Γ',K v {s with own:=O,maps:=M} Γ'→K' v {s with own:=O,maps:=M} Γ'):xB T P f args K' s Γ:=by
 rcases h with⟨post,hp,h⟩|⟨h0,O1,Oin,O2,M1,Min,M2,post,e1,e2,eh,hp,h⟩
 ·exact .inl ⟨post,hp,fun v O Δ hv=>hk v _ s.maps _ (h v O Δ hv)⟩
 ·exact .inr ⟨h0,O1,Oin,O2,M1,Min,M2,post,e1,e2,eh,hp,fun v O M Δ hv=>hk v _ _ _ (h v O M Δ hv)⟩
theorem BK{T:Tb}{P:Program}{f:FuncId}{args:List Value}{K:Value→VS→List aD→Prop}{s:VS}{Γ:List aD}{post:Value→List (Nat×List Value)→List aD→Prop}(hp:kt T P f args Γ post)(h:∀v O Δ,post v O Δ→K v {s with own:=O++s.own} (Δ++Γ)):xB T P f args K s Γ:=by
 exact .inl ⟨post,hp,h⟩
def iY(T:Tb)(o:Oper):Bool:=
 match o.op with
 | .move _=>true
 | .assign _=>true
 | .pick .. =>true
 | .extract .. =>true
 | .build .. =>true
 | .binOp .. =>true
 | .unOp .. =>true
 | .convert src dst _=>(match T.get src with|some y=> !Nat.beq y.kind 3|none=>true)&& !Ju T src dst
 | .fieldAddr .. =>true
 | .indexAddr .. =>true
 | .nilCheck _=>true
 | .call c=>(match c.callee with| .builtin .len=>true| .builtin .max=>true| .builtin .min=>true|_=>false)
 |_=>false
structure z_(T:Tb)(P:Program)(s:VS)(o:Oper)(Γ:List aD)(v:Value):Prop where
 all:iY T o=true→∀w:World,(execOp s.rho o).run P w=.ok (.value v) w
 mem:∀(I:fQ) (w:World),br T I w→aG Γ I w→gn T s.own w→(execOp s.rho o).run P w=.ok (.value v) w
theorem z_.any{T:Tb}{P:Program}{s:VS}{o:Oper}{Γ:List aD}{v:Value}(h:∀w:World,(execOp s.rho o).run P w=.ok (.value v) w):z_ T P s o Γ v:=⟨fun _=>h,fun _ w _ _ _=>h w⟩
theorem z_.look{T:Tb}{P:Program}{s:VS}{o:Oper}{Γ:List aD}{v:Value}(hm:iY T o=false)(h:∀(I:fQ) (w:World),br T I w→aG Γ I w→gn T s.own w→(execOp s.rho o).run P w=.ok (.value v) w):z_ T P s o Γ v:=⟨fun h'=>by rw[hm]at h';simp at h',h⟩
def MC(T:Tb)(P:Program)(s:VS)(o:Oper)(Γ:List aD)(post:Value→List aD→Prop):Prop:=
 ∀(I:fQ) (w:World),br T I w→aG Γ I w→∃v Δ w',(execOp s.rho o).run P w=.ok (.value v) w'∧post v Δ∧Below w.heap.size w w'∧aG Δ (fun b=>b<w.heap.size→I b) w'
def UG(T:Tb)(P:Program)(s:VS)(o:Oper)(Γ:List aD)(post:Value→List (Nat×List Value)→List aD→Prop):Prop:=
 ∀(I:fQ) (w:World),br T I w→aG Γ I w→gn T s.own w→(s.own.map (·.1)).Nodup→(∀b cs,(b,cs)∈s.own→¬I b)→∃v O Δ w' r,(execOp s.rho o).run P w=.ok r w'∧(r=.value v∨(r=.skip∧v=undef))∧post v O Δ∧
  (∀n,(∀b cs,(b,cs)∈s.own→n≤b)→n≤w.heap.size→Below n w w')∧w.heap.size≤w'.heap.size∧(∀b,b<w.heap.size→(∀cs,(b,cs)∉s.own)→w'.heap[b]? =w.heap[b]?)∧gn T O w'∧
  (∀b cs,(b,cs)∈O→(∃uG,(b,uG)∈s.own)∨w.heap.size≤b)∧(O.map (·.1)).Nodup∧aG Δ (fun b=>(b<w.heap.size→I b∨∃cs,(b,cs)∈s.own)∧∀cs,(b,cs)∉O) w'
def Cc(T:Tb)(P:Program)(s:VS)(o:Oper)(Γ:List aD)(post:Value→List (Nat×List Value)→List (Nat×List (Value×Value))→List aD→Prop):Prop:=
 ∀(I:fQ) (w:World),br T I w→aG Γ I w→gn T s.own w→(s.own.map (·.1)).Nodup→vl s.maps w→(s.maps.map (·.1)).Nodup→(∀b,gI s.own s.maps b→¬I b)→∃v O M Δ w' r,(execOp s.rho o).run P w=.ok r w'∧(r=.value v∨(r=.skip∧v=undef))∧post v O M Δ∧
  j9 (gI s.own s.maps) w w'∧gn T O w'∧(∀b cs,(b,cs)∈O→gI s.own s.maps b∨w.heap.size≤b)∧(O.map (·.1)).Nodup∧vl M w'∧(∀b m,(b,m)∈M→gI s.own s.maps b∨w.heap.size≤b)∧(M.map (·.1)).Nodup∧
  aG Δ (fun b=>(b<w.heap.size→I b∨gI s.own s.maps b)∧(∀cs,(b,cs)∉O)∧∀m,(b,m)∉M) w'
theorem UG.m{T:Tb}{P:Program}{s:VS}{o:Oper}{Γ:List aD}{post:Value→List (Nat×List Value)→List aD→Prop}(h:UG T P s o Γ post):Cc T P s o Γ (fun v O M Δ=>M=s.maps∧post v O Δ):=fun I w hd hh ho AE hm D4 hx=>by
 obtain⟨v,O,Δ,w',r,hrun,hr,hpv,hb,hsz,hkeep,sV,hn,tK,hd'⟩:=h I w hd hh ho AE (fun b cs hc=>hx b (.inl ⟨cs,hc⟩));have hb0:=hb 0 (fun _ _ _=>aJ _) (aJ _);have dis:∀b cs m,(b,cs)∈s.own→(b,m)∉s.maps:=fun b cs m h1 h2=>by
  obtain⟨e,_,g1⟩:=ho b cs h1;obtain⟨es,cl,g2,_⟩:=hm b m h2;rw[g1]at g2;simp at g2
 refine⟨v,O,s.maps,Δ,w',r,hrun,hr,⟨rfl,hpv⟩,⟨hb0.os,hb0.tape,hb0.output,hsz,fun k hk Mn=>hkeep k hk (fun cs hc=>Mn (.inl ⟨cs,hc⟩))⟩,sV,fun b cs hc=>(hn b cs hc).elim (fun⟨c0,h0⟩=>.inl (.inl ⟨c0,h0⟩)) .inr,tK,fun b m qO=>?_,fun b m qO=>.inl (.inr ⟨m,qO⟩),D4,hd'.up (fun b _ hI=>⟨fun hl=>(hI.1 hl).elim .inl (fun⟨cs,hc⟩=>.inr (.inl ⟨cs,hc⟩)),hI.2,fun m qO=>?_⟩) (fun _ _ _=>rfl) (ak _)⟩
 ·obtain⟨es,cl,g1,g2⟩:=hm b m qO;exact⟨es,cl,by rw[hkeep b (cu g1) (fun cs hc=>dis b cs m hc qO)];exact g1,g2⟩
 ·obtain⟨es,cl,g1,_⟩:=hm b m qO;rcases hI.1 (cu g1)with h1|⟨cs,h1⟩
  ·exact hx b (.inr ⟨m,qO⟩) h1
  ·exact dis b cs m h1 qO
def gA(ops:Array Oper)(o:Oper)(s:VS):Option Bool:=
 match o.guard with
 |none=>some true
 |some (j,want)=>match(ops[j]?).bind (·.dst)with
  |none=>some false
  |some t=>match s.tmps[t]? with
   |none=>some false
   |some (.val (.bool b))=>some (b==want)
   |some (.val _)=>some false
   |some _=>none
def sF(T:Tb)(P:Program)(o:Oper)(K:VS→List aD→Prop)(s:VS)(Γ:List aD):Prop:=
 match gh T o s with
 | .val v=>K (s.put o.dst v) Γ
 | .new cs=>match o.dst with
  |some d=>s.boxes[d]? =some none∧K {s with tmps:=s.tmps.set d (.ptr d 0),boxes:=s.boxes.set d (some cs)} Γ
  |none=>False
 | .upd b cs=>K ({s with boxes:=s.boxes.set b (some cs)}.put o.dst (.val undef)) Γ
 | .read=>∃v,z_ T P s o Γ v∧K (s.put o.dst (.val v)) Γ
 | .ask=>∃post,MC T P s o Γ post∧∀v Δ,post v Δ→K (s.put o.dst (.val v)) (Δ++Γ)
 | .own=>∃post,Cc T P s o Γ post∧∀v O M Δ,post v O M Δ→K (({s with own:=O,maps:=M}:VS).put o.dst (.val v)) (Δ++Γ)
 | .call f args=>xB T P f args (fun v s' Γ'=>K (s'.put o.dst (.val v)) Γ') s Γ
 | .stuck=>False
def pQ(T:Tb)(P:Program)(ops:Array Oper)(o:Oper)(K:VS→List aD→Prop)(s:VS)(Γ:List aD):Prop:=
 match gA ops o s with
 |some true=>sF T P o K s Γ
 |some false=>K (s.put o.dst (.val undef)) Γ
 |none=>False
theorem e_{P:Program}{t:TypeId}{y:Ty}(h:SP P t=some y):∃i d,P.info? t=some i∧P.underlying t=some d∧i.zero=some y.zero∧i.size=y.size∧E5 d=y.agg∧
  ((match d with| .struct _=>true|_=>false)=y.isStruct)∧((match d with| .bool=>true|_=>false)=y.isBool)∧((match d with| .int k=>some k|_=>none)=y.ikind)∧CN d=y.kind∧(match d with| .slice e=>((P.info? e).map (·.size)).getD 0| .array _ e=>((P.info? e).map (·.size)).getD 0|_=>0)=y.esize∧(match d with| .slice e=>(((P.info? e).bind (·.zero)).map (·.cells.toList)).getD []|_=>[])=y.ezero∧
  (match d with| .struct fs=>fs.toList.map fun f=>(f.offset,(((P.info? f.type).map (·.size)).getD 0,((P.underlying f.type).map E5).getD false))|_=>[])=y.fields∧
  (match d with| .slice e=>e| .array _ e=>e|_=>0)=y.elem∧(match d with| .slice e=>((P.info? e).map (·.bytes)).getD 0|_=>0)=y.ebytes∧(match d with| .array n _=>n|_=>0)=y.alen:=by
 unfold SP at h;cases hi:P.info? t with
 |none=>simp[hi]at h
 |some i=>
  cases hd:P.underlying t with
  |none=>simp[hi,hd]at h
  |some d=>
   cases hz:i.zero with
   |none=>simp[hi,hd,hz]at h
   |some z=>
    simp only[hi,hd,hz,ar]at h;subst h;exact⟨i,d,rfl,rfl,by simp[hz],rfl,rfl,rfl,rfl,rfl,rfl,rfl,rfl,rfl,rfl,rfl,rfl⟩
theorem kV{P:Program}{t:TypeId}{d:TypeDesc}(h:P.underlying t=some d)(w:World):(isAgg t).run P w=.ok (E5 d) w:=by
 unfold isAgg;simp only[cz,cL h,bB];cases d<;>rfl
theorem iI{P:Program}{t:TypeId}{i:TypeInfo}(h:P.info? t=some i)(w:World):(sizeOf t).run P w=.ok i.size w:=by
 simp[sizeOf,typeInfo,h]
theorem G_{P:Program}{t:TypeId}{i:TypeInfo}{z:Value}(h:P.info? t=some i)(hz:i.zero=some z)(w:World):(zeroValue t).run P w=.ok z w:=by
 simp[zeroValue,typeInfo,h,hz]
theorem nH{w:World}{b:Nat}{cs:List Value}{e:TypeId}(h:w.heap[b]? =some (.cells cs.toArray e (0,0)))(i:Nat):w.cell? ⟨b,i,none⟩=cs[i]? :=by
 simp[World.cell?,h]
theorem gP(b off n:Nat):(⟨b,off,none⟩:Addr).add n=⟨b,off+n,none⟩:=by
 unfold Addr.add;split
 ·simp[*]
 ·rfl
section
variable{T:Tb}{P:Program}{w0:World}{I0:Mj}{Γ:List aD}{s:VS}{a:Act}{w:World}{ρ:Nat→Nat}{o:Oper}
theorem gZ.ownedX(h:gZ T w0 I0 Γ s a w ρ){O1 Oin O2 O:List (Nat×List Value)}{M1 Min M2 M:List (Nat×List (Value×Value))}(eo:s.own=O1++(Oin++O2))(em:s.maps=M1++(Min++M2)){w':World}{Δ:List aD}(hk:j9 (gI Oin Min) w w')
  (ho:gn T O w')(hn:∀b cs,(b,cs)∈O→gI Oin Min b∨w.heap.size≤b)(AE:(O.map (·.1)).Nodup)(hm:vl M w')(hmn:∀b m,(b,m)∈M→gI Oin Min b∨w.heap.size≤b)(D4:(M.map (·.1)).Nodup)
  (hd:aG Δ (fun b=>(b<w.heap.size→UD w0 I0 ρ s b∨gI Oin Min b)∧(∀cs,(b,cs)∉O)∧∀m,(b,m)∉M) w'):
  gZ T w0 I0 (Δ++Γ) {s with own:=O1++(O++O2),maps:=M1++(M++M2)} a w' ρ:=by
 have hod:=h.nod;have hmd:=h.mnod;rw[eo]at hod;rw[em]at hmd;obtain⟨oo,_⟩:=rf hod;obtain⟨mm,_⟩:=rf hmd;have Oy:∀b cs,(b,cs)∈Oin→(b,cs)∈s.own:=fun b cs hb=>by rw[eo];simp[hb]
 have Mp:∀b m,(b,m)∈Min→(b,m)∈s.maps:=fun b m hb=>by rw[em];simp[hb]
 have r1:∀b cs,(b,cs)∈O1∨(b,cs)∈O2→(b,cs)∈s.own:=fun b cs hb=>by rw[eo];rcases hb with hb|hb<;>simp[hb]
 have r2:∀b m,(b,m)∈M1∨(b,m)∈M2→(b,m)∈s.maps:=fun b m hb=>by rw[em];rcases hb with hb|hb<;>simp[hb]
 have olt:∀b cs,(b,cs)∈s.own→b<w.heap.size:=fun b cs hb=>by
  obtain⟨_,_,hc⟩:=h.own b cs hb;exact cu hc
 have nom:∀b cs m,(b,cs)∈s.own→(b,m)∉s.maps:=fun b cs m hb=>by
  obtain⟨_,_,hc⟩:=h.own b cs hb;exact h.nomap hc m
 have nO:∀b cs,(b,cs)∈O1∨(b,cs)∈O2→¬gI Oin Min b:=fun b cs hb hx=>by
  rcases hx with⟨cs',hx⟩|⟨m,hx⟩
  ·rcases hb with hb|hb
   ·exact(oo b cs' cs hx).1 hb
   ·exact(oo b cs' cs hx).2 hb
  ·exact nom b cs m (r1 b cs hb) (Mp b m hx)
 have nM:∀b m,(b,m)∈M1∨(b,m)∈M2→¬gI Oin Min b:=fun b m hb hx=>by
  rcases hx with⟨cs',hx⟩|⟨m',hx⟩
  ·exact nom b cs' m (Oy b cs' hx) (r2 b m hb)
  ·rcases hb with hb|hb
   ·exact(mm b m' m hx).1 hb
   ·exact(mm b m' m hx).2 hb
 have hlt:∀t cs',s.boxes[t]? =some (some cs')→ρ t<w.heap.size:=by
  intro t cs' ht;obtain⟨_,e',_,hc⟩:=h.box t cs' ht;exact cu hc
 have nB:∀t cs',s.boxes[t]? =some (some cs')→¬gI Oin Min (ρ t):=fun t cs' ht hx=>by
  rcases hx with⟨cs,hx⟩|⟨m,hx⟩
  ·exact h.sep _ cs (Oy _ cs hx) t cs' ht rfl
  ·obtain⟨_,_,_,hc⟩:=h.box t cs' ht;exact h.nomap hc m (Mp _ m hx)
 have hxw:∀b,gI Oin Min b→b<w.heap.size∧(w0.heap.size≤b∨I0.x b):=fun b hx=>by
  rcases hx with⟨cs,hx⟩|⟨m,hx⟩
  ·exact⟨olt b cs (Oy b cs hx),h.fresh b cs (Oy b cs hx)⟩
  ·exact⟨h.mlt (Mp b m hx),h.mfresh b m (Mp b m hx)⟩
 have hsz:=h.below.size;have D_:∀{α:Type} {x:α} {l1 l2 l3:List α},x∈l1++(l2++l3)→(x∈l1∨x∈l3)∨x∈l2:=fun hx=>by
  rcases List.mem_append.1 hx with hx|hx
  ·exact .inl (.inl hx)
  ·rcases List.mem_append.1 hx with hx|hx
   ·exact .inr hx
   ·exact .inl (.inr hx)
 refine⟨h.defers,h.len,h.tmps,h.below.then ⟨hk.os,hk.tape,hk.output,hk.size,fun k hk=>absurd hk (hZ _)⟩ (fun k h1 h2=>hk.block k (by omega) (fun hx=>?_)),fun t c ht=>?_,h.inj,h.wf,h.data,?_,fun b cs hb=>?_,fun b cs hb=>?_,fun b cs hb t cs' ht=>?_,?_,fun b m hb=>?_,fun b m hb=>?_,?_⟩
 ·rcases(hxw k hx).2 with h'|h'
  ·omega
  ·exact h2 h'
 ·obtain⟨h1,e',h2,h3⟩:=h.box t c ht;exact⟨h1,e',h2,by rw[hk.block _ (hlt t c ht) (nB t c ht)];exact h3⟩
 ·refine aG.append (hd.up (fun b hb' hI=>?_) (fun _ _ _=>rfl) (ak _)) (h.facts.up (fun b hb' hI=>⟨hI.1,hI.2.1,fun cs hc=>?_,fun m hm'=>?_⟩) (fun b hb' hI=>hk.block b hb' (fun hx=>?_)) hk.size)
  ·refine⟨fun hw=>?_,fun t cs ht e=>?_,fun cs hc=>?_,fun m hm'=>?_⟩
   ·rcases hI.1 (by omega)with h'|h'
    ·exact h'.1 hw
    ·rcases(hxw b h').2 with h''|h''
     ·omega
     ·exact .inr h''
   ·by_cases hb:b<w.heap.size
    ·rcases hI.1 hb with h'|h'
     ·exact h'.2.1 t cs ht e
     ·rw[e]at h';exact nB t cs ht h'
    ·have:=hlt t cs ht;omega
   ·rcases D_ hc with hc|hc
    ·have hb:=olt b cs (r1 b cs hc);rcases hI.1 hb with h'|h'
     ·exact h'.2.2.1 cs (r1 b cs hc)
     ·exact nO b cs hc h'
    ·exact hI.2.1 cs hc
   ·rcases D_ hm' with hm'|hm'
    ·have hb:=h.mlt (r2 b m hm');rcases hI.1 hb with h'|h'
     ·exact h'.2.2.2 m (r2 b m hm')
     ·exact nM b m hm' h'
    ·exact hI.2.2 m hm'
  ·rcases D_ hc with hc|hc
   ·exact hI.2.2.1 cs (r1 b cs hc)
   ·rcases hn b cs hc with hx|hge
    ·rcases hx with⟨cs',hx⟩|⟨m',hx⟩
     ·exact hI.2.2.1 cs' (Oy b cs' hx)
     ·exact hI.2.2.2 m' (Mp b m' hx)
    ·omega
  ·rcases D_ hm' with hm'|hm'
   ·exact hI.2.2.2 m (r2 b m hm')
   ·rcases hmn b m hm' with hx|hge
    ·rcases hx with⟨cs',hx⟩|⟨m',hx⟩
     ·exact hI.2.2.1 cs' (Oy b cs' hx)
     ·exact hI.2.2.2 m' (Mp b m' hx)
    ·omega
  ·rcases hx with⟨cs',hx⟩|⟨m',hx⟩
   ·exact hI.2.2.1 cs' (Oy b cs' hx)
   ·exact hI.2.2.2 m' (Mp b m' hx)
 ·rcases D_ hb with hb|hb
  ·obtain⟨e',he',hc⟩:=h.own b cs (r1 b cs hb);exact⟨e',he',by rw[hk.block b (cu hc) (nO b cs hb)];exact hc⟩
  ·exact ho b cs hb
 ·rcases D_ hb with hb|hb
  ·exact h.fresh b cs (r1 b cs hb)
  ·rcases hn b cs hb with hx|hge
   ·exact(hxw b hx).2
   ·exact .inl (by omega)
 ·rcases D_ hb with hb|hb
  ·exact h.sep b cs (r1 b cs hb) t cs' ht
  ·rcases hn b cs hb with hx|hge
   ·rintro rfl;exact nB t cs' ht hx
   ·have:=hlt t cs' ht;omega
 ·refine A5 hod AE (fun b cs cs' hb=>⟨fun hc=>?_,fun hc=>?_⟩)
  ·rcases hn b cs hb with hx|hge
   ·exact nO b cs' (.inl hc) hx
   ·have:=olt b cs' (r1 b cs' (.inl hc));omega
  ·rcases hn b cs hb with hx|hge
   ·exact nO b cs' (.inr hc) hx
   ·have:=olt b cs' (r1 b cs' (.inr hc));omega
 ·rcases D_ hb with hb|hb
  ·obtain⟨en,ck,hc,he⟩:=h.mapAt b m (r2 b m hb);exact⟨en,ck,by rw[hk.block b (cu hc) (nM b m hb)];exact hc,he⟩
  ·exact hm b m hb
 ·rcases D_ hb with hb|hb
  ·exact h.mfresh b m (r2 b m hb)
  ·rcases hmn b m hb with hx|hge
   ·exact(hxw b hx).2
   ·exact .inl (by omega)
 ·refine A5 hmd D4 (fun b m m' hb=>⟨fun hc=>?_,fun hc=>?_⟩)
  ·rcases hmn b m hb with hx|hge
   ·exact nM b m' (.inl hc) hx
   ·have:=h.mlt (r2 b m' (.inl hc));omega
  ·rcases hmn b m hb with hx|hge
   ·exact nM b m' (.inr hc) hx
   ·have:=h.mlt (r2 b m' (.inr hc));omega
theorem yD:∀{l:List Value},Ag l=true→∀v∈l,v.oneCell'=true
 | [],_,v,hv=>by simp at hv
 |x::r,h,v,hv=>by
  simp only[Ag,aM]at h;rcases List.mem_cons.1 hv with rfl|hv
  ·exact h.1
  ·exact yD h.2 v hv
def aaF(P:Program)(o:Oper)(a:Act)(w:World)(ρ:Nat→Nat)(s:VS)(sv:SV):Prop:=
 ∃v,rel ρ sv v∧(∀t off,sv=.ptr t off→∃cs,s.boxes[t]? =some (some cs))∧(execOp a.eval o).run P w=.ok (.value v) w
theorem ml{x:Value}:∀t off,SV.val x=.ptr t off→∃cs,s.boxes[t]? =some (some cs):=fun _ _ h=>by simp at h
theorem BA{ty:TypeId}(hd:P.underlying ty=some .bool)(p q:Bool):(Op.equal ty (.bool p) (.bool q)).run P w=.ok (p==q) w:=by
 unfold Op.equal Op.maxDepth;rw[show(10000:Nat)=9999+1 from rfl,Op.equalIn];simp only[cz,cL hd,bB];rfl
theorem wR{t:Ty}{ty:TypeId}(hT:T.Ok P)(hg:T.get ty=some t)(hb:t.isBool=true):P.underlying ty=some .bool:=by
 obtain⟨i,d,hi,hd,_,_,_,_,hb',_⟩:=e_ (hT.ty _ _ hg);rw[hd];rw[hb]at hb';cases d<;>simp at hb'⊢
theorem oL{t:Ty}{ty:TypeId}(hT:T.Ok P)(hg:T.get ty=some t)(hb:t.isStruct=true):∃fs,P.underlying ty=some (.struct fs)∧
  t.fields=fs.toList.map fun f=>(f.offset,(((P.info? f.type).map (·.size)).getD 0,((P.underlying f.type).map E5).getD false)):=by
 obtain⟨i,d,hi,hd,_,_,_,hb',_,_,_,_,_,hf,_⟩:=e_ (hT.ty _ _ hg);rw[hb]at hb';cases d with
 |struct fs=>exact⟨fs,hd,hf.symm⟩
 |_=>simp at hb'
theorem vr{t:Ty}{ty:TypeId}(hT:T.Ok P)(hg:T.get ty=some t){i:Nat}{x:Nat×Nat×Bool}(hf:t.fields[i]? =some x):t.isStruct=true:=by
 obtain⟨_,d,hi,hd,_,_,_,hb',_,_,_,_,_,hf',_⟩:=e_ (hT.ty _ _ hg);rw[←hb'];cases d with
 |struct fs=>rfl
 |_=>simp only at hf';rw[←hf']at hf;simp at hf
theorem yO{t:Ty}{ty:TypeId}{k:IntKind}(hT:T.Ok P)(hg:T.get ty=some t)(hb:t.ikind=some k):P.underlying ty=some (.int k):=by
 obtain⟨i,d,hi,hd,_,_,_,_,_,hb',_,_,_⟩:=e_ (hT.ty _ _ hg);rw[hd];rw[hb]at hb';cases d<;>simp at hb'⊢;exact hb'
theorem yR{t:Ty}{ty:TypeId}(hT:T.Ok P)(hg:T.get ty=some t)(hb:t.kind=2):P.underlying ty=some .string:=by
 obtain⟨i,d,hi,hd,_,_,_,_,_,_,hb',_,_⟩:=e_ (hT.ty _ _ hg);rw[hd];rw[hb]at hb';cases d<;>simp[CN]at hb'⊢
theorem yQ{t:Ty}{ty:TypeId}(hT:T.Ok P)(hg:T.get ty=some t)(hb:t.kind=3):∃e,P.underlying ty=some (.slice e)∧((P.info? e).map (·.size)).getD 0=t.esize∧(((P.info? e).bind (·.zero)).map (·.cells.toList)).getD []=t.ezero:=by
 obtain⟨i,d,hi,hd,_,_,_,_,_,_,hb',he,hz,_⟩:=e_ (hT.ty _ _ hg);rw[hb]at hb';cases d<;>simp[CN]at hb';exact⟨_,hd,he,hz⟩
theorem vV{t:Ty}{ty:TypeId}(hT:T.Ok P)(hg:T.get ty=some t)(hb:t.kind=3):∃e,P.underlying ty=some (.slice e)∧((P.info? e).map (·.size)).getD 0=t.esize:=by
 obtain⟨e,h1,h2,_⟩:=yQ hT hg hb;exact⟨e,h1,h2⟩
theorem mX{t:Ty}{ty:TypeId}(hT:T.Ok P)(hg:T.get ty=some t)(hb:t.kind=3)(hz:t.esize≠0)(hl:t.ezero.length=t.esize):
  ∃ie z,P.underlying ty=some (.slice t.elem)∧P.info? t.elem=some ie∧ie.zero=some z∧ie.size=t.esize∧ie.bytes=t.ebytes∧z.cells.size=t.esize∧z.cells=t.ezero.toArray:=by
 obtain⟨i,d,hi,hd,_,_,_,_,_,_,hb',he,Ml,_,hel,FM,_⟩:=e_ (hT.ty _ _ hg);rw[hb]at hb';cases d<;>simp[CN]at hb';rename_i e;simp only at he Ml hel FM;subst hel;cases hie:P.info? t.elem with
 |none=>simp[hie]at he;exact absurd he.symm hz
 |some ie=>
  simp[hie]at he FM;cases EP:ie.zero with
  |none=>
   simp[hie,EP]at Ml;rw[Ml]at hl;simp at hl;exact absurd hl.symm hz
  |some z=>
   simp[hie,EP]at Ml;refine⟨ie,z,hd,rfl,EP,he,FM,?_,by rw[←Ml]⟩;rw[←hl,←Ml];simp
theorem pz{t:Ty}{ty:TypeId}(hT:T.Ok P)(hg:T.get ty=some t)(hb:t.kind=4):P.underlying ty=some (.array t.alen t.elem)∧((P.info? t.elem).map (·.size)).getD 0=t.esize:=by
 obtain⟨i,d,hi,hd,hz,hsz,hag,hst,hbo,hik,hkd,hes,Ml,hfs,hel,heb,BV⟩:=e_ (hT.ty _ _ hg);rw[hb]at hkd;cases d with
 |array n e=>simp only at hes hel BV;subst hel BV;exact⟨hd,hes⟩
 |_=>simp[CN]at hkd
theorem Hh{n:Int}{m:Nat}(h:Ut n m=true):0≤n∧n<m:=by
 cases n with
 |ofNat k=>unfold Ut at h;have h2:k<m:=l8 h;exact⟨Int.natCast_nonneg k,by show(k:Int)<m;omega⟩
 |negSucc k=>simp[Ut]at h
theorem PK{t:TypeId}{cs:Array Value}{off:Nat}{v:Value}(hT:T.Ok P)(h:QJ T t cs.toList off=some v):(∃y,T.get t=some y∧∃i,P.info? t=some i∧i.size=y.size)∧∀w:World,(part t cs off).run P w=.ok v w:=by
 unfold QJ at h;split at h
 ·rename_i y hy;obtain⟨i,d,hi,hd,hz,hsz,hag,_⟩:=e_ (hT.ty _ _ hy);refine⟨⟨y,hy,i,hi,hsz⟩,fun w=>?_⟩;unfold part;simp only[cz,kV hd,bB,hag];cases Hr:y.agg with
  |true=>
   simp only[Hr,bV]at h;injection h with h;subst h;simp only[e8,cz,iI hi,bB,dS,hsz];congr 2;apply Array.ext';simp[Array.toList_extract,List.extract_eq_take_drop]
  |false=>
   simp only[Hr,cI]at h;rw[eO]at h;simp[h]
 ·simp at h
theorem Ly{ty:TypeId}{x i:Operand}{v:Value}(hT:T.Ok P)(hs:gZ T w0 I0 Γ s a w ρ)(hop:o.op=.index ty x i)(h:yw T s ty x i=some v):(execOp a.eval o).run P w=.ok (.value v) w:=by
 unfold yw at h;split at h
 ·rename_i cs k n y hx hi hy;cases hc:(Nat.beq y.kind 4&&Ut n y.alen)with
  |false=>simp[hc]at h
  |true=>
   simp only[hc,bV]at h;simp only[aM]at hc;obtain⟨hd,hes⟩:=pz hT hy (aI hc.1);have hin:=Hh hc.2;obtain⟨⟨y',hy',i',hi',hsz'⟩,hp⟩:=PK hT h;have Ij:i'.size=y.esize:=by rw[hi']at hes;simpa using hes
   simp[execOp,hop,Instr.index,hs.val hx,hs.val hi,asIntOf,cL hd,hin,iI hi',Ij,hp]
 ·simp at h
theorem OD{ty:TypeId}{x i:Operand}{b off:Nat}{v:SV}(hT:T.Ok P)(hs:gZ T w0 I0 Γ s a w ρ)(hop:o.op=.indexAddr ty x i)(hx:s.ev x=.ptr b off)(h:xC T s ty i b off=some v):∃off',v=.ptr b off'∧(execOp a.eval o).run P w=.ok (.value (.pointer (some ⟨ρ b,off',none⟩))) w:=by
 unfold xC at h;split at h
 ·rename_i k n y hi hy;cases hc:(Nat.beq y.kind 4&&(Ut n y.alen&& !Nat.beq y.esize 0))with
  |false=>simp[hc]at h
  |true=>
   simp only[hc,bV]at h;injection h with h;subst h;simp only[aM]at hc;obtain⟨hd,hes⟩:=pz hT hy (aI hc.1);have hin:=Hh hc.2.1;have hne:y.esize≠0:=by
    intro e;rw[e]at hc;simp at hc
   cases hie:P.info? y.elem with
   |none=>simp[hie]at hes;exact absurd hes.symm hne
   |some ie=>
    have Ij:ie.size=y.esize:=by rw[hie]at hes;simpa using hes
    refine⟨_,rfl,?_⟩;simp[execOp,hop,Instr.indexAt,Instr.sureAddr,hs.evptr hx,hs.val hi,asIntOf,cL hd,hin,iI hie,Ij,gP]
 ·simp at h
theorem QC{op:BinOp}{ty:TypeId}{x y:Operand}{yt:TypeId}{u v r:Value}(hT:T.Ok P)(hop:o.op=.binOp op ty x y yt)(hu:a.eval x=u)(hv:a.eval y=v)(h:Xl T op ty u v=some r):
  (execOp a.eval o).run P w=.ok (.value r) w:=by
 have key:((eqGuard op ty x y u v).bind fun _=>binOp op ty u v:Sem Value).run P w=.ok r w:=by
  unfold Xl at h;split at h
  ·rename_i k p k' q;split at h
   ·rename_i hk;subst hk;have hg:(eqGuard op ty x y (.int k p) (.int k q)).run P w=.ok () w:=by
     unfold eqGuard;cases op<;>simp
    rw[Sem.run_bind',hg];cases op<;>simp only at h<;>(try (simp at h;done))<;>(injection h with h;subst h;simp[binOp,Op.intArith,Op.intCmp,intBits_and,intBits_or,intBits_xor])
   ·simp at h
  ·rename_i p q;have hg:(eqGuard op ty x y (.string p) (.string q)).run P w=.ok () w:=by
    unfold eqGuard;cases op<;>simp
   rw[Sem.run_bind',hg];cases op<;>simp only at h<;>(try (simp at h;done))<;>(injection h with h;subst h;simp[binOp,Op.stringOp])
  ·rename_i p q;have hg:(eqGuard op ty x y (.bool p) (.bool q)).run P w=.ok () w:=by
    unfold eqGuard;cases op<;>simp
   rw[Sem.run_bind',hg];split at h
   ·rename_i t ht;cases hbb:t.isBool with
    |false=>simp[hbb]at h
    |true=>
     simp only[hbb,bV]at h;injection h with h;subst h;have:=BA (w:=w) (wR hT ht hbb) p q;show(do pure (.bool (←Op.equal ty (.bool p) (.bool q))):Sem Value).run P w=_;simp only[cz,this,bB,dS]
   ·rename_i t ht;cases hbb:t.isBool with
    |false=>simp[hbb]at h
    |true=>
     simp only[hbb,bV]at h;injection h with h;subst h;have:=BA (w:=w) (wR hT ht hbb) p q;show(do pure (.bool (!(←Op.equal ty (.bool p) (.bool q)))):Sem Value).run P w=_;simp only[cz,this,bB,dS]
   ·simp at h
  ·simp at h
 simp only[execOp,hop,hu,hv];show(Sem.bind (Sem.bind _ _) _).run P w=_;rw[Sem.run_bind',key];rfl
theorem Ge{t:TypeId}{x:Operand}{b off:Nat}{y:Ty}{cs:List Value}(hT:T.Ok P)(hs:gZ T w0 I0 Γ s a w ρ)(hop:o.op=.load t x)(hx:s.ev x=.ptr b off)(hy:T.get t=some y)(hcs:s.boxes.getD b none=some cs):
  (y.agg=true→off+y.size≤cs.length→(execOp a.eval o).run P w=.ok (.value (.agg ((cs.drop off).take y.size).toArray)) w)∧
  (y.agg=false→∀v,cs[off]? =some v→(execOp a.eval o).run P w=.ok (.value v) w):=by
 obtain⟨i,d,hi,hd,hz,hsz,hag,_⟩:=e_ (hT.ty _ _ hy);have RK:s.boxes[b]? =some (some cs):=by
  simp only[List.getD]at hcs;cases hb:s.boxes[b]? with
  |none=>simp[hb]at hcs
  |some q=>simp[hb]at hcs;rw[hcs]
 obtain⟨_,e',_,hblk⟩:=hs.box b cs RK;refine⟨fun Hr hle=>?_,fun Hr v hv=>?_⟩
 ·have hlen:((cs.drop off).take y.size).length=y.size:=by simp;omega
  have hl:=run_loadCells_list (P:=P) w ⟨ρ b,off,none⟩ ((cs.drop off).take y.size) (fun j v hj=>by
   rw[gP,nH hblk];rw[dF]at hj;split at hj
   ·rw[List.getElem?_drop]at hj;exact hj
   ·simp at hj)
  rw[hlen]at hl;simp only[execOp,hop,Instr.loadAt,Instr.sureAddr,hs.evptr hx,loadVar,cz,Sem.run_map,dS,Sem.run_ite,bB,kV hd,hag,Hr,e8,iI hi,hsz,hl]
 ·have hc:w.cell? ⟨ρ b,off,none⟩=some v:=by rw[nH hblk];exact hv
  simp[execOp,hop,Instr.loadAt,Instr.sureAddr,hs.evptr hx,loadVar,kV hd,hag,Hr,hc]
theorem BR{ty:TypeId}{x:Operand}{f b off ofs sz:Nat}{ag:Bool}{y:Ty}(hT:T.Ok P)(hs:gZ T w0 I0 Γ s a w ρ)(hop:o.op=.fieldAddr ty x f)(hx:s.ev x=.ptr b off)(hy:T.get ty=some y)(hf:y.fields[f]? =some (ofs,sz,ag))(hsz:sz≠0):
  (execOp a.eval o).run P w=.ok (.value (.pointer (some ⟨ρ b,off+ofs,none⟩))) w:=by
 obtain⟨fs,hd,hfs⟩:=oL hT hy (vr hT hy hf);rw[hfs,bK]at hf;cases hff:fs.toList[f]? with
 |none=>rw[hff]at hf;simp at hf
 |some fl=>
  rw[hff]at hf;simp only[c_,ar,aH]at hf;obtain⟨hf1,hf2,hf3⟩:=hf;have hff':fs[f]? =some fl:=by rw[←eO];exact hff
  cases hfi:P.info? fl.type with
  |none=>simp[hfi]at hf2;exact absurd hf2.symm hsz
  |some fi=>
   simp[hfi]at hf2;have hne:¬fi.size=0:=by rw[hf2];exact hsz
   simp[execOp,hop,Instr.fieldAt,cL hd,hff',Instr.sureAddr,hs.evptr hx,fieldPlace,iI hfi,hne,gP,hf1]
theorem vP{p q:Nat→Option (Nat×Nat)}:∀{l:List (Nat×Value)} {cs r:Array Value},(∀i x,p i=some x→q i=some x)→Instr.fill p cs l=some r→Instr.fill q cs l=some r
 | [],_,_,_,h=>h
 |(i,v)::l,cs,r,hpq,h=>by
  unfold Instr.fill at h⊢;cases hp:p i with
  |none=>simp[hp]at h
  |some x=>
   obtain⟨o,n⟩:=x;rw[hp]at h;rw[hpq i _ hp];simp only at h⊢;split at h
   ·simp at h
   ·rename_i hc;rw[if_neg hc];exact vP hpq h
theorem K8{ty:TypeId}{ps:Array (Nat×Operand)}{vs:List (Nat×Value)}{y:Ty}{cs:Array Value}(hT:T.Ok P)(hs:gZ T w0 I0 Γ s a w ρ)(hop:o.op=.build ty ps)(hvs:s.parts ps.toList=some vs)(hy:T.get ty=some y)
  (hall:xA y=true)(hcs:Instr.fill (EN y) y.zero.cells vs=some cs):
  (execOp a.eval o).run P w=.ok (.value (.agg cs)) w:=by
 have hb:P.built ty vs=some cs:=by
  obtain⟨i,d,hi,hd',hz,hsz,_⟩:=e_ (hT.ty _ _ hy);cases hst:y.isStruct with
  |true=>
   unfold xA at hall;simp only[hst,bV]at hall;obtain⟨fs,hd,hfs⟩:=oL hT hy hst;have wQ:fs.toList.mapM (fun f=>(P.info? f.type).map fun i=>(f.offset,i.size))=some (y.fields.map fun f=>(f.1,f.2.1)):=by
    rw[hfs]at hall⊢;generalize fs.toList=l at hall⊢
    induction l with
    |nil=>rfl
    |cons f l ih=>
     simp only[bY,List.all_cons,aM]at hall;have ih':=ih hall.2;cases hfi:P.info? f.type with
     |none=>simp[hfi]at hall
     |some fi=>
      simp only[List.mapM_cons,hfi,c_,Option.bind_eq_bind,k7,ih',Option.pure_def,bY,jD]
   unfold Program.built;rw[hi,hd];simp only[hz,wQ];refine vP (fun i x hx=>?_) hcs;unfold EN at hx;simp only[hst,bV]at hx;rw[List.getElem?_toArray,bK];exact hx
  |false=>
   unfold xA at hall;simp only[hst,cI,aM]at hall;obtain⟨hd,hes⟩:=pz hT hy (aI hall.1);have hne:y.esize≠0:=by
    intro e;rw[e]at hall;simp at hall
   cases hie:P.info? y.elem with
   |none=>simp[hie]at hes;exact absurd hes.symm hne
   |some ie=>
    have Ij:ie.size=y.esize:=by rw[hie]at hes;simpa using hes
    unfold Program.built;rw[hi,hd];simp only[hz,hie];refine vP (fun i x hx=>?_) hcs;unfold EN at hx;simp only[hst,cI]at hx;rw[Ij];exact hx
 have abP:(ps.map fun(i,x)=>(i,a.eval x))=vs.toArray:=by
  have:=hs.partsEq hvs;rw[←this];apply Array.ext';simp
 have hrun:=run_build (P:=P) w ty vs.toArray cs (by simpa using hb);simp only[execOp,hop];rw[abP,cz,hrun];rfl
theorem Nk{src dst:TypeId}{x:Operand}{u r:Value}(hT:T.Ok P)(hop:o.op=.convert src dst x)(hu:a.eval x=u)(ab2:(T.get src).isSome=true)(h:QD T dst u=some r):(execOp a.eval o).run P w=.ok (.value r) w:=by
 unfold QD at h;split at h
 ·rename_i y k n hy;split at h
  ·rename_i kd hk;injection h with h;subst h;have hd:=yO hT hy hk;cases hsr:T.get src with
   |none=>simp[hsr]at ab2
   |some ys=>
    obtain⟨i,d,hi,YO,_⟩:=e_ (hT.ty _ _ hsr);simp only[execOp,hop,hu,convert,cz,cL YO,cL hd,bB];rfl
  ·simp at h
 ·simp at h
theorem Nj{c:Bool}{b:Nat}{x:List Value}{sv:SV}(h:(bif c then VR.upd b x else .stuck)=.val sv):False:=by cases c<;>simp at h
theorem KL{sv:SV}(hT:T.Ok P)(hs:gZ T w0 I0 Γ s a w ρ)(h:gh T o s=.val sv):aaF P o a w ρ s sv:=by
 unfold gh at h;split at h
 case h_1 x hop=>
  injection h with h;subst h;exact⟨a.eval x,hs.ev x,fun t off e=>fN hs.wf e,by simp[execOp,hop]⟩
 case h_2 x hop=>
  injection h with h;subst h;exact⟨a.eval x,hs.ev x,fun t off e=>fN hs.wf e,by simp[execOp,hop]⟩
 case h_3 c x y hop=>
  split at h
  ·rename_i b hc;injection h with h;subst h;refine⟨bif b then a.eval x else a.eval y,?_,?_,?_⟩
   ·cases b
    ·exact hs.ev y
    ·exact hs.ev x
   ·intro t off e;cases b
    ·exact fN hs.wf e
    ·exact fN hs.wf e
   ·cases b<;>simp[execOp,hop,hs.val hc,asBool]
  ·simp at h
 case h_4 e hop=>
  split at h
  ·cases hd:T.dat e<;>simp[hd]at h
  ·simp at h
 case h_5 e x hop=>
  split at h
  ·cases hd:T.dat e<;>simp[hd]at h
  ·simp at h
 case h_6 t x hop=>
  split at h
  ·rename_i b off hx;split at h
   ·rename_i y cs hy hcs;obtain⟨h1,h2⟩:=Ge hT hs hop hx hy hcs;cases Hr:y.agg with
    |true=>
     simp only[Hr,bV]at h;cases hle:Nat.ble (off+y.size) cs.length with
     |false=>simp[hle]at h
     |true=>
      simp only[hle,bV]at h;injection h with h;subst h;exact⟨_,rfl,ml,h1 Hr (l8 hle)⟩
    |false=>
     simp only[Hr,cI]at h;split at h
     ·rename_i v hv;injection h with h;subst h;exact⟨_,rfl,ml,h2 Hr v hv⟩
     ·simp at h
   ·simp at h
  ·simp at h
  ·simp at h
 case h_7 t x v hop=>
  split at h
  ·split at h
   ·exact(Nj h).elim
   ·simp at h
  ·simp at h
  ·simp at h
 case h_8 ty x f hop=>
  split at h
  ·rename_i b off hx;split at h
   ·rename_i y hy;split at h
    ·rename_i ofs sz ag hf;cases hsz0:Nat.beq sz 0 with
     |true=>simp only[hsz0,bV]at h;simp at h
     |false=>
      simp only[hsz0,cI]at h;injection h with h;subst h;refine⟨_,rfl,fun t off' e=>by injection e with e1 _;subst e1;exact fN hs.wf hx,BR hT hs hop hx hy hf ?_⟩;rintro rfl;simp at hsz0
    ·simp at h
   ·simp at h
  ·simp at h
  ·simp at h
 case h_9 x i hop=>
  split at h
  ·rename_i vs hx;split at h
   ·rename_i v hv;injection h with h;subst h;exact⟨_,rfl,ml,by simp[execOp,hop,hs.val hx,Instr.extract,hv]⟩
   ·simp at h
  ·simp at h
 case h_10 ty ps hop=>
  split at h
  ·rename_i vs y hvs hy;cases hst:xA y with
   |false=>simp only[hst,cI]at h;simp at h
   |true=>
    simp only[hst,bV]at h;split at h
    ·rename_i cs hcs;injection h with h;subst h;exact⟨_,rfl,ml,K8 hT hs hop hvs hy hst hcs⟩
    ·simp at h
  ·simp at h
 case h_11 op ty x y yt hop=>
  split at h
  ·rename_i u v hu hv;split at h
   ·rename_i r hr;injection h with h;subst h;exact⟨_,rfl,ml,QC hT hop (hs.val hu) (hs.val hv) hr⟩
   ·simp at h
  ·simp at h
 case h_12 op ty x hop=>
  split at h
  ·rename_i u hu;split at h
   ·rename_i r hr;injection h with h;subst h;refine⟨_,rfl,ml,?_⟩;cases op<;>cases u<;>simp[vun]at hr<;>subst hr<;>simp[execOp,hop,hs.val hu,Op.unary,Op.intArith]
   ·simp at h
  ·simp at h
 case h_13 src dst x hop=>
  split at h
  ·rename_i u hu;split at h
   ·rename_i r q hr hq;injection h with h;subst h;exact⟨_,rfl,ml,Nk hT hop (hs.val hu) (by rw[hq];rfl) hr⟩
   ·simp only[aO]at h;split at h<;>simp at h
   ·simp at h
  ·simp at h
 case h_16 ty x i hop=>
  split at h
  ·rename_i v hv;injection h with h;subst h;exact⟨_,rfl,ml,Ly hT hs hop hv⟩
  ·cases hk:s.known o.op.operands.toList<;>simp only[hk,bV,cI]at h<;>simp at h
 case h_17 ty x i hop=>
  split at h
  ·rename_i b off hx;split at h
   ·rename_i v hv;injection h with h;subst h;obtain⟨off',rfl,hr⟩:=OD hT hs hop hx hv;exact⟨_,rfl,fun t pD e=>by injection e with e1 _;subst e1;exact fN hs.wf hx,hr⟩
   ·simp at h
  ·cases hk:s.known o.op.operands.toList<;>simp only[hk,bV,cI]at h<;>simp at h
 case h_27 x hop=>
  split at h
  ·rename_i b off hx;injection h with h;subst h;refine⟨_,rfl,fun t o e=>by injection e with e1 _;subst e1;exact fN hs.wf hx,?_⟩;simp[execOp,hop,hs.evptr hx]
  ·rename_i a hx;injection h with h;subst h;exact⟨_,rfl,ml,by simp[execOp,hop,hs.val hx]⟩
  ·simp at h
 case h_28=>simp at h
 case h_21 fn u v hop=>
  split at h
  ·rename_i f u' v' hu hv;injection h with h;subst h;refine⟨_,rfl,ml,?_⟩;have e1:u.map a.eval=u'.toArray:=by
    rw[←hs.vals hu];apply Array.ext';simp
   have e2:v.map a.eval=v'.toArray:=by
    rw[←hs.vals hv];apply Array.ext';simp
   simp[execOp,hop,Instr.makeFunc,e1,e2]
  ·simp at h
 case h_20 c hop=>
  split at h
  ·split at h<;>simp at h
  ·split at h
   ·split at h<;>simp at h
   ·simp at h
  ·cases hk:s.known o.op.operands.toList<;>simp only[hk,bV,cI]at h<;>simp at h
  ·cases hk:s.known o.op.operands.toList<;>simp only[hk,bV,cI]at h<;>simp at h
  ·cases hk:s.known o.op.operands.toList<;>simp only[hk,bV,cI]at h<;>simp at h
  ·cases hk:s.known o.op.operands.toList<;>simp only[hk,bV,cI]at h<;>simp at h
  ·rename_i hc;split at h
   ·rename_i y x hy hx;obtain⟨at0,JH,hy⟩:∃t,c.argTypes[0]? =some t∧T.get t=some y:=by
     cases ha:c.argTypes[0]? with
     |none=>rw[ha]at hy;simp at hy
     |some t=>rw[ha]at hy;exact⟨t,rfl,hy⟩
    have hargs:∀v,a.eval x=v→(c.args.map a.eval)[0]? =some v:=by
     intro v hv;rw[Array.getElem?_map,hx];simp[hv]
    split at h
    ·rename_i b hb;cases hk:Nat.beq y.kind 2 with
     |false=>simp[hk]at h
     |true=>
      simp only[hk,bV]at h;injection h with h;subst h;refine⟨_,rfl,ml,?_⟩;have hd:=yR hT hy (aI hk);simp[execOp,hop,resolve,hc,invoke,builtin,Builtin.len_,JH,hargs _ (hs.val hb),cL hd,goInt]
    ·rename_i ao n cc hb;cases hk:Nat.beq y.kind 3 with
     |false=>simp[hk]at h
     |true=>
      simp only[hk,bV]at h;injection h with h;subst h;refine⟨_,rfl,ml,?_⟩;obtain⟨e,hd,_⟩:=vV hT hy (aI hk);simp[execOp,hop,resolve,hc,invoke,builtin,Builtin.len_,JH,hargs _ (hs.val hb),cL hd,goInt]
    ·simp at h
   ·simp at h
  ·simp at h
 all_goals (first|(cases hk:s.known o.op.operands.toList<;>simp only[hk,bV,cI]at h<;>simp at h;done)|skip)
theorem SZ{cs:List Value}(hT:T.Ok P)(hs:gZ T w0 I0 Γ s a w ρ)(h:gh T o s=.new cs):
  ∃e,T.dat e=false∧(execOp a.eval o).run P w=.ok (.value (.pointer (some ⟨w.heap.size,0,none⟩))) (w.alloc (.cells cs.toArray e)):=by
 unfold gh at h;split at h
 case h_4 e hop=>
  split at h
  ·rename_i y hy;cases hd:T.dat e with
   |true=>simp[hd]at h
   |false=>
    simp only[hd,cI]at h;injection h with h;subst h;obtain⟨i,d,hi,hd',hz,hsz,_⟩:=e_ (hT.ty _ _ hy);refine⟨e,hd,?_⟩;simp only[execOp,hop,Instr.alloc,newVar,newRow,cz,dS,G_ hi hz,bB,run_newObj,World.alloc_eq]
  ·simp at h
 case h_5 e x hop=>
  split at h
  ·rename_i v hv;cases hd:T.dat e with
   |true=>simp[hd]at h
   |false=>
    simp only[hd,cI]at h;injection h with h;subst h;refine⟨e,hd,?_⟩;simp only[execOp,hop,hs.val hv,Instr.box,newVar,newRow,cz,dS,bB,run_newObj,World.alloc_eq]
  ·simp at h
 all_goals
  exfalso
  (try simp only[aO]at h)
  (repeat' (first|(simp at h;done)|split at h))
theorem S4{b:Nat}{cs:List Value}(hT:T.Ok P)(hs:gZ T w0 I0 Γ s a w ρ)(h:gh T o s=.upd b cs):
  ∃uG,s.boxes[b]? =some (some uG)∧(execOp a.eval o).run P w=.ok .skip (w.setRow (ρ b) cs.toArray):=by
 unfold gh at h;split at h
 case h_7 t x v hop=>
  split at h
  ·rename_i b' off u hx hv;split at h
   ·rename_i y uG hy hcs;cases hc:(Nat.beq u.cells.size y.size&&(Nat.ble (off+y.size) uG.length&&Ag u.cells.toList))with
    |false=>simp only[hc,cI]at h;simp at h
    |true=>
     simp only[hc,bV]at h;injection h with h1 h2;subst h1 h2;simp only[aM]at hc;obtain⟨c1,c2,c3⟩:=hc;have c1':=aI c1;have c2':=l8 c2;have RK:s.boxes[b']? =some (some uG):=by
      simp only[List.getD]at hcs;cases hb:s.boxes[b']? with
      |none=>simp[hb]at hcs
      |some q=>simp[hb]at hcs;rw[hcs]
     obtain⟨_,e',_,hblk⟩:=hs.box b' uG RK;obtain⟨i,d,hi,hd',hz,hsz,_⟩:=e_ (hT.ty _ _ hy);refine⟨uG,RK,?_⟩;have hlen:u.cells.toList.length=y.size:=by simpa using c1'
     have hst:=run_storeCells_at (P:=P) (ρ b') off e' u.cells.toList 0 uG.toArray w hblk (by simp only[qC];omega) (fun v hv=>yD c3 v hv);rw[hlen]at hst;have hne:¬u.cells.size≠i.size:=by simp[c1',hsz]
     simp only[execOp,hop,Instr.storeAt,Instr.sureAddr,hs.evptr hx,hs.val hv,storeVar,cz,dS,bB,iI hi,if_neg hne,hst,ff]
   ·simp at h
  ·simp at h
  ·simp at h
 all_goals
  exfalso
  (try simp only[aO]at h)
  (repeat' (first|(simp at h;done)|split at h))
theorem Hi{f:FuncId}{args:List Value}(hs:gZ T w0 I0 Γ s a w ρ)(h:gh T o s=.call f args)(hf:Dv P f):
  (execOp a.eval o).run P w=.ok (.enter f args.toArray) w:=by
 unfold gh at h;split at h
 case h_20 c hop=>
  split at h
  ·rename_i f' hc;split at h
   ·rename_i vs hvs;injection h with h1 h2;subst h1 h2;obtain⟨fn,hfn,hnm,hbd⟩:=hf;have hargs:c.args.map a.eval=vs.toArray:=by
     rw[←hs.vals hvs];apply Array.ext';simp
    have VH:¬fn.name= "runtime.NumGoroutine" :=by simpa using hnm
    have Vv:¬fn.body=none:=by
     intro e;rw[e]at hbd;simp at hbd
    simp[execOp,hop,resolve,hc,Act.eval,Deferred.ofValue,invoke,callFunc,hfn,VH,Vv,hargs]
   ·simp at h
  ·rename_i x hc;split at h
   ·rename_i f' u v hx;split at h
    ·rename_i vs hvs;replace hvs:=(wk hvs).1;injection h with h1 h2;subst h1 h2;obtain⟨fn,hfn,hnm,hbd⟩:=hf;have hargs:c.args.map a.eval=vs.toArray:=by
      rw[←hs.vals hvs];apply Array.ext';simp
     have VH:¬fn.name= "runtime.NumGoroutine" :=by simpa using hnm
     have Vv:¬fn.body=none:=by
      intro e;rw[e]at hbd;simp at hbd
     have hxv:=hs.val hx;simp[execOp,hop,resolve,hc,hxv,Deferred.ofValue,invoke,callFunc,hfn,VH,Vv,hargs]
    ·simp at h
   ·simp at h
  all_goals
   exfalso
   (try simp only[aO]at h)
   (repeat' (first|(simp at h;done)|split at h))
 all_goals
  exfalso
  (try simp only[aO]at h)
  (repeat' (first|(simp at h;done)|split at h))
theorem S2(hs:gZ T w0 I0 Γ s a w ρ)(h:gh T o s=.own):execOp a.eval o=execOp s.rho o:=by
 have key:(∀cs b,o.op≠.select cs b)∧∀x∈o.op.operands,a.eval x=s.rho x:=by
  unfold gh at h;split at h
  case h_7 t x v hop=>
   split at h
   ·exfalso
    (try simp only[aO]at h)
    (repeat' (first|(simp at h;done)|split at h))
   ·rename_i u v' hu hv;refine⟨by simp[hop],?_⟩;simp only[hop,Op.operands];intro z hz;simp only[iy,aF,aE,bL]at hz;rcases hz with rfl|rfl
    ·rw[hs.val hu];simp[VS.rho,hu,SV.val?]
    ·rw[hs.val hv];simp[VS.rho,hv,SV.val?]
   ·simp at h
  case h_19 hop=>
   cases hk:s.known o.op.operands.toList with
   |false=>simp[hk]at h
   |true=>exact⟨by simp[hop],fun x hx=>hs.known hk x (by simpa using hx)⟩
  case h_20 c hop=>
   split at h
   ·split at h<;>simp at h
   ·split at h
    ·split at h<;>simp at h
    ·simp at h
   ·cases hk:s.known o.op.operands.toList with
    |false=>simp[hk]at h
    |true=>exact⟨by simp[hop],fun x hx=>hs.known hk x (by simpa using hx)⟩
   ·cases hk:s.known o.op.operands.toList with
    |false=>simp[hk]at h
    |true=>exact⟨by simp[hop],fun x hx=>hs.known hk x (by simpa using hx)⟩
   ·cases hk:s.known o.op.operands.toList<;>simp[hk]at h
   ·cases hk:s.known o.op.operands.toList<;>simp[hk]at h
   ·exfalso
    (try simp only[aO]at h)
    (repeat' (first|(simp at h;done)|split at h))
   ·simp at h
  case h_23 hop=>
   cases hk:s.known o.op.operands.toList with
   |false=>simp[hk]at h
   |true=>exact⟨by simp[hop],fun x hx=>hs.known hk x (by simpa using hx)⟩
  case h_24 hop=>
   cases hk:s.known o.op.operands.toList with
   |false=>simp[hk]at h
   |true=>exact⟨by simp[hop],fun x hx=>hs.known hk x (by simpa using hx)⟩
  case h_25 hop=>
   cases hk:s.known o.op.operands.toList with
   |false=>simp[hk]at h
   |true=>exact⟨by simp[hop],fun x hx=>hs.known hk x (by simpa using hx)⟩
  all_goals
   exfalso
   (try simp only[aO]at h)
   (repeat' (first|(simp at h;done)|split at h))
 exact iU o key.1 key.2
theorem cC{x:Operand}{v:Value}(h:s.ev x=.val v):s.rho x=v:=by simp[VS.rho,h,SV.val?]
theorem SY(hs:gZ T w0 I0 Γ s a w ρ)(h:gh T o s=.ask):execOp a.eval o=execOp s.rho o:=by
 unfold gh at h;split at h
 case h_15 hop=>
  cases hk:s.known o.op.operands.toList with
  |false=>simp[hk]at h
  |true=>exact iU o (by simp[hop]) (fun x hx=>hs.known hk x (by simpa using hx))
 case h_13 src dst x hop=>
  split at h
  ·rename_i u hu;refine iU o (by simp[hop]) (fun z hz=>?_);simp only[hop,Op.operands,iy,aF,aE,bL]at hz;subst hz;rw[hs.val hu,cC hu]
  ·simp at h
 all_goals
  exfalso
  (try simp only[aO]at h)
  (repeat' (first|(simp at h;done)|split at h))
theorem QI(hs:gZ T w0 I0 Γ s a w ρ)(h:gh T o s=.read):execOp a.eval o=execOp s.rho o:=by
 have key:(∀cs b,o.op≠.select cs b)∧∀x∈o.op.operands,a.eval x=s.rho x:=by
  unfold gh at h;split at h
  case h_6 t x hop=>
   split at h
   ·exfalso
    (try simp only[aO]at h)
    (repeat' (first|(simp at h;done)|split at h))
   ·rename_i v hv;refine⟨by simp[hop],?_⟩;simp only[hop,Op.operands];intro y hy;simp only[iy,aF,aE,bL]at hy;subst hy;rw[hs.val hv,cC hv]
   ·simp at h
  case h_8 ty x f hop=>
   split at h
   ·exfalso
    (try simp only[aO]at h)
    (repeat' (first|(simp at h;done)|split at h))
   ·rename_i v hv;refine⟨by simp[hop],?_⟩;simp only[hop,Op.operands];intro y hy;simp only[iy,aF,aE,bL]at hy;subst hy;rw[hs.val hv,cC hv]
   ·simp at h
  case h_11 op ty x y yt hop=>
   split at h
   ·rename_i u v hu hv;refine⟨by simp[hop],?_⟩;simp only[hop,Op.operands];intro z hz;simp only[iy,aF,aE,bL]at hz;rcases hz with rfl|rfl
    ·rw[hs.val hu,cC hu]
    ·rw[hs.val hv,cC hv]
   ·simp at h
  case h_12 op ty x hop=>
   split at h
   ·rename_i u hu;refine⟨by simp[hop],?_⟩;simp only[hop,Op.operands];intro z hz;simp only[iy,aF,aE,bL]at hz;subst hz;rw[hs.val hu,cC hu]
   ·simp at h
  case h_13 src dst x hop=>
   split at h
   ·rename_i u hu;refine⟨by simp[hop],?_⟩;simp only[hop,Op.operands];intro z hz;simp only[iy,aF,aE,bL]at hz;subst hz;rw[hs.val hu,cC hu]
   ·simp at h
  case h_20 c hop=>
   split at h
   ·exfalso
    (repeat' (first|(simp at h;done)|split at h))
   ·exfalso
    (repeat' (first|(simp at h;done)|split at h))
   ·cases hk:s.known o.op.operands.toList<;>simp[hk]at h
   ·cases hk:s.known o.op.operands.toList<;>simp[hk]at h
   ·cases hk:s.known o.op.operands.toList with
    |false=>simp[hk]at h
    |true=>exact⟨by simp[hop],fun x hx=>hs.known hk x (by simpa using hx)⟩
   ·cases hk:s.known o.op.operands.toList with
    |false=>simp[hk]at h
    |true=>exact⟨by simp[hop],fun x hx=>hs.known hk x (by simpa using hx)⟩
   ·exfalso
    (try simp only[aO]at h)
    (repeat' (first|(simp at h;done)|split at h))
   ·simp at h
  case h_14 hop=>
   cases hk:s.known o.op.operands.toList with
   |false=>simp[hk]at h
   |true=>exact⟨by simp[hop],fun x hx=>hs.known hk x (by simpa using hx)⟩
  case h_16 hop=>
   split at h
   ·simp at h
   ·cases hk:s.known o.op.operands.toList with
    |false=>simp[hk]at h
    |true=>exact⟨by simp[hop],fun x hx=>hs.known hk x (by simpa using hx)⟩
  case h_17 hop=>
   split at h
   ·split at h<;>simp at h
   ·cases hk:s.known o.op.operands.toList with
    |false=>simp[hk]at h
    |true=>exact⟨by simp[hop],fun x hx=>hs.known hk x (by simpa using hx)⟩
  case h_18 hop=>
   cases hk:s.known o.op.operands.toList with
   |false=>simp[hk]at h
   |true=>exact⟨by simp[hop],fun x hx=>hs.known hk x (by simpa using hx)⟩
  case h_22 hop=>
   cases hk:s.known o.op.operands.toList with
   |false=>simp[hk]at h
   |true=>exact⟨by simp[hop],fun x hx=>hs.known hk x (by simpa using hx)⟩
  case h_26 hop=>
   cases hk:s.known o.op.operands.toList with
   |false=>simp[hk]at h
   |true=>exact⟨by simp[hop],fun x hx=>hs.known hk x (by simpa using hx)⟩
  all_goals
   exfalso
   (try simp only[aO]at h)
   (repeat' (first|(simp at h;done)|split at h))
 exact iU o key.1 key.2
theorem vC{ops:Array Oper}{g:Bool}(hs:gZ T w0 I0 Γ s a w ρ)(h:gA ops o s=some g):Region.wanted o (yielded ops a.tmps)=g:=by
 unfold gA at h;unfold Region.wanted;split at h
 ·rename_i hg;rw[hg];cases h;rfl
 ·rename_i j want hg;rw[hg];simp only[yielded];split at h
  ·rename_i hd;rw[hd];cases h;rfl
  ·rename_i t hd;rw[hd];simp only[k7];have JH:∀sv,s.tmps[t]? =some sv→∃v,a.tmps[t]? =some v∧rel ρ sv v:=by
    intro sv hsv;have hlt:t<a.tmps.size:=by
     rw[hs.len];exact(List.getElem?_eq_some_iff.1 hsv).1
    have:=hs.tmps t sv hsv;exact⟨a.tmps[t],by simp[hlt],by simpa [hlt]using this⟩
   split at h
   ·rename_i hn;have:a.tmps[t]? =none:=by
     apply Array.getElem?_eq_none;rw[hs.len];exact List.getElem?_eq_none_iff.1 hn
    rw[this];cases h;rfl
   ·rename_i b hb;obtain⟨v,hv,hr⟩:=JH _ hb;rw[hv];have:v=.bool b:=hr;subst this;cases h;cases b<;>cases want<;>rfl
   ·rename_i u hnb hu;obtain⟨v,hv,hr⟩:=JH _ hu;rw[hv];have:v=u:=hr;subst this;cases h;cases v<;>first|rfl|exact absurd rfl (hnb _)
   ·simp at h
theorem oX{ops:Array Oper}{Q:Exit→Act→World→Prop}{i:Nat}{K:VS→List aD→Prop}{K':Act→World→Prop}(hT:T.Ok P)(hi:ops[i]? =some o)(h:pQ T P ops o K s Γ)(hs:gZ T w0 I0 Γ s a w ρ)
  (hK:∀s Γ a w ρ,gZ T w0 I0 Γ s a w ρ→K s Γ→K' a w)(vv:∀ch a w,T.pan ch→a.defers=I0.ds→j9 I0.x w0 w→(∃ks own,T.held ks own∧gn T own w∧∀x∈ks,a.tmps.getD x.1 undef=x.2)→Q (.panic ch) a w):wpOp P ops Q i K' a w:=by
 unfold wpOp;rw[hi];simp only;unfold pQ at h;split at h
 ·rename_i hg;rw[vC hs hg,if_pos rfl];left;unfold Oper.wp;unfold sF at h;split at h
  ·rename_i sv hv;obtain⟨v,hr,hp,hrun⟩:=KL hT hs hv;rw[hrun];exact hK _ _ _ _ _ (hs.put hr hp) h
  ·rename_i cs hv;obtain⟨e,he,hrun⟩:=SZ hT hs hv;rw[hrun];split at h
   ·rename_i d hd;rw[Oper.upon_value,hd];exact hK _ _ _ _ _ (hs.new he h.1) h.2
   ·exact h.elim
  ·rename_i b cs hv;obtain⟨uG,hb,hrun⟩:=S4 hT hs hv;rw[hrun];exact hK _ _ _ _ _ ((hs.upd hb).put (sv:=.val undef) rfl ml) h
  ·rename_i hv;obtain⟨v,Zl,hk⟩:=h;rw[QI hs hv,Zl.mem _ _ hs.dataOK hs.facts hs.own];exact hK _ _ _ _ _ (hs.put (sv:=.val v) rfl ml) hk
  ·rename_i hv;obtain⟨post,hp,hk⟩:=h;obtain⟨v,Δ,w',hrun,hpv,hb,hd⟩:=hp _ _ hs.dataOK hs.facts;rw[SY hs hv,hrun];exact hK _ _ _ _ _ ((hs.back hb hd).put (sv:=.val v) rfl ml) (hk v Δ hpv)
  ·rename_i hv;obtain⟨post,hp,hk⟩:=h;obtain⟨v,O,M,Δ,w',r,hrun,hr,hpv,pj,ho,hn,AE,hm,hmn,D4,hd⟩:=hp _ _ hs.dataOK hs.facts hs.own hs.nod hs.mapAt hs.mnod (fun b hx hI=>by
    rcases hx with⟨cs,hx⟩|⟨m,hx⟩
    ·exact hI.2.2.1 cs hx
    ·exact hI.2.2.2 m hx)
   have hs1:=hs.ownedX (O1:=[]) (Oin:=s.own) (O2:=[]) (O:=O) (M1:=[]) (Min:=s.maps) (M2:=[]) (M:=M) (by simp) (by simp) pj ho hn AE hm hmn D4 hd;simp only[az,ah]at hs1;have hs':=hs1.put (d:=o.dst) (sv:=.val v) rfl ml;rw[S2 hs hv,hrun];rcases hr with rfl|⟨rfl,rfl⟩
   ·exact hK _ _ _ _ _ hs' (hk v O M Δ hpv)
   ·exact hK _ _ _ _ _ hs' (hk undef O M Δ hpv)
  ·rename_i f args hv;rcases h with⟨post,⟨hf,hc⟩,hk⟩|⟨_,O1,Oin,O2,M1,Min,M2,post,eo,em,eh,⟨hf,hc⟩,hk⟩
   ·rw[Hi hs hv hf,Oper.upon_enter];refine(hc _ _ hs.dataOK hs.facts).mono fun e w' he=>?_;obtain⟨v,O,Δ,rfl,hp,hb,ho,hn,AE,hd⟩:=he;exact hK _ _ _ _ _ ((hs.backO hb ho hn AE hd).put (sv:=.val v) rfl ml) (hk v O Δ hp)
   ·rw[Hi hs hv hf,Oper.upon_enter];have Oy:∀b cs,(b,cs)∈Oin→(b,cs)∈s.own:=fun b cs hb=>by rw[eo];simp[hb]
    have Mp:∀b m,(b,m)∈Min→(b,m)∈s.maps:=fun b m hb=>by rw[em];simp[hb]
    have hod:=hs.nod;have hmd:=hs.mnod;rw[eo]at hod;rw[em]at hmd;refine(hc _ _ hs.dataOK hs.facts (fun b cs hb=>hs.own b cs (Oy b cs hb)) (rf hod).2 (fun b m hb=>hs.mapAt b m (Mp b m hb)) (rf hmd).2 (fun b hx hI=>?_)).mono fun e w' he=>?_
    ·rcases hx with⟨cs,hx⟩|⟨m,hx⟩
     ·exact hI.2.2.1 cs (Oy b cs hx)
     ·exact hI.2.2.2 m (Mp b m hx)
    ·rcases he with⟨v,O,M,Δ,rfl,hp,hk',ho,hn,AE,hm,hmn,D4,hd⟩|⟨ch,rfl,hch,hk'⟩
     ·exact hK _ _ _ _ _ ((hs.ownedX eo em hk' ho hn AE hm hmn D4 hd).put (sv:=.val v) rfl ml) (hk v O M Δ hp)
     ·have Zi:gn T (O1++O2) w':=fun b cs hb=>by
       obtain⟨e,he,hc⟩:=hs.own b cs (by rw[eo];rcases List.mem_append.1 hb with h|h<;>simp[h]);refine⟨e,he,?_⟩;rw[hk'.block b (cu hc) (fun hx=>?_)]
       ·exact hc
       ·rcases hx with⟨cs',hx⟩|⟨m,hx⟩
        ·have hn:=(rf hod).1 b cs' cs hx;rcases List.mem_append.1 hb with h|h
         ·exact hn.1 h
         ·exact hn.2 h
        ·obtain⟨es,cl,hmm,_⟩:=hs.mapAt b m (Mp b m hx);rw[hc]at hmm;simp at hmm
      refine vv ch a w' hch hs.defers (hs.below.then ⟨hk'.os,hk'.tape,hk'.output,hk'.size,fun k hk=>absurd hk (hZ _)⟩ (fun k h1 h2=>hk'.block k (cM h1 hs.below.size) (fun hx=>?_))) ⟨eh.choose,O1++O2,eh.choose_spec.1,Zi,fun x hx=>hs.tmps x.1 _ (eh.choose_spec.2 x hx).2⟩;rcases hx with⟨cs,hx⟩|⟨m,hx⟩
      ·rcases hs.fresh k cs (Oy k cs hx)with h'|h'
       ·omega
       ·exact h2 h'
      ·rcases hs.mfresh k m (Mp k m hx)with h'|h'
       ·omega
       ·exact h2 h'
  ·exact h.elim
 ·rename_i hg;rw[vC hs hg,if_neg (by simp)];exact hK _ _ _ _ _ (hs.put (sv:=.val undef) rfl ml) h
 ·exact h.elim
end
def gO(o:Oper):Bool:=match o.op with| .store .. =>true|_=>false
def zh(T:Tb)(o:Oper):Bool:=match o.op with| .convert src dst _=>Ju T src dst| .call c=>(match c.callee with| .value _=>true| .builtin .append=>true| .builtin .copy=>true|_=>false)| .buildSlice .. =>true| .makeSlice .. =>true| .makeMap .. =>true| .lookup .. =>true| .mapUpdate .. =>true|_=>false
def Sf(o:Oper):Bool:=match o.op with| .call c=>(match c.callee with| .builtin .append=>true| .builtin .copy=>true|_=>false)| .makeSlice .. =>true| .makeMap .. =>true| .lookup .. =>true| .mapUpdate .. =>true|_=>false
inductive QM where
 |put (v:SV)
 |new (cs:List Value)
def VS.app(s:VS)(d:Option Tmp):QM→VS
 | .put v=>s.put d v
 | .new cs=>match d with
  |some t=>{s with tmps:=s.tmps.set t (.ptr t 0),boxes:=s.boxes.set t (some cs)}
  |none=>s
theorem Jn{s:VS}{d:Option Tmp}{e:QM}:(s.app d e).own=s.own:=by cases e<;>cases d<;>rfl
def EW(s:VS)(d:Option Tmp)(e:QM):Prop:=∀cs,e=.new cs→∃t,d=some t∧s.boxes[t]? =some none
theorem rM{s:VS}{d:Option Tmp}{e:QM}{x:Operand}(h:∀t,d=some t→x≠.tmp t):(s.app d e).ev x=s.ev x:=by
 cases x with
 |tmp u=>
  cases d with
  |none=>cases e<;>rfl
  |some t=>
   have hne:t≠u:=fun e=>h t rfl (by rw[e]);cases e<;>simp[VS.app,VS.put,VS.ev,List.getD,bA,hne]
 |const v=>rfl
 |global g=>rfl
 |func f=>rfl
theorem Rv{s:VS}{d:Option Tmp}{e:QM}(hw:s.wf)(hn:EW s d e){x:Operand}{b off:Nat}(hx:s.ev x=.ptr b off):(s.app d e).boxes.getD b none=s.boxes.getD b none:=by
 cases e with
 |put v=>cases d<;>rfl
 |new cs=>
  obtain⟨t,rfl,ht⟩:=hn cs rfl;obtain⟨c,hc⟩:=fN hw hx;have:t≠b:=by
   rintro rfl;rw[ht]at hc;simp at hc
  simp[VS.app,List.getD,bA,this]
theorem sA{s s':VS}:∀{l:List Operand},(∀x∈l,s'.ev x=s.ev x)→s'.vals l=s.vals l
 | [],_=>rfl
 |x::r,h=>by simp only[VS.vals,h x (by simp),sA (l:=r) (fun y hy=>h y (cN _ hy))]
theorem qj{s s':VS}:∀{l:List Operand},(∀x∈l,s'.ev x=s.ev x)→s'.known l=s.known l
 | [],_=>rfl
 |x::r,h=>by simp only[VS.known,h x (by simp),qj (l:=r) (fun y hy=>h y (cN _ hy))]
theorem tZ{s s':VS}:∀{l:List (Nat×Operand)},(∀x∈l,s'.ev x.2=s.ev x.2)→s'.parts l=s.parts l
 | [],_=>rfl
 |(i,x)::r,h=>by simp only[VS.parts,h (i,x) (by simp),tZ (l:=r) (fun y hy=>h y (cN _ hy))]
theorem Ds{T:Tb}{o:Oper}{s s':VS}(hev:∀x∈o.op.operands,s'.ev x=s.ev x)(hbx:∀x∈o.op.operands,∀b off,s.ev x=.ptr b off→s'.boxes.getD b none=s.boxes.getD b none):gh T o s'=gh T o s:=by
 have hk:s'.known o.op.operands.toList=s.known o.op.operands.toList:=qj (fun x hx=>hev x (by simpa using hx));unfold gh;cases hop:o.op<;>simp only[hop,Op.operands]at hev hbx hk⊢ <;>(try rfl)
 case move x=>rw[hev x (by simp)]
 case assign x=>rw[hev x (by simp)]
 case pick c x y=>rw[hev c (by simp),hev x (by simp),hev y (by simp)]
 case box e x=>rw[hev x (by simp)]
 case build t ps=>
  rw[tZ (s:=s) (s':=s') (l:=ps.toList) (fun x hx=>hev x.2 (by simp only[iy,zW];exact⟨x,hx,rfl⟩))]
 case load t x=>
  rw[hev x (by simp)];cases hx:s.ev x with
  |ptr b off=>(try simp only);rw[hbx x (by simp) b off hx]
  |val v=>rfl
  |junk=>rfl
 case store t x v=>
  rw[hev x (by simp),hev v (by simp)];cases hx:s.ev x with
  |ptr b off=>
   cases hv:s.ev v with
   |val u=>simp only;rw[hbx x (by simp) b off hx]
   |ptr b' off'=>rfl
   |junk=>rfl
  |val u=>cases hv:s.ev v<;>rfl
  |junk=>rfl
 case makeSlice t l c=>rw[hk]
 case binOp op ty x y yt=>rw[hev x (by simp),hev y (by simp)]
 case unOp op ty x=>rw[hev x (by simp)]
 case convert src dst x=>rw[hev x (by simp)]
 case fieldAddr ty x f=>rw[hev x (by simp)]
 case extract x i=>rw[hev x (by simp)]
 case field ty x f=>rw[hk]
 case index ty x i=>rw[hk,show yw T s' ty x i=yw T s ty x i by unfold yw;rw[hev x (by simp),hev i (by simp)]]
 case indexAddr ty x i=>
  rw[hk,hev x (by simp)];cases hx:s.ev x with
  |ptr b off=>simp only[show xC T s' ty i b off=xC T s ty i b off by unfold xC;rw[hev i (by simp)]]
  |val v=>rfl
  |junk=>rfl
 case slice ty x l h m=>rw[hk]
 case buildSlice t n ps=>rw[hk]
 case sliceToArrayPointer t x=>rw[hk]
 case makeMap t r=>rw[hk]
 case lookup t x i ok=>rw[hk]
 case mapUpdate t m k v=>rw[hk]
 case makeInterface t x=>rw[hk]
 case nilCheck x=>rw[hev x (by simp)]
 case call c=>
  cases hc:c.callee with
  |value f=>
   have e1:s'.ev f=s.ev f:=hev f (by simp[Call.operands,hc]);have e2:=sA (s:=s) (s':=s') (l:=c.args.toList) (fun x hx=>hev x (by simp[Call.operands,hc];exact .inr (by simpa using hx)));cases f<;>simp only[e1,e2]
  |invoke r m=>rfl
  |builtin b=>
   cases b<;>(first|rfl|(simp only[hk];done)|skip);simp only;cases hx:c.args[0]? with
   |none=>cases(c.argTypes[0]?).bind T.get<;>rfl
   |some x=>
    have hm:x∈c.operands:=by
     unfold Call.operands;rw[hc];exact Array.mem_append.2 (.inr (ij hx))
    cases(c.argTypes[0]?).bind T.get with
    |none=>rfl
    |some y=>simp only[hev x hm]
 case makeFunc fn u v=>
  simp only[sA (s:=s) (s':=s') (l:=u.toList) (fun x hx=>hev x (by simp;exact .inl (by simpa using hx))),sA (s:=s) (s':=s') (l:=v.toList) (fun x hx=>hev x (by simp;exact .inr (by simpa using hx)))]
theorem mj{ops:Array Oper}{o:Oper}{d:Option Tmp}(h:∀t,d=some t→t∉o.looksAt ops){x:Operand}(hx:x∈o.op.operands):∀t,d=some t→x≠.tmp t:=by
 rintro t rfl rfl;refine h t rfl ?_;unfold Oper.looksAt;simp only[dI,List.mem_filterMap];exact .inl ⟨.tmp t,by simpa using hx,rfl⟩
section
variable{T:Tb}{P:Program}{ops:Array Oper}{o:Oper}{s:VS}{d:Option Tmp}{e:QM}
theorem sC(hw:s.wf)(hl:∀t,d=some t→t∉o.looksAt ops)(hn:EW s d e):gh T o (s.app d e)=gh T o s:=
 Ds (fun _ hx=>rM (mj hl hx)) (fun _ _ _ _ hx'=>Rv hw hn hx')
theorem jV(hl:∀t,d=some t→t∉o.looksAt ops):gA ops o (s.app d e)=gA ops o s:=by
 unfold gA;cases hg:o.guard with
 |none=>rfl
 |some g=>
  obtain⟨j,want⟩:=g;simp only;cases hd:(ops[j]?).bind (·.dst)with
  |none=>rfl
  |some t=>
   simp only;have:(s.app d e).tmps[t]? =s.tmps[t]? :=by
    cases d with
    |none=>cases e<;>rfl
    |some u=>
     have hne:u≠t:=by
      rintro rfl;refine hl u rfl ?_;unfold Oper.looksAt;simp[hg,hd]
     cases e<;>simp[VS.app,VS.put,bA,hne]
   rw[this]
theorem ng(h:gh T o s=.read):∀cs b,o.op≠.select cs b:=by
 intro cs b hop;simp[gh,hop]at h
theorem KV(h:gh T o s=.ask):∀cs b,o.op≠.select cs b:=by
 intro cs b hop;simp[gh,hop]at h
theorem LP(h:gh T o s=.own):∀cs b,o.op≠.select cs b:=by
 intro cs b hop;simp[gh,hop]at h
theorem DG:(s.app d e).own=s.own∧(s.app d e).maps=s.maps:=by
 cases e<;>cases d<;>exact⟨rfl,rfl⟩
theorem LQ{Γ:List aD}{post:Value→List (Nat×List Value)→List (Nat×List (Value×Value))→List aD→Prop}(hr:gh T o s=.own)(hl:∀t,d=some t→t∉o.looksAt ops)(h:Cc T P (s.app d e) o Γ post):Cc T P s o Γ post:=by
 unfold Cc at h⊢;rw[(DG (s:=s) (d:=d) (e:=e)).1,(DG (s:=s) (d:=d) (e:=e)).2]at h;intro I w hd hh ho AE hm D4 hx;rw[←iU (ρ:=(s.app d e).rho) (ρ':=s.rho) o (LP hr) (fun x hx=>by unfold VS.rho;rw[rM (mj hl hx)])];exact h I w hd hh ho AE hm D4 hx
theorem KW{Γ:List aD}{post:Value→List aD→Prop}(hr:gh T o s=.ask)(hl:∀t,d=some t→t∉o.looksAt ops)(h:MC T P (s.app d e) o Γ post):MC T P s o Γ post:=by
 intro I w hd hh;rw[←iU (ρ:=(s.app d e).rho) (ρ':=s.rho) o (KV hr) (fun x hx=>by unfold VS.rho;rw[rM (mj hl hx)])];exact h I w hd hh
theorem Qs{Γ Γ':List aD}{v:Value}(hr:gh T o s=.read)(hl:∀t,d=some t→t∉o.looksAt ops)(hs:∀F∈Γ,F∈Γ')(h:z_ T P s o Γ v):z_ T P (s.app d e) o Γ' v:=by
 have heq:execOp (s.app d e).rho o=execOp s.rho o:=iU (ρ:=(s.app d e).rho) (ρ':=s.rho) o (ng hr) (fun x hx=>by unfold VS.rho;rw[rM (mj hl hx)]);refine⟨fun hm w=>by rw[heq];exact h.all hm w,fun I w hd hh ho=>?_⟩;rw[Jn]at ho;rw[heq];exact h.mem I w hd (hh.sub hs) ho
theorem I9{Γ:List aD}{v:Value}(hr:gh T o s=.read)(hl:∀t,d=some t→t∉o.looksAt ops)(h:z_ T P (s.app d e) o Γ v):z_ T P s o Γ v:=by
 have heq:execOp (s.app d e).rho o=execOp s.rho o:=iU (ρ:=(s.app d e).rho) (ρ':=s.rho) o (ng hr) (fun x hx=>by unfold VS.rho;rw[rM (mj hl hx)]);refine⟨fun hm w=>by rw[←heq];exact h.all hm w,fun I w hd hh ho=>?_⟩;rw[←heq];exact h.mem I w hd hh (by rw[Jn];exact ho)
def pV(T:Tb)(P:Program)(ops:Array Oper)(o:Oper)(s:VS)(Γ:List aD)(e:QM):Prop:=
 (gA ops o s=some false∧e=.put (.val undef))∨
 (gA ops o s=some true∧((∃v,gh T o s=.val v∧e=.put v)∨(∃cs t,gh T o s=.new cs∧o.dst=some t∧s.boxes[t]? =some none∧e=.new cs)∨(gh T o s=.read∧∃v,z_ T P s o Γ v∧e=.put (.val v))))
theorem oJ{K:VS→List aD→Prop}{Γ:List aD}(h:pV T P ops o s Γ e)(hk:K (s.app o.dst e) Γ):pQ T P ops o K s Γ:=by
 unfold pQ;rcases h with⟨hg,rfl⟩|⟨hg,h⟩
 ·rw[hg];exact hk
 ·rw[hg];simp only[sF];rcases h with⟨v,hv,rfl⟩|⟨cs,t,hv,hd,hb,rfl⟩|⟨hv,v,ht,rfl⟩
  ·rw[hv];exact hk
  ·rw[hv,hd];refine⟨hb,?_⟩;rw[hd]at hk;exact hk
  ·rw[hv];exact⟨v,ht,hk⟩
theorem Ca{b:Nat}{cs:List Value}(h:gh T o s=.upd b cs):gO o=true:=by
 unfold gO;unfold gh at h;cases hop:o.op<;>simp only[hop]at h⊢ <;>
  (exfalso
   (try simp only[aO]at h)
   (repeat' (first|(simp at h;done)|split at h)))
theorem qN{f:FuncId}{args:List Value}(h:gh T o s=.call f args):zh T o=true:=by
 unfold zh;unfold gh at h;cases hop:o.op<;>simp only[hop]at h⊢
 case call c=>
  split at h
  ·rename_i hc;rw[hc]
  ·rename_i hc;rw[hc]
  all_goals
   exfalso
   (try simp only[aO]at h)
   (repeat' (first|(simp at h;done)|split at h))
 all_goals
  exfalso
  (try simp only[aO]at h)
  (repeat' (first|(simp at h;done)|split at h))
theorem sD(h:gh T o s=.ask):zh T o=true:=by
 unfold zh;unfold gh at h;cases hop:o.op<;>simp only[hop]at h⊢
 case convert src dst x=>
  split at h
  ·split at h
   ·simp at h
   ·cases hc:Ju T src dst with
    |true=>rfl
    |false=>simp[hc]at h
   ·simp at h
  ·simp at h
 all_goals
  exfalso
  (try simp only[aO]at h)
  (repeat' (first|(simp at h;done)|split at h))
theorem sE(h:gh T o s=.own):gO o=true∨(Sf o=true∧zh T o=true):=by
 unfold gO Sf zh;unfold gh at h;cases hop:o.op<;>simp only[hop]at h⊢
 case store t x v=>simp
 case makeSlice t l c=>simp
 case makeMap t r=>simp
 case lookup t x i ok=>simp
 case mapUpdate t m k v=>simp
 case call c=>
  split at h
  ·exfalso
   (repeat' (first|(simp at h;done)|split at h))
  ·exfalso
   (repeat' (first|(simp at h;done)|split at h))
  ·rename_i hc;rw[hc];simp
  ·rename_i hc;rw[hc];simp
  ·exfalso
   simp only[aO]at h
   (repeat' (first|(simp at h;done)|split at h))
  ·exfalso
   simp only[aO]at h
   (repeat' (first|(simp at h;done)|split at h))
  ·exfalso
   simp only[aO]at h
   (repeat' (first|(simp at h;done)|split at h))
  ·simp at h
 all_goals
  exfalso
  (try simp only[aO]at h)
  (repeat' (first|(simp at h;done)|split at h))
theorem yg(hl:zh T o=false)(hst:gO o=false):gh T o s≠.own:=fun h=>by
 rcases sE h with h'|⟨_,h'⟩
 ·rw[hst]at h';simp at h'
 ·rw[hl]at h';simp at h'
theorem zp{K:VS→List aD→Prop}{Γ:List aD}(hst:gO o=false)(hno:gh T o s≠.own)(h:pQ T P ops o K s Γ):
  (∃e,pV T P ops o s Γ e∧K (s.app o.dst e) Γ)∨(gA ops o s=some true∧∃f args,gh T o s=.call f args∧xB T P f args (fun v s' Γ'=>K (s'.app o.dst (.put (.val v))) Γ') s Γ)∨
  (gA ops o s=some true∧gh T o s=.ask∧∃post,MC T P s o Γ post∧∀v Δ,post v Δ→K (s.app o.dst (.put (.val v))) (Δ++Γ)):=by
 unfold pQ at h;split at h
 ·rename_i hg;unfold sF at h;split at h
  ·rename_i v hv;exact .inl ⟨.put v,.inr ⟨hg,.inl ⟨v,hv,rfl⟩⟩,h⟩
  ·rename_i cs hv;split at h
   ·rename_i t ht;exact .inl ⟨.new cs,.inr ⟨hg,.inr (.inl ⟨cs,t,hv,ht,h.1,rfl⟩)⟩,by rw[ht];exact h.2⟩
   ·exact h.elim
  ·rename_i b cs hv;rw[Ca hv]at hst;simp at hst
  ·rename_i hv;obtain⟨v,ht,hk⟩:=h;exact .inl ⟨.put (.val v),.inr ⟨hg,.inr (.inr ⟨hv,v,ht,rfl⟩)⟩,hk⟩
  ·rename_i hv;exact .inr (.inr ⟨hg,hv,h⟩)
  ·rename_i hv;exact absurd hv hno
  ·rename_i f args hv;exact .inr (.inl ⟨hg,f,args,hv,h⟩)
  ·exact h.elim
 ·rename_i hg;exact .inl ⟨.put (.val undef),.inl ⟨hg,rfl⟩,h⟩
 ·exact h.elim
theorem pV.newOk{Γ:List aD}(h:pV T P ops o s Γ e):EW s o.dst e:=by
 intro cs hcs;rcases h with⟨_,rfl⟩|⟨_,⟨v,_,rfl⟩|⟨cs',t,_,hd,hb,rfl⟩|⟨_,v,_,rfl⟩⟩
 ·simp at hcs
 ·simp at hcs
 ·exact⟨t,hd,hb⟩
 ·simp at hcs
theorem wF{t:Nat}(h:d≠some t):(s.app d e).boxes[t]? =s.boxes[t]? :=by
 cases e with
 |put v=>cases d<;>rfl
 |new cs=>
  cases d with
  |none=>rfl
  |some u=>
   have:u≠t:=fun hh=>h (by rw[hh]);simp[VS.app,bA,this]
theorem pV.app{Γ Γ':List aD}{e':QM}(hw:s.wf)(hl:∀t,d=some t→t∉o.looksAt ops)(hne:∀t,d=some t→o.dst≠some t)(hn:EW s d e')(hs:∀F∈Γ,F∈Γ')(h:pV T P ops o s Γ e):pV T P ops o (s.app d e') Γ' e:=by
 unfold pV at h⊢;rw[jV hl,sC hw hl hn];rcases h with h|⟨hg,h⟩
 ·exact .inl h
 ·refine .inr ⟨hg,?_⟩;rcases h with h|⟨cs,t,hv,hd,hb,rfl⟩|⟨hv,v,ht,rfl⟩
  ·exact .inl h
  ·refine .inr (.inl ⟨cs,t,hv,hd,?_,rfl⟩);rw[wF (fun hh=>hne t hh hd)];exact hb
  ·exact .inr (.inr ⟨hv,v,Qs hv hl hs ht,rfl⟩)
theorem pV.unapp{Γ:List aD}{e':QM}(hw:s.wf)(hl:∀t,d=some t→t∉o.looksAt ops)(hne:∀t,d=some t→o.dst≠some t)(hn:EW s d e')(h:pV T P ops o (s.app d e') Γ e):pV T P ops o s Γ e:=by
 unfold pV at h⊢;rw[jV hl,sC hw hl hn]at h;rcases h with h|⟨hg,h⟩
 ·exact .inl h
 ·refine .inr ⟨hg,?_⟩;rcases h with h|⟨cs,t,hv,hd,hb,rfl⟩|⟨hv,v,ht,rfl⟩
  ·exact .inl h
  ·refine .inr (.inl ⟨cs,t,hv,hd,?_,rfl⟩);rw[wF (fun hh=>hne t hh hd)]at hb;exact hb
  ·exact .inr (.inr ⟨hv,v,I9 hv hl ht,rfl⟩)
theorem qT{d':Option Tmp}{e':QM}(hne:∀t,d=some t→d'≠some t):(s.app d e).app d' e'=(s.app d' e').app d e:=by
 cases d with
 |none=>cases e<;>cases d'<;>cases e'<;>rfl
 |some t=>
  cases d' with
  |none=>cases e<;>cases e'<;>rfl
  |some u=>
   have:t≠u:=fun h=>hne t rfl (by rw[h]);cases e<;>cases e'<;>simp[VS.app,VS.put,List.set_comm _ _ this]
theorem HK{O:List (Nat×List Value)}:({s.app d e with own:=O++(s.app d e).own}:VS)=({s with own:=O++s.own}:VS).app d e:=by
 cases e<;>cases d<;>rfl
theorem pV.own{Γ:List aD}(h:pV T P ops o s Γ e)(O:List (Nat×List Value)):pV T P ops o {s with own:=O++s.own} Γ e:=by
 have hv:gh T o {s with own:=O++s.own}=gh T o s:=Ds (fun x _=>by cases x<;>rfl) (fun _ _ _ _ _=>rfl);unfold pV at h⊢;rw[hv];rcases h with h|⟨hg,h⟩
 ·exact .inl h
 ·refine .inr ⟨hg,?_⟩;rcases h with h|h|⟨hr,v,ht,rfl⟩
  ·exact .inl h
  ·exact .inr (.inl h)
  ·have heq:execOp ({s with own:=O++s.own}:VS).rho o=execOp s.rho o:=iU (ρ:=({s with own:=O++s.own}:VS).rho) (ρ':=s.rho) o (ng hr) (fun x _=>by cases x<;>rfl);refine .inr (.inr ⟨hr,v,⟨fun hm w=>by rw[heq];exact ht.all hm w,fun I w hd hh ho=>?_⟩,rfl⟩);rw[heq];exact ht.mem I w hd hh (fun b cs hc=>ho b cs (List.mem_append.2 (.inr hc)))
def Cp(o:Oper):Bool:=match o.op with| .call c=>(match c.callee with| .value _=>true|_=>false)|_=>false
theorem BL{f:FuncId}{args:List Value}(h:gh T o s=.call f args):Cp o=true:=by
 unfold Cp;unfold gh at h;cases hop:o.op<;>simp only[hop]at h⊢
 case call c=>
  split at h
  ·rename_i hc;rw[hc]
  ·rename_i hc;rw[hc]
  all_goals
   exfalso
   (try simp only[aO]at h)
   (repeat' (first|(simp at h;done)|split at h))
 all_goals
  (exfalso
   (try simp only[aO]at h)
   (repeat' (first|(simp at h;done)|split at h)))
def Cq(T:Tb)(o:Oper):Bool:=match o.op with| .call c=>(match c.callee with| .value (.func f)=>T.calm f| .value _=>T.cloc|_=>false)|_=>false
theorem QH{f:FuncId}{args:List Value}(h:gh T o s=.call f args)(hc:Cq T o=true):T.calm f=true:=by
 unfold Cq at hc;split at hc
 ·rename_i c hop;split at hc
  ·rename_i g hg;unfold gh at h;rw[hop]at h;simp only[hg,VS.ev]at h;split at h
   ·rename_i f' x1 x2
    first
    |(injection h with h1 _;rw[←h1];simp_all;done)
    |simp_all
   ·simp at h
  ·rename_i x hne hg;unfold gh at h;rw[hop]at h;simp only[hg]at h;split at h
   ·rename_i g u v hx;split at h
    ·rename_i vs hvs;injection h with h1 _;rw[←h1];exact(wk hvs).2 hc
    ·simp at h
   ·simp at h
  ·simp at hc
 ·simp at hc
theorem KU{O:List (Nat×List Value)}{M:List (Nat×List (Value×Value))}:({s.app d e with own:=O,maps:=M}:VS)=({s with own:=O,maps:=M}:VS).app d e:=by
 cases e<;>cases d<;>rfl
theorem mG{s s':VS}(hm:iY T o=true)(hev:∀x∈o.op.operands,s'.ev x=s.ev x):gh T o s'=gh T o s:=by
 unfold iY at hm;unfold gh;cases hop:o.op<;>simp only[hop,Op.operands]at hev hm⊢ <;>(try (simp at hm;done))
 case move x=>rw[hev x (by simp)]
 case assign x=>rw[hev x (by simp)]
 case pick c x y=>rw[hev c (by simp),hev x (by simp),hev y (by simp)]
 case build t ps=>
  rw[tZ (s:=s) (s':=s') (l:=ps.toList) (fun x hx=>hev x.2 (by simp only[iy,zW];exact⟨x,hx,rfl⟩))]
 case binOp op ty x y yt=>rw[hev x (by simp),hev y (by simp)]
 case unOp op ty x=>rw[hev x (by simp)]
 case convert src dst x=>rw[hev x (by simp)]
 case fieldAddr ty x f=>rw[hev x (by simp)]
 case extract x i=>rw[hev x (by simp)]
 case nilCheck x=>rw[hev x (by simp)]
 case indexAddr ty x i=>
  have e1:=hev x (by simp);have e2:=hev i (by simp);simp only[xC,VS.known,e1,e2]
 case call c=>
  split at hm
  ·rename_i hc;rw[hc];simp only;cases hx:c.args[0]? with
   |none=>cases(c.argTypes[0]?).bind T.get<;>rfl
   |some x=>
    have lU:x∈c.operands:=by
     unfold Call.operands;rw[hc];exact Array.mem_append.2 (.inr (ij hx))
    cases(c.argTypes[0]?).bind T.get with
    |none=>rfl
    |some y=>simp only[hev x lU]
  ·rename_i hc;rw[hc];simp only[qj (s:=s) (s':=s') (l:=c.operands.toList) (fun x hx=>hev x (by simpa using hx))]
  ·rename_i hc;rw[hc];simp only[qj (s:=s) (s':=s') (l:=c.operands.toList) (fun x hx=>hev x (by simpa using hx))]
  ·simp at hm
theorem tO(hm:iY T o=true){cs:List Value}(h:gh T o s=.new cs):False:=by
 unfold iY at hm;unfold gh at h;cases hop:o.op<;>simp only[hop]at h hm<;>(try (simp at hm;done))<;>
  ((try simp only[aO]at h)
   (repeat' (first|(simp at h;done)|split at h)))
theorem Mf(hs:gO o=true):(∃b cs,gh T o s=.upd b cs)∨gh T o s=.stuck∨gh T o s=.own:=by
 unfold gO at hs;unfold gh;cases hop:o.op<;>simp only[hop]at hs⊢ <;>(try (simp at hs;done));simp only[aO]
 (repeat' split)<;>first|exact .inr (.inl rfl)|exact .inr (.inr rfl)|exact .inl ⟨_,_,rfl⟩
theorem uq{oi oj:Oper}{K:VS→List aD→Prop}{Γ:List aD}(hw:s.wf)(hjl:zh T oj=false)(TO:gO oj=false)(BW:∀cs,gh T oj s=.new cs→False)(his:gO oi=true)(hno:gh T oi s≠.own)
  (Zm:∀b cs,gh T oi s=.upd b cs→gh T oj (({s with boxes:=s.boxes.set b (some cs)}:VS).put oi.dst (.val undef))=gh T oj s)
  (h1:∀t,oj.dst=some t→t∉oi.looksAt ops)(h2:∀t,oj.dst=some t→oi.dst≠some t)(h3:∀t,oi.dst=some t→t∉oj.looksAt ops)
  (h:pQ T P ops oj (pQ T P ops oi K) s Γ):pQ T P ops oi (pQ T P ops oj K) s Γ:=by
 have h2':∀t,oi.dst=some t→oj.dst≠some t:=fun t ht hh=>h2 t hh ht;rcases zp TO (yg hjl TO) h with⟨e,hd,hk⟩|⟨_,f,args,hv,_⟩|⟨_,hv,_⟩
 ·have hn:=hd.newOk;have hput:∃v,e=.put v:=by
   cases e with
   |put v=>exact⟨v,rfl⟩
   |new cs=>
    exfalso
    rcases hd with⟨_,he⟩|⟨_,⟨v,_,he⟩|⟨cs',t,hv,_⟩|⟨_,v,_,he⟩⟩
    ·simp at he
    ·simp at he
    ·exact BW _ hv
    ·simp at he
  obtain⟨v,rfl⟩:=hput;unfold pQ at hk;rw[jV h1]at hk;unfold pQ;cases hg:gA ops oi s with
  |none=>rw[hg]at hk;exact hk.elim
  |some g=>
   rw[hg]at hk;cases g with
   |false=>
    simp only at hk⊢;refine oJ (hd.app (d:=oi.dst) (e':=.put (.val undef)) hw h3 h2' (fun cs hcs=>by simp at hcs) (fun _ h=>h)) ?_;have:(s.app oj.dst (.put v)).app oi.dst (.put (.val undef))=(s.app oi.dst (.put (.val undef))).app oj.dst (.put v):=qT h2;simp only[VS.app]at this hk⊢;rw[←this];exact hk
   |true=>
    simp only[sF]at hk⊢;rw[sC hw h1 hn]at hk;rcases Mf (T:=T) (s:=s) his with⟨b,cs,hv⟩|hv|hv
    ·rw[hv]at hk;rw[hv];simp only at hk⊢;have Iq:({s.app oj.dst (.put v)with boxes:=(s.app oj.dst (.put v)).boxes.set b (some cs)}:VS).put oi.dst (.val undef)=(({s with boxes:=s.boxes.set b (some cs)}:VS).put oi.dst (.val undef)).app oj.dst (.put v):=by
      cases N9:oj.dst with
      |none=>rfl
      |some t=>
       cases hid:oi.dst with
       |none=>rfl
       |some u=>
        have:u≠t:=fun hh=>h2' u hid (by rw[N9,hh]);simp[VS.app,VS.put,List.set_comm _ _ this]
     rw[Iq]at hk;have hev:∀x∈oj.op.operands,(({s with boxes:=s.boxes.set b (some cs)}:VS).put oi.dst (.val undef)).ev x=s.ev x:=by
      intro x hx;have:=rM (s:={s with boxes:=s.boxes.set b (some cs)}) (e:=.put (.val undef)) (mj h3 hx);simp only[VS.app]at this;rw[this];cases x<;>rfl
     have pX:=Zm b cs hv;have hgd:gA ops oj (({s with boxes:=s.boxes.set b (some cs)}:VS).put oi.dst (.val undef))=gA ops oj s:=by
      have:=jV (ops:=ops) (o:=oj) (s:={s with boxes:=s.boxes.set b (some cs)}) (d:=oi.dst) (e:=.put (.val undef)) h3;simp only[VS.app]at this;rw[this];rfl
     refine oJ (e:=.put v) ?_ hk;unfold pV at hd⊢;rw[hgd,pX];rcases hd with hd|⟨hg',hd⟩
     ·exact .inl hd
     ·refine .inr ⟨hg',?_⟩;rcases hd with hd|⟨cs',t,hv',_,_,he⟩|⟨hv',v',ht,he⟩
      ·exact .inl hd
      ·simp at he
      ·have heq:=iU (ρ:=(({s with boxes:=s.boxes.set b (some cs)}:VS).put oi.dst (.val undef)).rho) (ρ':=s.rho) oj (ng hv') (fun x hx=>by unfold VS.rho;rw[hev x hx]);refine .inr (.inr ⟨hv',v',⟨fun hm w=>by rw[heq];exact ht.all hm w,fun I w hdd hh ho=>?_⟩,he⟩);rw[heq];exact ht.mem I w hdd hh (by cases hid:oi.dst<;>rw[hid]at ho<;>exact ho)
    ·rw[hv]at hk;exact hk.elim
    ·exact absurd hv hno
 ·have:=qN hv;rw[hjl]at this;simp at this
 ·have:=sD hv;rw[hjl]at this;simp at this
theorem AV{ty:TypeId}{x:Operand}{cs:List Value}(hop:o.op=.load ty x)(h:gh T o s=.new cs):False:=by
 unfold gh at h;rw[hop]at h;simp only[aO]at h
 (repeat' (first|(simp at h;done)|split at h))
theorem AW{s':VS}{ty:TypeId}{x:Operand}(hop:o.op=.load ty x)(hx:s'.ev x=s.ev x)(hb:∀b1 o1,s.ev x=.ptr b1 o1→s'.boxes.getD b1 none=s.boxes.getD b1 none):gh T o s'=gh T o s:=by
 unfold gh;rw[hop];simp only[hx];cases he:s.ev x with
 |ptr b1 o1=>simp only[hb b1 o1 he]
 |val v=>rfl
 |junk=>rfl
theorem CS{ty:TypeId}{x:Operand}(hop:o.op=.load ty x)(h:gh T o s=.read):∃u,s.ev x=.val u:=by
 unfold gh at h;rw[hop]at h;cases hx:s.ev x with
 |val u=>exact⟨u,rfl⟩
 |ptr q r=>
  exfalso
  simp only[hx,aO]at h
  (repeat' (first|(simp at h;done)|split at h))
 |junk=>
  exfalso
  simp only[hx]at h;simp at h
theorem pV.handed{oj:Oper}{Γ Γ':List aD}{u:SV}{O:List (Nat×List Value)}{M:List (Nat×List (Value×Value))}{d:Option Tmp}{v:Value}(hd:pV T P ops oj s Γ (.put u))(hm:iY T oj=true∨∃ty x,oj.op=.load ty x∧∀u,s.ev x≠.val u)
  (h3:∀t,d=some t→t∉oj.looksAt ops):pV T P ops oj (({s with own:=O,maps:=M}:VS).put d (.val v)) Γ' (.put u):=by
 have hev:∀x∈oj.op.operands,(({s with own:=O,maps:=M}:VS).put d (.val v)).ev x=s.ev x:=by
  intro x hx;have:=rM (s:={s with own:=O,maps:=M}) (e:=.put (.val v)) (mj h3 hx);simp only[VS.app]at this;rw[this];cases x<;>rfl
 have pX:gh T oj (({s with own:=O,maps:=M}:VS).put d (.val v))=gh T oj s:=by
  rcases hm with hm|⟨ty,x,hop,_⟩
  ·exact mG (T:=T) hm hev
  ·refine AW hop (hev x (by rw[hop];simp[Op.operands])) (fun b1 o1 _=>?_);cases d<;>rfl
 have hgd:gA ops oj (({s with own:=O,maps:=M}:VS).put d (.val v))=gA ops oj s:=by
  have:=jV (ops:=ops) (o:=oj) (s:={s with own:=O,maps:=M}) (d:=d) (e:=.put (.val v)) h3;simp only[VS.app]at this;rw[this];rfl
 unfold pV at hd⊢;rw[hgd,pX];rcases hd with hd|⟨hg',hd⟩
 ·exact .inl hd
 ·refine .inr ⟨hg',?_⟩;rcases hd with hd|⟨cs',t,hv',_,_,he⟩|⟨hv',v',ht,he⟩
  ·exact .inl hd
  ·simp at he
  ·have heq:=iU (ρ:=(({s with own:=O,maps:=M}:VS).put d (.val v)).rho) (ρ':=s.rho) oj (ng hv') (fun x hx=>by unfold VS.rho;rw[hev x hx]);rcases hm with hm|⟨ty,x,hop,Mn⟩
   ·exact .inr (.inr ⟨hv',v',.any fun w=>by rw[heq];exact ht.all hm w,he⟩)
   ·obtain⟨q,hq⟩:=CS hop hv';exact absurd hq (Mn q)
theorem QA{oi oj:Oper}{K:VS→List aD→Prop}{Γ:List aD}(hw:s.wf)(hj:zh T oj=false)(TO:gO oj=false)(his:gO oi=false)(hno:gh T oi s≠.own)(Lu:∀t,oj.dst=some t→lK t T.pins=false)(hcl:T.hand=true→(Cp oi&& !Cq T oi)=true→iY T oj=true∨∃ty x,oj.op=.load ty x∧∀u,s.ev x≠.val u)
  (h1:∀t,oj.dst=some t→t∉oi.looksAt ops)(h2:∀t,oj.dst=some t→oi.dst≠some t)(h3:∀t,oi.dst=some t→t∉oj.looksAt ops)
  (h:pQ T P ops oj (pQ T P ops oi K) s Γ):pQ T P ops oi (pQ T P ops oj K) s Γ:=by
 have h2':∀t,oi.dst=some t→oj.dst≠some t:=fun t ht hh=>h2 t hh ht;rcases zp TO (yg hj TO) h with⟨e,hd,hk⟩|⟨_,f,args,hv,_⟩|⟨_,hv,_⟩
 ·have hn:=hd.newOk;rcases zp his (by rw[sC hw h1 hn];exact hno) hk with⟨e2,hd2,hk2⟩|⟨hg,f,args,hv,YL⟩|⟨hg,hv,post,hp,hk2⟩
  ·have YN:=hd2.unapp hw h1 h2 hn;refine oJ YN (oJ (hd.app hw h3 h2' YN.newOk (fun _ h=>h)) ?_);rw[qT h2'];exact hk2
  ·rw[jV h1]at hg;rw[sC hw h1 hn]at hv;unfold pQ;rw[hg];simp only[sF];rw[hv];rcases YL with⟨post,hp,hk2⟩|⟨ht,O1,Oin,O2,M1,Min,M2,post,eo,em,eh,hp,hk2⟩
   rotate_left
   ·rw[DG.1]at eo;rw[DG.2]at em;have hm:=hcl ht.1 (by
     rw[BL hv,dA];cases hcm:Cq T oi with
     |false=>rfl
     |true=>
      have:=QH hv hcm;rw[ht.2]at this;simp at this)
    have hput:∃v,e=.put v:=by
     cases e with
     |put v=>exact⟨v,rfl⟩
     |new cs=>
      exfalso
      rcases hd with⟨_,he⟩|⟨_,⟨v,_,he⟩|⟨cs',t,hv',_⟩|⟨_,v,_,he⟩⟩
      ·simp at he
      ·simp at he
      ·rcases hm with hm|⟨ty,x,hop,_⟩
       ·exact tO hm hv'
       ·exact AV hop hv'
      ·simp at he
    obtain⟨u,rfl⟩:=hput;have eh':JI T s.tmps (O1++O2):=by
     obtain⟨ks,k1,k2⟩:=eh;refine⟨ks,k1,fun x hx=>⟨(k2 x hx).1,?_⟩⟩;have k3:=(k2 x hx).2;cases N9:oj.dst with
     |none=>rw[N9]at k3;exact k3
     |some t=>
      rw[N9]at k3;have hne:t≠x.1:=by
       intro e;have:=Lu t N9;rw[e,(k2 x hx).1]at this;simp at this
      simp only[VS.app,VS.put,bA,if_neg hne]at k3;exact k3
    refine .inr ⟨ht,O1,Oin,O2,M1,Min,M2,post,eo,em,eh',hp,fun v O M Δ hpv=>?_⟩;have hk:=hk2 v O M Δ hpv;rw[KU,qT h2]at hk;exact oJ (hd.handed (O:=O1++(O++O2)) (M:=M1++(M++M2)) (d:=oi.dst) (v:=v) hm h3) hk
   refine .inl ⟨post,hp,fun v O Δ xR=>?_⟩;refine oJ ((hd.own O).app (s:={s with own:=O++s.own}) (d:=oi.dst) (e':=.put (.val v)) hw h3 h2' (fun cs hcs=>by simp at hcs) (fun F hF=>List.mem_append.2 (.inr hF))) ?_;have:=hk2 v O Δ xR;rw[HK,qT h2]at this;exact this
  ·rw[jV h1]at hg;rw[sC hw h1 hn]at hv;unfold pQ;rw[hg];simp only[sF];rw[hv];refine⟨post,KW hv h1 hp,fun v Δ xR=>?_⟩;refine oJ (hd.app (d:=oi.dst) (e':=.put (.val v)) hw h3 h2' (fun cs hcs=>by simp at hcs) (fun F hF=>List.mem_append.2 (.inr hF))) ?_;have:=hk2 v Δ xR;rw[qT h2]at this;exact this
 ·rw[qN hv]at hj;simp at hj
 ·rw[sD hv]at hj;simp at hj
theorem EL{oi oj:Oper}{K:VS→List aD→Prop}{Γ:List aD}(hw:s.wf)(hjl:zh T oj=false)(TO:gO oj=false)(hm:iY T oj=true∨∃ty x,oj.op=.load ty x∧∀u,s.ev x≠.val u)(hv:gh T oi s=.own)
  (h1:∀t,oj.dst=some t→t∉oi.looksAt ops)(h2:∀t,oj.dst=some t→oi.dst≠some t)(h3:∀t,oi.dst=some t→t∉oj.looksAt ops)
  (h:pQ T P ops oj (pQ T P ops oi K) s Γ):pQ T P ops oi (pQ T P ops oj K) s Γ:=by
 have h2':∀t,oi.dst=some t→oj.dst≠some t:=fun t ht hh=>h2 t hh ht;rcases zp TO (yg hjl TO) h with⟨e,hd,hk⟩|⟨_,f,args,hv',_⟩|⟨_,hv',_⟩
 ·have hn:=hd.newOk;have hput:∃v,e=.put v:=by
   cases e with
   |put v=>exact⟨v,rfl⟩
   |new cs=>
    exfalso
    rcases hd with⟨_,he⟩|⟨_,⟨v,_,he⟩|⟨cs',t,hv',_⟩|⟨_,v,_,he⟩⟩
    ·simp at he
    ·simp at he
    ·rcases hm with hm|⟨ty,x,hop,_⟩
     ·exact tO hm hv'
     ·exact AV hop hv'
    ·simp at he
  obtain⟨u,rfl⟩:=hput;unfold pQ at hk;rw[jV h1]at hk;unfold pQ;cases hg:gA ops oi s with
  |none=>rw[hg]at hk;exact hk.elim
  |some g=>
   rw[hg]at hk;cases g with
   |false=>
    simp only at hk⊢;refine oJ (hd.app (d:=oi.dst) (e':=.put (.val undef)) hw h3 h2' (fun cs hcs=>by simp at hcs) (fun _ h=>h)) ?_;have:(s.app oj.dst (.put u)).app oi.dst (.put (.val undef))=(s.app oi.dst (.put (.val undef))).app oj.dst (.put u):=qT h2;simp only[VS.app]at this hk⊢;rw[←this];exact hk
   |true=>
    simp only[sF]at hk⊢;rw[sC hw h1 hn,hv]at hk;rw[hv];obtain⟨post,hp,hk⟩:=hk;refine⟨post,LQ hv h1 hp,fun v O M Δ hpv=>?_⟩;have hk:=hk v O M Δ hpv;have Iq:({s.app oj.dst (.put u)with own:=O,maps:=M}:VS).put oi.dst (.val v)=(({s with own:=O,maps:=M}:VS).put oi.dst (.val v)).app oj.dst (.put u):=by
     cases N9:oj.dst with
     |none=>rfl
     |some t=>
      cases hid:oi.dst with
      |none=>rfl
      |some q=>
       have:q≠t:=fun hh=>h2' q hid (by rw[N9,hh]);simp[VS.app,VS.put,List.set_comm _ _ this]
    rw[Iq]at hk;have hev:∀x∈oj.op.operands,(({s with own:=O,maps:=M}:VS).put oi.dst (.val v)).ev x=s.ev x:=by
     intro x hx;have:=rM (s:={s with own:=O,maps:=M}) (e:=.put (.val v)) (mj h3 hx);simp only[VS.app]at this;rw[this];cases x<;>rfl
    have pX:gh T oj (({s with own:=O,maps:=M}:VS).put oi.dst (.val v))=gh T oj s:=by
     rcases hm with hm|⟨ty,x,hop,_⟩
     ·exact mG (T:=T) hm hev
     ·refine AW hop (hev x (by rw[hop];simp[Op.operands])) (fun b1 o1 _=>?_);cases oi.dst<;>rfl
    have hgd:gA ops oj (({s with own:=O,maps:=M}:VS).put oi.dst (.val v))=gA ops oj s:=by
     have:=jV (ops:=ops) (o:=oj) (s:={s with own:=O,maps:=M}) (d:=oi.dst) (e:=.put (.val v)) h3;simp only[VS.app]at this;rw[this];rfl
    refine oJ (e:=.put u) ?_ hk;unfold pV at hd⊢;rw[hgd,pX];rcases hd with hd|⟨hg',hd⟩
    ·exact .inl hd
    ·refine .inr ⟨hg',?_⟩;rcases hd with hd|⟨cs',t,hv',_,_,he⟩|⟨hv',v',ht,he⟩
     ·exact .inl hd
     ·simp at he
     ·have heq:=iU (ρ:=(({s with own:=O,maps:=M}:VS).put oi.dst (.val v)).rho) (ρ':=s.rho) oj (ng hv') (fun x hx=>by unfold VS.rho;rw[hev x hx]);rcases hm with hm|⟨ty,x,hop,Mn⟩
      ·exact .inr (.inr ⟨hv',v',.any fun w=>by rw[heq];exact ht.all hm w,he⟩)
      ·obtain⟨q,hq⟩:=CS hop hv';exact absurd hq (Mn q)
 ·have:=qN hv';rw[hjl]at this;simp at this
 ·have:=sD hv';rw[hjl]at this;simp at this
def DU(ops:Array Oper)(t:Nat):Bool:=ops.toList.all fun o=>match o.dst with
 |some d=> !Nat.beq d t
 |none=>true
def sX(ops:Array Oper)(s0:VS)(b:Nat):Nat→Nat→Bool
 |0,_=>false
 |n+1,x=>(match s0.tmps[x]? with
  |some (.ptr b1 _)=> !Nat.beq b1 b
  |_=>true)&&ops.toList.all fun o=>match o.dst with
   |some d=> !Nat.beq d x||(match o.op with
    | .fieldAddr _ (.tmp z) _=>sX ops s0 b n z
    | .indexAddr _ (.tmp z) _=>sX ops s0 b n z
    | .move (.tmp z)=>sX ops s0 b n z
    | .nilCheck (.tmp z)=>sX ops s0 b n z
    |_=>false)
   |none=>true
def F6(o:Oper):Bool:=(match o.op with
 | .alloc _=>true
 | .box _ _=>true
 |_=>false)&&o.guard.isNone
def Ah(ops:Array Oper)(y:Nat):Bool:=ops.toList.all fun o=>match o.dst with
 |some d=> !Nat.beq d y||F6 o
 |none=>true
def BZ(ops:Array Oper)(s0:VS):Nat→Nat→Bool
 |0,_=>false
 |n+1,x=>(match s0.tmps[x]? with
  |some (.val _)=>false
  |_=>true)&&ops.toList.all fun o=>match o.dst with
   |some d=> !Nat.beq d x||(o.guard.isNone&&match o.op with
    | .fieldAddr _ (.tmp z) _=>BZ ops s0 n z
    |_=>false)
   |none=>true
def Rb(ops:Array Oper)(s0:VS)(b:Nat):Nat→Nat→Bool
 |0,_=>false
 |n+1,x=>(match s0.tmps[x]? with
  |some (.val _)=>false
  |some (.ptr b1 _)=>Nat.beq b1 b
  |_=>true)&&ops.toList.all fun o=>match o.dst with
   |some d=> !Nat.beq d x||(o.guard.isNone&&match o.op with
    | .fieldAddr _ (.tmp z) _=>Rb ops s0 b n z
    |_=>false)
   |none=>true
def Qc(ops:Array Oper)(s0:VS):Nat→Nat→Option Nat
 |0,_=>none
 |n+1,x=>match s0.tmps[x]? with
  |some (.ptr b _)=>some b
  |_=>match ops.toList.find? (fun o=>match o.dst with|some d=>Nat.beq d x|none=>false)with
   |some o=>match o.op with
    | .fieldAddr _ (.tmp z) _=>Qc ops s0 n z
    |_=>none
   |none=>none
def iV(ops:Array Oper)(s0 s:VS):Prop:=(∀t,DU ops t=true→s.tmps[t]? =s0.tmps[t]?)∧(∀n b t,sX ops s0 b n t=true→∀o,s.tmps[t]? ≠some (.ptr b o))∧(∀y,Ah ops y=true→s.tmps[y]? =s0.tmps[y]? ∨s.tmps[y]? =some (.ptr y 0))∧(∀n t,BZ ops s0 n t=true→∀v,s.tmps[t]? ≠some (.val v))∧∀n b t,Rb ops s0 b n t=true→∀v,s.tmps[t]? =some v→(∀u,v≠.val u)∧∀c o,v=.ptr c o→c=b
theorem iV.refl(s0:VS):iV ops s0 s0:=by
 refine⟨fun _ _=>rfl,fun n b t h o he=>?_,fun _ _=>.inl rfl,fun n t h v he=>?_,fun n b t h v he=>?_⟩
 ·cases n with
  |zero=>simp[sX]at h
  |succ n=>
   unfold sX at h;rw[he]at h;simp at h
 ·cases n with
  |zero=>simp[BZ]at h
  |succ n=>
   unfold BZ at h;rw[he]at h;simp at h
 ·cases n with
  |zero=>simp[Rb]at h
  |succ n=>
   unfold Rb at h;rw[he]at h;cases v with
   |val u=>simp at h
   |ptr c o=>
    rw[aM]at h;exact⟨fun _=>by simp,fun c' o' e=>by injection e with e _;rw[←e];exact aI h.1⟩
   |junk=>exact⟨fun _=>by simp,fun _ _ e=>by simp at e⟩
theorem OW{s0:VS}{b n x:Nat}{i:Nat}(h:Rb ops s0 b (n+1) x=true)(hi:ops[i]? =some o)(hd:o.dst=some x):o.guard=none∧(match o.op with
  | .fieldAddr _ (.tmp z) _=>Rb ops s0 b n z
  |_=>false)=true:=by
 unfold Rb at h;rw[aM,eU]at h;have:=h.2 o (by rw[mL];exact ij hi);rw[hd]at this;simpa using this
theorem JU{s0:VS}{n x:Nat}{i:Nat}(h:BZ ops s0 (n+1) x=true)(hi:ops[i]? =some o)(hd:o.dst=some x):o.guard=none∧(match o.op with
  | .fieldAddr _ (.tmp z) _=>BZ ops s0 n z
  |_=>false)=true:=by
 unfold BZ at h;rw[aM,eU]at h;have:=h.2 o (by rw[mL];exact ij hi);rw[hd]at this;simpa using this
theorem JA{ty:TypeId}{x:Operand}{f:Nat}(hop:o.op=.fieldAddr ty x f):(∃b q,gh T o s=.val (.ptr b q))∨(gh T o s=.read∧∃w,s.ev x=.val w)∨gh T o s=.stuck:=by
 cases hx:s.ev x with
 |val v=>exact .inr (.inl ⟨by unfold gh;rw[hop];simp only[hx],v,rfl⟩)
 |junk=>exact .inr (.inr (by unfold gh;rw[hop];simp only[hx]))
 |ptr q r=>
  have h:(∃b q,gh T o s=.val (.ptr b q))∨gh T o s=.stuck:=by
   unfold gh;rw[hop];simp only[hx,aO];cases T.get ty with
   |none=>exact .inr rfl
   |some y=>
    simp only;cases y.fields[f]? with
    |none=>exact .inr rfl
    |some p=>
     obtain⟨a,b,c⟩:=p;simp only;split
     ·exact .inr rfl
     ·exact .inl ⟨_,_,rfl⟩
  rcases h with h|h
  ·exact .inl h
  ·exact .inr (.inr h)
theorem w8{r:VR}(hv:gh T o s=r)(h1:∀b q,r≠.val (.ptr b q))(h2:r≠.stuck)(h3:r≠.read):∀ty z f,o.op=.fieldAddr ty (.tmp z) f→∃w,s.ev (.tmp z)=.val w:=fun ty z f hop=>by
 subst hv;rcases JA (T:=T) (s:=s) hop with⟨b,q,h⟩|⟨h,_⟩|h
 ·exact absurd h (h1 b q)
 ·exact absurd h h3
 ·exact absurd h h2
theorem OU(hv:gh T o s=.read):∀ty z f,o.op=.fieldAddr ty (.tmp z) f→∃w,s.ev (.tmp z)=.val w:=fun ty z f hop=>by
 rcases JA (T:=T) (s:=s) hop with⟨b,q,h⟩|⟨_,h⟩|h
 ·rw[hv]at h;simp at h
 ·exact h
 ·rw[hv]at h;simp at h
theorem MW{y:Nat}{i:Nat}(h:Ah ops y=true)(hi:ops[i]? =some o)(hd:o.dst=some y):F6 o=true:=by
 unfold Ah at h;rw[eU]at h;have:=h o (by rw[mL];exact ij hi);rw[hd]at this;simpa using this
theorem xJ{r:VR}(hv:gh T o s=r)(h1:∀cs,r≠.new cs)(h2:r≠.stuck)(h:F6 o=true):False:=by
 subst hv;unfold F6 at h;rw[aM]at h;replace h:=h.1;cases hop:o.op<;>rw[hop]at h<;>simp at h
 case alloc e=>
  unfold gh at h1 h2;rw[hop]at h1 h2;cases hg:T.get e with
  |none=>simp[hg]at h2
  |some y=>
   cases hd:T.dat e with
   |true=>simp[hg,hd]at h2
   |false=>simp[hg,hd]at h1
 case box e x=>
  unfold gh at h1 h2;rw[hop]at h1 h2;cases hx:s.ev x with
  |val v=>
   cases hd:T.dat e with
   |true=>simp[hx,hd]at h2
   |false=>simp[hx,hd]at h1
  |ptr q r=>simp[hx]at h2
  |junk=>simp[hx]at h2
theorem MV(hg:gA ops o s=some false)(h:F6 o=true):False:=by
 unfold F6 at h;rw[aM]at h;have h:=h.2;unfold gA at hg;cases hgo:o.guard with
 |none=>rw[hgo]at hg;simp at hg
 |some q=>rw[hgo]at h;simp at h
theorem JV{s0:VS}{b n x:Nat}{i:Nat}(h:sX ops s0 b (n+1) x=true)(hi:ops[i]? =some o)(hd:o.dst=some x):(match o.op with
  | .fieldAddr _ (.tmp z) _=>sX ops s0 b n z
  | .indexAddr _ (.tmp z) _=>sX ops s0 b n z
  | .move (.tmp z)=>sX ops s0 b n z
  | .nilCheck (.tmp z)=>sX ops s0 b n z
  |_=>false)=true:=by
 unfold sX at h;rw[aM,eU]at h;have:=h.2 o (by rw[mL];exact ij hi);rw[hd]at this;simpa using this
theorem CA{ty:TypeId}{x:Operand}{f b off:Nat}(hop:o.op=.fieldAddr ty x f)(h:gh T o s=.val (.ptr b off)):∃q,s.ev x=.ptr b q:=by
 unfold gh at h;rw[hop]at h;cases hx:s.ev x with
 |ptr q r=>
  simp only[hx,aO]at h
  (repeat' (first|(simp at h;done)|split at h))
  injection h with h;injection h with h1 _;subst h1;exact⟨_,rfl⟩
 |val v=>simp[hx]at h
 |junk=>simp[hx]at h
theorem OC{ty:TypeId}{x i:Operand}{b off:Nat}(hop:o.op=.indexAddr ty x i)(h:gh T o s=.val (.ptr b off)):∃q,s.ev x=.ptr b q:=by
 unfold gh at h;rw[hop]at h;cases hx:s.ev x with
 |ptr q r=>
  simp only[hx]at h;split at h
  ·rename_i v hv;injection h with h;subst h;unfold xC at hv;split at hv
   ·simp only[aO]at hv;split at hv
    ·injection hv with hv;injection hv with h1 _;subst h1;exact⟨_,rfl⟩
    ·simp at hv
   ·simp at hv
  ·simp at h
 |val v=>
  simp only[hx,aO]at h
  (repeat' (first|(simp at h;done)|split at h))
 |junk=>
  simp only[hx,aO]at h
  (repeat' (first|(simp at h;done)|split at h))
theorem A0{cs:List Value}(h:gh T o s=.new cs):(∃e,o.op=.alloc e)∨∃e x,o.op=.box e x:=by
 cases hop:o.op with
 |alloc e=>exact .inl ⟨e,rfl⟩
 |box e x=>exact .inr ⟨e,x,rfl⟩
 |_=>
  unfold gh at h;simp only[hop,aO]at h
  (repeat' (first|(simp at h;done)|split at h))
theorem FG{t d i:Nat}(h:DU ops t=true)(hi:ops[i]? =some o)(hd:o.dst=some d):d≠t:=by
 unfold DU at h;rw[eU]at h;have:=h o (by rw[mL];exact ij hi);rw[hd]at this;rintro rfl;simp at this
theorem iV.put{s0:VS}{i:Nat}{v:SV}(h:iV ops s0 s)(hi:ops[i]? =some o)(hv:∀b off,v=.ptr b off→gh T o s=.val v)(BV:F6 o=true→False)(hnv:o.guard=none→∀u,v=.val u→∀ty z f,o.op=.fieldAddr ty (.tmp z) f→∃w,s.ev (.tmp z)=.val w):iV ops s0 (s.put o.dst v):=by
 refine⟨fun t ht=>?_,fun n b t ht q=>?_,fun y hy=>?_,fun n t ht u=>?_,fun n b t ht u hu=>?_⟩
 ·cases hd:o.dst with
  |none=>exact h.1 t ht
  |some d=>
   have:=FG ht hi hd;simp only[VS.put,bA,if_neg this];exact h.1 t ht
 ·cases hd:o.dst with
  |none=>exact h.2.1 n b t ht q
  |some d=>
   by_cases NX:d=t
   ·subst NX;simp only[VS.put,bA,e8];intro he;split at he
    ·injection he with he;have pX:=hv b q he;rw[he]at pX;cases n with
     |zero=>simp[sX]at ht
     |succ n=>
      have hm:=JV ht hi hd;split at hm
      ·rename_i z _ hop;obtain⟨r,hr⟩:=CA hop pX;refine h.2.1 n b z hm r ?_;simp only[VS.ev,List.getD]at hr;cases hz:s.tmps[z]? with
       |none=>rw[hz]at hr;simp at hr
       |some y=>rw[hz]at hr;simp at hr;rw[hr]
      ·rename_i z _ hop;obtain⟨r,hr⟩:=OC hop pX;refine h.2.1 n b z hm r ?_;simp only[VS.ev,List.getD]at hr;cases hz:s.tmps[z]? with
       |none=>rw[hz]at hr;simp at hr
       |some y=>rw[hz]at hr;simp at hr;rw[hr]
      ·rename_i z hop;have hr:s.ev (.tmp z)=.ptr b q:=by
        unfold gh at pX;rw[hop]at pX;injection pX
       refine h.2.1 n b z hm q ?_;simp only[VS.ev,List.getD]at hr;cases hz:s.tmps[z]? with
       |none=>rw[hz]at hr;simp at hr
       |some y=>rw[hz]at hr;simp at hr;rw[hr]
      ·rename_i z hop;have hr:s.ev (.tmp z)=.ptr b q:=by
        unfold gh at pX;rw[hop]at pX;simp only at pX;split at pX
        ·rename_i b1 o1 hx;injection pX with h1;rw[hx,h1]
        ·simp at pX
        ·simp at pX
       refine h.2.1 n b z hm q ?_;simp only[VS.ev,List.getD]at hr;cases hz:s.tmps[z]? with
       |none=>rw[hz]at hr;simp at hr
       |some y=>rw[hz]at hr;simp at hr;rw[hr]
      ·simp at hm
    ·simp at he
   ·simp only[VS.put,bA,if_neg NX];exact h.2.1 n b t ht q
 ·cases hd:o.dst with
  |none=>exact h.2.2.1 y hy
  |some d=>
   by_cases NX:d=y
   ·subst NX;exact(BV (MW hy hi hd)).elim
   ·simp only[VS.put,bA,if_neg NX];exact h.2.2.1 y hy
 rotate_left
 ·cases hd:o.dst with
  |none=>rw[hd]at hu;exact h.2.2.2.2 n b t ht u hu
  |some d=>
   rw[hd]at hu;by_cases NX:d=t
   ·subst NX;simp only[VS.put,bA,e8]at hu;split at hu
    ·injection hu with hu;cases n with
     |zero=>simp[Rb]at ht
     |succ n=>
      obtain⟨hg,hm⟩:=OW ht hi hd;split at hm
      ·rename_i ty z f hop;have hz:∀w,s.ev (.tmp z)=w→w≠.junk→(∀u,w≠.val u)∧∀c o,w=.ptr c o→c=b:=fun w hw hj=>by
        refine h.2.2.2.2 n b z hm w ?_;simp only[VS.ev,List.getD]at hw;cases hz:s.tmps[z]? with
        |none=>rw[hz]at hw;simp at hw;exact absurd hw.symm hj
        |some y=>rw[hz]at hw;simp at hw;rw[hw]
       refine⟨fun q hq=>?_,fun c o hc=>?_⟩
       ·obtain⟨w,hw⟩:=hnv hg q (hu.trans hq) ty z f hop;exact(hz _ hw (by simp)).1 w rfl
       ·have pX:=hv c o (hu.trans hc);rw[hu.trans hc]at pX;obtain⟨r,hr⟩:=CA hop pX;exact(hz _ hr (by simp)).2 c r rfl
      ·simp at hm
    ·simp at hu
   ·simp only[VS.put,bA,if_neg NX]at hu;exact h.2.2.2.2 n b t ht u hu
 ·cases hd:o.dst with
  |none=>exact h.2.2.2.1 n t ht u
  |some d=>
   by_cases NX:d=t
   ·subst NX;simp only[VS.put,bA,e8];intro he;split at he
    ·injection he with he;cases n with
     |zero=>simp[BZ]at ht
     |succ n=>
      obtain⟨hg,hm⟩:=JU ht hi hd;split at hm
      ·rename_i ty z f hop;obtain⟨w,hw⟩:=hnv hg u he ty z f hop;refine h.2.2.2.1 n z hm w ?_;simp only[VS.ev,List.getD]at hw;cases hz:s.tmps[z]? with
       |none=>rw[hz]at hw;simp at hw
       |some y=>rw[hz]at hw;simp at hw;rw[hw]
      ·simp at hm
    ·simp at he
   ·simp only[VS.put,bA,if_neg NX];exact h.2.2.2.1 n t ht u
def VU(s0:VS)(ops:Array Oper)(oj oi:Oper):Bool:=
 match oj.op with
 | .load _ (.tmp x)=>BZ ops s0 4 x&& !gO oi
 |_=>false
def W7(s0:VS)(ops:Array Oper)(oj oi:Oper):Bool:=
 match oj.op,oi.op with
 | .load _ (.tmp x),.store _ (.tmp y) _=>match s0.tmps[y]? with
  |some (.ptr b2 _)=>DU ops y&&sX ops s0 b2 4 x
  |some .junk=>match Qc ops s0 4 y with
   |some b=>Rb ops s0 b 4 y&&sX ops s0 b 4 x
   |none=>Ah ops y&&sX ops s0 y 4 x
  |_=>false
 |_,_=>false
theorem tE{x:Nat}{v:SV}(hv:v≠.junk)(h:s.ev (.tmp x)=v):s.tmps[x]? =some v:=by
 simp only[VS.ev,List.getD]at h;cases hz:s.tmps[x]? with
 |none=>rw[hz]at h;simp at h;exact absurd h.symm hv
 |some u=>rw[hz]at h;simp at h;rw[h]
theorem yi{s0:VS}{oj oi:Oper}(h:W7 s0 ops oj oi=true)(hk:iV ops s0 s):∃tj x ti y v,oj.op=.load tj (.tmp x)∧oi.op=.store ti (.tmp y) v∧(∀u,s.ev (.tmp y)≠.val u)∧∀b o,s.ev (.tmp y)=.ptr b o→∀o1,s.ev (.tmp x)≠.ptr b o1:=by
 unfold W7 at h;split at h
 ·rename_i tj x ti y v hj hi;split at h
  ·rename_i b2 o2 g2;simp only[aM]at h;obtain⟨h2,h3⟩:=h;have e2:=hk.1 y h2;rw[g2]at e2;have ey:s.ev (.tmp y)=.ptr b2 o2:=by simp[VS.ev,List.getD,e2]
   refine⟨tj,x,ti,y,v,hj,hi,fun u hu=>?_,fun b o hb o1 he=>?_⟩
   ·rw[ey]at hu;simp at hu
   ·rw[ey]at hb;injection hb with hb _;subst hb;exact hk.2.1 4 b2 x h3 o1 (tE (by simp) he)
  ·rename_i g2;cases hr:Qc ops s0 4 y with
   |some b1=>
    rw[hr]at h;simp only[aM]at h;obtain⟨h2,h3⟩:=h;refine⟨tj,x,ti,y,v,hj,hi,fun u hu=>?_,fun b o hb o1 he=>?_⟩
    ·exact(hk.2.2.2.2 4 b1 y h2 _ (tE (by simp) hu)).1 u rfl
    ·obtain rfl:=(hk.2.2.2.2 4 b1 y h2 _ (tE (by simp) hb)).2 b o rfl;exact hk.2.1 4 b x h3 o1 (tE (by simp) he)
   |none=>
   rw[hr]at h;simp only[aM]at h;obtain⟨h2,h3⟩:=h;have e2:=hk.2.2.1 y h2;rw[g2]at e2;refine⟨tj,x,ti,y,v,hj,hi,fun u hu=>?_,fun b o hb o1 he=>?_⟩
   ·have:=tE (by simp) hu;rw[this]at e2;simp at e2
   ·have:=tE (by simp) hb;rw[this]at e2;simp at e2;obtain⟨rfl,_⟩:=e2;exact hk.2.1 4 b x h3 o1 (tE (by simp) he)
  ·simp at h
 ·simp at h
theorem xV{s0:VS}{oj oi:Oper}(h:VU s0 ops oj oi=true)(hk:iV ops s0 s):gO oi=false∧∃ty x,oj.op=.load ty x∧∀u,s.ev x≠.val u:=by
 unfold VU at h;split at h
 ·rename_i ty x hop;simp only[aM,cD]at h;exact⟨h.2,ty,.tmp x,hop,fun u hu=>hk.2.2.2.1 4 x h.1 u (tE (by simp) hu)⟩
 ·simp at h
theorem Md{ty:TypeId}{x v:Operand}(hop:o.op=.store ty x v)(h:gh T o s=.own):∃u,s.ev x=.val u:=by
 cases hx:s.ev x with
 |val u=>exact⟨u,rfl⟩
 |ptr q r=>
  exfalso
  unfold gh at h;rw[hop]at h;simp only[hx]at h;cases hv:s.ev v with
  |val u=>
   rw[hv]at h;simp only[aO]at h
   (repeat' (first|(simp at h;done)|split at h))
  |ptr q r=>rw[hv]at h;simp at h
  |junk=>rw[hv]at h;simp at h
 |junk=>
  exfalso
  unfold gh at h;rw[hop]at h;simp only[hx]at h;simp at h
theorem Me{ty:TypeId}{x v:Operand}{b:Nat}{cs:List Value}(hop:o.op=.store ty x v)(h:gh T o s=.upd b cs):∃q,s.ev x=.ptr b q:=by
 cases hx:s.ev x with
 |val u=>
  exfalso
  unfold gh at h;rw[hop]at h;simp only[hx]at h;cases hv:s.ev v<;>rw[hv]at h<;>simp at h
 |junk=>
  exfalso
  unfold gh at h;rw[hop]at h;simp only[hx]at h;simp at h
 |ptr q r=>
  unfold gh at h;rw[hop]at h;simp only[hx]at h;cases hv:s.ev v with
  |val u=>
   rw[hv]at h;simp only[aO]at h
   (repeat' (first|(simp at h;done)|split at h))
   injection h with h1 _;subst h1;exact⟨_,rfl⟩
  |ptr q r=>rw[hv]at h;simp at h
  |junk=>rw[hv]at h;simp at h
theorem S3{t off:Nat}(hw:s.wf)(h:gh T o s=.val (.ptr t off)):∃cs,s.boxes[t]? =some (some cs):=by
 unfold gh at h;cases hop:o.op<;>simp only[hop]at h
 case move x=>injection h with h;exact fN hw h
 case assign x=>injection h with h;exact fN hw h
 case nilCheck x=>
  split at h
  ·rename_i b1 o1 hx;injection h with h;rw[h]at hx;exact fN hw hx
  ·simp at h
  ·simp at h
 case pick c x y=>
  split at h
  ·rename_i b hc;injection h with h;cases b
   ·exact fN hw h
   ·exact fN hw h
  ·simp at h
 case fieldAddr ty x f=>
  split at h
  ·rename_i b off hx;simp only[aO]at h
   (repeat' (first|(simp at h;done)|split at h))
   injection h with h;injection h with h1 h2;subst h1;exact fN hw hx
  ·simp at h
  ·simp at h
 case indexAddr ty x i=>
  split at h
  ·rename_i b off hx;split at h
   ·rename_i v hv;injection h with h;subst h;unfold xC at hv;split at hv
    ·rename_i k n y _ _;cases hc:(Nat.beq y.kind 4&&(Ut n y.alen&& !Nat.beq y.esize 0))with
     |false=>simp[hc]at hv
     |true=>
      simp only[hc,bV]at hv;injection hv with hv;injection hv with h1 h2;subst h1;exact fN hw hx
    ·simp at hv
   ·simp at h
  ·exfalso
   simp only[aO]at h
   (repeat' (first|(simp at h;done)|split at h))
 all_goals
  exfalso
  (try simp only[aO]at h)
  (repeat' (first|(simp at h;done)|split at h))
theorem Xp{t:Nat}{cs:List Value}(hw:s.wf)(hb:s.boxes[t]? =some none):VS.wf {s with tmps:=s.tmps.set t (.ptr t 0),boxes:=s.boxes.set t (some cs)}:=by
 have hl:t<s.boxes.length:=(List.getElem?_eq_some_iff.1 hb).1;intro i u off hi;simp only[bA]at hi⊢;by_cases Hq:t=u
 ·subst Hq;exact⟨cs,by simp[hl]⟩
 ·rw[if_neg Hq];split at hi
  ·split at hi
   ·injection hi with hi;injection hi with hi _;exact absurd hi Hq
   ·simp at hi
  ·exact hw i u off hi
theorem Xq{b:Nat}{cs:List Value}(hw:s.wf):VS.wf {s with boxes:=s.boxes.set b (some cs)}:=by
 intro i u off hi;obtain⟨c,hc⟩:=hw i u off hi;simp only[bA];by_cases hbu:b=u
 ·subst hbu;have hl:b<s.boxes.length:=(List.getElem?_eq_some_iff.1 hc).1;exact⟨cs,by simp[hl]⟩
 ·rw[if_neg hbu];exact⟨c,hc⟩
theorem nY{K K':VS→List aD→Prop}{Γ:List aD}{s0:VS}{i:Nat}(hi:ops[i]? =some o)(pj:iV ops s0 s)(hw:s.wf)(hk:∀s Γ,iV ops s0 s→s.wf→K s Γ→K' s Γ)(h:pQ T P ops o K s Γ):pQ T P ops o K' s Γ:=by
 have x5:∀{s:VS} {v:Value} t off,SV.val v=.ptr t off→∃cs,s.boxes[t]? =some (some cs):=fun _ _ h=>by simp at h
 unfold pQ at h⊢;split at h
 ·rename_i hg
  (try rw[hg])
  (try simp only)
  unfold sF at h⊢;split at h
  ·rename_i v hv
   (try rw[hv])
   exact hk _ _ (pj.put hi (fun _ _ _=>hv) (xJ hv (fun _=>by simp) (by simp)) (fun _ u hu=>w8 hv (fun b q e=>by injection e with e;rw[hu]at e;simp at e) (by simp) (by simp))) (uu hw (fun t off e=>S3 hw (by rw[hv,e]))) h
  ·rename_i cs hv
   (try rw[hv])
   split at h
   ·rename_i t ht
    (try rw[ht])
    refine⟨h.1,hk _ _ ⟨fun u hu=>?_,fun n b u hu q=>?_,fun y hy=>?_,fun n u hu v=>?_,fun n b u hu v hv'=>?_⟩ (Xp hw h.1) h.2⟩
    ·have:=FG hu hi ht;simp only[bA,if_neg this];exact pj.1 u hu
    ·by_cases Hq:t=u
     ·subst Hq;cases n with
      |zero=>simp[sX]at hu
      |succ n=>
       have hm:=JV hu hi ht;rcases A0 hv with⟨e,he⟩|⟨e,x,he⟩<;>rw[he]at hm<;>simp at hm
     ·simp only[bA,if_neg Hq];exact pj.2.1 n b u hu q
    ·by_cases hty:t=y
     ·subst hty;by_cases hlt:t<s.tmps.length
      ·exact .inr (by simp[hlt])
      ·have e:s.tmps.set t (.ptr t 0)=s.tmps:=List.set_eq_of_length_le (gL hlt);show(s.tmps.set t (.ptr t 0))[t]? =_∨(s.tmps.set t (.ptr t 0))[t]? =_;rw[e];exact pj.2.2.1 _ hy
     ·simp only[bA,if_neg hty];exact pj.2.2.1 y hy
    ·by_cases Hq:t=u
     ·subst Hq;cases n with
      |zero=>simp[BZ]at hu
      |succ n=>
       have hm:=(JU hu hi ht).2;rcases A0 hv with⟨e,he⟩|⟨e,x,he⟩<;>rw[he]at hm<;>simp at hm
     ·simp only[bA,if_neg Hq];exact pj.2.2.2.1 n u hu v
    ·by_cases Hq:t=u
     ·subst Hq;cases n with
      |zero=>simp[Rb]at hu
      |succ n=>
       have hm:=(OW hu hi ht).2;rcases A0 hv with⟨e,he⟩|⟨e,x,he⟩<;>rw[he]at hm<;>simp at hm
     ·simp only[bA,if_neg Hq]at hv';exact pj.2.2.2.2 n b u hu v hv'
   ·exact h.elim
  ·rename_i b cs hv
   (try rw[hv])
   exact hk _ _ (iV.put (T:=T) (s:={s with boxes:=s.boxes.set b (some cs)}) pj hi (fun _ _ e=>by simp at e) (xJ hv (fun _=>by simp) (by simp)) (fun _ _ _ ty z f hop=>w8 (T:=T) (s:=s) hv (fun _ _=>by simp) (by simp) (by simp) ty z f hop)) (uu (Xq hw) x5) h
  ·rename_i hv
   (try rw[hv])
   obtain⟨v,ht,h⟩:=h;exact⟨v,ht,hk _ _ (iV.put (T:=T) pj hi (fun _ _ e=>by simp at e) (xJ hv (fun _=>by simp) (by simp)) (fun _ _ _=>OU hv)) (uu hw x5) h⟩
  ·rename_i hv
   (try rw[hv])
   obtain⟨post,hp,h⟩:=h;exact⟨post,hp,fun v Δ xR=>hk _ _ (iV.put (T:=T) pj hi (fun _ _ e=>by simp at e) (xJ hv (fun _=>by simp) (by simp)) (fun _ _ _ ty z f hop=>w8 (T:=T) (s:=s) hv (fun _ _=>by simp) (by simp) (by simp) ty z f hop)) (uu hw x5) (h v Δ xR)⟩
  ·rename_i hv
   (try rw[hv])
   obtain⟨post,hp,h⟩:=h;exact⟨post,hp,fun v O M Δ xR=>hk _ _ (iV.put (T:=T) (s:={s with own:=O,maps:=M}) pj hi (fun _ _ e=>by simp at e) (xJ hv (fun _=>by simp) (by simp)) (fun _ _ _ ty z f hop=>w8 (T:=T) (s:=s) hv (fun _ _=>by simp) (by simp) (by simp) ty z f hop)) (uu (s:={s with own:=O,maps:=M}) hw x5) (h v O M Δ xR)⟩
  ·rename_i f args hv
   (try rw[hv])
   exact h.mono fun v O M Γ' hvk=>hk _ _ (iV.put (T:=T) (s:={s with own:=O,maps:=M}) pj hi (fun _ _ e=>by simp at e) (xJ hv (fun _=>by simp) (by simp)) (fun _ _ _ ty z f hop=>w8 (T:=T) (s:=s) hv (fun _ _=>by simp) (by simp) (by simp) ty z f hop)) (uu (s:={s with own:=O,maps:=M}) hw x5) hvk
  ·exact h.elim
 ·rename_i hg
  (try rw[hg])
  exact hk _ _ (iV.put (T:=T) pj hi (fun _ _ e=>by simp at e) (MV hg) (fun hgn=>by unfold gA at hg;rw[hgn]at hg;simp at hg)) (uu hw x5) h
 ·exact h.elim
end
def mD(T:Tb)(P:Program)(ops:Array Oper)(K:VS→List aD→Prop):List Nat→VS→List aD→Prop
 | [],s,Γ=>K s Γ
 |i::r,s,Γ=>match ops[i]? with
  |some o=>pQ T P ops o (mD T P ops K r) s Γ
  |none=>False
theorem jB{T:Tb}{P:Program}{ops:Array Oper}{K:VS→List aD→Prop}{i:Nat}{o:Oper}(ho:ops[i]? =some o)(r:List Nat):mD T P ops K (i::r)=pQ T P ops o (mD T P ops K r):=by
 funext s Γ;simp only[mD,ho]
def ZM(T:Tb)(o:Oper):Bool:=match o.dst with|some t=>lK t T.pins|none=>false
def km(T:Tb)(s0:VS)(ops:Array Oper)(j i:Nat):Bool:=
 match ops[j]?,ops[i]? with
 |some oj,some oi=> !zh T oj&& !gO oj&&(!(gO oi||Sf oi||(T.hand&&(Cp oi&& !Cq T oi)))||iY T oj||W7 s0 ops oj oi||VU s0 ops oj oi)&&(oj.apart ops oi&& !ZM T oj)
 |_,_=>false
theorem lS{T:Tb}{P:Program}{ops:Array Oper}{K:VS→List aD→Prop}{i:Nat}{oi:Oper}{Mt:List Nat}{s0:VS}(hi:ops[i]? =some oi):
  ∀(pre:List Nat) (s:VS) (Γ:List aD),s.wf→iV ops s0 s→(∀j∈pre,km T s0 ops j i=true)→mD T P ops K (pre++i::Mt) s Γ→pQ T P ops oi (mD T P ops K (pre++Mt)) s Γ
 | [],s,Γ,_,_,_,h=>by
  rw[az,jB hi]at h;exact h
 |j::pre,s,Γ,hw,pj,QU,h=>by
  have hj:=QU j (by simp);unfold km at hj;rw[hi]at hj;cases hoj:ops[j]? with
  |none=>rw[hoj]at hj;simp at hj
  |some oj=>
   rw[cT,jB hoj]at h⊢;rw[hoj]at hj;simp only[aM,cD,eu,sO]at hj;obtain⟨⟨⟨h1,h2⟩,h3⟩,h4,h4p⟩:=hj;have Lu:∀t,oj.dst=some t→lK t T.pins=false:=fun t ht=>by
    unfold ZM at h4p;rw[ht]at h4p;exact h4p
   obtain⟨a1,a2,a3⟩:=Oper.apart_spec h4;have:=nY hoj pj hw (fun s' Γ' hk' RR h'=>lS hi pre s' Γ' RR hk' (fun k hk=>QU k (by simp[hk])) h') h;by_cases hown:gh T oi s=.own
   ·have hm:iY T oj=true∨∃ty x,oj.op=.load ty x∧∀u,s.ev x≠.val u:=by
     rcases h3 with((h3|hm)|Ip)|hlo
     ·rcases sE hown with h'|⟨h',_⟩
      ·rw[h3.1.1]at h';simp at h'
      ·rw[h3.1.2]at h';simp at h'
     ·exact .inl hm
     ·obtain⟨tj,x,ti,y,v,Y7,Y6,hy,hne⟩:=yi Ip pj;obtain⟨u,hu⟩:=Md Y6 hown;exact(hy u hu).elim
     ·exact .inr (xV hlo pj).2
    have:=EL hw h1 h2 hm hown a1 a2 a3 this;exact this
   cases hst:gO oi with
   |false=>
    have hcl:T.hand=true→(Cp oi&& !Cq T oi)=true→iY T oj=true∨∃ty x,oj.op=.load ty x∧∀u,s.ev x≠.val u:=fun ht hc=>by
     rcases h3 with((h3|hm)|Ip)|hlo
     ·rw[ht,hc]at h3;simp at h3
     ·exact .inl hm
     ·obtain⟨tj,x,ti,y,v,Y7,Y6,hy,hne⟩:=yi Ip pj;rw[gO,Y6]at hst;simp at hst
     ·exact .inr (xV hlo pj).2
    have:=QA hw h1 h2 hst hown Lu hcl a1 a2 a3 this;exact this
   |true=>
    have hev:∀(b:Nat) (cs:List Value) (x:Operand),x∈oj.op.operands→(({s with boxes:=s.boxes.set b (some cs)}:VS).put oi.dst (.val undef)).ev x=s.ev x:=by
     intro b cs x hx;have:=rM (s:={s with boxes:=s.boxes.set b (some cs)}) (e:=.put (.val undef)) (mj a3 hx);simp only[VS.app]at this;rw[this];cases x<;>rfl
    rcases h3 with((h3|hm)|Ip)|hlo
    rotate_right
    ·have:=(xV hlo pj).1;rw[hst]at this;simp at this
    ·rw[hst]at h3;simp at h3
    ·have:=uq hw h1 h2 (fun cs hc=>tO hm hc) hst hown (fun b cs _=>mG hm (hev b cs)) a1 a2 a3 this;exact this
    ·obtain⟨tj,x,ti,y,v,Y7,Y6,hy,hne⟩:=yi Ip pj;have:=uq hw h1 h2 (fun cs hc=>AV Y7 hc) hst hown (fun b cs hu=>by
      obtain⟨q,hq⟩:=Me Y6 hu;refine AW Y7 (hev b cs (.tmp x) (by rw[Y7];simp[Op.operands])) (fun b1 o1 hx=>?_);have hn:b1≠b:=by
       rintro rfl;exact hne _ _ hq _ hx
      cases oi.dst<;>simp[VS.put,List.getD,bA,Ne.symm hn]) a1 a2 a3 this
     exact this
theorem tr{a b:Nat}(h:Nat.blt a b=true):a<b:=by rw[Nat.blt_eq]at h;exact h
def xW(o:Oper)(acc:List Nat):Nat:=o.after.toList.foldr (fun e s=>bif Region.binds .any e then s|||(2^e.on|||acc.getD e.on 0)else s) 0
def sK:List Oper→List Nat→List Nat
 | [],acc=>acc
 |o::r,acc=>sK r (acc++[xW o acc])
def xO:List Oper→Nat→Bool
 | [],_=>true
 |o::r,k=>o.after.toList.all (fun e=> !Region.binds .any e||Nat.blt e.on k)&&xO r (k+1)
def tV(T:Tb)(s0:VS)(ops:Array Oper)(bm:List Nat):List Nat→Bool
 | []=>true
 |i::r=>r.all (fun j=>Nat.testBit (bm.getD j 0) i||km T s0 ops i j)&&tV T s0 ops bm r
def xZ:List Nat→Bool
 | []=>true
 |i::r=> !lK i r&&xZ r
def JW(T:Tb)(s0:VS)(ops:Array Oper)(ord:List Nat):Bool:=
 Nat.beq ord.length ops.size&&(List.range ops.size).all (fun i=>lK i ord)&&ord.all (fun i=>Nat.blt i ops.size)&&xZ ord&&xO ops.toList 0&&tV T s0 ops (sK ops.toList []) ord
def qz(o:Oper):Bool:= !gO o&&(!Sf o&& !Cp o)
def exB(bm:List Nat)(j i x y:Nat):Bool:=(Nat.beq y i||Nat.testBit (bm.getD y 0) i)&&(Nat.beq x j||Nat.testBit (bm.getD j 0) x)
def Eu(T:Tb)(s0:VS)(ops:Array Oper)(bm:List Nat)(j i:Nat):List Nat→Bool
 | []=>true
 |x::r=>r.all (fun y=>Nat.testBit (bm.getD y 0) x||km T s0 ops x y||exB bm j i x y)&&Eu T s0 ops bm j i r
def OV(T:Tb)(s0:VS)(ops:Array Oper)(j i:Nat)(l:List Nat):Bool:=
 Nat.beq l.length ops.size&&((List.range ops.size).all (fun x=>lK x l)&&(l.all (fun x=>Nat.blt x ops.size)&&(xZ l&&Eu T s0 ops (sK ops.toList []) j i l)))
def Uo(ops:Array Oper)(bm:List Nat)(j i x:Nat):Bool:=(match ops[x]? with|some o=>qz o|none=>true)||(Nat.beq x j||(Nat.beq x i||(Nat.testBit (bm.getD x 0) j||Nat.testBit (bm.getD x 0) i)))
def JX(T:Tb)(s0:VS)(ops:Array Oper)(j i:Nat)(l1 l2:List Nat):Bool:=
 !Nat.beq j i&&(Nat.blt j ops.size&&(Nat.blt i ops.size&&(xO ops.toList 0&&((List.range ops.size).all (fun x=>Uo ops (sK ops.toList []) j i x)&&(OV T s0 ops j i l1&&OV T s0 ops i j l2)))))
def Jp(T:Tb)(s0:VS)(ops:Array Oper)(bm:List Nat):List Nat→Option (Nat×Nat)
 | []=>none
 |x::r=>match r.find? (fun y=> !(Nat.testBit (bm.getD y 0) x||km T s0 ops x y))with
  |some y=>some (x,y)
  |none=>Jp T s0 ops bm r
def mU(j:Nat):List Nat→List Nat
 | []=>[]
 |x::r=>bif Nat.beq x j then []else x::mU j r
def DI(j:Nat):List Nat→List Nat
 | []=>[]
 |x::r=>bif Nat.beq x j then r else DI j r
def Z2(T:Tb)(s0:VS)(ops:Array Oper)(ord:List Nat):Option (Nat×Nat×List Nat×List Nat):=
 match Jp T s0 ops (sK ops.toList []) ord with
 |none=>none
 |some (j,i)=>some (j,i,ord,mU j ord++((DI j ord).filter fun x=>Nat.beq x i||Nat.testBit ((sK ops.toList []).getD i 0) x)++j::((DI j ord).filter fun x=> !(Nat.beq x i||Nat.testBit ((sK ops.toList []).getD i 0) x)))
def Bs(T:Tb)(s0:VS)(ops:Array Oper)(x:Nat):List Nat→Option (List Nat)
 | []=>none
 |y::r=>bif Nat.beq y x then some r else(bif km T s0 ops y x then(match Bs T s0 ops x r with|some q=>some (y::q)|none=>none)else none)
def I5(ops:Array Oper)(x:Nat):Bool:=match ops[x]? with|some o=>qz o|none=>false
def IW(ops:Array Oper)(done:Nat)(i:Nat):Bool:=
 match ops[i]? with
 |some o=>o.after.toList.all (fun e=> !Region.binds .any e||Nat.testBit done e.on)
 |none=>false
def ZA(T:Tb)(s0:VS)(ops:Array Oper)(bm:List Nat):Nat→List (List Nat)→Nat→Bool
 |0,ls,_=>ls.any (tV T s0 ops bm)
 |n+1,ls,done=>ls.any (tV T s0 ops bm)||(List.range ops.size).all fun x=>Nat.testBit done x||(!IW ops done x||(bif I5 ops x then !(ls.filterMap (Bs T s0 ops x)).isEmpty&&ZA T s0 ops bm n (ls.filterMap (Bs T s0 ops x)) (done|||2^x)
   else(ls.filterMap (Bs T s0 ops x)).any fun l=>ZA T s0 ops bm n [l] (done|||2^x)))
def Uk(ops:Array Oper)(l:List Nat):Bool:=Nat.beq l.length ops.size&&((List.range ops.size).all (fun x=>lK x l)&&(l.all (fun x=>Nat.blt x ops.size)&&xZ l))
def Eg(T:Tb)(s0:VS)(ops:Array Oper)(ls:List (List Nat)):Bool:= !ls.isEmpty&&(xO ops.toList 0&&(ls.all (Uk ops)&&ZA T s0 ops (sK ops.toList []) ops.size ls 0))
theorem tX{T:Tb}{s0:VS}{ops:Array Oper}{bm:List Nat}{j i:Nat}:∀{l:List Nat},Eu T s0 ops bm j i l=true→l.Pairwise (fun x y=>Nat.testBit (bm.getD y 0) x=true∨km T s0 ops x y=true∨((y=i∨Nat.testBit (bm.getD y 0) i=true)∧(x=j∨Nat.testBit (bm.getD j 0) x=true)))
 | [],_=>List.Pairwise.nil
 |x::r,h=>by
  simp only[Eu,exB,aM,eU,eu]at h;exact List.Pairwise.cons (fun y hy=>(h.1 y hy).elim (fun q=>q.elim .inl (fun q=>.inr (.inl q))) (fun q=>.inr (.inr ⟨q.1.elim (fun e=>.inl (aI e)) .inr,q.2.elim (fun e=>.inl (aI e)) .inr⟩))) (tX h.2)
def Qa(ops:Array Oper)(done:Nat)(i:Nat):Bool:=
 match ops[i]? with
 |some o=>o.after.toList.all (fun e=> !Region.binds .any e||Nat.testBit done e.on)
 |none=>false
def WS(T:Tb)(ops:Array Oper)(i:Nat):Bool:=
 match ops[i]? with
 |some o=> !zh T o&& !gO o
 |none=>false
def O9(T:Tb)(ops:Array Oper):Nat→List Nat→Nat→List Nat
 |0,rem,_=>rem
 |n+1,rem,done=>match rem.find? (fun i=>WS T ops i&&Qa ops done i)with
  |some i=>i::O9 T ops n (rem.filter fun j=> !Nat.beq i j) (done|||2^i)
  |none=>match rem.find? (fun i=>Qa ops done i)with
   |some i=>i::O9 T ops n (rem.filter fun j=> !Nat.beq i j) (done|||2^i)
   |none=>rem
def J6(T:Tb)(ops:Array Oper):List Nat:=O9 T ops ops.size (List.range ops.size) 0
theorem nS{t:Nat}:∀{l:List Nat},lK t l=true↔t∈l
 | []=>by simp[lK]
 |u::r=>by
  unfold lK;cases hb:Nat.beq u t with
  |true=>simp[aI hb]
  |false=>
   have:¬t=u:=by
    rintro rfl;simp at hb
   simp[this,nS]
theorem nT:∀{l:List Nat},xZ l=true→l.Nodup
 | [],_=>List.nodup_nil
 |i::r,h=>by
  simp only[xZ,aM,cD]at h;refine List.nodup_cons.2 ⟨fun hm=>?_,nT h.2⟩;rw[nS.2 hm]at h;simp at h
def s7(ops:Array Oper)(cj:Array Bool):Prop:=∀j o,ops[j]? =some o→cj.getD j false=true→∀e∈o.after,Region.binds .any e=true→cj.getD e.on false=true
def xE(ops:Array Oper)(j i:Nat):Prop:=∀cj:Array Bool,s7 ops cj→(∀o,ops[j]? =some o→∀e∈o.after,Region.binds .any e=true→cj.getD e.on false=true)→cj.getD i false=true
theorem IC{o:Oper}{acc:List Nat}{i:Nat}(h:Nat.testBit (xW o acc) i=true):∃e∈o.after,Region.binds .any e=true∧(i=e.on∨Nat.testBit (acc.getD e.on 0) i=true):=by
 unfold xW at h;have:∀l:List Edge,Nat.testBit (l.foldr (fun e s=>bif Region.binds .any e then s|||(2^e.on|||acc.getD e.on 0)else s) 0) i=true→∃e∈l,Region.binds .any e=true∧(i=e.on∨Nat.testBit (acc.getD e.on 0) i=true):=by
  intro l
  induction l with
  |nil=>intro h;simp at h
  |cons e l ih=>
   intro h;simp only[List.foldr_cons]at h;cases hb:Region.binds .any e with
   |false=>
    simp only[hb,cI]at h;obtain⟨e',he',hh⟩:=ih h;exact⟨e',by simp[he'],hh⟩
   |true=>
    simp only[hb,bV,Nat.testBit_or,eu]at h;rcases h with h|h|h
    ·obtain⟨e',he',hh⟩:=ih h;exact⟨e',by simp[he'],hh⟩
    ·rw[Nat.testBit_two_pow]at h;exact⟨e,by simp,hb,.inl (by simpa using h:e.on=i).symm⟩
    ·exact⟨e,by simp,hb,.inr h⟩
 obtain⟨e,he,hh⟩:=this _ h;exact⟨e,by simpa using he,hh⟩
theorem rU{ops:Array Oper}:∀(r:List Oper) (acc:List Nat),(∀k o,r[k]? =some o→ops[acc.length+k]? =some o)→
  (∀j i,Nat.testBit (acc.getD j 0) i=true→xE ops j i)→∀j i,Nat.testBit ((sK r acc).getD j 0) i=true→xE ops j i
 | [],acc,_,h,j,i,hb=>h j i hb
 |o::r,acc,hr,h,j,i,hb=>by
  refine rU r (acc++[xW o acc]) (fun k o' hk=>?_) (fun j i hji=>?_) j i hb
  ·have:=hr (k+1) o' (by simpa using hk);rw[←this];congr 1;simp;omega
  ·by_cases hj:j<acc.length
   ·rw[show(acc++[xW o acc]).getD j 0=acc.getD j 0 from by simp only[List.getD];rw[cW hj]]at hji;exact h j i hji
   ·by_cases hj':j=acc.length
    ·subst hj';have ho:=hr 0 o (by simp);simp only[List.getD,dZ (ak _),nA,dO,jD]at hji;obtain⟨e,he,hbd,hh⟩:=IC hji;intro cj hc hl;have hon:=hl o (by simpa using ho) e he hbd;rcases hh with rfl|hh
     ·exact hon
     ·exact h e.on i hh cj hc (fun o' sV e' he' hb'=>hc e.on o' sV hon e' he' hb')
    ·have:(acc++[xW o acc]).getD j 0=0:=by
      simp only[List.getD];rw[l7 (by simp;omega)];rfl
     rw[this]at hji;simp at hji
theorem qe:∀(l:List Oper) (k:Nat),xO l k=true→∀i o,l[i]? =some o→∀e∈o.after,Region.binds .any e=true→e.on<k+i
 | [],_,_,i,o,hi,_,_,_=>by simp at hi
 |o'::r,k,h,i,o,hi,e,he,hb=>by
  simp only[xO,aM,eU]at h;cases i with
  |zero=>
   simp at hi;subst hi;have:=h.1 e (by simpa using he);simp only[hb,Bool.not_true,Bool.false_or]at this;have:=tr this;omega
  |succ i=>
   have:=qe r (k+1) h.2 i o (by simpa using hi) e he hb;omega
theorem tW{T:Tb}{s0:VS}{ops:Array Oper}{bm:List Nat}:∀{l:List Nat},tV T s0 ops bm l=true→l.Pairwise (fun i j=>Nat.testBit (bm.getD j 0) i=true∨km T s0 ops i j=true)
 | [],_=>List.Pairwise.nil
 |i::r,h=>by
  simp only[tV,aM,eU,eu]at h;exact List.Pairwise.cons (fun j hj=>h.1 j hj) (tW h.2)
section
variable{T:Tb}{P:Program}{w0:World}{I0:Mj}
theorem tg{s0:VS}{ops:Array Oper}{Q:Exit→Act→World→Prop}{K:VS→List aD→Prop}(hT:T.Ok P)(hE:∀i o,ops[i]? =some o→∀e∈o.after,Region.binds .any e=true→e.on<i)
  {bm:List Nat}(qO:∀j i,Nat.testBit (bm.getD j 0) i=true→xE ops j i)(hK:∀s Γ a w ρ,gZ T w0 I0 Γ s a w ρ→K s Γ→Q .normal a w)(vv:∀ch a w,T.pan ch→a.defers=I0.ds→j9 I0.x w0 w→(∃ks own,T.held ks own∧gn T own w∧∀x∈ks,a.tmps.getD x.1 undef=x.2)→Q (.panic ch) a w):
  ∀(fuel:Nat) (rem:List Nat) (cj:Array Bool) (s:VS) (Γ:List aD) (a:Act) (w:World) (ρ:Nat→Nat),rem.length≤fuel→cj.size=ops.size→(∀i,i∈rem↔(i<ops.size∧cj.getD i true=false))→
   rem.Nodup→s7 ops cj→rem.Pairwise (fun i j=>Nat.testBit (bm.getD j 0) i=true∨km T s0 ops i j=true)→iV ops s0 s→mD T P ops K rem s Γ→gZ T w0 I0 Γ s a w ρ→wpAny P .any ops Q fuel cj a w:=by
 have Zf:∀(rem:List Nat) (cj:Array Bool),cj.size=ops.size→(∀i,i∈rem↔(i<ops.size∧cj.getD i true=false))→Region.ready .any ops cj=[]→rem=[]:=by
  intro rem cj hsz vh hr;have:∀i,i∈rem→False:=by
   intro i
   induction i using Nat.strongRecOn with
   |_ i ih=>
    intro hi;obtain⟨hlt,hl⟩:=(vh i).1 hi;have hn:i∉Region.ready .any ops cj:=by rw[hr];simp
    rw[mem_ready]at hn;apply hn;refine⟨hl,ops[i],by simp[hlt],fun e he hb=>?_⟩;have hlt':=hE i ops[i] (by simp[hlt]) e he hb;cases hx:cj.getD e.on false with
    |true=>rfl
    |false=>
     exfalso
     refine ih e.on hlt' ((vh _).2 ⟨by omega,?_⟩);have:e.on<cj.size:=by omega
     simpa [this]using hx
  cases rem with
  |nil=>rfl
  |cons x r=>exact(this x (by simp)).elim
 intro fuel
 induction fuel with
 |zero=>
  intro rem cj s Γ a w ρ hlen hsz vh AE hc hp pj hv hs;have:rem=[]:=aN (by omega);subst this;refine⟨?_,hK _ _ _ _ _ hs hv⟩;cases hr:Region.ready .any ops cj with
  |nil=>rfl
  |cons i r=>
   have hi:i∈Region.ready .any ops cj:=by rw[hr];simp
   rw[mem_ready]at hi;obtain⟨h1,o,h2,_⟩:=hi;exact absurd ((vh i).2 ⟨cu h2,h1⟩) (by simp)
 |succ fuel ih=>
  intro rem cj s Γ a w ρ hlen hsz vh AE hc hp pj hv hs;refine⟨fun hr=>?_,fun i hi=>?_⟩
  ·have:=Zf rem cj hsz vh hr;subst this;exact hK _ _ _ _ _ hs hv
  ·rw[mem_ready]at hi;obtain⟨h1,o,h2,h3⟩:=hi;have lU:=(vh i).2 ⟨cu h2,h1⟩;obtain⟨pre,Mt,rfl⟩:=vG lU;have tK:=AE;rw[fC]at tK;have QU:∀j∈pre,km T s0 ops j i=true:=by
    intro j hj;have:=(List.pairwise_append.1 hp).2.2 j hj i (by simp);rcases this with h|h
    ·exfalso
     have hl:=qO i j h cj hc (fun o' sV e he hb=>by
      rw[h2]at sV;injection sV with sV;subst sV;exact h3 e he hb)
     have hjm:=(vh j).1 (by simp[hj]);have hlt:j<cj.size:=by omega
     have:=hjm.2;simp[hlt]at hl this;rw[hl]at this;simp at this
    ·exact h
   have hb:=lS h2 pre s Γ hs.wf pj QU hv;have hb:=nY (K':=fun s Γ=>iV ops s0 s∧mD T P ops K (pre++Mt) s Γ) h2 pj hs.wf (fun s Γ hk _ h=>⟨hk,h⟩) hb;refine oX hT h2 hb hs (fun s' Γ' a' w' ρ' hs' ⟨D3,hk'⟩=>?_) vv;have VC:i<cj.size:=by rw[hsz];exact cu h2
   refine ih (pre++Mt) _ s' Γ' a' w' ρ' (by simp at hlen⊢;omega) (by simp[hsz]) (fun j=>?_) ?_ ?_ ?_ D3 hk' hs'
   ·have hj:=vh j;by_cases hij:j=i
    ·subst hij;have hn1:j∉pre:=fun h=>(tK.2.2 j h j (by simp)) rfl;have hn2:j∉Mt:=(List.nodup_cons.1 tK.2.1).1;simp[hn1,hn2,VC]
    ·rw[getD_set_ne true (fun h=>hij h.symm),←hj];simp[hij]
   ·rw[fC];exact⟨tK.1,(List.nodup_cons.1 tK.2.1).2,fun x hx y hy=>tK.2.2 x hx y (by simp[hy])⟩
   ·intro j o' sV hl e he hb';by_cases hij:j=i
    ·subst hij;rw[h2]at sV;injection sV with sV;subst sV;exact getD_set_true (h3 e he hb')
    ·rw[getD_set_ne false (fun h=>hij h.symm)]at hl;exact getD_set_true (hc j o' sV hl e he hb')
   ·exact hp.sublist (by
     refine List.Sublist.append (List.Sublist.refl _) ?_;exact List.sublist_cons_self _ _)
theorem Bu{ops:Array Oper}(hE:∀i o,ops[i]? =some o→∀e∈o.after,Region.binds .any e=true→e.on<i)(rem:List Nat)(cj:Array Bool)(hsz:cj.size=ops.size)(vh:∀i,i∈rem↔(i<ops.size∧cj.getD i true=false))(hr:Region.ready .any ops cj=[]):rem=[]:=by
 have:∀i,i∈rem→False:=by
  intro i
  induction i using Nat.strongRecOn with
  |_ i ih=>
   intro hi;obtain⟨hlt,hl⟩:=(vh i).1 hi;have hn:i∉Region.ready .any ops cj:=by rw[hr];simp
   rw[mem_ready]at hn;apply hn;refine⟨hl,ops[i],by simp[hlt],fun e he hb=>?_⟩;have hlt':=hE i ops[i] (by simp[hlt]) e he hb;cases hx:cj.getD e.on false with
   |true=>rfl
   |false=>
    exfalso
    refine ih e.on hlt' ((vh _).2 ⟨by omega,?_⟩);have:e.on<cj.size:=by omega
    simpa [this]using hx
 cases rem with
 |nil=>rfl
 |cons x r=>exact(this x (by simp)).elim
def ze(T:Tb)(K:VS→List aD→Prop):Prop:=∀s Γ Γ',(∀I w,br T I w→aG Γ' I w→aG Γ I w)→K s Γ→K s Γ'
theorem zy{Γ Γ':List aD}(Δ:List aD)(h:∀I w,br T I w→aG Γ' I w→aG Γ I w):∀I w,br T I w→aG (Δ++Γ') I w→aG (Δ++Γ) I w:=fun I w hd hh F hF=>by
 rcases List.mem_append.1 hF with h1|h1
 ·exact hh F (gK _ h1)
 ·exact h I w hd (fun G hG=>hh G (ik _ hG)) F h1
theorem QB{ops:Array Oper}{o:Oper}{K:VS→List aD→Prop}(hK:ze T K):ze T (pQ T P ops o K):=by
 intro s Γ Γ' hi h;unfold pQ at h⊢;cases hg:gA ops o s with
 |none=>rw[hg]at h;exact h.elim
 |some g=>
  rw[hg]at h;cases g with
  |false=>exact hK _ _ _ hi h
  |true=>
   simp only[sF]at h⊢;cases hv:gh T o s with
   |val v=>rw[hv]at h;exact hK _ _ _ hi h
   |new cs=>
    rw[hv]at h;simp only at h⊢;cases hd:o.dst with
    |none=>rw[hd]at h;exact h.elim
    |some d=>rw[hd]at h;exact⟨h.1,hK _ _ _ hi h.2⟩
   |upd b cs=>rw[hv]at h;exact hK _ _ _ hi h
   |read=>
    rw[hv]at h;obtain⟨v,ht,hk⟩:=h;exact⟨v,⟨ht.all,fun I w hd hh ho=>ht.mem I w hd (hi I w hd hh) ho⟩,hK _ _ _ hi hk⟩
   |ask=>
    rw[hv]at h;obtain⟨post,hp,hk⟩:=h;exact⟨post,fun I w hd hh=>hp I w hd (hi I w hd hh),fun v Δ xR=>hK _ _ _ (zy Δ hi) (hk v Δ xR)⟩
   |own=>
    rw[hv]at h;obtain⟨post,hp,hk⟩:=h;exact⟨post,fun I w hd hh=>hp I w hd (hi I w hd hh),fun v O M Δ xR=>hK _ _ _ (zy Δ hi) (hk v O M Δ xR)⟩
   |call f args=>
    rw[hv]at h;rcases h with⟨post,hp,hk⟩|⟨h0,O1,Oin,O2,M1,Min,M2,post,e1,e2,eh,hp,hk⟩
    ·exact .inl ⟨post,⟨hp.1,fun I w hd hh=>hp.2 I w hd (hi I w hd hh)⟩,fun v O Δ xR=>hK _ _ _ (zy Δ hi) (hk v O Δ xR)⟩
    ·exact .inr ⟨h0,O1,Oin,O2,M1,Min,M2,post,e1,e2,eh,⟨hp.1,fun I w hd hh=>hp.2 I w hd (hi I w hd hh)⟩,fun v O M Δ xR=>hK _ _ _ (zy Δ hi) (hk v O M Δ xR)⟩
   |stuck=>rw[hv]at h;exact h.elim
theorem uY{ops:Array Oper}{K:VS→List aD→Prop}(hK:ze T K):∀l:List Nat,ze T (mD T P ops K l)
 | []=>hK
 |i::l=>by
  intro s Γ Γ' hi h;simp only[mD]at h⊢;cases ho:ops[i]? with
  |none=>rw[ho]at h;exact h.elim
  |some o=>rw[ho]at h;exact QB (uY hK l) s Γ Γ' hi h
theorem Hf{ops:Array Oper}{o:Oper}{K1 K2:VS→List aD→Prop}{s:VS}{Γ:List aD}{a:Act}{w:World}{ρ:Nat→Nat}(hsm:qz o=true)(hs:gZ T w0 I0 Γ s a w ρ)(k1:ze T K1)(k2:ze T K2)(h1:pQ T P ops o K1 s Γ)(h2:pQ T P ops o K2 s Γ):pQ T P ops o (fun s Γ=>K1 s Γ∧K2 s Γ) s Γ:=by
 simp only[qz,aM,cD]at hsm;unfold pQ at h1 h2⊢;cases hg:gA ops o s with
 |none=>rw[hg]at h1;exact h1.elim
 |some g=>
  rw[hg]at h1 h2;cases g with
  |false=>exact⟨h1,h2⟩
  |true=>
   simp only[sF]at h1 h2⊢;cases hv:gh T o s with
   |val v=>rw[hv]at h1 h2;exact⟨h1,h2⟩
   |new cs=>
    rw[hv]at h1 h2;simp only at h1 h2⊢;cases hd:o.dst with
    |none=>rw[hd]at h1;exact h1.elim
    |some d=>rw[hd]at h1 h2;exact⟨h1.1,h1.2,h2.2⟩
   |upd b cs=>rw[hv]at h1 h2;exact⟨h1,h2⟩
   |read=>
    rw[hv]at h1 h2;obtain⟨v1,ht1,hk1⟩:=h1;obtain⟨v2,ht2,hk2⟩:=h2;have e1:=ht1.mem _ w hs.dataOK hs.facts hs.own;have e2:=ht2.mem _ w hs.dataOK hs.facts hs.own;rw[e1]at e2;injection e2 with e2 _;injection e2 with e2;subst e2;exact⟨v1,ht1,hk1,hk2⟩
   |ask=>
    rw[hv]at h1 h2;obtain⟨ZN,hp1,hk1⟩:=h1;obtain⟨ZO,hp2,hk2⟩:=h2;refine⟨fun v Δ=>∃Δ1 Δ2,ZN v Δ1∧ZO v Δ2∧Δ=Δ1++Δ2,fun I w hd hh=>?_,?_⟩
    ·obtain⟨v1,Δ1,w1,e1,q1,b1,f1⟩:=hp1 I w hd hh;obtain⟨v2,Δ2,w2,e2,q2,b2,f2⟩:=hp2 I w hd hh;rw[e1]at e2;injection e2 with e2 e3;injection e2 with e2;subst e2 e3;exact⟨v1,Δ1++Δ2,w1,e1,⟨Δ1,Δ2,q1,q2,rfl⟩,b1,f1.append f2⟩
    ·rintro v Δ ⟨Δ1,Δ2,q1,q2,rfl⟩;refine⟨k1 _ _ _ (fun I w _ hh=>hh.sub (fun F hF=>?_)) (hk1 v Δ1 q1),k2 _ _ _ (fun I w _ hh=>hh.sub (fun F hF=>?_)) (hk2 v Δ2 q2)⟩
     ·rcases List.mem_append.1 hF with h|h<;>simp[h]
     ·rcases List.mem_append.1 hF with h|h<;>simp[h]
   |own=>
    rcases sE hv with h'|⟨h',_⟩
    ·rw[hsm.1]at h';simp at h'
    ·rw[hsm.2.1]at h';simp at h'
   |call f args=>
    have:=BL hv;rw[hsm.2.2]at this;simp at this
   |stuck=>rw[hv]at h1;exact h1.elim
theorem wB{ops:Array Oper}{cj:Array Bool}{pre Mt:List Nat}{i:Nat}(hsz:cj.size=ops.size)(hlt:i<ops.size)(vh:∀x,x∈pre++i::Mt↔(x<ops.size∧cj.getD x true=false))(AE:(pre++i::Mt).Nodup):
  (cj.setIfInBounds i true).size=ops.size∧(∀x,x∈pre++Mt↔(x<ops.size∧(cj.setIfInBounds i true).getD x true=false))∧(pre++Mt).Nodup:=by
 have VC:i<cj.size:=by rw[hsz];exact hlt
 have tK:=AE;rw[fC]at tK;refine⟨by simp[hsz],fun j=>?_,?_⟩
 ·have hj:=vh j;by_cases hij:j=i
  ·subst hij;have hn1:j∉pre:=fun h=>(tK.2.2 j h j (by simp)) rfl;have hn2:j∉Mt:=(List.nodup_cons.1 tK.2.1).1;simp[hn1,hn2,VC]
  ·rw[getD_set_ne true (fun h=>hij h.symm),←hj];simp[hij]
 ·rw[fC];exact⟨tK.1,(List.nodup_cons.1 tK.2.1).2,fun x hx y hy=>tK.2.2 x hx y (by simp[hy])⟩
theorem p8{ops:Array Oper}{cj:Array Bool}{i:Nat}{o:Oper}(hc:s7 ops cj)(h2:ops[i]? =some o)(h3:∀e∈o.after,Region.binds .any e=true→cj.getD e.on false=true):s7 ops (cj.setIfInBounds i true):=by
 intro j o' sV hl e he hb';by_cases hij:j=i
 ·subst hij;rw[h2]at sV;injection sV with sV;subst sV;exact getD_set_true (h3 e he hb')
 ·rw[getD_set_ne false (fun h=>hij h.symm)]at hl;exact getD_set_true (hc j o' sV hl e he hb')
theorem IF{ops:Array Oper}{cj:Array Bool}{i j:Nat}{o:Oper}(hb:xE ops i j)(hsz:cj.size=ops.size)(hc:s7 ops cj)(h2:ops[i]? =some o)(h3:∀e∈o.after,Region.binds .any e=true→cj.getD e.on false=true)(hj:j<ops.size∧cj.getD j true=false):False:=by
 have hl:=hb cj hc (fun o' sV e he hb=>by
  rw[h2]at sV;injection sV with sV;subst sV;exact h3 e he hb)
 have hlt:j<cj.size:=by omega
 have:=hj.2;simp[hlt]at hl this;rw[hl]at this;simp at this
theorem HJ{s0:VS}{ops:Array Oper}{Q:Exit→Act→World→Prop}{K:VS→List aD→Prop}(hT:T.Ok P)(hE:∀i o,ops[i]? =some o→∀e∈o.after,Region.binds .any e=true→e.on<i)
  {bm:List Nat}(qO:∀j i,Nat.testBit (bm.getD j 0) i=true→xE ops j i)(hK:∀s Γ a w ρ,gZ T w0 I0 Γ s a w ρ→K s Γ→Q .normal a w)(vv:∀ch a w,T.pan ch→a.defers=I0.ds→j9 I0.x w0 w→(∃ks own,T.held ks own∧gn T own w∧∀x∈ks,a.tmps.getD x.1 undef=x.2)→Q (.panic ch) a w)
  (TI:ze T K){j i:Nat}(hji:j≠i)(ab0:∀x o,ops[x]? =some o→x≠j→x≠i→qz o=true∨Nat.testBit (bm.getD x 0) j=true∨Nat.testBit (bm.getD x 0) i=true):
  ∀(fuel:Nat) (Bw G7:List Nat) (cj:Array Bool) (s:VS) (Γ:List aD) (a:Act) (w:World) (ρ:Nat→Nat),Bw.length≤fuel→G7.length≤fuel→cj.size=ops.size→(∀x,x∈Bw↔(x<ops.size∧cj.getD x true=false))→(∀x,x∈G7↔(x<ops.size∧cj.getD x true=false))→
   Bw.Nodup→G7.Nodup→j∈Bw→i∈Bw→s7 ops cj→
   Bw.Pairwise (fun x y=>Nat.testBit (bm.getD y 0) x=true∨km T s0 ops x y=true∨((y=i∨Nat.testBit (bm.getD y 0) i=true)∧(x=j∨Nat.testBit (bm.getD j 0) x=true)))→
   G7.Pairwise (fun x y=>Nat.testBit (bm.getD y 0) x=true∨km T s0 ops x y=true∨((y=j∨Nat.testBit (bm.getD y 0) j=true)∧(x=i∨Nat.testBit (bm.getD i 0) x=true)))→iV ops s0 s→
   mD T P ops K Bw s Γ→mD T P ops K G7 s Γ→gZ T w0 I0 Γ s a w ρ→wpAny P .any ops Q fuel cj a w:=by
 intro fuel
 induction fuel with
 |zero=>
  intro Bw G7 cj s Γ a w ρ h1 _ _ _ _ _ _ hj _ _ _ _ _ _ _ _;have:=aN (Nat.le_zero.1 h1);rw[this]at hj;simp at hj
 |succ fuel ih=>
  intro Bw G7 cj s Γ a w ρ hl1 hl2 hsz hr1 hr2 hn1 hn2 hj hi hc hp1 hp2 pj hv1 hv2 hs;refine⟨fun hr=>?_,fun x hx=>?_⟩
  ·have:=Bu hE _ cj hsz hr1 hr;rw[this]at hj;simp at hj
  ·rw[mem_ready]at hx;obtain⟨h1,o,h2,h3⟩:=hx;have hnb:∀y,y∈Bw→Nat.testBit (bm.getD x 0) y=true→False:=fun y hy hb=>IF (qO x y hb) hsz hc h2 h3 ((hr1 y).1 hy);have h12:∀y,y∈G7→y∈Bw:=fun y hy=>(hr1 y).2 ((hr2 y).1 hy);have fin:∀(p q:List Nat),(∀y,y∈p++x::q↔(y<ops.size∧cj.getD y true=false))→(p++x::q).Nodup→(p++q).Pairwise (fun x y=>Nat.testBit (bm.getD y 0) x=true∨km T s0 ops x y=true)→(p++x::q).length≤fuel+1→
     (∀y∈p,km T s0 ops y x=true)→mD T P ops K (p++x::q) s Γ→wpOp P ops Q x (wpAny P .any ops Q fuel (cj.setIfInBounds x true)) a w:=by
    intro p q he tK hpw hle QU hvv;have hb:=lS h2 p s Γ hs.wf pj QU hvv;have hb:=nY (K':=fun s Γ=>iV ops s0 s∧mD T P ops K (p++q) s Γ) h2 pj hs.wf (fun s Γ hk _ h=>⟨hk,h⟩) hb;refine oX hT h2 hb hs (fun s' Γ' a' w' ρ' hs' ⟨D3,hk'⟩=>?_) vv;obtain⟨g1,g2,g3⟩:=wB hsz (cu h2) he tK;exact tg hT hE qO hK vv fuel (p++q) _ s' Γ' a' w' ρ' (by simp at hle⊢;omega) g1 g2 g3 (p8 hc h2 h3) hpw D3 hk' hs'
   have hm1:=(hr1 x).2 ⟨cu h2,h1⟩;have hm2:=(hr2 x).2 ⟨cu h2,h1⟩;obtain⟨p1,q1,rfl⟩:=vG hm1;obtain⟨p2,q2,rfl⟩:=vG hm2;have Lv:∀(p q:List Nat),(p++q).Sublist (p++x::q):=fun p q=>List.Sublist.append (List.Sublist.refl _) (List.sublist_cons_self _ _);have hxn:∀(p q:List Nat),(p++x::q).Nodup→x∉p++q:=fun p q h hm=>by
    rw[fC]at h;rcases List.mem_append.1 hm with h'|h'
    ·exact h.2.2 x h' x (by simp) rfl
    ·exact(List.nodup_cons.1 h.2.1).1 h'
   by_cases VL:x=j
   ·refine fin p1 q1 hr1 hn1 ((hp1.sublist (Lv p1 q1)).imp_of_mem (fun{y z} hy _ h=>?_)) hl1 (fun y hy=>?_) hv1
    ·rcases h with h|h|⟨_,h|h⟩
     ·exact .inl h
     ·exact .inr h
     ·exact absurd (by rw[VL,←h];exact hy) (hxn p1 q1 hn1)
     ·rw[←VL]at h;exact(hnb y ((Lv p1 q1).subset hy) h).elim
    ·rcases(List.pairwise_append.1 hp1).2.2 y hy x (by simp)with h|h|⟨h|h,_⟩
     ·exact(hnb y (by simp[hy]) h).elim
     ·exact h
     ·exact absurd (VL.symm.trans h) hji
     ·exact(hnb i hi h).elim
   ·by_cases Lx:x=i
    ·refine fin p2 q2 hr2 hn2 ((hp2.sublist (Lv p2 q2)).imp_of_mem (fun{y z} hy _ h=>?_)) hl2 (fun y hy=>?_) hv2
     ·rcases h with h|h|⟨_,h|h⟩
      ·exact .inl h
      ·exact .inr h
      ·exact absurd (by rw[Lx,←h];exact hy) (hxn p2 q2 hn2)
      ·rw[←Lx]at h;exact(hnb y (h12 y ((Lv p2 q2).subset hy)) h).elim
     ·rcases(List.pairwise_append.1 hp2).2.2 y hy x (by simp)with h|h|⟨h|h,_⟩
      ·exact(hnb y (h12 y (by simp[hy])) h).elim
      ·exact h
      ·exact absurd h VL
      ·exact(hnb j hj h).elim
    ·have hsm:qz o=true:=by
      rcases ab0 x o h2 VL Lx with h|h|h
      ·exact h
      ·exact(hnb j hj h).elim
      ·exact(hnb i hi h).elim
     have sw1:∀y∈p1,km T s0 ops y x=true:=fun y hy=>by
      rcases(List.pairwise_append.1 hp1).2.2 y hy x (by simp)with h|h|⟨h|h,_⟩
      ·exact(hnb y (by simp[hy]) h).elim
      ·exact h
      ·exact absurd h Lx
      ·exact(hnb i hi h).elim
     have sw2:∀y∈p2,km T s0 ops y x=true:=fun y hy=>by
      rcases(List.pairwise_append.1 hp2).2.2 y hy x (by simp)with h|h|⟨h|h,_⟩
      ·exact(hnb y (h12 y (by simp[hy])) h).elim
      ·exact h
      ·exact absurd h VL
      ·exact(hnb j hj h).elim
     have hb:=Hf hsm hs (uY TI _) (uY TI _) (lS h2 p1 s Γ hs.wf pj sw1 hv1) (lS h2 p2 s Γ hs.wf pj sw2 hv2);have hb:=nY (K':=fun s Γ=>iV ops s0 s∧mD T P ops K (p1++q1) s Γ∧mD T P ops K (p2++q2) s Γ) h2 pj hs.wf (fun s Γ hk _ h=>⟨hk,h⟩) hb;refine oX hT h2 hb hs (fun s' Γ' a' w' ρ' hs' ⟨D3,hk1,hk2⟩=>?_) vv;obtain⟨g1,g2,g3⟩:=wB hsz (cu h2) hr1 hn1;obtain⟨_,g5,g6⟩:=wB hsz (cu h2) hr2 hn2;have keep:∀y,y∈p1++x::q1→y≠x→y∈p1++q1:=fun y hy hne=>by
      simp only[dI,aF]at hy⊢;rcases hy with h|h|h
      ·exact .inl h
      ·exact absurd h hne
      ·exact .inr h
     exact ih (p1++q1) (p2++q2) _ s' Γ' a' w' ρ' (by simp at hl1⊢;omega) (by simp at hl2⊢;omega) g1 g2 g5 g3 g6 (keep j hj (fun e=>VL e.symm)) (keep i hi (fun e=>Lx e.symm)) (p8 hc h2 h3) (hp1.sublist (Lv p1 q1)) (hp2.sublist (Lv p2 q2)) D3 hk1 hk2 hs'
theorem Da{s0:VS}{ops:Array Oper}{x:Nat}:∀{l l':List Nat},Bs T s0 ops x l=some l'→∃p q,l=p++x::q∧l'=p++q∧∀y∈p,km T s0 ops y x=true
 | [],l',h=>by simp[Bs]at h
 |y::r,l',h=>by
  unfold Bs at h;cases hb:Nat.beq y x with
  |true=>
   rw[hb]at h;simp only[bV,ar]at h;subst h;rw[aI hb];exact⟨[],r,rfl,rfl,fun y hy=>by simp at hy⟩
  |false=>
   rw[hb]at h;simp only[cI]at h;cases hs:km T s0 ops y x with
   |false=>rw[hs]at h;simp at h
   |true=>
    rw[hs]at h;simp only[bV]at h;cases hp:Bs T s0 ops x r with
    |none=>rw[hp]at h;simp at h
    |some q'=>
     rw[hp]at h;simp only[ar]at h;subst h;obtain⟨p,q,rfl,rfl,QU⟩:=Da hp;exact⟨y::p,q,rfl,rfl,fun z hz=>by
      simp only[aF]at hz;rcases hz with rfl|hz
      ·exact hs
      ·exact QU z hz⟩
theorem KJ{ops:Array Oper}{o:Oper}{i:Nat}{s0 s:VS}{Γ:List aD}{a:Act}{w:World}{ρ:Nat→Nat}(hi:ops[i]? =some o)(pj:iV ops s0 s)(hsm:qz o=true)(hs:gZ T w0 I0 Γ s a w ρ):
  ∀(Ks:List (VS→List aD→Prop)),Ks≠ []→(∀K∈Ks,ze T K)→(∀K∈Ks,pQ T P ops o K s Γ)→pQ T P ops o (fun s Γ=>∀K∈Ks,K s Γ) s Γ
 | [],h,_,_=>absurd rfl h
 | [K],_,_,h=>nY hi pj hs.wf (fun s Γ _ _ hk K' hK'=>by
   simp only[aF,aE,bL]at hK';subst hK';exact hk) (h K (by simp))
 |K::K2::Ks,_,hw,h=>by
  have ih:=KJ hi pj hsm hs (K2::Ks) (by simp) (fun K' hK'=>hw K' (by simp[hK'])) (fun K' hK'=>h K' (by simp[hK']));have hwk:ze T (fun s Γ=>∀K'∈K2::Ks,K' s Γ):=fun s Γ Γ' hi hk K' hK'=>hw K' (cN _ hK') s Γ Γ' hi (hk K' hK');have hb:=Hf hsm hs (hw K (by simp)) hwk (h K (by simp)) ih;refine nY hi pj hs.wf (fun s Γ _ _ hk K' hK'=>?_) hb;rcases List.mem_cons.1 hK' with rfl|hK'
  ·exact hk.1
  ·exact hk.2 K' hK'
theorem E6{s0:VS}{ops:Array Oper}{Q:Exit→Act→World→Prop}{K:VS→List aD→Prop}(hT:T.Ok P)(hE:∀i o,ops[i]? =some o→∀e∈o.after,Region.binds .any e=true→e.on<i)
  {bm:List Nat}(qO:∀j i,Nat.testBit (bm.getD j 0) i=true→xE ops j i)(hK:∀s Γ a w ρ,gZ T w0 I0 Γ s a w ρ→K s Γ→Q .normal a w)(vv:∀ch a w,T.pan ch→a.defers=I0.ds→j9 I0.x w0 w→(∃ks own,T.held ks own∧gn T own w∧∀x∈ks,a.tmps.getD x.1 undef=x.2)→Q (.panic ch) a w)
  (TI:ze T K):
  ∀(fuel n:Nat) (ls:List (List Nat)) (done:Nat) (cj:Array Bool) (s:VS) (Γ:List aD) (a:Act) (w:World) (ρ:Nat→Nat),ZA T s0 ops bm n ls done=true→ls≠ []→(∀l∈ls,l.length≤fuel)→cj.size=ops.size→
   (∀i,i<ops.size→cj.getD i true=Nat.testBit done i)→(∀l∈ls,∀i,i∈l↔(i<ops.size∧cj.getD i true=false))→(∀l∈ls,l.Nodup)→s7 ops cj→iV ops s0 s→
   (∀l∈ls,mD T P ops K l s Γ)→gZ T w0 I0 Γ s a w ρ→wpAny P .any ops Q fuel cj a w:=by
 intro fuel;have one:∀(fuel:Nat) (ls:List (List Nat)) (cj:Array Bool) (s:VS) (Γ:List aD) (a:Act) (w:World) (ρ:Nat→Nat),ls.any (tV T s0 ops bm)=true→(∀l∈ls,l.length≤fuel)→cj.size=ops.size→
   (∀l∈ls,∀i,i∈l↔(i<ops.size∧cj.getD i true=false))→(∀l∈ls,l.Nodup)→s7 ops cj→iV ops s0 s→
   (∀l∈ls,mD T P ops K l s Γ)→gZ T w0 I0 Γ s a w ρ→wpAny P .any ops Q fuel cj a w:=by
  intro fuel ls cj s Γ a w ρ Ln hl hsz hr hn hc pj hv hs;obtain⟨l,hm,hp⟩:=List.any_eq_true.1 Ln;exact tg hT hE qO hK vv fuel l cj s Γ a w ρ (hl l hm) hsz (hr l hm) (hn l hm) hc (tW hp) pj (hv l hm) hs
 induction fuel with
 |zero=>
  intro n ls done cj s Γ a w ρ hok hne hl hsz hd hr hn hc pj hv hs;refine one 0 ls cj s Γ a w ρ ?_ hl hsz hr hn hc pj hv hs;obtain⟨l,r,rfl⟩:=List.exists_cons_of_ne_nil hne;have:=aN (Nat.le_zero.1 (hl l (by simp)));subst this;rfl
 |succ fuel ih=>
  intro n ls done cj s Γ a w ρ hok hne hl hsz hd hr hn hc pj hv hs;by_cases Ln:ls.any (tV T s0 ops bm)=true
  ·exact one _ ls cj s Γ a w ρ Ln hl hsz hr hn hc pj hv hs
  cases n with
  |zero=>exact absurd hok Ln
  |succ n=>
  unfold ZA at hok;rw[eu]at hok;have hok:=hok.resolve_left Ln;rw[eU]at hok;refine⟨fun hr0=>?_,fun x hx=>?_⟩
  ·exfalso
   obtain⟨l,r,rfl⟩:=List.exists_cons_of_ne_nil hne;have:=Bu hE _ cj hsz (hr l (by simp)) hr0;subst this;exact Ln rfl
  ·rw[mem_ready]at hx;obtain⟨h1,o,h2,h3⟩:=hx;have hlt:=cu h2;have YP:Nat.testBit done x=false:=by rw[←hd x hlt];exact h1
   have hrx:IW ops done x=true:=by
    unfold IW;rw[h2];simp only[eU,eu,cD];intro e he;cases hb:Region.binds .any e with
    |false=>exact .inl rfl
    |true=>
     right;have he':e∈o.after:=by simpa using he
     have h4:=h3 e he' hb;have h5:=hE x o h2 e he' hb;have h6:e.on<cj.size:=by omega
     rw[←hd e.on (by omega)];simp only[dE,Array.getElem?_eq_getElem h6,jD]at h4⊢;exact h4
   have hgo:=hok x (List.mem_range.2 hlt);rw[YP,hrx]at hgo;simp only[Bool.false_or,Bool.not_true]at hgo;have hd':∀i,i<ops.size→(cj.setIfInBounds x true).getD i true=Nat.testBit (done|||2^x) i:=fun i hi=>by
    rw[Nat.testBit_or,Nat.testBit_two_pow,←hd i hi];have hi2:i<cj.size:=by omega
    simp only[dE,Array.getElem?_setIfInBounds];by_cases Lx:x=i
    ·subst Lx;simp[hi2]
    ·simp[Lx,hi2]
   have each:∀l',l'∈ls.filterMap (Bs T s0 ops x)→l'.length≤fuel∧(∀i,i∈l'↔(i<ops.size∧(cj.setIfInBounds x true).getD i true=false))∧l'.Nodup∧pQ T P ops o (mD T P ops K l') s Γ:=fun l' hl'=>by
    obtain⟨l,hm,hp⟩:=List.mem_filterMap.1 hl';obtain⟨p,q,rfl,rfl,QU⟩:=Da hp;obtain⟨_,g2,g3⟩:=wB hsz hlt (hr _ hm) (hn _ hm);have:=hl _ hm;exact⟨by simp at this⊢;omega,g2,g3,lS h2 p s Γ hs.wf pj QU (hv _ hm)⟩
   cases hsm:I5 ops x with
   |true=>
    rw[hsm]at hgo;simp only[bV,aM,cD,List.isEmpty_eq_false_iff]at hgo;obtain⟨Oc,hgo⟩:=hgo;have hso:qz o=true:=by
     unfold I5 at hsm;rw[h2]at hsm;exact hsm
    have hb:=KJ (P:=P) h2 pj hso hs ((ls.filterMap (Bs T s0 ops x)).map fun l=>mD T P ops K l) (by simpa using Oc) (fun K' hK'=>by
     obtain⟨l,_,rfl⟩:=List.mem_map.1 hK';exact uY TI l) (fun K' hK'=>by
     obtain⟨l,hm,rfl⟩:=List.mem_map.1 hK';exact(each l hm).2.2.2)
    have hb:=nY (K':=fun s Γ=>iV ops s0 s∧∀l∈ls.filterMap (Bs T s0 ops x),mD T P ops K l s Γ) h2 pj hs.wf (fun s Γ hk _ h=>⟨hk,fun l hl=>h _ (List.mem_map.2 ⟨l,hl,rfl⟩)⟩) hb;refine oX hT h2 hb hs (fun s' Γ' a' w' ρ' hs' ⟨D3,hk'⟩=>?_) vv;exact ih n _ _ _ s' Γ' a' w' ρ' hgo Oc (fun l hl=>(each l hl).1) (by simpa using hsz) hd' (fun l hl=>(each l hl).2.1) (fun l hl=>(each l hl).2.2.1) (p8 hc h2 h3) D3 hk' hs'
   |false=>
    rw[hsm]at hgo;simp only[cI,List.any_eq_true]at hgo;obtain⟨l,hm,hgo⟩:=hgo;obtain⟨e1,e2,e3,e4⟩:=each l hm;have hb:=nY (K':=fun s Γ=>iV ops s0 s∧mD T P ops K l s Γ) h2 pj hs.wf (fun s Γ hk _ h=>⟨hk,h⟩) e4;refine oX hT h2 hb hs (fun s' Γ' a' w' ρ' hs' ⟨D3,hk'⟩=>?_) vv;have h1':∀{φ:List Nat→Prop},φ l→∀l'∈[l],φ l':=fun h l' hl'=>by
     simp only[aF,aE,bL]at hl';subst hl';exact h
    exact ih n [l] _ _ s' Γ' a' w' ρ' hgo (by simp) (h1' e1) (by simpa using hsz) hd' (h1' e2) (h1' e3) (p8 hc h2 h3) D3 (h1' hk') hs'
theorem G6{ops:Array Oper}{Q:Exit→Act→World→Prop}{K:VS→List aD→Prop}{id:Nat}{ls:List (List Nat)}(hT:T.Ok P)(hK:∀s Γ a w ρ,gZ T w0 I0 Γ s a w ρ→K s Γ→Q .normal a w)(vv:∀ch a w,T.pan ch→a.defers=I0.ds→j9 I0.x w0 w→(∃ks own,T.held ks own∧gn T own w∧∀x∈ks,a.tmps.getD x.1 undef=x.2)→Q (.panic ch) a w)(TI:ze T K)
  {s:VS}{Γ:List aD}{a:Act}{w:World}{ρ:Nat→Nat}(hok:Eg T s ops ls=true)(hv:∀l∈ls,mD T P ops K l s Γ)(hs:gZ T w0 I0 Γ s a w ρ):(Code.region id ops true).wp P Q a w:=by
 simp only[Eg,Uk,aM,cD,eU,List.isEmpty_eq_false_iff]at hok;obtain⟨e0,e1,e2,e3⟩:=hok;refine wp_region_any hT.mixed ?_;refine E6 (K:=K) (bm:=sK ops.toList []) hT (fun i o ho e he hb=>?_) (rU ops.toList [] (fun k o hk=>by simpa using hk) (fun j i h=>by simp at h)) hK vv TI ops.size ops.size ls 0 _ s Γ a _ ρ e3 e0 (fun l hl=>Nat.le_of_eq (aI (e2 l hl).1)) (by simp) (fun i hi=>by simp[hi]) (fun l hl i=>?_)
  (fun l hl=>nT (e2 l hl).2.2.2) ?_ (iV.refl _) hv hs.drew
 ·have:=qe ops.toList 0 e1 i o (by simpa using ho) e he hb;omega
 ·obtain⟨_,h1,h2,_⟩:=e2 l hl;constructor
  ·intro hx;have hlt:=tr (h2 i hx);exact⟨hlt,by simp[hlt]⟩
  ·rintro⟨hlt,_⟩;exact nS.1 (h1 i (List.mem_range.2 hlt))
 ·intro j o ho hl;by_cases hj:j<ops.size
  ·simp[hj]at hl
  ·simp[hj]at hl
theorem IY{ops:Array Oper}{Q:Exit→Act→World→Prop}{K:VS→List aD→Prop}{id j i:Nat}{l1 l2:List Nat}(hT:T.Ok P)(hK:∀s Γ a w ρ,gZ T w0 I0 Γ s a w ρ→K s Γ→Q .normal a w)(vv:∀ch a w,T.pan ch→a.defers=I0.ds→j9 I0.x w0 w→(∃ks own,T.held ks own∧gn T own w∧∀x∈ks,a.tmps.getD x.1 undef=x.2)→Q (.panic ch) a w)(TI:ze T K)
  {s:VS}{Γ:List aD}{a:Act}{w:World}{ρ:Nat→Nat}(hok:JX T s ops j i l1 l2=true)(hv1:mD T P ops K l1 s Γ)(hv2:mD T P ops K l2 s Γ)(hs:gZ T w0 I0 Γ s a w ρ):(Code.region id ops true).wp P Q a w:=by
 simp only[JX,OV,aM,cD]at hok;obtain⟨e0,e1,e2,e3,e4,⟨a1,a2,a3,a4,a5⟩,b1,b2,b3,b4,b5⟩:=hok;simp only[eU]at a2 a3 b2 b3 e4;have hji:j≠i:=by
  rintro rfl;simp at e0
 have hin:∀(l:List Nat),(∀x∈List.range ops.size,lK x l=true)→(∀x∈l,Nat.blt x ops.size=true)→∀x,x∈l↔(x<ops.size∧(Array.replicate ops.size false).getD x true=false):=fun l h1 h2 x=>by
  constructor
  ·intro hx;have hlt:=tr (h2 x hx);exact⟨hlt,by simp[hlt]⟩
  ·rintro⟨hlt,_⟩;exact nS.1 (h1 x (List.mem_range.2 hlt))
 refine wp_region_any hT.mixed ?_;refine HJ (K:=K) (bm:=sK ops.toList []) hT (fun i o ho e he hb=>?_) (rU ops.toList [] (fun k o hk=>by simpa using hk) (fun j i h=>by simp at h)) hK vv TI hji (fun x o ho hx1 hx2=>?_) ops.size l1 l2 _ s Γ a _ ρ (Nat.le_of_eq (aI a1)) (Nat.le_of_eq (aI b1)) (by simp) (hin l1 a2 a3) (hin l2 b2 b3) (nT a4) (nT b4)
  (nS.1 (a2 j (List.mem_range.2 (tr e1)))) (nS.1 (a2 i (List.mem_range.2 (tr e2)))) ?_ (tX a5) (tX b5) (iV.refl _) hv1 hv2 hs.drew
 ·have:=qe ops.toList 0 e3 i o (by simpa using ho) e he hb;omega
 ·have:=e4 x (List.mem_range.2 (cu ho));unfold Uo at this;rw[ho]at this;simp only[eu]at this;rcases this with h|h|h|h|h
  ·exact .inl h
  ·exact absurd (aI h) hx1
  ·exact absurd (aI h) hx2
  ·exact .inr (.inl h)
  ·exact .inr (.inr h)
 ·intro j o ho hl;by_cases hj:j<ops.size
  ·simp[hj]at hl
  ·simp[hj]at hl
theorem IX{ops:Array Oper}{Q:Exit→Act→World→Prop}{K:VS→List aD→Prop}{id:Nat}{ord:List Nat}(hT:T.Ok P)(hK:∀s Γ a w ρ,gZ T w0 I0 Γ s a w ρ→K s Γ→Q .normal a w)(vv:∀ch a w,T.pan ch→a.defers=I0.ds→j9 I0.x w0 w→(∃ks own,T.held ks own∧gn T own w∧∀x∈ks,a.tmps.getD x.1 undef=x.2)→Q (.panic ch) a w)
  {s:VS}{Γ:List aD}{a:Act}{w:World}{ρ:Nat→Nat}(hok:JW T s ops ord=true)(hv:mD T P ops K ord s Γ)(hs:gZ T w0 I0 Γ s a w ρ):(Code.region id ops true).wp P Q a w:=by
 simp only[JW,aM,eU]at hok;obtain⟨⟨⟨⟨⟨h0,h1⟩,h2⟩,h3⟩,h4⟩,h5⟩:=hok;have AE:=nT h3;have hlen:ord.length≤ops.size:=Nat.le_of_eq (aI h0);refine wp_region_any hT.mixed ?_;refine tg (K:=K) (bm:=sK ops.toList []) hT (fun i o ho e he hb=>?_) (rU ops.toList [] (fun k o hk=>by simpa using hk) (fun j i h=>by simp at h)) hK vv ops.size ord _ s Γ a _ ρ hlen (by simp) (fun i=>?_) AE ?_ (tW h5) (iV.refl _) hv hs.drew
 ·have:=qe ops.toList 0 h4 i o (by simpa using ho) e he hb;omega
 ·constructor
  ·intro hi;have hlt:=tr (h2 i hi);exact⟨hlt,by simp[hlt]⟩
  ·rintro⟨hlt,_⟩;exact nS.1 (h1 i (List.mem_range.2 hlt))
 ·intro j o ho hl;by_cases hj:j<ops.size
  ·simp[hj]at hl
  ·simp[hj]at hl
theorem GI{ops:Array Oper}{Q:Exit→Act→World→Prop}{K:VS→List aD→Prop}(hT:T.Ok P)(hK:∀s Γ a w ρ,gZ T w0 I0 Γ s a w ρ→K s Γ→Q .normal a w)(vv:∀ch a w,T.pan ch→a.defers=I0.ds→j9 I0.x w0 w→(∃ks own,T.held ks own∧gn T own w∧∀x∈ks,a.tmps.getD x.1 undef=x.2)→Q (.panic ch) a w):
  ∀(l:List Nat) (s:VS) (Γ:List aD) (a:Act) (w:World) (ρ:Nat→Nat),mD T P ops K l s Γ→gZ T w0 I0 Γ s a w ρ→wpOps P ops Q l a w
 | [],s,Γ,a,w,ρ,hv,hs=>hK _ _ _ _ _ hs hv
 |i::r,s,Γ,a,w,ρ,hv,hs=>by
  rw[wpOps_cons];cases ho:ops[i]? with
  |some o=>
   rw[jB ho]at hv;exact oX hT ho hv hs (fun s' Γ' a' w' ρ' hs' hk'=>GI hT hK vv r s' Γ' a' w' ρ' hk' hs') vv
  |none=>simp only[mD,ho]at hv
end
def ek(b:Nat)(cs:List Value):aD where
 p I w:=I b∧∃e,w.heap[b]? =some (.cells cs.toArray e (0,0))
 up:=by
  rintro I I' w w' ⟨hI,e,h⟩ h1 h2 _;exact⟨h1 b (cu h) hI,e,by rw[h2 b (cu h) hI];exact h⟩
theorem oU{b:Nat}{cs:List Value}{I:fQ}{w:World}(h:(ek b cs).p I w)(i:Nat):w.cell? ⟨b,i,none⟩=cs[i]? :=by
 obtain⟨_,e,h⟩:=h;exact nH h i
theorem gZ.pub{T:Tb}{w0:World}{I0:Mj}{Γ:List aD}{s:VS}{a:Act}{w:World}{ρ:Nat→Nat}(h:gZ T w0 I0 Γ s a w ρ){O1 O2:List (Nat×List Value)}{b:Nat}{cs:List Value}(hs:s.own=O1++(b,cs)::O2):
  gZ T w0 I0 (ek b cs::Γ) {s with own:=O1++O2} a w ρ:=by
 have lU:∀x,x∈O1++O2→x∈s.own:=fun x hx=>by
  rw[hs];rcases List.mem_append.1 hx with h|h
  ·exact gK _ h
  ·exact ik _ (cN _ h)
 have hb:(b,cs)∈s.own:=by rw[hs];simp
 have hnod:=h.nod;rw[hs]at hnod;simp only[aT,bY]at hnod;have hn2:((O1++O2).map (·.1)).Nodup∧b∉(O1++O2).map (·.1):=by
  have:=(List.perm_middle (a:=b) (l₁:=O1.map (·.1)) (l₂:=O2.map (·.1))).nodup_iff.1 hnod;rw[ko,←aT]at this;exact⟨this.2,this.1⟩
 refine h.owned (Δ:=[ek b cs]) (O:=O1++O2) (bD _ _) (ak _) (fun _ _ _=>rfl) (fun k c hk=>h.own k c (lU _ hk)) (fun k c hk=>.inl ⟨c,lU _ hk⟩) hn2.1 ?_;refine aG.cons ⟨⟨fun _=>.inr ⟨cs,hb⟩,fun c hc=>hn2.2 (List.mem_map.2 ⟨(b,c),hc,rfl⟩)⟩,?_⟩ (aG.nil _ _);obtain⟨e,_,hc⟩:=h.own b cs hb;exact⟨e,hc⟩
def nv(t b:Nat):List SV→List SV
 | []=>[]
 |v::r=>(match v with
  | .ptr u off=>bif Nat.beq u t then .val (.pointer (some ⟨b,off,none⟩))else .ptr u off
  |w=>w)::nv t b r
theorem y7(t b:Nat):∀l:List SV,(nv t b l).length=l.length
 | []=>rfl
 |v::r=>by simp[nv,y7 t b r]
theorem ug(t b:Nat):∀(l:List SV) (k:Nat) (sv:SV),(nv t b l)[k]? =some sv→(∃off,l[k]? =some (.ptr t off)∧sv=.val (.pointer (some ⟨b,off,none⟩)))∨(l[k]? =some sv∧∀off,sv≠.ptr t off)
 | [],k,sv,h=>by simp[nv]at h
 |v::r,0,sv,h=>by
  simp only[nv,dO,ar]at h;cases v with
  |ptr u off=>
   simp only at h;cases hb:Nat.beq u t with
   |true=>
    simp only[hb,bV]at h;have:=aI hb;subst this;exact .inl ⟨off,rfl,h.symm⟩
   |false=>
    simp only[hb,cI]at h;subst h;refine .inr ⟨rfl,fun off' e=>?_⟩;injection e with e1 _;subst e1;simp at hb
  |val v=>simp only at h;subst h;exact .inr ⟨rfl,fun _ e=>by simp at e⟩
  |junk=>simp only at h;subst h;exact .inr ⟨rfl,fun _ e=>by simp at e⟩
 |v::r,k+1,sv,h=>by
  simp only[nv,eV]at h⊢;exact ug t b r k sv h
def VS.reveal(s:VS)(t b:Nat):VS:=⟨nv t b s.tmps,s.boxes.set t none,(b,(s.boxes.getD t none).getD [])::s.own,s.maps⟩
theorem gZ.reveal{T:Tb}{w0:World}{I0:Mj}{Γ:List aD}{s:VS}{a:Act}{w:World}{ρ:Nat→Nat}(h:gZ T w0 I0 Γ s a w ρ)(t:Nat)(ht:(s.boxes.getD t none).isSome=true):gZ T w0 I0 Γ (s.reveal t (ρ t)) a w ρ:=by
 obtain⟨cs,hcs⟩:∃cs,s.boxes[t]? =some (some cs):=by
  simp only[List.getD]at ht;cases hb:s.boxes[t]? with
  |none=>simp[hb]at ht
  |some q=>
   cases q with
   |none=>simp[hb]at ht
   |some cs=>exact⟨cs,rfl⟩
 have hgd:(s.boxes.getD t none).getD []=cs:=by simp[List.getD,hcs]
 have hbx:∀(u:Nat) (c:List Value),(s.reveal t (ρ t)).boxes[u]? =some (some c)→u≠t∧s.boxes[u]? =some (some c):=by
  intro u c hu;simp only[VS.reveal,bA]at hu;by_cases Hq:t=u
  ·rw[if_pos Hq]at hu;split at hu<;>simp at hu
  ·rw[if_neg Hq]at hu;exact⟨fun e=>Hq e.symm,hu⟩
 have lU:∀k c,(k,c)∈(s.reveal t (ρ t)).own→(k=ρ t∧c=cs)∨(k,c)∈s.own:=by
  intro k c hk;simp only[VS.reveal,hgd,aF,aH]at hk;exact hk
 refine⟨h.defers,by rw[h.len];exact(y7 t (ρ t) s.tmps).symm,fun i sv hi=>?_,h.below,fun u c hu=>h.box u c (hbx u c hu).2,fun u v c1 c2 hu hv=>h.inj u v c1 c2 (hbx u c1 hu).2 (hbx v c2 hv).2,fun i u off hi=>?_,h.data,
  h.facts.up (fun b _ hI=>⟨hI.1,fun u c hu=>hI.2.1 u c (hbx u c hu).2,fun c hc=>?_,hI.2.2.2⟩) (fun _ _ _=>rfl) (ak _),fun k c hk=>?_,fun k c hk=>?_,fun k c hk u c' hu=>?_,?_,h.mapAt,h.mfresh,h.mnod⟩
 ·rcases ug t (ρ t) s.tmps i sv hi with⟨off,hp,rfl⟩|⟨hp,_⟩
  ·have:=h.tmps i (.ptr t off) hp;exact this
  ·exact h.tmps i _ hp
 ·rcases ug t (ρ t) s.tmps i _ hi with⟨off',hp,he⟩|⟨hp,hne⟩
  ·simp at he
  ·obtain⟨c,hc⟩:=h.wf i u off hp;refine⟨c,?_⟩;have:¬t=u:=fun e=>hne off (by rw[e]);simp only[VS.reveal,bA,if_neg this];exact hc
 ·rcases lU b c hc with⟨rfl,rfl⟩|hc
  ·exact hI.2.1 t _ hcs rfl
  ·exact hI.2.2.1 c hc
 ·rcases lU k c hk with⟨rfl,rfl⟩|hc
  ·exact(h.box t _ hcs).2
  ·exact h.own k c hc
 ·rcases lU k c hk with⟨rfl,rfl⟩|hc
  ·exact .inl (h.box t _ hcs).1
  ·exact h.fresh k c hc
 ·obtain⟨hut,hu'⟩:=hbx u c' hu;rcases lU k c hk with⟨rfl,rfl⟩|hc
  ·exact fun e=>hut (h.inj u t c' _ hu' hcs e.symm)
  ·exact h.sep k c hc u c' hu'
 ·simp only[VS.reveal,bY,ko];refine⟨fun hm=>?_,h.nod⟩;obtain⟨⟨k,c⟩,hk,he⟩:=List.mem_map.1 hm;simp only at he;subst he;exact h.sep _ c hk t cs hcs rfl
inductive It where
 |code (c:Code)
 |ops (all:Array Oper) (rest:List Nat)
 |blk (id:Nat)
 |again (R:VS→List aD→Prop)
 |rnd (n:Nat) (b:Code)
structure fG where
 s:VS
 k:List It
inductive Ev where
 |next (c:fG)
 |call (f:FuncId) (args:List Value) (d:Option Tmp) (c:fG)
 |read (o:Oper) (c:fG)
 |ask (o:Oper) (c:fG)
 |own (o:Oper) (c:fG)
 |ret (s:VS)
 |loop (b:Code) (c:fG)
 |again (R:VS→List aD→Prop) (s:VS)
 |stuck
def sN(id:Nat):List It→Option (List It)
 | []=>none
 | .blk i::k=>bif Nat.beq i id then some k else sN id k
 | .code _::k=>sN id k
 | .ops _ _::k=>sN id k
 | .again _::k=>sN id k
 | .rnd _ _::k=>sN id k
def qi(D B:List Nat):Nat→List SV→List SV
 |_,[]=>[]
 |i,v::r=>(bif lK i D then .junk else match v with
  | .ptr t o=>bif lK t B then .junk else .ptr t o
  |w=>w)::qi D B (i+1) r
def oG(B:List Nat):Nat→List (Option (List Value))→List (Option (List Value))
 |_,[]=>[]
 |i,b::r=>(bif lK i B then none else b)::oG B (i+1) r
def VS.forget(s:VS)(D B:List Nat):VS:=⟨qi D B 0 s.tmps,oG B 0 s.boxes,s.own,s.maps⟩
def II:List Oper→List Nat
 | []=>[]
 |o::r=>match o.dst with
  |some d=>d::II r
  |none=>II r
def Eh:List Oper→List Nat
 | []=>[]
 |o::r=>match o.op,o.dst with
  | .alloc _,some d=>d::Eh r
  | .box _ _,some d=>d::Eh r
  |_,_=>Eh r
def ku:Code→List Nat
 | .region _ ops _=>II ops.toList
 | .seq a b=>ku a++ku b
 | .cond _ a b=>ku a++ku b
 | .block _ b=>ku b
 | .loop b=>ku b
 | .scope b=>ku b
 |_=>[]
def jr:Code→List Nat
 | .region _ ops _=>Eh ops.toList
 | .seq a b=>jr a++jr b
 | .cond _ a b=>jr a++jr b
 | .block _ b=>jr b
 | .loop b=>jr b
 | .scope b=>jr b
 |_=>[]
def aca(o:Oper):Bool:=(match o.op with
 | .fieldAddr _ (.tmp _) _=>true
 |_=>false)&&o.guard.isNone
def gQ(ops:Array Oper):List Oper→List Nat
 | []=>[]
 |o::r=>match o.dst with
  |some d=>bif (F6 o&&Ah ops d)||aca o then d::gQ ops r else gQ ops r
  |none=>gQ ops r
def aL(T:Tb)(c:fG):Ev:=
 match c.k with
 | []=>.ret c.s
 | .blk _::k=>.next ⟨c.s,k⟩
 | .again R::_=>.again R c.s
 | .rnd n b::k=>match n with
  |0=>.stuck
  |m+1=>.next ⟨c.s.forget [] (jr b),.code b::.rnd m b::k⟩
 | .ops _ []::k=>.next ⟨c.s,k⟩
 | .ops all (i::r)::k=>match all[i]? with
  |none=>.stuck
  |some o=>match gA all o c.s with
   |none=>.stuck
   |some g=>bif g then(match gh T o c.s with
     | .val v=>.next ⟨c.s.put o.dst v,.ops all r::k⟩
     | .new cs=>match o.dst with
      |some d=>match c.s.boxes[d]? with
       |some none=>.next ⟨{c.s with tmps:=c.s.tmps.set d (.ptr d 0),boxes:=c.s.boxes.set d (some cs)},.ops all r::k⟩
       |_=>.stuck
      |none=>.stuck
     | .upd b cs=>.next ⟨({c.s with boxes:=c.s.boxes.set b (some cs)}:VS).put o.dst (.val undef),.ops all r::k⟩
     | .read=>.read o ⟨c.s,.ops all r::k⟩
     | .ask=>.ask o ⟨c.s,.ops all r::k⟩
     | .own=>.own o ⟨c.s,.ops all r::k⟩
     | .call f args=>.call f args o.dst ⟨c.s,.ops all r::k⟩
     | .stuck=>.stuck)else .next ⟨c.s.put o.dst (.val undef),.ops all r::k⟩
 | .code cd::k=>match cd with
  | .skip=>.next ⟨c.s,k⟩
  | .region _ ops draw=>bif draw then(bif JW T (c.s.forget (gQ ops ops.toList) []) ops (J6 T ops)then .next ⟨c.s.forget (gQ ops ops.toList) [],.ops ops (J6 T ops)::k⟩else .stuck)else .next ⟨c.s,.ops ops (List.range ops.size)::k⟩
  | .seq a b=>.next ⟨c.s,.code a::.code b::k⟩
  | .cond x a b=>match c.s.ev x with
   | .val (.bool t)=>.next ⟨c.s,.code (bif t then a else b)::k⟩
   |_=>.stuck
  | .block id b=>.next ⟨c.s,.code b::.blk id::k⟩
  | .label _=>.next ⟨c.s,k⟩
  | .scope b=>.next ⟨c.s,.code b::k⟩
  | .loop b=>.loop b ⟨c.s,k⟩
  | .exit id=>match sN id k with
   |some k'=>.next ⟨c.s,k'⟩
   |none=>.stuck
  | .ret=>.ret c.s
  |_=>.stuck
def dD:List It→Bool
 | .ops _ _::_=>true
 |_=>false
theorem yG(D B:List Nat):∀(i:Nat) (l:List SV),(qi D B i l).length=l.length
 |_,[]=>rfl
 |i,v::r=>by simp[qi,yG D B (i+1) r]
theorem tG(D B:List Nat):∀(l:List SV) (i k:Nat) (sv:SV),(qi D B i l)[k]? =some sv→sv=.junk∨(l[k]? =some sv∧∀t o,sv=.ptr t o→lK t B=false)
 | [],i,k,sv,h=>by simp[qi]at h
 |v::r,i,0,sv,h=>by
  simp only[qi,dO,ar]at h;cases hd:lK i D with
  |true=>simp only[hd,bV]at h;exact .inl h.symm
  |false=>
   simp only[hd,cI]at h;cases v with
   |ptr t o=>
    simp only at h;cases ht:lK t B with
    |true=>simp only[ht,bV]at h;exact .inl h.symm
    |false=>
     simp only[ht,cI]at h;subst h;exact .inr ⟨rfl,fun t' o' e=>by injection e with e1 _;subst e1;exact ht⟩
   |val w=>simp only at h;subst h;exact .inr ⟨rfl,fun _ _ e=>by simp at e⟩
   |junk=>exact .inl h.symm
 |v::r,i,k+1,sv,h=>by
  simp only[qi,eV]at h⊢;exact tG D B r (i+1) k sv h
theorem yH(B:List Nat):∀(l:List (Option (List Value))) (i k:Nat) (x:Option (List Value)),(oG B i l)[k]? =some x→(lK (i+k) B=true∧x=none)∨(lK (i+k) B=false∧l[k]? =some x)
 | [],i,k,x,h=>by simp[oG]at h
 |b::r,i,0,x,h=>by
  simp only[oG,dO,ar,ff]at h⊢;cases hb:lK i B with
  |true=>simp only[hb,bV]at h;exact .inl ⟨rfl,h.symm⟩
  |false=>simp only[hb,cI]at h;exact .inr ⟨rfl,h⟩
 |b::r,i,k+1,x,h=>by
  simp only[oG,eV]at h⊢;have:=yH B r (i+1) k x h
  rwa [show i+1+k=i+(k+1)by omega]at this
theorem wM(B:List Nat):∀(l:List (Option (List Value))) (i k:Nat) (x:Option (List Value)),l[k]? =some x→lK (i+k) B=false→(oG B i l)[k]? =some x
 | [],i,k,x,h,_=>by simp at h
 |b::r,i,0,x,h,hm=>by
  simp only[oG,dO,ff]at h hm⊢;simp only[hm,cI];exact h
 |b::r,i,k+1,x,h,hm=>by
  simp only[oG,eV]at h⊢;exact wM B r (i+1) k x h (by rwa [show i+1+k=i+(k+1)by omega])
def xi(T:Tb)(c:fG):Option Value:=
 match c.k with
 | .code (.region _ ops false)::_=>match ops.toList with
  | [a,b,d]=>match a.dst,a.guard,b.op,b.dst,b.guard,d.op,d.guard with
   |some x,none,.makeInterface u (.tmp y),some z,none,.panic (.tmp q),none=>
    match gh T a c.s,T.get u with
    | .val (.val v),some yt=>bif Nat.beq x y&&(Nat.beq z q&&(Nat.blt x c.s.tmps.length&&(Nat.blt z c.s.tmps.length&&yt.isStruct)))then some (.iface u v)else none
    |_,_=>none
   |_,_,_,_,_,_,_=>none
  |_=>none
 |_=>none
def WN(c:fG):List Nat:=match c.k with
 | .code (.region _ ops _)::_=>ops.toList.filterMap (·.dst)
 |_=>[]
def N0(T:Tb)(c:fG):Prop:=∃ks:List (Nat×Value),T.held ks c.s.own∧∀x∈ks,lK x.1 (WN c)=false∧c.s.tmps[x.1]? =some (.val x.2)
inductive W(T:Tb)(P:Program)(fin:VS→List aD→Prop):fG→List aD→Prop
 |next {c c':fG} {Γ:List aD}:aL T c=.next c'→W T P fin c' Γ→W T P fin c Γ
 |call {c c':fG} {f:FuncId} {args:List Value} {d:Option Tmp} {Γ:List aD} (post:Value→List aD→Prop):aL T c=.call f args d c'→aw T P f args Γ post→(∀v Δ,post v Δ→W T P fin ⟨c'.s.put d (.val v),c'.k⟩ (Δ++Γ))→W T P fin c Γ
 |callo {c c':fG} {f:FuncId} {args:List Value} {d:Option Tmp} {Γ:List aD} (post:Value→List (Nat×List Value)→List aD→Prop):aL T c=.call f args d c'→kt T P f args Γ post→(∀v O Δ,post v O Δ→W T P fin ⟨({c'.s with own:=O++c'.s.own}:VS).put d (.val v),c'.k⟩ (Δ++Γ))→W T P fin c Γ
 |callx {c c':fG} {f:FuncId} {args:List Value} {d:Option Tmp} {Γ:List aD} {O1 Oin O2:List (Nat×List Value)} {M1 Min M2:List (Nat×List (Value×Value))} (post:Value→List (Nat×List Value)→List (Nat×List (Value×Value))→List aD→Prop):(T.hand=true∧T.calm f=false∧JI T c'.s.tmps (O1++O2))→aL T c=.call f args d c'→c'.s.own=O1++(Oin++O2)→c'.s.maps=M1++(Min++M2)→dB T P f args Oin Min Γ post→(∀v O M Δ,post v O M Δ→W T P fin ⟨({c'.s with own:=O1++(O++O2),maps:=M1++(M++M2)}:VS).put d (.val v),c'.k⟩ (Δ++Γ))→W T P fin c Γ
 |read {c c':fG} {o:Oper} {Γ:List aD} (v:Value):aL T c=.read o c'→z_ T P c'.s o Γ v→W T P fin ⟨c'.s.put o.dst (.val v),c'.k⟩ Γ→W T P fin c Γ
 |ask {c c':fG} {o:Oper} {Γ:List aD} (post:Value→List aD→Prop):aL T c=.ask o c'→MC T P c'.s o Γ post→(∀v Δ,post v Δ→W T P fin ⟨c'.s.put o.dst (.val v),c'.k⟩ (Δ++Γ))→W T P fin c Γ
 |own {c c':fG} {o:Oper} {Γ:List aD} (post:Value→List (Nat×List Value)→List aD→Prop):aL T c=.own o c'→UG T P c'.s o Γ post→(∀v O Δ,post v O Δ→W T P fin ⟨({c'.s with own:=O}:VS).put o.dst (.val v),c'.k⟩ (Δ++Γ))→W T P fin c Γ
 |mop {c c':fG} {o:Oper} {Γ:List aD} (post:Value→List (Nat×List Value)→List (Nat×List (Value×Value))→List aD→Prop):aL T c=.own o c'→Cc T P c'.s o Γ post→(∀v O M Δ,post v O M Δ→W T P fin ⟨({c'.s with own:=O,maps:=M}:VS).put o.dst (.val v),c'.k⟩ (Δ++Γ))→W T P fin c Γ
 |pub {s:VS} {k:List It} {Γ:List aD} {O1 O2:List (Nat×List Value)} {b:Nat} {cs:List Value}:dD k=false→s.own=O1++(b,cs)::O2→W T P fin ⟨{s with own:=O1++O2},k⟩ (ek b cs::Γ)→W T P fin ⟨s,k⟩ Γ
 |reveal {s:VS} {k:List It} {Γ:List aD} (t:Nat):dD k=false→(s.boxes.getD t none).isSome=true→(∀b,W T P fin ⟨s.reveal t b,k⟩ Γ)→W T P fin ⟨s,k⟩ Γ
 |un {c c':fG} {b:Code} {Γ:List aD} (n:Nat):aL T c=.loop b c'→W T P fin ⟨c'.s,.rnd n b::c'.k⟩ Γ→W T P fin c Γ
 |ret {c:fG} {s:VS} {Γ:List aD}:aL T c=.ret s→fin s Γ→W T P fin c Γ
 |again {c:fG} {R:VS→List aD→Prop} {s:VS} {Γ:List aD}:aL T c=.again R s→R s Γ→W T P fin c Γ
 |loop {c c':fG} {b:Code} {Γ:List aD} (R:Nat→VS→List aD→Prop) (n:Nat):aL T c=.loop b c'→R n c'.s Γ→
   (∀m s Γ',R m s Γ'→W T P fin ⟨s,.code b::.again (fun s' Γ'=>∃m',m'<m∧R m' s' Γ')::c'.k⟩ Γ')→W T P fin c Γ
 |elim {c:fG} {Γ:List aD} {α:Type} (φ:α→Prop) (D:α→List aD):dD c.k=false→(∀I w,br T I w→aG Γ I w→∃x,φ x∧aG (D x) I w)→(∀x,φ x→W T P fin c (D x++Γ))→W T P fin c Γ
 |sub {c:fG} {Γ Δ:List aD}:dD c.k=false→(∀I w,br T I w→aG Γ I w→aG Δ I w)→W T P fin c Δ→W T P fin c Γ
 |two {s:VS} {k:List It} {id j i:Nat} {ops:Array Oper} {l1 l2:List Nat} {Γ:List aD}:JX T (s.forget (gQ ops ops.toList) []) ops j i l1 l2=true→W T P fin ⟨s.forget (gQ ops ops.toList) [],.ops ops l1::k⟩ Γ→W T P fin ⟨s.forget (gQ ops ops.toList) [],.ops ops l2::k⟩ Γ→W T P fin ⟨s,.code (.region id ops true)::k⟩ Γ
 |many {s:VS} {k:List It} {id:Nat} {ops:Array Oper} {ls:List (List Nat)} {Γ:List aD}:Eg T (s.forget (gQ ops ops.toList) []) ops ls=true→(∀l∈ls,W T P fin ⟨s.forget (gQ ops ops.toList) [],.ops ops l::k⟩ Γ)→W T P fin ⟨s,.code (.region id ops true)::k⟩ Γ
 |panic {c:fG} {Γ:List aD} (v:Value):xi T c=some v→T.pan [{v,recovered:=false}]→N0 T c→W T P fin c Γ
 |forget {s:VS} {k:List It} {Γ:List aD} (D B:List Nat):dD k=false→W T P fin ⟨s.forget D B,k⟩ Γ→W T P fin ⟨s,k⟩ Γ
section
variable{T:Tb}{P:Program}{w0:World}{I0:Mj}
theorem gZ.forget{Γ:List aD}{s:VS}{a:Act}{w:World}{ρ:Nat→Nat}(h:gZ T w0 I0 Γ s a w ρ)(D B:List Nat):gZ T w0 I0 Γ (s.forget D B) a w ρ:=by
 have hbx:∀(i:Nat) (cs:List Value),(s.forget D B).boxes[i]? =some (some cs)→s.boxes[i]? =some (some cs):=by
  intro i cs hi;rcases yH B s.boxes 0 i _ hi with⟨_,h'⟩|⟨_,h'⟩
  ·simp at h'
  ·exact h'
 refine⟨h.defers,by rw[h.len];exact(yG D B 0 s.tmps).symm,fun i sv hi=>?_,h.below,fun i cs hi=>h.box i cs (hbx i cs hi),fun i j c1 c2 hi hj=>h.inj i j c1 c2 (hbx i c1 hi) (hbx j c2 hj),fun i t off hi=>?_,h.data,
  h.facts.up (fun b _ hI=>⟨hI.1,fun i cs hi=>hI.2.1 i cs (hbx i cs hi),hI.2.2⟩) (fun _ _ _=>rfl) (ak _),h.own,h.fresh,fun b c hb i cs hi=>h.sep b c hb i cs (hbx i cs hi),h.nod,h.mapAt,h.mfresh,h.mnod⟩
 ·rcases tG D B s.tmps 0 i sv hi with rfl|⟨h',_⟩
  ·trivial
  ·exact h.tmps i sv h'
 ·rcases tG D B s.tmps 0 i _ hi with h'|⟨h',hm⟩
  ·simp at h'
  ·obtain⟨cs,hcs⟩:=h.wf i t off h';exact⟨cs,wM B s.boxes 0 t _ hcs (by simpa using hm t off rfl)⟩
def qL(T:Tb)(P:Program)(w0:World)(I0:Mj)(Q:Exit→Act→World→Prop):List It→Exit→Act→World→Prop
 | []=>Q
 | .code c::k=>fun e a w=>match e with
  | .normal=>c.wp P (qL T P w0 I0 Q k) a w
  |e=>qL T P w0 I0 Q k e a w
 | .blk id::k=>Exit.inBlock id (qL T P w0 I0 Q k)
 | .again R::k=>fun e a w=>match e with
  | .normal=>∃s Γ ρ,R s Γ∧gZ T w0 I0 Γ s a w ρ
  |e=>qL T P w0 I0 Q k e a w
 | .rnd n b::k=>fun e a w=>match e with
  | .normal=>Code.rounds P b (qL T P w0 I0 Q k) n a w
  |e=>qL T P w0 I0 Q k e a w
 | .ops _ _::k=>qL T P w0 I0 Q k
theorem rl{Q:Exit→Act→World→Prop}{a:Act}{w:World}(h:Q .ret a w):∀k:List It,qL T P w0 I0 Q k .ret a w
 | []=>h
 | .code _::k=>rl h k
 | .blk _::k=>rl h k
 | .again _::k=>rl h k
 | .rnd _ _::k=>rl h k
 | .ops _ _::k=>rl h k
theorem jl{Q:Exit→Act→World→Prop}{ch:List PanicEntry}{a:Act}{w:World}(h:Q (.panic ch) a w):∀k:List It,qL T P w0 I0 Q k (.panic ch) a w
 | []=>h
 | .code _::k=>jl h k
 | .blk _::k=>jl h k
 | .again _::k=>jl h k
 | .rnd _ _::k=>jl h k
 | .ops _ _::k=>jl h k
theorem oW{Q:Exit→Act→World→Prop}(hQ:∀l a w,¬Q (.goto l) a w){l:Nat}{a:Act}{w:World}:∀k:List It,¬qL T P w0 I0 Q k (.goto l) a w
 | [],h=>hQ l a w h
 | .code _::k,h=>oW hQ k h
 | .blk _::k,h=>oW hQ k h
 | .again _::k,h=>oW hQ k h
 | .rnd _ _::k,h=>oW hQ k h
 | .ops _ _::k,h=>oW hQ k h
theorem oV{Q:Exit→Act→World→Prop}{a:Act}{w:World}{id:Nat}:∀(k:List It) {k':List It},sN id k=some k'→qL T P w0 I0 Q k' .normal a w→qL T P w0 I0 Q k (.exit id) a w
 | [],_,hp,_=>by simp[sN]at hp
 | .code _::k,_,hp,h=>oV k hp h
 | .again _::k,_,hp,h=>oV k hp h
 | .rnd _ _::k,_,hp,h=>oV k hp h
 | .ops _ _::k,_,hp,h=>oV k hp h
 | .blk i::k,k',hp,h=>by
  simp only[sN]at hp;simp only[qL,Exit.inBlock];cases hb:Nat.beq i id with
  |true=>
   have:=aI hb;subst this;simp only[hb,bV,ar]at hp;subst hp;simpa using h
  |false=>
   have:¬id=i:=by
    rintro rfl;simp at hb
   simp only[hb,cI]at hp;rw[if_neg this];exact oV k hp h
def EX(T:Tb)(P:Program)(w0:World)(I0:Mj)(Q:Exit→Act→World→Prop)(c:fG)(Γ:List aD):Prop:=
 ∀a w ρ,gZ T w0 I0 Γ c.s a w ρ→qL T P w0 I0 Q c.k .normal a w
def Hv(T:Tb)(P:Program)(w0:World)(I0:Mj)(Q:Exit→Act→World→Prop)(c:fG)(Γ:List aD):Prop:=
 match c.k with
 | .ops all rest::k=>mD T P all (fun s Γ=>EX T P w0 I0 Q ⟨s,k⟩ Γ) rest c.s Γ
 |_=>EX T P w0 I0 Q c Γ
theorem dz{Q:Exit→Act→World→Prop}{c:fG}{Γ:List aD}(hm:dD c.k=false):Hv T P w0 I0 Q c Γ=EX T P w0 I0 Q c Γ:=by
 unfold Hv;split
 ·rename_i h;rw[h]at hm;simp[dD]at hm
 ·rfl
def sM:List It→Bool
 | []=>true
 | .ops _ _::_=>false
 |_::k=>sM k
theorem least{p:Nat→Prop}(h:∃n,p n):∃n,p n∧∀m,m<n→¬p m:=by
 obtain⟨n,hn⟩:=h
 induction n using Nat.strongRecOn with
 |_ n ih=>
  by_cases hx:∃m,m<n∧p m
  ·obtain⟨m,hm,hp⟩:=hx;exact ih m hm hp
  ·exact⟨n,hn,fun m hm hp=>hx ⟨m,hm,hp⟩⟩
open Classical in
noncomputable def wV (p:Nat→Prop):Nat:=if h:∃n,p n then Classical.choose (least h)else 0
theorem Iz{p:Nat→Prop}{n:Nat}(h:p n):wV p≤n:=by
 unfold wV;rw[dif_pos ⟨n,h⟩];have:=(Classical.choose_spec (least ⟨n,h⟩)).2;exact gL fun hlt=>this n hlt h
theorem Iy{p:Nat→Prop}(h:∃n,p n):p (wV p):=by
 unfold wV;rw[dif_pos h];exact(Classical.choose_spec (least h)).1
theorem L0{Q:Exit→Act→World→Prop}{b:Code}{k:List It}{R:Nat→VS→List aD→Prop}{n:Nat}{s:VS}{Γ:List aD}(h0:R n s Γ)
  (hr:∀m s Γ,R m s Γ→EX T P w0 I0 Q ⟨s,.code b::.again (fun s' Γ'=>∃m',m'<m∧R m' s' Γ')::k⟩ Γ):EX T P w0 I0 Q ⟨s,.code (.loop b)::k⟩ Γ:=by
 intro a w ρ hs;show(Code.loop b).wp P (qL T P w0 I0 Q k) a w
 let J:Act→World→Nat→Prop:=fun a w m=>∃s Γ ρ,R m s Γ∧gZ T w0 I0 Γ s a w ρ
 refine wp_loop (fun a w=>∃m,J a w m) (fun a w=>wV (J a w)) ⟨n,s,Γ,ρ,h0,hs⟩ (fun a' w' hI=>?_);obtain⟨s',Γ',ρ',hR,hs'⟩:=Iy hI;have:=hr _ s' Γ' hR a' w' ρ' hs';refine wp_mono this (fun e a2 w2 he=>?_);cases e with
 |normal=>
  obtain⟨s2,Γ2,ρ2,⟨m',hm',hR2⟩,hs2⟩:=he;exact⟨⟨m',s2,Γ2,ρ2,hR2,hs2⟩,iz (Iz ⟨s2,Γ2,ρ2,hR2,hs2⟩) hm'⟩
 |exit id=>exact he
 |goto l=>exact he
 |ret=>exact he
 |panic c=>exact he
 |outgrown=>exact he
theorem Qn{c c':fG}{all:Array Oper}{rest:List Nat}{k:List It}{Q:Exit→Act→World→Prop}{Γ:List aD}(hk:c.k=.ops all rest::k)(hst:aL T c=.next c')(h:Hv T P w0 I0 Q c' Γ)(hno:dD k=false):Hv T P w0 I0 Q c Γ:=by
 unfold Hv;rw[hk];simp only;unfold aL at hst;rw[hk]at hst;cases rest with
 |nil=>
  simp only at hst;injection hst with hst;subst hst;rw[dz hno]at h;exact h
 |cons i r=>
  simp only at hst;split at hst
  ·simp at hst
  ·rename_i o ho;split at hst
   ·simp at hst
   ·rename_i g hg;rw[jB ho];simp only[pQ,hg];cases g with
    |false=>
     simp only[cI]at hst;injection hst with hst;subst hst;exact h
    |true=>
     simp only[bV]at hst;simp only[sF];split at hst
     ·rename_i v hv
      (try rw[hv])
      injection hst with hst;subst hst;exact h
     ·rename_i cs hv
      (try rw[hv])
      split at hst
      ·rename_i d hd;split at hst
       ·rename_i hb
        (try rw[hd])
        injection hst with hst;subst hst;exact⟨hb,h⟩
       ·simp at hst
      ·simp at hst
     ·rename_i b cs hv
      (try rw[hv])
      injection hst with hst;subst hst;exact h
     ·simp at hst
     ·simp at hst
     ·simp at hst
     ·simp at hst
     ·simp at hst
def okK:List It→Bool
 | .ops _ _::k=>sM k
 |k=>sM k
theorem tP{k:List It}(h:sM k=true):okK k=true:=by
 cases k with
 |nil=>rfl
 |cons x k=>cases x<;>first|exact h|simp[sM]at h
theorem q9{k:List It}(h:sM k=true):dD k=false:=by
 cases k with
 |nil=>rfl
 |cons x k=>cases x<;>first|rfl|simp[sM]at h
theorem q_{id:Nat}:∀{k k':List It},sN id k=some k'→sM k=true→sM k'=true
 | [],_,hp,_=>by simp[sN]at hp
 | .code _::k,_,hp,h=>q_ (k:=k) hp h
 | .again _::k,_,hp,h=>q_ (k:=k) hp h
 | .rnd _ _::k,_,hp,h=>q_ (k:=k) hp h
 | .ops _ _::k,_,_,h=>by simp[sM]at h
 | .blk i::k,k',hp,h=>by
  simp only[sN]at hp;cases hb:Nat.beq i id with
  |true=>simp only[hb,bV,ar]at hp;subst hp;exact h
  |false=>simp only[hb,cI]at hp;exact q_ (k:=k) hp h
theorem K_{cd:Code}{k:List It}{s:VS}{c':fG}{Q:Exit→Act→World→Prop}{Γ:List aD}(hT:T.Ok P)(hQ:∀l a w,¬Q (.goto l) a w)(vv:∀ch a w,T.pan ch→a.defers=I0.ds→j9 I0.x w0 w→(∃ks own,T.held ks own∧gn T own w∧∀x∈ks,a.tmps.getD x.1 undef=x.2)→Q (.panic ch) a w)(hno:sM k=true)(hst:aL T ⟨s,.code cd::k⟩=.next c')(ih:okK c'.k=true→Hv T P w0 I0 Q c' Γ):EX T P w0 I0 Q ⟨s,.code cd::k⟩ Γ:=by
 intro a w ρ hs;show cd.wp P (qL T P w0 I0 Q k) a w;cases cd<;>simp only[aL]at hst<;>(try (simp at hst;done))
 case skip=>
  injection hst with hst;subst hst;have:=ih (tP hno);rw[dz (q9 hno)]at this;exact wp_skip (this a w ρ hs)
 case region id ops draw=>
  cases draw with
  |true=>
   simp only[bV]at hst;cases hok:JW T (s.forget (gQ ops ops.toList) []) ops (J6 T ops)with
   |false=>simp[hok]at hst
   |true=>
    simp only[hok,bV]at hst;injection hst with hst;subst hst;have:=ih hno;exact IX hT (fun s' Γ' a' w' ρ' hs' hk=>hk a' w' ρ' hs') (fun ch a w h1 h2 h3 h4=>jl (vv ch a w h1 h2 h3 h4) k) hok this (hs.forget _ _)
  |false=>
   simp only[cI]at hst;injection hst with hst;subst hst;have:=ih hno;exact wp_region (GI hT (fun s' Γ' a' w' ρ' hs' hk=>hk a' w' ρ' hs') (fun ch a w h1 h2 h3 h4=>jl (vv ch a w h1 h2 h3 h4) k) _ _ _ _ _ _ this hs)
 case seq x y=>
  injection hst with hst;subst hst;have:=ih hno;rw[dz rfl]at this;refine wp_seq (wp_mono (this a w ρ hs) (fun e a w he=>?_));cases e<;>exact he
 case cond x p q=>
  split at hst
  ·rename_i t hx;injection hst with hst;subst hst;have:=ih hno;rw[dz rfl]at this;have:=this a w ρ hs;refine wp_cond (hs.val hx) ?_;cases t<;>exact this
  ·simp at hst
 case block id b=>
  injection hst with hst;subst hst;have:=ih hno;rw[dz rfl]at this;exact wp_block (this a w ρ hs)
 case label l=>
  injection hst with hst;subst hst;have:=ih (tP hno);rw[dz (q9 hno)]at this;exact wp_label (this a w ρ hs)
 case scope b=>
  injection hst with hst;subst hst;have:=ih hno;rw[dz rfl]at this;refine wp_scope_straight (wp_mono (this a w ρ hs) (fun e a w he=>?_));cases e with
  |goto l=>exact(oW hQ k he).elim
  |_=>exact he
 case exit id=>
  split at hst
  ·rename_i k' hk';injection hst with hst;subst hst;have Ze:=q_ hk' hno;have:=ih (tP Ze);rw[dz (q9 Ze)]at this;exact wp_exit (oV k hk' (this a w ρ hs))
  ·simp at hst
theorem IJ{c:fG}{f:FuncId}{args:List Value}{d:Option Tmp}{c':fG}(hst:aL T c=.call f args d c'):∃all i r k o,c.k=.ops all (i::r)::k∧all[i]? =some o∧gA all o c.s=some true∧gh T o c.s=.call f args∧d=o.dst∧c'=⟨c.s,.ops all r::k⟩:=by
 obtain⟨s,k⟩:=c;cases k with
 |nil=>simp[aL]at hst
 |cons x k=>
  cases x with
  |blk id=>simp[aL]at hst
  |again R=>simp[aL]at hst
  |rnd n b=>cases n<;>simp[aL]at hst
  |code cd=>
   exfalso
   cases cd<;>simp only[aL,aO]at hst<;>(repeat' (first|(simp at hst;done)|split at hst))
  |ops all rest=>
   cases rest with
   |nil=>simp[aL]at hst
   |cons i r=>
    simp only[aL]at hst;split at hst
    ·simp at hst
    ·rename_i o ho;split at hst
     ·simp at hst
     ·rename_i g hg;cases g with
      |false=>simp at hst
      |true=>
       simp only[bV]at hst;split at hst<;>(try (simp at hst;done))
       ·exfalso
        (repeat' (first|(simp at hst;done)|split at hst))
       ·rename_i f' acP hv;injection hst with h1 h2 h3 h4;subst h1 h2 h3 h4;exact⟨all,i,r,k,o,rfl,ho,hg,hv,rfl,rfl⟩
theorem OZ{c:fG}{o:Oper}{c':fG}(hst:aL T c=.read o c'):∃all i r k,c.k=.ops all (i::r)::k∧all[i]? =some o∧gA all o c.s=some true∧gh T o c.s=.read∧c'=⟨c.s,.ops all r::k⟩:=by
 obtain⟨s,k⟩:=c;cases k with
 |nil=>simp[aL]at hst
 |cons x k=>
  cases x with
  |blk id=>simp[aL]at hst
  |again R=>simp[aL]at hst
  |rnd n b=>cases n<;>simp[aL]at hst
  |code cd=>
   exfalso
   cases cd<;>simp only[aL,aO]at hst<;>(repeat' (first|(simp at hst;done)|split at hst))
  |ops all rest=>
   cases rest with
   |nil=>simp[aL]at hst
   |cons i r=>
    simp only[aL]at hst;split at hst
    ·simp at hst
    ·rename_i o' ho;split at hst
     ·simp at hst
     ·rename_i g hg;cases g with
      |false=>simp at hst
      |true=>
       simp only[bV]at hst;split at hst<;>(try (simp at hst;done))
       ·exfalso
        (repeat' (first|(simp at hst;done)|split at hst))
       ·rename_i hv;injection hst with h1 h2;subst h1 h2;exact⟨all,i,r,k,rfl,ho,hg,hv,rfl⟩
theorem Se{c:fG}{o:Oper}{c':fG}(hst:aL T c=.ask o c'):∃all i r k,c.k=.ops all (i::r)::k∧all[i]? =some o∧gA all o c.s=some true∧gh T o c.s=.ask∧c'=⟨c.s,.ops all r::k⟩:=by
 obtain⟨s,k⟩:=c;cases k with
 |nil=>simp[aL]at hst
 |cons x k=>
  cases x with
  |blk id=>simp[aL]at hst
  |again R=>simp[aL]at hst
  |rnd n b=>cases n<;>simp[aL]at hst
  |code cd=>
   exfalso
   cases cd<;>simp only[aL,aO]at hst<;>(repeat' (first|(simp at hst;done)|split at hst))
  |ops all rest=>
   cases rest with
   |nil=>simp[aL]at hst
   |cons i r=>
    simp only[aL]at hst;split at hst
    ·simp at hst
    ·rename_i o' ho;split at hst
     ·simp at hst
     ·rename_i g hg;cases g with
      |false=>simp at hst
      |true=>
       simp only[bV]at hst;split at hst<;>(try (simp at hst;done))
       ·exfalso
        (repeat' (first|(simp at hst;done)|split at hst))
       ·rename_i hv;injection hst with h1 h2;subst h1 h2;exact⟨all,i,r,k,rfl,ho,hg,hv,rfl⟩
theorem J0{c:fG}{o:Oper}{c':fG}(hst:aL T c=.own o c'):∃all i r k,c.k=.ops all (i::r)::k∧all[i]? =some o∧gA all o c.s=some true∧gh T o c.s=.own∧c'=⟨c.s,.ops all r::k⟩:=by
 obtain⟨s,k⟩:=c;cases k with
 |nil=>simp[aL]at hst
 |cons x k=>
  cases x with
  |blk id=>simp[aL]at hst
  |again R=>simp[aL]at hst
  |rnd n b=>cases n<;>simp[aL]at hst
  |code cd=>
   exfalso
   cases cd<;>simp only[aL,aO]at hst<;>(repeat' (first|(simp at hst;done)|split at hst))
  |ops all rest=>
   cases rest with
   |nil=>simp[aL]at hst
   |cons i r=>
    simp only[aL]at hst;split at hst
    ·simp at hst
    ·rename_i o' ho;split at hst
     ·simp at hst
     ·rename_i g hg;cases g with
      |false=>simp at hst
      |true=>
       simp only[bV]at hst;split at hst<;>(try (simp at hst;done))
       ·exfalso
        (repeat' (first|(simp at hst;done)|split at hst))
       ·rename_i hv;injection hst with h1 h2;subst h1 h2;exact⟨all,i,r,k,rfl,ho,hg,hv,rfl⟩
theorem yI{arr:Array Value}{i j:Nat}{v d:Value}(h:i≠j):(arr.setIfInBounds i v).getD j d=arr.getD j d:=by
 simp only[dE];rw[Array.getElem?_setIfInBounds_ne h]
theorem GS{c:fG}{v:Value}{Γ:List aD}{Q:Exit→Act→World→Prop}(hT:T.Ok P)(vv:∀ch a w,T.pan ch→a.defers=I0.ds→j9 I0.x w0 w→(∃ks own,T.held ks own∧gn T own w∧∀x∈ks,a.tmps.getD x.1 undef=x.2)→Q (.panic ch) a w)(h:xi T c=some v)(hp:T.pan [{v,recovered:=false}])(YX:N0 T c):Hv T P w0 I0 Q c Γ:=by
 obtain⟨s,k⟩:=c;unfold xi at h;simp only at h;split at h
 rotate_left
 ·simp at h
 rename_i id ops k';split at h
 rotate_left
 ·simp at h
 rename_i oa ob od hl;split at h
 rotate_left
 ·simp at h
 rename_i x u y z q ha1 ha2 hb1 hb2 hb3 hd1 hd2;split at h
 rotate_left
 ·simp at h
 rename_i av yt hav hyt;simp only[aO]at h;split at h
 rotate_left
 ·simp at h
 rename_i hc;injection h with h;subst h;simp only[aM]at hc;obtain⟨c1,c2,c3,c4,c5⟩:=hc;have c1:=aI c1;have c2:=aI c2;subst c1 c2;have c3:=tr c3;have c4:=tr c4;have abW:ops= #[oa,ob,od]:=by rw[←Array.toArray_toList (xs:=ops),hl]
 subst abW;rw[dz rfl];intro a w ρ hs;show(Code.region id #[oa,ob,od] false).wp P (qL T P w0 I0 Q k') a w;refine wp_region ?_;have want:∀(a:Act) (o:Oper),o.guard=none→Region.wanted o (yielded #[oa,ob,od] a.tmps)=true:=fun a o ho=>by unfold Region.wanted;rw[ho]
 have go:∀(i:Nat) (rest:List Nat) (o:Oper) (a:Act) (v:Value),#[oa,ob,od][i]? =some o→o.guard=none→(execOp a.eval o).run P w=.ok (.value v) w→wpOps P #[oa,ob,od] (qL T P w0 I0 Q k') rest (a.put o.dst v) w→wpOps P #[oa,ob,od] (qL T P w0 I0 Q k') (i::rest) a w:=by
  intro i rest o a v hi hg hr hk;rw[wpOps_cons];unfold wpOp;rw[hi];simp only;rw[want a o hg,if_pos rfl];left;unfold Oper.wp;rw[hr];exact hk
 obtain⟨v1,hr1,hp1,hrun⟩:=KL hT hs hav;have hr1:v1=av:=hr1;subst hr1;have BV:a.tmps.size=s.tmps.length:=hs.len;have Ou:x<a.tmps.size:=by rw[BV];exact c3
 have hzl:z<a.tmps.size:=by rw[BV];exact c4
 have get:∀(a:Act) (t:Nat) (v:Value),t<a.tmps.size→(a.put (some t) v).eval (.tmp t)=v:=by
  intro a t v ht;simp[Act.put,Act.eval,ht]
 show wpOps P #[oa,ob,od] _ [0,1,2] a w;refine go 0 _ oa a v1 rfl ha2 hrun ?_;obtain⟨fs,hu,_⟩:=oL hT hyt c5;have e1:(a.put oa.dst v1).eval (.tmp x)=v1:=by
  rw[ha1];exact get a x v1 Ou
 refine go 1 _ ob _ (.iface u v1) rfl hb3 ?_ ?_
 ·simp only[execOp,hb1,e1,Instr.makeInterface];simp[cL hu]
 have e2:((a.put oa.dst v1).put ob.dst (.iface u v1)).eval (.tmp z)=.iface u v1:=by
  rw[hb2];refine get _ z _ ?_;rw[ha1];simpa [Act.put]using hzl
 rw[wpOps_cons];unfold wpOp;rw[show(#[oa,ob,od][2]? :Option Oper)=some od from rfl];simp only;rw[want _ od hd2,if_pos rfl];left;unfold Oper.wp;have e3:(execOp ((a.put oa.dst v1).put ob.dst (.iface u v1)).eval od).run P w=.halt (.panic (.iface u v1)) w:=by
  simp only[execOp,hd1,e2,Instr.panic];rfl
 rw[e3];show qL T P w0 I0 Q k' (.panic [{v:=.iface u v1,recovered:=false}]) _ w;obtain⟨ks,kh1,kh2⟩:=YX;refine jl (vv _ _ w hp ?_ hs.below ⟨ks,_,kh1,hs.own,fun e he=>?_⟩) k'
 ·rw[hb2,ha1];exact hs.defers
 ·obtain⟨g1,g2⟩:=kh2 e he;have Zg:e.1∉WN ⟨s,.code (.region id #[oa,ob,od] false)::k'⟩:=fun h=>by
   rw[nS.2 h]at g1;simp at g1
  have hx:e.1≠x:=fun h=>Zg (List.mem_filterMap.2 ⟨oa,by simp,by rw[ha1,h]⟩);have hz:e.1≠z:=fun h=>Zg (List.mem_filterMap.2 ⟨ob,by simp,by rw[hb2,h]⟩);have h3:=hs.tmps e.1 _ g2;rw[hb2,ha1];simp only[Act.put];rw[yI (fun h=>hz h.symm),yI (fun h=>hx h.symm)];exact h3
theorem W.sound{fin:VS→List aD→Prop}{Q:Exit→Act→World→Prop}{c:fG}{Γ:List aD}(hT:T.Ok P)(hQ:∀l a w,¬Q (.goto l) a w)(hfin:∀s Γ a w ρ,fin s Γ→gZ T w0 I0 Γ s a w ρ→Q .normal a w∧Q .ret a w)(vv:∀ch a w,T.pan ch→a.defers=I0.ds→j9 I0.x w0 w→(∃ks own,T.held ks own∧gn T own w∧∀x∈ks,a.tmps.getD x.1 undef=x.2)→Q (.panic ch) a w)(h:W T P fin c Γ):okK c.k=true→Hv T P w0 I0 Q c Γ:=by
 induction h with
 | @next c c' Γ hst hw ih=>
  intro hok;obtain⟨s,k⟩:=c;cases k with
  |nil=>simp[aL]at hst
  |cons x k=>
   cases x with
   |blk id=>
    simp only[aL]at hst;injection hst with hst;subst hst;have hno:sM k=true:=hok;have:=ih (tP hno);have hm:dD (fG.mk s k).k=false:=q9 hno;rw[dz hm]at this;exact this
   |again R=>simp[aL]at hst
   |rnd n b=>
    cases n with
    |zero=>simp[aL]at hst
    |succ n=>
     simp only[aL]at hst;injection hst with hst;subst hst;have:=ih hok;rw[dz rfl]at this;rw[dz rfl];intro a w ρ hs;have:=this a w ρ (hs.forget [] (jr b));show Code.rounds P b (qL T P w0 I0 Q k) (n+1) a w;rw[rounds_succ];refine wp_mono this (fun e a w he=>?_);cases e<;>exact he
   |code cd=>rw[dz rfl];exact K_ hT hQ vv hok hst ih
   |ops all rest=>
    refine Qn rfl hst (ih ?_) (q9 hok);cases rest with
    |nil=>
     simp only[aL]at hst;injection hst with hst;subst hst;exact tP hok
    |cons i r=>
     simp only[aL,aO]at hst
     (repeat' (first|(simp at hst;done)|split at hst))<;>(injection hst with hst;subst hst;exact hok)
 | @call c c' f args d Γ post hst hp hk ih=>
  intro hok;obtain⟨all,i,r,k,o,hck,ho,hg,hv,rfl,rfl⟩:=IJ hst;unfold Hv;rw[hck];rw[hck]at hok;simp only[jB ho,pQ,hg,sF,hv];exact BK hp.o (fun v O Δ ⟨hO,xR⟩=>by subst hO;exact ih v Δ xR hok)
 | @callo c c' f args d Γ post hst hp hk ih=>
  intro hok;obtain⟨all,i,r,k,o,hck,ho,hg,hv,rfl,rfl⟩:=IJ hst;unfold Hv;rw[hck];rw[hck]at hok;simp only[jB ho,pQ,hg,sF,hv];exact BK hp (fun v O Δ xR=>ih v O Δ xR hok)
 | @callx c c' f args d Γ O1 Oin O2 M1 Min M2 post hh hst eo em hp hk ih=>
  intro hok;obtain⟨all,i,r,k,o,hck,ho,hg,hv,rfl,rfl⟩:=IJ hst;unfold Hv;rw[hck];rw[hck]at hok;simp only[jB ho,pQ,hg,sF,hv];exact .inr ⟨⟨hh.1,hh.2.1⟩,O1,Oin,O2,M1,Min,M2,post,eo,em,hh.2.2,hp,fun v O M Δ xR=>ih v O M Δ xR hok⟩
 | @read c c' o Γ v hst ht hk ih=>
  intro hok;obtain⟨all,i,r,k,hck,ho,hg,hv,rfl⟩:=OZ hst;unfold Hv;rw[hck];rw[hck]at hok;simp only[jB ho,pQ,hg,sF,hv];exact⟨v,ht,ih hok⟩
 | @ask c c' o Γ post hst hp hk ih=>
  intro hok;obtain⟨all,i,r,k,hck,ho,hg,hv,rfl⟩:=Se hst;unfold Hv;rw[hck];rw[hck]at hok;simp only[jB ho,pQ,hg,sF,hv];exact⟨post,hp,fun v Δ xR=>ih v Δ xR hok⟩
 | @own c c' o Γ post hst hp hk ih=>
  intro hok;obtain⟨all,i,r,k,hck,ho,hg,hv,rfl⟩:=J0 hst;unfold Hv;rw[hck];rw[hck]at hok;simp only[jB ho,pQ,hg,sF,hv];exact⟨_,hp.m,fun v O M Δ ⟨hM,xR⟩=>by subst hM;exact ih v O Δ xR hok⟩
 | @mop c c' o Γ post hst hp hk ih=>
  intro hok;obtain⟨all,i,r,k,hck,ho,hg,hv,rfl⟩:=J0 hst;unfold Hv;rw[hck];rw[hck]at hok;simp only[jB ho,pQ,hg,sF,hv];exact⟨post,hp,fun v O M Δ xR=>ih v O M Δ xR hok⟩
 | @pub s k Γ O1 O2 b cs hm ho hk ih=>
  intro hok;have:=ih hok;have hm1:dD (fG.mk s k).k=false:=hm;have hm2:dD (fG.mk {s with own:=O1++O2} k).k=false:=hm;rw[dz hm2]at this;rw[dz hm1];intro a w ρ hs;exact this a w ρ (hs.pub ho)
 | @reveal s k Γ t hm ht hk ih=>
  intro hok;have hm1:dD (fG.mk s k).k=false:=hm;rw[dz hm1];intro a w ρ hs;have:=ih (ρ t) hok;have hm2:dD (fG.mk (s.reveal t (ρ t)) k).k=false:=hm;rw[dz hm2]at this;exact this a w ρ (hs.reveal t ht)
 | @un c c' b Γ n hst hk ih=>
  intro hok;obtain⟨s',k⟩:=c;cases k with
  |nil=>simp[aL]at hst
  |cons x k=>
   cases x with
   |blk id=>simp[aL]at hst
   |again R'=>simp[aL]at hst
   |rnd n b=>cases n<;>simp[aL]at hst
   |ops all rest=>
    exfalso
    cases rest with
    |nil=>simp[aL]at hst
    |cons i r=>
     simp only[aL,aO]at hst
     (repeat' (first|(simp at hst;done)|split at hst))
   |code cd=>
    cases cd<;>simp only[aL,aO]at hst<;>(try (exfalso;(repeat' (first|(simp at hst;done)|split at hst));done))
    case loop b'=>
     injection hst with h1 h2;subst h1 h2;have:=ih hok;rw[dz rfl]at this;rw[dz rfl];intro a w ρ hs;exact wp_loop_rounds n (this a w ρ hs)
 | @ret c s Γ hst hf=>
  intro hok;obtain⟨s',k⟩:=c;cases k with
  |nil=>
   simp only[aL]at hst;injection hst with hst;subst hst;intro a w ρ hs;exact(hfin _ _ _ _ _ hf hs).1
  |cons x k=>
   cases x with
   |blk id=>simp[aL]at hst
   |again R=>simp[aL]at hst
   |rnd n b=>cases n<;>simp[aL]at hst
   |ops all rest=>
    exfalso
    cases rest with
    |nil=>simp[aL]at hst
    |cons i r=>
     simp only[aL,aO]at hst
     (repeat' (first|(simp at hst;done)|split at hst))
   |code cd=>
    cases cd<;>simp only[aL,aO]at hst<;>(try (exfalso;(repeat' (first|(simp at hst;done)|split at hst));done))
    case ret=>
     injection hst with hst;subst hst;rw[dz rfl];intro a w ρ hs;exact wp_ret (rl (hfin _ _ _ _ _ hf hs).2 k)
 | @again c R s Γ hst hR=>
  intro hok;obtain⟨s',k⟩:=c;cases k with
  |nil=>simp[aL]at hst
  |cons x k=>
   cases x with
   |blk id=>simp[aL]at hst
   |again R'=>
    simp only[aL]at hst;injection hst with h1 h2;subst h1 h2;rw[dz rfl];intro a w ρ hs;exact⟨_,_,ρ,hR,hs⟩
   |rnd n b=>cases n<;>simp[aL]at hst
   |ops all rest=>
    exfalso
    cases rest with
    |nil=>simp[aL]at hst
    |cons i r=>
     simp only[aL,aO]at hst
     (repeat' (first|(simp at hst;done)|split at hst))
   |code cd=>exfalso;cases cd<;>simp only[aL,aO]at hst<;>(repeat' (first|(simp at hst;done)|split at hst))
 | @loop c c' b Γ R n hst h0 hr ih=>
  intro hok;obtain⟨s',k⟩:=c;cases k with
  |nil=>simp[aL]at hst
  |cons x k=>
   cases x with
   |blk id=>simp[aL]at hst
   |again R'=>simp[aL]at hst
   |rnd n b=>cases n<;>simp[aL]at hst
   |ops all rest=>
    exfalso
    cases rest with
    |nil=>simp[aL]at hst
    |cons i r=>
     simp only[aL,aO]at hst
     (repeat' (first|(simp at hst;done)|split at hst))
   |code cd=>
    cases cd<;>simp only[aL,aO]at hst<;>(try (exfalso;(repeat' (first|(simp at hst;done)|split at hst));done))
    case loop b'=>
     injection hst with h1 h2;subst h1 h2;rw[dz rfl];exact L0 h0 (fun m s Γ' hR=>by
      have:=ih m s Γ' hR hok;rw[dz rfl]at this;exact this)
 | @elim c Γ α φ D hm he hk ih=>
  intro hok;rw[dz hm];intro a w ρ hs;obtain⟨x,hx,hd⟩:=he _ _ hs.dataOK hs.facts;have:=ih x hx hok;rw[dz hm]at this;exact this a w ρ ⟨hs.defers,hs.len,hs.tmps,hs.below,hs.box,hs.inj,hs.wf,hs.data,hd.append hs.facts,hs.own,hs.fresh,hs.sep,hs.nod,hs.mapAt,hs.mfresh,hs.mnod⟩
 | @sub c Γ Δ hm he hk ih=>
  intro hok;have:=ih hok;rw[dz hm]at this⊢;intro a w ρ hs;exact this a w ρ (hs.weak he)
 | @two s k id j i ops l1 l2 Γ Io h1 h2 ih1 ih2=>
  intro hok;have g1:=ih1 hok;have g2:=ih2 hok;rw[dz rfl];intro a w ρ hs;refine IY (K:=fun s Γ=>EX T P w0 I0 Q ⟨s,k⟩ Γ) hT (fun s' Γ' a' w' ρ' hs' hk=>hk a' w' ρ' hs') (fun ch a w h1 h2 h3 h4=>jl (vv ch a w h1 h2 h3 h4) k) (fun s Γ Γ' hi hk a w ρ hs=>hk a w ρ (hs.weak hi)) Io g1 g2 (hs.forget _ _)
 | @many s k id ops ls Γ Io h1 ih1=>
  intro hok;have g1:=fun l hl=>ih1 l hl hok;rw[dz rfl];intro a w ρ hs;refine G6 (K:=fun s Γ=>EX T P w0 I0 Q ⟨s,k⟩ Γ) hT (fun s' Γ' a' w' ρ' hs' hk=>hk a' w' ρ' hs') (fun ch a w h1 h2 h3 h4=>jl (vv ch a w h1 h2 h3 h4) k) (fun s Γ Γ' hi hk a w ρ hs=>hk a w ρ (hs.weak hi)) Io g1 (hs.forget _ _)
 |panic v hp1 hp2 hp3=>
  intro hok;exact GS hT vv hp1 hp2 hp3
 | @forget s k Γ D B hm hk ih=>
  intro hok;have:=ih hok;have hm':dD (fG.mk s k).k=false:=hm;have hm2:dD (fG.mk (s.forget D B) k).k=false:=hm;rw[dz hm2]at this;rw[dz hm'];intro a w ρ hs;exact this a w ρ (hs.forget D B)
end
def Uu(T:Tb)(s:VS)(b off:Nat)(t:TypeId):Option Value:=
 match T.get t,s.boxes.getD b none with
 |some y,some cs=>
  bif y.agg then(bif Nat.ble (off+y.size) cs.length then some (.agg ((cs.drop off).take y.size).toArray)else none)
  else cs[off]?
 |_,_=>none
def zQ(T:Tb)(s:VS):ResultVar→Option Value
 | .tmp t=>(s.ev (.tmp t)).val?
 | .cell x ty=>match s.ev (.tmp x)with
  | .ptr b off=>Uu T s b off ty
  |_=>none
def Dt(T:Tb)(s:VS):List ResultVar→Option (List Value)
 | []=>some []
 |r::rs=>match zQ T s r,Dt T s rs with
  |some v,some vs=>some (v::vs)
  |_,_=>none
def nZ(T:Tb)(s:VS)(rs:List ResultVar):Option Value:=
 match Dt T s rs with
 |some [v]=>some v
 |some vs=>some (.tuple vs.toArray)
 |none=>none
def uV(tm:Array Value)(r:ResultVar):Sem Value:=
 match r with
 | .tmp t=>pure (tm.getD t undef)
 | .cell x t=>do loadVar t (←asAddr (tm.getD x undef))
theorem I2(fn:Func)(tm:Array Value):results fn tm=(do let vs ←fn.results.mapM (uV tm);pure (if h:vs.size=1 then vs[0]else .tuple vs)):=by
 unfold results;have:uV tm=(fun r=>match r with
  | .tmp t=>pure (tm.getD t undef)
  | .cell x t=>do loadVar t (←asAddr (tm.getD x undef)):ResultVar→Sem Value):=by
  funext r;cases r<;>rfl
 rw[this];rfl
section
variable{T:Tb}{P:Program}{w0:World}{I0:Mj}
theorem IZ{Γ:List aD}{s:VS}{a:Act}{w:World}{ρ:Nat→Nat}{r:ResultVar}{v:Value}(hT:T.Ok P)(hs:gZ T w0 I0 Γ s a w ρ)(h:zQ T s r=some v):
  (uV a.tmps r).run P w=.ok v w:=by
 cases r with
 |tmp t=>
  simp only[zQ,SV.val?]at h;split at h
  ·rename_i u hu;injection h with h;subst h;have:=hs.val hu;simp only[Act.eval]at this;simp only[uV,this];rfl
  ·simp at h
 |cell x ty=>
  simp only[zQ]at h;split at h
  ·rename_i b off hx;unfold Uu at h;split at h
   ·rename_i y cs hy hcs;have hp:=hs.evptr hx;simp only[Act.eval]at hp;obtain⟨h1,h2⟩:=Ge (o:=⟨none,.load ty (.tmp x),0, "",#[],none⟩) hT hs rfl hx hy hcs;have hrun:∀v,(execOp a.eval ⟨none,.load ty (.tmp x),0, "",#[],none⟩).run P w=.ok (.value v) w→(loadVar ty ⟨ρ b,off,none⟩).run P w=.ok v w:=by
     intro v hv;simp only[execOp,Instr.loadAt,Instr.sureAddr,hs.evptr hx,cz,dS,bB]at hv;cases hl:(loadVar ty ⟨ρ b,off,none⟩).run P w with
     |ok u w'=>
      rw[hl]at hv;simp only[bB]at hv;injection hv with hv1 hv2;injection hv1 with hv1;subst hv1 hv2;rfl
     |halt e w'=>
      rw[hl]at hv;simp at hv
    have YW:(loadVar ty ⟨ρ b,off,none⟩).run P w=.ok v w:=by
     cases Hr:y.agg with
     |true=>
      simp only[Hr,bV]at h;cases hle:Nat.ble (off+y.size) cs.length with
      |false=>simp[hle]at h
      |true=>
       simp only[hle,bV]at h;injection h with h;subst h;exact hrun _ (h1 Hr (l8 hle))
     |false=>
      simp only[Hr,cI]at h;exact hrun _ (h2 Hr v h)
    simp only[uV,cz,hp,asAddr,dS,bB];exact YW
   ·simp at h
  ·simp at h
theorem G8{Γ:List aD}{s:VS}{a:Act}{w:World}{ρ:Nat→Nat}(hT:T.Ok P)(hs:gZ T w0 I0 Γ s a w ρ):∀{rs:List ResultVar} {vs:List Value},Dt T s rs=some vs→
  (rs.mapM (uV a.tmps)).run P w=.ok vs w
 | [],vs,h=>by
  simp only[Dt,ar]at h;subst h;rfl
 |r::rs,vs,h=>by
  unfold Dt at h;split at h
  ·rename_i v us hv hu;injection h with h;subst h;have h1:=IZ hT hs hv;have h2:=G8 hT hs hu;rw[List.mapM_cons];simp only[cz];rw[h1];simp only[bB];rw[h2];rfl
  ·simp at h
theorem zJ{Γ:List aD}{s:VS}{a:Act}{w:World}{ρ:Nat→Nat}{fn:Func}{v:Value}(hT:T.Ok P)(hs:gZ T w0 I0 Γ s a w ρ)(h:nZ T s fn.results.toList=some v):(results fn a.tmps).run P w=.ok v w:=by
 unfold nZ at h;rw[I2,Array.mapM_eq_mapM_toList];cases hl:Dt T s fn.results.toList with
 |none=>simp[hl]at h
 |some vs=>
  have h2:=G8 hT hs hl;simp only[cz,Sem.run_map];rw[h2];rw[hl]at h;simp only[bB];split at h
  ·rename_i u hu;injection hu with hu;subst hu;injection h with h;subst h;rfl
  ·rename_i us hne hu;injection hu with hu;subst hu;injection h with h;subst h;have:¬vs.toArray.size=1:=by
    intro he;cases vs with
    |nil=>simp at he
    |cons x r=>
     cases r with
     |nil=>exact hne x rfl
     |cons y r=>simp at he
   rw[dif_neg this];rfl
  ·simp at h
def Fin(T:Tb)(fn:Func)(post:Value→List aD→Prop)(s:VS)(Γ:List aD):Prop:=
 ∃v Δ,nZ T s fn.results.toList=some v∧post v Δ∧∀I w,br T I w→aG Γ I w→aG Δ I w
def eZ(fn:Func)(c:Code)(args:List Value):fG:=
 ⟨{tmps:=args.map .val++List.replicate (fn.ntmps-args.length) (.val undef),boxes:=List.replicate fn.ntmps none,own:=[],maps:=[]},[.code c]⟩
theorem aw.of_W{f:FuncId}{fn:Func}{c:Code}{args:List Value}{Γ:List aD}{post:Value→List aD→Prop}(hT:T.Ok P)(hf:P.funcs[f]? =some fn)(hb:fn.body=some c)
  (h:W T P (Fin T fn post) (eZ fn c args) Γ)(hnp:∀ch,¬T.pan ch:=by intro _ h;exact h)(hn:(fn.name== "runtime.NumGoroutine")=false:=by kernel_rfl):aw T P f args Γ post:=by
 refine⟨⟨fn,hf,hn,by rw[hb];rfl⟩,fun I w hd hh=>?_⟩;refine calls_of_wp hf hb ?_;have hs0:gZ T w ⟨I,fun _=>False,[]⟩ Γ (eZ fn c args).s {tmps:=args.toArray++Array.replicate (fn.ntmps-args.toArray.size) undef,defers:=[]} w (fun _=>0):=by
  have tL:∀(t:Nat) (cs:List Value),(eZ fn c args).s.boxes[t]? =some (some cs)→False:=by
   intro t cs ht;simp only[eZ,cX]at ht;split at ht<;>simp at ht
  refine⟨rfl,by simp[eZ],fun i sv hi=>?_,j9.refl _ _,fun t cs ht=>(tL t cs ht).elim,fun t u cs cs' ht=>(tL t cs ht).elim,?_,hd,hh.up (fun b hb hI=>⟨fun _=>.inl hI,fun t cs ht=>(tL t cs ht).elim,fun cs hc=>by simp[eZ]at hc,fun m hm=>by simp[eZ]at hm⟩) (fun _ _ _=>rfl) (ak _),fun b cs hc=>by simp[eZ]at hc,fun b cs hc=>by simp[eZ]at hc,fun b cs hc=>by simp[eZ]at hc,by simp[eZ],fun b m hm=>by simp[eZ]at hm,fun b m hm=>by simp[eZ]at hm,by simp[eZ]⟩
  ·simp only[eZ,kC,bI]at hi;simp only[dE,Array.getElem?_append,qC];split at hi
   ·rename_i hlt;simp only[bK]at hi;rw[if_pos hlt];cases hx:args[i]? with
    |none=>rw[hx]at hi;simp at hi
    |some v=>
     rw[hx]at hi;simp only[c_,ar]at hi;subst hi;simp[hx,rel]
   ·rename_i hlt;rw[if_neg hlt];simp only[cX]at hi;split at hi
    ·rename_i hl;injection hi with hi;subst hi;simp[hl,rel]
    ·simp at hi
  ·intro i t off hi
   exfalso
   simp only[eZ,kC,bI]at hi;split at hi
   ·simp only[bK]at hi;cases hx:args[i]? with
    |none=>rw[hx]at hi;simp at hi
    |some v=>rw[hx]at hi;simp at hi
   ·simp only[cX]at hi;split at hi<;>simp at hi
 have:=h.sound (w0:=w) (I0:=⟨I,fun _=>False,[]⟩) (Q:=bodyPost P fn fun e w'=>∃v Δ,e=.returned v∧post v Δ∧Below w.heap.size w w'∧aG Δ (fun b=>b<w.heap.size→I b) w') hT (fun l a w h=>h) (fun s Γ a w' ρ hfin hs=>by
  obtain⟨v,Δ,hv,hp,hd'⟩:=hfin;have hr:=zJ hT hs hv;have hpost:∃v' Δ',Ending.returned v=.returned v'∧post v' Δ'∧Below w.heap.size w w'∧aG Δ' (fun b=>b<w.heap.size→I b) w':=
   ⟨v,Δ,rfl,hp,hs.below.below,(hd' _ _ hs.dataOK hs.facts).up (fun b _ hI hl=>(hI.1 hl).elim id (fun h=>h.elim)) (fun _ _ _=>rfl) (ak _)⟩
  exact⟨⟨hs.defers,v,hr,hpost⟩,⟨hs.defers,v,hr,hpost⟩⟩) (fun ch _ _ h _ _=>(hnp ch h).elim) rfl
 rw[dz rfl]at this;exact this _ w _ hs0
def XM(T:Tb)(fn:Func)(post:Value→List (Nat×List Value)→List aD→Prop)(s:VS)(Γ:List aD):Prop:=
 ∃v Δ,nZ T s fn.results.toList=some v∧post v s.own Δ∧∀I w,br T I w→aG Γ I w→aG Δ I w
theorem kt.of_W{f:FuncId}{fn:Func}{c:Code}{args:List Value}{Γ:List aD}{post:Value→List (Nat×List Value)→List aD→Prop}(hT:T.Ok P)(hf:P.funcs[f]? =some fn)(hb:fn.body=some c)
  (h:W T P (XM T fn post) (eZ fn c args) Γ)(hnp:∀ch,¬T.pan ch:=by intro _ h;exact h)(hn:(fn.name== "runtime.NumGoroutine")=false:=by kernel_rfl):kt T P f args Γ post:=by
 refine⟨⟨fn,hf,hn,by rw[hb];rfl⟩,fun I w hd hh=>?_⟩;refine calls_of_wp hf hb ?_;have hs0:gZ T w ⟨I,fun _=>False,[]⟩ Γ (eZ fn c args).s {tmps:=args.toArray++Array.replicate (fn.ntmps-args.toArray.size) undef,defers:=[]} w (fun _=>0):=by
  have tL:∀(t:Nat) (cs:List Value),(eZ fn c args).s.boxes[t]? =some (some cs)→False:=by
   intro t cs ht;simp only[eZ,cX]at ht;split at ht<;>simp at ht
  refine⟨rfl,by simp[eZ],fun i sv hi=>?_,j9.refl _ _,fun t cs ht=>(tL t cs ht).elim,fun t u cs cs' ht=>(tL t cs ht).elim,?_,hd,hh.up (fun b hb hI=>⟨fun _=>.inl hI,fun t cs ht=>(tL t cs ht).elim,fun cs hc=>by simp[eZ]at hc,fun m hm=>by simp[eZ]at hm⟩) (fun _ _ _=>rfl) (ak _),fun b cs hc=>by simp[eZ]at hc,fun b cs hc=>by simp[eZ]at hc,fun b cs hc=>by simp[eZ]at hc,by simp[eZ],fun b m hm=>by simp[eZ]at hm,fun b m hm=>by simp[eZ]at hm,by simp[eZ]⟩
  ·simp only[eZ,kC,bI]at hi;simp only[dE,Array.getElem?_append,qC];split at hi
   ·rename_i hlt;simp only[bK]at hi;rw[if_pos hlt];cases hx:args[i]? with
    |none=>rw[hx]at hi;simp at hi
    |some v=>
     rw[hx]at hi;simp only[c_,ar]at hi;subst hi;simp[hx,rel]
   ·rename_i hlt;rw[if_neg hlt];simp only[cX]at hi;split at hi
    ·rename_i hl;injection hi with hi;subst hi;simp[hl,rel]
    ·simp at hi
  ·intro i t off hi
   exfalso
   simp only[eZ,kC,bI]at hi;split at hi
   ·simp only[bK]at hi;cases hx:args[i]? with
    |none=>rw[hx]at hi;simp at hi
    |some v=>rw[hx]at hi;simp at hi
   ·simp only[cX]at hi;split at hi<;>simp at hi
 have:=h.sound (w0:=w) (I0:=⟨I,fun _=>False,[]⟩) (Q:=bodyPost P fn fun e w'=>∃v O Δ,e=.returned v∧post v O Δ∧Below w.heap.size w w'∧gn T O w'∧(∀b cs,(b,cs)∈O→w.heap.size≤b)∧(O.map (·.1)).Nodup∧aG Δ (fun b=>(b<w.heap.size→I b)∧∀cs,(b,cs)∉O) w') hT (fun l a w h=>h) (fun s Γ a w' ρ hfin hs=>by
  obtain⟨v,Δ,hv,hp,hd'⟩:=hfin;have hr:=zJ hT hs hv;have hpost:∃v' O' Δ',Ending.returned v=.returned v'∧post v' O' Δ'∧Below w.heap.size w w'∧gn T O' w'∧(∀b cs,(b,cs)∈O'→w.heap.size≤b)∧(O'.map (·.1)).Nodup∧aG Δ' (fun b=>(b<w.heap.size→I b)∧∀cs,(b,cs)∉O') w':=
   ⟨v,s.own,Δ,rfl,hp,hs.below.below,hs.own,fun b cs hb=>(hs.fresh b cs hb).elim id (fun h=>h.elim),hs.nod,(hd' _ _ hs.dataOK hs.facts).up (fun b _ hI=>⟨fun hl=>(hI.1 hl).elim id (fun h=>h.elim),hI.2.2.1⟩) (fun _ _ _=>rfl) (ak _)⟩
  exact⟨⟨hs.defers,v,hr,hpost⟩,⟨hs.defers,v,hr,hpost⟩⟩) (fun ch _ _ h _ _=>(hnp ch h).elim) rfl
 rw[dz rfl]at this;exact this _ w _ hs0
def wc(fn:Func)(c:Code)(args:List Value)(Oin:List (Nat×List Value))(Min:List (Nat×List (Value×Value))):fG:=
 ⟨{tmps:=args.map .val++List.replicate (fn.ntmps-args.length) (.val undef),boxes:=List.replicate fn.ntmps none,own:=Oin,maps:=Min},[.code c]⟩
def KM(T:Tb)(fn:Func)(post:Value→List (Nat×List Value)→List (Nat×List (Value×Value))→List aD→Prop)(s:VS)(Γ:List aD):Prop:=
 ∃v Δ,nZ T s fn.results.toList=some v∧post v s.own s.maps Δ∧∀I w,br T I w→aG Γ I w→aG Δ I w
theorem dB.of_W{f:FuncId}{fn:Func}{c:Code}{args:List Value}{Oin:List (Nat×List Value)}{Min:List (Nat×List (Value×Value))}{Γ:List aD}{post:Value→List (Nat×List Value)→List (Nat×List (Value×Value))→List aD→Prop}(hT:T.Ok P)(hf:P.funcs[f]? =some fn)(hb:fn.body=some c)
  (h:W T P (KM T fn post) (wc fn c args Oin Min) Γ)(hn:(fn.name== "runtime.NumGoroutine")=false:=by kernel_rfl):dB T P f args Oin Min Γ post:=by
 refine⟨⟨fn,hf,hn,by rw[hb];rfl⟩,fun I w hd hh ho hon hm hmn hx=>?_⟩;refine calls_of_wp hf hb ?_;have hs0:gZ T w ⟨I,gI Oin Min,[]⟩ Γ (wc fn c args Oin Min).s {tmps:=args.toArray++Array.replicate (fn.ntmps-args.toArray.size) undef,defers:=[]} w (fun _=>0):=by
  have tL:∀(t:Nat) (cs:List Value),(wc fn c args Oin Min).s.boxes[t]? =some (some cs)→False:=by
   intro t cs ht;simp only[wc,cX]at ht;split at ht<;>simp at ht
  refine⟨rfl,by simp[wc],fun i sv hi=>?_,j9.refl _ _,fun t cs ht=>(tL t cs ht).elim,fun t u cs cs' ht=>(tL t cs ht).elim,?_,hd,hh.up (fun b hb hI=>⟨fun _=>.inl hI,fun t cs ht=>(tL t cs ht).elim,fun cs hc=>hx b (.inl ⟨cs,hc⟩) hI,fun m hm=>hx b (.inr ⟨m,hm⟩) hI⟩) (fun _ _ _=>rfl) (ak _),ho,fun b cs hb=>.inr (.inl ⟨cs,hb⟩),fun b cs hb t cs' ht=>(tL t cs' ht).elim,hon,hm,fun b m hb=>.inr (.inr ⟨m,hb⟩),hmn⟩
  ·simp only[wc,kC,bI]at hi;simp only[dE,Array.getElem?_append,qC];split at hi
   ·rename_i hlt;simp only[bK]at hi;rw[if_pos hlt];cases hx:args[i]? with
    |none=>rw[hx]at hi;simp at hi
    |some v=>
     rw[hx]at hi;simp only[c_,ar]at hi;subst hi;simp[hx,rel]
   ·rename_i hlt;rw[if_neg hlt];simp only[cX]at hi;split at hi
    ·rename_i hl;injection hi with hi;subst hi;simp[hl,rel]
    ·simp at hi
  ·intro i t off hi
   exfalso
   simp only[wc,kC,bI]at hi;split at hi
   ·simp only[bK]at hi;cases hx:args[i]? with
    |none=>rw[hx]at hi;simp at hi
    |some v=>rw[hx]at hi;simp at hi
   ·simp only[cX]at hi;split at hi<;>simp at hi
 have:=h.sound (w0:=w) (I0:=⟨I,gI Oin Min,[]⟩) (Q:=bodyPost P fn fun e w'=>(∃v O M Δ,e=.returned v∧post v O M Δ∧j9 (gI Oin Min) w w'∧gn T O w'∧(∀b cs,(b,cs)∈O→gI Oin Min b∨w.heap.size≤b)∧(O.map (·.1)).Nodup∧vl M w'∧(∀b m,(b,m)∈M→gI Oin Min b∨w.heap.size≤b)∧(M.map (·.1)).Nodup∧
   aG Δ (fun b=>(b<w.heap.size→I b∨gI Oin Min b)∧(∀cs,(b,cs)∉O)∧∀m,(b,m)∉M) w')∨
  (∃ch,e=.panicked ch∧T.pan ch∧j9 (gI Oin Min) w w')) hT (fun l a w h=>h) (fun s Γ a w' ρ hfin hs=>by
  obtain⟨v,Δ,hv,hp,hd'⟩:=hfin;have hr:=zJ hT hs hv;refine⟨⟨hs.defers,v,hr,.inl ?_⟩,⟨hs.defers,v,hr,.inl ?_⟩⟩<;>
   exact⟨v,s.own,s.maps,Δ,rfl,hp,hs.below,hs.own,fun b cs hb=>(hs.fresh b cs hb).symm,hs.nod,hs.mapAt,fun b m hb=>(hs.mfresh b m hb).symm,hs.mnod,(hd' _ _ hs.dataOK hs.facts).up (fun b _ hI=>⟨hI.1,hI.2.2.1,hI.2.2.2⟩) (fun _ _ _=>rfl) (ak _)⟩) (fun ch a w' h1 h2 h3 _=>?_) rfl
 ·rw[dz rfl]at this;exact this _ w _ hs0
 ·exact⟨h2,.inr ⟨ch,rfl,h1,h3⟩⟩
theorem aw.weak{f:FuncId}{args:List Value}{Γ Γ':List aD}{post post':Value→List aD→Prop}(h:aw T P f args Γ post)(hs:∀I w,br T I w→aG Γ' I w→aG Γ I w)(hp:∀v Δ,post v Δ→post' v Δ):aw T P f args Γ' post':=
 ⟨h.1,fun I w hd hh=>(h.2 I w hd (hs I w hd hh)).mono fun _ _ ⟨v,Δ,h1,h2,h3⟩=>⟨v,Δ,h1,hp v Δ h2,h3⟩⟩
def Qo(D:List Nat)(c:fG):Bool:=
 match c.k with
 | .code (.cond (.tmp t) _ _)::_=> !lK t D
 | .ops all (i::_)::_=>match all[i]? with
  |some o=>
   (match o.guard with
    |some (j,_)=>match(all[j]?).bind (·.dst)with
     |some t=>match c.s.tmps[t]? with
      |some (.val (.bool _))=> !lK t D
      |_=>false
     |none=>false
    |none=>false)||
   (match o.op with
    | .pick (.tmp t) _ _=> !lK t D
    |_=>false)
  |none=>false
 |_=>false
def bh(T:Tb)(D:List Nat):Nat→fG→fG
 |0,c=>c
 |n+1,c=>bif Qo D c then c else match aL T c with
  | .next c'=>bh T D n c'
  |_=>c
def gg(e:Ev)(v:Value):fG:=
 match e with
 | .call _ _ d c=>⟨c.s.put d (.val v),c.k⟩
 | .read o c=>⟨c.s.put o.dst (.val v),c.k⟩
 | .ask o c=>⟨c.s.put o.dst (.val v),c.k⟩
 |_=>⟨⟨[],[],[],[]⟩,[]⟩
def rI:Ev→Option (FuncId×List Value)
 | .call f args _ _=>some (f,args)
 |_=>none
def acx:Ev→Option (Oper×VS)
 | .read o c=>some (o,c.s)
 |_=>none
def jb:Ev→Option VS
 | .ret s=>some s
 |_=>none
def Hb(t:Nat)(b:Bool)(c:fG):fG:=⟨{c.s with tmps:=c.s.tmps.set t (.val (.bool b))},c.k⟩
def Yf(c:fG)(t:Nat):Option SV:=c.s.tmps[t]?
variable{fin:VS→List aD→Prop}{c:fG}{Γ:List aD}
theorem eD(D:List Nat):∀(n:Nat) {c:fG},W T P fin (bh T D n c) Γ→W T P fin c Γ
 |0,_,h=>h
 |n+1,c,h=>by
  unfold bh at h;cases hb:Qo D c with
  |true=>simp only[hb,bV]at h;exact h
  |false=>
   simp only[hb,cI]at h;split at h
   ·rename_i c' hc;exact W.next hc (eD D n h)
   ·exact h
theorem Jj(D:List Nat)(n:Nat){f:FuncId}{args:List Value}{Γ0:List aD}{post:Value→List aD→Prop}(h:rI (aL T (bh T D n c))=some (f,args))(hp:aw T P f args Γ0 post)(hs:∀I w,br T I w→aG Γ I w→aG Γ0 I w)
  (hk:∀v Δ,post v Δ→W T P fin (gg (aL T (bh T D n c)) v) (Δ++Γ)):W T P fin c Γ:=by
 refine eD D n ?_;generalize bh T D n c=c1 at*;cases he:aL T c1<;>rw[he]at h hk<;>simp[rI]at h;obtain⟨rfl,rfl⟩:=h;exact W.call post he (hp.weak hs (fun _ _ h=>h)) hk
def SH(e:Ev)(O:List (Nat×List Value))(v:Value):fG:=
 match e with
 | .call _ _ d c=>⟨({c.s with own:=O++c.s.own}:VS).put d (.val v),c.k⟩
 |_=>⟨⟨[],[],[],[]⟩,[]⟩
theorem XZ(D:List Nat){f:FuncId}{args:List Value}{post:Value→List (Nat×List Value)→List aD→Prop}(hp:kt T P f args Γ post)
  (hk:∀v O Δ,post v O Δ→W T P fin (SH (aL T (bh T D 999 c)) O v) (Δ++Γ))(h:rI (aL T (bh T D 999 c))=some (f,args):=by kernel_rfl):W T P fin c Γ:=by
 refine eD D 999 ?_;generalize bh T D 999 c=c1 at*;cases he:aL T c1<;>rw[he]at h hk<;>simp[rI]at h;obtain⟨rfl,rfl⟩:=h;exact W.callo post he hp hk
def Ky(e:Ev)(O:List (Nat×List Value))(M:List (Nat×List (Value×Value)))(v:Value):fG:=
 match e with
 | .call _ _ d c=>⟨({c.s with own:=O,maps:=M}:VS).put d (.val v),c.k⟩
 |_=>⟨⟨[],[],[],[]⟩,[]⟩
def Uf:Ev→List (Nat×List Value)
 | .call _ _ _ c=>c.s.own
 |_=>[]
def OO:Ev→List (Nat×List (Value×Value))
 | .call _ _ _ c=>c.s.maps
 |_=>[]
def Xb:Ev→List SV
 | .call _ _ _ c=>c.s.tmps
 |_=>[]
theorem ML(D:List Nat){f:FuncId}{args:List Value}(O1 Oin O2:List (Nat×List Value))(M1 Min M2:List (Nat×List (Value×Value))){post:Value→List (Nat×List Value)→List (Nat×List (Value×Value))→List aD→Prop}(hT:T.hand=true∧T.calm f=false)(hH:JI T (Xb (aL T (bh T D 999 c))) (O1++O2))(h:rI (aL T (bh T D 999 c))=some (f,args))
  (eo:Uf (aL T (bh T D 999 c))=O1++(Oin++O2))(em:OO (aL T (bh T D 999 c))=M1++(Min++M2))(hp:dB T P f args Oin Min Γ post)
  (hk:∀v O M Δ,post v O M Δ→W T P fin (Ky (aL T (bh T D 999 c)) (O1++(O++O2)) (M1++(M++M2)) v) (Δ++Γ)):W T P fin c Γ:=by
 refine eD D 999 ?_;generalize bh T D 999 c=c1 at*;cases he:aL T c1<;>rw[he]at h eo em hk hH<;>simp[rI]at h;obtain⟨rfl,rfl⟩:=h;exact W.callx post ⟨hT.1,hT.2,hH⟩ he eo em hp hk
theorem cZ(D:List Nat){f:FuncId}{args:List Value}(O1 Oin O2:List (Nat×List Value))(M1 Min M2:List (Nat×List (Value×Value))){post:Value→List (Nat×List Value)→List (Nat×List (Value×Value))→List aD→Prop}(hT:T.hand=true∧T.calm f=false∧T.held [] (O1++O2))
   (hp:dB T P f args Oin Min Γ post)
  (hk:∀v O M Δ,post v O M Δ→W T P fin (Ky (aL T (bh T D 999 c)) (O1++(O++O2)) (M1++(M++M2)) v) (Δ++Γ))(h:rI (aL T (bh T D 999 c))=some (f,args):=by kernel_rfl)(eo:Uf (aL T (bh T D 999 c))=O1++(Oin++O2):=by kernel_rfl)(em:OO (aL T (bh T D 999 c))=M1++(Min++M2):=by kernel_rfl):W T P fin c Γ:=
 ML D O1 Oin O2 M1 Min M2 ⟨hT.1,hT.2.1⟩ ⟨[],hT.2.2,fun x hx=>by simp at hx⟩ h eo em hp hk
def Yz(T:Tb):fG→Option (fG×fG)
 |⟨s,.code (.region _ ops true)::k⟩=>match Z2 T (s.forget (gQ ops ops.toList) []) ops (J6 T ops)with
  |some (j,i,l1,l2)=>bif JX T (s.forget (gQ ops ops.toList) []) ops j i l1 l2 then some (⟨s.forget (gQ ops ops.toList) [],.ops ops l1::k⟩,⟨s.forget (gQ ops ops.toList) [],.ops ops l2::k⟩)else none
  |none=>none
 |_=>none
def YA(T:Tb)(c:fG):fG:=((Yz T c).map (·.1)).getD c
def YB(T:Tb)(c:fG):fG:=((Yz T c).map (·.2)).getD c
theorem MM(D:List Nat)(h1:W T P fin (YA T (bh T D 999 c)) Γ)(h2:W T P fin (YB T (bh T D 999 c)) Γ)(h:(Yz T (bh T D 999 c)).isSome=true:=by kernel_rfl):W T P fin c Γ:=by
 refine eD D 999 ?_;generalize bh T D 999 c=c1 at*;unfold YA at h1;unfold YB at h2;cases hf:Yz T c1 with
 |none=>rw[hf]at h;simp at h
 |some q=>
  rw[hf]at h1 h2;simp only[c_,jD]at h1 h2;unfold Yz at hf;split at hf
  ·rename_i s id ops k;split at hf
   ·rename_i j i l1 l2 ht;rw[aO]at hf;split at hf
    ·rename_i hok;injection hf with hf;subst hf;exact .two hok h1 h2
    ·simp at hf
   ·simp at hf
  ·simp at hf
def OP(T:Tb)(ls:List (List Nat)):fG→Bool
 |⟨s,.code (.region _ ops true)::_⟩=>Eg T (s.forget (gQ ops ops.toList) []) ops ls
 |_=>false
def mny(l:List Nat):fG→fG
 |⟨s,.code (.region _ ops true)::k⟩=>⟨s.forget (gQ ops ops.toList) [],.ops ops l::k⟩
 |c=>c
theorem Rk(D:List Nat)(ls:List (List Nat))(h:OP T ls (bh T D 999 c)=true)(hk:∀l∈ls,W T P fin (mny l (bh T D 999 c)) Γ):W T P fin c Γ:=by
 refine eD D 999 ?_;generalize bh T D 999 c=c1 at*;unfold OP at h;split at h
 ·exact .many h hk
 ·simp at h
theorem aaP{φ:List Nat→Prop}{a b c:List Nat}(h1:φ a)(h2:φ b)(h3:φ c):∀l∈[a,b,c],φ l:=fun l hl=>by
 simp only[aF,aE,bL]at hl;rcases hl with rfl|rfl|rfl
 ·exact h1
 ·exact h2
 ·exact h3
theorem Rl(D:List Nat)(l1 l2 l3:List Nat)(h1:W T P fin (mny l1 (bh T D 999 c)) Γ)(h2:W T P fin (mny l2 (bh T D 999 c)) Γ)(h3:W T P fin (mny l3 (bh T D 999 c)) Γ)(h:OP T [l1,l2,l3] (bh T D 999 c)=true:=by kernel_rfl):W T P fin c Γ:=
 Rk D [l1,l2,l3] h (aaP h1 h2 h3)
theorem j1(D:List Nat){fn:Func}{post:Value→List (Nat×List Value)→List (Nat×List (Value×Value))→List aD→Prop}(v:Value)(O:List (Nat×List Value))(M:List (Nat×List (Value×Value))){Δ:List aD}
   (hp:post v O M Δ)(hd:∀I w,br T I w→aG Γ I w→aG Δ I w)(h:(jb (aL T (bh T D 999 c))).bind (fun s=>nZ T s fn.results.toList)=some v:=by kernel_rfl)(ho:(jb (aL T (bh T D 999 c))).map (fun s=>(s.own,s.maps))=some (O,M):=by kernel_rfl):W T P (KM T fn post) c Γ:=by
 refine eD D 999 ?_;generalize bh T D 999 c=c1 at*;cases he:aL T c1<;>rw[he]at h ho<;>simp[jb]at h ho;obtain⟨rfl,rfl⟩:=ho;exact W.ret he ⟨v,Δ,h,hp,hd⟩
theorem Ya(D:List Nat){fn:Func}{post:Value→List (Nat×List Value)→List aD→Prop}(v:Value)(O:List (Nat×List Value)){Δ:List aD}
   (hp:post v O Δ)(hs:∀I w,br T I w→aG Γ I w→aG Δ I w)(h:(jb (aL T (bh T D 999 c))).bind (fun s=>nZ T s fn.results.toList)=some v:=by kernel_rfl)(ho:(jb (aL T (bh T D 999 c))).map (·.own)=some O:=by kernel_rfl):W T P (XM T fn post) c Γ:=by
 refine eD D 999 ?_;generalize bh T D 999 c=c1 at*;cases he:aL T c1<;>rw[he]at h ho<;>simp[jb]at h ho;subst ho;exact W.ret he ⟨v,Δ,h,hp,hs⟩
theorem HD(D:List Nat)(n:Nat)(t:Nat)(b:Bool)(h:Yf (bh T D n c) t=some (.val (.bool b)))
  (ht:b=true→W T P fin (Hb t true (bh T D n c)) Γ)(hf:b=false→W T P fin (Hb t false (bh T D n c)) Γ):W T P fin c Γ:=by
 refine eD D n ?_;generalize bh T D n c=c1 at*;have TU:∀b',b=b'→Hb t b' c1=c1:=by
  rintro _ rfl;obtain⟨⟨tm,bx,ow⟩,k⟩:=c1;simp only[Yf]at h;simp only[Hb,fG.mk.injEq,VS.mk.injEq,and_true];apply List.ext_getElem?;intro i;rw[bA];split
  ·rename_i hti;subst hti;rw[if_pos (List.getElem?_eq_some_iff.1 h).1];exact h.symm
  ·rfl
 cases hb:b with
 |true=>have:=ht hb;rwa [TU true hb]at this
 |false=>have:=hf hb;rwa [TU false hb]at this
theorem UO(D:List Nat)(n:Nat){fn:Func}{post:Value→List aD→Prop}(v:Value)(Δ:List aD)(h:(jb (aL T (bh T D n c))).bind (fun s=>nZ T s fn.results.toList)=some v)(hp:post v Δ)
  (hd:∀I w,br T I w→aG Γ I w→aG Δ I w):W T P (Fin T fn post) c Γ:=by
 refine eD D n ?_;generalize bh T D n c=c1 at*;cases he:aL T c1<;>rw[he]at h<;>simp[jb]at h;exact W.ret he ⟨v,Δ,h,hp,hd⟩
end
class aW{α:Type}(k:α→aD)(a:outParam α)(Γ:List aD):Prop where
 mem:k a∈Γ
instance(priority:=2000) aW.head{α:Type}{k:α→aD}{a:α}{Γ:List aD}:aW k a (k a::Γ):=⟨by simp⟩
instance(priority:=100) aW.tail{α:Type}{k:α→aD}{a:α}{F:aD}{Γ:List aD} [h:aW k a Γ]:aW k a (F::Γ):=⟨by simp[h.mem]⟩
instance(priority:=2000) aW.ahead{α:Type}{k:α→aD}{a:α}{Δ Γ:List aD}:aW k a ((k a::Δ)++Γ):=⟨by simp⟩
instance(priority:=100) aW.atail{α:Type}{k:α→aD}{a:α}{F:aD}{Δ Γ:List aD} [h:aW k a (Δ++Γ)]:aW k a ((F::Δ)++Γ):=⟨by have:=h.mem;simp at this⊢;exact .inr this⟩
instance(priority:=100) aW.anil{α:Type}{k:α→aD}{a:α}{Γ:List aD} [h:aW k a Γ]:aW k a (([]:List aD)++Γ):=⟨by simp[h.mem]⟩
theorem aW.p{α:Type}{k:α→aD}{a:α}{Γ:List aD}(h:aW k a Γ){I:fQ}{w:World}(hh:aG Γ I w):(k a).p I w:=hh _ h.mem
def nu(e:Ev):Option (BinOp×Value×Value):=
 match e with
 | .read o c=>match o.op with
  | .binOp op _ x y _=>match c.s.ev x,c.s.ev y with
   | .val a,.val b=>some (op,a,b)
   |_,_=>none
  |_=>none
 |_=>none
def aay(T:Tb)(e:Ev):Option (Value×Value):=
 match e with
 | .read o c=>match o.op with
  | .index ty x y=>match T.get ty,c.s.ev x,c.s.ev y with
   |some t,.val a,.val b=>bif Nat.beq t.kind 2 then some (a,b)else none
   |_,_,_=>none
  |_=>none
 |_=>none
def QO(s:VS):Option Operand→Option (Option Value)
 |none=>some none
 |some x=>match s.ev x with
  | .val v=>some (some v)
  |_=>none
def P7(T:Tb)(e:Ev):Option (Nat×Value×Value):=
 match e with
 | .read o c=>match o.op with
  | .indexAddr ty x y=>match T.get ty,c.s.ev x,c.s.ev y with
   |some t,.val a,.val b=>bif (Nat.beq t.kind 3&& !Nat.beq t.esize 0)then some (t.esize,a,b)else none
   |_,_,_=>none
  |_=>none
 |_=>none
def Bt(T:Tb)(e:Ev):Option (Bool×Nat×Value):=
 match e with
 | .read o c=>match o.op with
  | .load ty x=>match T.get ty,c.s.ev x with
   |some t,.val a=>some (t.agg,t.size,a)
   |_,_=>none
  |_=>none
 |_=>none
section
variable{T:Tb}{P:Program}{fin:VS→List aD→Prop}{c:fG}{Γ:List aD}
theorem bW(D:List Nat)(n b off len cap:Nat)(k:IntKind)(i:Nat)(z:Int)(hz:z=i)(hT:T.Ok P)(hi:i<len)
  (hk:W T P fin (gg (aL T (bh T D 999 c)) (.pointer (some ⟨b,off+i*n,none⟩))) Γ)(h:P7 T (aL T (bh T D 999 c))=some (n,.slice (some ⟨b,off,none⟩) len cap,.int k z):=by kernel_rfl):W T P fin c Γ:=by
 subst hz;refine eD D 999 ?_;generalize bh T D 999 c=c1 at*;unfold P7 at h;split at h
 ·rename_i o c' he;rw[he]at hk;split at h
  ·rename_i ty u v hop;split at h
   ·rename_i t a b' ht ha hb;cases hkd:(Nat.beq t.kind 3&& !Nat.beq t.esize 0)with
    |false=>simp[hkd]at h
    |true=>
     simp only[hkd,bV,ar,aH]at h;obtain⟨hn,rfl,rfl⟩:=h;simp only[aM]at hkd;refine W.read _ he (.any ?_) hk;intro w;obtain⟨e,hd,hsz⟩:=vV hT ht (aI hkd.1);have hie:∃ie,P.info? e=some ie∧ie.size=n:=by
      cases hie:P.info? e with
      |none=>
       simp[hie]at hsz;rw[←hsz]at hkd;simp at hkd
      |some ie=>exact⟨ie,rfl,by simp[hie]at hsz;omega⟩
     obtain⟨ie,hie,hin⟩:=hie;simp[execOp,hop,cC ha,cC hb,Instr.indexAt,asIntOf,cL hd,hi,iI hie,hin,gP]
   ·simp at h
  ·simp at h
 ·simp at h
theorem dJ(D:List Nat)(n b off:Nat)(v:Value)(hT:T.Ok P)
  (hv:∀I w,br T I w→aG Γ I w→w.cell? ⟨b,off,none⟩=some v)
  (hk:W T P fin (gg (aL T (bh T D 999 c)) v) Γ)(h:Bt T (aL T (bh T D 999 c))=some (false,n,.pointer (some ⟨b,off,none⟩)):=by kernel_rfl):W T P fin c Γ:=by
 refine eD D 999 ?_;generalize bh T D 999 c=c1 at*;unfold Bt at h;split at h
 ·rename_i o c' he;rw[he]at hk;split at h
  ·rename_i ty u hop;split at h
   ·rename_i t a ht ha;simp only[ar,aH]at h;obtain⟨hag,hsz,rfl⟩:=h;refine W.read _ he (.look (by simp[iY,hop]) ?_) hk;intro I w hd hh _;obtain⟨i,d,hi,hdd,hz,hsz',hag',_⟩:=e_ (hT.ty _ _ ht);have hc:=hv I w hd hh;simp[execOp,hop,Instr.loadAt,Instr.sureAddr,cC ha,loadVar,kV hdd,hag',hag,hc]
   ·simp at h
  ·simp at h
 ·simp at h
theorem cV(D:List Nat)(b off:Nat)(cs:List Value)(hT:T.Ok P)
  (hv:∀I w,br T I w→aG Γ I w→∀j v,cs[j]? =some v→w.cell? ⟨b,off+j,none⟩=some v)
  (hk:W T P fin (gg (aL T (bh T D 999 c)) (.agg cs.toArray)) Γ)(h:Bt T (aL T (bh T D 999 c))=some (true,cs.length,.pointer (some ⟨b,off,none⟩)):=by kernel_rfl):W T P fin c Γ:=by
 refine eD D 999 ?_;generalize bh T D 999 c=c1 at*;unfold Bt at h;split at h
 ·rename_i o c' he;rw[he]at hk;split at h
  ·rename_i ty u hop;split at h
   ·rename_i t a ht ha;simp only[ar,aH]at h;obtain⟨hag,hsz,rfl⟩:=h;refine W.read _ he (.look (by simp[iY,hop]) ?_) hk;intro I w hd hh _;obtain⟨i,d,hi,hdd,hz,hsz',hag',_⟩:=e_ (hT.ty _ _ ht);have hl:=run_loadCells_list (P:=P) w ⟨b,off,none⟩ cs (fun j v hj=>by rw[gP];exact hv I w hd hh j v hj);rw[←hsz,←hsz']at hl;simp only[execOp,hop,Instr.loadAt,Instr.sureAddr,cC ha,loadVar,cz,Sem.run_map,dS,Sem.run_ite,bB,kV hdd,hag',hag,e8,iI hi,hl]
   ·simp at h
  ·simp at h
 ·simp at h
theorem aq(D:List Nat){f:FuncId}{args:List Value}{post:Value→List aD→Prop}(hp:aw T P f args Γ post)
  (hk:∀v Δ,post v Δ→W T P fin (gg (aL T (bh T D 999 c)) v) (Δ++Γ))(h:rI (aL T (bh T D 999 c))=some (f,args):=by kernel_rfl):W T P fin c Γ:=
 Jj D 999 h hp (fun _ _ _ hh=>hh) hk
theorem W.d(D:List Nat)(t:Nat)(b:Bool)
  (ht:b=true→W T P fin (Hb t true (bh T D 999 c)) Γ)(hf:b=false→W T P fin (Hb t false (bh T D 999 c)) Γ)(h:Yf (bh T D 999 c) t=some (.val (.bool b)):=by kernel_rfl):W T P fin c Γ:=HD D 999 t b h ht hf
theorem bj(D:List Nat)(t:Nat)(b:Bool)(hb:b=true)(ht:W T P fin (Hb t true (bh T D 999 c)) Γ)(h:Yf (bh T D 999 c) t=some (.val (.bool b)):=by kernel_rfl):W T P fin c Γ:=HD D 999 t b h (fun _=>ht) (fun e=>by rw[hb]at e;simp at e)
theorem aQ(D:List Nat)(t:Nat)(b:Bool)(hb:b=false)(hf:W T P fin (Hb t false (bh T D 999 c)) Γ)(h:Yf (bh T D 999 c) t=some (.val (.bool b)):=by kernel_rfl):W T P fin c Γ:=HD D 999 t b h (fun e=>by rw[hb]at e;simp at e) (fun _=>hf)
theorem W.r(D:List Nat){fn:Func}{post:Value→List aD→Prop}(v:Value){Δ:List aD}(hp:post v Δ)
  (hd:∀I w,br T I w→aG Γ I w→aG Δ I w)(h:(jb (aL T (bh T D 999 c))).bind (fun s=>nZ T s fn.results.toList)=some v:=by kernel_rfl):W T P (Fin T fn post) c Γ:=UO D 999 v Δ h hp hd
def jW(N:List Nat):List Nat→List Nat
 | []=>[]
 |x::r=>bif lK x N then jW N r else x::jW N r
def vW:Ev→Code
 | .loop b _=>b
 |_=>.skip
def nR:Ev→VS
 | .loop _ c=>c.s
 |_=>⟨[],[],[],[]⟩
def Gi:Ev→List It
 | .loop _ c=>c.k
 |_=>[]
def qJ:Ev→Bool
 | .loop _ _=>true
 |_=>false
def VS.puts(s:VS):List (Nat×Value)→VS
 | []=>s
 |(i,v)::r=>VS.puts {s with tmps:=s.tmps.set i (.val v)} r
def VS.boxs(s:VS):List (Nat×List Value)→VS
 | []=>s
 |(i,v)::r=>VS.boxs {s with boxes:=s.boxes.set i (some v)} r
def jv(e:Ev)(N:List Nat)(s:VS):VS:=s.forget (jW N (ku (vW e))) (jr (vW e))
def og:Ev→Option (VS→List aD→Prop)
 | .again R _=>some R
 |_=>none
def oh:Ev→Option VS
 | .again _ s=>some s
 |_=>none
theorem zd(D:List Nat){α:Type}(N:List Nat)(V:α→List (Nat×Value))(X:α→List (Nat×List Value))(G:α→List aD)(inv:α→Prop)(μ:α→Nat)(a0:α)
  
  
  (i0:inv a0)(f0:∀I w,br T I w→aG Γ I w→aG (G a0) I w)
  (hr:∀(a:α) (R:VS→List aD→Prop),inv a→
   (∀(D':List Nat) (c':fG) (Γ':List aD) (a':α),og (aL T (bh T D' 999 c'))=some R→
    (oh (aL T (bh T D' 999 c'))).map (jv (aL T (bh T D 999 c)) N)=some (((jv (aL T (bh T D 999 c)) N (nR (aL T (bh T D 999 c)))).puts (V a')).boxs (X a'))→
    inv a'→μ a'<μ a→(∀I w,br T I w→aG Γ' I w→aG (G a') I w)→W T P fin c' Γ')→
   W T P fin ⟨((jv (aL T (bh T D 999 c)) N (nR (aL T (bh T D 999 c)))).puts (V a)).boxs (X a),.code (vW (aL T (bh T D 999 c)))::.again R::Gi (aL T (bh T D 999 c))⟩ (G a))(h:qJ (aL T (bh T D 999 c))=true:=by kernel_rfl)(h0:jv (aL T (bh T D 999 c)) N (nR (aL T (bh T D 999 c)))=((jv (aL T (bh T D 999 c)) N (nR (aL T (bh T D 999 c)))).puts (V a0)).boxs (X a0):=by kernel_rfl):W T P fin c Γ:=by
 refine eD D 999 ?_;generalize bh T D 999 c=c1 at*;generalize he:aL T c1=e at*;cases e with
 |loop b c'=>
  generalize hst:jv (Ev.loop b c') N (nR (Ev.loop b c'))=S at*;have key:∀(m:Nat) (s:VS) (Γ':List aD),(∃a,jv (Ev.loop b c') N s=(S.puts (V a)).boxs (X a)∧inv a∧μ a=m∧∀I w,br T I w→aG Γ' I w→aG (G a) I w)→
    W T P fin ⟨s,.code b::.again (fun s' Γ'=>∃m',m'<m∧∃a,jv (Ev.loop b c') N s'=(S.puts (V a)).boxs (X a)∧inv a∧μ a=m'∧∀I w,br T I w→aG Γ' I w→aG (G a) I w)::c'.k⟩ Γ':=by
   rintro m s Γ' ⟨a,hs,hi,rfl,hf⟩;refine W.forget (jW N (ku b)) (jr b) rfl ?_;rw[show s.forget (jW N (ku b)) (jr b)=(S.puts (V a)).boxs (X a)from hs];refine W.sub rfl hf ?_;refine hr a _ hi (fun D' c' Γ' a' hR hS hi' hl' hf'=>?_);refine eD D' 999 ?_;generalize bh T D' 999 c'=c2 at*;cases hv:aL T c2<;>rw[hv]at hR hS<;>simp[og,oh]at hR hS;subst hR;exact W.again hv ⟨μ a',hl',a',hS,hi',rfl,hf'⟩
  refine W.loop (fun m s Γ'=>∃a,jv (Ev.loop b c') N s=(S.puts (V a)).boxs (X a)∧inv a∧μ a=m∧∀I w,br T I w→aG Γ' I w→aG (G a) I w) (μ a0) he ⟨a0,?_,i0,rfl,f0⟩ key;rw[←h0];exact hst
 |_=>simp[qJ]at h
def Um(n size:Nat)(z:List Value)(vs:List (Nat×Value)):Option (List Value):=
 (Instr.fill (fun i=>some (i*size,size)) ((Array.range (n*size)).map (z.toArray[· % z.toArray.size]!)) vs).map (·.toList)
def PY(T:Tb)(e:Ev):Option (Nat×List Value):=
 match e with
 | .ask o c=>match o.op with
  | .buildSlice ty n ps=>match T.get ty,c.s.parts ps.toList with
   |some t,some vs=>bif (Nat.beq t.kind 3&& !Nat.beq t.esize 0&& !Nat.beq n 0&&Nat.ble (n*t.esize) 16777216&& !Nat.beq t.ezero.length 0)then(Um n t.esize t.ezero vs).map fun cs=>(n,cs)else none
   |_,_=>none
  |_=>none
 |_=>none
theorem cH(D:List Nat)(n:Nat)(cs:List Value)(hT:T.Ok P)
  (hk:∀b,W T P fin (gg (aL T (bh T D 999 c)) (.slice (some ⟨b,0,none⟩) n n)) (ek b cs::Γ))(h:PY T (aL T (bh T D 999 c))=some (n,cs):=by kernel_rfl):W T P fin c Γ:=by
 refine eD D 999 ?_;generalize bh T D 999 c=c1 at*;unfold PY at h;split at h
 ·rename_i o c' he;rw[he]at hk;split at h
  ·rename_i ty m ps hop;split at h
   ·rename_i t vs ht hvs;cases hc:(Nat.beq t.kind 3&& !Nat.beq t.esize 0&& !Nat.beq m 0&&Nat.ble (m*t.esize) 16777216&& !Nat.beq t.ezero.length 0)with
    |false=>simp[hc]at h
    |true=>
     simp only[hc,bV]at h;simp only[aM,cD]at hc;obtain⟨⟨⟨⟨c1',c2⟩,c3⟩,c4⟩,c5⟩:=hc;obtain⟨e,hd,hsz,Ml⟩:=yQ hT ht (aI c1');unfold Um at h;cases N5:Instr.fill (fun i=>some (i*t.esize,t.esize)) ((Array.range (m*t.esize)).map (t.ezero.toArray[· % t.ezero.toArray.size]!)) vs with
     |none=>rw[N5]at h;simp at h
     |some cells=>
      rw[N5]at h;simp only[c_,ar,aH]at h;obtain⟨rfl,rfl⟩:=h;have hne:t.esize≠0:=by
       intro e0;rw[e0]at c2;simp at c2
      have hn0:m≠0:=by
       intro e0;rw[e0]at c3;simp at c3
      cases hie:P.info? e with
      |none=>simp[hie]at hsz;exact absurd hsz.symm hne
      |some ie=>
       simp[hie]at hsz;cases hz:ie.zero with
       |none=>
        simp[hie,hz]at Ml;rw[Ml]at c5;simp at c5
       |some z=>
        simp[hie,hz]at Ml;refine W.ask (fun v Δ=>∃b,v=.slice (some ⟨b,0,none⟩) m m∧Δ=[ek b cells.toList]) he (fun I w hdo hh=>?_) ?_
        ·have VJ:(ps.map fun(i,x)=>(i,c'.s.rho x)).toList=vs:=by
          have:∀(l:List (Nat×Operand)) (us:List (Nat×Value)),c'.s.parts l=some us→l.map (fun e=>(e.1,c'.s.rho e.2))=us:=by
           intro l
           induction l with
           |nil=>intro us hu;simp[VS.parts]at hu;simp[hu]
           |cons x r ih=>
            intro us hu;obtain⟨i,x⟩:=x;unfold VS.parts at hu;split at hu
            ·rename_i v us' hv hu';injection hu with hu;subst hu;simp[cC hv,ih _ hu']
            ·simp at hu
          simpa using this _ _ hvs
         have hrun:=run_buildSlice (P:=P) w ty e m (ps.map fun(i,x)=>(i,c'.s.rho x)) cells ie z hd hie hz (by rw[hsz];have:=l8 c4;omega) (by rw[hsz];exact Nat.mul_ne_zero hn0 hne) (by
          rw[VJ,hsz];have hzc:z.cells=t.ezero.toArray:=by rw[←Ml]
          rw[hzc];exact N5)
         refine⟨_,_,_,?_,⟨w.heap.size,rfl,rfl⟩,(bD _ _).alloc (ak _) (.cells cells e),?_⟩
         ·simp only[execOp,hop,cz];rw[hrun];rfl
         ·refine aG.cons ⟨fun hlt=>absurd hlt (by omega),e,?_⟩ (aG.nil _ _);show(w.heap.push _)[w.heap.size]? =_;simp
        ·rintro v Δ ⟨b,rfl,rfl⟩;exact hk b
   ·simp at h
  ·simp at h
 ·simp at h
def mz(e:Ev)(O:List (Nat×List Value))(v:Value):fG:=
 match e with
 | .own o c=>⟨({c.s with own:=O}:VS).put o.dst (.val v),c.k⟩
 |_=>⟨⟨[],[],[],[]⟩,[]⟩
def cF(z:Nat)(O:List (Nat×List Value))(v:Value)(n:Nat)(xs:List Value):Prop:=
 xs.length=n*z∧((v=.slice none 0 0∧n=0∧O=[])∨∃g cap cur,v=.slice (some ⟨g,0,none⟩) n cap∧O=[(g,cur)]∧n≤cap∧cap≤maxLen∧cur.length=cap*z∧cur.take (n*z)=xs)
theorem cF.nil(z:Nat):cF z [] (.slice none 0 0) 0 []:=⟨by simp,.inl ⟨rfl,rfl,rfl⟩⟩
def p5(T:Tb)(Γ:List aD)(own:List (Nat×List Value))(v:Value)(m z:Nat)(news:List Value):Prop:=
 ∃ao c,v=.slice ao m c∧news.length=m*z∧(0<m→∃a:Addr,ao=some a∧∀I w,br T I w→aG Γ I w→gn T own w→∀j u,news[j]? =some u→w.cell? (a.add j)=some u)
theorem LO{F1 F2 O O':List (Nat×List Value)}{w w':World}(ho:gn T (F1++O++F2) w)(hn:((F1++O++F2).map (·.1)).Nodup)(hb:∀k,k<w.heap.size→(∀cs,(k,cs)∉O)→w'.heap[k]? =w.heap[k]?)
  (sV:gn T O' w')(hg:∀b cs,(b,cs)∈O'→(∃uG,(b,uG)∈O)∨w.heap.size≤b)(Ob:(O'.map (·.1)).Nodup):
  gn T (F1++O'++F2) w'∧((F1++O'++F2).map (·.1)).Nodup∧∀b cs,(b,cs)∈F1++O'++F2→(∃uG,(b,uG)∈F1++O++F2)∨w.heap.size≤b:=by
 have hlt:∀b cs,(b,cs)∈F1++O++F2→b<w.heap.size:=fun b cs h=>by
  obtain⟨_,_,hc⟩:=ho b cs h;exact cu hc
 simp only[aT,fC]at hn⊢;obtain⟨⟨n1,nO,n1O⟩,n2,n12⟩:=hn;have m1:∀b cs,(b,cs)∈F1→b∈F1.map (·.1):=fun b cs h=>List.mem_map.2 ⟨(b,cs),h,rfl⟩;have m2:∀b cs,(b,cs)∈F2→b∈F2.map (·.1):=fun b cs h=>List.mem_map.2 ⟨(b,cs),h,rfl⟩;have mO:∀b cs,(b,cs)∈O→b∈O.map (·.1):=fun b cs h=>List.mem_map.2 ⟨(b,cs),h,rfl⟩;refine⟨fun b cs h=>?_,⟨⟨n1,Ob,fun x hx y hy e=>?_⟩,n2,fun x hx y hy e=>?_⟩,fun b cs h=>?_⟩
 ·rcases List.mem_append.1 h with h|h
  ·rcases List.mem_append.1 h with h|h
   ·obtain⟨e,he,hc⟩:=ho b cs (by simp[h]);exact⟨e,he,by rw[hb b (cu hc) (fun c hc'=>n1O _ (m1 b cs h) _ (mO b c hc') rfl)];exact hc⟩
   ·exact sV b cs h
  ·obtain⟨e,he,hc⟩:=ho b cs (by simp[h]);exact⟨e,he,by rw[hb b (cu hc) (fun c hc'=>n12 _ (ik _ (mO b c hc')) _ (m2 b cs h) rfl)];exact hc⟩
 ·subst e;obtain⟨⟨b,cs⟩,h1,rfl⟩:=List.mem_map.1 hx;obtain⟨⟨b',cs'⟩,h2,h3⟩:=List.mem_map.1 hy;simp only at h3;subst h3;rcases hg b' cs' h2 with⟨uG,h0⟩|hge
  ·exact n1O _ (m1 b' cs h1) _ (mO b' uG h0) rfl
  ·have:=hlt b' cs (by simp[h1]);omega
 ·subst e;obtain⟨⟨b,cs⟩,h1,rfl⟩:=List.mem_map.1 hy;rcases List.mem_append.1 hx with hx|hx
  ·exact n12 _ (gK _ hx) _ (m2 b cs h1) rfl
  ·obtain⟨⟨b',cs'⟩,h2,h3⟩:=List.mem_map.1 hx;simp only at h3;subst h3;rcases hg b' cs' h2 with⟨uG,h0⟩|hge
   ·exact n12 _ (ik _ (mO b' uG h0)) _ (m2 b' cs h1) rfl
   ·have:=hlt b' cs (by simp[h1]);omega
 ·rcases List.mem_append.1 h with h|h
  ·rcases List.mem_append.1 h with h|h
   ·exact .inl ⟨cs,by simp[h]⟩
   ·rcases hg b cs h with⟨uG,h0⟩|hge
    ·exact .inl ⟨uG,by simp[h0]⟩
    ·exact .inr hge
  ·exact .inl ⟨cs,by simp[h]⟩
theorem E8(w:World)(t ty e e':TypeId)(i:TypeInfo)(ht:P.underlying t=some (.slice e))(hi:P.info? e=some i)
  (g I4 W5:Nat)(cur:Array Value)(hg:w.heap[g]? =some (.cells cur e' (0,0)))
  (a:Addr)(m c:Nat)(news:List Value)(hl:news.length=m*i.size)(wP:∀j u,news[j]? =some u→w.cell? (a.add j)=some u)(h1:∀u∈news,u.oneCell'=true)
  (hroom:I4+m≤W5)(hfit:I4*i.size+news.length≤cur.size):
  (Builtin.append_ #[t,t] ty #[.slice (some ⟨g,0,none⟩) I4 W5,.slice (some a) m c]).run P w=
   .ok (.slice (some ⟨g,0,none⟩) (I4+m) W5) (w.setRow g (cur.toList.take (I4*i.size)++news++cur.toList.drop (I4*i.size+news.length)).toArray):=by
 have hf:=run_firstCells_some (P:=P) w i.size m a m c news hl wP;have hst:=run_storeCells_at P g (I4*i.size) e' news 0 cur w hg (by simpa using hfit) h1;simp only[ff]at hst;simp[Builtin.append_,cL ht,sizeOf,typeInfo,hi,Builtin.lenOf,hroom,hf,Addr.add_lit,hst]
theorem tp(w:World)(t ty e:TypeId)(i:TypeInfo)(ht:P.underlying t=some (.slice e))(hi:P.info? e=some i)(base ao:Option Addr)(n cap c:Nat)(h:n≤cap):
  (Builtin.append_ #[t,t] ty #[.slice base n cap,.slice ao 0 c]).run P w=.ok (.slice base n cap) w:=by
 cases base<;>cases ao<;>simp[Builtin.append_,cL ht,sizeOf,typeInfo,hi,Builtin.lenOf,Builtin.firstCells,loadCells,loadCellsFrom,storeCells,h]
def oK(T:Tb)(e:Ev):Option (List (Nat×List Value)×Nat×Nat×Value×Value):=
 match e with
 | .own o c=>match o.op with
  | .call cl=>match cl.callee,cl.args.toList,cl.argTypes.toList with
   | .builtin .append,[sx,xx],[t1,t2]=>match c.s.ev sx,c.s.ev xx,T.get t1 with
    | .val a,.val b,some y1=>bif (Nat.beq t1 t2&&(Nat.beq y1.kind 3&&(!Nat.beq y1.esize 0&&(Nat.beq y1.ezero.length y1.esize&& !T.dat y1.elem))))then some (c.s.own,y1.esize,y1.ebytes,a,b)else none
    |_,_,_=>none
   |_,_,_=>none
  |_=>none
 |_=>none
theorem W.app(D:List Nat)(own F1 O F2:List (Nat×List Value))(z bytes n m:Nat)(v x:Value)(xs news:List Value)(hT:T.Ok P)
   (ho:own=F1++O++F2)(hg:cF z O v n xs)(hx:p5 T Γ own x m z news)(h1:∀u∈news,u.oneCell'=true)
  (hn:n+m≤1000000)(hb:bytes≤100000000)
  (hk:∀v' O',cF z O' v' (n+m) (xs++news)→W T P fin (mz (aL T (bh T D 999 c)) (F1++O'++F2) v') Γ)(h:oK T (aL T (bh T D 999 c))=some (own,z,bytes,v,x):=by kernel_rfl):W T P fin c Γ:=by
 refine eD D 999 ?_;generalize bh T D 999 c=c1 at*;unfold oK at h;split at h
 ·rename_i o c' he;rw[he]at hk;split at h
  ·rename_i cl hop;split at h
   ·rename_i sx xx t1 t2 hcal hargs htys;split at h
    ·rename_i a b y1 ha hbv hy;cases hc:(Nat.beq t1 t2&&(Nat.beq y1.kind 3&&(!Nat.beq y1.esize 0&&(Nat.beq y1.ezero.length y1.esize&& !T.dat y1.elem))))with
     |false=>simp[hc]at h
     |true=>
      simp only[hc,bV,ar,aH]at h;obtain⟨hown,rfl,rfl,rfl,rfl⟩:=h;simp only[aM,cD]at hc;obtain⟨c1',c2,c3,c4,c5⟩:=hc;have Om:=aI c1';subst Om;have hne:y1.esize≠0:=by
       intro e0;rw[e0]at c3;simp at c3
      obtain⟨ie,zz,hd,hie,EP,hsz,FM,QW,hze⟩:=mX hT hy (aI c2) hne (aI c4);have hcargs:cl.args= #[sx,xx]:=by rw[←fx];exact hargs
      have hctys:cl.argTypes= #[t1,t1]:=by rw[←fx];exact htys
      obtain⟨ao,cc,rfl,hnl,hrd⟩:=hx;have hnb:(n+m)*y1.ebytes≤140737488355328:=by
       have:=aY hn hb;omega
      refine W.own (fun v' iN Δ=>∃O',cF y1.esize O' v' (n+m) (xs++news)∧iN=F1++O'++F2∧Δ=[]) he (fun I w hdo hh hoa hnod _=>?_) ?_
      ·rw[hown]at hoa hnod;have hexec:∀v' w',(Builtin.append_ #[t1,t1] o.type #[a,.slice ao m cc]).run P w=.ok v' w'→(execOp c'.s.rho o).run P w=.ok (.value v') w':=by
        intro v' w' hr;simp[execOp,hop,resolve,invoke,builtin,hcal,hcargs,hctys,cC ha,cC hbv,hr]
       have RE:∀(v':Value) (w':World) (O':List (Nat×List Value)),(Builtin.append_ #[t1,t1] o.type #[a,.slice ao m cc]).run P w=.ok v' w'→cF y1.esize O' v' (n+m) (xs++news)→
         (∀q,(∀b cs,(b,cs)∈O→q≤b)→q≤w.heap.size→Below q w w')→w.heap.size≤w'.heap.size→(∀k,k<w.heap.size→(∀cs,(k,cs)∉O)→w'.heap[k]? =w.heap[k]?)→gn T O' w'→
         (∀b cs,(b,cs)∈O'→(∃uG,(b,uG)∈O)∨w.heap.size≤b)→(O'.map (·.1)).Nodup→∃v iN Δ w' r,(execOp c'.s.rho o).run P w=.ok r w'∧(r=.value v∨(r=.skip∧v=undef))∧(∃O',cF y1.esize O' v (n+m) (xs++news)∧iN=F1++O'++F2∧Δ=[])∧
         (∀n,(∀b cs,(b,cs)∈c'.s.own→n≤b)→n≤w.heap.size→Below n w w')∧w.heap.size≤w'.heap.size∧(∀b,b<w.heap.size→(∀cs,(b,cs)∉c'.s.own)→w'.heap[b]? =w.heap[b]?)∧gn T iN w'∧
         (∀b cs,(b,cs)∈iN→(∃uG,(b,uG)∈c'.s.own)∨w.heap.size≤b)∧(iN.map (·.1)).Nodup∧aG Δ (fun b=>(b<w.heap.size→I b∨∃cs,(b,cs)∈c'.s.own)∧∀cs,(b,cs)∉iN) w':=by
        intro v' w' O' hr hG hB hS hK hO hN hD;rw[ho]at hoa hnod;obtain⟨f1,f2,f3⟩:=LO hoa hnod hK hO hN hD;rw[hown,ho];exact⟨v',_,[],w',_,hexec v' w' hr,.inl rfl,⟨O',hG,rfl,rfl⟩,fun q hq Hp=>hB q (fun b cs hb=>hq b cs (by simp[hb])) Hp,hS,fun k hk hk'=>hK k hk (fun cs hcs=>hk' cs (by simp[hcs])),f1,f3,f2,aG.nil _ _⟩
       obtain⟨Ou,VB⟩:=hg;have hGl:(xs++news).length=(n+m)*y1.esize:=by rw[aA,Ou,hnl,dM]
       have BW:∀(v':Value) (w':World),(Builtin.append_ #[t1,t1] o.type #[a,.slice ao m cc]).run P w=.ok v' w'→w'.ownsRow w.heap.size y1.elem y1.esize v' (n+m) (xs++news)→0<n+m→w.grownBy w' none→∃v iN Δ w' r,(execOp c'.s.rho o).run P w=.ok r w'∧(r=.value v∨(r=.skip∧v=undef))∧(∃O',cF y1.esize O' v (n+m) (xs++news)∧iN=F1++O'++F2∧Δ=[])∧
         (∀n,(∀b cs,(b,cs)∈c'.s.own→n≤b)→n≤w.heap.size→Below n w w')∧w.heap.size≤w'.heap.size∧(∀b,b<w.heap.size→(∀cs,(b,cs)∉c'.s.own)→w'.heap[b]? =w.heap[b]?)∧gn T iN w'∧
         (∀b cs,(b,cs)∈iN→(∃uG,(b,uG)∈c'.s.own)∨w.heap.size≤b)∧(iN.map (·.1)).Nodup∧aG Δ (fun b=>(b<w.heap.size→I b∨∃cs,(b,cs)∈c'.s.own)∧∀cs,(b,cs)∉iN) w':=fun v' w' hr hw hpos wO=>by
        obtain⟨_,hw⟩:=hw;rcases hw with⟨_,h0⟩|⟨g,cap,cur,rfl,hge,YU,hnc,hcm,hcs,htk⟩
        ·omega
        ·exact RE _ w' [(g,cur.toList)] hr ⟨hGl,.inr ⟨g,cap,cur.toList,rfl,rfl,hnc,hcm,by simpa using hcs,htk⟩⟩ (fun q _ Hp=>⟨wO.os,wO.tape,wO.output,wO.size,fun k hk=>wO.block k (by omega) (by simp)⟩) wO.size (fun k hk _=>wO.block k hk (by simp))
          (fun b cs hb=>by
           simp only[vH,aH]at hb;obtain⟨rfl,rfl⟩:=hb;exact⟨y1.elem,by simpa using c5,by simpa using YU⟩)
          (fun b cs hb=>by
           simp only[vH,aH]at hb;obtain⟨rfl,rfl⟩:=hb;exact .inr hge) (by simp)
       by_cases hm:m=0
       ·subst hm;obtain rfl:news=[]:=aN (by simpa using hnl);have hG:cF y1.esize O a (n+0) (xs++[]):=by rw[ah];exact⟨Ou,VB⟩
        have hOO:gn T O w:=fun b cs hb=>hoa b cs (by rw[ho];simp[hb]);have hnO:(O.map (·.1)).Nodup:=by
         rw[ho]at hnod;simp only[aT,fC]at hnod;exact hnod.1.2.1
        rcases VB with⟨rfl,rfl,rfl⟩|⟨g,cap,cur,rfl,rfl,hnc,hcm,hcs,htk⟩
        ·exact RE _ w [] (tp w t1 o.type y1.elem ie hd hie none ao 0 0 cc (ak _)) hG (fun q _ _=>bD _ _) (ak _) (fun _ _ _=>rfl) hOO (fun b cs hb=>.inl ⟨cs,hb⟩) hnO
        ·exact RE _ w [(g,cur)] (tp w t1 o.type y1.elem ie hd hie (some ⟨g,0,none⟩) ao n cap cc hnc) hG (fun q _ _=>bD _ _) (ak _) (fun _ _ _=>rfl) hOO (fun b cs hb=>.inl ⟨cs,hb⟩) hnO
       ·obtain⟨ad,rfl,hrd2⟩:=hrd (by omega);have wP:=hrd2 I w hdo hh hoa;rcases VB with⟨rfl,rfl,rfl⟩|⟨g,cap,cur,rfl,rfl,hnc,hcm,hcs,htk⟩
        ·obtain rfl:xs=[]:=aN (by simpa using Ou);obtain⟨v',w',hr,hw,wO,_⟩:=run_append_own (P:=P) w w.heap.size t1 o.type y1.elem ie zz y1.esize y1.ebytes hd hie EP hsz FM QW (by omega) (.slice none 0 0) 0 [] (World.ownsRow_nil w _ y1.elem y1.esize) ad m cc news hnl wP h1 (by unfold maxLen;omega) hnb (ak _);exact BW v' w' hr hw (by omega) wO
        ·have hoc:(g,cur)∈F1++[(g,cur)]++F2:=by simp
         obtain⟨e',he',hcell⟩:=hoa g cur (by rw[ho];exact hoc);by_cases hr:n+m≤cap
         ·have hfit:n*y1.esize+news.length≤cur.length:=by rw[hnl,hcs,←dM];exact cf _ hr
          have hrun:=E8 (P:=P) w t1 o.type y1.elem e' ie hd hie g n cap cur.toArray hcell ad m cc news (by rw[hsz];exact hnl) wP h1 hr (by rw[hsz];simpa using hfit);rw[hsz]at hrun;refine RE _ _ [(g,cur.take (n*y1.esize)++news++cur.drop (n*y1.esize+news.length))] hrun ⟨hGl,.inr ⟨g,cap,_,rfl,rfl,hr,hcm,?_,?_⟩⟩ (fun q hq _=>⟨rfl,rfl,rfl,by simp,fun k hk=>oE w g k _ (by have:=hq g cur (by simp);omega)⟩) (by simp)
           (fun k hk hk'=>oE w g k _ (by rintro rfl;exact hk' cur (by simp))) (fun b cs hb=>?_) (fun b cs hb=>?_) (by simp)
          ·simp only[aA,dG,iw];omega
          ·rw[htk,←hGl];exact List.take_left
          ·simp only[vH,aH]at hb;obtain⟨rfl,rfl⟩:=hb;exact⟨e',he',by simpa using setRow_heap w b _ _ e' _ hcell⟩
          ·simp only[vH,aH]at hb;obtain⟨rfl,rfl⟩:=hb;exact .inl ⟨cur,by simp⟩
         ·obtain⟨v',w',hrun,hw,wO⟩:=run_append_arg_grows (P:=P) w t1 o.type y1.elem ie zz y1.esize y1.ebytes hd hie EP hsz FM QW (by omega) ⟨g,0,none⟩ n cap xs Ou (fun j u hj=>by
           rw[gP,nH hcell,bQ];rw[←htk,dF]at hj;split at hj
           ·exact hj
           ·simp at hj) ad m cc news hnl wP (by omega) (by unfold maxLen;omega) hnb
          exact BW v' w' hrun hw (by omega) wO
      ·rintro v' iN Δ ⟨O',hG,rfl,rfl⟩;exact hk v' O' hG
    ·simp at h
   ·simp at h
  ·simp at h
 ·simp at h
theorem bT:∀(I:fQ) (w:World),br T I w→aG Γ I w→aG [] I w:=fun I w _ _=>aG.nil I w
end
end Go.Proofs.YtgaaopjagcaojaaGreat
