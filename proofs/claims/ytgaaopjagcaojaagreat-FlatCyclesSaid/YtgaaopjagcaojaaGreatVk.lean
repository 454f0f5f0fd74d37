import Derived.Test.YtgaaopjagcaojaaGreatSu
import Derived.Laws.MakeOwn
import Derived.Laws.BytesArg
import Derived.Test.YtgaaopjagcaojaaGreatProg
import Derived.Test.YtgaaopjagcaojaaGreatVy
import Derived.Test.YtgaaopjagcaojaaGreatNatU
import Derived.Deep.RegionHeld3
import Derived.Deep.RegionWith
import Derived.Deep.DrawnRows
import Derived.BigRegion
import Derived.Deep.DeepCutAuto
import Derived.Deep.LoopGhost
import Derived.Test.YtgaaopjagcaojaaGreatOv
import Derived.Laws.StructEq
import Derived.MapKept
import Derived.ChangeSame
set_option linter.unusedSimpArgs false
set_option linter.unusedVariables false
set_option maxHeartbeats 4000000
namespace Go.Proofs.YtgaaopjagcaojaaGreat
open Go.RowKit
abbrev af:=@Go.IntKind.wrap_i64
def Ez(e:Ev):Option (Bool×Value×Value):=
 match e with
 | .read o c=>match o.op with
  | .call cl=>match cl.callee,cl.args.toList with
   | .builtin .max,[x,y]=>match c.s.ev x,c.s.ev y with
    | .val a,.val b=>some (true,a,b)
    |_,_=>none
   | .builtin .min,[x,y]=>match c.s.ev x,c.s.ev y with
    | .val a,.val b=>some (false,a,b)
    |_,_=>none
   |_,_=>none
  |_=>none
 |_=>none
def Kr(T:Tb)(e:Ev):Option (List (Nat×List Value)×Nat×Nat×List Value×Value×Value):=
 match e with
 | .own o c=>match o.op with
  | .makeSlice ty l cp=>match T.get ty,c.s.ev l,c.s.ev cp with
   |some t,.val a,.val b=>bif (Nat.beq t.kind 3&&(!Nat.beq t.esize 0&&(Nat.beq t.ezero.length t.esize&& !T.dat t.elem)))then some (c.s.own,t.esize,t.ebytes,t.ezero,a,b)else none
   |_,_,_=>none
  |_=>none
 |_=>none
def EA(T:Tb)(e:Ev):Option (List (Nat×List Value)×Nat×Value×Value):=
 match e with
 | .own o c=>match o.op with
  | .store ty x v=>match T.get ty,c.s.ev x,c.s.ev v with
   |some t,.val a,.val u=>some (c.s.own,t.size,a,u)
   |_,_,_=>none
  |_=>none
 |_=>none
def PZ(T:Tb)(e:Ev):Option (Option IntKind×Value):=
 match e with
 | .read o c=>match o.op with
  | .convert src dst x=>match T.get src,T.get dst,c.s.ev x with
   |some y,some z,.val a=>match T.get y.elem with
    |some q=>bif (Nat.beq y.kind 3&&(Nat.beq z.kind 2&&(!Nat.beq y.esize 0&&Nat.beq y.ezero.length y.esize)))then some (q.ikind,a)else none
    |none=>none
   |_,_,_=>none
  |_=>none
 |_=>none
def P9(T:Tb)(e:Ev):Option (Nat×Value):=
 match e with
 | .read o c=>match o.op with
  | .sliceToArrayPointer ty x=>match T.get ty,c.s.ev x with
   |some t,.val a=>bif Nat.beq t.kind 4 then some (t.alen,a)else none
   |_,_=>none
  |_=>none
 |_=>none
def zI(T:Tb)(e:Ev):Option (Nat×Value×Option Value×Option Value):=
 match e with
 | .read o c=>match o.op with
  | .slice ty x lo hi none=>match T.get ty,c.s.ev x,QO c.s lo,QO c.s hi with
   |some t,.val a,some l,some h=>bif (Nat.beq t.kind 3&&(!Nat.beq t.esize 0&&Nat.beq t.ezero.length t.esize))then some (t.esize,a,l,h)else none
   |_,_,_,_=>none
  |_=>none
 |_=>none
def Ko(T:Tb)(e:Ev):Bool:=
 match e with
 | .ask o c=>match o.op with
  | .buildSlice ty n ps=>match T.get ty,ps.toList with
   |some t,[]=>Nat.beq t.kind 3&&(!Nat.beq t.esize 0&&(Nat.beq n 0&&Nat.beq t.ezero.length t.esize))
   |_,_=>false
  |_=>false
 |_=>false
section
variable{T:Tb}{P:Program}{fin:VS→List aD→Prop}{c:fG}{Γ:List aD}
theorem W.shl(D:List Nat)(k yk:IntKind)(a b r:Int)(hb:0≤b)(hr:k.wrap (a*2^(min b.toNat k.bits))=r)
  (hk:W T P fin (gg (aL T (bh T D 999 c)) (.int k r)) Γ)(h:nu (aL T (bh T D 999 c))=some (.shl,.int k a,.int yk b):=by kernel_rfl):W T P fin c Γ:=by
 subst hr;refine eD D 999 ?_;generalize bh T D 999 c=c1 at*;unfold nu at h;split at h
 ·rename_i o c' he;rw[he]at hk;split at h
  ·rename_i op ty u v yt hop;split at h
   ·rename_i x y hx hy;simp only[ar,aH]at h;obtain⟨rfl,rfl,rfl⟩:=h;refine W.read _ he (.any ?_) hk;intro w;have hb':¬b<0:=by omega
    simp[execOp,hop,cC hx,cC hy,eqGuard,binOp,Op.shift,hb']
   ·simp at h
  ·simp at h
 ·simp at h
theorem W.shr(D:List Nat)(k yk:IntKind)(a b r:Int)(hb:0≤b)(hr:a.fdiv (2^(min b.toNat k.bits))=r)
  (hk:W T P fin (gg (aL T (bh T D 999 c)) (.int k r)) Γ)(h:nu (aL T (bh T D 999 c))=some (.shr,.int k a,.int yk b):=by kernel_rfl):W T P fin c Γ:=by
 subst hr;refine eD D 999 ?_;generalize bh T D 999 c=c1 at*;unfold nu at h;split at h
 ·rename_i o c' he;rw[he]at hk;split at h
  ·rename_i op ty u v yt hop;split at h
   ·rename_i x y hx hy;simp only[ar,aH]at h;obtain⟨rfl,rfl,rfl⟩:=h;refine W.read _ he (.any ?_) hk;intro w;have hb':¬b<0:=by omega
    simp[execOp,hop,cC hx,cC hy,eqGuard,binOp,Op.shift,hb']
   ·simp at h
  ·simp at h
 ·simp at h
theorem xI(D:List Nat)(k:IntKind)(a b r:Int)(hb:b≠0)(hr:a.tmod b=r)
  (hk:W T P fin (gg (aL T (bh T D 999 c)) (.int k r)) Γ)(h:nu (aL T (bh T D 999 c))=some (.rem,.int k a,.int k b):=by kernel_rfl):W T P fin c Γ:=by
 subst hr;refine eD D 999 ?_;generalize bh T D 999 c=c1 at*;unfold nu at h;split at h
 ·rename_i o c' he;rw[he]at hk;split at h
  ·rename_i op ty u v yt hop;split at h
   ·rename_i x y hx hy;simp only[ar,aH]at h;obtain⟨rfl,rfl,rfl⟩:=h;refine W.read _ he (.any ?_) hk;intro w;simp[execOp,hop,cC hx,cC hy,eqGuard,binOp,Op.intDiv,hb]
   ·simp at h
  ·simp at h
 ·simp at h
theorem W.quo(D:List Nat)(a b r:Int)(hb:b≠0)(hr:IntKind.i64.wrap (a.tdiv b)=r)
  (hk:W T P fin (gg (aL T (bh T D 999 c)) (.int .i64 r)) Γ)(h:nu (aL T (bh T D 999 c))=some (.quo,.int .i64 a,.int .i64 b):=by kernel_rfl):W T P fin c Γ:=by
 subst hr;refine eD D 999 ?_;generalize bh T D 999 c=c1 at*;unfold nu at h;split at h
 ·rename_i o c' he;rw[he]at hk;split at h
  ·rename_i op ty u v yt hop;split at h
   ·rename_i x y hx hy;simp only[ar,aH]at h;obtain⟨rfl,rfl,rfl⟩:=h;refine W.read _ he (.any ?_) hk;intro w;simp[execOp,hop,cC hx,cC hy,eqGuard,binOp,Op.intDiv,hb]
   ·simp at h
  ·simp at h
 ·simp at h
theorem RW(a b:Int):(if b>a then b else a)=max a b:=by
 rw[Int.max_def];by_cases h:b>a
 ·rw[if_pos h,if_pos (by omega)]
 ·rw[if_neg h];by_cases h2:a≤b
  ·rw[if_pos h2];omega
  ·rw[if_neg h2]
theorem RX(a b:Int):(if b<a then b else a)=min a b:=by
 rw[Int.min_def];by_cases h:b<a
 ·rw[if_pos h,if_neg (by omega)]
 ·rw[if_neg h,if_pos (by omega)]
theorem MO(D:List Nat)(k:IntKind)(a b r:Int)(hr:max a b=r)
  (hk:W T P fin (gg (aL T (bh T D 999 c)) (.int k r)) Γ)(h:Ez (aL T (bh T D 999 c))=some (true,.int k a,.int k b):=by kernel_rfl):W T P fin c Γ:=by
 subst hr;refine eD D 999 ?_;generalize bh T D 999 c=c1 at*;unfold Ez at h;split at h
 ·rename_i o c' he;rw[he]at hk;split at h
  ·rename_i cl hop;split at h
   ·rename_i sx xx hcal hargs;split at h
    ·rename_i u v hu hv;simp only[ar,aH,true_and]at h;obtain⟨rfl,rfl⟩:=h;have hcargs:cl.args= #[sx,xx]:=by rw[←fx];exact hargs
     refine W.read _ he (.any fun w=>?_) hk;simp[execOp,hop,resolve,invoke,builtin,hcal,hcargs,cC hu,cC hv,Builtin.max_,Builtin.max2,RW]
    ·simp at h
   ·split at h<;>simp at h
   ·simp at h
  ·simp at h
 ·simp at h
theorem pW(D:List Nat)(k:IntKind)(a b r:Int)(hr:min a b=r)
  (hk:W T P fin (gg (aL T (bh T D 999 c)) (.int k r)) Γ)(h:Ez (aL T (bh T D 999 c))=some (false,.int k a,.int k b):=by kernel_rfl):W T P fin c Γ:=by
 subst hr;refine eD D 999 ?_;generalize bh T D 999 c=c1 at*;unfold Ez at h;split at h
 ·rename_i o c' he;rw[he]at hk;split at h
  ·rename_i cl hop;split at h
   ·split at h<;>simp at h
   ·rename_i sx xx hcal hargs;split at h
    ·rename_i u v hu hv;simp only[ar,aH,true_and]at h;obtain⟨rfl,rfl⟩:=h;have hcargs:cl.args= #[sx,xx]:=by rw[←fx];exact hargs
     refine W.read _ he (.any fun w=>?_) hk;simp[execOp,hop,resolve,invoke,builtin,hcal,hcargs,cC hu,cC hv,Builtin.min_,Builtin.min2,RX]
    ·simp at h
   ·simp at h
  ·simp at h
 ·simp at h
theorem Yb(D:List Nat)(n:Nat)(ao:Option Addr)(len cap:Nat)(hT:T.Ok P)(hl:n≤len)
  (hk:W T P fin (gg (aL T (bh T D 999 c)) (.pointer ao)) Γ)(h:P9 T (aL T (bh T D 999 c))=some (n,.slice ao len cap):=by kernel_rfl):W T P fin c Γ:=by
 refine eD D 999 ?_;generalize bh T D 999 c=c1 at*;unfold P9 at h;split at h
 ·rename_i o c' he;rw[he]at hk;split at h
  ·rename_i ty x hop;split at h
   ·rename_i t a ht ha;cases hkd:Nat.beq t.kind 4 with
    |false=>simp[hkd]at h
    |true=>
     simp only[hkd,bV,ar,aH]at h;obtain⟨rfl,rfl⟩:=h;refine W.read _ he (.any fun w=>?_) hk;obtain⟨hd,_⟩:=pz hT ht (aI hkd);have:¬len<t.alen:=by omega
     simp[execOp,hop,cC ha,Instr.arrayAt,cL hd,this]
   ·simp at h
  ·simp at h
 ·simp at h
theorem MT(D:List Nat)(ao:Option Addr)(n cp:Nat)(zs:List Int)(hT:T.Ok P) [hrp:aW (RA ao) (zs.map (Value.int .u8)) Γ](hn:n=zs.length)
  (hk:W T P fin (gg (aL T (bh T D 999 c)) (.string (strOfNums zs))) Γ)(h:PZ T (aL T (bh T D 999 c))=some (some .u8,.slice ao n cp):=by kernel_rfl):W T P fin c Γ:=by
 refine eD D 999 ?_;generalize bh T D 999 c=c1 at*;unfold PZ at h;split at h
 ·rename_i o c' he;rw[he]at hk;split at h
  ·rename_i src dst x hop;split at h
   ·rename_i y z a hy hz ha;split at h
    ·rename_i q hq;cases hc:(Nat.beq y.kind 3&&(Nat.beq z.kind 2&&(!Nat.beq y.esize 0&&Nat.beq y.ezero.length y.esize)))with
     |false=>simp[hc]at h
     |true=>
      simp only[hc,bV,ar,aH]at h;obtain⟨hik,rfl⟩:=h;simp only[aM,cD]at hc;obtain⟨c2,c3,c4,c5⟩:=hc;have hne:y.esize≠0:=by
       intro e0;rw[e0]at c4;simp at c4
      obtain⟨ie,zz,hd,hie,EP,hsz,FM,QW,hze⟩:=mX hT hy (aI c2) hne (aI c5);have YO:=yR hT hz (aI c3);have hel:=yO hT hq hik;refine W.read _ he (.look (by simp[iY,hop,hy,aI c2]) ?_) hk;intro I w hdo hh _;have hrow:=hrp.p hh;have hrun:(convert src dst (.slice ao n cp)).run P w=.ok (.string (strOfNums zs)) w:=by
       by_cases hz0:zs=[]
       ·subst hz0;simp only[a_]at hn;subst hn;cases ao with
        |none=>exact run_convert_bytes_nil w src y.elem hd hel 0 cp dst YO
        |some ad=>
         rw[run_convert_bytes_string w src dst y.elem _ 0 cp hd hel YO,run_bytesToString w ad 0 cp [] (by simp[loadCells,loadCellsFrom])];rfl
       ·obtain⟨b0,B6,rfl,_,h3⟩:=hrow (by simpa using hz0);refine run_convert_bytes_arg w src y.elem hd hel b0 B6 n cp zs hn.symm (fun i hi=>?_) dst YO;refine h3 i _ ?_;have hi':i<zs.length:=by omega
        simp[List.getD,ai hi']
      simp[execOp,hop,cC ha,hrun]
    ·simp at h
   ·simp at h
  ·simp at h
 ·simp at h
theorem Ch(D:List Nat)(z b off len cap:Nat)(lo hi:Option Value)(l r:Nat)(hT:T.Ok P)
  (hl:lo=some (.int .i64 (l:Int))∨(lo=none∧l=0))(hr:hi=some (.int .i64 (r:Int))∨(hi=none∧r=len))(hlr:l≤r)(hrs:r≤cap)(hla:l<cap)
  (hk:W T P fin (gg (aL T (bh T D 999 c)) (.slice (some ⟨b,off+l*z,none⟩) (r-l) (cap-l))) Γ)(h:zI T (aL T (bh T D 999 c))=some (z,.slice (some ⟨b,off,none⟩) len cap,lo,hi):=by kernel_rfl):W T P fin c Γ:=by
 refine eD D 999 ?_;generalize bh T D 999 c=c1 at*;unfold zI at h;split at h
 ·rename_i o c' he;rw[he]at hk;split at h
  ·rename_i ty x lo' hi' hop;split at h
   ·rename_i t a l' h' ht ha hlo hhi;cases hkd:(Nat.beq t.kind 3&&(!Nat.beq t.esize 0&&Nat.beq t.ezero.length t.esize))with
    |false=>simp[hkd]at h
    |true=>
     simp only[hkd,bV,ar,aH]at h;obtain⟨rfl,rfl,rfl,rfl⟩:=h;simp only[aM,cD]at hkd;obtain⟨c2,c3,c4⟩:=hkd;have abR:t.esize≠0:=by
      intro e0;rw[e0]at c3;simp at c3
     obtain⟨ie,zz,hd,hie,EP,hin,FM,QW,hze⟩:=mX hT ht (aI c2) abR (aI c4);refine W.read _ he (.any ?_) hk;intro w;have hrho:∀(q:Option Operand) (z:Option Value),QO c'.s q=some z→q.map c'.s.rho=z:=by
      intro q z hq;cases q with
      |none=>simp[QO]at hq;exact hq
      |some x=>
       simp only[QO]at hq;split at hq
       ·rename_i v hv;injection hq with hq;subst hq;simp[cC hv]
       ·simp at hq
     have hm1:=hrho _ _ hlo;have hm2:=hrho _ _ hhi;have hne:¬cap=l:=by omega
     have hla':l≤cap:=by omega
     simp only[execOp,hop,Instr.sliceAt,cz,cL hd,bB,cC ha,hm1,hm2];rcases hl with rfl|⟨rfl,rfl⟩<;>rcases hr with rfl|⟨rfl,rfl⟩<;>simp[Instr.slice,Instr.sliceBounds,Instr.sliceBound,asIntOf,cL hd,hlr,hrs,hla',hne,iI hie,hin,gP]
   ·simp at h
  ·simp at h
 ·simp at h
theorem Jg(D:List Nat)(hT:T.Ok P)
  (hk:∀b,W T P fin (gg (aL T (bh T D 999 c)) (.slice (some ⟨b,0,none⟩) 0 0)) Γ)(h:Ko T (aL T (bh T D 999 c))=true:=by kernel_rfl):W T P fin c Γ:=by
 refine eD D 999 ?_;generalize bh T D 999 c=c1 at*;unfold Ko at h;split at h
 ·rename_i o c' he;rw[he]at hk;split at h
  ·rename_i ty m ps hop;split at h
   ·rename_i t ht hps;simp only[aM,cD]at h;obtain⟨c2,c3,c4,c5⟩:=h;have hm:=aI c4;subst hm;have hne:t.esize≠0:=by
     intro e0;rw[e0]at c3;simp at c3
    obtain⟨ie,zz,hd,hie,EP,hsz,FM,QW,hze⟩:=mX hT ht (aI c2) hne (aI c5);refine W.ask (fun v Δ=>∃b,v=.slice (some ⟨b,0,none⟩) 0 0∧Δ=[]) he (fun I w hdo hh=>?_) ?_
    ·have hps':ps= #[]:=by rw[←fx];simpa using hps
     refine⟨_,_,_,?_,⟨w.heap.size,rfl,rfl⟩,(bD _ _).alloc (ak _) (.cells #[] t.elem),aG.nil _ _⟩;simp[execOp,hop,hps',Instr.buildSlice,cL hd,iI hie,Instr.fill,newRow,show Array.range 0= #[]from by decide]
    ·rintro v Δ ⟨b,rfl,rfl⟩;exact hk b
   ·simp at h
  ·simp at h
 ·simp at h
theorem dR(D:List Nat)(own:List (Nat×List Value))(b off n:Nat)(row:List Value)(v:Value)(hT:T.Ok P)
  (hm:(b,row)∈own)(hv:row[off]? =some v)
  (hk:W T P fin (gg (aL T (bh T D 999 c)) v) Γ)(h:uU T (aL T (bh T D 999 c))=some (false,n,.pointer (some ⟨b,off,none⟩),own):=by kernel_rfl):W T P fin c Γ:=by
 refine eD D 999 ?_;generalize bh T D 999 c=c1 at*;unfold uU at h;split at h
 ·rename_i o c' he;rw[he]at hk;split at h
  ·rename_i ty u hop;split at h
   ·rename_i t a ht ha;simp only[ar,aH]at h;obtain⟨hag,hsz,rfl,rfl⟩:=h;refine W.read _ he (.look (by simp[iY,hop]) ?_) hk;intro I w hd hh ho;obtain⟨e',_,hblk⟩:=ho b row hm;obtain⟨i,d,hi,hdd,hz,hsz',hag',_⟩:=e_ (hT.ty _ _ ht);have hc:w.cell? ⟨b,off,none⟩=some v:=by rw[nH hblk];exact hv
    simp[execOp,hop,Instr.loadAt,Instr.sureAddr,cC ha,loadVar,kV hdd,hag',hag,hc]
   ·simp at h
  ·simp at h
 ·simp at h
theorem Te(D:List Nat)(own:List (Nat×List Value))(z bytes n:Nat)(zs:List Value)(row:List Value)(kl kc:IntKind)(hT:T.Ok P)
   (hrow:(madeCells zs.toArray (n*z)).toList=row)
  (hn:n≤1000000)(hb:bytes≤100000000)
  (hk:∀g,W T P fin (mz (aL T (bh T D 999 c)) ((g,row)::own) (.slice (some ⟨g,0,none⟩) n n)) Γ)(h:Kr T (aL T (bh T D 999 c))=some (own,z,bytes,zs,.int kl (n:Int),.int kc (n:Int)):=by kernel_rfl):W T P fin c Γ:=by
 refine eD D 999 ?_;generalize bh T D 999 c=c1 at*;unfold Kr at h;split at h
 ·rename_i o c' he;rw[he]at hk;split at h
  ·rename_i ty l cp hop;split at h
   ·rename_i t a b ht ha hbv;cases hc:(Nat.beq t.kind 3&&(!Nat.beq t.esize 0&&(Nat.beq t.ezero.length t.esize&& !T.dat t.elem)))with
    |false=>simp[hc]at h
    |true=>
     simp only[hc,bV,ar,aH]at h;obtain⟨hown,rfl,rfl,rfl,rfl,rfl⟩:=h;simp only[aM,cD]at hc;obtain⟨c2,c3,c4,c5⟩:=hc;have hne:t.esize≠0:=by
      intro e0;rw[e0]at c3;simp at c3
     obtain⟨ie,zz,hd,hie,EP,hsz,FM,QW,hze⟩:=mX hT ht (aI c2) hne (aI c4);have hnb:n*t.ebytes≤100000000000000:=by
      have:=aY hn hb;omega
     have abQ:(ie.bytes:Int)*(n:Int)≤281474976710656:=by
      rw[FM,qA];have:((n*t.ebytes:Nat):Int)≤((100000000000000:Nat):Int):=Int.ofNat_le.2 hnb;rw[dP]at this;omega
     refine W.own (fun v' iN Δ=>∃g,v'=.slice (some ⟨g,0,none⟩) n n∧iN=(g,row)::own∧Δ=[]) he (fun I w hdo hh hoa hnod _=>?_) ?_
     ·have hrun:=run_make (P:=P) w ty t.elem ie zz hd hie EP kl kc (n:Int) (n:Int) (by omega) (by omega) abQ (by omega);simp only[jc]at hrun;rw[hown]at hoa hnod;have FV:∀b cs,(b,cs)∈own→b<w.heap.size:=fun b cs hb=>by
       obtain⟨_,_,hc⟩:=hoa b cs hb;exact cu hc
      have hold:∀k,k<w.heap.size→(w.alloc (.cells (madeCells zz.cells (n*ie.size)) t.elem)).heap[k]? =w.heap[k]? :=fun k hk=>((bD w.heap.size w).alloc (ak _) _).block k hk;refine⟨_,(w.heap.size,row)::own,[],_,_,?_,.inl rfl,⟨w.heap.size,rfl,rfl,rfl⟩,fun q _ Hp=>((bD q w).alloc Hp _),?_,fun k hk _=>hold k hk,fun b cs hb=>?_,fun b cs hb=>?_,?_,aG.nil _ _⟩
      ·simp only[execOp,hop,cC ha,cC hbv,cz];rw[hrun];rfl
      ·exact((bD w.heap.size w).alloc (ak _) (.cells (madeCells zz.cells (n*ie.size)) t.elem)).size
      ·rcases List.mem_cons.1 hb with hb|hb
       ·injection hb with h1' h2';subst h1' h2';refine⟨t.elem,c5,?_⟩;have XF:cs.toArray=madeCells zz.cells (n*ie.size):=by
         rw[←hrow,hze,hsz]
        rw[XF];show(w.heap.push _)[w.heap.size]? =_;simp
       ·obtain⟨e',he',hc⟩:=hoa b cs hb;exact⟨e',he',by rw[hold b (FV b cs hb)];exact hc⟩
      ·rcases List.mem_cons.1 hb with hb|hb
       ·injection hb with h1' h2';subst h1';exact .inr (ak _)
       ·exact .inl ⟨cs,by rw[hown];exact hb⟩
      ·rw[bY,ko];refine⟨fun lU=>?_,hnod⟩;obtain⟨⟨b,cs⟩,h1,h2⟩:=List.mem_map.1 lU;have:=FV b cs h1;simp only at h2;omega
     ·rintro v' iN Δ ⟨g,rfl,rfl,rfl⟩;exact hk g
   ·simp at h
  ·simp at h
 ·simp at h
theorem Yc(D:List Nat)(own O1 O2:List (Nat×List Value))(z g off:Nat)(row:List Value)(u:Value)(hT:T.Ok P)
  (h:EA T (aL T (bh T D 999 c))=some (own,z,.pointer (some ⟨g,off,none⟩),u))(ho:own=O1++(g,row)::O2)(hz:u.cells.size=z)(h1:∀v∈u.cells.toList,v.oneCell'=true)(hfit:off+z≤row.length)
  (hk:W T P fin (mz (aL T (bh T D 999 c)) (O1++(g,row.take off++u.cells.toList++row.drop (off+z))::O2) undef) Γ):W T P fin c Γ:=by
 refine eD D 999 ?_;generalize bh T D 999 c=c1 at*;unfold EA at h;split at h
 ·rename_i o c' he;rw[he]at hk;split at h
  ·rename_i ty x v hop;split at h
   ·rename_i t a u' ht ha hu;simp only[ar,aH]at h;obtain⟨hown,rfl,rfl,rfl⟩:=h;refine W.own (fun v' iN Δ=>v'=undef∧iN=O1++(g,row.take off++u'.cells.toList++row.drop (off+t.size))::O2∧Δ=[]) he (fun I w hdo hh hoa hnod _=>?_) ?_
    ·rw[hown]at hoa hnod;obtain⟨e',he',hblk⟩:=hoa g row (by rw[ho];simp);obtain⟨i,d,hi,hd',EP,hsz,_⟩:=e_ (hT.ty _ _ ht);have hlen:u'.cells.toList.length=t.size:=by simpa using hz
     have hst:=run_storeCells_at P g off e' u'.cells.toList 0 row.toArray w hblk (by simp only[qC];omega) h1;rw[hlen]at hst;have hne:¬u'.cells.size≠i.size:=by simp[hz,hsz]
     have hexec:(execOp c'.s.rho o).run P w=.ok .skip (w.setRow g (row.take off++u'.cells.toList++row.drop (off+t.size)).toArray):=by
      simp only[execOp,hop,Instr.storeAt,Instr.sureAddr,cC ha,cC hu,storeVar,cz,dS,bB,iI hi,if_neg hne,hst,ff]
     refine⟨_,_,[],_,_,hexec,.inr ⟨rfl,rfl⟩,⟨rfl,rfl,rfl⟩,fun q hq _=>⟨rfl,rfl,rfl,by simp,fun k hk=>oE w g k _ (by have:=hq g row (by rw[hown,ho];simp);omega)⟩,by simp,fun k hk hk'=>oE w g k _ (by rintro rfl;exact hk' row (by rw[hown,ho];simp)),fun b cs hb=>?_,fun b cs hb=>?_,?_,aG.nil _ _⟩
     ·have hother:((b,cs)∈O1∨(b,cs)∈O2)→∃e,T.dat e=false∧(w.setRow g (row.take off++u'.cells.toList++row.drop (off+t.size)).toArray).heap[b]? =some (Obj.cells cs.toArray e (0,0)):=by
       intro hb;have hbg:=CX (by rw[←ho];exact hnod) b cs hb;obtain⟨e,he2,hc⟩:=hoa b cs (by rw[ho];rcases hb with h|h<;>simp[h]);exact⟨e,he2,by rw[oE w g b _ hbg];exact hc⟩
      rcases List.mem_append.1 hb with hb|hb
      ·exact hother (.inl hb)
      ·rcases List.mem_cons.1 hb with hb|hb
       ·injection hb with h1' h2';subst h1' h2';exact⟨e',he',by simpa using setRow_heap w b _ _ e' _ hblk⟩
       ·exact hother (.inr hb)
     ·rcases List.mem_append.1 hb with hb|hb
      ·exact .inl ⟨cs,by rw[hown,ho];simp[hb]⟩
      ·rcases List.mem_cons.1 hb with hb|hb
       ·injection hb with h1' h2';subst h1' h2';exact .inl ⟨row,by rw[hown,ho];simp⟩
       ·exact .inl ⟨cs,by rw[hown,ho];simp[hb]⟩
     ·rw[ho]at hnod;simpa using hnod
    ·rintro v' iN Δ ⟨rfl,rfl,rfl⟩;exact hk
   ·simp at h
  ·simp at h
 ·simp at h
theorem nD(D:List Nat)(own O1 O2:List (Nat×List Value))(z g off:Nat)(row:List Value)(u:Value)(ZV:List Value)(hT:T.Ok P)
   (ho:own=O1++(g,row)::O2)(hz:u.cells.size=z)(h1:∀v∈u.cells.toList,v.oneCell'=true)(hfit:off+z≤row.length)
  (hrow:row.take off++u.cells.toList++row.drop (off+z)=ZV)
  (hk:W T P fin (mz (aL T (bh T D 999 c)) (O1++(g,ZV)::O2) undef) Γ)(h:EA T (aL T (bh T D 999 c))=some (own,z,.pointer (some ⟨g,off,none⟩),u):=by kernel_rfl):W T P fin c Γ:=by
 subst hrow;exact Yc D own O1 O2 z g off row u hT h ho hz h1 hfit hk
theorem JZ(k:IntKind)(z:Int):∀v∈(Value.int k z).cells.toList,v.oneCell'=true:=by
 intro v hv;simp[Value.cells]at hv;subst hv;rfl
theorem DE(O1 O2:List (Nat×List Value))(b:Nat)(cs:List Value)
  (hk:W T P fin ⟨(dN T 999 c).s.setOwn (O1++O2),(dN T 999 c).k⟩ (ek b cs::Γ))(ho:(dN T 999 c).s.own=O1++(b,cs)::O2:=by kernel_rfl)(hm:dD (dN T 999 c).k=false:=by kernel_rfl):W T P fin c Γ:=
 W.code 999 (W.pub (s:=(dN T 999 c).s) (k:=(dN T 999 c).k) hm ho hk)
theorem TH{b:Nat}{cs xs:List Value} [h:aW (ek b) cs Γ](hx:∀(i:Nat) (v:Value),xs[i]? =some v→cs[i]? =some v):∀I w,br T I w→aG Γ I w→aG [RA (some ⟨b,0,none⟩) xs] I w:=fun I w _ hh=>
 aG.cons (RA.of_row (h.p hh) hx) (aG.nil _ _)
theorem MJ(D:List Nat)(own:List (Nat×List Value))(z bytes m b0 B6:Nat)(x:Value)(news:List Value)(hT:T.Ok P)
  (h:oK T (aL T (bh T D 999 c))=some (own,z,bytes,.slice (some ⟨b0,B6,none⟩) 0 0,x))(hx:p5 T Γ own x m z news)
  (hn:m≤1000000)(hb:bytes≤100000000)
  (hk0:m=0→W T P fin (mz (aL T (bh T D 999 c)) own (.slice (some ⟨b0,B6,none⟩) 0 0)) Γ)
  (hk:∀g cap cur,0<m→m≤cap→cap≤maxLen→cur.length=cap*z→cur.take (m*z)=news→W T P fin (mz (aL T (bh T D 999 c)) ((g,cur)::own) (.slice (some ⟨g,0,none⟩) m cap)) Γ):W T P fin c Γ:=by
 refine eD D 999 ?_;generalize bh T D 999 c=c1 at*;unfold oK at h;split at h
 ·rename_i o c' he;rw[he]at hk hk0;split at h
  ·rename_i cl hop;split at h
   ·rename_i sx xx t1 t2 hcal hargs htys;split at h
    ·rename_i a b y1 ha hbv hy;cases hc:(Nat.beq t1 t2&&(Nat.beq y1.kind 3&&(!Nat.beq y1.esize 0&&(Nat.beq y1.ezero.length y1.esize&& !T.dat y1.elem))))with
     |false=>simp[hc]at h
     |true=>
      simp only[hc,bV,ar,aH]at h;obtain⟨hown,rfl,rfl,rfl,rfl⟩:=h;simp only[aM,cD]at hc;obtain⟨c1',c2,c3,c4,c5⟩:=hc;have Om:=aI c1';subst Om;have hne:y1.esize≠0:=by
       intro e0;rw[e0]at c3;simp at c3
      obtain⟨ie,zz,hd,hie,EP,hsz,FM,QW,hze⟩:=mX hT hy (aI c2) hne (aI c4);have hcargs:cl.args= #[sx,xx]:=by rw[←fx];exact hargs
      have hctys:cl.argTypes= #[t1,t1]:=by rw[←fx];exact htys
      obtain⟨ax,cc,rfl,hnl,hrd⟩:=hx;have hnb:(0+m)*y1.ebytes≤140737488355328:=by
       rw[bQ];have:=aY hn hb;omega
      refine W.own (fun v' iN Δ=>(m=0∧v'=.slice (some ⟨b0,B6,none⟩) 0 0∧iN=own∧Δ=[])∨(∃g cap cur,0<m∧m≤cap∧cap≤maxLen∧cur.length=cap*y1.esize∧cur.take (m*y1.esize)=news∧v'=.slice (some ⟨g,0,none⟩) m cap∧iN=(g,cur)::own∧Δ=[])) he (fun I w hdo hh hoa hnod hno=>?_) ?_
      ·rw[hown]at hoa hnod;have hexec:∀v' w',(Builtin.append_ #[t1,t1] o.type #[.slice (some ⟨b0,B6,none⟩) 0 0,.slice ax m cc]).run P w=.ok v' w'→(execOp c'.s.rho o).run P w=.ok (.value v') w':=by
        intro v' w' hr;simp[execOp,hop,resolve,invoke,builtin,hcal,hcargs,hctys,cC ha,cC hbv,hr]
       by_cases hm:m=0
       ·subst hm;have hr:=tp (P:=P) w t1 o.type y1.elem ie hd hie (some ⟨b0,B6,none⟩) ax 0 0 cc (ak _);exact⟨_,own,[],w,_,hexec _ _ hr,.inl rfl,.inl ⟨rfl,rfl,rfl,rfl⟩,fun q _ _=>bD _ _,ak _,fun _ _ _=>rfl,hoa,fun b cs hb=>.inl ⟨cs,by rw[hown];exact hb⟩,hnod,aG.nil _ _⟩
       ·obtain⟨ad,rfl,hrd2⟩:=hrd (by omega);have wP:=hrd2 I w hdo hh hoa;obtain⟨v',w',hrun,hw,wO⟩:=run_append_arg_grows (P:=P) w t1 o.type y1.elem ie zz y1.esize y1.ebytes hd hie EP hsz FM QW (by omega) ⟨b0,B6,none⟩ 0 0 [] (by simp) (fun j u hj=>by simp at hj) ad m cc news hnl wP (by omega) (by unfold maxLen;omega) hnb;obtain⟨_,hw⟩:=hw;rcases hw with⟨_,h0⟩|⟨g,cap,cur,rfl,hge,YU,hnc,hcm,hcs,htk⟩
        ·omega
        ·have FV:∀b cs,(b,cs)∈own→b<w.heap.size:=fun b cs hb=>by
          obtain⟨_,_,hc⟩:=hoa b cs hb;exact cu hc
         rw[bQ]at hrun hnc htk;refine⟨_,(g,cur.toList)::own,[],w',_,hexec _ _ hrun,.inl rfl,.inr ⟨g,cap,cur.toList,by omega,hnc,hcm,by simpa using hcs,by simpa using htk,rfl,rfl,rfl⟩,fun q _ Hp=>⟨wO.os,wO.tape,wO.output,wO.size,fun k hk=>wO.block k (by omega) (by simp)⟩,wO.size,fun k hk _=>wO.block k hk (by simp),fun b cs hb=>?_,fun b cs hb=>?_,?_,aG.nil _ _⟩
         ·rcases List.mem_cons.1 hb with hb|hb
          ·injection hb with h1' h2';subst h1' h2';exact⟨y1.elem,by simpa using c5,by simpa using YU⟩
          ·obtain⟨e,he',hc⟩:=hoa b cs hb;exact⟨e,he',by rw[wO.block b (FV b cs hb) (by simp)];exact hc⟩
         ·rcases List.mem_cons.1 hb with hb|hb
          ·injection hb with h1' h2';subst h1';exact .inr hge
          ·exact .inl ⟨cs,by rw[hown];exact hb⟩
         ·rw[bY,ko];refine⟨fun lU=>?_,hnod⟩;obtain⟨⟨b,cs⟩,h1,h2⟩:=List.mem_map.1 lU;have:=FV b cs h1;simp only at h2;omega
      ·rintro v' iN Δ (⟨hm,rfl,rfl,rfl⟩|⟨g,cap,cur,h0,h1,h2,h3,h4,rfl,rfl,rfl⟩)
       ·exact hk0 hm
       ·exact hk g cap cur h0 h1 h2 h3 h4
    ·simp at h
   ·simp at h
  ·simp at h
 ·simp at h
end
def ry(W:World)(b1 b2:Nat)(w:World):Prop:=(∀(k:Nat) (o:Obj),k≠b1→k≠b2→W.heap[k]? =some o→w.heap[k]? =some o)∧
 (∃v,w.heap[b1]? =some (.cells #[v] 84 (0,0)))∧(∃v,w.heap[b2]? =some (.cells #[v] 84 (0,0)))∧Below b1 W w
theorem ry.call{W w w':World}{b1 b2:Nat}(h:ry W b1 b2 w)(hb:Below w.heap.size w w'):ry W b1 b2 w':=by
 obtain⟨h1,⟨v1,h2⟩,⟨v2,h3⟩,h4⟩:=h;exact⟨fun k o a b c=>bG hb (h1 k o a b c),⟨v1,bG hb h2⟩,⟨v2,bG hb h3⟩,h4.trans (hb.mono (fW (rL h2)))⟩
theorem ry.kp{W w:World}{b1 b2:Nat}(h:ry W b1 b2 w){v1 v2:Value}(h1:W.heap[b1]? =some (.cells #[v1] 84 (0,0)))(h2:W.heap[b2]? =some (.cells #[v2] 84 (0,0))):Kp W w:=fun b c T f hT hb=>by
 refine h.1 b _ ?_ ?_ hb
 ·rintro rfl;rw[h1]at hb;simp at hb;rcases hT with h|h|h<;>rw[←hb.2.1]at h<;>exact absurd h (by decide)
 ·rintro rfl;rw[h2]at hb;simp at hb;rcases hT with h|h|h<;>rw[←hb.2.1]at h<;>exact absurd h (by decide)
theorem ry.refl{W:World}{b1 b2:Nat}{v1 v2:Value}(h1:W.heap[b1]? =some (.cells #[v1] 84 (0,0)))(h2:W.heap[b2]? =some (.cells #[v2] 84 (0,0))):ry W b1 b2 W:=⟨fun _ _ _ _ h=>h,⟨v1,h1⟩,⟨v2,h2⟩,bD _ _⟩
def DD(w:World)(s:Sl)(g n:Nat)(p:List Nat)(wr:World):Prop:=
 wr.heap[w.heap.size]? =some (.cells #[.slice s.ao s.n s.c] 84 (0,0))∧wr.heap[w.heap.size+1]? =some (.cells #[.slice none 0 0] 84 (0,0))∧
 wr.heap[w.heap.size+1+1]? =some (.cells #[.slice none 0 0] 84 (0,0))∧iN wr (w.heap.size+3) 3 .i64 (.slice (some ⟨g,0,none⟩) n n) p∧Below w.heap.size w wr
theorem DD.up{w:World}{s:Sl}{g n:Nat}{p:List Nat}{wr w':World}(h:DD w s g n p wr)(hb:Below wr.heap.size wr w'):DD w s g n p w':=
 ⟨bG hb h.1,bG hb h.2.1,bG hb h.2.2.1,h.2.2.2.1.below hb (ak _),h.2.2.2.2.trans (hb.mono h.2.2.2.2.size)⟩
section
variable{Γ:List aD}{L M x y:Nat}
end
open Go.RowKit Go.IntWalk
section
variable{fin:VS→List aD→Prop}{Γ:List aD}{L M K:Nat}
end
section
variable{fin:VS→List aD→Prop}{Γ:List aD}{L M K:Nat}
end
section
variable{fin:VS→List aD→Prop}{Γ:List aD}{L M K:Nat}
end
section
variable{fin:VS→List aD→Prop}{Γ:List aD}{L M K:Nat}
end
def AK(z:Int):Prop:= -2147483648≤z∧z≤2147483647
instance(z:Int):Decidable (AK z):=inferInstanceAs (Decidable (_∧_))
theorem CK{z:Int}(h:AK z):g_ z=true:=by
 unfold g_;unfold AK at h;simp only[aM,dp];omega
section
variable{fin:VS→List aD→Prop}{Γ:List aD}{L M K:Nat}
theorem Wy(x y:Sw){X Y:Sn} [aW (SF x) (L,X) Γ] [aW (SF y) (M,Y) Γ](hm:0≤X.m)(hn:0≤X.n)(hm':0≤Y.m)(Ob:0≤Y.n)(ha:AK X.nr)(hb:AK Y.nr)(hL:L≤280:=by omega)(hM:M≤280:=by omega):
  aw tb Tryz.prog 144 [Bn x y] Γ (jq (.tuple #[.agg #[.int .i64 X.nr,.int .i64 Y.nr],.int .i64 0])):=by
 refine aw.of_W aB Tryz.func144 rfl ?_;refine aq [] (Kj x hm hn) ?_;rintro _ _ ⟨u1,d1,rfl,rfl⟩;refine aq [] (jz u1 d1 (CK ha)) ?_;rintro _ _ ⟨rfl,rfl⟩;refine aq [] (Kj y hm' Ob) ?_;rintro _ _ ⟨u3,d3,rfl,rfl⟩;refine aq [] (jz u3 d3 (CK hb)) ?_;rintro _ _ ⟨rfl,rfl⟩;unfold AK at ha hb;refine aQ [] 24 (!true) rfl ?_;refine aQ [24] 28 (!true) rfl ?_;refine aQ [28] 32 (decide (X.nr< -2147483648)) (by rw[aX];omega) ?_;refine aQ [32] 36 (decide (X.nr>2147483647)) (by rw[aX];omega) ?_;refine aQ [36] 40 (decide (Y.nr< -2147483648)) (by rw[aX];omega) ?_;refine aQ [40] 43 (decide (Y.nr>2147483647)) (by rw[aX];omega) ?_;exact W.r [43] (.tuple #[.agg #[.int .i64 X.nr,.int .i64 Y.nr],.int .i64 0]) ⟨rfl,rfl⟩ bT
theorem Wx(x y:Sw){X Y:Sn} [aW (SF x) (L,X) Γ] [aW (SF y) (M,Y) Γ](hm:0≤X.m)(hn:0≤X.n)(hm':0≤Y.m)(Ob:0≤Y.n)(h:¬(AK X.nr∧AK Y.nr))(hL:L≤280:=by omega)(hM:M≤280:=by omega):
  aw tb Tryz.prog 144 [Bn x y] Γ (jq (.tuple #[.agg #[.int .i64 0,.int .i64 0],.int .i64 26])):=by
 refine aw.of_W aB Tryz.func144 rfl ?_;refine aq [] (Kj x hm hn) ?_;rintro _ _ ⟨u1,d1,rfl,rfl⟩;refine aq [] (xh u1 d1) ?_;rintro _ _ ⟨rfl,rfl⟩;refine aq [] (Kj y hm' Ob) ?_;rintro _ _ ⟨u3,d3,rfl,rfl⟩;refine aq [] (xh u3 d3) ?_;rintro _ _ ⟨rfl,rfl⟩;generalize X.nr=a at*;generalize Y.nr=b at*;cases sa:g_ a with
 |false=>
  refine bj [] 24 (!false) rfl ?_;exact W.r [43,40,36,32,28,24] (.tuple #[.agg #[.int .i64 0,.int .i64 0],.int .i64 26]) ⟨rfl,rfl⟩ bT
 |true=>
 refine aQ [] 24 (!true) rfl ?_;cases sb:g_ b with
 |false=>
  refine bj [24] 28 (!false) rfl ?_;exact W.r [43,40,36,32,28] (.tuple #[.agg #[.int .i64 0,.int .i64 0],.int .i64 26]) ⟨rfl,rfl⟩ bT
 |true=>
 refine aQ [24] 28 (!true) rfl ?_;by_cases h1:a< -2147483648
 ·refine bj [28] 32 (decide (a< -2147483648)) (by rw[fM];exact h1) ?_;exact W.r [43,40,36,32] (.tuple #[.agg #[.int .i64 0,.int .i64 0],.int .i64 26]) ⟨rfl,rfl⟩ bT
 refine aQ [28] 32 (decide (a< -2147483648)) (by rw[aX];exact h1) ?_;by_cases h2:a>2147483647
 ·refine bj [32] 36 (decide (a>2147483647)) (by rw[fM];exact h2) ?_;exact W.r [43,40,36] (.tuple #[.agg #[.int .i64 0,.int .i64 0],.int .i64 26]) ⟨rfl,rfl⟩ bT
 refine aQ [32] 36 (decide (a>2147483647)) (by rw[aX];exact h2) ?_;by_cases h3:b< -2147483648
 ·refine bj [36] 40 (decide (b< -2147483648)) (by rw[fM];exact h3) ?_;exact W.r [43,40] (.tuple #[.agg #[.int .i64 0,.int .i64 0],.int .i64 26]) ⟨rfl,rfl⟩ bT
 refine aQ [36] 40 (decide (b< -2147483648)) (by rw[aX];exact h3) ?_;refine bj [40] 43 (decide (b>2147483647)) (by rw[fM];unfold AK at h;omega) ?_;exact W.r [43] (.tuple #[.agg #[.int .i64 0,.int .i64 0],.int .i64 26]) ⟨rfl,rfl⟩ bT
end
abbrev dv(d:Dp):Value:=.agg #[.int .i64 d.x,.int .i64 d.y]
def iu(B:Int)(d:Dp):Prop:= -B≤d.x∧d.x≤B∧ -B≤d.y∧d.y≤B
abbrev yb(d:Dp)(a b c f:Qw):List Value:=[.int .i64 d.x,.int .i64 d.y,.slice a.n.ao a.n.n a.n.c,.bool a.a,.slice a.m.ao a.m.n a.m.c,.bool a.b,.slice b.n.ao b.n.n b.n.c,.bool b.a,.slice b.m.ao b.m.n b.m.c,.bool b.b,
 .slice c.n.ao c.n.n c.n.c,.bool c.a,.slice c.m.ao c.m.n c.m.c,.bool c.b,.slice f.n.ao f.n.n f.n.c,.bool f.a,.slice f.m.ao f.m.n f.m.c,.bool f.b]
section
variable{Γ:List aD}{L M:Nat}
theorem IN(d e:Dp)(hd:iu 4294967296 d)(he:iu 4294967296 e):aw tb Tryz.prog 241 [dv d,dv e] Γ (o0 9 (qG d e)):=by
 unfold iu at*;refine aw.of_W aB Tryz.func241 rfl ?_;refine aq [] (cU d.x (by omega) (by omega)) ?_;rintro _ _ ⟨u1,d1,rfl,rfl⟩;refine aq [] (cU e.x (by omega) (by omega)) ?_;rintro _ _ ⟨u2,d2,rfl,rfl⟩;refine aq [] (mw u1 d1 u2 d2) ?_;rintro _ _ ⟨u3,d3,rfl,rfl⟩;refine aq [] (cU d.y (by omega) (by omega)) ?_;rintro _ _ ⟨u4,d4,rfl,rfl⟩;refine aq [] (cU e.y (by omega) (by omega)) ?_;rintro _ _ ⟨u5,d5,rfl,rfl⟩;refine aq [] (mw u4 d4 u5 d5) ?_;rintro _ _ ⟨u6,d6,rfl,rfl⟩;refine aq [] (mu u3 d3 u6 d6) ?_;rintro _ _ ⟨u7,d7,rfl,rfl⟩;exact W.r [] (zv u7 d7) ⟨u7,d7,rfl,rfl⟩ (lq (by omega) rfl)
theorem C4(d:Dp)(hd:iu 4294967296 d):aw tb Tryz.prog 236 [dv d] Γ (o0 9 (kE d)):=by
 refine aw.of_W aB Tryz.func236 rfl ?_;refine aq [] (IN d d hd hd) ?_;rintro _ _ ⟨u1,d1,rfl,rfl⟩;exact W.r [] (zv u1 d1) ⟨u1,d1,rfl,rfl⟩ (lq (by omega) rfl)
theorem xd(d:Dp)(hd:iu 4294967296 d):aw tb Tryz.prog 237 [dv d] Γ (jq (dv (eS d))):=by
 unfold iu at*;refine aw.of_W aB Tryz.func237 rfl ?_;refine W.r [] (.agg #[.int .i64 (IntKind.i64.wrap (0-d.y)),.int .i64 d.x]) ⟨?_,rfl⟩ bT;rw[show IntKind.i64.wrap (0-d.y)= -d.y by rw[af];omega];rfl
theorem Px(u:Sl)(d:Bool)(v:Sl)(e:Bool){x y:Int} [aW (ZF u d) (L,x) Γ] [aW (ZF v e) (M,y) Γ](hy:y≠0)(hL:L≤1000000000:=by omega)(hM:M≤1000000000:=by omega):
  aw tb Tryz.prog 265 [zv u d,zv v e] Γ (s9 (max L M) (Rat.divInt x y)):=by
 refine aw.of_W aB Tryz.func265 rfl ?_;refine aq [] (zD u d v e hy) ?_;rintro _ _ ⟨n1,a1,m1,b1,rfl,rfl⟩;exact W.r [] (qv n1 a1 m1 b1) ⟨n1,a1,m1,b1,rfl,rfl⟩ (kg (by omega) rfl)
theorem tU(d:Dp)(n:Sl)(a:Bool)(m:Sl)(b:Bool){q:Rat} [aW (QF n a m b) (L,q) Γ](hd:iu 4294967296 d)(h0:kE d≠0)(hL:L≤1000:=by omega):
  aw tb Tryz.prog 239 [dv d,qv n a m b] Γ (fun v Δ=>∃Q:Qw,v=.agg (yb d b_ Q b_ b_).toArray∧Δ=[QG Q (L+14,(jI d q).b)]):=by
 refine aw.of_W aB Tryz.func239 rfl ?_;refine aq [] (cU 1 (by omega) (by omega)) ?_;rintro _ _ ⟨u1,d1,rfl,rfl⟩;refine aq [] (C4 d hd) ?_;rintro _ _ ⟨u2,d2,rfl,rfl⟩;refine aq [] (Px u1 d1 u2 d2 h0) ?_;rintro _ _ ⟨n3,a3,m3,b3,rfl,rfl⟩;refine aq [] (bU n a m b n3 a3 m3 b3) ?_;rintro _ _ ⟨n4,a4,m4,b4,rfl,rfl⟩;exact W.r [] (.agg (yb d b_ ⟨n4,a4,m4,b4⟩ b_ b_).toArray) ⟨⟨n4,a4,m4,b4⟩,rfl,rfl⟩ (kg (by omega) rfl)
theorem zE(d:Dp)(n:Sl)(a:Bool)(m:Sl)(b:Bool){q:Rat} [aW (QF n a m b) (L,q) Γ](hd:iu 4294967296 d)(h0:kE d≠0)(hL:L≤1000:=by omega):
  aw tb Tryz.prog 240 [dv d,qv n a m b] Γ (fun v Δ=>∃Q:Qw,v=.agg (yb d b_ b_ b_ Q).toArray∧Δ=[QG Q (L+16,(lM d q).e)]):=by
 refine aw.of_W aB Tryz.func240 rfl ?_;refine aq [] (cU 1 (by omega) (by omega)) ?_;rintro _ _ ⟨u1,d1,rfl,rfl⟩;refine aq [] (C4 d hd) ?_;rintro _ _ ⟨u2,d2,rfl,rfl⟩;refine aq [] (cU 2 (by omega) (by omega)) ?_;rintro _ _ ⟨u3,d3,rfl,rfl⟩;refine aq [] (mw u2 d2 u3 d3) ?_;rintro _ _ ⟨u4,d4,rfl,rfl⟩;refine aq [] (Px u1 d1 u4 d4 (by omega)) ?_;rintro _ _ ⟨n5,a5,m5,b5,rfl,rfl⟩;refine aq [] (bU n a m b n5 a5 m5 b5) ?_;rintro _ _ ⟨n6,a6,m6,b6,rfl,rfl⟩;exact W.r [] (.agg (yb d b_ b_ b_ ⟨n6,a6,m6,b6⟩).toArray) ⟨⟨n6,a6,m6,b6⟩,rfl,rfl⟩ (kg (by omega) rfl)
theorem C3(n:Int):aw tb Tryz.prog 187 [.int .i64 n] Γ (jq (.bool (GK n))):=by
 refine aw.of_W aB Tryz.func187 rfl ?_;refine W.d [] 5 (decide (n< -2147483648)) (fun hb=>?_) (fun hb=>?_)
 ·exact W.r [5] (.bool true) ⟨by unfold GK;rw[hb];rfl,rfl⟩ bT
 ·refine W.r [5] (.bool (decide (n>2147483647))) ⟨?_,rfl⟩ bT;unfold GK;rw[hb];simp
theorem Wz(p:Dp):aw tb Tryz.prog 186 [dv p] Γ (jq (.bool (tR p))):=by
 refine aw.of_W aB Tryz.func186 rfl ?_;refine aq [] (C3 p.x) ?_;rintro _ _ ⟨rfl,rfl⟩;refine W.d [] 6 (GK p.x) (fun hb=>?_) (fun hb=>?_)
 ·exact W.r [6] (.bool true) ⟨by unfold tR;rw[hb];rfl,rfl⟩ bT
 ·refine aq [6] (C3 p.y) ?_;rintro _ _ ⟨rfl,rfl⟩;exact W.r [6] (.bool (GK p.y)) ⟨by unfold tR;rw[hb];rfl,rfl⟩ bT
theorem uB{g a b:Int}(hg:0<g)(h:a=g*b)(h1: -4294967296≤a)(h2:a≤4294967296): -4294967296≤b∧b≤4294967296:=by
 have k1:b.natAbs≤a.natAbs:=by
  rw[h,cK];exact Nat.le_mul_of_pos_left _ (by omega)
 omega
theorem JR(x:Int)(h: -9223372036854775807≤x)(h2:x≤9223372036854775807):max x (IntKind.i64.wrap (0-x))=(x.natAbs:Int):=by
 rw[af];omega
theorem CY(p q:Dp)(hp:iu 2147483648 p)(hq:iu 2147483648 q)(hne:p≠q):aw tb Tryz.prog 235 [dv p,dv q] Γ (jq (dv (gl p q))):=by
 have hv:=AZ hne;have hg:=tH hv;have hdv:=Av ⟨q.x-p.x,q.y-p.y⟩;have hgd:mi ⟨q.x-p.x,q.y-p.y⟩=((Nat.gcd (q.x-p.x).natAbs (q.y-p.y).natAbs:Nat):Int):=rfl;simp only at hv hdv;unfold iu at*;have e1:IntKind.i64.wrap (q.x-p.x)=q.x-p.x:=by rw[af];omega
 have e2:IntKind.i64.wrap (q.y-p.y)=q.y-p.y:=by rw[af];omega
 refine aw.of_W aB Tryz.func235 rfl ?_;refine MO [] .i64 (IntKind.i64.wrap (q.x-p.x)) (IntKind.i64.wrap (0-IntKind.i64.wrap (q.x-p.x))) ((q.x-p.x).natAbs:Int) (by rw[e1];exact JR _ (by omega) (by omega)) ?_;refine MO [] .i64 (IntKind.i64.wrap (q.y-p.y)) (IntKind.i64.wrap (0-IntKind.i64.wrap (q.y-p.y))) ((q.y-p.y).natAbs:Int) (by rw[e2];exact JR _ (by omega) (by omega)) ?_;refine zd [] [7,8] (fun a:Nat×Nat=>[(7,.int .i64 (a.1:Int)),(8,.int .i64 (a.2:Int))]) (fun _=>[]) (fun _=>[]) (fun a=>Nat.gcd a.1 a.2=Nat.gcd (q.x-p.x).natAbs (q.y-p.y).natAbs) (fun a=>a.2) ((q.x-p.x).natAbs,(q.y-p.y).natAbs) rfl bT ?_;rintro⟨a,b⟩ R hab close;simp only at hab;refine W.d [] 28 (decide ((b:Int)>0)) (fun hb=>?_) (fun hb=>?_)
 ·have hk:=jf hb;refine W.rem [28] (a:Int) (b:Int) ((a % b:Nat):Int) (by omega) (by rw[fJ (by omega),ru]) ?_;refine close [] _ _ (b,a % b) (by kernel_rfl) (by kernel_rfl) (by rw[←hab,Nat.gcd_comm a b,Nat.gcd_rec b a,Nat.gcd_comm]) (fB _ (by omega)) bT
 ·have hk:=eJ hb;have hb0:b=0:=by omega
  subst hb0;rw[Nat.gcd_zero_right]at hab;subst hab;rw[←hgd]at*;have hgx:(q.x-p.x).tdiv (mi ⟨q.x-p.x,q.y-p.y⟩)=(gl p q).x:=Int.tdiv_eq_ediv_of_dvd hdv.1;have hgy:(q.y-p.y).tdiv (mi ⟨q.x-p.x,q.y-p.y⟩)=(gl p q).y:=Int.tdiv_eq_ediv_of_dvd hdv.2;have hm:=rK ⟨q.x-p.x,q.y-p.y⟩;simp only at hm;have bx: -4294967296≤(gl p q).x∧(gl p q).x≤4294967296:=uB hg hm.1 (by omega) (by omega);have byy: -4294967296≤(gl p q).y∧(gl p q).y≤4294967296:=uB hg hm.2 (by omega) (by omega);refine W.quo [28] (IntKind.i64.wrap (q.x-p.x)) (mi ⟨q.x-p.x,q.y-p.y⟩) (gl p q).x (by omega) (by rw[e1,hgx,af];omega) ?_;refine W.quo [] (IntKind.i64.wrap (q.y-p.y)) (mi ⟨q.x-p.x,q.y-p.y⟩) (gl p q).y (by omega) (by rw[e2,hgy,af];omega) ?_;exact W.r [] (dv (gl p q)) ⟨rfl,rfl⟩ bT
theorem ya(u:Sl)(d:Bool)(v:Sl)(e:Bool)(B:Nat)(a b c f:Qw){m n:Int}{x y z w:Rat}{K L1 L2 L3 L4:Nat} [h1:aW (ZF u d) (L,m) Γ] [h2:aW (ZF v e) (M,n) Γ]
  [hr:aW (ek B) ([(⟨a.n,a.a,a.m,a.b,x⟩:QE),(⟨b.n,b.a,b.m,b.b,y⟩:QE),(⟨c.n,c.a,c.m,c.b,z⟩:QE),(⟨f.n,f.a,f.m,f.b,w⟩:QE)].flatMap QR.cells) Γ]
  [ha:aW (QG a) (L1,x) Γ] [hb:aW (QG b) (L2,y) Γ] [hc:aW (QG c) (L3,z) Γ] [hf:aW (QG f) (L4,w) Γ](hm:0≤m)(hn:0≤n)
  (hL:L≤100000:=by omega)(hM:M≤100000:=by omega)(hK:L1≤K∧L2≤K∧L3≤K∧L4≤K:=by omega):
  aw tb Tryz.prog 148 [zv u d,zv v e,.slice (some ⟨B,0,none⟩) 4 4] Γ (Xx (max (max L M) K) ⟨m,n,x,y,z,w⟩):=
 (PJ (Γ:=OL QR (some ⟨B,0,none⟩) (K,[(⟨a.n,a.a,a.m,a.b,x⟩:QE),(⟨b.n,b.a,b.m,b.b,y⟩:QE),(⟨c.n,c.a,c.m,c.b,z⟩:QE),(⟨f.n,f.a,f.m,f.b,w⟩:QE)])::Γ) u d v e (some ⟨B,0,none⟩) 4 4 rfl (by omega) hm hn).weak (fun I w hd hh=>aG.cons ⟨fun q hq=>by
  simp at hq;rcases hq with rfl|rfl|rfl|rfl
  ·exact QF.up2 (ha.p hh) hK.1
  ·exact QF.up2 (hb.p hh) hK.2.1
  ·exact QF.up2 (hc.p hh) hK.2.2.1
  ·exact QF.up2 (hf.p hh) hK.2.2.2,RA.of_row (hr.p hh) (fun _ _ h=>h)⟩ hh) (fun _ _ h=>h)
theorem Pe(p:Dp)(u:Sl)(d:Bool)(v:Sl)(e:Bool)(B:Nat)(g:Dp)(A1 A2 A3 A4:Qw){m n:Int}{x1 x2 x3 x4:Rat}{K1 K2 K3 K4:Nat} [aW (ZF u d) (L,m) Γ] [aW (ZF v e) (M,n) Γ] [aW (ek B) (yb g A1 A2 A3 A4) Γ]
  [aW (QG A1) (K1,x1) Γ] [aW (QG A2) (K2,x2) Γ] [aW (QG A3) (K3,x3) Γ] [aW (QG A4) (K4,x4) Γ](hp:iu 2147483648 p)(hg:iu 4294967296 g)(h0:0≤m∧0≤n)(hL:L≤10∧M≤10:=by omega)(hK:K1≤45∧K2≤45∧K3≤45∧K4≤45:=by omega):
  aw tb Tryz.prog 238 [dv p,zv u d,zv v e,.slice (some ⟨B,0,none⟩) 1 1] Γ (vJ 130 (alX m n p.x [⟨g,x1,x2,x3,x4⟩]) (alY m n p.y [⟨g,x1,x2,x3,x4⟩])):=by
 unfold iu at*;refine aw.of_W aB Tryz.func238 rfl ?_;refine aq [] (cU p.x (by omega) (by omega)) ?_;rintro _ _ ⟨ux,dx,rfl,rfl⟩;refine aq [] (cr ux dx) ?_;rintro _ _ ⟨nx,ax,mx,Yg,rfl,rfl⟩;refine cH [] 1 ([(⟨nx,ax,mx,Yg,((p.x:Int):Rat)⟩:QE)].flatMap QR.cells) aB (fun Bx=>?_);refine aq [] (Bg u d v e Bx ⟨nx,ax,mx,Yg⟩ h0.1 h0.2) ?_;rintro _ _ ⟨X,rfl,rfl⟩;refine aq [] (cU p.y (by omega) (by omega)) ?_;rintro _ _ ⟨uy,dy,rfl,rfl⟩;refine aq [] (cr uy dy) ?_;rintro _ _ ⟨ny,ay,my,Yh,rfl,rfl⟩;refine cH [] 1 ([(⟨ny,ay,my,Yh,((p.y:Int):Rat)⟩:QE)].flatMap QR.cells) aB (fun By=>?_);refine aq [] (Bg u d v e By ⟨ny,ay,my,Yh⟩ h0.1 h0.2) ?_;rintro _ _ ⟨Y,rfl,rfl⟩;refine j2 [] 5 ?_;refine bW [47] 18 B 0 1 1 .i64 0 0 rfl aB (by decide) ?_;refine ju [] B (0+0*18) (yb g A1 A2 A3 A4) aB rfl ?_;refine j2 [] 5 ?_;refine aq [55] (cU g.x (by omega) (by omega)) ?_;rintro _ _ ⟨Xd,Vg,rfl,rfl⟩;refine aq [] (cr Xd Vg) ?_;rintro _ _ ⟨V_,UR,VY,U5,rfl,rfl⟩;refine aq [] (bU A1.n A1.a A1.m A1.b V_ UR VY U5) ?_;rintro _ _ ⟨Gy,E_,Gl,Fl,rfl,rfl⟩;refine aq [] (cU g.y (by omega) (by omega)) ?_;rintro _ _ ⟨Xh,Vk,rfl,rfl⟩;refine aq [] (cr Xh Vk) ?_;rintro _ _ ⟨Wd,UW,V5,U9,rfl,rfl⟩;refine aq [] (bU A1.n A1.a A1.m A1.b Wd UW V5 U9) ?_;rintro _ _ ⟨GC,Fe,Gq,Fq,rfl,rfl⟩
 refine aq [55] (cU g.x (by omega) (by omega)) ?_;rintro _ _ ⟨Xe,Vh,rfl,rfl⟩;refine aq [] (cr Xe Vh) ?_;rintro _ _ ⟨Wa,US,VZ,U6,rfl,rfl⟩;refine aq [] (bU A2.n A2.a A2.m A2.b Wa US VZ U6) ?_;rintro _ _ ⟨Gz,Fa,Gm,Fm,rfl,rfl⟩;refine aq [] (cU g.y (by omega) (by omega)) ?_;rintro _ _ ⟨Xi,Vl,rfl,rfl⟩;refine aq [] (cr Xi Vl) ?_;rintro _ _ ⟨We,UX,V6,U_,rfl,rfl⟩;refine aq [] (bU A2.n A2.a A2.m A2.b We UX V6 U_) ?_;rintro _ _ ⟨GD,Ff,Gr,Fs,rfl,rfl⟩;refine aq [55] (cU g.x (by omega) (by omega)) ?_;rintro _ _ ⟨Xf,Vi,rfl,rfl⟩;refine aq [] (cr Xf Vi) ?_;rintro _ _ ⟨Wb,UT,V2,U7,rfl,rfl⟩;refine aq [] (bU A3.n A3.a A3.m A3.b Wb UT V2 U7) ?_;rintro _ _ ⟨GA,Fb,Gn,Fo,rfl,rfl⟩;refine aq [] (cU g.y (by omega) (by omega)) ?_;rintro _ _ ⟨Xj,Vm,rfl,rfl⟩;refine aq [] (cr Xj Vm) ?_;rintro _ _ ⟨Wf,UY,V7,Va,rfl,rfl⟩;refine aq [] (bU A3.n A3.a A3.m A3.b Wf UY V7 Va) ?_;rintro _ _ ⟨GF,Fg,Gs,Ft,rfl,rfl⟩;refine aq [55] (cU g.x (by omega) (by omega)) ?_;rintro _ _ ⟨Xg,Vj,rfl,rfl⟩;refine aq [] (cr Xg Vj) ?_;rintro _ _ ⟨Wc,UU,V4,U8,rfl,rfl⟩;refine aq [] (bU A4.n A4.a A4.m A4.b Wc UU V4 U8) ?_;rintro _ _ ⟨GB,Fc,Gp,Fp,rfl,rfl⟩;refine aq [] (cU g.y (by omega) (by omega)) ?_
 rintro _ _ ⟨Xk,Vn,rfl,rfl⟩;refine aq [] (cr Xk Vn) ?_;rintro _ _ ⟨Wg,UZ,V8,Vb,rfl,rfl⟩;refine aq [] (bU A4.n A4.a A4.m A4.b Wg UZ V8 Vb) ?_;rintro _ _ ⟨GG,Fh,Gt,Fu,rfl,rfl⟩;refine W.revp 15 ([(⟨Gy,E_,Gl,Fl,x1*((g.x:Int):Rat)⟩:QE),(⟨Gz,Fa,Gm,Fm,x2*((g.x:Int):Rat)⟩:QE),(⟨GA,Fb,Gn,Fo,x3*((g.x:Int):Rat)⟩:QE),(⟨GB,Fc,Gp,Fp,x4*((g.x:Int):Rat)⟩:QE)].flatMap QR.cells) (fun Yl=>?_);refine W.revp 16 ([(⟨GC,Fe,Gq,Fq,x1*((g.y:Int):Rat)⟩:QE),(⟨GD,Ff,Gr,Fs,x2*((g.y:Int):Rat)⟩:QE),(⟨GF,Fg,Gs,Ft,x3*((g.y:Int):Rat)⟩:QE),(⟨GG,Fh,Gt,Fu,x4*((g.y:Int):Rat)⟩:QE)].flatMap QR.cells) (fun Ym=>?_);refine wv [55] 4 4 Yl 0 none none 0 4 aB (.inr ⟨rfl,rfl⟩) (.inr ⟨rfl,rfl⟩) (by decide) (by decide) (by decide) ?_;refine aq [] (ya u d v e Yl ⟨Gy,E_,Gl,Fl⟩ ⟨Gz,Fa,Gm,Fm⟩ ⟨GA,Fb,Gn,Fo⟩ ⟨GB,Fc,Gp,Fp⟩ (K:=52) h0.1 h0.2) ?_;rintro _ _ ⟨S0,rfl,rfl⟩;refine wv [] 4 4 Ym 0 none none 0 4 aB (.inr ⟨rfl,rfl⟩) (.inr ⟨rfl,rfl⟩) (by decide) (by decide) (by decide) ?_;refine aq [] (ya u d v e Ym ⟨GC,Fe,Gq,Fq⟩ ⟨GD,Ff,Gr,Fs⟩ ⟨GF,Fg,Gs,Ft⟩ ⟨GG,Fh,Gt,Fu⟩ (K:=52) h0.1 h0.2) ?_;rintro _ _ ⟨T0,rfl,rfl⟩;refine aq [] (pH X (S:=(⟨m,n,((p.x:Int):Rat),0,0,0⟩:Sn)) S0 (T:=⟨m,n,x1*((g.x:Int):Rat),x2*((g.x:Int):Rat),x3*((g.x:Int):Rat),x4*((g.x:Int):Rat)⟩) rfl rfl) ?_
 rintro _ _ ⟨X0,rfl,rfl⟩;refine aq [] (pH Y (S:=(⟨m,n,((p.y:Int):Rat),0,0,0⟩:Sn)) T0 (T:=⟨m,n,x1*((g.y:Int):Rat),x2*((g.y:Int):Rat),x3*((g.y:Int):Rat),x4*((g.y:Int):Rat)⟩) rfl rfl) ?_;rintro _ _ ⟨Y0,rfl,rfl⟩;exact W.r [47] (Bn X0 Y0) ⟨X0,Y0,rfl,rfl⟩ (mh (Δ:=[_]) (Δ':=[_]) (qg (by omega) rfl) (qg (by omega) rfl))
theorem pE(p:Dp)(u:Sl)(d:Bool)(v:Sl)(e:Bool)(B:Nat)(g:Dp)(k:Dp)(A1 A2 A3 A4 B1 B2 B3 B4:Qw){m n:Int}{x1 x2 x3 x4 y1 y2 y3 y4:Rat}{K1 K2 K3 K4 J1 J2 J3 J4:Nat} [aW (ZF u d) (L,m) Γ] [aW (ZF v e) (M,n) Γ] [aW (ek B) (yb g A1 A2 A3 A4++yb k B1 B2 B3 B4) Γ]
  [aW (QG A1) (K1,x1) Γ] [aW (QG A2) (K2,x2) Γ] [aW (QG A3) (K3,x3) Γ] [aW (QG A4) (K4,x4) Γ] [aW (QG B1) (J1,y1) Γ] [aW (QG B2) (J2,y2) Γ] [aW (QG B3) (J3,y3) Γ] [aW (QG B4) (J4,y4) Γ](hp:iu 2147483648 p)(hg:iu 4294967296 g)(hk:iu 4294967296 k)(h0:0≤m∧0≤n)(hL:L≤10∧M≤10:=by omega)(hK:K1≤45∧K2≤45∧K3≤45∧K4≤45∧J1≤45∧J2≤45∧J3≤45∧J4≤45:=by omega):
  aw tb Tryz.prog 238 [dv p,zv u d,zv v e,.slice (some ⟨B,0,none⟩) 2 2] Γ (vJ 130 (alX m n p.x [⟨g,x1,x2,x3,x4⟩,⟨k,y1,y2,y3,y4⟩]) (alY m n p.y [⟨g,x1,x2,x3,x4⟩,⟨k,y1,y2,y3,y4⟩])):=by
 unfold iu at*;refine aw.of_W aB Tryz.func238 rfl ?_;refine aq [] (cU p.x (by omega) (by omega)) ?_;rintro _ _ ⟨ux,dx,rfl,rfl⟩;refine aq [] (cr ux dx) ?_;rintro _ _ ⟨nx,ax,mx,Yg,rfl,rfl⟩;refine cH [] 1 ([(⟨nx,ax,mx,Yg,((p.x:Int):Rat)⟩:QE)].flatMap QR.cells) aB (fun Bx=>?_);refine aq [] (Bg u d v e Bx ⟨nx,ax,mx,Yg⟩ h0.1 h0.2) ?_;rintro _ _ ⟨X,rfl,rfl⟩;refine aq [] (cU p.y (by omega) (by omega)) ?_;rintro _ _ ⟨uy,dy,rfl,rfl⟩;refine aq [] (cr uy dy) ?_;rintro _ _ ⟨ny,ay,my,Yh,rfl,rfl⟩;refine cH [] 1 ([(⟨ny,ay,my,Yh,((p.y:Int):Rat)⟩:QE)].flatMap QR.cells) aB (fun By=>?_);refine aq [] (Bg u d v e By ⟨ny,ay,my,Yh⟩ h0.1 h0.2) ?_;rintro _ _ ⟨Y,rfl,rfl⟩;refine j2 [] 5 ?_;refine bW [47] 18 B 0 2 2 .i64 0 0 rfl aB (by decide) ?_;refine ju [] B (0+0*18) (yb g A1 A2 A3 A4) aB rfl ?_;refine j2 [] 5 ?_;refine aq [55] (cU g.x (by omega) (by omega)) ?_;rintro _ _ ⟨Xd,Vg,rfl,rfl⟩;refine aq [] (cr Xd Vg) ?_;rintro _ _ ⟨V_,UR,VY,U5,rfl,rfl⟩;refine aq [] (bU A1.n A1.a A1.m A1.b V_ UR VY U5) ?_;rintro _ _ ⟨Gy,E_,Gl,Fl,rfl,rfl⟩;refine aq [] (cU g.y (by omega) (by omega)) ?_;rintro _ _ ⟨Xh,Vk,rfl,rfl⟩;refine aq [] (cr Xh Vk) ?_;rintro _ _ ⟨Wd,UW,V5,U9,rfl,rfl⟩;refine aq [] (bU A1.n A1.a A1.m A1.b Wd UW V5 U9) ?_;rintro _ _ ⟨GC,Fe,Gq,Fq,rfl,rfl⟩
 refine aq [55] (cU g.x (by omega) (by omega)) ?_;rintro _ _ ⟨Xe,Vh,rfl,rfl⟩;refine aq [] (cr Xe Vh) ?_;rintro _ _ ⟨Wa,US,VZ,U6,rfl,rfl⟩;refine aq [] (bU A2.n A2.a A2.m A2.b Wa US VZ U6) ?_;rintro _ _ ⟨Gz,Fa,Gm,Fm,rfl,rfl⟩;refine aq [] (cU g.y (by omega) (by omega)) ?_;rintro _ _ ⟨Xi,Vl,rfl,rfl⟩;refine aq [] (cr Xi Vl) ?_;rintro _ _ ⟨We,UX,V6,U_,rfl,rfl⟩;refine aq [] (bU A2.n A2.a A2.m A2.b We UX V6 U_) ?_;rintro _ _ ⟨GD,Ff,Gr,Fs,rfl,rfl⟩;refine aq [55] (cU g.x (by omega) (by omega)) ?_;rintro _ _ ⟨Xf,Vi,rfl,rfl⟩;refine aq [] (cr Xf Vi) ?_;rintro _ _ ⟨Wb,UT,V2,U7,rfl,rfl⟩;refine aq [] (bU A3.n A3.a A3.m A3.b Wb UT V2 U7) ?_;rintro _ _ ⟨GA,Fb,Gn,Fo,rfl,rfl⟩;refine aq [] (cU g.y (by omega) (by omega)) ?_;rintro _ _ ⟨Xj,Vm,rfl,rfl⟩;refine aq [] (cr Xj Vm) ?_;rintro _ _ ⟨Wf,UY,V7,Va,rfl,rfl⟩;refine aq [] (bU A3.n A3.a A3.m A3.b Wf UY V7 Va) ?_;rintro _ _ ⟨GF,Fg,Gs,Ft,rfl,rfl⟩;refine aq [55] (cU g.x (by omega) (by omega)) ?_;rintro _ _ ⟨Xg,Vj,rfl,rfl⟩;refine aq [] (cr Xg Vj) ?_;rintro _ _ ⟨Wc,UU,V4,U8,rfl,rfl⟩;refine aq [] (bU A4.n A4.a A4.m A4.b Wc UU V4 U8) ?_;rintro _ _ ⟨GB,Fc,Gp,Fp,rfl,rfl⟩;refine aq [] (cU g.y (by omega) (by omega)) ?_
 rintro _ _ ⟨Xk,Vn,rfl,rfl⟩;refine aq [] (cr Xk Vn) ?_;rintro _ _ ⟨Wg,UZ,V8,Vb,rfl,rfl⟩;refine aq [] (bU A4.n A4.a A4.m A4.b Wg UZ V8 Vb) ?_;rintro _ _ ⟨GG,Fh,Gt,Fu,rfl,rfl⟩;refine W.revp 15 ([(⟨Gy,E_,Gl,Fl,x1*((g.x:Int):Rat)⟩:QE),(⟨Gz,Fa,Gm,Fm,x2*((g.x:Int):Rat)⟩:QE),(⟨GA,Fb,Gn,Fo,x3*((g.x:Int):Rat)⟩:QE),(⟨GB,Fc,Gp,Fp,x4*((g.x:Int):Rat)⟩:QE)].flatMap QR.cells) (fun Yl=>?_);refine W.revp 16 ([(⟨GC,Fe,Gq,Fq,x1*((g.y:Int):Rat)⟩:QE),(⟨GD,Ff,Gr,Fs,x2*((g.y:Int):Rat)⟩:QE),(⟨GF,Fg,Gs,Ft,x3*((g.y:Int):Rat)⟩:QE),(⟨GG,Fh,Gt,Fu,x4*((g.y:Int):Rat)⟩:QE)].flatMap QR.cells) (fun Ym=>?_);refine wv [55] 4 4 Yl 0 none none 0 4 aB (.inr ⟨rfl,rfl⟩) (.inr ⟨rfl,rfl⟩) (by decide) (by decide) (by decide) ?_;refine aq [] (ya u d v e Yl ⟨Gy,E_,Gl,Fl⟩ ⟨Gz,Fa,Gm,Fm⟩ ⟨GA,Fb,Gn,Fo⟩ ⟨GB,Fc,Gp,Fp⟩ (K:=52) h0.1 h0.2) ?_;rintro _ _ ⟨S0,rfl,rfl⟩;refine wv [] 4 4 Ym 0 none none 0 4 aB (.inr ⟨rfl,rfl⟩) (.inr ⟨rfl,rfl⟩) (by decide) (by decide) (by decide) ?_;refine aq [] (ya u d v e Ym ⟨GC,Fe,Gq,Fq⟩ ⟨GD,Ff,Gr,Fs⟩ ⟨GF,Fg,Gs,Ft⟩ ⟨GG,Fh,Gt,Fu⟩ (K:=52) h0.1 h0.2) ?_;rintro _ _ ⟨T0,rfl,rfl⟩;refine aq [] (pH X (S:=(⟨m,n,((p.x:Int):Rat),0,0,0⟩:Sn)) S0 (T:=⟨m,n,x1*((g.x:Int):Rat),x2*((g.x:Int):Rat),x3*((g.x:Int):Rat),x4*((g.x:Int):Rat)⟩) rfl rfl) ?_
 rintro _ _ ⟨X0,rfl,rfl⟩;refine aq [] (pH Y (S:=(⟨m,n,((p.y:Int):Rat),0,0,0⟩:Sn)) T0 (T:=⟨m,n,x1*((g.y:Int):Rat),x2*((g.y:Int):Rat),x3*((g.y:Int):Rat),x4*((g.y:Int):Rat)⟩) rfl rfl) ?_;rintro _ _ ⟨Y0,rfl,rfl⟩;refine bW [47] 18 B 0 2 2 .i64 1 1 rfl aB (by decide) ?_;refine ju [] B (0+1*18) (yb k B1 B2 B3 B4) aB rfl ?_;refine j2 [] 5 ?_;refine aq [55] (cU k.x (by omega) (by omega)) ?_;rintro _ _ ⟨acC,aa9,rfl,rfl⟩;refine aq [] (cr acC aa9) ?_;rintro _ _ ⟨acm,aaQ,acd,aaY,rfl,rfl⟩;refine aq [] (bU B1.n B1.a B1.m B1.b acm aaQ acd aaY) ?_;rintro _ _ ⟨T8,Ti,TY,Tq,rfl,rfl⟩;refine aq [] (cU k.y (by omega) (by omega)) ?_;rintro _ _ ⟨acG,abc,rfl,rfl⟩;refine aq [] (cr acG abc) ?_;rintro _ _ ⟨acq,aaU,ach,aa2,rfl,rfl⟩;refine aq [] (bU B1.n B1.a B1.m B1.b acq aaU ach aa2) ?_;rintro _ _ ⟨Ub,Tm,T4,Tu,rfl,rfl⟩;refine aq [55] (cU k.x (by omega) (by omega)) ?_;rintro _ _ ⟨acD,aa_,rfl,rfl⟩;refine aq [] (cr acD aa_) ?_;rintro _ _ ⟨acn,aaR,ace,aaZ,rfl,rfl⟩;refine aq [] (bU B2.n B2.a B2.m B2.b acn aaR ace aaZ) ?_;rintro _ _ ⟨T9,Tj,TZ,Tr,rfl,rfl⟩;refine aq [] (cU k.y (by omega) (by omega)) ?_;rintro _ _ ⟨acH,abd,rfl,rfl⟩;refine aq [] (cr acH abd) ?_;rintro _ _ ⟨acr,aaV,aci,aa3,rfl,rfl⟩;refine aq [] (bU B2.n B2.a B2.m B2.b acr aaV aci aa3) ?_
 rintro _ _ ⟨Uc,Tn,T5,Tv,rfl,rfl⟩;refine aq [55] (cU k.x (by omega) (by omega)) ?_;rintro _ _ ⟨acE,aba,rfl,rfl⟩;refine aq [] (cr acE aba) ?_;rintro _ _ ⟨aco,aaS,acf,aa0,rfl,rfl⟩;refine aq [] (bU B3.n B3.a B3.m B3.b aco aaS acf aa0) ?_;rintro _ _ ⟨T_,Tk,T2,Ts,rfl,rfl⟩;refine aq [] (cU k.y (by omega) (by omega)) ?_;rintro _ _ ⟨acI,abe,rfl,rfl⟩;refine aq [] (cr acI abe) ?_;rintro _ _ ⟨acs,aaW,acj,aa4,rfl,rfl⟩;refine aq [] (bU B3.n B3.a B3.m B3.b acs aaW acj aa4) ?_;rintro _ _ ⟨Ud,To,T6,Tx,rfl,rfl⟩;refine aq [55] (cU k.x (by omega) (by omega)) ?_;rintro _ _ ⟨acF,abb,rfl,rfl⟩;refine aq [] (cr acF abb) ?_;rintro _ _ ⟨acp,aaT,acg,aa1,rfl,rfl⟩;refine aq [] (bU B4.n B4.a B4.m B4.b acp aaT acg aa1) ?_;rintro _ _ ⟨Ua,Tl,T3,Tt,rfl,rfl⟩;refine aq [] (cU k.y (by omega) (by omega)) ?_;rintro _ _ ⟨acJ,abf,rfl,rfl⟩;refine aq [] (cr acJ abf) ?_;rintro _ _ ⟨acu,aaX,ack,aa5,rfl,rfl⟩;refine aq [] (bU B4.n B4.a B4.m B4.b acu aaX ack aa5) ?_;rintro _ _ ⟨Ue,Tp,T7,Tz,rfl,rfl⟩;refine W.revp 15 ([(⟨T8,Ti,TY,Tq,y1*((k.x:Int):Rat)⟩:QE),(⟨T9,Tj,TZ,Tr,y2*((k.x:Int):Rat)⟩:QE),(⟨T_,Tk,T2,Ts,y3*((k.x:Int):Rat)⟩:QE),(⟨Ua,Tl,T3,Tt,y4*((k.x:Int):Rat)⟩:QE)].flatMap QR.cells) (fun bu1=>?_);refine W.revp 16 ([(⟨Ub,Tm,T4,Tu,y1*((k.y:Int):Rat)⟩:QE),(⟨Uc,Tn,T5,Tv,y2*((k.y:Int):Rat)⟩:QE),(⟨Ud,To,T6,Tx,y3*((k.y:Int):Rat)⟩:QE),(⟨Ue,Tp,T7,Tz,y4*((k.y:Int):Rat)⟩:QE)].flatMap QR.cells) (fun bv1=>?_)
 refine wv [55] 4 4 bu1 0 none none 0 4 aB (.inr ⟨rfl,rfl⟩) (.inr ⟨rfl,rfl⟩) (by decide) (by decide) (by decide) ?_;refine aq [] (ya u d v e bu1 ⟨T8,Ti,TY,Tq⟩ ⟨T9,Tj,TZ,Tr⟩ ⟨T_,Tk,T2,Ts⟩ ⟨Ua,Tl,T3,Tt⟩ (K:=52) h0.1 h0.2) ?_;rintro _ _ ⟨S1,rfl,rfl⟩;refine wv [] 4 4 bv1 0 none none 0 4 aB (.inr ⟨rfl,rfl⟩) (.inr ⟨rfl,rfl⟩) (by decide) (by decide) (by decide) ?_;refine aq [] (ya u d v e bv1 ⟨Ub,Tm,T4,Tu⟩ ⟨Uc,Tn,T5,Tv⟩ ⟨Ud,To,T6,Tx⟩ ⟨Ue,Tp,T7,Tz⟩ (K:=52) h0.1 h0.2) ?_;rintro _ _ ⟨T1,rfl,rfl⟩;refine aq [] (pH X0 (S:=(Sn.add (⟨m,n,((p.x:Int):Rat),0,0,0⟩:Sn) ⟨m,n,x1*((g.x:Int):Rat),x2*((g.x:Int):Rat),x3*((g.x:Int):Rat),x4*((g.x:Int):Rat)⟩)) S1 (T:=⟨m,n,y1*((k.x:Int):Rat),y2*((k.x:Int):Rat),y3*((k.x:Int):Rat),y4*((k.x:Int):Rat)⟩) rfl rfl) ?_;rintro _ _ ⟨X1,rfl,rfl⟩;refine aq [] (pH Y0 (S:=(Sn.add (⟨m,n,((p.y:Int):Rat),0,0,0⟩:Sn) ⟨m,n,x1*((g.y:Int):Rat),x2*((g.y:Int):Rat),x3*((g.y:Int):Rat),x4*((g.y:Int):Rat)⟩)) T1 (T:=⟨m,n,y1*((k.y:Int):Rat),y2*((k.y:Int):Rat),y3*((k.y:Int):Rat),y4*((k.y:Int):Rat)⟩) rfl rfl) ?_;rintro _ _ ⟨Y1,rfl,rfl⟩;exact W.r [47] (Bn X1 Y1) ⟨X1,Y1,rfl,rfl⟩ (mh (Δ:=[_]) (Δ':=[_]) (qg (by omega) rfl) (qg (by omega) rfl))
end
def aaz(F G:aD):aD where
 p I w:=F.p I w∧G.p I w
 up h h1 h2 h3:=⟨F.up h.1 h1 h2 h3,G.up h.2 h1 h2 h3⟩
abbrev jg(x:Sw):List Value:=[.slice x.u.ao x.u.n x.u.c,.bool x.d,.slice x.v.ao x.v.n x.v.c,.bool x.e,
 .slice x.p.n.ao x.p.n.n x.p.n.c,.bool x.p.a,.slice x.p.m.ao x.p.m.n x.p.m.c,.bool x.p.b,.slice x.q.n.ao x.q.n.n x.q.n.c,.bool x.q.a,.slice x.q.m.ao x.q.m.n x.q.m.c,.bool x.q.b,
 .slice x.r.n.ao x.r.n.n x.r.n.c,.bool x.r.a,.slice x.r.m.ao x.r.m.n x.r.m.c,.bool x.r.b,.slice x.s.n.ao x.s.n.n x.s.n.c,.bool x.s.a,.slice x.s.m.ao x.s.m.n x.s.m.c,.bool x.s.b]
structure jF where
 x:Sw
 y:Sw
 X:Sn
 Y:Sn
def gi:kG jF where
 z:=40
 cells e:=jg e.x++jg e.y
 len _:=rfl
 fact L e:=aaz (SF e.x (L,e.X)) (SF e.y (L,e.Y))
def jF.num(e:jF):Sn×Sn:=(e.X,e.Y)
theorem pK(e:jF):∀u∈gi.cells e,u.oneCell'=true:=by
 intro u hu;simp only[gi,dI,aF,aE,bL]at hu;rcases hu with hu|hu<;>(rcases hu with rfl|rfl|rfl|rfl|rfl|rfl|rfl|rfl|rfl|rfl|rfl|rfl|rfl|rfl|rfl|rfl|rfl|rfl|rfl|rfl<;>rfl)
def UJ(l0:List (Sn×Sn))(v:Value)(Δ:List aD):Prop:=∃(ao:Option Addr) (c:Nat) (l:List jF),v=.slice ao l.length c∧l.length≤c∧l.map jF.num=l0∧Δ=[OL gi ao (130,l)]
theorem v_(d:Dp):0≤kE d:=by
 unfold kE;have h1:0≤d.x*d.x:=by rcases Int.le_total 0 d.x with h|h;exact eT h h;exact jJ h h
 have h2:0≤d.y*d.y:=by rcases Int.le_total 0 d.y with h|h;exact eT h h;exact jJ h h
 omega
theorem Hd(d:Dp):kE (eS d)=kE d:=by
 unfold kE eS;simp only[s8];omega
theorem Dl(d:Dp):kE (iG d)=kE d:=by
 unfold kE iG;simp only[s8];omega
theorem iu.left{B:Int}{d:Dp}(h:iu B d):iu B (eS d):=by unfold iu eS at*;simp only;omega
theorem iu.right{B:Int}{d:Dp}(h:iu B d):iu B (iG d):=by unfold iu iG at*;simp only;omega
theorem iu.neg{B:Int}{d:Dp}(h:iu B d):iu B (jk d):=by unfold iu jk at*;simp only;omega
section
variable{T:Tb}{P:Program}{fin:VS→List aD→Prop}{c:fG}{Γ:List aD}
theorem MK(D:List Nat)(own:List (Nat×List Value))(z bytes n m:Nat)(ao:Option Addr)(x:Value)(xs news:List Value)(hT:T.Ok P)
   [hrp:aW (RA ao) xs Γ](Ou:xs.length=n*z)(hn0:0<n)(hm:0<m)(hx:p5 T Γ own x m z news)
  (hn:n+m≤1000000)(hb:bytes≤100000000)
  (hk:∀g cap cur,n+m≤cap→cap≤maxLen→cur.length=cap*z→cur.take ((n+m)*z)=xs++news→W T P fin (mz (aL T (bh T D 999 c)) ((g,cur)::own) (.slice (some ⟨g,0,none⟩) (n+m) cap)) Γ)(h:oK T (aL T (bh T D 999 c))=some (own,z,bytes,.slice ao n n,x):=by kernel_rfl):W T P fin c Γ:=by
 refine eD D 999 ?_;generalize bh T D 999 c=c1 at*;unfold oK at h;split at h
 ·rename_i o c' he;rw[he]at hk;split at h
  ·rename_i cl hop;split at h
   ·rename_i sx xx t1 t2 hcal hargs htys;split at h
    ·rename_i a b y1 ha hbv hy;cases hc:(Nat.beq t1 t2&&(Nat.beq y1.kind 3&&(!Nat.beq y1.esize 0&&(Nat.beq y1.ezero.length y1.esize&& !T.dat y1.elem))))with
     |false=>simp[hc]at h
     |true=>
      simp only[hc,bV,ar,aH]at h;obtain⟨hown,rfl,rfl,rfl,rfl⟩:=h;simp only[aM,cD]at hc;obtain⟨c1',c2,c3,c4,c5⟩:=hc;have Om:=aI c1';subst Om;have hne:y1.esize≠0:=by
       intro e0;rw[e0]at c3;simp at c3
      obtain⟨ie,zz,hd,hie,EP,hsz,FM,QW,hze⟩:=mX hT hy (aI c2) hne (aI c4);have hcargs:cl.args= #[sx,xx]:=by rw[←fx];exact hargs
      have hctys:cl.argTypes= #[t1,t1]:=by rw[←fx];exact htys
      obtain⟨ax,cc,rfl,hnl,hrd⟩:=hx;have hnb:(n+m)*y1.ebytes≤140737488355328:=by
       have:=aY hn hb;omega
      have ab7:xs≠ []:=by
       rintro rfl;have:0<n*y1.esize:=hY hn0 (by omega);simp at Ou;omega
      refine W.own (fun v' iN Δ=>∃g cap cur,n+m≤cap∧cap≤maxLen∧cur.length=cap*y1.esize∧cur.take ((n+m)*y1.esize)=xs++news∧v'=.slice (some ⟨g,0,none⟩) (n+m) cap∧iN=(g,cur)::own∧Δ=[]) he (fun I w hdo hh hoa hnod hno=>?_) ?_
      ·rw[hown]at hoa hnod;have hexec:∀v' w',(Builtin.append_ #[t1,t1] o.type #[.slice ao n n,.slice ax m cc]).run P w=.ok v' w'→(execOp c'.s.rho o).run P w=.ok (.value v') w':=by
        intro v' w' hr;simp[execOp,hop,resolve,invoke,builtin,hcal,hcargs,hctys,cC ha,cC hbv,hr]
       obtain⟨ad,rfl,hrd2⟩:=hrd hm;have wP:=hrd2 I w hdo hh hoa;obtain⟨b0,B6,rfl,h2,h3⟩:=hrp.p hh ab7;obtain⟨v',w',hrun,hw,wO⟩:=run_append_arg_grows (P:=P) w t1 o.type y1.elem ie zz y1.esize y1.ebytes hd hie EP hsz FM QW (by omega) ⟨b0,B6,none⟩ n n xs Ou (fun j u hj=>by
        rw[gP];exact h3 j u hj) ad m cc news hnl wP (by omega) (by unfold maxLen;omega) hnb
       obtain⟨_,hw⟩:=hw;rcases hw with⟨_,h0⟩|⟨g,cap,cur,rfl,hge,YU,hnc,hcm,hcs,htk⟩
       ·omega
       ·have FV:∀b cs,(b,cs)∈own→b<w.heap.size:=fun b cs hb=>by
         obtain⟨_,_,hc⟩:=hoa b cs hb;exact cu hc
        refine⟨_,(g,cur.toList)::own,[],w',_,hexec _ _ hrun,.inl rfl,⟨g,cap,cur.toList,hnc,hcm,by simpa using hcs,by simpa using htk,rfl,rfl,rfl⟩,fun q _ Hp=>⟨wO.os,wO.tape,wO.output,wO.size,fun k hk=>wO.block k (by omega) (by simp)⟩,wO.size,fun k hk _=>wO.block k hk (by simp),fun b cs hb=>?_,fun b cs hb=>?_,?_,aG.nil _ _⟩
        ·rcases List.mem_cons.1 hb with hb|hb
         ·injection hb with h1' h2';subst h1' h2';exact⟨y1.elem,by simpa using c5,by simpa using YU⟩
         ·obtain⟨e,he',hc⟩:=hoa b cs hb;exact⟨e,he',by rw[wO.block b (FV b cs hb) (by simp)];exact hc⟩
        ·rcases List.mem_cons.1 hb with hb|hb
         ·injection hb with h1' h2';subst h1';exact .inr hge
         ·exact .inl ⟨cs,by rw[hown];exact hb⟩
        ·rw[bY,ko];refine⟨fun lU=>?_,hnod⟩;obtain⟨⟨b,cs⟩,h1,h2⟩:=List.mem_map.1 lU;have:=FV b cs h1;simp only at h2;omega
      ·rintro v' iN Δ ⟨g,cap,cur,h1,h2,h3,h4,rfl,rfl,rfl⟩;exact hk g cap cur h1 h2 h3 h4
    ·simp at h
   ·simp at h
  ·simp at h
 ·simp at h
end
section
variable{Γ:List aD}{L M:Nat}
theorem Uh(u:Sl)(d:Bool)(v:Sl)(e:Bool)(B:Nat)(Q:Qw){x y:Int}{k:Rat}{K:Nat} [aW (ZF u d) (L,x) Γ] [aW (ZF v e) (M,y) Γ] [aW (ek B) [.slice Q.n.ao Q.n.n Q.n.c,.bool Q.a,.slice Q.m.ao Q.m.n Q.m.c,.bool Q.b] Γ] [aW (QG Q) (K,k) Γ](hL:L≤9∧M≤9∧K≤31:=by omega):
  aw tb Tryz.prog 242 [zv u d,zv v e,.pointer (some ⟨B,0,none⟩)] Γ (fun w Δ=>∃a b:Qw,w=.agg #[.slice none 0 0,.bool false,.slice none 0 0,.bool false,.slice a.n.ao a.n.n a.n.c,.bool a.a,.slice a.m.ao a.m.n a.m.c,.bool a.b,.slice b.n.ao b.n.n b.n.c,.bool b.a,.slice b.m.ao b.m.n b.m.c,.bool b.b,.slice none 0 0,.bool false,.slice none 0 0,.bool false]∧Δ=[QG a (45,k*(x:Rat)),QG b (45,k*(y:Rat))]):=by
 refine aw.of_W aB Tryz.func242 rfl ?_;refine ju [] B 0 [.slice Q.n.ao Q.n.n Q.n.c,.bool Q.a,.slice Q.m.ao Q.m.n Q.m.c,.bool Q.b] aB rfl ?_;refine ju [] B 0 [.slice Q.n.ao Q.n.n Q.n.c,.bool Q.a,.slice Q.m.ao Q.m.n Q.m.c,.bool Q.b] aB rfl ?_;refine aq [] (cr u d) ?_;rintro _ _ ⟨n3,a3,m3,b3,rfl,rfl⟩;refine aq [] (bU Q.n Q.a Q.m Q.b n3 a3 m3 b3) ?_;rintro _ _ ⟨n4,a4,m4,b4,rfl,rfl⟩;refine aq [] (cr v e) ?_;rintro _ _ ⟨n5,a5,m5,b5,rfl,rfl⟩;refine aq [] (bU Q.n Q.a Q.m Q.b n5 a5 m5 b5) ?_;rintro _ _ ⟨n6,a6,m6,b6,rfl,rfl⟩;exact W.r [] (.agg #[.slice none 0 0,.bool false,.slice none 0 0,.bool false,.slice n4.ao n4.n n4.c,.bool a4,.slice m4.ao m4.n m4.c,.bool b4,.slice n6.ao n6.n n6.c,.bool a6,.slice m6.ao m6.n m6.c,.bool b6,.slice none 0 0,.bool false,.slice none 0 0,.bool false]) ⟨⟨n4,a4,m4,b4⟩,⟨n6,a6,m6,b6⟩,rfl,rfl⟩ (mh (Δ:=[_]) (Δ':=[_]) (kg (by omega) rfl) (kg (by omega) rfl))
theorem uN(p d e:Dp)(hq:Qw){h:Rat} [aW (QG hq) (L,h) Γ](hp:iu 2147483648 p)(hd:iu 4294967296 d)(he:iu 4294967296 e)(hx:qG (eS d) e≠0)(hL:L≤5:=by omega):
  aw tb Tryz.prog 190 [dv p,dv d,dv e,qv hq.n hq.a hq.m hq.b] Γ (vJ 130 (gf p d e h).1 (gf p d e h).2):=by
 refine aw.of_W aB Tryz.func190 rfl ?_;refine aq [] (C4 d hd) ?_;rintro _ _ ⟨u1,d1,rfl,rfl⟩;refine aq [] (C4 e he) ?_;rintro _ _ ⟨u2,d2,rfl,rfl⟩;refine aq [] (IN d e hd he) ?_;rintro _ _ ⟨u3,d3,rfl,rfl⟩;refine aq [] (xd d hd) ?_;rintro _ _ ⟨rfl,rfl⟩;refine aq [] (IN (eS d) e hd.left he) ?_;rintro _ _ ⟨u5,d5,rfl,rfl⟩;refine aq [] (mw u5 d5 u5 d5) ?_;rintro _ _ ⟨u6,d6,rfl,rfl⟩;refine aq [] (cr u6 d6) ?_;rintro _ _ ⟨n7,a7,m7,b7,rfl,rfl⟩;refine aq [] (rZ hq.n hq.a hq.m hq.b n7 a7 m7 b7 ?_) ?_
 ·intro e0;rw[show(0:Rat)=((0:Int):Rat)from rfl,Rat.intCast_inj]at e0;exact(kn hx hx) e0
 rintro _ _ ⟨n8,a8,m8,b8,rfl,rfl⟩;refine W.revp 13 [.slice n8.ao n8.n n8.c,.bool a8,.slice m8.ao m8.n m8.c,.bool b8] (fun B=>?_);refine aq [] (xd d hd) ?_;rintro _ _ ⟨rfl,rfl⟩;refine aq [] (r_ u3 d3) ?_;rintro _ _ ⟨u10,d10,rfl,rfl⟩;refine aq [] (Uh u2 d2 u10 d10 B ⟨n8,a8,m8,b8⟩) ?_;rintro _ _ ⟨qa,qb,rfl,rfl⟩;refine aq [] (xd e he) ?_;rintro _ _ ⟨rfl,rfl⟩;refine aq [] (r_ u3 d3) ?_;rintro _ _ ⟨u13,d13,rfl,rfl⟩;refine aq [] (Uh u13 d13 u1 d1 B ⟨n8,a8,m8,b8⟩) ?_;rintro _ _ ⟨qc,qd,rfl,rfl⟩;refine cH [] 2 (yb (eS d) b_ qa qb b_++yb (eS e) b_ qc qd b_) aB (fun B2=>?_);refine gT [] (ln (L':=0)) (pE p u1 d1 u2 d2 B2 (eS d) (eS e) b_ qa qb b_ b_ qc qd b_ hp hd.left he.left ⟨v_ d,v_ e⟩) ?_;rintro _ _ ⟨X,Y,rfl,rfl⟩;exact W.r [] (Bn X Y) ⟨X,Y,rfl,rfl⟩ (mh (Δ:=[_]) (Δ':=[_]) (qg (by omega) rfl) (qg (by omega) rfl))
end
section
variable{T:Tb}{P:Program}{fin:VS→List aD→Prop}{c:fG}{Γ:List aD}
theorem l_{z n:Nat}{O:List (Nat×List Value)}{v:Value}{xs:List Value}(ho:(dN T 999 c).s.own=O)(hg:cF z O v n xs)
  (hk:∀ao c',v=.slice ao n c'→n≤c'→W T P fin ⟨⟨(dN T 999 c).s.tmps,(dN T 999 c).s.boxes,[],(dN T 999 c).s.maps⟩,(dN T 999 c).k⟩ (RA ao xs::Γ))(hm:dD (dN T 999 c).k=false:=by kernel_rfl):W T P fin c Γ:=by
 refine W.code 999 ?_;obtain⟨hl,hg'⟩:=hg;refine UP (s:=(dN T 999 c).s) (k:=(dN T 999 c).k) ho ⟨hl,hg'⟩ hm (fun ao c' hv=>hk ao c' hv ?_);rcases hg' with⟨rfl,rfl,rfl⟩|⟨g,cap,cur,rfl,rfl,hnc,_⟩
 ·omega
 ·injection hv with _ _ h3;omega
theorem Qq{cur ys:List Value}{n:Nat}(h:cur.take n=ys):∀(i:Nat) (v:Value),ys[i]? =some v→cur[i]? =some v:=fun i v hv=>by
 rw[←h,dF]at hv;split at hv
 ·exact hv
 ·simp at hv
end
section
variable{Γ:List aD}{L M:Nat}
theorem Vp{g:Nat}{cur:List Value}{l:List jF} [h:aW (ek g) cur Γ](hc:∀(i:Nat) (v:Value),(l.flatMap gi.cells)[i]? =some v→cur[i]? =some v)
  (hf:∀(I:fQ) (w:World),br tb I w→aG Γ I w→∀e∈l,(gi.fact 130 e).p I w):∀(I:fQ) (w:World),br tb I w→aG Γ I w→aG [OL gi (some ⟨g,0,none⟩) (130,l)] I w:=fun I w hd hh=>
 aG.cons ⟨hf I w hd hh,RA.of_row (h.p hh) hc⟩ (aG.nil _ _)
theorem zw{ao:Option Addr}{xs:List Value}{l:List jF} [h:aW (RA ao) xs Γ]
  (hf:∀(I:fQ) (w:World),br tb I w→aG Γ I w→∀e∈l,(gi.fact 130 e).p I w)(hx:xs=l.flatMap gi.cells:=by rfl):∀(I:fQ) (w:World),br tb I w→aG Γ I w→aG [OL gi ao (130,l)] I w:=fun I w hd hh=>by
 subst hx;exact aG.cons ⟨hf I w hd hh,h.p hh⟩ (aG.nil _ _)
theorem Kh(d:Dp)(x y:Int)(hx:x=d.x)(hy:y=d.y)(n:Sl)(a:Bool)(m:Sl)(b:Bool){q:Rat} [aW (QF n a m b) (L,q) Γ](hd:iu 4294967296 d)(h0:kE d≠0)(hL:L≤1000:=by omega):
  aw tb Tryz.prog 239 [.agg #[.int .i64 x,.int .i64 y],qv n a m b] Γ (fun v Δ=>∃Q:Qw,v=.agg (yb ⟨x,y⟩ b_ Q b_ b_).toArray∧Δ=[QG Q (L+14,(jI d q).b)]):=by
 subst hx hy;exact tU d n a m b hd h0
theorem PD(d:Dp)(x y:Int)(hx:x=d.x)(hy:y=d.y)(n:Sl)(a:Bool)(m:Sl)(b:Bool){q:Rat} [aW (QF n a m b) (L,q) Γ](hd:iu 4294967296 d)(h0:kE d≠0)(hL:L≤1000:=by omega):
  aw tb Tryz.prog 240 [.agg #[.int .i64 x,.int .i64 y],qv n a m b] Γ (fun v Δ=>∃Q:Qw,v=.agg (yb ⟨x,y⟩ b_ b_ b_ Q).toArray∧Δ=[QG Q (L+16,(lM d q).e)]):=by
 subst hx hy;exact zE d n a m b hd h0
theorem WK(p d:Dp)(hq bq:Qw){h b:Rat}{L1:Nat} [aW (QG hq) (L,h) Γ] [aW (QG bq) (L1,b) Γ](hp:iu 2147483648 p)(hd:iu 4294967296 d)(h0:kE d≠0)(hL:L≤5∧L1≤5:=by omega):
  aw tb Tryz.prog 189 [dv p,dv d,qv hq.n hq.a hq.m hq.b,qv bq.n bq.a bq.m bq.b,.bool false] Γ (UJ (mC p d h b false)):=by
 have h0l:kE (eS d)≠0:=by rw[Hd];exact h0
 have h0r:kE (iG d)≠0:=by rw[Dl];exact h0
 have hz:0≤kE d∧(0:Int)≤2:=⟨v_ d,by decide⟩;have hwr:IntKind.i64.wrap (0-d.x)= -d.x:=by unfold iu at hd;rw[af];omega
 have Ol:(⟨d.y,IntKind.i64.wrap (0-d.x)⟩:Dp)=iG d:=by rw[hwr];rfl
 have XF:iu 4294967296 ⟨d.y,IntKind.i64.wrap (0-d.x)⟩:=by rw[Ol];exact hd.right
 refine aw.of_W aB Tryz.func189 rfl ?_;refine aq [] (C4 d hd) ?_;rintro _ _ ⟨u1,d1,rfl,rfl⟩;refine aq [] (cU 2 (by omega) (by omega)) ?_;rintro _ _ ⟨u2,d2,rfl,rfl⟩;refine aq [] (xd d hd) ?_;rintro _ _ ⟨rfl,rfl⟩;refine aq [] (tU d bq.n bq.a bq.m bq.b hd h0) ?_;rintro _ _ ⟨Q1,rfl,rfl⟩;refine aq [] (tU (eS d) hq.n hq.a hq.m hq.b hd.left h0l) ?_;rintro _ _ ⟨Q2,rfl,rfl⟩;refine cH [] 2 (yb d b_ Q1 b_ b_++yb (eS d) b_ Q2 b_ b_) aB (fun B1=>?_);refine gT [] (ln (L':=0)) (pE p u1 d1 u2 d2 B1 d (eS d) b_ Q1 b_ b_ b_ Q2 b_ b_ hp hd hd.left hz) ?_;rintro _ _ ⟨X1,Y1,rfl,rfl⟩;refine cH [] 1 (jg X1++jg Y1) aB (fun C1=>?_);refine W.code 999 ?_;refine W.more (by kernel_rfl) (TH (b:=C1) (xs:=(jg X1++jg Y1)) (fun _ _ h=>h)) ?_;refine aq [39] (tU d bq.n bq.a bq.m bq.b hd h0) ?_;rintro _ _ ⟨Q3,rfl,rfl⟩;refine aq [] (Kh (iG d) d.y (IntKind.i64.wrap (0-d.x)) rfl hwr hq.n hq.a hq.m hq.b hd.right h0r) ?_;rintro _ _ ⟨Q4,rfl,rfl⟩;refine cH [] 2 (yb d b_ Q3 b_ b_++yb ⟨d.y,IntKind.i64.wrap (0-d.x)⟩ b_ Q4 b_ b_) aB (fun B5=>?_);refine gT [] (ln (L':=0)) (pE p u1 d1 u2 d2 B5 d ⟨d.y,IntKind.i64.wrap (0-d.x)⟩ b_ Q3 b_ b_ b_ Q4 b_ b_ hp hd XF hz) ?_;rintro _ _ ⟨X5,Y5,rfl,rfl⟩;refine cH [] 1 (jg X5++jg Y5) aB (fun C5=>?_);refine MK [] [] 40 640 1 1 (some ⟨C1,0,none⟩) (.slice (some ⟨C5,0,none⟩) 1 1) (jg X1++jg Y1) (jg X5++jg Y5) aB rfl (by decide) (by decide) (bX C5 [] 1 40 rfl 1) (by decide) (by decide) (fun g cap cur h1 h2 h3 h4=>?_)
 refine DE [] [] g cur ?_;refine W.r [] (.slice (some ⟨g,0,none⟩) (1+1) cap) ⟨some ⟨g,0,none⟩,cap,[⟨X1,Y1,(al (kE d) 2 p [jI d b,jI (eS d) h]).1,(al (kE d) 2 p [jI d b,jI (eS d) h]).2⟩,⟨X5,Y5,(al (kE d) 2 p [jI d b,⟨⟨d.y,IntKind.i64.wrap (0-d.x)⟩,0,(jI (iG d) h).b,0,0⟩]).1,(al (kE d) 2 p [jI d b,⟨⟨d.y,IntKind.i64.wrap (0-d.x)⟩,0,(jI (iG d) h).b,0,0⟩]).2⟩],rfl,h1,by rw[Ol];rfl,rfl⟩ (Vp (g:=g) (Qq h4) (fun I w hd hh e he=>?_));simp only[aF,aE,bL]at he;rcases he with rfl|rfl
 ·exact⟨aW.p (k:=SF X1) (a:=(130,_)) inferInstance hh,aW.p (k:=SF Y1) (a:=(130,_)) inferInstance hh⟩
 ·exact⟨aW.p (k:=SF X5) (a:=(130,_)) inferInstance hh,aW.p (k:=SF Y5) (a:=(130,_)) inferInstance hh⟩
theorem WL(p d:Dp)(hq bq:Qw){h b:Rat}{L1:Nat} [aW (QG hq) (L,h) Γ] [aW (QG bq) (L1,b) Γ](hp:iu 2147483648 p)(hd:iu 4294967296 d)(h0:kE d≠0)(hL:L≤5∧L1≤5:=by omega):
  aw tb Tryz.prog 189 [dv p,dv d,qv hq.n hq.a hq.m hq.b,qv bq.n bq.a bq.m bq.b,.bool true] Γ (UJ (mC p d h b true)):=by
 have h0l:kE (eS d)≠0:=by rw[Hd];exact h0
 have h0r:kE (iG d)≠0:=by rw[Dl];exact h0
 have hz:0≤kE d∧(0:Int)≤2:=⟨v_ d,by decide⟩;have hwr:IntKind.i64.wrap (0-d.x)= -d.x:=by unfold iu at hd;rw[af];omega
 have Ol:(⟨d.y,IntKind.i64.wrap (0-d.x)⟩:Dp)=iG d:=by rw[hwr];rfl
 have XF:iu 4294967296 ⟨d.y,IntKind.i64.wrap (0-d.x)⟩:=by rw[Ol];exact hd.right
 refine aw.of_W aB Tryz.func189 rfl ?_;refine aq [] (C4 d hd) ?_;rintro _ _ ⟨u1,d1,rfl,rfl⟩;refine aq [] (cU 2 (by omega) (by omega)) ?_;rintro _ _ ⟨u2,d2,rfl,rfl⟩;refine aq [] (xd d hd) ?_;rintro _ _ ⟨rfl,rfl⟩;refine aq [] (tU d bq.n bq.a bq.m bq.b hd h0) ?_;rintro _ _ ⟨Q1,rfl,rfl⟩;refine aq [] (tU (eS d) hq.n hq.a hq.m hq.b hd.left h0l) ?_;rintro _ _ ⟨Q2,rfl,rfl⟩;refine cH [] 2 (yb d b_ Q1 b_ b_++yb (eS d) b_ Q2 b_ b_) aB (fun B1=>?_);refine gT [] (ln (L':=0)) (pE p u1 d1 u2 d2 B1 d (eS d) b_ Q1 b_ b_ b_ Q2 b_ b_ hp hd hd.left hz) ?_;rintro _ _ ⟨X1,Y1,rfl,rfl⟩;refine cH [] 1 (jg X1++jg Y1) aB (fun C1=>?_);refine W.code 999 ?_;refine W.more (by kernel_rfl) (TH (b:=C1) (xs:=(jg X1++jg Y1)) (fun _ _ h=>h)) ?_;refine aq [39] (zE d hq.n hq.a hq.m hq.b hd h0) ?_;rintro _ _ ⟨Q3,rfl,rfl⟩;refine aq [] (zE (eS d) hq.n hq.a hq.m hq.b hd.left h0l) ?_;rintro _ _ ⟨Q4,rfl,rfl⟩;refine cH [] 2 (yb d b_ b_ b_ Q3++yb (eS d) b_ b_ b_ Q4) aB (fun B2=>?_);refine gT [] (ln (L':=0)) (pE p u1 d1 u2 d2 B2 d (eS d) b_ b_ b_ Q3 b_ b_ b_ Q4 hp hd hd.left hz) ?_;rintro _ _ ⟨X2,Y2,rfl,rfl⟩;refine aq [] (tU d hq.n hq.a hq.m hq.b hd h0) ?_;rintro _ _ ⟨Q5,rfl,rfl⟩;refine cH [] 1 (yb d b_ Q5 b_ b_) aB (fun B3=>?_);refine gT [] (ln (L':=0)) (Pe p u1 d1 u2 d2 B3 d b_ Q5 b_ b_ hp hd hz) ?_
 rintro _ _ ⟨X3,Y3,rfl,rfl⟩;refine aq [] (zE d hq.n hq.a hq.m hq.b hd h0) ?_;rintro _ _ ⟨Q6,rfl,rfl⟩;refine aq [] (PD (iG d) d.y (IntKind.i64.wrap (0-d.x)) rfl hwr hq.n hq.a hq.m hq.b hd.right h0r) ?_;rintro _ _ ⟨Q7,rfl,rfl⟩;refine cH [] 2 (yb d b_ b_ b_ Q6++yb ⟨d.y,IntKind.i64.wrap (0-d.x)⟩ b_ b_ b_ Q7) aB (fun B4=>?_);refine gT [] (ln (L':=0)) (pE p u1 d1 u2 d2 B4 d ⟨d.y,IntKind.i64.wrap (0-d.x)⟩ b_ b_ b_ Q6 b_ b_ b_ Q7 hp hd XF hz) ?_;rintro _ _ ⟨X4,Y4,rfl,rfl⟩;refine cH [] 3 ((jg X2++jg Y2)++(jg X3++jg Y3)++(jg X4++jg Y4)) aB (fun C2=>?_);refine MK [] [] 40 640 1 3 (some ⟨C1,0,none⟩) (.slice (some ⟨C2,0,none⟩) 3 3) (jg X1++jg Y1) ((jg X2++jg Y2)++(jg X3++jg Y3)++(jg X4++jg Y4)) aB rfl (by decide) (by decide) (bX C2 [] 3 40 rfl 3) (by decide) (by decide) (fun g cap cur h1 h2 h3 h4=>?_);refine aq [] (tU d bq.n bq.a bq.m bq.b hd h0) ?_;rintro _ _ ⟨Q8,rfl,rfl⟩;refine aq [] (Kh (iG d) d.y (IntKind.i64.wrap (0-d.x)) rfl hwr hq.n hq.a hq.m hq.b hd.right h0r) ?_;rintro _ _ ⟨Q9,rfl,rfl⟩;refine cH [] 2 (yb d b_ Q8 b_ b_++yb ⟨d.y,IntKind.i64.wrap (0-d.x)⟩ b_ Q9 b_ b_) aB (fun B5=>?_);refine gT [] (ln (L':=0)) (pE p u1 d1 u2 d2 B5 d ⟨d.y,IntKind.i64.wrap (0-d.x)⟩ b_ Q8 b_ b_ b_ Q9 b_ b_ hp hd XF hz) ?_;rintro _ _ ⟨X5,Y5,rfl,rfl⟩;refine cH [] 1 (jg X5++jg Y5) aB (fun C5=>?_)
 refine W.app [] [(g,cur)] [] [(g,cur)] [] 40 640 (1+3) 1 (.slice (some ⟨g,0,none⟩) (1+3) cap) (.slice (some ⟨C5,0,none⟩) 1 1) ((jg X1++jg Y1)++((jg X2++jg Y2)++(jg X3++jg Y3)++(jg X4++jg Y4))) (jg X5++jg Y5) aB rfl ⟨rfl,.inr ⟨g,cap,cur,rfl,rfl,h1,h2,h3,h4⟩⟩ (bX C5 [(g,cur)] 1 40 rfl 1) (pK ⟨X5,Y5,⟨0,0,0,0,0,0⟩,⟨0,0,0,0,0,0⟩⟩) (by decide) (by decide) (fun v' O' hg=>?_);refine l_ (by simp only[az,ah];kernel_rfl) hg (fun ao c' hv hc'=>?_);subst hv;refine W.r [] (.slice ao (1+3+1) c') ⟨ao,c',[⟨X1,Y1,(al (kE d) 2 p [jI d b,jI (eS d) h]).1,(al (kE d) 2 p [jI d b,jI (eS d) h]).2⟩,⟨X2,Y2,(al (kE d) 2 p [lM d h,lM (eS d) h]).1,(al (kE d) 2 p [lM d h,lM (eS d) h]).2⟩,⟨X3,Y3,(al (kE d) 2 p [jI d h]).1,(al (kE d) 2 p [jI d h]).2⟩,⟨X4,Y4,(al (kE d) 2 p [lM d h,⟨⟨d.y,IntKind.i64.wrap (0-d.x)⟩,0,0,0,(lM (iG d) h).e⟩]).1,(al (kE d) 2 p [lM d h,⟨⟨d.y,IntKind.i64.wrap (0-d.x)⟩,0,0,0,(lM (iG d) h).e⟩]).2⟩,⟨X5,Y5,(al (kE d) 2 p [jI d b,⟨⟨d.y,IntKind.i64.wrap (0-d.x)⟩,0,(jI (iG d) h).b,0,0⟩]).1,(al (kE d) 2 p [jI d b,⟨⟨d.y,IntKind.i64.wrap (0-d.x)⟩,0,(jI (iG d) h).b,0,0⟩]).2⟩],rfl,hc',by rw[Ol];rfl,rfl⟩ (zw (fun I w hd hh e he=>?_));simp only[aF,aE,bL]at he;rcases he with rfl|rfl|rfl|rfl|rfl
 ·exact⟨aW.p (k:=SF X1) (a:=(130,_)) inferInstance hh,aW.p (k:=SF Y1) (a:=(130,_)) inferInstance hh⟩
 ·exact⟨aW.p (k:=SF X2) (a:=(130,_)) inferInstance hh,aW.p (k:=SF Y2) (a:=(130,_)) inferInstance hh⟩
 ·exact⟨aW.p (k:=SF X3) (a:=(130,_)) inferInstance hh,aW.p (k:=SF Y3) (a:=(130,_)) inferInstance hh⟩
 ·exact⟨aW.p (k:=SF X4) (a:=(130,_)) inferInstance hh,aW.p (k:=SF Y4) (a:=(130,_)) inferInstance hh⟩
 ·exact⟨aW.p (k:=SF X5) (a:=(130,_)) inferInstance hh,aW.p (k:=SF Y5) (a:=(130,_)) inferInstance hh⟩
end
abbrev eg(d:Dp):List Value:=[.int .i64 d.x,.int .i64 d.y]
theorem qH(d:Dp):∀u∈eg d,u.oneCell'=true:=by
 intro u hu;simp only[aF,aE,bL]at hu;rcases hu with rfl|rfl<;>rfl
theorem o9:∀l:List Dp,(l.flatMap eg).length=l.length*2
 | []=>rfl
 |d::r=>by rw[bz,aA,o9 r];simp;omega
theorem Nx{l:List Dp}:∀{k:Nat} (h:k<l.length) {j:Nat} {v:Value},(eg (l[k]'h))[j]? =some v→(l.flatMap eg)[k*2+j]? =some v:=by
 induction l with
 |nil=>intro k h;simp at h
 |cons e r ih=>
  intro k h j v hv;have hj:j<2:=(List.getElem?_eq_some_iff.1 hv).1;cases k with
  |zero=>
   rw[bz,cW (by simp;omega),show 0*2+j=j by omega];exact hv
  |succ k=>
   rw[bz,dZ (by simp;omega),show(k+1)*2+j-(eg e).length=k*2+j by simp;omega];exact ih (by simpa using h) hv
theorem nk(l:List Dp)(d:Dp):(d::l).reverse.flatMap eg=l.reverse.flatMap eg++eg d:=by
 rw[List.reverse_cons,bp];simp
theorem zr{cur:List Value}{l:Dp}{r:List Dp}(h:cur.take ((r.length+1)*2)=(l::r).reverse.flatMap eg):(cur.drop (r.length*2)).take 2=eg l:=by
 have h1:(cur.take ((r.length+1)*2)).drop (r.length*2)=eg l:=by
  rw[h,nk,List.drop_append_of_le_length (by rw[o9];simp),bu (by rw[o9];simp)];rfl
 rw[List.drop_take,show(r.length+1)*2-r.length*2=2 by omega]at h1;exact h1
theorem Ny{cur:List Value}{l:Dp}{r:List Dp}(h:cur.take ((r.length+1)*2)=(l::r).reverse.flatMap eg):cur.take (r.length*2)=r.reverse.flatMap eg:=by
 have h1:(cur.take ((r.length+1)*2)).take (r.length*2)=cur.take (r.length*2):=by rw[List.take_take,fr (by omega)]
 rw[←h1,h,nk,List.take_append_of_le_length (by rw[o9];simp),aU (by rw[o9];simp)]
def Sd(P:Program)(t:TypeId):Bool:=(match P.underlying t with|some (.struct _)=>true|_=>false)&& !P.stoodInHeld t&&(match(P.fieldsOf t).toList with
 | [f,g]=>f.name != "_" &&g.name != "_" &&Nat.beq f.offset 0&&Nat.beq g.offset 1&&(match P.underlying f.type with|some (.int _)=>true|_=>false)&&(match P.underlying g.type with|some (.int _)=>true|_=>false)
 |_=>false)
theorem Dd{P:Program}(w:World)(t:TypeId)(h:Sd P t=true)(a b c d:Int):
  (Op.equal t (.agg #[.int .i64 a,.int .i64 b]) (.agg #[.int .i64 c,.int .i64 d])).run P w=.ok (a==c&&b==d) w:=by
 unfold Sd at h;simp only[aM]at h;obtain⟨⟨h1,h2⟩,h3⟩:=h;have ht:P.underlying t=some (.struct (P.fieldsOf t)):=by
  unfold Program.fieldsOf;cases hu:P.underlying t with
  |none=>rw[hu]at h1;simp at h1
  |some u=>
   rw[hu]at h1;cases u<;>simp at h1⊢
 have hp:P.stoodInHeld t=false:=by simpa using h2
 show(Op.equalIn (9999+1) t _ _).run P w=_;rw[run_equalIn_agg w 9999 t _ _ ht hp];split at h3
 ·rename_i f g hfg;rw[hfg];simp only[aM,bne_iff_ne,ne_eq]at h3;obtain⟨⟨⟨⟨⟨n1,n2⟩,o1⟩,o2⟩,u1⟩,u2⟩:=h3;have o1':=aI o1;have o2':=aI o2;obtain⟨k1,hk1⟩:∃k,P.underlying f.type=some (.int k):=by
   cases hu:P.underlying f.type with
   |none=>rw[hu]at u1;simp at u1
   |some u=>rw[hu]at u1;cases u<;>simp at u1⊢
  obtain⟨k2,hk2⟩:∃k,P.underlying g.type=some (.int k):=by
   cases hu:P.underlying g.type with
   |none=>rw[hu]at u2;simp at u2
   |some u=>rw[hu]at u2;cases u<;>simp at u2⊢
  have e1:=run_equalIn_int (P:=P) w 9998 f.type .i64 k1 a c hk1;have e2:=run_equalIn_int (P:=P) w 9998 g.type .i64 k2 b d hk2;have p1:∀(x y:Value),(part f.type #[x,y] 0).run P w=.ok x w:=fun x y=>by simp[part,kV hk1,E5]
  have p2:∀(x y:Value),(part g.type #[x,y] 1).run P w=.ok y w:=fun x y=>by simp[part,kV hk2,E5]
  simp only[Op.eqFields,n1,n2,ne_eq,not_false_eq_true,e8,o1',o2',cz,p1,p2,bB,e1,Sem.run_ite,dS,e2];cases(a==c)<;>cases(b==d)<;>rfl
 ·simp at h3
theorem M8(l p:Dp):(l.x==p.x&&l.y==p.y)=decide (l=p):=by
 by_cases h:l=p
 ·subst h;simp
 ·rw[aj h];rw[rq];by_cases hx:l.x=p.x
  ·right;simp only[ed];exact fun hy=>h (Dp.eq_iff.2 ⟨hx,hy⟩)
  ·left;simpa using hx
def P8(e:Ev):Option (TypeId×Value×Value):=
 match e with
 | .read o c=>match o.op with
  | .binOp .neq t x y _=>match c.s.ev x,c.s.ev y with
   | .val a,.val b=>some (t,a,b)
   |_,_=>none
  |_=>none
 |_=>none
theorem cF.own{z:Nat}{O:List (Nat×List Value)}{v:Value}{n:Nat}{xs:List Value}(h:cF z O v n xs)(hn:0<n):∃g cap cur,v=.slice (some ⟨g,0,none⟩) n cap∧O=[(g,cur)]∧n≤cap∧cap≤maxLen∧cur.length=cap*z∧cur.take (n*z)=xs:=by
 rcases h.2 with⟨_,h0,_⟩|h
 ·omega
 ·exact h
theorem cF.zero{z:Nat}{O:List (Nat×List Value)}{v:Value}{xs:List Value}(h:cF z O v 0 xs):∃ao c,v=.slice ao 0 c:=by
 rcases h.2 with⟨rfl,_,_⟩|⟨g,cap,cur,rfl,_⟩
 ·exact⟨none,0,rfl⟩
 ·exact⟨_,_,rfl⟩
theorem cF.cast{z:Nat}{O:List (Nat×List Value)}{v:Value}{n n':Nat}{xs Z6:List Value}(hx:xs=Z6)(hn:n=n')(h:cF z O v n xs):cF z O v n' Z6:=by
 subst hx hn;exact h
theorem Ao:∀(f_:List Dp) (s:List Dp×List Dp) {Q:Dp→Prop},(∀q∈s.1,q∈f_∨Q q)→∀q∈(f_.foldl push s).1,q∈f_∨Q q
 | [],s,Q,h,q,hq=>h q hq
 |p::r,s,Q,h,q,hq=>by
  have:=Ao r (push s p) (Q:=fun q=>q=p∨Q q) (fun q hq=>?_) q hq
  ·rcases this with h1|h1|h1
   ·exact .inl (cN _ h1)
   ·exact .inl (by rw[h1];exact oY)
   ·exact .inr h1
  ·have hin:q=p∨q∈s.1:=by
    obtain⟨R,w⟩:=s
    match R with
    | []=>simp only[push,aF,aE,bL]at hq;exact .inl hq
    |l::r'=>
     simp only[push]at hq;split at hq
     ·exact .inr hq
     ·split at hq
      ·rcases List.mem_cons.1 hq with h1|h1
       ·exact .inl h1
       ·exact .inr (cN _ h1)
      ·rcases List.mem_cons.1 hq with h1|h1
       ·exact .inl h1
       ·exact .inr h1
   rcases hin with h1|h1
   ·exact .inr (.inl h1)
   ·rcases h q h1 with h2|h2
    ·rcases List.mem_cons.1 h2 with h3|h3
     ·exact .inr (.inl h3)
     ·exact .inl h3
    ·exact .inr (.inr h2)
theorem An:∀(f_:List Dp) (s:List Dp×List Dp),(f_.foldl push s).1.length≤s.1.length+f_.length
 | [],s=>by simp
 |p::r,s=>by
  have h1:=An r (push s p);have h2:(push s p).1.length≤s.1.length+1:=by
   obtain⟨R,w⟩:=s
   match R with
   | []=>simp[push]
   |l::r'=>
    simp only[push];split
    ·simp
    ·split<;>simp
  simp only[oM,aC];omega
structure CSt where
 i:Nat
 z:Int
 vo:Value
 vw:Value
 Oo:List (Nat×List Value)
 Ow:List (Nat×List Value)
 R:List Dp
 W:List Dp
section
variable{T:Tb}{P:Program}{fin:VS→List aD→Prop}{c:fG}{Γ:List aD}
theorem EZ(D:List Nat)(t:TypeId)(l p:Dp)
  (hk:W T P fin (gg (aL T (bh T D 999 c)) (.bool (decide (l=p)))) Γ)(h:P5 (aL T (bh T D 999 c))=some (t,dv l,dv p):=by kernel_rfl)(hg:P.eqGuardType P.depth t=false:=by kernel_rfl)(ho:Sd P t=true:=by kernel_rfl):W T P fin c Γ:=by
 refine eD D 999 ?_;generalize bh T D 999 c=c1 at*;unfold P5 at h;split at h
 ·rename_i o c' he;rw[he]at hk;split at h
  ·rename_i ty u v yt hop;split at h
   ·rename_i a b ha hb;simp only[ar,aH]at h;obtain⟨rfl,rfl,rfl⟩:=h;refine W.read _ he (.any ?_) hk;intro w;have hr:=Dd w ty ho l.x l.y p.x p.y;rw[M8]at hr;simp[execOp,hop,cC ha,cC hb,eqGuard,binOp,hr,hg]
   ·simp at h
  ·simp at h
 ·simp at h
theorem MP(D:List Nat)(t:TypeId)(l p:Dp)
  (hk:W T P fin (gg (aL T (bh T D 999 c)) (.bool (!decide (l=p)))) Γ)(h:P8 (aL T (bh T D 999 c))=some (t,dv l,dv p):=by kernel_rfl)(hg:P.eqGuardType P.depth t=false:=by kernel_rfl)(ho:Sd P t=true:=by kernel_rfl):W T P fin c Γ:=by
 refine eD D 999 ?_;generalize bh T D 999 c=c1 at*;unfold P8 at h;split at h
 ·rename_i o c' he;rw[he]at hk;split at h
  ·rename_i ty u v yt hop;split at h
   ·rename_i a b ha hb;simp only[ar,aH]at h;obtain⟨rfl,rfl,rfl⟩:=h;refine W.read _ he (.any ?_) hk;intro w;have hr:=Dd w ty ho l.x l.y p.x p.y;rw[M8]at hr;simp[execOp,hop,cC ha,cC hb,eqGuard,binOp,hr,hg]
   ·simp at h
  ·simp at h
 ·simp at h
theorem Tg(D:List Nat)(z b r len cap:Nat)(y:Int)(hy:y=r)(hT:T.Ok P)(hrs:r≤cap)(h0:0<cap)
  (hk:W T P fin (gg (aL T (bh T D 999 c)) (.slice (some ⟨b,0,none⟩) r cap)) Γ)(h:zI T (aL T (bh T D 999 c))=some (z,.slice (some ⟨b,0,none⟩) len cap,none,some (.int .i64 y)):=by kernel_rfl):W T P fin c Γ:=by
 subst hy;refine Ch D z b 0 len cap none (some (.int .i64 (r:Int))) 0 r hT (h:=h) (.inr ⟨rfl,rfl⟩) (.inl rfl) (aJ _) hrs h0 ?_;rw[nC,Nat.sub_zero,Nat.sub_zero];exact hk
theorem eB(b off:Nat){xs:List Value} [h:aW (RA (some ⟨b,off,none⟩)) xs Γ](k:Nat){cs:List Value}(hv:∀(j:Nat) (v:Value),cs[j]? =some v→xs[k+j]? =some v):∀I w,br T I w→aG Γ I w→∀j v,cs[j]? =some v→w.cell? ⟨b,off+k+j,none⟩=some v:=fun I w _ hh j v hj=>by
 rw[gU];exact RA.cell (h.p hh) (hv j v hj)
theorem pd{ao:Option Addr}{xs:List Value} [h:aW (RA ao) xs Γ]:∀I w,br T I w→aG Γ I w→aG [RA ao xs] I w:=fun I w _ hh=>aG.cons (h.p hh) (aG.nil _ _)
theorem Jl{s:VS}{k:List It}{z n:Nat}{O1 O2:List (Nat×List Value)}{v:Value}{xs:List Value}(hs:s.own=O1++O2)(hg:cF z O1 v n xs)(hm:dD k=false)
  (hk:∀ao c,v=.slice ao n c→W T P fin ⟨⟨s.tmps,s.boxes,O2,s.maps⟩,k⟩ (RA ao xs::Γ)):W T P fin ⟨s,k⟩ Γ:=by
 obtain⟨hl,hg⟩:=hg;rcases hg with⟨rfl,rfl,rfl⟩|⟨g,cap,cur,rfl,rfl,hnc,hcm,hcs,htk⟩
 ·obtain rfl:xs=[]:=aN (by simpa using hl);obtain⟨tm,bx,ow⟩:=s;simp only[az]at hs;subst hs;exact W.elim (α:=Unit) (fun _=>True) (fun _=>[RA none []]) hm (fun I w _ hh=>⟨(),trivial,aS (RA.nil _ _ _)⟩) (fun _ _=>hk none 0 rfl)
 ·refine W.pub (O1:=[]) (O2:=O2) (b:=g) (cs:=cur) hm hs ?_;refine W.elim (α:=Unit) (fun _=>True) (fun _=>[RA (some ⟨g,0,none⟩) xs]) hm (fun I w _ hh=>⟨(),trivial,aS (RA.of_row hh.h0' fun i v hv=>?_)⟩) (fun _ _=>?_)
  ·rw[←htk,dF]at hv;split at hv
   ·exact hv
   ·simp at hv
  ·refine W.sub hm (fun I w _ hh=>?_) (hk _ _ rfl);exact aG.cons hh.h0' (fun F hF=>hh F (by simp[hF]))
end
section
variable{Γ:List aD}{L M:Nat}
theorem LU(ao:Option Addr)(n c:Nat)(f_:List Dp) [aW (RA ao) (f_.flatMap eg) Γ](hn:n=f_.length)(hn2:n≤8191)(hb:∀p∈f_,iu 2147483648 p):
  aw tb Tryz.prog 188 [.slice ao n c] Γ (fun v Δ=>∃(a1 a2:Option Addr) (c1 c2:Nat),v=.tuple #[.slice a1 (iC f_).1.length c1,.slice a2 (iC f_).2.length c2]∧Δ=[RA a1 ((iC f_).1.reverse.flatMap eg),RA a2 ((iC f_).2.reverse.flatMap eg)]):=by
 refine aw.of_W aB Tryz.func188 rfl ?_;refine gV [] [4,5,12] (fun a:CSt=>[(4,a.vo),(5,a.vw),(12,.int .i64 a.z)]) (fun _=>[]) (fun a=>a.Oo++a.Ow) (fun _=>[RA ao (f_.flatMap eg)]) (fun a=>a.z=a.i∧a.i≤n∧(a.R,a.W)=iC (f_.take a.i)∧cF 2 a.Oo a.vo a.R.length (a.R.reverse.flatMap eg)∧cF 2 a.Ow a.vw a.W.length (a.W.reverse.flatMap eg)) (fun a=>n-a.i) ⟨0,0,.slice none 0 0,.slice none 0 0,[],[],[],[]⟩ ⟨rfl,aJ _,rfl,cF.nil 2,cF.nil 2⟩ pd ?_;rintro⟨i,z,vo,vw,Oo,Ow,R,U⟩ K ⟨hz,hi,QP,hgo,Ik⟩ close;simp only at hz hi QP hgo Ik;by_cases hlt:i<n
 rotate_left
 ·have hin:i=n:=by omega
  have hall:f_.take i=f_:=aU (by omega);rw[hall]at QP;rw[←QP];refine Jl (O1:=Oo) (O2:=Ow) rfl hgo rfl (fun a1 c1 h1=>?_);refine Jl (O1:=Ow) (O2:=[]) (ah _).symm Ik rfl (fun a2 c2 h2=>?_);subst h1 h2;refine aQ [] 13 (decide (z<(n:Int))) (aj (by omega)) ?_;exact W.r [13] (.tuple #[.slice a1 R.length c1,.slice a2 U.length c2]) ⟨a1,a2,c1,c2,rfl,rfl⟩ (mh (Δ:=[_]) (Δ':=[_]) pd pd)
 have hil:i<f_.length:=by omega
 have hstep:iC (f_.take (i+1))=push (R,U) (f_[i]'hil):=by
  rw[QP,List.take_succ_eq_append_getElem hil];simp only[iC,List.foldl_append,oM,List.foldl_nil]
 have hok:j8 R U:=by
  have:=zm (f_.take i) ([],[]) rfl;rw[show(f_.take i).foldl push ([],[])=(R,U)from QP.symm]at this;exact this
 have hlen:=hok.len;have hpb:=hb _ (dY hil);have TJ:∀q∈R,iu 2147483648 q:=fun q hq=>by
  have:=Ao (f_.take i) ([],[]) (Q:=fun _=>False) (fun q hq=>absurd hq (by simp)) q (by rw[show(f_.take i).foldl push ([],[])=(R,U)from QP.symm];exact hq);exact hb q (fe (by simpa using this))
 have TK:R.length≤i:=by
  have:=An (f_.take i) ([],[]);rw[show(f_.take i).foldl push ([],[])=(R,U)from QP.symm]at this;simp only[a_,dG]at this;omega
 have hz1:IntKind.i64.wrap (z+1)=((i+1:Nat):Int):=by rw[af];omega
 have Ic:∀(j:Nat) (v:Value),(eg (f_[i]'hil))[j]? =some v→(f_.flatMap eg)[i*2+j]? =some v:=fun j v hv=>Nx hil hv;generalize hp:f_[i]'hil=p at*;refine HH ao rfl (by intro e;have:=o9 f_;rw[e]at this;simp at this;omega) (fun ba of e=>?_);subst e;refine bj [] 13 (decide (z<(n:Int))) (au (by omega)) ?_;refine bW [13] 2 ba of n c .i64 i z hz aB hlt ?_;refine cV [] ba (of+i*2) (eg p) aB (eB ba of (i*2) Ic) ?_
 match R,U,hok,hlen,hgo,Ik,TJ,TK,QP,hstep with
 | [],U,hok,hlen,hgo,Ik,TJ,TK,QP,hstep=>
  obtain rfl:U=[]:=hok;rcases hgo.zero with⟨ao0,co0,rfl⟩;refine j2 [] 3 ?_;refine aQ [] 19 (decide (((0:Nat):Int)>0)) (by decide) ?_;refine cH [19] 1 (eg p) aB (fun b2=>?_);refine W.app [] (Oo++Ow) [] Oo Ow 2 16 0 1 (.slice ao0 0 co0) (.slice (some ⟨b2,0,none⟩) 1 1) [] (eg p) aB (by simp) hgo (bX b2 (Oo++Ow) 1 2 rfl 1) (qH _) (by omega) (by decide) (fun SX Ri sV=>?_);refine close [] _ _ ⟨i+1,IntKind.i64.wrap (z+1),SX,vw,Ri,Ow,[p],[]⟩ (by kernel_rfl) (by simp only[az,ah];kernel_rfl) ⟨hz1,hlt,by rw[hstep];rfl,sV,Ik⟩ (by simp only;omega) pd
 |l::r,U,hok,hlen,hgo,Ik,TJ,TK,QP,hstep=>
  have hlb:=TJ l (by simp);have hN:(l::r).length=r.length+1:=rfl;rw[hN]at hgo TK;obtain⟨g1,k1,ke,rfl,rfl,hk1,hm1,hl1,ht1⟩:=hgo.own (by omega);have hlast:=zr ht1;have Of:=Ny ht1;refine j2 [] 3 ?_;refine bj [] 19 (decide (((r.length+1:Nat):Int)>0)) (au (by omega)) ?_;refine bW [19] 2 g1 0 (r.length+1) k1 .i64 r.length (IntKind.i64.wrap (((r.length+1:Nat):Int)-1)) (by rw[af];omega) aB (by omega) ?_;refine wu [] ([(g1,ke)]++Ow) g1 (0+r.length*2) 2 ke (eg l) aB (by simp) (by rw[bQ];exact hlast) rfl ?_;refine EZ [] 58 l p ?_;by_cases TQ:l=p
  ·refine bj [] 28 (decide (l=p)) (au TQ) ?_;refine close [28] _ _ ⟨i+1,IntKind.i64.wrap (z+1),.slice (some ⟨g1,0,none⟩) (r.length+1) k1,vw,[(g1,ke)],Ow,l::r,U⟩ (by kernel_rfl) (by kernel_rfl) ⟨hz1,hlt,?_,hgo,Ik⟩ (by simp only;omega) pd;rw[hstep];simp only[push,if_pos TQ]
  refine aQ [] 28 (decide (l=p)) (aj TQ) ?_;refine bW [28] 2 g1 0 (r.length+1) k1 .i64 r.length (IntKind.i64.wrap (((r.length+1:Nat):Int)-1)) (by rw[af];omega) aB (by omega) ?_;refine wu [] ([(g1,ke)]++Ow) g1 (0+r.length*2) 2 ke (eg l) aB (by simp) (by rw[bQ];exact hlast) rfl ?_;refine aq [] (CY l p hlb hpb TQ) ?_;rintro _ _ ⟨rfl,rfl⟩
  match r,U,hok,hlen,hgo,Ik,hk1,ht1,Of,TJ,TK,hstep with
  | [],U,hok,hlen,hgo,Ik,hk1,ht1,Of,TJ,TK,hstep=>
   obtain rfl:U=[]:=hok;rcases Ik.zero with⟨aw0,cw0,rfl⟩;refine bj [] 38 (decide (((([]:List Dp).length+1:Nat):Int)<2)) (by decide) ?_;refine cH [46,38] 1 (eg (gl l p)) aB (fun b1=>?_);refine W.app [] ([(g1,ke)]++Ow) [(g1,ke)] Ow [] 2 16 0 1 (.slice aw0 0 cw0) (.slice (some ⟨b1,0,none⟩) 1 1) [] (eg (gl l p)) aB (by simp) Ik (bX b1 ([(g1,ke)]++Ow) 1 2 rfl 1) (qH _) (by omega) (by decide) (fun Xn DA RR=>?_);refine cH [] 1 (eg p) aB (fun b2=>?_);refine W.app [] ([(g1,ke)]++DA++[]) [] [(g1,ke)] (DA++[]) 2 16 (([]:List Dp).length+1) 1 (.slice (some ⟨g1,0,none⟩) (([]:List Dp).length+1) k1) (.slice (some ⟨b2,0,none⟩) 1 1) ([l].reverse.flatMap eg) (eg p) aB (by simp) hgo (bX b2 ([(g1,ke)]++DA++[]) 1 2 rfl 1) (qH _) (by omega) (by decide) (fun SX Ri sV=>?_);refine close [] _ _ ⟨i+1,IntKind.i64.wrap (z+1),SX,Xn,Ri,DA,p::[l],[gl l p]⟩ (by kernel_rfl) (by simp only[az,ah];kernel_rfl) ⟨hz1,hlt,?_,cF.cast (nk _ _).symm rfl sV,cF.cast (nk _ _).symm rfl RR⟩ (by simp only;omega) pd;rw[hstep];simp only[push,if_neg TQ,List.head?_nil,reduceCtorEq,d_]
  |a::r2,U,⟨d,v,hW,BV,hd,hv,Io⟩,hlen,hgo,Ik,hk1,ht1,Of,TJ,TK,hstep=>
   subst hW;have hab:=TJ a (by simp);have RJ:r2.length+2≤i:=TK;have hll:(a::r2).length=r2.length+1:=rfl;have FU:v.length=r2.length:=by simp at hlen;omega
   rw[show(d::v).length=v.length+1 from rfl]at Ik;obtain⟨g2,k2,o7,rfl,rfl,hk2,hm2,hl2,ht2⟩:=Ik.own (by omega);have VE:=zr ht2;have FW:=Ny ht2;refine aQ [] 38 (decide ((((a::r2).length+1:Nat):Int)<2)) (aj (by simp only[aC];omega)) ?_;refine bW [38] 2 g2 0 (v.length+1) k2 .i64 v.length (IntKind.i64.wrap ((((a::r2).length+1:Nat):Int)-2)) (by simp only[aC,af];omega) aB (by omega) ?_;refine wu [38] ([(g1,ke)]++[(g2,o7)]) g2 (0+v.length*2) 2 o7 (eg d) aB (by simp) (by rw[bQ];exact VE) rfl ?_;refine MP [38] 282 d (gl l p) ?_;by_cases Vx:d=gl l p
   rotate_left
   ·refine bj [38] 46 (!decide (d=gl l p)) (by rw[aj Vx];rfl) ?_;refine cH [46] 1 (eg (gl l p)) aB (fun b1=>?_);refine W.app [] ([(g1,ke)]++[(g2,o7)]) [(g1,ke)] [(g2,o7)] [] 2 16 (v.length+1) 1 (.slice (some ⟨g2,0,none⟩) (v.length+1) k2) (.slice (some ⟨b1,0,none⟩) 1 1) ((d::v).reverse.flatMap eg) (eg (gl l p)) aB (by simp) Ik (bX b1 ([(g1,ke)]++[(g2,o7)]) 1 2 rfl 1) (qH _) (by omega) (by decide) (fun Xn DA RR=>?_);refine cH [] 1 (eg p) aB (fun b2=>?_);refine W.app [] ([(g1,ke)]++DA++[]) [] [(g1,ke)] (DA++[]) 2 16 ((a::r2).length+1) 1 (.slice (some ⟨g1,0,none⟩) ((a::r2).length+1) k1) (.slice (some ⟨b2,0,none⟩) 1 1) ((l::a::r2).reverse.flatMap eg) (eg p) aB (by simp) hgo (bX b2 ([(g1,ke)]++DA++[]) 1 2 rfl 1) (qH _) (by omega) (by decide) (fun SX Ri sV=>?_);refine close [] _ _ ⟨i+1,IntKind.i64.wrap (z+1),SX,Xn,Ri,DA,p::l::a::r2,gl l p::d::v⟩ (by kernel_rfl) (by simp only[az,ah];kernel_rfl) ⟨hz1,hlt,?_,cF.cast (nk _ _).symm rfl sV,cF.cast (nk _ _).symm rfl RR⟩ (by simp only;omega) pd;rw[hstep];simp only[push,if_neg TQ,oN,ar,if_neg Vx]
   have hj:=j8.back (l:=l) (a:=a) (r:=r2) (w:=d::v) ⟨d,v,rfl,BV,hd,hv,Io⟩ TQ (by rw[oN,Vx]);obtain⟨hap,Zn,_⟩:=hj;have N7:cF 2 [(g1,ke)] (.slice (some ⟨g1,0,none⟩) (a::r2).length k1) (a::r2).length ((a::r2).reverse.flatMap eg):=⟨by rw[o9];simp,.inr ⟨g1,k1,ke,rfl,rfl,by omega,hm1,hl1,Of⟩⟩;have N8:cF 2 [(g2,o7)] (.slice (some ⟨g2,0,none⟩) v.length k2) v.length (v.reverse.flatMap eg):=⟨by rw[o9];simp,.inr ⟨g2,k2,o7,rfl,rfl,by omega,hm2,hl2,FW⟩⟩;have Oa:=zr Of;refine aQ [38] 46 (!decide (d=gl l p)) (by rw[au Vx];rfl) ?_;refine Tg [46] 2 g1 (a::r2).length ((a::r2).length+1) k1 (IntKind.i64.wrap ((((a::r2).length+1:Nat):Int)-1)) (by simp only[aC,af];omega) aB (by omega) (by omega) ?_;refine Tg [] 2 g2 v.length (v.length+1) k2 (IntKind.i64.wrap ((((a::r2).length+1:Nat):Int)-2)) (by simp only[aC,af];omega) aB (by omega) (by omega) ?_;refine bj [] 19 (decide ((((a::r2).length:Nat):Int)>0)) (au (by simp only[aC];omega)) ?_;refine bW [19] 2 g1 0 (a::r2).length k1 .i64 r2.length (IntKind.i64.wrap ((((a::r2).length:Nat):Int)-1)) (by simp only[aC,af];omega) aB (by simp only[aC];omega) ?_;refine wu [] ([(g1,ke)]++[(g2,o7)]) g1 (0+r2.length*2) 2 ke (eg a) aB (by simp) (by rw[bQ];exact Oa) rfl ?_
   refine EZ [] 58 a p ?_;refine aQ [] 28 (decide (a=p)) (aj hap) ?_;refine bW [28] 2 g1 0 (a::r2).length k1 .i64 r2.length (IntKind.i64.wrap ((((a::r2).length:Nat):Int)-1)) (by simp only[aC,af];omega) aB (by simp only[aC];omega) ?_;refine wu [] ([(g1,ke)]++[(g2,o7)]) g1 (0+r2.length*2) 2 ke (eg a) aB (by simp) (by rw[bQ];exact Oa) rfl ?_;refine aq [] (CY a p hab hpb hap) ?_;rintro _ _ ⟨rfl,rfl⟩;have hend:push (l::a::r2,d::v) p=(p::a::r2,gl a p::v):=by
    simp only[push,if_neg TQ,oN,ar,if_pos Vx];rw[Zn,Vx]
   match r2,v,FU,N7,N8,Io,FW,hl2,ht2,hv,hend,RJ,hstep with
   | [],v,FU,N7,N8,Io,FW,hl2,ht2,hv,hend,RJ,hstep=>
    obtain rfl:v=[]:=aN FU;refine bj [] 38 (decide ((([a].length:Nat):Int)<2)) (au (by simp)) ?_;refine cH [46,38] 1 (eg (gl a p)) aB (fun b1=>?_);refine W.app [] ([(g1,ke)]++[(g2,o7)]) [(g1,ke)] [(g2,o7)] [] 2 16 0 1 (.slice (some ⟨g2,0,none⟩) 0 k2) (.slice (some ⟨b1,0,none⟩) 1 1) [] (eg (gl a p)) aB (by simp) N8 (bX b1 ([(g1,ke)]++[(g2,o7)]) 1 2 rfl 1) (qH _) (by omega) (by decide) (fun Xn DA RR=>?_);refine cH [] 1 (eg p) aB (fun b2=>?_);refine W.app [] ([(g1,ke)]++DA++[]) [] [(g1,ke)] (DA++[]) 2 16 [a].length 1 (.slice (some ⟨g1,0,none⟩) [a].length k1) (.slice (some ⟨b2,0,none⟩) 1 1) ([a].reverse.flatMap eg) (eg p) aB (by simp) N7 (bX b2 ([(g1,ke)]++DA++[]) 1 2 rfl 1) (qH _) (by omega) (by decide) (fun SX Ri sV=>?_);refine close [] _ _ ⟨i+1,IntKind.i64.wrap (z+1),SX,Xn,Ri,DA,p::[a],[gl a p]⟩ (by kernel_rfl) (by simp only[az,ah];kernel_rfl) ⟨hz1,hlt,?_,cF.cast (nk _ _).symm rfl sV,cF.cast (nk _ _).symm rfl RR⟩ (by simp only;omega) pd;rw[hstep];rw[hend]
   |a3::r3,v,FU,N7,N8,⟨d3,v3,hv3,_⟩,FW,hl2,ht2,hv,hend,RJ,hstep=>
    subst hv3;have VF:=zr FW;have abS:d3≠gl a p:=fun e=>by
     rw[Zn,←Vx]at e;exact hv (by rw[oN,e])
    simp only[aC]at FU;have hR3:r3.length+3≤i:=RJ;have hl3:(a::a3::r3).length=r3.length+2:=rfl;have XE:(d3::v3).length=v3.length+1:=rfl;refine aQ [] 38 (decide ((((a::a3::r3).length:Nat):Int)<2)) (aj (by simp only[aC];omega)) ?_;refine bW [38] 2 g2 0 (d3::v3).length k2 .i64 v3.length (IntKind.i64.wrap ((((a::a3::r3).length:Nat):Int)-2)) (by simp only[aC,af];omega) aB (by simp only[aC];omega) ?_;refine wu [38] ([(g1,ke)]++[(g2,o7)]) g2 (0+v3.length*2) 2 o7 (eg d3) aB (by simp) (by rw[bQ];exact VF) rfl ?_;refine MP [38] 282 d3 (gl a p) ?_;refine bj [38] 46 (!decide (d3=gl a p)) (by rw[aj abS];rfl) ?_;refine cH [46] 1 (eg (gl a p)) aB (fun b1=>?_);refine W.app [] ([(g1,ke)]++[(g2,o7)]) [(g1,ke)] [(g2,o7)] [] 2 16 (d3::v3).length 1 (.slice (some ⟨g2,0,none⟩) (d3::v3).length k2) (.slice (some ⟨b1,0,none⟩) 1 1) ((d3::v3).reverse.flatMap eg) (eg (gl a p)) aB (by simp) N8 (bX b1 ([(g1,ke)]++[(g2,o7)]) 1 2 rfl 1) (qH _) (by omega) (by decide) (fun Xn DA RR=>?_);refine cH [] 1 (eg p) aB (fun b2=>?_);refine W.app [] ([(g1,ke)]++DA++[]) [] [(g1,ke)] (DA++[]) 2 16 (a::a3::r3).length 1 (.slice (some ⟨g1,0,none⟩) (a::a3::r3).length k1) (.slice (some ⟨b2,0,none⟩) 1 1) ((a::a3::r3).reverse.flatMap eg) (eg p) aB (by simp) N7 (bX b2 ([(g1,ke)]++DA++[]) 1 2 rfl 1) (qH _) (by omega) (by decide) (fun SX Ri sV=>?_)
    refine close [] _ _ ⟨i+1,IntKind.i64.wrap (z+1),SX,Xn,Ri,DA,p::a::a3::r3,gl a p::d3::v3⟩ (by kernel_rfl) (by simp only[az,ah];kernel_rfl) ⟨hz1,hlt,?_,cF.cast (nk _ _).symm rfl sV,cF.cast (nk _ _).symm rfl RR⟩ (by simp only;omega) pd;rw[hstep];rw[hend]
end
structure KN(cs ws:List Dp):Prop where
 len:cs.length=ws.length+1
 way:∀(i:Nat) (a b d:Dp),cs[i]? =some a→cs[i+1]? =some b→ws[i]? =some d→a≠b∧d=gl a b
 turn:∀(i:Nat) (d e:Dp),ws[i]? =some d→ws[i+1]? =some e→d≠e
theorem KN.snoc{cs ws:List Dp}{a b:Dp}(h:KN cs ws)(ha:cs.getLast?=some a)(hab:a≠b)(hw:ws.getLast?≠some (gl a b)):KN (cs++[b]) (ws++[gl a b]):=by
 have hl:=h.len;rw[fZ,hl,eF]at ha;rw[fZ]at hw;refine⟨by simp[hl],fun i x y d h1 h2 h3=>?_,fun i d e h1 h2=>?_⟩
 ·by_cases hi:i<ws.length
  ·rw[cW (by omega)]at h1 h2 h3;exact h.way i x y d h1 h2 h3
  ·have hi2:i=ws.length:=by
    have:=(List.getElem?_eq_some_iff.1 h3).1;simp at this;omega
   subst hi2;rw[cW (by omega),ha]at h1;rw[dZ (by omega),hl]at h2;rw[dZ (by omega)]at h3;simp at h1 h2 h3;subst h1 h2 h3;exact⟨hab,rfl⟩
 ·by_cases hi:i+1<ws.length
  ·rw[cW (by omega)]at h1 h2;exact h.turn i d e h1 h2
  ·have hi2:i+1=ws.length:=by
    have:=(List.getElem?_eq_some_iff.1 h2).1;simp at this;omega
   rw[cW (by omega),show i=ws.length-1 by omega]at h1;rw[dZ (by omega),hi2]at h2;simp at h2;subst h2;rintro rfl;exact hw h1
theorem NR:∀{R U:List Dp},j8 R U→R≠ []→KN R.reverse U.reverse
 | [],_,_,h=>absurd rfl h
 | [a],U,h,_=>by
  simp only[j8]at h;subst h;exact⟨rfl,fun i x y d h1 h2 h3=>by simp at h3,fun i d e h1 h2=>by simp at h1⟩
 |b::a::r,U,⟨d,v,hU,hab,hd,hv,hok⟩,_=>by
  subst hU hd;have ih:=NR hok (by simp);rw[List.reverse_cons,List.reverse_cons (a:=gl a b)];exact ih.snoc (by rw[List.getLast?_reverse];rfl) hab (by rw[List.getLast?_reverse];exact hv)
theorem Cl:∀U:List Dp,tq U=true↔∃(i:Nat) (d e:Dp),U[i]? =some e∧U[i+1]? =some d∧e=jk d
 | []=>by simp[tq]
 | [a]=>by simp[tq]
 |e::d::r=>by
  have ih:=Cl (d::r);simp only[tq,eu,dp,ih];constructor
  ·rintro(h|⟨i,x,y,h1,h2,h3⟩)
   ·exact⟨0,d,e,rfl,rfl,h⟩
   ·exact⟨i+1,x,y,h1,h2,h3⟩
  ·rintro⟨i,x,y,h1,h2,h3⟩;cases i with
   |zero=>
    simp at h1 h2;subst h1 h2;exact .inl h3
   |succ i=>exact .inr ⟨i,x,y,h1,h2,h3⟩
theorem Jo(U:List Dp):tq U=true↔∃(i:Nat) (d e:Dp),U.reverse[i]? =some d∧U.reverse[i+1]? =some e∧e=jk d:=by
 rw[Cl];constructor
 ·rintro⟨i,d,e,h1,h2,h3⟩;have hi:=(List.getElem?_eq_some_iff.1 h2).1;refine⟨U.length-2-i,d,e,?_,?_,h3⟩
  ·rw[List.getElem?_reverse (by omega),show U.length-1-(U.length-2-i)=i+1 by omega,h2]
  ·rw[List.getElem?_reverse (by omega),show U.length-1-(U.length-2-i+1)=i by omega,h1]
 ·rintro⟨i,d,e,h1,h2,h3⟩;have hi:=(List.getElem?_eq_some_iff.1 h2).1;simp only[fz]at hi;rw[List.getElem?_reverse (by omega)]at h1 h2;refine⟨U.length-2-i,d,e,?_,?_,h3⟩
  ·rw[show U.length-2-i=U.length-1-(i+1)by omega,h2]
  ·rw[show U.length-2-i+1=U.length-1-i by omega,h1]
theorem G2{p q:Dp}(h:p≠q):mi (gl p q)=1:=by
 have hv:=AZ h;unfold gl;generalize(⟨q.x-p.x,q.y-p.y⟩:Dp)=v at*;have h1:=Jv v hv;have h2:=rK (p_ v);have h3:=Ns hv;rw[h1]at h2;rcases h3 with h3|h3
 ·exact Int.eq_one_of_mul_eq_self_left h3 h2.1.symm
 ·exact Int.eq_one_of_mul_eq_self_left h3 h2.2.symm
theorem Ed{d:Dp}(h:mi d=1):d.x≠0∨d.y≠0:=by
 by_cases hx:d.x=0
 ·by_cases hy:d.y=0
  ·unfold mi at h;rw[hx,hy]at h;simp at h
  ·exact .inr hy
 ·exact .inl hx
theorem I6{d:Dp}(h:d.x≠0∨d.y≠0):kE d≠0:=by
 unfold kE;have h1:0≤d.x*d.x:=by rcases Int.le_total 0 d.x with h|h;exact eT h h;exact jJ h h
 have h2:0≤d.y*d.y:=by rcases Int.le_total 0 d.y with h|h;exact eT h h;exact jJ h h
 rcases h with h|h
 ·have:d.x*d.x≠0:=kn h h;omega
 ·have:d.y*d.y≠0:=kn h h;omega
theorem QK{p q:Dp}(hp:iu 2147483648 p)(hq:iu 2147483648 q)(h:p≠q):iu 4294967296 (gl p q):=by
 have hm:=rK ⟨q.x-p.x,q.y-p.y⟩;have hg:=tH (AZ h);unfold iu at*;simp only at hm;have bx: -4294967296≤(gl p q).x∧(gl p q).x≤4294967296:=uB hg hm.1 (by omega) (by omega);have byy: -4294967296≤(gl p q).y∧(gl p q).y≤4294967296:=uB hg hm.2 (by omega) (by omega);omega
theorem Fz{d e:Dp}(hd:mi d=1)(he:mi e=1)(h1:d≠e)(h2:e≠jk d):qG (eS d) e≠0:=by
 intro h0;have hx:d.x*e.y=d.y*e.x:=by
  unfold qG eS at h0;simp only at h0;have: -d.y*e.x= -(d.y*e.x):=Int.neg_mul _ _;omega
 have hn:d.x.natAbs*e.y.natAbs=d.y.natAbs*e.x.natAbs:=by rw[←cK,hx,cK]
 have cd:Nat.Coprime d.x.natAbs d.y.natAbs:=by unfold mi at hd;unfold Nat.Coprime;omega
 have ce:Nat.Coprime e.x.natAbs e.y.natAbs:=by unfold mi at he;unfold Nat.Coprime;omega
 have kx:d.x.natAbs=e.x.natAbs:=by
  apply Nat.dvd_antisymm
  ·exact Nat.Coprime.dvd_of_dvd_mul_left cd (by rw[←hn];exact Nat.dvd_mul_right _ _)
  ·exact Nat.Coprime.dvd_of_dvd_mul_right ce (by rw[hn];exact Nat.dvd_mul_left _ _)
 have ky:d.y.natAbs=e.y.natAbs:=by
  apply Nat.dvd_antisymm
  ·exact Nat.Coprime.dvd_of_dvd_mul_left cd.symm (by rw[hn];exact Nat.dvd_mul_right _ _)
  ·exact Nat.Coprime.dvd_of_dvd_mul_right ce.symm (by rw[←hn];exact Nat.dvd_mul_left _ _)
 have hm:∀(P:d.x=0∨d.y=0),False:=fun hz=>by
  rcases hz with hz|hz
  ·have:e.x=0:=by omega
   rcases Int.natAbs_eq_natAbs_iff.1 ky with h|h
   ·exact h1 (Dp.eq_iff.2 ⟨by omega,h⟩)
   ·exact h2 (Dp.eq_iff.2 ⟨by unfold jk;simp only;omega,by unfold jk;simp only;omega⟩)
  ·have:e.y=0:=by omega
   rcases Int.natAbs_eq_natAbs_iff.1 kx with h|h
   ·exact h1 (Dp.eq_iff.2 ⟨h,by omega⟩)
   ·exact h2 (Dp.eq_iff.2 ⟨by unfold jk;simp only;omega,by unfold jk;simp only;omega⟩)
 rcases Int.natAbs_eq_natAbs_iff.1 kx with hx1|hx1<;>rcases Int.natAbs_eq_natAbs_iff.1 ky with hy1|hy1
 ·exact h1 (Dp.eq_iff.2 ⟨hx1,hy1⟩)
 ·have e1:e.x=d.x:=hx1.symm;have e2:e.y= -d.y:=by omega
  rw[e1,e2,Int.mul_neg,qA d.y d.x]at hx;have:d.x*d.y=0:=by omega
  exact hm (Int.mul_eq_zero.1 this)
 ·have e1:e.x= -d.x:=by omega
  have e2:e.y=d.y:=hy1.symm;rw[e1,e2,Int.mul_neg,qA d.y d.x]at hx;have:d.x*d.y=0:=by omega
  exact hm (Int.mul_eq_zero.1 this)
 ·exact h2 (Dp.eq_iff.2 ⟨by unfold jk;simp only;omega,by unfold jk;simp only;omega⟩)
theorem pA(h:Rat):∀(c w:List Dp),c.length=w.length→(gy h c w).length=w.length-1
 |_,[],hl=>by cases ‹List Dp› <;>simp[gy]at*
 | [],_::_,hl=>by simp at hl
 |p::c,[d],hl=>by simp[gy]
 |p::c,d::e::w,hl=>by
  have:=pA h c (e::w) (by simp at hl⊢;omega);simp only[gy,aC,this];omega
theorem m_(h:Rat):∀(c w:List Dp) (j:Nat) (p d e:Dp),c[j]? =some p→w[j]? =some d→w[j+1]? =some e→(gy h c w)[j]? =some (gf p d e h)
 | [],_,j,p,d,e,h1,h2,h3=>by simp at h1
 |_::_,[],j,p,d,e,h1,h2,h3=>by simp at h2
 |_::_,[a],j,p,d,e,h1,h2,h3=>by simp at h3
 |q::c,a::b::w,j,p,d,e,h1,h2,h3=>by
  cases j with
  |zero=>
   simp at h1 h2 h3;subst h1 h2 h3;rfl
  |succ j=>
   simp only[gy,eV]at h1 h2 h3⊢;exact m_ h c (b::w) j p d e h1 h2 h3
theorem lR{α:Type}{l:List α}{j:Nat}{x:α}(h:l[j]? =some x):l.take (j+1)=l.take j++[x]:=by
 obtain⟨hj,rfl⟩:=List.getElem?_eq_some_iff.1 h;exact List.take_succ_eq_append_getElem hj
theorem xN{α:Type}{l:List α}{j:Nat}{x:α}(h:l[j]? =some x):(l.drop j).reverse=(l.drop (j+1)).reverse++[x]:=by
 obtain⟨hj,rfl⟩:=List.getElem?_eq_some_iff.1 h;rw[bC hj,List.reverse_cons]
section
variable{Γ:List aD}
theorem eI{F:aD}{Δ:List aD}(h:∀(I:fQ) (w:World),br tb I w→aG Γ I w→F.p I w)(h':∀(I:fQ) (w:World),br tb I w→aG Γ I w→aG Δ I w):∀(I:fQ) (w:World),br tb I w→aG Γ I w→aG (F::Δ) I w:=fun I w hd hh=>aG.cons (h I w hd hh) (h' I w hd hh)
theorem gj{α:Type}{k:α→aD}{a:α} [h:aW k a Γ]:∀(I:fQ) (w:World),br tb I w→aG Γ I w→(k a).p I w:=fun I w _ hh=>h.p hh
theorem tD:∀(I:fQ) (w:World),br tb I w→aG Γ I w→aG [] I w:=fun I w _ _=>aG.nil _ _
theorem Cy{L:Nat}{l:List jF}(e:jF) [h:aW (OS gi) (L,l) Γ] [hx:aW (SF e.x) (L,e.X) Γ] [hy:aW (SF e.y) (L,e.Y) Γ]:∀(I:fQ) (w:World),br tb I w→aG Γ I w→(OS gi (L,l++[e])).p I w:=fun I w _ hh x hx'=>by
 rcases List.mem_append.1 hx' with h1|h1
 ·exact h.p hh x h1
 ·simp only[aF,aE,bL]at h1;subst h1;exact⟨hx.p hh,hy.p hh⟩
theorem NB{L:Nat}{l l2:List jF}{ao:Option Addr} [h:aW (OS gi) (L,l) Γ] [hx:aW (OL gi ao) (L,l2) Γ]:∀(I:fQ) (w:World),br tb I w→aG Γ I w→(OS gi (L,l++l2)).p I w:=fun I w _ hh x hx'=>by
 rcases List.mem_append.1 hx' with h1|h1
 ·exact h.p hh x h1
 ·exact(hx.p hh).1 x h1
theorem Po(B:Nat)(k:Int) [aW (ek B) [.int .i64 0,.int .i64 1,.int .i64 2,.int .i64 4] Γ]:
  aw tb Tryz.prog 233 [.slice (some ⟨B,0,none⟩) 4 4,.int .i64 k] Γ (fun v Δ=>∃z:Int,v=.int .i64 z∧Δ=[]∧decide (z≥0)=(decide (k=0)||decide (k=1)||decide (k=2)||decide (k=4))):=by
 refine aw.of_W aB Tryz.func233 rfl ?_;refine j2 [] 5 ?_;refine bW [9] 1 B 0 4 4 .i64 0 0 rfl aB (by decide) ?_;refine dJ [] 1 B 0 (.int .i64 0) aB (fun I w _ hh=>by rw[oU (aW.p (k:=ek B) (a:=[.int .i64 0,.int .i64 1,.int .i64 2,.int .i64 4]) inferInstance hh)];rfl) ?_;refine W.d [] 16 (k==0) (fun h=>?_) (fun h0=>?_)
 ·exact W.r [16] (.int .i64 0) ⟨0,rfl,rfl,by have:=eq_of_beq h;subst this;decide⟩ bT
 refine bW [9,16] 1 B 0 4 4 .i64 1 1 rfl aB (by decide) ?_;refine dJ [] 1 B 1 (.int .i64 1) aB (fun I w _ hh=>by rw[oU (aW.p (k:=ek B) (a:=[.int .i64 0,.int .i64 1,.int .i64 2,.int .i64 4]) inferInstance hh)];rfl) ?_;refine W.d [] 16 (k==1) (fun h=>?_) (fun h1=>?_)
 ·exact W.r [16] (.int .i64 1) ⟨1,rfl,rfl,by have:=eq_of_beq h;subst this;decide⟩ bT
 refine bW [9,16] 1 B 0 4 4 .i64 2 2 rfl aB (by decide) ?_;refine dJ [] 1 B 2 (.int .i64 2) aB (fun I w _ hh=>by rw[oU (aW.p (k:=ek B) (a:=[.int .i64 0,.int .i64 1,.int .i64 2,.int .i64 4]) inferInstance hh)];rfl) ?_;refine W.d [] 16 (k==2) (fun h=>?_) (fun h2=>?_)
 ·exact W.r [16] (.int .i64 2) ⟨2,rfl,rfl,by have:=eq_of_beq h;subst this;decide⟩ bT
 refine bW [9,16] 1 B 0 4 4 .i64 3 3 rfl aB (by decide) ?_;refine dJ [] 1 B 3 (.int .i64 4) aB (fun I w _ hh=>by rw[oU (aW.p (k:=ek B) (a:=[.int .i64 0,.int .i64 1,.int .i64 2,.int .i64 4]) inferInstance hh)];rfl) ?_;refine W.d [] 16 (k==4) (fun h=>?_) (fun h3=>?_)
 ·exact W.r [16] (.int .i64 3) ⟨3,rfl,rfl,by have:=eq_of_beq h;subst this;decide⟩ bT
 refine W.r [9,16] (.int .i64 (-1)) ⟨-1,rfl,rfl,?_⟩ bT;have e0:k≠0:=by simpa using h0
 have e1:k≠1:=by simpa using h1
 have e2:k≠2:=by simpa using h2
 have e3:k≠4:=by simpa using h3
 simp[e0,e1,e2,e3]
theorem So(B:Nat)(k:Int) [aW (ek B) [.int .i64 0,.int .i64 1,.int .i64 2,.int .i64 4] Γ]:
  aw tb Tryz.prog 184 [.slice (some ⟨B,0,none⟩) 4 4,.int .i64 k] Γ (jq (.bool (decide (k=0)||decide (k=1)||decide (k=2)||decide (k=4)))):=by
 refine aw.of_W aB Tryz.func184 rfl ?_;refine aq [] (Po B k) ?_;rintro _ _ ⟨z,rfl,rfl,hz⟩;exact W.r [] (.bool (decide (z≥0))) ⟨by rw[hz],rfl⟩ bT
theorem E7{α:Type}{p:α→Bool}:∀{l:List α},(∀i (h:i<l.length),p (l[i]'h)=false)→l.any p=false
 | [],_=>rfl
 |a::r,h=>by
  rw[List.any_cons,E7 (fun i hi=>h (i+1) (by simpa using hi)),Bool.or_false];exact h 0 (by simp)
theorem Pp(ao:Option Addr)(n c:Nat)(f_:List Dp) [aW (RA ao) (f_.flatMap eg) Γ](hn:n=f_.length)(hn2:n≤8191):
  aw tb Tryz.prog 234 [.slice ao n c,.func (.func 186) #[] #[]] Γ (fun v Δ=>∃z:Int,v=.int .i64 z∧Δ=[]∧decide (z≥0)=f_.any tR):=by
 refine aw.of_W aB Tryz.func234 rfl ?_;refine zd [] [8] (fun a:Nat×Int=>[(8,.int .i64 a.2)]) (fun _=>[]) (fun _=>[RA ao (f_.flatMap eg)]) (fun a=>a.2=a.1∧a.1≤n∧∀i (h:i<f_.length),i<a.1→tR (f_[i]'h)=false) (fun a=>n-a.1) (0,0) ⟨rfl,aJ _,fun i _ h=>by omega⟩ pd ?_;rintro⟨i,z⟩ K ⟨hz,hi,hall⟩ close;simp only at hz hi hall;by_cases hlt:i<n
 rotate_left
 ·refine aQ [] 9 (decide (z<(n:Int))) (aj (by omega)) ?_;exact W.r [9] (.int .i64 (-1)) ⟨-1,rfl,rfl,by rw[E7 (fun j hj=>hall j hj (by omega))];rfl⟩ bT
 have hil:i<f_.length:=by omega
 have Ic:∀(j:Nat) (v:Value),(eg (f_[i]'hil))[j]? =some v→(f_.flatMap eg)[i*2+j]? =some v:=fun j v hv=>Nx hil hv;have lU:=dY hil;have JM:tR (f_[i]'hil)=false→∀j (h:j<f_.length),j<i+1→tR (f_[j]'h)=false:=fun ho j h hj=>by
  by_cases hji:j<i
  ·exact hall j h hji
  ·obtain rfl:j=i:=by omega
   exact ho
 generalize hp:f_[i]'hil=p at*;refine HH ao rfl (by intro e;have:=o9 f_;rw[e]at this;simp at this;omega) (fun ba of e=>?_);subst e;refine bj [] 9 (decide (z<(n:Int))) (au (by omega)) ?_;refine bW [9] 2 ba of n c .i64 i z hz aB hlt ?_;refine cV [] ba (of+i*2) (eg p) aB (eB ba of (i*2) Ic) ?_;refine aq [] (Wz p) ?_;rintro _ _ ⟨rfl,rfl⟩;refine W.d [] 16 (tR p) (fun hb=>?_) (fun hb=>?_)
 ·refine W.r [16] (.int .i64 z) ⟨z,rfl,rfl,?_⟩ bT;rw[au (by omega)];exact(List.any_eq_true.2 ⟨p,lU,hb⟩).symm
 ·exact close [16] _ _ (i+1,IntKind.i64.wrap (z+1)) (by kernel_rfl) (by kernel_rfl) ⟨by simp only[af];omega,hlt,JM hb⟩ (by simp only;omega) pd
theorem Pf(ao:Option Addr)(n c:Nat)(f_:List Dp) [aW (RA ao) (f_.flatMap eg) Γ](hn:n=f_.length)(hn2:n≤8191):
  aw tb Tryz.prog 185 [.slice ao n c,.func (.func 186) #[] #[]] Γ (jq (.bool (f_.any tR))):=by
 refine aw.of_W aB Tryz.func185 rfl ?_;refine aq [] (Pp ao n c f_ hn hn2) ?_;rintro _ _ ⟨z,rfl,rfl,hz⟩;exact W.r [] (.bool (decide (z≥0))) ⟨by rw[hz],rfl⟩ bT
theorem WJ(p d:Dp)(x y:Int)(hx:x=d.x)(hy:y=d.y)(hq bq:Qw){h b:Rat}{L L1:Nat} [aW (QG hq) (L,h) Γ] [aW (QG bq) (L1,b) Γ](r:Bool)(hp:iu 2147483648 p)(hd:iu 4294967296 d)(h0:kE d≠0)(hL:L≤5∧L1≤5:=by omega):
  aw tb Tryz.prog 189 [dv p,.agg #[.int .i64 x,.int .i64 y],qv hq.n hq.a hq.m hq.b,qv bq.n bq.a bq.m bq.b,.bool r] Γ (UJ (mC p d h b r)):=by
 subst hx hy;cases r
 ·exact WK p d hq bq hp hd h0
 ·exact WL p d hq bq hp hd h0
end
section
variable{T:Tb}{P:Program}{fin:VS→List aD→Prop}{c:fG}{Γ:List aD}
def Jc(z:Nat)(O:List (Nat×List Value))(v:Value)(n:Nat)(xs:List Value)(ao:Option Addr)(ys:List Value):Prop:=
 (O=[]∧v=.slice ao n n∧0<n∧xs.length=n*z∧ys=xs)∨(cF z O v n xs∧ao=none∧ys=[])
theorem Cd(D:List Nat)(O:List (Nat×List Value))(z bytes n m:Nat)(ao:Option Addr)(v x:Value)(xs ys news:List Value)(hT:T.Ok P)
   [hrp:aW (RA ao) ys Γ](hg:Jc z O v n xs ao ys)(hm:0<m)(hx:p5 T Γ O x m z news)(h1:∀u∈news,u.oneCell'=true)
  (hn:n+m≤1000000)(hb:bytes≤100000000)
  (hk:∀v' O',cF z O' v' (n+m) (xs++news)→W T P fin (mz (aL T (bh T D 999 c)) O' v') Γ)(h:oK T (aL T (bh T D 999 c))=some (O,z,bytes,v,x):=by kernel_rfl):W T P fin c Γ:=by
 rcases hg with⟨rfl,rfl,h0,hl,rfl⟩|⟨hg,rfl,rfl⟩
 ·refine MK D [] z bytes n m ao x ys news hT (h:=h) hl h0 hm hx hn hb (fun g cap cur k1 k2 k3 k4=>hk _ _ ⟨?_,.inr ⟨g,cap,cur,rfl,rfl,k1,k2,k3,k4⟩⟩);obtain⟨_,_,_,hnl,_⟩:=hx;rw[aA,hl,hnl,dM]
 ·exact W.app D O [] O [] z bytes n m v x xs news hT (h:=h) (by simp) hg hx h1 hn hb (fun v' O' hg'=>by simpa using hk v' O' hg')
end
structure Z8 where
 p:Dp
 d:Dp
 r:Rat
 m:Int
 sl:Bool
structure Xy where
 a:Z8
 b:Z8
 m:Int
 n:Int
structure LnC where
 p:Dp
 d:Dp
 S:Int
 s:Sl
 R:Int
 t:Sl
 M:Int
 u:Sl
 sl:Bool
structure TwE where
 a:LnC
 b:LnC
 M:Int
 u:Sl
 N:Int
 v:Sl
 va:Rat
 ma:Int
 vb:Rat
 mb:Int
 m:Int
 n:Int
def TwE.num(e:TwE):Xy:=⟨⟨e.a.p,e.a.d,e.va,e.ma,e.a.sl⟩,⟨e.b.p,e.b.d,e.vb,e.mb,e.b.sl⟩,e.m,e.n⟩
section
variable{Γ:List aD}{L M:Nat}
end
theorem LM{f_:List Dp}{width kind bg en:Int}(h:rh f_ width kind bg en=0):f_.length≤8191∧rG width kind bg en=false∧f_.any tR=false∧2≤(iC f_).1.length∧tq (iC f_).2=false:=by
 unfold rh at h;split at h
 ·simp at h
 ·split at h
  ·simp at h
  ·split at h
   ·simp at h
   ·split at h
    ·simp at h
    ·split at h
     ·simp at h
     ·refine⟨by omega,by simp_all,by simp_all,by omega,by simp_all⟩
theorem E9{width kind bg en:Int}:rG width kind bg en=false↔(kind=0∨kind=1∨kind=2∨kind=4)∧1≤width∧width≤2147483647∧ -2147483647≤bg∧bg≤2147483647∧ -2147483647≤en∧en≤2147483647:=by
 simp only[rG,sO,vE,eu,dp,aX];omega
theorem SD(s:List Dp×List Dp)(p:Dp):(push s p).2.length≤s.2.length+1:=by
 obtain⟨R,w⟩:=s;cases R with
 |nil=>simp[push]
 |cons l r=>
  simp only[push];split
  ·simp
  ·split<;>simp
theorem Fy:∀(f_:List Dp) (s:List Dp×List Dp),(f_.foldl push s).2.length≤s.2.length+f_.length
 | [],s=>by simp
 |p::r,s=>by
  have:=Fy r (push s p);have:=SD s p;simp only[oM,aC];omega
def ZU(x:Z8)(m n:Int):Sn:=
 if x.sl=true then⟨m,n,0,0,0,x.r*Rat.divInt 1 2⟩else if x.m=m then⟨m,n,0,x.r,0,0⟩else⟨m,n,0,0,x.r,0⟩
def onS(x:Z8)(X Y:Sn):Sn:=
 ((Sn.mul ⟨X.m,X.n,(x.d.x:Rat),0,0,0⟩ ⟨X.m,X.n,X.p-(x.p.x:Rat),X.q,X.r,X.s⟩).add (Sn.mul ⟨X.m,X.n,(x.d.y:Rat),0,0,0⟩ ⟨Y.m,Y.n,Y.p-(x.p.y:Rat),Y.q,Y.r,Y.s⟩)).add (ZU x X.m X.n).neg
structure XP(P:Sn×Sn)(t:Xy):Prop where
 xm:P.1.m=t.m
 xn:P.1.n=t.n
 ym:P.2.m=t.m
 yn:P.2.n=t.n
 m0:0≤t.m
 n0:0≤t.n
 a:(onS t.a P.1 P.2).fold.nil
 b:(onS t.b P.1 P.2).fold.nil
def Mu(l:List (Sn×Sn))(w:List Xy):Prop:=l.length=w.length∧∀(i:Nat) (a:Sn×Sn) (b:Xy),l[i]? =some a→w[i]? =some b→XP a b
theorem Mu.nil:Mu [] []:=⟨rfl,fun i a b h=>by simp at h⟩
theorem Mu.cons{a:Sn×Sn}{b:Xy}{l:List (Sn×Sn)}{w:List Xy}(h:XP a b)(hl:Mu l w):Mu (a::l) (b::w):=⟨by simp[hl.1],fun i x y hx hy=>by
 cases i with
 |zero=>simp at hx hy;subst hx hy;exact h
 |succ i=>exact hl.2 i x y hx hy⟩
theorem SL(d:Dp):kE (eS d)=kE d∧kE (iG d)=kE d:=by
 unfold kE eS iG;simp only[s8];omega
theorem BC{d:Dp}(h:iu 4294967296 d):(kE d).natAbs<2^67:=by
 unfold iu at h;have h1:d.x.natAbs*d.x.natAbs≤4294967296*4294967296:=aY (by omega) (by omega);have h2:d.y.natAbs*d.y.natAbs≤4294967296*4294967296:=aY (by omega) (by omega);have e:(kE d).natAbs≤d.x.natAbs*d.x.natAbs+d.y.natAbs*d.y.natAbs:=by
  unfold kE;rw[←cK,←cK];exact Int.natAbs_add_le _ _
 exact iz e (iz (Nat.add_le_add h1 h2) (by decide))
theorem Cv{d e:Dp}(h:iu 4294967296 d)(g:iu 4294967296 e):(qG d e).natAbs<2^67:=by
 unfold iu at h g;have h1:d.x.natAbs*e.x.natAbs≤4294967296*4294967296:=aY (by omega) (by omega);have h2:d.y.natAbs*e.y.natAbs≤4294967296*4294967296:=aY (by omega) (by omega);have e:(qG d e).natAbs≤d.x.natAbs*e.x.natAbs+d.y.natAbs*e.y.natAbs:=by
  unfold qG;rw[←cK,←cK];exact Int.natAbs_add_le _ _
 exact iz e (iz (Nat.add_le_add h1 h2) (by decide))
theorem lN{d:Dp}(h:iu 4294967296 d):d.x.natAbs<2^34∧d.y.natAbs<2^34:=by
 unfold iu at h;omega
theorem zN{d:Dp}(h:iu 4294967296 d):iu 4294967296 (eS d)∧iu 4294967296 (iG d)∧iu 4294967296 (jk d):=by
 unfold iu eS iG jk at*;simp only;omega
open Go.RowKit Go.MapKept
structure KO(α:Type) where
 f:α→Value
 d:TypeDesc
 inj:∀a b,f a=f b→a=b
 key:∀a,IsKey d (f a)
def dw:KO Int:=⟨.int .i64,.int .i64,fun a b h=>by injection h,fun a=>rfl⟩
def dU:KO ByteArray:=⟨.string,.string,fun a b h=>by injection h,fun a=>trivial⟩
section
variable{α:Type} [DecidableEq α]
def gw{β:Type}(k:α):List (α×β)→Option β
 | []=>none
 |(a,v)::r=>if k=a then some v else gw k r
def lk{β:Type}(k:α)(v:β):List (α×β)→List (α×β)
 | []=>[(k,v)]
 |(a,u)::r=>if k=a then(k,v)::r else(a,u)::lk k v r
def sJ(k:α):List (α×Value)→Nat→Option (Nat×Value)
 | [],_=>none
 |(a,v)::r,i=>if k=a then some (i,v)else sJ k r (i+1)
def bM(K:KO α)(l:List (α×Value)):List (Value×Value):=l.map fun e=>(K.f e.1,e.2)
theorem iq{β:Type}(k j:α)(v:β):∀l:List (α×β),gw j (lk k v l)=if j=k then some v else gw j l
 | []=>by simp[lk,gw]
 |(a,u)::r=>by
  unfold lk;by_cases h:k=a
  ·subst h;simp only[e8,gw];by_cases hj:j=k<;>simp[hj]
  ·simp only[h,d_,gw];by_cases hj:j=a
   ·subst hj;simp[Ne.symm h]
   ·simp only[hj,d_];exact iq k j v r
theorem Ci(k:α):∀(l:List (α×Value)) (i:Nat),(sJ k l i).map (·.2)=gw k l
 | [],i=>rfl
 |(a,u)::r,i=>by
  unfold sJ gw;by_cases h:k=a
  ·simp[h]
  ·simp only[h,d_];exact Ci k r (i+1)
theorem Ad{k:α}:∀{l:List (α×Value)} {i:Nat},sJ k l i=none→∀v,lk k v l=l++[(k,v)]
 | [],i,_,v=>rfl
 |(a,u)::r,i,h,v=>by
  unfold sJ at h;unfold lk;by_cases hk:k=a
  ·simp[hk]at h
  ·simp only[hk,d_]at h⊢;rw[Ad h v];rfl
theorem Ae{k:α}:∀{l:List (α×Value)} {i j:Nat} {u:Value},sJ k l i=some (j,u)→i≤j∧l[j-i]? =some (k,u)∧∀v,lk k v l=l.set (j-i) (k,v)
 | [],i,j,u,h=>by simp[sJ]at h
 |(a,w)::r,i,j,u,h=>by
  unfold sJ at h;by_cases hk:k=a
  ·subst hk;simp only[e8,ar,aH]at h;obtain⟨rfl,rfl⟩:=h;refine⟨ak _,by simp,fun v=>by simp[lk]⟩
  ·simp only[hk,d_]at h;obtain⟨h1,h2,h3⟩:=Ae h;refine⟨by omega,?_,fun v=>?_⟩
   ·rw[show j-i=(j-(i+1))+1 by omega];simpa using h2
   ·unfold lk;simp only[hk,d_];rw[h3 v,show j-i=(j-(i+1))+1 by omega];rfl
theorem tF(K:KO α)(k:α):∀(es:List MapEntry) (l:List (α×Value)) (i:Nat),es.map (fun e=>(e.key,e.val))=bM K l→Instr.findNow K.d (K.f k) es i=some (sJ k l i)
 | [],[],i,_=>rfl
 | [],y::l,i,h=>by simp[bM]at h
 |e::es,[],i,h=>by simp[bM]at h
 |e::es,(a,v)::l,i,h=>by
  simp only[bM,bY,jh,aH]at h;obtain⟨⟨h1,h2⟩,h3⟩:=h;obtain⟨r,hr,YZ⟩:=sameNow_of_keys (K.key k) (K.key a);unfold Instr.findNow;rw[h1,hr];unfold sJ;by_cases hk:k=a
  ·subst hk;rw[YZ.2 rfl,h2];simp
  ·have:r=false:=by
    cases r with
    |false=>rfl
    |true=>exact absurd (K.inj _ _ (YZ.1 rfl)) hk
   subst this;simp only[hk,d_];exact tF K k es l (i+1) h3
end
section
variable{T:Tb}{P:Program}{fin:VS→List aD→Prop}{c:fG}{Γ:List aD}
def EC(e:Ev)(O:List (Nat×List Value))(M:List (Nat×List (Value×Value)))(v:Value):fG:=
 match e with
 | .own o c'=>⟨({c'.s with own:=O,maps:=M}:VS).put o.dst (.val v),c'.k⟩
 |_=>⟨⟨[],[],[],[]⟩,[]⟩
def Ku(e:Ev):Option (List (Nat×List Value)×List (Nat×List (Value×Value))):=
 match e with
 | .own o c'=>match o.op with
  | .makeMap _ none=>some (c'.s.own,c'.s.maps)
  |_=>none
 |_=>none
def Kt(e:Ev):Option (TypeId×Value×Value×Bool×List (Nat×List Value)×List (Nat×List (Value×Value))):=
 match e with
 | .own o c'=>match o.op with
  | .lookup t m k ok=>match c'.s.ev m,c'.s.ev k with
   | .val mv,.val kv=>some (t,mv,kv,ok,c'.s.own,c'.s.maps)
   |_,_=>none
  |_=>none
 |_=>none
def Kv(e:Ev):Option (TypeId×Value×Value×Value×List (Nat×List Value)×List (Nat×List (Value×Value))):=
 match e with
 | .own o c'=>match o.op with
  | .mapUpdate t m k x=>match c'.s.ev m,c'.s.ev k,c'.s.ev x with
   | .val mv,.val kv,.val xv=>some (t,mv,kv,xv,c'.s.own,c'.s.maps)
   |_,_,_=>none
  |_=>none
 |_=>none
theorem Jh(D:List Nat)(own:List (Nat×List Value))(maps:List (Nat×List (Value×Value)))
  (hk:∀g,W T P fin (EC (aL T (bh T D 999 c)) own ((g,[])::maps) (.map (some g))) Γ)(h:Ku (aL T (bh T D 999 c))=some (own,maps):=by kernel_rfl):W T P fin c Γ:=by
 refine eD D 999 ?_;generalize bh T D 999 c=c1 at*;unfold Ku at h;split at h
 ·rename_i o c' he;rw[he]at hk;split at h
  ·rename_i t hop;simp only[ar,aH]at h;obtain⟨rfl,rfl⟩:=h;refine W.mop (fun v O M Δ=>∃g,v=.map (some g)∧O=c'.s.own∧M=(g,[])::c'.s.maps∧Δ=[]) he ?_ (fun v O M Δ ⟨g,e1,e2,e3,e4⟩=>by subst e1 e2 e3 e4;exact hk g);intro I w hd hh ho hon hm hmn hx;have hlt:∀b m,(b,m)∈c'.s.maps→b<w.heap.size:=fun b m hb=>by
    obtain⟨es,cl,g1,_⟩:=hm b m hb;exact cu g1
   refine⟨.map (some w.heap.size),c'.s.own,(w.heap.size,[])::c'.s.maps,[],w.alloc (.map #[] 0),.value (.map (some w.heap.size)),?_,.inl rfl,⟨_,rfl,rfl,rfl,rfl⟩,?_,?_,fun b cs hb=>.inl (.inl ⟨cs,hb⟩),hon,?_,?_,?_,aG.nil _ _⟩
   ·simp only[execOp,hop,Option.map_none,Instr.makeMap,cz,dS,run_newObj,bB,World.alloc_eq]
   ·exact⟨rfl,rfl,rfl,by simp,fun k hk' _=>kF _ _ _ hk'⟩
   ·intro b cs hb;obtain⟨e,h1,h2⟩:=ho b cs hb;exact⟨e,h1,by rw[kF _ _ _ (cu h2)];exact h2⟩
   ·intro b m hb;rcases List.mem_cons.1 hb with hb|hb
    ·injection hb with h1 h2;subst h1 h2;exact⟨#[],0,(heap_alloc w _).1,rfl⟩
    ·obtain⟨es,cl,g1,g2⟩:=hm b m hb;exact⟨es,cl,by rw[kF _ _ _ (cu g1)];exact g1,g2⟩
   ·intro b m hb;rcases List.mem_cons.1 hb with hb|hb
    ·injection hb with h1 h2;subst h1;exact .inr (ak _)
    ·exact .inl (.inr ⟨m,hb⟩)
   ·simp only[bY,ko];refine⟨fun hmm=>?_,hmn⟩;obtain⟨⟨b,m⟩,h1,h2⟩:=List.mem_map.1 hmm;have:=hlt b m h1;simp only at h2;omega
  ·simp at h
 ·simp at h
theorem vm(D:List Nat){α:Type} [DecidableEq α](K:KO α)(ty key el:TypeId)(ok:Bool)(own:List (Nat×List Value))(maps:List (Nat×List (Value×Value)))(b:Nat)(k:α)(l:List (α×Value))(z:Value)(hT:T.Ok P)
   (lU:(b,bM K l)∈maps)
  (hk:W T P fin (EC (aL T (bh T D 999 c)) own maps (if ok then .tuple #[(gw k l).getD z,.bool (gw k l).isSome]else(gw k l).getD z)) Γ)(h:Kt (aL T (bh T D 999 c))=some (ty,.map (some b),K.f k,ok,own,maps):=by kernel_rfl)(ht:P.underlying ty=some (.map key el):=by kernel_rfl)(hkd:P.underlying key=some K.d:=by kernel_rfl)(hz:(T.get el).map (·.zero)=some z:=by kernel_rfl):W T P fin c Γ:=by
 refine eD D 999 ?_;generalize bh T D 999 c=c1 at*;unfold Kt at h;split at h
 ·rename_i o c' he;rw[he]at hk;split at h
  ·rename_i t m x ok' hop;split at h
   ·rename_i mv kv e1 e2;simp only[ar,aH]at h;obtain⟨rfl,rfl,rfl,rfl,rfl,rfl⟩:=h;refine W.mop (fun v O M Δ=>v=(if ok' then .tuple #[(gw k l).getD z,.bool (gw k l).isSome]else(gw k l).getD z)∧O=c'.s.own∧M=c'.s.maps∧Δ=[]) he ?_ (fun v O M Δ ⟨e1,e2,e3,e4⟩=>by subst e1 e2 e3 e4;exact hk);intro I w hd hh ho hon hm hmn hx;obtain⟨es,clock,hb,hes⟩:=hm b _ lU;have hf:=tF K k es.toList l 0 hes;obtain⟨y,hy,hyz⟩:∃y,T.get el=some y∧y.zero=z:=by
     cases hg:T.get el with
     |none=>rw[hg]at hz;simp at hz
     |some y=>rw[hg]at hz;simp at hz;exact⟨y,rfl,hz⟩
    obtain⟨i,d,hi,hdd,EP,_⟩:=e_ (hT.ty _ _ hy);refine⟨_,c'.s.own,c'.s.maps,[],w,.value (if ok' then .tuple #[(gw k l).getD z,.bool (gw k l).isSome]else(gw k l).getD z),?_,.inl rfl,⟨rfl,rfl,rfl,rfl⟩,j9.refl _ _,ho,fun b cs hb=>.inl (.inl ⟨cs,hb⟩),hon,hm,fun b m hb=>.inl (.inr ⟨m,hb⟩),hmn,aG.nil _ _⟩;have Lr:=Ci k l 0;simp only[execOp,hop,cC e1,cC e2,Instr.lookup,cz,cL ht,bB,Go.MapKept.run_getObj_map hb,dS,run_checkKey hkd (K.key k),run_findKey hkd hf];cases ha:sJ k l 0 with
    |none=>
     rw[ha]at Lr;rw[←Lr];simp only[cz,G_ hi EP,bB,dS,Option.map_none,Option.getD_none,lI,hyz]
    |some p=>
     rw[ha]at Lr;rw[←Lr];simp only[cz,bB,dS,c_,jD,oZ]
   ·simp at h
  ·simp at h
 ·simp at h
theorem Cf(D:List Nat){α:Type} [DecidableEq α](K:KO α)(ty key el:TypeId)(own:List (Nat×List Value))(M1 M2:List (Nat×List (Value×Value)))(b:Nat)(k:α)(v:Value)(l:List (α×Value))
  
  (hk:W T P fin (EC (aL T (bh T D 999 c)) own (M1++(b,bM K (lk k v l))::M2) undef) Γ)(h:Kv (aL T (bh T D 999 c))=some (ty,.map (some b),K.f k,v,own,M1++(b,bM K l)::M2):=by kernel_rfl)(ht:P.underlying ty=some (.map key el):=by kernel_rfl)(hkd:P.underlying key=some K.d:=by kernel_rfl):W T P fin c Γ:=by
 refine eD D 999 ?_;generalize bh T D 999 c=c1 at*;unfold Kv at h;split at h
 ·rename_i o c' he;rw[he]at hk;split at h
  ·rename_i t m x u hop;split at h
   ·rename_i mv kv xv e1 e2 e3;simp only[ar,aH]at h;obtain⟨rfl,rfl,rfl,rfl,rfl,em⟩:=h;refine W.mop (fun v' O M Δ=>v'=undef∧O=c'.s.own∧M=M1++(b,bM K (lk k xv l))::M2∧Δ=[]) he ?_ (fun v O M Δ ⟨e1,e2,e3,e4⟩=>by subst e1 e2 e3 e4;exact hk);intro I w hd hh ho hon hm hmn hx;rw[em]at hm hmn hx⊢;obtain⟨es,clock,hb,hes⟩:=hm b (bM K l) (by simp);have hf:=tF K k es.toList l 0 hes;have hne:∀b' m,((b',m)∈M1∨(b',m)∈M2)→b'≠b:=fun b' m qO e=>by
     subst e;simp only[aT,bY]at hmn;have:=(List.perm_middle (a:=b') (l₁:=M1.map (·.1)) (l₂:=M2.map (·.1))).nodup_iff.1 hmn;rw[ko]at this;apply this.1;rcases qO with qO|qO
     ·exact gK _ (List.mem_map.2 ⟨(b',m),qO,rfl⟩)
     ·exact ik _ (List.mem_map.2 ⟨(b',m),qO,rfl⟩)
    have hown:∀b' cs,(b',cs)∈c'.s.own→b'≠b:=fun b' cs qO e=>by
     subst e;obtain⟨e',_,g⟩:=ho b' cs qO;rw[hb]at g;simp at g
    obtain⟨Yv,DM,hrun,Ij⟩:∃Yv DM,(execOp c'.s.rho o).run P w=.ok .skip {w with heap:=w.heap.setIfInBounds b (.map Yv DM)}∧Yv.toList.map (fun e=>(e.key,e.val))=bM K (lk k xv l):=by
     simp only[execOp,hop,cC e1,cC e2,cC e3,Instr.mapUpdate,cz,cL ht,bB,Go.MapKept.run_getObj_map hb,dS,run_checkKey hkd (K.key k),run_findKey hkd hf];cases ha:sJ k l 0 with
     |none=>
      refine⟨es.push {key:=K.f k,val:=xv,born:=clock},clock+1,by simp only[run_setObj_map _ hb,bB],?_⟩;rw[Ad ha];simp only[Array.toList_push,aT,bY,dk,hes,bM]
     |some p=>
      obtain⟨j,u⟩:=p;obtain⟨_,g2,g3⟩:=Ae ha;rw[Nat.sub_zero]at g2 g3;have g4:(bM K l)[j]? =some (K.f k,u):=by simp[bM,g2]
      rw[←hes,bK]at g4;obtain⟨e0,Vy,NY⟩:∃e0,es.toList[j]? =some e0∧(e0.key,e0.val)=(K.f k,u):=by
       cases hj:es.toList[j]? with
       |none=>rw[hj]at g4;simp at g4
       |some e0=>rw[hj]at g4;exact⟨e0,rfl,by simpa using g4⟩
      simp only[aH]at NY;have hj:es[j]? =some e0:=by simpa using Vy
      refine⟨es.modify j fun e=>{key:=K.f k,val:=xv,born:=e.born},clock,by simp only[hj,c_,jD,NY.1,cz,run_keyThatStays (K.key k),run_setObj_map _ hb,bB],?_⟩;rw[g3 xv];refine List.ext_getElem? fun i=>?_;simp only[bM,bK,bA,eO,jX];have hi:=dH (fun q=>q[i]?) hes;simp only[bM,bK,eO]at hi;have hlen:es.size=l.length:=by
       have:=dH List.length hes;simpa [bM]using this
      by_cases hij:j=i
      ·subst hij;have hjl:j<l.length:=(List.getElem?_eq_some_iff.1 g2).1;rw[hj];simp[hjl]
      ·simp only[hij,d_];exact hi
    have FX:=heap_set (o':=.map Yv DM) hb;refine⟨undef,c'.s.own,M1++(b,bM K (lk k xv l))::M2,[],_,.skip,hrun,.inr ⟨rfl,rfl⟩,⟨rfl,rfl,rfl,rfl⟩,⟨rfl,rfl,rfl,by simp,fun i _ hi=>FX.2 i (fun e=>hi (.inr ⟨bM K l,by subst e;simp⟩))⟩,?_,fun b cs hb=>.inl (.inl ⟨cs,hb⟩),hon,?_,?_,?_,aG.nil _ _⟩
    ·intro b' cs qO;obtain⟨e,h1,h2⟩:=ho b' cs qO;exact⟨e,h1,by rw[FX.2 b' (hown b' cs qO)];exact h2⟩
    ·intro b' m qO;simp only[dI,aF,aH]at qO;rcases qO with qO|⟨rfl,rfl⟩|qO
     ·obtain⟨es1,cl1,h1,h2⟩:=hm b' m (by simp[qO]);exact⟨es1,cl1,by rw[FX.2 b' (hne b' m (.inl qO))];exact h1,h2⟩
     ·exact⟨Yv,DM,FX.1,Ij⟩
     ·obtain⟨es1,cl1,h1,h2⟩:=hm b' m (by simp[qO]);exact⟨es1,cl1,by rw[FX.2 b' (hne b' m (.inr qO))];exact h1,h2⟩
    ·intro b' m qO;simp only[dI,aF,aH]at qO;rcases qO with qO|⟨rfl,rfl⟩|qO
     ·exact .inl (.inr ⟨m,by simp[qO]⟩)
     ·exact .inl (.inr ⟨bM K l,by simp⟩)
     ·exact .inl (.inr ⟨m,by simp[qO]⟩)
    ·simpa using hmn
   ·simp at h
  ·simp at h
 ·simp at h
end
def ZY(L:List Nat)(B:Prop)(v:Value):Tb:={tb with hand:=true,calm:=fun f=> !lK f L,pan:=fun ch=>B∧ch=[{v,recovered:=false}]}
theorem ZZ(L:List Nat)(B:Prop)(v:Value):(ZY L B v).Ok Tryz.prog:=⟨aB.mixed,aB.ty⟩
theorem aw.m{L:List Nat}{B:Prop}{x:Value}{f:FuncId}{args:List Value}{Γ:List aD}{post:Value→List aD→Prop}(h:aw tb Tryz.prog f args Γ post):aw (ZY L B x) Tryz.prog f args Γ post:=h
theorem kt.m{L:List Nat}{B:Prop}{x:Value}{f:FuncId}{args:List Value}{Γ:List aD}{post:Value→List (Nat×List Value)→List aD→Prop}(h:kt tb Tryz.prog f args Γ post):kt (ZY L B x) Tryz.prog f args Γ post:=h
open Go.RowKit Go.ChangeShapes Go.WideShapes
section
variable{H:Type}{enc:TypeId×Value→H}{P:Program}{w:World}
theorem IG{t:TypeId}{fs:Array Field}{v:Value}{d:DataW H}{ps:List MemPlace}(ht:P.underlying t=some (.struct fs)){r:Reach}{b0:Nat}(hval:Value.okWide P w r b0 t v)(h:DataW.Trod enc P w 0 (fun _=>true) true t v d ps):
  ∃cs:Array Value,v=.agg cs∧cs.size=P.cellsOf t∧∀(i:Nat) (f:Field),fs[i]? =some f→f.offset=i→P.cellsOf f.type=1→∀c,cs[i]? =some c→∃n y,DataW.trod enc P w 0 (fun _=>true) true n f.type [c]=some y:=by
 obtain⟨cs,rfl,hsz⟩:=okWide_struct ht hval;obtain⟨fuel,hf⟩:=h;obtain⟨xs,n,_,hx,hl,hlen,hff⟩:=DataW.trod_struct ht hf;refine⟨cs,rfl,hsz,fun i f hi ho hc c hcs=>?_⟩;have hix:i<xs.length:=by
  have:=(Array.getElem?_eq_some_iff.1 hi).1;omega
 have:=hff i f hi;rw[ho,hc]at this;refine⟨n,xs[i],?_⟩;have e:((Value.agg cs).cells.toList.drop i).take 1=[c]:=by
  have hlt:=(Array.getElem?_eq_some_iff.1 hcs).1;simp only[Value.cells];rw[bC (by simpa using hlt)];simp only[kX,mQ,Array.getElem_toList];rw[(Array.getElem?_eq_some_iff.1 hcs).2]
 rw[e]at this;rw[this,ai hix]
theorem Ak{t:TypeId}{k:IntKind}{c:Value}{n:Nat}{y:DataW H×List MemPlace}(ht:P.underlying t=some (.int k))(h:DataW.trod enc P w 0 (fun _=>true) true n t [c]=some y):∃z,c=.int k z∧(Lit.int k z).wf=true:=by
 obtain⟨z,hc,_,hw⟩:=DataW.trod_int ht h;simp at hc;exact⟨z,hc,hw⟩
end
def tN:Code→List It→List (Code×List It)
 | .seq a b,k=>tN a (.code b::k)++tN b k
 | .block id b,k=>tN b (.blk id::k)
 | .cond _ a b,k=>tN a k++tN b k
 | .scope b,k=>tN b k
 | .loop b,k=>[(b,k)]
 |_,_=>[]
def VV(fn:Func)(i:Nat):Code:=match fn.body with
 |some c=>((tN c []).getD i (.skip,[])).1
 |none=>.skip
def VW(fn:Func)(i:Nat):List It:=match fn.body with
 |some c=>((tN c []).getD i (.skip,[])).2
 |none=>[]
def ZQ(l:List SV):List (Nat×SV)→List SV
 | []=>l
 |(i,v)::r=>ZQ (l.set i v) r
def ZP(l:List (Option (List Value))):List (Nat×List Value)→List (Option (List Value))
 | []=>l
 |(i,v)::r=>ZP (l.set i (some v)) r
def iJ(nt nb:Nat)(U:List (Nat×SV))(X:List (Nat×List Value))(O:List (Nat×List Value))(M:List (Nat×List (Value×Value))):VS:=
 ⟨ZQ (List.replicate nt .junk) U,ZP (List.replicate nb none) X,O,M⟩
def VS.only(s:VS)(N B:List Nat):VS:=s.forget (jW N (List.range s.tmps.length)) (jW B (List.range s.boxes.length))
section
variable{T:Tb}{P:Program}{fin:VS→List aD→Prop}{c:fG}{Γ:List aD}
theorem j0(D:List Nat)(fn:Func)(ix nt nb:Nat){α:Type}(N B:List Nat)(U:α→List (Nat×SV))(X:α→List (Nat×List Value))(O:α→List (Nat×List Value))(M:α→List (Nat×List (Value×Value)))(G:α→List aD)(inv:α→Prop)(μ:α→Nat)(a0:α)
  
  
  (i0:inv a0)(f0:∀I w,br T I w→aG Γ I w→aG (G a0) I w)
  (hr:∀(a:α) (R:VS→List aD→Prop),inv a→
   (∀(D':List Nat) (c':fG) (Γ':List aD) (a':α),og (aL T (bh T D' 999 c'))=some R→
    (oh (aL T (bh T D' 999 c'))).map (fun s=>s.only N B)=some (iJ nt nb (U a') (X a') (O a') (M a'))→
    inv a'→μ a'<μ a→(∀I w,br T I w→aG Γ' I w→aG (G a') I w)→W T P fin c' Γ')→
   W T P fin ⟨iJ nt nb (U a) (X a) (O a) (M a),.code (VV fn ix)::.again R::VW fn ix⟩ (G a))(h:qJ (aL T (bh T D 999 c))=true:=by kernel_rfl)(hb:vW (aL T (bh T D 999 c))=VV fn ix:=by kernel_rfl)(hk:Gi (aL T (bh T D 999 c))=VW fn ix:=by kernel_rfl)(h0:(nR (aL T (bh T D 999 c))).only N B=iJ nt nb (U a0) (X a0) (O a0) (M a0):=by kernel_rfl):W T P fin c Γ:=by
 refine eD D 999 ?_;generalize bh T D 999 c=c1 at*;generalize he:aL T c1=e at*;cases e with
 |loop b c'=>
  have hb:b=VV fn ix:=hb;have hk:c'.k=VW fn ix:=hk;rw[←hb,←hk]at hr;have key:∀(m:Nat) (s:VS) (Γ':List aD),(∃a,s.only N B=iJ nt nb (U a) (X a) (O a) (M a)∧inv a∧μ a=m∧∀I w,br T I w→aG Γ' I w→aG (G a) I w)→
    W T P fin ⟨s,.code b::.again (fun s' Γ'=>∃m',m'<m∧∃a,s'.only N B=iJ nt nb (U a) (X a) (O a) (M a)∧inv a∧μ a=m'∧∀I w,br T I w→aG Γ' I w→aG (G a) I w)::c'.k⟩ Γ':=by
   rintro m s Γ' ⟨a,hs,hi,rfl,hf⟩;refine W.forget (jW N (List.range s.tmps.length)) (jW B (List.range s.boxes.length)) rfl ?_;rw[show s.forget (jW N (List.range s.tmps.length)) (jW B (List.range s.boxes.length))=iJ nt nb (U a) (X a) (O a) (M a)from hs];refine W.sub rfl hf ?_;refine hr a _ hi (fun D' c' Γ' a' hR hS hi' hl' hf'=>?_);refine eD D' 999 ?_;generalize bh T D' 999 c'=c2 at*;cases hv:aL T c2<;>rw[hv]at hR hS<;>simp[og,oh]at hR hS;subst hR;exact W.again hv ⟨μ a',hl',a',hS,hi',rfl,hf'⟩
  exact W.loop (fun m s Γ'=>∃a,s.only N B=iJ nt nb (U a) (X a) (O a) (M a)∧inv a∧μ a=m∧∀I w,br T I w→aG Γ' I w→aG (G a) I w) (μ a0) he ⟨a0,h0,i0,rfl,f0⟩ key
 |_=>simp[qJ]at h
end
end Go.Proofs.YtgaaopjagcaojaaGreat
