import Derived.Test.YtgaaopjagcaojaaGreatPr
import Derived.Laws.MakeOwn
import Derived.Laws.BytesArg
import Derived.Test.YtgaaopjagcaojaaGreatProg
import Derived.Test.YtgaaopjagcaojaaGreatVy
import Derived.Test.YtgaaopjagcaojaaGreatNatU
import Derived.Deep.RegionHeld3
import Derived.Deep.RegionWith
import Derived.Deep.DrawnRows
import Derived.BigRegion
import Derived.Deep.DeepCutAuto
import Derived.Deep.LoopGhost
import Derived.Test.YtgaaopjagcaojaaGreatOv
import Derived.Test.YtgaaopjagcaojaaGreatSy
import Derived.Test.YtgaaopjagcaojaaGreatSu
set_option linter.unusedSimpArgs false
set_option linter.unusedVariables false
set_option maxHeartbeats 4000000
namespace Go.Proofs.YtgaaopjagcaojaaGreat
open Go.RowKit
abbrev af:=@Go.IntKind.wrap_i64
def En(e:Ev):Option (Bool×Value×Value):=
 match e with
 | .read o c=>match o.op with
  | .call cl=>match cl.callee,cl.args.toList with
   | .builtin .max,[x,y]=>match c.s.ev x,c.s.ev y with
    | .val a,.val b=>some (true,a,b)
    |_,_=>none
   | .builtin .min,[x,y]=>match c.s.ev x,c.s.ev y with
    | .val a,.val b=>some (false,a,b)
    |_,_=>none
   |_,_=>none
  |_=>none
 |_=>none
def Kc(T:Tb)(e:Ev):Option (List (Nat×List Value)×Nat×Nat×List Value×Value×Value):=
 match e with
 | .own o c=>match o.op with
  | .makeSlice ty l cp=>match T.get ty,c.s.ev l,c.s.ev cp with
   |some t,.val a,.val b=>bif (Nat.beq t.kind 3&&(!Nat.beq t.esize 0&&(Nat.beq t.ezero.length t.esize&& !T.dat t.elem)))then some (c.s.own,t.esize,t.ebytes,t.ezero,a,b)else none
   |_,_,_=>none
  |_=>none
 |_=>none
def Eo(T:Tb)(e:Ev):Option (List (Nat×List Value)×Nat×Value×Value):=
 match e with
 | .own o c=>match o.op with
  | .store ty x v=>match T.get ty,c.s.ev x,c.s.ev v with
   |some t,.val a,.val u=>some (c.s.own,t.size,a,u)
   |_,_,_=>none
  |_=>none
 |_=>none
def PM(T:Tb)(e:Ev):Option (Option IntKind×Value):=
 match e with
 | .read o c=>match o.op with
  | .convert src dst x=>match T.get src,T.get dst,c.s.ev x with
   |some y,some z,.val a=>match T.get y.elem with
    |some q=>bif (Nat.beq y.kind 3&&(Nat.beq z.kind 2&&(!Nat.beq y.esize 0&&Nat.beq y.ezero.length y.esize)))then some (q.ikind,a)else none
    |none=>none
   |_,_,_=>none
  |_=>none
 |_=>none
def PU(T:Tb)(e:Ev):Option (Nat×Value):=
 match e with
 | .read o c=>match o.op with
  | .sliceToArrayPointer ty x=>match T.get ty,c.s.ev x with
   |some t,.val a=>bif Nat.beq t.kind 4 then some (t.alen,a)else none
   |_,_=>none
  |_=>none
 |_=>none
def zC(T:Tb)(e:Ev):Option (Nat×Value×Option Value×Option Value):=
 match e with
 | .read o c=>match o.op with
  | .slice ty x lo hi none=>match T.get ty,c.s.ev x,QC c.s lo,QC c.s hi with
   |some t,.val a,some l,some h=>bif (Nat.beq t.kind 3&&(!Nat.beq t.esize 0&&Nat.beq t.ezero.length t.esize))then some (t.esize,a,l,h)else none
   |_,_,_,_=>none
  |_=>none
 |_=>none
def Ka(T:Tb)(e:Ev):Bool:=
 match e with
 | .ask o c=>match o.op with
  | .buildSlice ty n ps=>match T.get ty,ps.toList with
   |some t,[]=>Nat.beq t.kind 3&&(!Nat.beq t.esize 0&&(Nat.beq n 0&&Nat.beq t.ezero.length t.esize))
   |_,_=>false
  |_=>false
 |_=>false
section
variable{T:Tb}{P:Program}{fin:VS→List aC→Prop}{c:fC}{Γ:List aC}
theorem W.shl(D:List Nat)(k yk:IntKind)(a b r:Int)(hb:0≤b)(hr:k.wrap (a*2^(min b.toNat k.bits))=r)
  (hk:W T P fin (fZ (aK T (aZ T D 999 c)) (.int k r)) Γ)(h:mQ (aK T (aZ T D 999 c))=some (.shl,.int k a,.int yk b):=by kernel_rfl):W T P fin c Γ:=by
 subst hr;refine eg D 999 ?_;generalize aZ T D 999 c=c1 at*;unfold mQ at h;split at h
 ·rename_i o c' he;rw[he]at hk;split at h
  ·rename_i op ty u v yt hop;split at h
   ·rename_i x y hx hy;simp only[au,aF]at h;obtain⟨rfl,rfl,rfl⟩:=h;refine W.read _ he (.any ?_) hk;intro w;have hb':¬b<0:=by omega
    simp[execOp,hop,cC hx,cC hy,eqGuard,binOp,Op.shift,hb']
   ·simp at h
  ·simp at h
 ·simp at h
theorem W.shr(D:List Nat)(k yk:IntKind)(a b r:Int)(hb:0≤b)(hr:a.fdiv (2^(min b.toNat k.bits))=r)
  (hk:W T P fin (fZ (aK T (aZ T D 999 c)) (.int k r)) Γ)(h:mQ (aK T (aZ T D 999 c))=some (.shr,.int k a,.int yk b):=by kernel_rfl):W T P fin c Γ:=by
 subst hr;refine eg D 999 ?_;generalize aZ T D 999 c=c1 at*;unfold mQ at h;split at h
 ·rename_i o c' he;rw[he]at hk;split at h
  ·rename_i op ty u v yt hop;split at h
   ·rename_i x y hx hy;simp only[au,aF]at h;obtain⟨rfl,rfl,rfl⟩:=h;refine W.read _ he (.any ?_) hk;intro w;have hb':¬b<0:=by omega
    simp[execOp,hop,cC hx,cC hy,eqGuard,binOp,Op.shift,hb']
   ·simp at h
  ·simp at h
 ·simp at h
theorem zY(D:List Nat)(k:IntKind)(a b r:Int)(hb:b≠0)(hr:a.tmod b=r)
  (hk:W T P fin (fZ (aK T (aZ T D 999 c)) (.int k r)) Γ)(h:mQ (aK T (aZ T D 999 c))=some (.rem,.int k a,.int k b):=by kernel_rfl):W T P fin c Γ:=by
 subst hr;refine eg D 999 ?_;generalize aZ T D 999 c=c1 at*;unfold mQ at h;split at h
 ·rename_i o c' he;rw[he]at hk;split at h
  ·rename_i op ty u v yt hop;split at h
   ·rename_i x y hx hy;simp only[au,aF]at h;obtain⟨rfl,rfl,rfl⟩:=h;refine W.read _ he (.any ?_) hk;intro w;simp[execOp,hop,cC hx,cC hy,eqGuard,binOp,Op.intDiv,hb]
   ·simp at h
  ·simp at h
 ·simp at h
theorem W.quo(D:List Nat)(a b r:Int)(hb:b≠0)(hr:IntKind.i64.wrap (a.tdiv b)=r)
  (hk:W T P fin (fZ (aK T (aZ T D 999 c)) (.int .i64 r)) Γ)(h:mQ (aK T (aZ T D 999 c))=some (.quo,.int .i64 a,.int .i64 b):=by kernel_rfl):W T P fin c Γ:=by
 subst hr;refine eg D 999 ?_;generalize aZ T D 999 c=c1 at*;unfold mQ at h;split at h
 ·rename_i o c' he;rw[he]at hk;split at h
  ·rename_i op ty u v yt hop;split at h
   ·rename_i x y hx hy;simp only[au,aF]at h;obtain⟨rfl,rfl,rfl⟩:=h;refine W.read _ he (.any ?_) hk;intro w;simp[execOp,hop,cC hx,cC hy,eqGuard,binOp,Op.intDiv,hb]
   ·simp at h
  ·simp at h
 ·simp at h
theorem RX(a b:Int):(if b>a then b else a)=max a b:=by
 rw[Int.max_def];by_cases h:b>a
 ·rw[if_pos h,if_pos (by omega)]
 ·rw[if_neg h];by_cases h2:a≤b
  ·rw[if_pos h2];omega
  ·rw[if_neg h2]
theorem RY(a b:Int):(if b<a then b else a)=min a b:=by
 rw[Int.min_def];by_cases h:b<a
 ·rw[if_pos h,if_neg (by omega)]
 ·rw[if_neg h,if_pos (by omega)]
theorem Mz(D:List Nat)(k:IntKind)(a b r:Int)(hr:max a b=r)
  (hk:W T P fin (fZ (aK T (aZ T D 999 c)) (.int k r)) Γ)(h:En (aK T (aZ T D 999 c))=some (true,.int k a,.int k b):=by kernel_rfl):W T P fin c Γ:=by
 subst hr;refine eg D 999 ?_;generalize aZ T D 999 c=c1 at*;unfold En at h;split at h
 ·rename_i o c' he;rw[he]at hk;split at h
  ·rename_i cl hop;split at h
   ·rename_i sx xx hcal hargs;split at h
    ·rename_i u v hu hv;simp only[au,aF,true_and]at h;obtain⟨rfl,rfl⟩:=h;have hcargs:cl.args= #[sx,xx]:=by rw[←fM];exact hargs
     refine W.read _ he (.any fun w=>?_) hk;simp[execOp,hop,resolve,invoke,builtin,hcal,hcargs,cC hu,cC hv,Builtin.max_,Builtin.max2,RX]
    ·simp at h
   ·split at h<;>simp at h
   ·simp at h
  ·simp at h
 ·simp at h
theorem pj(D:List Nat)(k:IntKind)(a b r:Int)(hr:min a b=r)
  (hk:W T P fin (fZ (aK T (aZ T D 999 c)) (.int k r)) Γ)(h:En (aK T (aZ T D 999 c))=some (false,.int k a,.int k b):=by kernel_rfl):W T P fin c Γ:=by
 subst hr;refine eg D 999 ?_;generalize aZ T D 999 c=c1 at*;unfold En at h;split at h
 ·rename_i o c' he;rw[he]at hk;split at h
  ·rename_i cl hop;split at h
   ·split at h<;>simp at h
   ·rename_i sx xx hcal hargs;split at h
    ·rename_i u v hu hv;simp only[au,aF,true_and]at h;obtain⟨rfl,rfl⟩:=h;have hcargs:cl.args= #[sx,xx]:=by rw[←fM];exact hargs
     refine W.read _ he (.any fun w=>?_) hk;simp[execOp,hop,resolve,invoke,builtin,hcal,hcargs,cC hu,cC hv,Builtin.min_,Builtin.min2,RY]
    ·simp at h
   ·simp at h
  ·simp at h
 ·simp at h
theorem YO(D:List Nat)(n:Nat)(ao:Option Addr)(len cap:Nat)(hT:T.Ok P)(hl:n≤len)
  (hk:W T P fin (fZ (aK T (aZ T D 999 c)) (.pointer ao)) Γ)(h:PU T (aK T (aZ T D 999 c))=some (n,.slice ao len cap):=by kernel_rfl):W T P fin c Γ:=by
 refine eg D 999 ?_;generalize aZ T D 999 c=c1 at*;unfold PU at h;split at h
 ·rename_i o c' he;rw[he]at hk;split at h
  ·rename_i ty x hop;split at h
   ·rename_i t a ht ha;cases hkd:Nat.beq t.kind 4 with
    |false=>simp[hkd]at h
    |true=>
     simp only[hkd,bQ,au,aF]at h;obtain⟨rfl,rfl⟩:=h;refine W.read _ he (.any fun w=>?_) hk;obtain⟨hd,_⟩:=oQ hT ht (aG hkd);have:¬len<t.alen:=by omega
     simp[execOp,hop,cC ha,Instr.arrayAt,cL hd,this]
   ·simp at h
  ·simp at h
 ·simp at h
theorem ME(D:List Nat)(ao:Option Addr)(n cp:Nat)(zs:List Int)(hT:T.Ok P) [hrp:aY (RA ao) (zs.map (Value.int .u8)) Γ](hn:n=zs.length)
  (hk:W T P fin (fZ (aK T (aZ T D 999 c)) (.string (strOfNums zs))) Γ)(h:PM T (aK T (aZ T D 999 c))=some (some .u8,.slice ao n cp):=by kernel_rfl):W T P fin c Γ:=by
 refine eg D 999 ?_;generalize aZ T D 999 c=c1 at*;unfold PM at h;split at h
 ·rename_i o c' he;rw[he]at hk;split at h
  ·rename_i src dst x hop;split at h
   ·rename_i y z a hy hz ha;split at h
    ·rename_i q hq;cases hc:(Nat.beq y.kind 3&&(Nat.beq z.kind 2&&(!Nat.beq y.esize 0&&Nat.beq y.ezero.length y.esize)))with
     |false=>simp[hc]at h
     |true=>
      simp only[hc,bQ,au,aF]at h;obtain⟨hik,rfl⟩:=h;simp only[aL,cD]at hc;obtain⟨c2,c3,c4,c5⟩:=hc;have hne:y.esize≠0:=by
       intro e0;rw[e0]at c4;simp at c4
      obtain⟨ie,zz,hd,hie,EH,hsz,FC,QQ,hze⟩:=mA hT hy (aG c2) hne (aG c5);have Zx:=yG hT hz (aG c3);have hel:=yD hT hq hik;refine W.read _ he (.look (by simp[iO,hop,hy,aG c2]) ?_) hk;intro I w hdo hh _;have hrow:=hrp.p hh;have hrun:(convert src dst (.slice ao n cp)).run P w=.ok (.string (strOfNums zs)) w:=by
       by_cases hz0:zs=[]
       ·subst hz0;simp only[bh]at hn;subst hn;cases ao with
        |none=>exact run_convert_bytes_nil w src y.elem hd hel 0 cp dst Zx
        |some ad=>
         rw[run_convert_bytes_string w src dst y.elem _ 0 cp hd hel Zx,run_bytesToString w ad 0 cp [] (by simp[loadCells,loadCellsFrom])];rfl
       ·obtain⟨b0,BV,rfl,_,h3⟩:=hrow (by simpa using hz0);refine run_convert_bytes_arg w src y.elem hd hel b0 BV n cp zs hn.symm (fun i hi=>?_) dst Zx;refine h3 i _ ?_;have hi':i<zs.length:=by omega
        simp[List.getD,ak hi']
      simp[execOp,hop,cC ha,hrun]
    ·simp at h
   ·simp at h
  ·simp at h
 ·simp at h
theorem Cc(D:List Nat)(z b off len cap:Nat)(lo hi:Option Value)(l r:Nat)(hT:T.Ok P)
  (hl:lo=some (.int .i64 (l:Int))∨(lo=none∧l=0))(hr:hi=some (.int .i64 (r:Int))∨(hi=none∧r=len))(hlr:l≤r)(hrs:r≤cap)(hla:l<cap)
  (hk:W T P fin (fZ (aK T (aZ T D 999 c)) (.slice (some ⟨b,off+l*z,none⟩) (r-l) (cap-l))) Γ)(h:zC T (aK T (aZ T D 999 c))=some (z,.slice (some ⟨b,off,none⟩) len cap,lo,hi):=by kernel_rfl):W T P fin c Γ:=by
 refine eg D 999 ?_;generalize aZ T D 999 c=c1 at*;unfold zC at h;split at h
 ·rename_i o c' he;rw[he]at hk;split at h
  ·rename_i ty x lo' hi' hop;split at h
   ·rename_i t a l' h' ht ha hlo hhi;cases hkd:(Nat.beq t.kind 3&&(!Nat.beq t.esize 0&&Nat.beq t.ezero.length t.esize))with
    |false=>simp[hkd]at h
    |true=>
     simp only[hkd,bQ,au,aF]at h;obtain⟨rfl,rfl,rfl,rfl⟩:=h;simp only[aL,cD]at hkd;obtain⟨c2,c3,c4⟩:=hkd;have ac0:t.esize≠0:=by
      intro e0;rw[e0]at c3;simp at c3
     obtain⟨ie,zz,hd,hie,EH,hin,FC,QQ,hze⟩:=mA hT ht (aG c2) ac0 (aG c4);refine W.read _ he (.any ?_) hk;intro w;have hrho:∀(q:Option Operand) (z:Option Value),QC c'.s q=some z→q.map c'.s.rho=z:=by
      intro q z hq;cases q with
      |none=>simp[QC]at hq;exact hq
      |some x=>
       simp only[QC]at hq;split at hq
       ·rename_i v hv;injection hq with hq;subst hq;simp[cC hv]
       ·simp at hq
     have hm1:=hrho _ _ hlo;have hm2:=hrho _ _ hhi;have hne:¬cap=l:=by omega
     have hla':l≤cap:=by omega
     simp only[execOp,hop,Instr.sliceAt,cw,cL hd,bu,cC ha,hm1,hm2];rcases hl with rfl|⟨rfl,rfl⟩<;>rcases hr with rfl|⟨rfl,rfl⟩<;>simp[Instr.slice,Instr.sliceBounds,Instr.sliceBound,asIntOf,cL hd,hlr,hrs,hla',hne,iB hie,hin,gI]
   ·simp at h
  ·simp at h
 ·simp at h
theorem Tk(D:List Nat)(hT:T.Ok P)
  (hk:∀b,W T P fin (fZ (aK T (aZ T D 999 c)) (.slice (some ⟨b,0,none⟩) 0 0)) Γ)(h:Ka T (aK T (aZ T D 999 c))=true:=by kernel_rfl):W T P fin c Γ:=by
 refine eg D 999 ?_;generalize aZ T D 999 c=c1 at*;unfold Ka at h;split at h
 ·rename_i o c' he;rw[he]at hk;split at h
  ·rename_i ty m ps hop;split at h
   ·rename_i t ht hps;simp only[aL,cD]at h;obtain⟨c2,c3,c4,c5⟩:=h;have hm:=aG c4;subst hm;have hne:t.esize≠0:=by
     intro e0;rw[e0]at c3;simp at c3
    obtain⟨ie,zz,hd,hie,EH,hsz,FC,QQ,hze⟩:=mA hT ht (aG c2) hne (aG c5);refine W.ask (fun v Δ=>∃b,v=.slice (some ⟨b,0,none⟩) 0 0∧Δ=[]) he (fun I w hdo hh=>?_) ?_
    ·have hps':ps= #[]:=by rw[←fM];simpa using hps
     refine⟨_,_,_,?_,⟨w.heap.size,rfl,rfl⟩,(Below.refl _ _).alloc (aj _) (.cells #[] t.elem),aE.nil _ _⟩;simp[execOp,hop,hps',Instr.buildSlice,cL hd,iB hie,Instr.fill,newRow,show Array.range 0= #[]from by decide]
    ·rintro v Δ ⟨b,rfl,rfl⟩;exact hk b
   ·simp at h
  ·simp at h
 ·simp at h
theorem dK(D:List Nat)(own:List (Nat×List Value))(b off n:Nat)(row:List Value)(v:Value)(hT:T.Ok P)
  (hm:(b,row)∈own)(hv:row[off]? =some v)
  (hk:W T P fin (fZ (aK T (aZ T D 999 c)) v) Γ)(h:uB T (aK T (aZ T D 999 c))=some (false,n,.pointer (some ⟨b,off,none⟩),own):=by kernel_rfl):W T P fin c Γ:=by
 refine eg D 999 ?_;generalize aZ T D 999 c=c1 at*;unfold uB at h;split at h
 ·rename_i o c' he;rw[he]at hk;split at h
  ·rename_i ty u hop;split at h
   ·rename_i t a ht ha;simp only[au,aF]at h;obtain⟨hag,hsz,rfl,rfl⟩:=h;refine W.read _ he (.look (by simp[iO,hop]) ?_) hk;intro I w hd hh ho;obtain⟨e',_,hblk⟩:=ho b row hm;obtain⟨i,d,hi,hdd,hz,hsz',hag',_⟩:=eY (hT.ty _ _ ht);have hc:w.cell? ⟨b,off,none⟩=some v:=by rw[mW hblk];exact hv
    simp[execOp,hop,Instr.loadAt,Instr.sureAddr,cC ha,loadVar,kD hdd,hag',hag,hc]
   ·simp at h
  ·simp at h
 ·simp at h
theorem Tl(D:List Nat)(own:List (Nat×List Value))(z bytes n:Nat)(zs:List Value)(row:List Value)(kl kc:IntKind)(hT:T.Ok P)
   (hrow:(madeCells zs.toArray (n*z)).toList=row)
  (hn:n≤1000000)(hb:bytes≤100000000)
  (hk:∀g,W T P fin (mR (aK T (aZ T D 999 c)) ((g,row)::own) (.slice (some ⟨g,0,none⟩) n n)) Γ)(h:Kc T (aK T (aZ T D 999 c))=some (own,z,bytes,zs,.int kl (n:Int),.int kc (n:Int)):=by kernel_rfl):W T P fin c Γ:=by
 refine eg D 999 ?_;generalize aZ T D 999 c=c1 at*;unfold Kc at h;split at h
 ·rename_i o c' he;rw[he]at hk;split at h
  ·rename_i ty l cp hop;split at h
   ·rename_i t a b ht ha hbv;cases hc:(Nat.beq t.kind 3&&(!Nat.beq t.esize 0&&(Nat.beq t.ezero.length t.esize&& !T.dat t.elem)))with
    |false=>simp[hc]at h
    |true=>
     simp only[hc,bQ,au,aF]at h;obtain⟨hown,rfl,rfl,rfl,rfl,rfl⟩:=h;simp only[aL,cD]at hc;obtain⟨c2,c3,c4,c5⟩:=hc;have hne:t.esize≠0:=by
      intro e0;rw[e0]at c3;simp at c3
     obtain⟨ie,zz,hd,hie,EH,hsz,FC,QQ,hze⟩:=mA hT ht (aG c2) hne (aG c4);have hnb:n*t.ebytes≤100000000000000:=by
      have:=aW hn hb;omega
     have acZ:(ie.bytes:Int)*(n:Int)≤281474976710656:=by
      rw[FC,k7];have:((n*t.ebytes:Nat):Int)≤((100000000000000:Nat):Int):=Int.ofNat_le.2 hnb;rw[dI]at this;omega
     refine W.own (fun v' iE Δ=>∃g,v'=.slice (some ⟨g,0,none⟩) n n∧iE=(g,row)::own∧Δ=[]) he (fun I w hdo hh hoa hnod _=>?_) ?_
     ·have hrun:=run_make (P:=P) w ty t.elem ie zz hd hie EH kl kc (n:Int) (n:Int) (by omega) (by omega) acZ (by omega);simp only[iU]at hrun;rw[hown]at hoa hnod;have FJ:∀b cs,(b,cs)∈own→b<w.heap.size:=fun b cs hb=>by
       obtain⟨_,_,hc⟩:=hoa b cs hb;exact cj hc
      have hold:∀k,k<w.heap.size→(w.alloc (.cells (madeCells zz.cells (n*ie.size)) t.elem)).heap[k]? =w.heap[k]? :=fun k hk=>((Below.refl w.heap.size w).alloc (aj _) _).block k hk;refine⟨_,(w.heap.size,row)::own,[],_,_,?_,.inl rfl,⟨w.heap.size,rfl,rfl,rfl⟩,fun q _ JA=>((Below.refl q w).alloc JA _),?_,fun k hk _=>hold k hk,fun b cs hb=>?_,fun b cs hb=>?_,?_,aE.nil _ _⟩
      ·simp only[execOp,hop,cC ha,cC hbv,cw];rw[hrun];rfl
      ·exact((Below.refl w.heap.size w).alloc (aj _) (.cells (madeCells zz.cells (n*ie.size)) t.elem)).size
      ·rcases List.mem_cons.1 hb with hb|hb
       ·injection hb with h1' h2';subst h1' h2';refine⟨t.elem,c5,?_⟩;have Yf:cs.toArray=madeCells zz.cells (n*ie.size):=by
         rw[←hrow,hze,hsz]
        rw[Yf];show(w.heap.push _)[w.heap.size]? =_;simp
       ·obtain⟨e',he',hc⟩:=hoa b cs hb;exact⟨e',he',by rw[hold b (FJ b cs hb)];exact hc⟩
      ·rcases List.mem_cons.1 hb with hb|hb
       ·injection hb with h1' h2';subst h1';exact .inr (aj _)
       ·exact .inl ⟨cs,by rw[hown];exact hb⟩
      ·rw[cA,j4];refine⟨fun ly=>?_,hnod⟩;obtain⟨⟨b,cs⟩,h1,h2⟩:=List.mem_map.1 ly;have:=FJ b cs h1;simp only at h2;omega
     ·rintro v' iE Δ ⟨g,rfl,rfl,rfl⟩;exact hk g
   ·simp at h
  ·simp at h
 ·simp at h
theorem YP(D:List Nat)(own O1 O2:List (Nat×List Value))(z g off:Nat)(row:List Value)(u:Value)(hT:T.Ok P)
  (h:Eo T (aK T (aZ T D 999 c))=some (own,z,.pointer (some ⟨g,off,none⟩),u))(ho:own=O1++(g,row)::O2)(hz:u.cells.size=z)(h1:∀v∈u.cells.toList,v.oneCell'=true)(hfit:off+z≤row.length)
  (hk:W T P fin (mR (aK T (aZ T D 999 c)) (O1++(g,row.take off++u.cells.toList++row.drop (off+z))::O2) undef) Γ):W T P fin c Γ:=by
 refine eg D 999 ?_;generalize aZ T D 999 c=c1 at*;unfold Eo at h;split at h
 ·rename_i o c' he;rw[he]at hk;split at h
  ·rename_i ty x v hop;split at h
   ·rename_i t a u' ht ha hu;simp only[au,aF]at h;obtain⟨hown,rfl,rfl,rfl⟩:=h;refine W.own (fun v' iE Δ=>v'=undef∧iE=O1++(g,row.take off++u'.cells.toList++row.drop (off+t.size))::O2∧Δ=[]) he (fun I w hdo hh hoa hnod _=>?_) ?_
    ·rw[hown]at hoa hnod;obtain⟨e',he',hblk⟩:=hoa g row (by rw[ho];simp);obtain⟨i,d,hi,hd',EH,hsz,_⟩:=eY (hT.ty _ _ ht);have hlen:u'.cells.toList.length=t.size:=by simpa using hz
     have hst:=run_storeCells_at P g off e' u'.cells.toList 0 row.toArray w hblk (by simp only[pZ];omega) h1;rw[hlen]at hst;have hne:¬u'.cells.size≠i.size:=by simp[hz,hsz]
     have hexec:(execOp c'.s.rho o).run P w=.ok .skip (w.setRow g (row.take off++u'.cells.toList++row.drop (off+t.size)).toArray):=by
      simp only[execOp,hop,Instr.storeAt,Instr.sureAddr,cC ha,cC hu,storeVar,cw,dL,bu,iB hi,if_neg hne,hst,e8]
     refine⟨_,_,[],_,_,hexec,.inr ⟨rfl,rfl⟩,⟨rfl,rfl,rfl⟩,fun q hq _=>⟨rfl,rfl,rfl,by simp,fun k hk=>nQ w g k _ (by have:=hq g row (by rw[hown,ho];simp);omega)⟩,by simp,fun k hk hk'=>nQ w g k _ (by rintro rfl;exact hk' row (by rw[hown,ho];simp)),fun b cs hb=>?_,fun b cs hb=>?_,?_,aE.nil _ _⟩
     ·have hother:((b,cs)∈O1∨(b,cs)∈O2)→∃e,T.dat e=false∧(w.setRow g (row.take off++u'.cells.toList++row.drop (off+t.size)).toArray).heap[b]? =some (Obj.cells cs.toArray e (0,0)):=by
       intro hb;have hbg:=CP (by rw[←ho];exact hnod) b cs hb;obtain⟨e,he2,hc⟩:=hoa b cs (by rw[ho];rcases hb with h|h<;>simp[h]);exact⟨e,he2,by rw[nQ w g b _ hbg];exact hc⟩
      rcases List.mem_append.1 hb with hb|hb
      ·exact hother (.inl hb)
      ·rcases List.mem_cons.1 hb with hb|hb
       ·injection hb with h1' h2';subst h1' h2';exact⟨e',he',by simpa using setRow_heap w b _ _ e' _ hblk⟩
       ·exact hother (.inr hb)
     ·rcases List.mem_append.1 hb with hb|hb
      ·exact .inl ⟨cs,by rw[hown,ho];simp[hb]⟩
      ·rcases List.mem_cons.1 hb with hb|hb
       ·injection hb with h1' h2';subst h1' h2';exact .inl ⟨row,by rw[hown,ho];simp⟩
       ·exact .inl ⟨cs,by rw[hown,ho];simp[hb]⟩
     ·rw[ho]at hnod;simpa using hnod
    ·rintro v' iE Δ ⟨rfl,rfl,rfl⟩;exact hk
   ·simp at h
  ·simp at h
 ·simp at h
theorem nE(D:List Nat)(own O1 O2:List (Nat×List Value))(z g off:Nat)(row:List Value)(u:Value)(aaL:List Value)(hT:T.Ok P)
   (ho:own=O1++(g,row)::O2)(hz:u.cells.size=z)(h1:∀v∈u.cells.toList,v.oneCell'=true)(hfit:off+z≤row.length)
  (hrow:row.take off++u.cells.toList++row.drop (off+z)=aaL)
  (hk:W T P fin (mR (aK T (aZ T D 999 c)) (O1++(g,aaL)::O2) undef) Γ)(h:Eo T (aK T (aZ T D 999 c))=some (own,z,.pointer (some ⟨g,off,none⟩),u):=by kernel_rfl):W T P fin c Γ:=by
 subst hrow;exact YP D own O1 O2 z g off row u hT h ho hz h1 hfit hk
theorem JM(k:IntKind)(z:Int):∀v∈(Value.int k z).cells.toList,v.oneCell'=true:=by
 intro v hv;simp[Value.cells]at hv;subst hv;rfl
theorem Ds(O1 O2:List (Nat×List Value))(b:Nat)(cs:List Value)
  (hk:W T P fin ⟨(dD T 999 c).s.setOwn (O1++O2),(dD T 999 c).k⟩ (d_ b cs::Γ))(ho:(dD T 999 c).s.own=O1++(b,cs)::O2:=by kernel_rfl)(hm:dz (dD T 999 c).k=false:=by kernel_rfl):W T P fin c Γ:=
 W.code 999 (W.pub (s:=(dD T 999 c).s) (k:=(dD T 999 c).k) hm ho hk)
theorem TN{b:Nat}{cs xs:List Value} [h:aY (d_ b) cs Γ](hx:∀(i:Nat) (v:Value),xs[i]? =some v→cs[i]? =some v):∀I w,br T I w→aE Γ I w→aE [RA (some ⟨b,0,none⟩) xs] I w:=fun I w _ hh=>
 aE.cons (RA.of_row (h.p hh) hx) (aE.nil _ _)
theorem Tj(D:List Nat)(own:List (Nat×List Value))(z bytes m b0 BV:Nat)(x:Value)(news:List Value)(hT:T.Ok P)
  (h:pQ T (aK T (aZ T D 999 c))=some (own,z,bytes,.slice (some ⟨b0,BV,none⟩) 0 0,x))(hx:qA T Γ own x m z news)
  (hn:m≤1000000)(hb:bytes≤100000000)
  (hk0:m=0→W T P fin (mR (aK T (aZ T D 999 c)) own (.slice (some ⟨b0,BV,none⟩) 0 0)) Γ)
  (hk:∀g cap cur,0<m→m≤cap→cap≤maxLen→cur.length=cap*z→cur.take (m*z)=news→W T P fin (mR (aK T (aZ T D 999 c)) ((g,cur)::own) (.slice (some ⟨g,0,none⟩) m cap)) Γ):W T P fin c Γ:=by
 refine eg D 999 ?_;generalize aZ T D 999 c=c1 at*;unfold pQ at h;split at h
 ·rename_i o c' he;rw[he]at hk hk0;split at h
  ·rename_i cl hop;split at h
   ·rename_i sx xx t1 t2 hcal hargs htys;split at h
    ·rename_i a b y1 ha hbv hy;cases hc:(Nat.beq t1 t2&&(Nat.beq y1.kind 3&&(!Nat.beq y1.esize 0&&(Nat.beq y1.ezero.length y1.esize&& !T.dat y1.elem))))with
     |false=>simp[hc]at h
     |true=>
      simp only[hc,bQ,au,aF]at h;obtain⟨hown,rfl,rfl,rfl,rfl⟩:=h;simp only[aL,cD]at hc;obtain⟨c1',c2,c3,c4,c5⟩:=hc;have N4:=aG c1';subst N4;have hne:y1.esize≠0:=by
       intro e0;rw[e0]at c3;simp at c3
      obtain⟨ie,zz,hd,hie,EH,hsz,FC,QQ,hze⟩:=mA hT hy (aG c2) hne (aG c4);have hcargs:cl.args= #[sx,xx]:=by rw[←fM];exact hargs
      have hctys:cl.argTypes= #[t1,t1]:=by rw[←fM];exact htys
      obtain⟨ax,cc,rfl,hnl,hrd⟩:=hx;have hnb:(0+m)*y1.ebytes≤140737488355328:=by
       rw[cu];have:=aW hn hb;omega
      refine W.own (fun v' iE Δ=>(m=0∧v'=.slice (some ⟨b0,BV,none⟩) 0 0∧iE=own∧Δ=[])∨(∃g cap cur,0<m∧m≤cap∧cap≤maxLen∧cur.length=cap*y1.esize∧cur.take (m*y1.esize)=news∧v'=.slice (some ⟨g,0,none⟩) m cap∧iE=(g,cur)::own∧Δ=[])) he (fun I w hdo hh hoa hnod p_=>?_) ?_
      ·rw[hown]at hoa hnod;have hexec:∀v' w',(Builtin.append_ #[t1,t1] o.type #[.slice (some ⟨b0,BV,none⟩) 0 0,.slice ax m cc]).run P w=.ok v' w'→(execOp c'.s.rho o).run P w=.ok (.value v') w':=by
        intro v' w' hr;simp[execOp,hop,resolve,invoke,builtin,hcal,hcargs,hctys,cC ha,cC hbv,hr]
       by_cases hm:m=0
       ·subst hm;have hr:=sO (P:=P) w t1 o.type y1.elem ie hd hie (some ⟨b0,BV,none⟩) ax 0 0 cc (aj _);exact⟨_,own,[],w,_,hexec _ _ hr,.inl rfl,.inl ⟨rfl,rfl,rfl,rfl⟩,fun q _ _=>Below.refl _ _,aj _,fun _ _ _=>rfl,hoa,fun b cs hb=>.inl ⟨cs,by rw[hown];exact hb⟩,hnod,aE.nil _ _⟩
       ·obtain⟨ad,rfl,hrd2⟩:=hrd (by omega);have wy:=hrd2 I w hdo hh hoa;obtain⟨v',w',hrun,hw,wv⟩:=run_append_arg_grows (P:=P) w t1 o.type y1.elem ie zz y1.esize y1.ebytes hd hie EH hsz FC QQ (by omega) ⟨b0,BV,none⟩ 0 0 [] (by simp) (fun j u hj=>by simp at hj) ad m cc news hnl wy (by omega) (by unfold maxLen;omega) hnb;obtain⟨_,hw⟩:=hw;rcases hw with⟨_,h0⟩|⟨g,cap,cur,rfl,hge,ZD,hnc,hcm,hcs,htk⟩
        ·omega
        ·have FJ:∀b cs,(b,cs)∈own→b<w.heap.size:=fun b cs hb=>by
          obtain⟨_,_,hc⟩:=hoa b cs hb;exact cj hc
         rw[cu]at hrun hnc htk;refine⟨_,(g,cur.toList)::own,[],w',_,hexec _ _ hrun,.inl rfl,.inr ⟨g,cap,cur.toList,by omega,hnc,hcm,by simpa using hcs,by simpa using htk,rfl,rfl,rfl⟩,fun q _ JA=>⟨wv.os,wv.tape,wv.output,wv.size,fun k hk=>wv.block k (by omega) (by simp)⟩,wv.size,fun k hk _=>wv.block k hk (by simp),fun b cs hb=>?_,fun b cs hb=>?_,?_,aE.nil _ _⟩
         ·rcases List.mem_cons.1 hb with hb|hb
          ·injection hb with h1' h2';subst h1' h2';exact⟨y1.elem,by simpa using c5,by simpa using ZD⟩
          ·obtain⟨e,he',hc⟩:=hoa b cs hb;exact⟨e,he',by rw[wv.block b (FJ b cs hb) (by simp)];exact hc⟩
         ·rcases List.mem_cons.1 hb with hb|hb
          ·injection hb with h1' h2';subst h1';exact .inr hge
          ·exact .inl ⟨cs,by rw[hown];exact hb⟩
         ·rw[cA,j4];refine⟨fun ly=>?_,hnod⟩;obtain⟨⟨b,cs⟩,h1,h2⟩:=List.mem_map.1 ly;have:=FJ b cs h1;simp only at h2;omega
      ·rintro v' iE Δ (⟨hm,rfl,rfl,rfl⟩|⟨g,cap,cur,h0,h1,h2,h3,h4,rfl,rfl,rfl⟩)
       ·exact hk0 hm
       ·exact hk g cap cur h0 h1 h2 h3 h4
    ·simp at h
   ·simp at h
  ·simp at h
 ·simp at h
end
def qV(W:World)(b1 b2:Nat)(w:World):Prop:=(∀(k:Nat) (o:Obj),k≠b1→k≠b2→W.heap[k]? =some o→w.heap[k]? =some o)∧
 (∃v,w.heap[b1]? =some (.cells #[v] 84 (0,0)))∧(∃v,w.heap[b2]? =some (.cells #[v] 84 (0,0)))∧Below b1 W w
theorem qV.call{W w w':World}{b1 b2:Nat}(h:qV W b1 b2 w)(hb:Below w.heap.size w w'):qV W b1 b2 w':=by
 obtain⟨h1,⟨v1,h2⟩,⟨v2,h3⟩,h4⟩:=h;exact⟨fun k o a b c=>bE hb (h1 k o a b c),⟨v1,bE hb h2⟩,⟨v2,bE hb h3⟩,h4.trans (hb.mono (fP (rf h2)))⟩
theorem qV.kp{W w:World}{b1 b2:Nat}(h:qV W b1 b2 w){v1 v2:Value}(h1:W.heap[b1]? =some (.cells #[v1] 84 (0,0)))(h2:W.heap[b2]? =some (.cells #[v2] 84 (0,0))):Kp W w:=fun b c T f hT hb=>by
 refine h.1 b _ ?_ ?_ hb
 ·rintro rfl;rw[h1]at hb;simp at hb;rcases hT with h|h|h<;>rw[←hb.2.1]at h<;>exact absurd h (by decide)
 ·rintro rfl;rw[h2]at hb;simp at hb;rcases hT with h|h|h<;>rw[←hb.2.1]at h<;>exact absurd h (by decide)
theorem qV.refl{W:World}{b1 b2:Nat}{v1 v2:Value}(h1:W.heap[b1]? =some (.cells #[v1] 84 (0,0)))(h2:W.heap[b2]? =some (.cells #[v2] 84 (0,0))):qV W b1 b2 W:=⟨fun _ _ _ _ h=>h,⟨v1,h1⟩,⟨v2,h2⟩,Below.refl _ _⟩
def Dr(w:World)(s:Sl)(g n:Nat)(p:List Nat)(wr:World):Prop:=
 wr.heap[w.heap.size]? =some (.cells #[.slice s.ao s.n s.c] 84 (0,0))∧wr.heap[w.heap.size+1]? =some (.cells #[.slice none 0 0] 84 (0,0))∧
 wr.heap[w.heap.size+1+1]? =some (.cells #[.slice none 0 0] 84 (0,0))∧iE wr (w.heap.size+3) 3 .i64 (.slice (some ⟨g,0,none⟩) n n) p∧Below w.heap.size w wr
theorem Dr.up{w:World}{s:Sl}{g n:Nat}{p:List Nat}{wr w':World}(h:Dr w s g n p wr)(hb:Below wr.heap.size wr w'):Dr w s g n p w':=
 ⟨bE hb h.1,bE hb h.2.1,bE hb h.2.2.1,h.2.2.2.1.below hb (aj _),h.2.2.2.2.trans (hb.mono h.2.2.2.2.size)⟩
section
variable{Γ:List aC}{L M x y:Nat}
end
open Go.RowKit Go.IntWalk
section
variable{fin:VS→List aC→Prop}{Γ:List aC}{L M K:Nat}
end
section
variable{fin:VS→List aC→Prop}{Γ:List aC}{L M K:Nat}
end
section
variable{fin:VS→List aC→Prop}{Γ:List aC}{L M K:Nat}
end
section
variable{fin:VS→List aC→Prop}{Γ:List aC}{L M K:Nat}
end
def AG(z:Int):Prop:= -2147483648≤z∧z≤2147483647
instance(z:Int):Decidable (AG z):=inferInstanceAs (Decidable (_∧_))
theorem CE{z:Int}(h:AG z):gZ z=true:=by
 unfold gZ;unfold AG at h;simp only[aL,dG];omega
section
variable{fin:VS→List aC→Prop}{Γ:List aC}{L M K:Nat}
theorem WT(x y:Sw){X Y:Sn} [aY (SF x) (L,X) Γ] [aY (SF y) (M,Y) Γ](hm:0≤X.m)(hn:0≤X.n)(hm':0≤Y.m)(NS:0≤Y.n)(ha:AG X.nr)(hb:AG Y.nr)(hL:L≤280:=by omega)(hM:M≤280:=by omega):
  aw tb Tryz.prog 144 [Bi x y] Γ (jf (.tuple #[.agg #[.int .i64 X.nr,.int .i64 Y.nr],.int .i64 0])):=by
 refine aw.of_W az Tryz.func144 rfl ?_;refine aq [] (J6 x hm hn) ?_;rintro _ _ ⟨u1,d1,rfl,rfl⟩;refine aq [] (jl u1 d1 (CE ha)) ?_;rintro _ _ ⟨rfl,rfl⟩;refine aq [] (J6 y hm' NS) ?_;rintro _ _ ⟨u3,d3,rfl,rfl⟩;refine aq [] (jl u3 d3 (CE hb)) ?_;rintro _ _ ⟨rfl,rfl⟩;unfold AG at ha hb;refine aR [] 24 (!true) rfl ?_;refine aR [24] 28 (!true) rfl ?_;refine aR [28] 32 (decide (X.nr< -2147483648)) (by rw[aV];omega) ?_;refine aR [32] 36 (decide (X.nr>2147483647)) (by rw[aV];omega) ?_;refine aR [36] 40 (decide (Y.nr< -2147483648)) (by rw[aV];omega) ?_;refine aR [40] 43 (decide (Y.nr>2147483647)) (by rw[aV];omega) ?_;exact W.r [43] (.tuple #[.agg #[.int .i64 X.nr,.int .i64 Y.nr],.int .i64 0]) ⟨rfl,rfl⟩ bR
theorem WS(x y:Sw){X Y:Sn} [aY (SF x) (L,X) Γ] [aY (SF y) (M,Y) Γ](hm:0≤X.m)(hn:0≤X.n)(hm':0≤Y.m)(NS:0≤Y.n)(h:¬(AG X.nr∧AG Y.nr))(hL:L≤280:=by omega)(hM:M≤280:=by omega):
  aw tb Tryz.prog 144 [Bi x y] Γ (jf (.tuple #[.agg #[.int .i64 0,.int .i64 0],.int .i64 26])):=by
 refine aw.of_W az Tryz.func144 rfl ?_;refine aq [] (J6 x hm hn) ?_;rintro _ _ ⟨u1,d1,rfl,rfl⟩;refine aq [] (wV u1 d1) ?_;rintro _ _ ⟨rfl,rfl⟩;refine aq [] (J6 y hm' NS) ?_;rintro _ _ ⟨u3,d3,rfl,rfl⟩;refine aq [] (wV u3 d3) ?_;rintro _ _ ⟨rfl,rfl⟩;generalize X.nr=a at*;generalize Y.nr=b at*;cases sa:gZ a with
 |false=>
  refine bk [] 24 (!false) rfl ?_;exact W.r [43,40,36,32,28,24] (.tuple #[.agg #[.int .i64 0,.int .i64 0],.int .i64 26]) ⟨rfl,rfl⟩ bR
 |true=>
 refine aR [] 24 (!true) rfl ?_;cases sb:gZ b with
 |false=>
  refine bk [24] 28 (!false) rfl ?_;exact W.r [43,40,36,32,28] (.tuple #[.agg #[.int .i64 0,.int .i64 0],.int .i64 26]) ⟨rfl,rfl⟩ bR
 |true=>
 refine aR [24] 28 (!true) rfl ?_;by_cases h1:a< -2147483648
 ·refine bk [28] 32 (decide (a< -2147483648)) (by rw[fG];exact h1) ?_;exact W.r [43,40,36,32] (.tuple #[.agg #[.int .i64 0,.int .i64 0],.int .i64 26]) ⟨rfl,rfl⟩ bR
 refine aR [28] 32 (decide (a< -2147483648)) (by rw[aV];exact h1) ?_;by_cases h2:a>2147483647
 ·refine bk [32] 36 (decide (a>2147483647)) (by rw[fG];exact h2) ?_;exact W.r [43,40,36] (.tuple #[.agg #[.int .i64 0,.int .i64 0],.int .i64 26]) ⟨rfl,rfl⟩ bR
 refine aR [32] 36 (decide (a>2147483647)) (by rw[aV];exact h2) ?_;by_cases h3:b< -2147483648
 ·refine bk [36] 40 (decide (b< -2147483648)) (by rw[fG];exact h3) ?_;exact W.r [43,40] (.tuple #[.agg #[.int .i64 0,.int .i64 0],.int .i64 26]) ⟨rfl,rfl⟩ bR
 refine aR [36] 40 (decide (b< -2147483648)) (by rw[aV];exact h3) ?_;refine bk [40] 43 (decide (b>2147483647)) (by rw[fG];unfold AG at h;omega) ?_;exact W.r [43] (.tuple #[.agg #[.int .i64 0,.int .i64 0],.int .i64 26]) ⟨rfl,rfl⟩ bR
end
abbrev dv(d:Dp):Value:=.agg #[.int .i64 d.x,.int .i64 d.y]
def ig(B:Int)(d:Dp):Prop:= -B≤d.x∧d.x≤B∧ -B≤d.y∧d.y≤B
abbrev xY(d:Dp)(a b c f:Qw):List Value:=[.int .i64 d.x,.int .i64 d.y,.slice a.n.ao a.n.n a.n.c,.bool a.a,.slice a.m.ao a.m.n a.m.c,.bool a.b,.slice b.n.ao b.n.n b.n.c,.bool b.a,.slice b.m.ao b.m.n b.m.c,.bool b.b,
 .slice c.n.ao c.n.n c.n.c,.bool c.a,.slice c.m.ao c.m.n c.m.c,.bool c.b,.slice f.n.ao f.n.n f.n.c,.bool f.a,.slice f.m.ao f.m.n f.m.c,.bool f.b]
section
variable{Γ:List aC}{L M:Nat}
theorem IB(d e:Dp)(hd:ig 4294967296 d)(he:ig 4294967296 e):aw tb Tryz.prog 241 [dv d,dv e] Γ (oC 9 (p8 d e)):=by
 unfold ig at*;refine aw.of_W az Tryz.func241 rfl ?_;refine aq [] (cU d.x (by omega) (by omega)) ?_;rintro _ _ ⟨u1,d1,rfl,rfl⟩;refine aq [] (cU e.x (by omega) (by omega)) ?_;rintro _ _ ⟨u2,d2,rfl,rfl⟩;refine aq [] (lV u1 d1 u2 d2) ?_;rintro _ _ ⟨u3,d3,rfl,rfl⟩;refine aq [] (cU d.y (by omega) (by omega)) ?_;rintro _ _ ⟨u4,d4,rfl,rfl⟩;refine aq [] (cU e.y (by omega) (by omega)) ?_;rintro _ _ ⟨u5,d5,rfl,rfl⟩;refine aq [] (lV u4 d4 u5 d5) ?_;rintro _ _ ⟨u6,d6,rfl,rfl⟩;refine aq [] (lU u3 d3 u6 d6) ?_;rintro _ _ ⟨u7,d7,rfl,rfl⟩;exact W.r [] (zv u7 d7) ⟨u7,d7,rfl,rfl⟩ (kO (by omega) rfl)
theorem CU(d:Dp)(hd:ig 4294967296 d):aw tb Tryz.prog 236 [dv d] Γ (oC 9 (ke d)):=by
 refine aw.of_W az Tryz.func236 rfl ?_;refine aq [] (IB d d hd hd) ?_;rintro _ _ ⟨u1,d1,rfl,rfl⟩;exact W.r [] (zv u1 d1) ⟨u1,d1,rfl,rfl⟩ (kO (by omega) rfl)
theorem wS(d:Dp)(hd:ig 4294967296 d):aw tb Tryz.prog 237 [dv d] Γ (jf (dv (eN d))):=by
 unfold ig at*;refine aw.of_W az Tryz.func237 rfl ?_;refine W.r [] (.agg #[.int .i64 (IntKind.i64.wrap (0-d.y)),.int .i64 d.x]) ⟨?_,rfl⟩ bR;rw[show IntKind.i64.wrap (0-d.y)= -d.y by rw[af];omega];rfl
theorem Pj(u:Sl)(d:Bool)(v:Sl)(e:Bool){x y:Int} [aY (ZF u d) (L,x) Γ] [aY (ZF v e) (M,y) Γ](hy:y≠0)(hL:L≤1000000000:=by omega)(hM:M≤1000000000:=by omega):
  aw tb Tryz.prog 265 [zv u d,zv v e] Γ (sL (max L M) (Rat.divInt x y)):=by
 refine aw.of_W az Tryz.func265 rfl ?_;refine aq [] (zx u d v e hy) ?_;rintro _ _ ⟨n1,a1,m1,b1,rfl,rfl⟩;exact W.r [] (qv n1 a1 m1 b1) ⟨n1,a1,m1,b1,rfl,rfl⟩ (jY (by omega) rfl)
theorem tE(d:Dp)(n:Sl)(a:Bool)(m:Sl)(b:Bool){q:Rat} [aY (QF n a m b) (L,q) Γ](hd:ig 4294967296 d)(h0:ke d≠0)(hL:L≤1000:=by omega):
  aw tb Tryz.prog 239 [dv d,qv n a m b] Γ (fun v Δ=>∃Q:Qw,v=.agg (xY d bV Q bV bV).toArray∧Δ=[QG Q (L+14,(ju d q).b)]):=by
 refine aw.of_W az Tryz.func239 rfl ?_;refine aq [] (cU 1 (by omega) (by omega)) ?_;rintro _ _ ⟨u1,d1,rfl,rfl⟩;refine aq [] (CU d hd) ?_;rintro _ _ ⟨u2,d2,rfl,rfl⟩;refine aq [] (Pj u1 d1 u2 d2 h0) ?_;rintro _ _ ⟨n3,a3,m3,b3,rfl,rfl⟩;refine aq [] (bN n a m b n3 a3 m3 b3) ?_;rintro _ _ ⟨n4,a4,m4,b4,rfl,rfl⟩;exact W.r [] (.agg (xY d bV ⟨n4,a4,m4,b4⟩ bV bV).toArray) ⟨⟨n4,a4,m4,b4⟩,rfl,rfl⟩ (jY (by omega) rfl)
theorem zy(d:Dp)(n:Sl)(a:Bool)(m:Sl)(b:Bool){q:Rat} [aY (QF n a m b) (L,q) Γ](hd:ig 4294967296 d)(h0:ke d≠0)(hL:L≤1000:=by omega):
  aw tb Tryz.prog 240 [dv d,qv n a m b] Γ (fun v Δ=>∃Q:Qw,v=.agg (xY d bV bV bV Q).toArray∧Δ=[QG Q (L+16,(lg d q).e)]):=by
 refine aw.of_W az Tryz.func240 rfl ?_;refine aq [] (cU 1 (by omega) (by omega)) ?_;rintro _ _ ⟨u1,d1,rfl,rfl⟩;refine aq [] (CU d hd) ?_;rintro _ _ ⟨u2,d2,rfl,rfl⟩;refine aq [] (cU 2 (by omega) (by omega)) ?_;rintro _ _ ⟨u3,d3,rfl,rfl⟩;refine aq [] (lV u2 d2 u3 d3) ?_;rintro _ _ ⟨u4,d4,rfl,rfl⟩;refine aq [] (Pj u1 d1 u4 d4 (by omega)) ?_;rintro _ _ ⟨n5,a5,m5,b5,rfl,rfl⟩;refine aq [] (bN n a m b n5 a5 m5 b5) ?_;rintro _ _ ⟨n6,a6,m6,b6,rfl,rfl⟩;exact W.r [] (.agg (xY d bV bV bV ⟨n6,a6,m6,b6⟩).toArray) ⟨⟨n6,a6,m6,b6⟩,rfl,rfl⟩ (jY (by omega) rfl)
theorem CT(n:Int):aw tb Tryz.prog 187 [.int .i64 n] Γ (jf (.bool (Gx n))):=by
 refine aw.of_W az Tryz.func187 rfl ?_;refine W.d [] 5 (decide (n< -2147483648)) (fun hb=>?_) (fun hb=>?_)
 ·exact W.r [5] (.bool true) ⟨by unfold Gx;rw[hb];rfl,rfl⟩ bR
 ·refine W.r [5] (.bool (decide (n>2147483647))) ⟨?_,rfl⟩ bR;unfold Gx;rw[hb];simp
theorem WU(p:Dp):aw tb Tryz.prog 186 [dv p] Γ (jf (.bool (tB p))):=by
 refine aw.of_W az Tryz.func186 rfl ?_;refine aq [] (CT p.x) ?_;rintro _ _ ⟨rfl,rfl⟩;refine W.d [] 6 (Gx p.x) (fun hb=>?_) (fun hb=>?_)
 ·exact W.r [6] (.bool true) ⟨by unfold tB;rw[hb];rfl,rfl⟩ bR
 ·refine aq [6] (CT p.y) ?_;rintro _ _ ⟨rfl,rfl⟩;exact W.r [6] (.bool (Gx p.y)) ⟨by unfold tB;rw[hb];rfl,rfl⟩ bR
theorem tX{g a b:Int}(hg:0<g)(h:a=g*b)(h1: -4294967296≤a)(h2:a≤4294967296): -4294967296≤b∧b≤4294967296:=by
 have k1:b.natAbs≤a.natAbs:=by
  rw[h,cK];exact Nat.le_mul_of_pos_left _ (by omega)
 omega
theorem JF(x:Int)(h: -9223372036854775807≤x)(h2:x≤9223372036854775807):max x (IntKind.i64.wrap (0-x))=(x.natAbs:Int):=by
 rw[af];omega
theorem CQ(p q:Dp)(hp:ig 2147483648 p)(hq:ig 2147483648 q)(hne:p≠q):aw tb Tryz.prog 235 [dv p,dv q] Γ (jf (dv (gh p q))):=by
 have hv:=AV hne;have hg:=s_ hv;have hdv:=As ⟨q.x-p.x,q.y-p.y⟩;have hgd:lN ⟨q.x-p.x,q.y-p.y⟩=((Nat.gcd (q.x-p.x).natAbs (q.y-p.y).natAbs:Nat):Int):=rfl;simp only at hv hdv;unfold ig at*;have e1:IntKind.i64.wrap (q.x-p.x)=q.x-p.x:=by rw[af];omega
 have e2:IntKind.i64.wrap (q.y-p.y)=q.y-p.y:=by rw[af];omega
 refine aw.of_W az Tryz.func235 rfl ?_;refine Mz [] .i64 (IntKind.i64.wrap (q.x-p.x)) (IntKind.i64.wrap (0-IntKind.i64.wrap (q.x-p.x))) ((q.x-p.x).natAbs:Int) (by rw[e1];exact JF _ (by omega) (by omega)) ?_;refine Mz [] .i64 (IntKind.i64.wrap (q.y-p.y)) (IntKind.i64.wrap (0-IntKind.i64.wrap (q.y-p.y))) ((q.y-p.y).natAbs:Int) (by rw[e2];exact JF _ (by omega) (by omega)) ?_;refine yZ [] [7,8] (fun a:Nat×Nat=>[(7,.int .i64 (a.1:Int)),(8,.int .i64 (a.2:Int))]) (fun _=>[]) (fun _=>[]) (fun a=>Nat.gcd a.1 a.2=Nat.gcd (q.x-p.x).natAbs (q.y-p.y).natAbs) (fun a=>a.2) ((q.x-p.x).natAbs,(q.y-p.y).natAbs) rfl bR ?_;rintro⟨a,b⟩ R hab close;simp only at hab;refine W.d [] 28 (decide ((b:Int)>0)) (fun hb=>?_) (fun hb=>?_)
 ·have hk:=iW hb;refine W.rem [28] (a:Int) (b:Int) ((a % b:Nat):Int) (by omega) (by rw[gS (by omega),qU]) ?_;refine close [] _ _ (b,a % b) (by kernel_rfl) (by kernel_rfl) (by rw[←hab,Nat.gcd_comm a b,Nat.gcd_rec b a,Nat.gcd_comm]) (fw _ (by omega)) bR
 ·have hk:=eA hb;have hb0:b=0:=by omega
  subst hb0;rw[Nat.gcd_zero_right]at hab;subst hab;rw[←hgd]at*;have hgx:(q.x-p.x).tdiv (lN ⟨q.x-p.x,q.y-p.y⟩)=(gh p q).x:=Int.tdiv_eq_ediv_of_dvd hdv.1;have hgy:(q.y-p.y).tdiv (lN ⟨q.x-p.x,q.y-p.y⟩)=(gh p q).y:=Int.tdiv_eq_ediv_of_dvd hdv.2;have hm:=q_ ⟨q.x-p.x,q.y-p.y⟩;simp only at hm;have bx: -4294967296≤(gh p q).x∧(gh p q).x≤4294967296:=tX hg hm.1 (by omega) (by omega);have byy: -4294967296≤(gh p q).y∧(gh p q).y≤4294967296:=tX hg hm.2 (by omega) (by omega);refine W.quo [28] (IntKind.i64.wrap (q.x-p.x)) (lN ⟨q.x-p.x,q.y-p.y⟩) (gh p q).x (by omega) (by rw[e1,hgx,af];omega) ?_;refine W.quo [] (IntKind.i64.wrap (q.y-p.y)) (lN ⟨q.x-p.x,q.y-p.y⟩) (gh p q).y (by omega) (by rw[e2,hgy,af];omega) ?_;exact W.r [] (dv (gh p q)) ⟨rfl,rfl⟩ bR
theorem xX(u:Sl)(d:Bool)(v:Sl)(e:Bool)(B:Nat)(a b c f:Qw){m n:Int}{x y z w:Rat}{K L1 L2 L3 L4:Nat} [h1:aY (ZF u d) (L,m) Γ] [h2:aY (ZF v e) (M,n) Γ]
  [hr:aY (d_ B) ([(⟨a.n,a.a,a.m,a.b,x⟩:QE),(⟨b.n,b.a,b.m,b.b,y⟩:QE),(⟨c.n,c.a,c.m,c.b,z⟩:QE),(⟨f.n,f.a,f.m,f.b,w⟩:QE)].flatMap QR.cells) Γ]
  [ha:aY (QG a) (L1,x) Γ] [hb:aY (QG b) (L2,y) Γ] [hc:aY (QG c) (L3,z) Γ] [hf:aY (QG f) (L4,w) Γ](hm:0≤m)(hn:0≤n)
  (hL:L≤100000:=by omega)(hM:M≤100000:=by omega)(hK:L1≤K∧L2≤K∧L3≤K∧L4≤K:=by omega):
  aw tb Tryz.prog 148 [zv u d,zv v e,.slice (some ⟨B,0,none⟩) 4 4] Γ (XR (max (max L M) K) ⟨m,n,x,y,z,w⟩):=
 (Pt (Γ:=OL QR (some ⟨B,0,none⟩) (K,[(⟨a.n,a.a,a.m,a.b,x⟩:QE),(⟨b.n,b.a,b.m,b.b,y⟩:QE),(⟨c.n,c.a,c.m,c.b,z⟩:QE),(⟨f.n,f.a,f.m,f.b,w⟩:QE)])::Γ) u d v e (some ⟨B,0,none⟩) 4 4 rfl (by omega) hm hn).weak (fun I w hd hh=>aE.cons ⟨fun q hq=>by
  simp at hq;rcases hq with rfl|rfl|rfl|rfl
  ·exact QF.up2 (ha.p hh) hK.1
  ·exact QF.up2 (hb.p hh) hK.2.1
  ·exact QF.up2 (hc.p hh) hK.2.2.1
  ·exact QF.up2 (hf.p hh) hK.2.2.2,RA.of_row (hr.p hh) (fun _ _ h=>h)⟩ hh) (fun _ _ h=>h)
theorem OV(p:Dp)(u:Sl)(d:Bool)(v:Sl)(e:Bool)(B:Nat)(g:Dp)(A1 A2 A3 A4:Qw){m n:Int}{x1 x2 x3 x4:Rat}{K1 K2 K3 K4:Nat} [aY (ZF u d) (L,m) Γ] [aY (ZF v e) (M,n) Γ] [aY (d_ B) (xY g A1 A2 A3 A4) Γ]
  [aY (QG A1) (K1,x1) Γ] [aY (QG A2) (K2,x2) Γ] [aY (QG A3) (K3,x3) Γ] [aY (QG A4) (K4,x4) Γ](hp:ig 2147483648 p)(hg:ig 4294967296 g)(h0:0≤m∧0≤n)(hL:L≤10∧M≤10:=by omega)(hK:K1≤45∧K2≤45∧K3≤45∧K4≤45:=by omega):
  aw tb Tryz.prog 238 [dv p,zv u d,zv v e,.slice (some ⟨B,0,none⟩) 1 1] Γ (vr 130 (alX m n p.x [⟨g,x1,x2,x3,x4⟩]) (alY m n p.y [⟨g,x1,x2,x3,x4⟩])):=by
 unfold ig at*;refine aw.of_W az Tryz.func238 rfl ?_;refine aq [] (cU p.x (by omega) (by omega)) ?_;rintro _ _ ⟨ux,dx,rfl,rfl⟩;refine aq [] (cg ux dx) ?_;rintro _ _ ⟨nx,ax,mx,YU,rfl,rfl⟩;refine cQ [] 1 ([(⟨nx,ax,mx,YU,((p.x:Int):Rat)⟩:QE)].flatMap QR.cells) az (fun Bx=>?_);refine aq [] (Bb u d v e Bx ⟨nx,ax,mx,YU⟩ h0.1 h0.2) ?_;rintro _ _ ⟨X,rfl,rfl⟩;refine aq [] (cU p.y (by omega) (by omega)) ?_;rintro _ _ ⟨uy,dy,rfl,rfl⟩;refine aq [] (cg uy dy) ?_;rintro _ _ ⟨ny,ay,my,YV,rfl,rfl⟩;refine cQ [] 1 ([(⟨ny,ay,my,YV,((p.y:Int):Rat)⟩:QE)].flatMap QR.cells) az (fun By=>?_);refine aq [] (Bb u d v e By ⟨ny,ay,my,YV⟩ h0.1 h0.2) ?_;rintro _ _ ⟨Y,rfl,rfl⟩;refine jP [] 5 ?_;refine bY [47] 18 B 0 1 1 .i64 0 0 rfl az (by decide) ?_;refine jh [] B (0+0*18) (xY g A1 A2 A3 A4) az rfl ?_;refine jP [] 5 ?_;refine aq [55] (cU g.x (by omega) (by omega)) ?_;rintro _ _ ⟨Xx,Vy,rfl,rfl⟩;refine aq [] (cg Xx Vy) ?_;rintro _ _ ⟨Wt,U7,Wj,Vl,rfl,rfl⟩;refine aq [] (bN A1.n A1.a A1.m A1.b Wt U7 Wj Vl) ?_;rintro _ _ ⟨Gl,EY,Gb,E9,rfl,rfl⟩;refine aq [] (cU g.y (by omega) (by omega)) ?_;rintro _ _ ⟨XB,VC,rfl,rfl⟩;refine aq [] (cg XB VC) ?_;rintro _ _ ⟨Wx,Va,Wn,Vp,rfl,rfl⟩;refine aq [] (bN A1.n A1.a A1.m A1.b Wx Va Wn Vp) ?_;rintro _ _ ⟨Gq,E5,Gf,Fc,rfl,rfl⟩
 refine aq [55] (cU g.x (by omega) (by omega)) ?_;rintro _ _ ⟨Xy,Vz,rfl,rfl⟩;refine aq [] (cg Xy Vz) ?_;rintro _ _ ⟨Wu,U8,Wk,Vm,rfl,rfl⟩;refine aq [] (bN A2.n A2.a A2.m A2.b Wu U8 Wk Vm) ?_;rintro _ _ ⟨Gm,EZ,Gc,E_,rfl,rfl⟩;refine aq [] (cU g.y (by omega) (by omega)) ?_;rintro _ _ ⟨XC,VD,rfl,rfl⟩;refine aq [] (cg XC VD) ?_;rintro _ _ ⟨Wy,Vb,Wo,Vq,rfl,rfl⟩;refine aq [] (bN A2.n A2.a A2.m A2.b Wy Vb Wo Vq) ?_;rintro _ _ ⟨Gr,E6,Gg,Fe,rfl,rfl⟩;refine aq [55] (cU g.x (by omega) (by omega)) ?_;rintro _ _ ⟨Xz,VA,rfl,rfl⟩;refine aq [] (cg Xz VA) ?_;rintro _ _ ⟨Wv,U9,Wl,Vn,rfl,rfl⟩;refine aq [] (bN A3.n A3.a A3.m A3.b Wv U9 Wl Vn) ?_;rintro _ _ ⟨Gn,E0,Gd,Fa,rfl,rfl⟩;refine aq [] (cU g.y (by omega) (by omega)) ?_;rintro _ _ ⟨XD,VE,rfl,rfl⟩;refine aq [] (cg XD VE) ?_;rintro _ _ ⟨Wz,Vc,Wp,Vr,rfl,rfl⟩;refine aq [] (bN A3.n A3.a A3.m A3.b Wz Vc Wp Vr) ?_;rintro _ _ ⟨Gs,E7,Gh,Ff,rfl,rfl⟩;refine aq [55] (cU g.x (by omega) (by omega)) ?_;rintro _ _ ⟨XA,VB,rfl,rfl⟩;refine aq [] (cg XA VB) ?_;rintro _ _ ⟨Ww,U_,Wm,Vo,rfl,rfl⟩;refine aq [] (bN A4.n A4.a A4.m A4.b Ww U_ Wm Vo) ?_;rintro _ _ ⟨Gp,E3,Ge,Fb,rfl,rfl⟩;refine aq [] (cU g.y (by omega) (by omega)) ?_
 rintro _ _ ⟨XE,VF,rfl,rfl⟩;refine aq [] (cg XE VF) ?_;rintro _ _ ⟨WA,Vd,Wq,Vs,rfl,rfl⟩;refine aq [] (bN A4.n A4.a A4.m A4.b WA Vd Wq Vs) ?_;rintro _ _ ⟨Gt,E8,Gi,Fg,rfl,rfl⟩;refine W.revp 15 ([(⟨Gl,EY,Gb,E9,x1*((g.x:Int):Rat)⟩:QE),(⟨Gm,EZ,Gc,E_,x2*((g.x:Int):Rat)⟩:QE),(⟨Gn,E0,Gd,Fa,x3*((g.x:Int):Rat)⟩:QE),(⟨Gp,E3,Ge,Fb,x4*((g.x:Int):Rat)⟩:QE)].flatMap QR.cells) (fun YZ=>?_);refine W.revp 16 ([(⟨Gq,E5,Gf,Fc,x1*((g.y:Int):Rat)⟩:QE),(⟨Gr,E6,Gg,Fe,x2*((g.y:Int):Rat)⟩:QE),(⟨Gs,E7,Gh,Ff,x3*((g.y:Int):Rat)⟩:QE),(⟨Gt,E8,Gi,Fg,x4*((g.y:Int):Rat)⟩:QE)].flatMap QR.cells) (fun Y6=>?_);refine vX [55] 4 4 YZ 0 none none 0 4 az (.inr ⟨rfl,rfl⟩) (.inr ⟨rfl,rfl⟩) (by decide) (by decide) (by decide) ?_;refine aq [] (xX u d v e YZ ⟨Gl,EY,Gb,E9⟩ ⟨Gm,EZ,Gc,E_⟩ ⟨Gn,E0,Gd,Fa⟩ ⟨Gp,E3,Ge,Fb⟩ (K:=52) h0.1 h0.2) ?_;rintro _ _ ⟨S0,rfl,rfl⟩;refine vX [] 4 4 Y6 0 none none 0 4 az (.inr ⟨rfl,rfl⟩) (.inr ⟨rfl,rfl⟩) (by decide) (by decide) (by decide) ?_;refine aq [] (xX u d v e Y6 ⟨Gq,E5,Gf,Fc⟩ ⟨Gr,E6,Gg,Fe⟩ ⟨Gs,E7,Gh,Ff⟩ ⟨Gt,E8,Gi,Fg⟩ (K:=52) h0.1 h0.2) ?_;rintro _ _ ⟨T0,rfl,rfl⟩;refine aq [] (oX X (S:=(⟨m,n,((p.x:Int):Rat),0,0,0⟩:Sn)) S0 (T:=⟨m,n,x1*((g.x:Int):Rat),x2*((g.x:Int):Rat),x3*((g.x:Int):Rat),x4*((g.x:Int):Rat)⟩) rfl rfl) ?_
 rintro _ _ ⟨X0,rfl,rfl⟩;refine aq [] (oX Y (S:=(⟨m,n,((p.y:Int):Rat),0,0,0⟩:Sn)) T0 (T:=⟨m,n,x1*((g.y:Int):Rat),x2*((g.y:Int):Rat),x3*((g.y:Int):Rat),x4*((g.y:Int):Rat)⟩) rfl rfl) ?_;rintro _ _ ⟨Y0,rfl,rfl⟩;exact W.r [47] (Bi X0 Y0) ⟨X0,Y0,rfl,rfl⟩ (lM (Δ:=[_]) (Δ':=[_]) (pG (by omega) rfl) (pG (by omega) rfl))
theorem oV(p:Dp)(u:Sl)(d:Bool)(v:Sl)(e:Bool)(B:Nat)(g:Dp)(k:Dp)(A1 A2 A3 A4 B1 B2 B3 B4:Qw){m n:Int}{x1 x2 x3 x4 y1 y2 y3 y4:Rat}{K1 K2 K3 K4 J1 J2 J3 J4:Nat} [aY (ZF u d) (L,m) Γ] [aY (ZF v e) (M,n) Γ] [aY (d_ B) (xY g A1 A2 A3 A4++xY k B1 B2 B3 B4) Γ]
  [aY (QG A1) (K1,x1) Γ] [aY (QG A2) (K2,x2) Γ] [aY (QG A3) (K3,x3) Γ] [aY (QG A4) (K4,x4) Γ] [aY (QG B1) (J1,y1) Γ] [aY (QG B2) (J2,y2) Γ] [aY (QG B3) (J3,y3) Γ] [aY (QG B4) (J4,y4) Γ](hp:ig 2147483648 p)(hg:ig 4294967296 g)(hk:ig 4294967296 k)(h0:0≤m∧0≤n)(hL:L≤10∧M≤10:=by omega)(hK:K1≤45∧K2≤45∧K3≤45∧K4≤45∧J1≤45∧J2≤45∧J3≤45∧J4≤45:=by omega):
  aw tb Tryz.prog 238 [dv p,zv u d,zv v e,.slice (some ⟨B,0,none⟩) 2 2] Γ (vr 130 (alX m n p.x [⟨g,x1,x2,x3,x4⟩,⟨k,y1,y2,y3,y4⟩]) (alY m n p.y [⟨g,x1,x2,x3,x4⟩,⟨k,y1,y2,y3,y4⟩])):=by
 unfold ig at*;refine aw.of_W az Tryz.func238 rfl ?_;refine aq [] (cU p.x (by omega) (by omega)) ?_;rintro _ _ ⟨ux,dx,rfl,rfl⟩;refine aq [] (cg ux dx) ?_;rintro _ _ ⟨nx,ax,mx,YU,rfl,rfl⟩;refine cQ [] 1 ([(⟨nx,ax,mx,YU,((p.x:Int):Rat)⟩:QE)].flatMap QR.cells) az (fun Bx=>?_);refine aq [] (Bb u d v e Bx ⟨nx,ax,mx,YU⟩ h0.1 h0.2) ?_;rintro _ _ ⟨X,rfl,rfl⟩;refine aq [] (cU p.y (by omega) (by omega)) ?_;rintro _ _ ⟨uy,dy,rfl,rfl⟩;refine aq [] (cg uy dy) ?_;rintro _ _ ⟨ny,ay,my,YV,rfl,rfl⟩;refine cQ [] 1 ([(⟨ny,ay,my,YV,((p.y:Int):Rat)⟩:QE)].flatMap QR.cells) az (fun By=>?_);refine aq [] (Bb u d v e By ⟨ny,ay,my,YV⟩ h0.1 h0.2) ?_;rintro _ _ ⟨Y,rfl,rfl⟩;refine jP [] 5 ?_;refine bY [47] 18 B 0 2 2 .i64 0 0 rfl az (by decide) ?_;refine jh [] B (0+0*18) (xY g A1 A2 A3 A4) az rfl ?_;refine jP [] 5 ?_;refine aq [55] (cU g.x (by omega) (by omega)) ?_;rintro _ _ ⟨Xx,Vy,rfl,rfl⟩;refine aq [] (cg Xx Vy) ?_;rintro _ _ ⟨Wt,U7,Wj,Vl,rfl,rfl⟩;refine aq [] (bN A1.n A1.a A1.m A1.b Wt U7 Wj Vl) ?_;rintro _ _ ⟨Gl,EY,Gb,E9,rfl,rfl⟩;refine aq [] (cU g.y (by omega) (by omega)) ?_;rintro _ _ ⟨XB,VC,rfl,rfl⟩;refine aq [] (cg XB VC) ?_;rintro _ _ ⟨Wx,Va,Wn,Vp,rfl,rfl⟩;refine aq [] (bN A1.n A1.a A1.m A1.b Wx Va Wn Vp) ?_;rintro _ _ ⟨Gq,E5,Gf,Fc,rfl,rfl⟩
 refine aq [55] (cU g.x (by omega) (by omega)) ?_;rintro _ _ ⟨Xy,Vz,rfl,rfl⟩;refine aq [] (cg Xy Vz) ?_;rintro _ _ ⟨Wu,U8,Wk,Vm,rfl,rfl⟩;refine aq [] (bN A2.n A2.a A2.m A2.b Wu U8 Wk Vm) ?_;rintro _ _ ⟨Gm,EZ,Gc,E_,rfl,rfl⟩;refine aq [] (cU g.y (by omega) (by omega)) ?_;rintro _ _ ⟨XC,VD,rfl,rfl⟩;refine aq [] (cg XC VD) ?_;rintro _ _ ⟨Wy,Vb,Wo,Vq,rfl,rfl⟩;refine aq [] (bN A2.n A2.a A2.m A2.b Wy Vb Wo Vq) ?_;rintro _ _ ⟨Gr,E6,Gg,Fe,rfl,rfl⟩;refine aq [55] (cU g.x (by omega) (by omega)) ?_;rintro _ _ ⟨Xz,VA,rfl,rfl⟩;refine aq [] (cg Xz VA) ?_;rintro _ _ ⟨Wv,U9,Wl,Vn,rfl,rfl⟩;refine aq [] (bN A3.n A3.a A3.m A3.b Wv U9 Wl Vn) ?_;rintro _ _ ⟨Gn,E0,Gd,Fa,rfl,rfl⟩;refine aq [] (cU g.y (by omega) (by omega)) ?_;rintro _ _ ⟨XD,VE,rfl,rfl⟩;refine aq [] (cg XD VE) ?_;rintro _ _ ⟨Wz,Vc,Wp,Vr,rfl,rfl⟩;refine aq [] (bN A3.n A3.a A3.m A3.b Wz Vc Wp Vr) ?_;rintro _ _ ⟨Gs,E7,Gh,Ff,rfl,rfl⟩;refine aq [55] (cU g.x (by omega) (by omega)) ?_;rintro _ _ ⟨XA,VB,rfl,rfl⟩;refine aq [] (cg XA VB) ?_;rintro _ _ ⟨Ww,U_,Wm,Vo,rfl,rfl⟩;refine aq [] (bN A4.n A4.a A4.m A4.b Ww U_ Wm Vo) ?_;rintro _ _ ⟨Gp,E3,Ge,Fb,rfl,rfl⟩;refine aq [] (cU g.y (by omega) (by omega)) ?_
 rintro _ _ ⟨XE,VF,rfl,rfl⟩;refine aq [] (cg XE VF) ?_;rintro _ _ ⟨WA,Vd,Wq,Vs,rfl,rfl⟩;refine aq [] (bN A4.n A4.a A4.m A4.b WA Vd Wq Vs) ?_;rintro _ _ ⟨Gt,E8,Gi,Fg,rfl,rfl⟩;refine W.revp 15 ([(⟨Gl,EY,Gb,E9,x1*((g.x:Int):Rat)⟩:QE),(⟨Gm,EZ,Gc,E_,x2*((g.x:Int):Rat)⟩:QE),(⟨Gn,E0,Gd,Fa,x3*((g.x:Int):Rat)⟩:QE),(⟨Gp,E3,Ge,Fb,x4*((g.x:Int):Rat)⟩:QE)].flatMap QR.cells) (fun YZ=>?_);refine W.revp 16 ([(⟨Gq,E5,Gf,Fc,x1*((g.y:Int):Rat)⟩:QE),(⟨Gr,E6,Gg,Fe,x2*((g.y:Int):Rat)⟩:QE),(⟨Gs,E7,Gh,Ff,x3*((g.y:Int):Rat)⟩:QE),(⟨Gt,E8,Gi,Fg,x4*((g.y:Int):Rat)⟩:QE)].flatMap QR.cells) (fun Y6=>?_);refine vX [55] 4 4 YZ 0 none none 0 4 az (.inr ⟨rfl,rfl⟩) (.inr ⟨rfl,rfl⟩) (by decide) (by decide) (by decide) ?_;refine aq [] (xX u d v e YZ ⟨Gl,EY,Gb,E9⟩ ⟨Gm,EZ,Gc,E_⟩ ⟨Gn,E0,Gd,Fa⟩ ⟨Gp,E3,Ge,Fb⟩ (K:=52) h0.1 h0.2) ?_;rintro _ _ ⟨S0,rfl,rfl⟩;refine vX [] 4 4 Y6 0 none none 0 4 az (.inr ⟨rfl,rfl⟩) (.inr ⟨rfl,rfl⟩) (by decide) (by decide) (by decide) ?_;refine aq [] (xX u d v e Y6 ⟨Gq,E5,Gf,Fc⟩ ⟨Gr,E6,Gg,Fe⟩ ⟨Gs,E7,Gh,Ff⟩ ⟨Gt,E8,Gi,Fg⟩ (K:=52) h0.1 h0.2) ?_;rintro _ _ ⟨T0,rfl,rfl⟩;refine aq [] (oX X (S:=(⟨m,n,((p.x:Int):Rat),0,0,0⟩:Sn)) S0 (T:=⟨m,n,x1*((g.x:Int):Rat),x2*((g.x:Int):Rat),x3*((g.x:Int):Rat),x4*((g.x:Int):Rat)⟩) rfl rfl) ?_
 rintro _ _ ⟨X0,rfl,rfl⟩;refine aq [] (oX Y (S:=(⟨m,n,((p.y:Int):Rat),0,0,0⟩:Sn)) T0 (T:=⟨m,n,x1*((g.y:Int):Rat),x2*((g.y:Int):Rat),x3*((g.y:Int):Rat),x4*((g.y:Int):Rat)⟩) rfl rfl) ?_;rintro _ _ ⟨Y0,rfl,rfl⟩;refine bY [47] 18 B 0 2 2 .i64 1 1 rfl az (by decide) ?_;refine jh [] B (0+1*18) (xY k B1 B2 B3 B4) az rfl ?_;refine jP [] 5 ?_;refine aq [55] (cU k.x (by omega) (by omega)) ?_;rintro _ _ ⟨adX,ab9,rfl,rfl⟩;refine aq [] (cg adX ab9) ?_;rintro _ _ ⟨adJ,abL,adx,abZ,rfl,rfl⟩;refine aq [] (bN B1.n B1.a B1.m B1.b adJ abL adx abZ) ?_;rintro _ _ ⟨Uf,To,T8,Tz,rfl,rfl⟩;refine aq [] (cU k.y (by omega) (by omega)) ?_;rintro _ _ ⟨ad1,acd,rfl,rfl⟩;refine aq [] (cg ad1 acd) ?_;rintro _ _ ⟨adN,abP,adB,ab3,rfl,rfl⟩;refine aq [] (bN B1.n B1.a B1.m B1.b adN abP adB ab3) ?_;rintro _ _ ⟨Uj,Ts,Ub,TD,rfl,rfl⟩;refine aq [55] (cU k.x (by omega) (by omega)) ?_;rintro _ _ ⟨adY,ab_,rfl,rfl⟩;refine aq [] (cg adY ab_) ?_;rintro _ _ ⟨adK,abM,ady,ab0,rfl,rfl⟩;refine aq [] (bN B2.n B2.a B2.m B2.b adK abM ady ab0) ?_;rintro _ _ ⟨Ug,Tp,T9,TA,rfl,rfl⟩;refine aq [] (cU k.y (by omega) (by omega)) ?_;rintro _ _ ⟨ad2,ace,rfl,rfl⟩;refine aq [] (cg ad2 ace) ?_;rintro _ _ ⟨adO,abQ,adC,ab4,rfl,rfl⟩;refine aq [] (bN B2.n B2.a B2.m B2.b adO abQ adC ab4) ?_
 rintro _ _ ⟨Uk,Tt,Uc,TE,rfl,rfl⟩;refine aq [55] (cU k.x (by omega) (by omega)) ?_;rintro _ _ ⟨adZ,aca,rfl,rfl⟩;refine aq [] (cg adZ aca) ?_;rintro _ _ ⟨adL,abN,adz,ab1,rfl,rfl⟩;refine aq [] (bN B3.n B3.a B3.m B3.b adL abN adz ab1) ?_;rintro _ _ ⟨Uh,Tq,T_,TB,rfl,rfl⟩;refine aq [] (cU k.y (by omega) (by omega)) ?_;rintro _ _ ⟨ad3,acf,rfl,rfl⟩;refine aq [] (cg ad3 acf) ?_;rintro _ _ ⟨adP,abR,adD,ab5,rfl,rfl⟩;refine aq [] (bN B3.n B3.a B3.m B3.b adP abR adD ab5) ?_;rintro _ _ ⟨Ul,Tu,Ud,TG,rfl,rfl⟩;refine aq [55] (cU k.x (by omega) (by omega)) ?_;rintro _ _ ⟨ad0,acb,rfl,rfl⟩;refine aq [] (cg ad0 acb) ?_;rintro _ _ ⟨adM,abO,adA,ab2,rfl,rfl⟩;refine aq [] (bN B4.n B4.a B4.m B4.b adM abO adA ab2) ?_;rintro _ _ ⟨Ui,Tr,Ua,TC,rfl,rfl⟩;refine aq [] (cU k.y (by omega) (by omega)) ?_;rintro _ _ ⟨ad4,acg,rfl,rfl⟩;refine aq [] (cg ad4 acg) ?_;rintro _ _ ⟨adQ,abS,adE,ab6,rfl,rfl⟩;refine aq [] (bN B4.n B4.a B4.m B4.b adQ abS adE ab6) ?_;rintro _ _ ⟨Um,Tv,Ue,TH,rfl,rfl⟩;refine W.revp 15 ([(⟨Uf,To,T8,Tz,y1*((k.x:Int):Rat)⟩:QE),(⟨Ug,Tp,T9,TA,y2*((k.x:Int):Rat)⟩:QE),(⟨Uh,Tq,T_,TB,y3*((k.x:Int):Rat)⟩:QE),(⟨Ui,Tr,Ua,TC,y4*((k.x:Int):Rat)⟩:QE)].flatMap QR.cells) (fun bu1=>?_);refine W.revp 16 ([(⟨Uj,Ts,Ub,TD,y1*((k.y:Int):Rat)⟩:QE),(⟨Uk,Tt,Uc,TE,y2*((k.y:Int):Rat)⟩:QE),(⟨Ul,Tu,Ud,TG,y3*((k.y:Int):Rat)⟩:QE),(⟨Um,Tv,Ue,TH,y4*((k.y:Int):Rat)⟩:QE)].flatMap QR.cells) (fun bv1=>?_)
 refine vX [55] 4 4 bu1 0 none none 0 4 az (.inr ⟨rfl,rfl⟩) (.inr ⟨rfl,rfl⟩) (by decide) (by decide) (by decide) ?_;refine aq [] (xX u d v e bu1 ⟨Uf,To,T8,Tz⟩ ⟨Ug,Tp,T9,TA⟩ ⟨Uh,Tq,T_,TB⟩ ⟨Ui,Tr,Ua,TC⟩ (K:=52) h0.1 h0.2) ?_;rintro _ _ ⟨S1,rfl,rfl⟩;refine vX [] 4 4 bv1 0 none none 0 4 az (.inr ⟨rfl,rfl⟩) (.inr ⟨rfl,rfl⟩) (by decide) (by decide) (by decide) ?_;refine aq [] (xX u d v e bv1 ⟨Uj,Ts,Ub,TD⟩ ⟨Uk,Tt,Uc,TE⟩ ⟨Ul,Tu,Ud,TG⟩ ⟨Um,Tv,Ue,TH⟩ (K:=52) h0.1 h0.2) ?_;rintro _ _ ⟨T1,rfl,rfl⟩;refine aq [] (oX X0 (S:=(Sn.add (⟨m,n,((p.x:Int):Rat),0,0,0⟩:Sn) ⟨m,n,x1*((g.x:Int):Rat),x2*((g.x:Int):Rat),x3*((g.x:Int):Rat),x4*((g.x:Int):Rat)⟩)) S1 (T:=⟨m,n,y1*((k.x:Int):Rat),y2*((k.x:Int):Rat),y3*((k.x:Int):Rat),y4*((k.x:Int):Rat)⟩) rfl rfl) ?_;rintro _ _ ⟨X1,rfl,rfl⟩;refine aq [] (oX Y0 (S:=(Sn.add (⟨m,n,((p.y:Int):Rat),0,0,0⟩:Sn) ⟨m,n,x1*((g.y:Int):Rat),x2*((g.y:Int):Rat),x3*((g.y:Int):Rat),x4*((g.y:Int):Rat)⟩)) T1 (T:=⟨m,n,y1*((k.y:Int):Rat),y2*((k.y:Int):Rat),y3*((k.y:Int):Rat),y4*((k.y:Int):Rat)⟩) rfl rfl) ?_;rintro _ _ ⟨Y1,rfl,rfl⟩;exact W.r [47] (Bi X1 Y1) ⟨X1,Y1,rfl,rfl⟩ (lM (Δ:=[_]) (Δ':=[_]) (pG (by omega) rfl) (pG (by omega) rfl))
end
end Go.Proofs.YtgaaopjagcaojaaGreat
