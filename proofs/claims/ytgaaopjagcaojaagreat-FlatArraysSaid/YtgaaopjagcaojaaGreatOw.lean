import Derived.Test.YtgaaopjagcaojaaGreatPr
import Derived.Laws.MakeOwn
import Derived.Laws.BytesArg
import Derived.Test.YtgaaopjagcaojaaGreatProg
import Derived.Test.YtgaaopjagcaojaaGreatVy
import Derived.Test.YtgaaopjagcaojaaGreatNatU
import Derived.Deep.RegionHeld3
import Derived.Deep.RegionWith
import Derived.Deep.DrawnRows
import Derived.BigRegion
import Derived.Deep.DeepCutAuto
import Derived.Deep.LoopGhost
import Derived.Test.YtgaaopjagcaojaaGreatOv
import Derived.Test.YtgaaopjagcaojaaGreatRc
import Derived.Test.YtgaaopjagcaojaaGreatSy
set_option linter.unusedSimpArgs false
set_option linter.unusedVariables false
set_option maxHeartbeats 4000000
namespace Go.Proofs.YtgaaopjagcaojaaGreat
open Go.RowKit
abbrev ah:=@Go.IntKind.wrap_i64
def EF(e:Ev):Option (Bool×Value×Value):=
 match e with
 | .read o c=>match o.op with
  | .call cl=>match cl.callee,cl.args.toList with
   | .builtin .max,[x,y]=>match c.s.ev x,c.s.ev y with
    | .val a,.val b=>some (true,a,b)
    |_,_=>none
   | .builtin .min,[x,y]=>match c.s.ev x,c.s.ev y with
    | .val a,.val b=>some (false,a,b)
    |_,_=>none
   |_,_=>none
  |_=>none
 |_=>none
def Kh(T:Tb)(e:Ev):Option (List (Nat×List Value)×Nat×Nat×List Value×Value×Value):=
 match e with
 | .own o c=>match o.op with
  | .makeSlice ty l cp=>match T.get ty,c.s.ev l,c.s.ev cp with
   |some t,.val a,.val b=>bif (Nat.beq t.kind 3&&(!Nat.beq t.esize 0&&(Nat.beq t.ezero.length t.esize&& !T.dat t.elem)))then some (c.s.own,t.esize,t.ebytes,t.ezero,a,b)else none
   |_,_,_=>none
  |_=>none
 |_=>none
def EG(T:Tb)(e:Ev):Option (List (Nat×List Value)×Nat×Value×Value):=
 match e with
 | .own o c=>match o.op with
  | .store ty x v=>match T.get ty,c.s.ev x,c.s.ev v with
   |some t,.val a,.val u=>some (c.s.own,t.size,a,u)
   |_,_,_=>none
  |_=>none
 |_=>none
def Pt(T:Tb)(e:Ev):Option (Option IntKind×Value):=
 match e with
 | .read o c=>match o.op with
  | .convert src dst x=>match T.get src,T.get dst,c.s.ev x with
   |some y,some z,.val a=>match T.get y.elem with
    |some q=>bif (Nat.beq y.kind 3&&(Nat.beq z.kind 2&&(!Nat.beq y.esize 0&&Nat.beq y.ezero.length y.esize)))then some (q.ikind,a)else none
    |none=>none
   |_,_,_=>none
  |_=>none
 |_=>none
def Pz(T:Tb)(e:Ev):Option (Nat×Value):=
 match e with
 | .read o c=>match o.op with
  | .sliceToArrayPointer ty x=>match T.get ty,c.s.ev x with
   |some t,.val a=>bif Nat.beq t.kind 4 then some (t.alen,a)else none
   |_,_=>none
  |_=>none
 |_=>none
def zV(T:Tb)(e:Ev):Option (Nat×Value×Option Value×Option Value):=
 match e with
 | .read o c=>match o.op with
  | .slice ty x lo hi none=>match T.get ty,c.s.ev x,Qm c.s lo,Qm c.s hi with
   |some t,.val a,some l,some h=>bif (Nat.beq t.kind 3&&(!Nat.beq t.esize 0&&Nat.beq t.ezero.length t.esize))then some (t.esize,a,l,h)else none
   |_,_,_,_=>none
  |_=>none
 |_=>none
def Kf(T:Tb)(e:Ev):Bool:=
 match e with
 | .ask o c=>match o.op with
  | .buildSlice ty n ps=>match T.get ty,ps.toList with
   |some t,[]=>Nat.beq t.kind 3&&(!Nat.beq t.esize 0&&(Nat.beq n 0&&Nat.beq t.ezero.length t.esize))
   |_,_=>false
  |_=>false
 |_=>false
section
variable{T:Tb}{P:Program}{fin:VS→List aE→Prop}{c:fM}{Γ:List aE}
theorem W.shl(D:List Nat)(k yk:IntKind)(a b r:Int)(hb:0≤b)(hr:k.wrap (a*2^(min b.toNat k.bits))=r)
  (hk:W T P fin (gy (aJ T (bh T D 999 c)) (.int k r)) Γ)(h:ng (aJ T (bh T D 999 c))=some (.shl,.int k a,.int yk b):=by kernel_rfl):W T P fin c Γ:=by
 subst hr;refine eF D 999 ?_;generalize bh T D 999 c=c1 at*;unfold ng at h;split at h
 ·rename_i o c' he;rw[he]at hk;split at h
  ·rename_i op ty u v yt hop;split at h
   ·rename_i x y hx hy;simp only[aq,aI]at h;obtain⟨rfl,rfl,rfl⟩:=h;refine W.read _ he (.any ?_) hk;intro w;have hb':¬b<0:=by omega
    simp[execOp,hop,cE hx,cE hy,eqGuard,binOp,Op.shift,hb']
   ·simp at h
  ·simp at h
 ·simp at h
theorem W.shr(D:List Nat)(k yk:IntKind)(a b r:Int)(hb:0≤b)(hr:a.fdiv (2^(min b.toNat k.bits))=r)
  (hk:W T P fin (gy (aJ T (bh T D 999 c)) (.int k r)) Γ)(h:ng (aJ T (bh T D 999 c))=some (.shr,.int k a,.int yk b):=by kernel_rfl):W T P fin c Γ:=by
 subst hr;refine eF D 999 ?_;generalize bh T D 999 c=c1 at*;unfold ng at h;split at h
 ·rename_i o c' he;rw[he]at hk;split at h
  ·rename_i op ty u v yt hop;split at h
   ·rename_i x y hx hy;simp only[aq,aI]at h;obtain⟨rfl,rfl,rfl⟩:=h;refine W.read _ he (.any ?_) hk;intro w;have hb':¬b<0:=by omega
    simp[execOp,hop,cE hx,cE hy,eqGuard,binOp,Op.shift,hb']
   ·simp at h
  ·simp at h
 ·simp at h
theorem mH(D:List Nat)(k:IntKind)(a b r:Int)(hb:b≠0)(hr:a.tmod b=r)
  (hk:W T P fin (gy (aJ T (bh T D 999 c)) (.int k r)) Γ)(h:ng (aJ T (bh T D 999 c))=some (.rem,.int k a,.int k b):=by kernel_rfl):W T P fin c Γ:=by
 subst hr;refine eF D 999 ?_;generalize bh T D 999 c=c1 at*;unfold ng at h;split at h
 ·rename_i o c' he;rw[he]at hk;split at h
  ·rename_i op ty u v yt hop;split at h
   ·rename_i x y hx hy;simp only[aq,aI]at h;obtain⟨rfl,rfl,rfl⟩:=h;refine W.read _ he (.any ?_) hk;intro w;simp[execOp,hop,cE hx,cE hy,eqGuard,binOp,Op.intDiv,hb]
   ·simp at h
  ·simp at h
 ·simp at h
theorem W.quo(D:List Nat)(a b r:Int)(hb:b≠0)(hr:IntKind.i64.wrap (a.tdiv b)=r)
  (hk:W T P fin (gy (aJ T (bh T D 999 c)) (.int .i64 r)) Γ)(h:ng (aJ T (bh T D 999 c))=some (.quo,.int .i64 a,.int .i64 b):=by kernel_rfl):W T P fin c Γ:=by
 subst hr;refine eF D 999 ?_;generalize bh T D 999 c=c1 at*;unfold ng at h;split at h
 ·rename_i o c' he;rw[he]at hk;split at h
  ·rename_i op ty u v yt hop;split at h
   ·rename_i x y hx hy;simp only[aq,aI]at h;obtain⟨rfl,rfl,rfl⟩:=h;refine W.read _ he (.any ?_) hk;intro w;simp[execOp,hop,cE hx,cE hy,eqGuard,binOp,Op.intDiv,hb]
   ·simp at h
  ·simp at h
 ·simp at h
theorem Rv(a b:Int):(if b>a then b else a)=max a b:=by
 rw[Int.max_def];by_cases h:b>a
 ·rw[if_pos h,if_pos (by omega)]
 ·rw[if_neg h];by_cases h2:a≤b
  ·rw[if_pos h2];omega
  ·rw[if_neg h2]
theorem Rw(a b:Int):(if b<a then b else a)=min a b:=by
 rw[Int.min_def];by_cases h:b<a
 ·rw[if_pos h,if_neg (by omega)]
 ·rw[if_neg h,if_pos (by omega)]
theorem Mv(D:List Nat)(k:IntKind)(a b r:Int)(hr:max a b=r)
  (hk:W T P fin (gy (aJ T (bh T D 999 c)) (.int k r)) Γ)(h:EF (aJ T (bh T D 999 c))=some (true,.int k a,.int k b):=by kernel_rfl):W T P fin c Γ:=by
 subst hr;refine eF D 999 ?_;generalize bh T D 999 c=c1 at*;unfold EF at h;split at h
 ·rename_i o c' he;rw[he]at hk;split at h
  ·rename_i cl hop;split at h
   ·rename_i sx xx hcal hargs;split at h
    ·rename_i u v hu hv;simp only[aq,aI,true_and]at h;obtain⟨rfl,rfl⟩:=h;have hcargs:cl.args= #[sx,xx]:=by rw[←fZ];exact hargs
     refine W.read _ he (.any fun w=>?_) hk;simp[execOp,hop,resolve,invoke,builtin,hcal,hcargs,cE hu,cE hv,Builtin.max_,Builtin.max2,Rv]
    ·simp at h
   ·split at h<;>simp at h
   ·simp at h
  ·simp at h
 ·simp at h
theorem Cb(D:List Nat)(k:IntKind)(a b r:Int)(hr:min a b=r)
  (hk:W T P fin (gy (aJ T (bh T D 999 c)) (.int k r)) Γ)(h:EF (aJ T (bh T D 999 c))=some (false,.int k a,.int k b):=by kernel_rfl):W T P fin c Γ:=by
 subst hr;refine eF D 999 ?_;generalize bh T D 999 c=c1 at*;unfold EF at h;split at h
 ·rename_i o c' he;rw[he]at hk;split at h
  ·rename_i cl hop;split at h
   ·split at h<;>simp at h
   ·rename_i sx xx hcal hargs;split at h
    ·rename_i u v hu hv;simp only[aq,aI,true_and]at h;obtain⟨rfl,rfl⟩:=h;have hcargs:cl.args= #[sx,xx]:=by rw[←fZ];exact hargs
     refine W.read _ he (.any fun w=>?_) hk;simp[execOp,hop,resolve,invoke,builtin,hcal,hcargs,cE hu,cE hv,Builtin.min_,Builtin.min2,Rw]
    ·simp at h
   ·simp at h
  ·simp at h
 ·simp at h
theorem Yf(D:List Nat)(n:Nat)(ao:Option Addr)(len cap:Nat)(hT:T.Ok P)(hl:n≤len)
  (hk:W T P fin (gy (aJ T (bh T D 999 c)) (.pointer ao)) Γ)(h:Pz T (aJ T (bh T D 999 c))=some (n,.slice ao len cap):=by kernel_rfl):W T P fin c Γ:=by
 refine eF D 999 ?_;generalize bh T D 999 c=c1 at*;unfold Pz at h;split at h
 ·rename_i o c' he;rw[he]at hk;split at h
  ·rename_i ty x hop;split at h
   ·rename_i t a ht ha;cases hkd:Nat.beq t.kind 4 with
    |false=>simp[hkd]at h
    |true=>
     simp only[hkd,bT,aq,aI]at h;obtain⟨rfl,rfl⟩:=h;refine W.read _ he (.any fun w=>?_) hk;obtain⟨hd,_⟩:=o7 hT ht (aH hkd);have:¬len<t.alen:=by omega
     simp[execOp,hop,cE ha,Instr.arrayAt,cP hd,this]
   ·simp at h
  ·simp at h
 ·simp at h
theorem MA(D:List Nat)(ao:Option Addr)(n cp:Nat)(zs:List Int)(hT:T.Ok P) [hrp:aZ (RA ao) (zs.map (Value.int .u8)) Γ](hn:n=zs.length)
  (hk:W T P fin (gy (aJ T (bh T D 999 c)) (.string (strOfNums zs))) Γ)(h:Pt T (aJ T (bh T D 999 c))=some (some .u8,.slice ao n cp):=by kernel_rfl):W T P fin c Γ:=by
 refine eF D 999 ?_;generalize bh T D 999 c=c1 at*;unfold Pt at h;split at h
 ·rename_i o c' he;rw[he]at hk;split at h
  ·rename_i src dst x hop;split at h
   ·rename_i y z a hy hz ha;split at h
    ·rename_i q hq;cases hc:(Nat.beq y.kind 3&&(Nat.beq z.kind 2&&(!Nat.beq y.esize 0&&Nat.beq y.ezero.length y.esize)))with
     |false=>simp[hc]at h
     |true=>
      simp only[hc,bT,aq,aI]at h;obtain⟨hik,rfl⟩:=h;simp only[aK,cF]at hc;obtain⟨c2,c3,c4,c5⟩:=hc;have hne:y.esize≠0:=by
       intro e0;rw[e0]at c4;simp at c4
      obtain⟨ie,zz,hd,hie,EZ,hsz,FQ,Qu,hze⟩:=mM hT hy (aH c2) hne (aH c5);have YU:=yZ hT hz (aH c3);have hel:=yV hT hq hik;refine W.read _ he (.look (by simp[jf,hop,hy,aH c2]) ?_) hk;intro I w hdo hh _;have hrow:=hrp.p hh;have hrun:(convert src dst (.slice ao n cp)).run P w=.ok (.string (strOfNums zs)) w:=by
       by_cases hz0:zs=[]
       ·subst hz0;simp only[bE]at hn;subst hn;cases ao with
        |none=>exact run_convert_bytes_nil w src y.elem hd hel 0 cp dst YU
        |some ad=>
         rw[run_convert_bytes_string w src dst y.elem _ 0 cp hd hel YU,run_bytesToString w ad 0 cp [] (by simp[loadCells,loadCellsFrom])];rfl
       ·obtain⟨b0,Ck,rfl,_,h3⟩:=hrow (by simpa using hz0);refine run_convert_bytes_arg w src y.elem hd hel b0 Ck n cp zs hn.symm (fun i hi=>?_) dst YU;refine h3 i _ ?_;have hi':i<zs.length:=by omega
        simp[List.getD,ar hi']
      simp[execOp,hop,cE ha,hrun]
    ·simp at h
   ·simp at h
  ·simp at h
 ·simp at h
theorem Cw(D:List Nat)(z b off len cap:Nat)(lo hi:Option Value)(l r:Nat)(hT:T.Ok P)
  (hl:lo=some (.int .i64 (l:Int))∨(lo=none∧l=0))(hr:hi=some (.int .i64 (r:Int))∨(hi=none∧r=len))(hlr:l≤r)(hrs:r≤cap)(hla:l<cap)
  (hk:W T P fin (gy (aJ T (bh T D 999 c)) (.slice (some ⟨b,off+l*z,none⟩) (r-l) (cap-l))) Γ)(h:zV T (aJ T (bh T D 999 c))=some (z,.slice (some ⟨b,off,none⟩) len cap,lo,hi):=by kernel_rfl):W T P fin c Γ:=by
 refine eF D 999 ?_;generalize bh T D 999 c=c1 at*;unfold zV at h;split at h
 ·rename_i o c' he;rw[he]at hk;split at h
  ·rename_i ty x lo' hi' hop;split at h
   ·rename_i t a l' h' ht ha hlo hhi;cases hkd:(Nat.beq t.kind 3&&(!Nat.beq t.esize 0&&Nat.beq t.ezero.length t.esize))with
    |false=>simp[hkd]at h
    |true=>
     simp only[hkd,bT,aq,aI]at h;obtain⟨rfl,rfl,rfl,rfl⟩:=h;simp only[aK,cF]at hkd;obtain⟨c2,c3,c4⟩:=hkd;have ab7:t.esize≠0:=by
      intro e0;rw[e0]at c3;simp at c3
     obtain⟨ie,zz,hd,hie,EZ,hin,FQ,Qu,hze⟩:=mM hT ht (aH c2) ab7 (aH c4);refine W.read _ he (.any ?_) hk;intro w;have hrho:∀(q:Option Operand) (z:Option Value),Qm c'.s q=some z→q.map c'.s.rho=z:=by
      intro q z hq;cases q with
      |none=>simp[Qm]at hq;exact hq
      |some x=>
       simp only[Qm]at hq;split at hq
       ·rename_i v hv;injection hq with hq;subst hq;simp[cE hv]
       ·simp at hq
     have hm1:=hrho _ _ hlo;have hm2:=hrho _ _ hhi;have hne:¬cap=l:=by omega
     have hla':l≤cap:=by omega
     simp only[execOp,hop,Instr.sliceAt,cB,cP hd,bC,cE ha,hm1,hm2];rcases hl with rfl|⟨rfl,rfl⟩<;>rcases hr with rfl|⟨rfl,rfl⟩<;>simp[Instr.slice,Instr.sliceBounds,Instr.sliceBound,asIntOf,cP hd,hlr,hrs,hla',hne,iT hie,hin,gp]
   ·simp at h
  ·simp at h
 ·simp at h
theorem S2(D:List Nat)(hT:T.Ok P)
  (hk:∀b,W T P fin (gy (aJ T (bh T D 999 c)) (.slice (some ⟨b,0,none⟩) 0 0)) Γ)(h:Kf T (aJ T (bh T D 999 c))=true:=by kernel_rfl):W T P fin c Γ:=by
 refine eF D 999 ?_;generalize bh T D 999 c=c1 at*;unfold Kf at h;split at h
 ·rename_i o c' he;rw[he]at hk;split at h
  ·rename_i ty m ps hop;split at h
   ·rename_i t ht hps;simp only[aK,cF]at h;obtain⟨c2,c3,c4,c5⟩:=h;have hm:=aH c4;subst hm;have hne:t.esize≠0:=by
     intro e0;rw[e0]at c3;simp at c3
    obtain⟨ie,zz,hd,hie,EZ,hsz,FQ,Qu,hze⟩:=mM hT ht (aH c2) hne (aH c5);refine W.ask (fun v Δ=>∃b,v=.slice (some ⟨b,0,none⟩) 0 0∧Δ=[]) he (fun I w hdo hh=>?_) ?_
    ·have hps':ps= #[]:=by rw[←fZ];simpa using hps
     refine⟨_,_,_,?_,⟨w.heap.size,rfl,rfl⟩,(Below.refl _ _).alloc (ai _) (.cells #[] t.elem),aG.nil _ _⟩;simp[execOp,hop,hps',Instr.buildSlice,cP hd,iT hie,Instr.fill,newRow,show Array.range 0= #[]from by decide]
    ·rintro v Δ ⟨b,rfl,rfl⟩;exact hk b
   ·simp at h
  ·simp at h
 ·simp at h
theorem dQ(D:List Nat)(own:List (Nat×List Value))(b off n:Nat)(row:List Value)(v:Value)(hT:T.Ok P)
  (hm:(b,row)∈own)(hv:row[off]? =some v)
  (hk:W T P fin (gy (aJ T (bh T D 999 c)) v) Γ)(h:uO T (aJ T (bh T D 999 c))=some (false,n,.pointer (some ⟨b,off,none⟩),own):=by kernel_rfl):W T P fin c Γ:=by
 refine eF D 999 ?_;generalize bh T D 999 c=c1 at*;unfold uO at h;split at h
 ·rename_i o c' he;rw[he]at hk;split at h
  ·rename_i ty u hop;split at h
   ·rename_i t a ht ha;simp only[aq,aI]at h;obtain⟨hag,hsz,rfl,rfl⟩:=h;refine W.read _ he (.look (by simp[jf,hop]) ?_) hk;intro I w hd hh ho;obtain⟨e',_,hblk⟩:=ho b row hm;obtain⟨i,d,hi,hdd,hz,hsz',hag',_⟩:=fk (hT.ty _ _ ht);have hc:w.cell? ⟨b,off,none⟩=some v:=by rw[ns hblk];exact hv
    simp[execOp,hop,Instr.loadAt,Instr.sureAddr,cE ha,loadVar,kN hdd,hag',hag,hc]
   ·simp at h
  ·simp at h
 ·simp at h
theorem S3(D:List Nat)(own:List (Nat×List Value))(z bytes n:Nat)(zs:List Value)(row:List Value)(kl kc:IntKind)(hT:T.Ok P)
   (hrow:(madeCells zs.toArray (n*z)).toList=row)
  (hn:n≤1000000)(hb:bytes≤100000000)
  (hk:∀g,W T P fin (nh (aJ T (bh T D 999 c)) ((g,row)::own) (.slice (some ⟨g,0,none⟩) n n)) Γ)(h:Kh T (aJ T (bh T D 999 c))=some (own,z,bytes,zs,.int kl (n:Int),.int kc (n:Int)):=by kernel_rfl):W T P fin c Γ:=by
 refine eF D 999 ?_;generalize bh T D 999 c=c1 at*;unfold Kh at h;split at h
 ·rename_i o c' he;rw[he]at hk;split at h
  ·rename_i ty l cp hop;split at h
   ·rename_i t a b ht ha hbv;cases hc:(Nat.beq t.kind 3&&(!Nat.beq t.esize 0&&(Nat.beq t.ezero.length t.esize&& !T.dat t.elem)))with
    |false=>simp[hc]at h
    |true=>
     simp only[hc,bT,aq,aI]at h;obtain⟨hown,rfl,rfl,rfl,rfl,rfl⟩:=h;simp only[aK,cF]at hc;obtain⟨c2,c3,c4,c5⟩:=hc;have hne:t.esize≠0:=by
      intro e0;rw[e0]at c3;simp at c3
     obtain⟨ie,zz,hd,hie,EZ,hsz,FQ,Qu,hze⟩:=mM hT ht (aH c2) hne (aH c4);have hnb:n*t.ebytes≤100000000000000:=by
      have:=aR hn hb;omega
     have ab6:(ie.bytes:Int)*(n:Int)≤281474976710656:=by
      rw[FQ,iq];have:((n*t.ebytes:Nat):Int)≤((100000000000000:Nat):Int):=Int.ofNat_le.2 hnb;rw[dp]at this;omega
     refine W.own (fun v' iX Δ=>∃g,v'=.slice (some ⟨g,0,none⟩) n n∧iX=(g,row)::own∧Δ=[]) he (fun I w hdo hh hoa hnod _=>?_) ?_
     ·have hrun:=run_make (P:=P) w ty t.elem ie zz hd hie EZ kl kc (n:Int) (n:Int) (by omega) (by omega) ab6 (by omega);simp only[gB]at hrun;rw[hown]at hoa hnod;have FX:∀b cs,(b,cs)∈own→b<w.heap.size:=fun b cs hb=>by
       obtain⟨_,_,hc⟩:=hoa b cs hb;exact cu hc
      have hold:∀k,k<w.heap.size→(w.alloc (.cells (madeCells zz.cells (n*ie.size)) t.elem)).heap[k]? =w.heap[k]? :=fun k hk=>((Below.refl w.heap.size w).alloc (ai _) _).block k hk;refine⟨_,(w.heap.size,row)::own,[],_,_,?_,.inl rfl,⟨w.heap.size,rfl,rfl,rfl⟩,fun q _ JE=>((Below.refl q w).alloc JE _),?_,fun k hk _=>hold k hk,fun b cs hb=>?_,fun b cs hb=>?_,?_,aG.nil _ _⟩
      ·simp only[execOp,hop,cE ha,cE hbv,cB];rw[hrun];rfl
      ·exact((Below.refl w.heap.size w).alloc (ai _) (.cells (madeCells zz.cells (n*ie.size)) t.elem)).size
      ·rcases List.mem_cons.1 hb with hb|hb
       ·injection hb with h1' h2';subst h1' h2';refine⟨t.elem,c5,?_⟩;have XE:cs.toArray=madeCells zz.cells (n*ie.size):=by
         rw[←hrow,hze,hsz]
        rw[XE];show(w.heap.push _)[w.heap.size]? =_;simp
       ·obtain⟨e',he',hc⟩:=hoa b cs hb;exact⟨e',he',by rw[hold b (FX b cs hb)];exact hc⟩
      ·rcases List.mem_cons.1 hb with hb|hb
       ·injection hb with h1' h2';subst h1';exact .inr (ai _)
       ·exact .inl ⟨cs,by rw[hown];exact hb⟩
      ·rw[b_,kh];refine⟨fun lK=>?_,hnod⟩;obtain⟨⟨b,cs⟩,h1,h2⟩:=List.mem_map.1 lK;have:=FX b cs h1;simp only at h2;omega
     ·rintro v' iX Δ ⟨g,rfl,rfl,rfl⟩;exact hk g
   ·simp at h
  ·simp at h
 ·simp at h
theorem Yg(D:List Nat)(own O1 O2:List (Nat×List Value))(z g off:Nat)(row:List Value)(u:Value)(hT:T.Ok P)
  (h:EG T (aJ T (bh T D 999 c))=some (own,z,.pointer (some ⟨g,off,none⟩),u))(ho:own=O1++(g,row)::O2)(hz:u.cells.size=z)(h1:∀v∈u.cells.toList,v.oneCell'=true)(hfit:off+z≤row.length)
  (hk:W T P fin (nh (aJ T (bh T D 999 c)) (O1++(g,row.take off++u.cells.toList++row.drop (off+z))::O2) undef) Γ):W T P fin c Γ:=by
 refine eF D 999 ?_;generalize bh T D 999 c=c1 at*;unfold EG at h;split at h
 ·rename_i o c' he;rw[he]at hk;split at h
  ·rename_i ty x v hop;split at h
   ·rename_i t a u' ht ha hu;simp only[aq,aI]at h;obtain⟨hown,rfl,rfl,rfl⟩:=h;refine W.own (fun v' iX Δ=>v'=undef∧iX=O1++(g,row.take off++u'.cells.toList++row.drop (off+t.size))::O2∧Δ=[]) he (fun I w hdo hh hoa hnod _=>?_) ?_
    ·rw[hown]at hoa hnod;obtain⟨e',he',hblk⟩:=hoa g row (by rw[ho];simp);obtain⟨i,d,hi,zK,EZ,hsz,_⟩:=fk (hT.ty _ _ ht);have hlen:u'.cells.toList.length=t.size:=by simpa using hz
     have hst:=run_storeCells_at P g off e' u'.cells.toList 0 row.toArray w hblk (by simp only[qp];omega) h1;rw[hlen]at hst;have hne:¬u'.cells.size≠i.size:=by simp[hz,hsz]
     have hexec:(execOp c'.s.rho o).run P w=.ok .skip (w.setRow g (row.take off++u'.cells.toList++row.drop (off+t.size)).toArray):=by
      simp only[execOp,hop,Instr.storeAt,Instr.sureAddr,cE ha,cE hu,storeVar,cB,dS,bC,iT hi,if_neg hne,hst,fm]
     refine⟨_,_,[],_,_,hexec,.inr ⟨rfl,rfl⟩,⟨rfl,rfl,rfl⟩,fun q hq _=>⟨rfl,rfl,rfl,by simp,fun k hk=>oq w g k _ (by have:=hq g row (by rw[hown,ho];simp);omega)⟩,by simp,fun k hk hk'=>oq w g k _ (by rintro rfl;exact hk' row (by rw[hown,ho];simp)),fun b cs hb=>?_,fun b cs hb=>?_,?_,aG.nil _ _⟩
     ·have hother:((b,cs)∈O1∨(b,cs)∈O2)→∃e,T.dat e=false∧(w.setRow g (row.take off++u'.cells.toList++row.drop (off+t.size)).toArray).heap[b]? =some (Obj.cells cs.toArray e (0,0)):=by
       intro hb;have hbg:=C8 (by rw[←ho];exact hnod) b cs hb;obtain⟨e,he2,hc⟩:=hoa b cs (by rw[ho];rcases hb with h|h<;>simp[h]);exact⟨e,he2,by rw[oq w g b _ hbg];exact hc⟩
      rcases List.mem_append.1 hb with hb|hb
      ·exact hother (.inl hb)
      ·rcases List.mem_cons.1 hb with hb|hb
       ·injection hb with h1' h2';subst h1' h2';exact⟨e',he',by simpa using setRow_heap w b _ _ e' _ hblk⟩
       ·exact hother (.inr hb)
     ·rcases List.mem_append.1 hb with hb|hb
      ·exact .inl ⟨cs,by rw[hown,ho];simp[hb]⟩
      ·rcases List.mem_cons.1 hb with hb|hb
       ·injection hb with h1' h2';subst h1' h2';exact .inl ⟨row,by rw[hown,ho];simp⟩
       ·exact .inl ⟨cs,by rw[hown,ho];simp[hb]⟩
     ·rw[ho]at hnod;simpa using hnod
    ·rintro v' iX Δ ⟨rfl,rfl,rfl⟩;exact hk
   ·simp at h
  ·simp at h
 ·simp at h
theorem nY(D:List Nat)(own O1 O2:List (Nat×List Value))(z g off:Nat)(row:List Value)(u:Value)(aad:List Value)(hT:T.Ok P)
   (ho:own=O1++(g,row)::O2)(hz:u.cells.size=z)(h1:∀v∈u.cells.toList,v.oneCell'=true)(hfit:off+z≤row.length)
  (hrow:row.take off++u.cells.toList++row.drop (off+z)=aad)
  (hk:W T P fin (nh (aJ T (bh T D 999 c)) (O1++(g,aad)::O2) undef) Γ)(h:EG T (aJ T (bh T D 999 c))=some (own,z,.pointer (some ⟨g,off,none⟩),u):=by kernel_rfl):W T P fin c Γ:=by
 subst hrow;exact Yg D own O1 O2 z g off row u hT h ho hz h1 hfit hk
theorem JR(k:IntKind)(z:Int):∀v∈(Value.int k z).cells.toList,v.oneCell'=true:=by
 intro v hv;simp[Value.cells]at hv;subst hv;rfl
theorem DL(O1 O2:List (Nat×List Value))(b:Nat)(cs:List Value)
  (hk:W T P fin ⟨(dN T 999 c).s.setOwn (O1++O2),(dN T 999 c).k⟩ (dY b cs::Γ))(ho:(dN T 999 c).s.own=O1++(b,cs)::O2:=by kernel_rfl)(hm:dG (dN T 999 c).k=false:=by kernel_rfl):W T P fin c Γ:=
 W.code 999 (W.pub (s:=(dN T 999 c).s) (k:=(dN T 999 c).k) hm ho hk)
theorem Tu{b:Nat}{cs xs:List Value} [h:aZ (dY b) cs Γ](hx:∀(i:Nat) (v:Value),xs[i]? =some v→cs[i]? =some v):∀I w,bB T I w→aG Γ I w→aG [RA (some ⟨b,0,none⟩) xs] I w:=fun I w _ hh=>
 aG.cons (RA.of_row (h.p hh) hx) (aG.nil _ _)
theorem SZ(D:List Nat)(own:List (Nat×List Value))(z bytes m b0 Ck:Nat)(x:Value)(news:List Value)(hT:T.Ok P)
  (h:pZ T (aJ T (bh T D 999 c))=some (own,z,bytes,.slice (some ⟨b0,Ck,none⟩) 0 0,x))(hx:qP T Γ own x m z news)
  (hn:m≤1000000)(hb:bytes≤100000000)
  (hk0:m=0→W T P fin (nh (aJ T (bh T D 999 c)) own (.slice (some ⟨b0,Ck,none⟩) 0 0)) Γ)
  (hk:∀g cap cur,0<m→m≤cap→cap≤maxLen→cur.length=cap*z→cur.take (m*z)=news→W T P fin (nh (aJ T (bh T D 999 c)) ((g,cur)::own) (.slice (some ⟨g,0,none⟩) m cap)) Γ):W T P fin c Γ:=by
 refine eF D 999 ?_;generalize bh T D 999 c=c1 at*;unfold pZ at h;split at h
 ·rename_i o c' he;rw[he]at hk hk0;split at h
  ·rename_i cl hop;split at h
   ·rename_i sx xx t1 t2 hcal hargs htys;split at h
    ·rename_i a b y1 ha hbv hy;cases hc:(Nat.beq t1 t2&&(Nat.beq y1.kind 3&&(!Nat.beq y1.esize 0&&(Nat.beq y1.ezero.length y1.esize&& !T.dat y1.elem))))with
     |false=>simp[hc]at h
     |true=>
      simp only[hc,bT,aq,aI]at h;obtain⟨hown,rfl,rfl,rfl,rfl⟩:=h;simp only[aK,cF]at hc;obtain⟨c1',c2,c3,c4,c5⟩:=hc;have NU:=aH c1';subst NU;have hne:y1.esize≠0:=by
       intro e0;rw[e0]at c3;simp at c3
      obtain⟨ie,zz,hd,hie,EZ,hsz,FQ,Qu,hze⟩:=mM hT hy (aH c2) hne (aH c4);have hcargs:cl.args= #[sx,xx]:=by rw[←fZ];exact hargs
      have hctys:cl.argTypes= #[t1,t1]:=by rw[←fZ];exact htys
      obtain⟨ax,cc,rfl,hnl,hrd⟩:=hx;have hnb:(0+m)*y1.ebytes≤140737488355328:=by
       rw[cz];have:=aR hn hb;omega
      refine W.own (fun v' iX Δ=>(m=0∧v'=.slice (some ⟨b0,Ck,none⟩) 0 0∧iX=own∧Δ=[])∨(∃g cap cur,0<m∧m≤cap∧cap≤maxLen∧cur.length=cap*y1.esize∧cur.take (m*y1.esize)=news∧v'=.slice (some ⟨g,0,none⟩) m cap∧iX=(g,cur)::own∧Δ=[])) he (fun I w hdo hh hoa hnod hno=>?_) ?_
      ·rw[hown]at hoa hnod;have hexec:∀v' w',(Builtin.append_ #[t1,t1] o.type #[.slice (some ⟨b0,Ck,none⟩) 0 0,.slice ax m cc]).run P w=.ok v' w'→(execOp c'.s.rho o).run P w=.ok (.value v') w':=by
        intro v' w' hr;simp[execOp,hop,resolve,invoke,builtin,hcal,hcargs,hctys,cE ha,cE hbv,hr]
       by_cases hm:m=0
       ·subst hm;have hr:=s8 (P:=P) w t1 o.type y1.elem ie hd hie (some ⟨b0,Ck,none⟩) ax 0 0 cc (ai _);exact⟨_,own,[],w,_,hexec _ _ hr,.inl rfl,.inl ⟨rfl,rfl,rfl,rfl⟩,fun q _ _=>Below.refl _ _,ai _,fun _ _ _=>rfl,hoa,fun b cs hb=>.inl ⟨cs,by rw[hown];exact hb⟩,hnod,aG.nil _ _⟩
       ·obtain⟨ad,rfl,hrd2⟩:=hrd (by omega);have wR:=hrd2 I w hdo hh hoa;obtain⟨v',w',hrun,hw,wQ⟩:=run_append_arg_grows (P:=P) w t1 o.type y1.elem ie zz y1.esize y1.ebytes hd hie EZ hsz FQ Qu (by omega) ⟨b0,Ck,none⟩ 0 0 [] (by simp) (fun j u hj=>by simp at hj) ad m cc news hnl wR (by omega) (by unfold maxLen;omega) hnb;obtain⟨_,hw⟩:=hw;rcases hw with⟨_,h0⟩|⟨g,cap,cur,rfl,hge,YZ,hnc,hcm,hcs,htk⟩
        ·omega
        ·have FX:∀b cs,(b,cs)∈own→b<w.heap.size:=fun b cs hb=>by
          obtain⟨_,_,hc⟩:=hoa b cs hb;exact cu hc
         rw[cz]at hrun hnc htk;refine⟨_,(g,cur.toList)::own,[],w',_,hexec _ _ hrun,.inl rfl,.inr ⟨g,cap,cur.toList,by omega,hnc,hcm,by simpa using hcs,by simpa using htk,rfl,rfl,rfl⟩,fun q _ JE=>⟨wQ.os,wQ.tape,wQ.output,wQ.size,fun k hk=>wQ.block k (by omega) (by simp)⟩,wQ.size,fun k hk _=>wQ.block k hk (by simp),fun b cs hb=>?_,fun b cs hb=>?_,?_,aG.nil _ _⟩
         ·rcases List.mem_cons.1 hb with hb|hb
          ·injection hb with h1' h2';subst h1' h2';exact⟨y1.elem,by simpa using c5,by simpa using YZ⟩
          ·obtain⟨e,he',hc⟩:=hoa b cs hb;exact⟨e,he',by rw[wQ.block b (FX b cs hb) (by simp)];exact hc⟩
         ·rcases List.mem_cons.1 hb with hb|hb
          ·injection hb with h1' h2';subst h1';exact .inr hge
          ·exact .inl ⟨cs,by rw[hown];exact hb⟩
         ·rw[b_,kh];refine⟨fun lK=>?_,hnod⟩;obtain⟨⟨b,cs⟩,h1,h2⟩:=List.mem_map.1 lK;have:=FX b cs h1;simp only at h2;omega
      ·rintro v' iX Δ (⟨hm,rfl,rfl,rfl⟩|⟨g,cap,cur,h0,h1,h2,h3,h4,rfl,rfl,rfl⟩)
       ·exact hk0 hm
       ·exact hk g cap cur h0 h1 h2 h3 h4
    ·simp at h
   ·simp at h
  ·simp at h
 ·simp at h
end
def rA(W:World)(b1 b2:Nat)(w:World):Prop:=(∀(k:Nat) (o:Obj),k≠b1→k≠b2→W.heap[k]? =some o→w.heap[k]? =some o)∧
 (∃v,w.heap[b1]? =some (.cells #[v] 84 (0,0)))∧(∃v,w.heap[b2]? =some (.cells #[v] 84 (0,0)))∧Below b1 W w
theorem rA.call{W w w':World}{b1 b2:Nat}(h:rA W b1 b2 w)(hb:Below w.heap.size w w'):rA W b1 b2 w':=by
 obtain⟨h1,⟨v1,h2⟩,⟨v2,h3⟩,h4⟩:=h;exact⟨fun k o a b c=>bJ hb (h1 k o a b c),⟨v1,bJ hb h2⟩,⟨v2,bJ hb h3⟩,h4.trans (hb.mono (gf (rK h2)))⟩
theorem rA.kp{W w:World}{b1 b2:Nat}(h:rA W b1 b2 w){v1 v2:Value}(h1:W.heap[b1]? =some (.cells #[v1] 84 (0,0)))(h2:W.heap[b2]? =some (.cells #[v2] 84 (0,0))):Kp W w:=fun b c T f hT hb=>by
 refine h.1 b _ ?_ ?_ hb
 ·rintro rfl;rw[h1]at hb;simp at hb;rcases hT with h|h|h<;>rw[←hb.2.1]at h<;>exact absurd h (by decide)
 ·rintro rfl;rw[h2]at hb;simp at hb;rcases hT with h|h|h<;>rw[←hb.2.1]at h<;>exact absurd h (by decide)
theorem rA.refl{W:World}{b1 b2:Nat}{v1 v2:Value}(h1:W.heap[b1]? =some (.cells #[v1] 84 (0,0)))(h2:W.heap[b2]? =some (.cells #[v2] 84 (0,0))):rA W b1 b2 W:=⟨fun _ _ _ _ h=>h,⟨v1,h1⟩,⟨v2,h2⟩,Below.refl _ _⟩
def DJ(w:World)(s:Sl)(g n:Nat)(p:List Nat)(wr:World):Prop:=
 wr.heap[w.heap.size]? =some (.cells #[.slice s.ao s.n s.c] 84 (0,0))∧wr.heap[w.heap.size+1]? =some (.cells #[.slice none 0 0] 84 (0,0))∧
 wr.heap[w.heap.size+1+1]? =some (.cells #[.slice none 0 0] 84 (0,0))∧iX wr (w.heap.size+3) 3 .i64 (.slice (some ⟨g,0,none⟩) n n) p∧Below w.heap.size w wr
theorem DJ.up{w:World}{s:Sl}{g n:Nat}{p:List Nat}{wr w':World}(h:DJ w s g n p wr)(hb:Below wr.heap.size wr w'):DJ w s g n p w':=
 ⟨bJ hb h.1,bJ hb h.2.1,bJ hb h.2.2.1,h.2.2.2.1.below hb (ai _),h.2.2.2.2.trans (hb.mono h.2.2.2.2.size)⟩
section
variable{Γ:List aE}{L M x y:Nat}
end
open Go.RowKit Go.IntWalk
section
variable{fin:VS→List aE→Prop}{Γ:List aE}{L M K:Nat}
end
section
variable{fin:VS→List aE→Prop}{Γ:List aE}{L M K:Nat}
end
section
variable{fin:VS→List aE→Prop}{Γ:List aE}{L M K:Nat}
end
section
variable{fin:VS→List aE→Prop}{Γ:List aE}{L M K:Nat}
end
def yW(z:Int):Prop:= -2147483648≤z∧z≤2147483647
instance(z:Int):Decidable (yW z):=inferInstanceAs (Decidable (_∧_))
theorem CV{z:Int}(h:yW z):iy z=true:=by
 unfold iy;unfold yW at h;simp only[aK,dj];omega
section
variable{fin:VS→List aE→Prop}{Γ:List aE}{L M K:Nat}
theorem Ww(x y:Sw){X Y:Sn} [aZ (SF x) (L,X) Γ] [aZ (SF y) (M,Y) Γ](hm:0≤X.m)(hn:0≤X.n)(hm':0≤Y.m)(NN:0≤Y.n)(ha:yW X.nr)(hb:yW Y.nr)(hL:L≤280:=by omega)(hM:M≤280:=by omega):
  au tb Tryz.prog 144 [BB x y] Γ (jv (.tuple #[.agg #[.int .i64 X.nr,.int .i64 Y.nr],.int .i64 0])):=by
 refine au.of_W aB Tryz.func144 rfl ?_;refine aj [] (Ka x hm hn) ?_;rintro _ _ ⟨u1,d1,rfl,rfl⟩;refine aj [] (jC u1 d1 (CV ha)) ?_;rintro _ _ ⟨rfl,rfl⟩;refine aj [] (Ka y hm' NN) ?_;rintro _ _ ⟨u3,d3,rfl,rfl⟩;refine aj [] (jC u3 d3 (CV hb)) ?_;rintro _ _ ⟨rfl,rfl⟩;unfold yW at ha hb;refine aS [] 24 (!true) rfl ?_;refine aS [24] 28 (!true) rfl ?_;refine aS [28] 32 (decide (X.nr< -2147483648)) (by rw[aY];omega) ?_;refine aS [32] 36 (decide (X.nr>2147483647)) (by rw[aY];omega) ?_;refine aS [36] 40 (decide (Y.nr< -2147483648)) (by rw[aY];omega) ?_;refine aS [40] 43 (decide (Y.nr>2147483647)) (by rw[aY];omega) ?_;exact W.r [43] (.tuple #[.agg #[.int .i64 X.nr,.int .i64 Y.nr],.int .i64 0]) ⟨rfl,rfl⟩ bU
theorem Wv(x y:Sw){X Y:Sn} [aZ (SF x) (L,X) Γ] [aZ (SF y) (M,Y) Γ](hm:0≤X.m)(hn:0≤X.n)(hm':0≤Y.m)(NN:0≤Y.n)(h:¬(yW X.nr∧yW Y.nr))(hL:L≤280:=by omega)(hM:M≤280:=by omega):
  au tb Tryz.prog 144 [BB x y] Γ (jv (.tuple #[.agg #[.int .i64 0,.int .i64 0],.int .i64 26])):=by
 refine au.of_W aB Tryz.func144 rfl ?_;refine aj [] (Ka x hm hn) ?_;rintro _ _ ⟨u1,d1,rfl,rfl⟩;refine aj [] (xr u1 d1) ?_;rintro _ _ ⟨rfl,rfl⟩;refine aj [] (Ka y hm' NN) ?_;rintro _ _ ⟨u3,d3,rfl,rfl⟩;refine aj [] (xr u3 d3) ?_;rintro _ _ ⟨rfl,rfl⟩;generalize X.nr=a at*;generalize Y.nr=b at*;cases sa:iy a with
 |false=>
  refine bD [] 24 (!false) rfl ?_;exact W.r [43,40,36,32,28,24] (.tuple #[.agg #[.int .i64 0,.int .i64 0],.int .i64 26]) ⟨rfl,rfl⟩ bU
 |true=>
 refine aS [] 24 (!true) rfl ?_;cases sb:iy b with
 |false=>
  refine bD [24] 28 (!false) rfl ?_;exact W.r [43,40,36,32,28] (.tuple #[.agg #[.int .i64 0,.int .i64 0],.int .i64 26]) ⟨rfl,rfl⟩ bU
 |true=>
 refine aS [24] 28 (!true) rfl ?_;by_cases h1:a< -2147483648
 ·refine bD [28] 32 (decide (a< -2147483648)) (by rw[fQ];exact h1) ?_;exact W.r [43,40,36,32] (.tuple #[.agg #[.int .i64 0,.int .i64 0],.int .i64 26]) ⟨rfl,rfl⟩ bU
 refine aS [28] 32 (decide (a< -2147483648)) (by rw[aY];exact h1) ?_;by_cases h2:a>2147483647
 ·refine bD [32] 36 (decide (a>2147483647)) (by rw[fQ];exact h2) ?_;exact W.r [43,40,36] (.tuple #[.agg #[.int .i64 0,.int .i64 0],.int .i64 26]) ⟨rfl,rfl⟩ bU
 refine aS [32] 36 (decide (a>2147483647)) (by rw[aY];exact h2) ?_;by_cases h3:b< -2147483648
 ·refine bD [36] 40 (decide (b< -2147483648)) (by rw[fQ];exact h3) ?_;exact W.r [43,40] (.tuple #[.agg #[.int .i64 0,.int .i64 0],.int .i64 26]) ⟨rfl,rfl⟩ bU
 refine aS [36] 40 (decide (b< -2147483648)) (by rw[aY];exact h3) ?_;refine bD [40] 43 (decide (b>2147483647)) (by rw[fQ];unfold yW at h;omega) ?_;exact W.r [43] (.tuple #[.agg #[.int .i64 0,.int .i64 0],.int .i64 26]) ⟨rfl,rfl⟩ bU
end
abbrev dv(d:Dp):Value:=.agg #[.int .i64 d.x,.int .i64 d.y]
def iJ(B:Int)(d:Dp):Prop:= -B≤d.x∧d.x≤B∧ -B≤d.y∧d.y≤B
abbrev yo(d:Dp)(a b c f:Qw):List Value:=[.int .i64 d.x,.int .i64 d.y,.slice a.n.ao a.n.n a.n.c,.bool a.a,.slice a.m.ao a.m.n a.m.c,.bool a.b,.slice b.n.ao b.n.n b.n.c,.bool b.a,.slice b.m.ao b.m.n b.m.c,.bool b.b,
 .slice c.n.ao c.n.n c.n.c,.bool c.a,.slice c.m.ao c.m.n c.m.c,.bool c.b,.slice f.n.ao f.n.n f.n.c,.bool f.a,.slice f.m.ao f.m.n f.m.c,.bool f.b]
section
variable{Γ:List aE}{L M:Nat}
theorem IG(d e:Dp)(hd:iJ 4294967296 d)(he:iJ 4294967296 e):au tb Tryz.prog 241 [dv d,dv e] Γ (oS 9 (qC d e)):=by
 unfold iJ at*;refine au.of_W aB Tryz.func241 rfl ?_;refine aj [] (cV d.x (by omega) (by omega)) ?_;rintro _ _ ⟨u1,d1,rfl,rfl⟩;refine aj [] (cV e.x (by omega) (by omega)) ?_;rintro _ _ ⟨u2,d2,rfl,rfl⟩;refine aj [] (l_ u1 d1 u2 d2) ?_;rintro _ _ ⟨u3,d3,rfl,rfl⟩;refine aj [] (cV d.y (by omega) (by omega)) ?_;rintro _ _ ⟨u4,d4,rfl,rfl⟩;refine aj [] (cV e.y (by omega) (by omega)) ?_;rintro _ _ ⟨u5,d5,rfl,rfl⟩;refine aj [] (l_ u4 d4 u5 d5) ?_;rintro _ _ ⟨u6,d6,rfl,rfl⟩;refine aj [] (l9 u3 d3 u6 d6) ?_;rintro _ _ ⟨u7,d7,rfl,rfl⟩;exact W.r [] (zv u7 d7) ⟨u7,d7,rfl,rfl⟩ (kX (by omega) rfl)
theorem Dc(d:Dp)(hd:iJ 4294967296 d):au tb Tryz.prog 236 [dv d] Γ (oS 9 (kt d)):=by
 refine au.of_W aB Tryz.func236 rfl ?_;refine aj [] (IG d d hd hd) ?_;rintro _ _ ⟨u1,d1,rfl,rfl⟩;exact W.r [] (zv u1 d1) ⟨u1,d1,rfl,rfl⟩ (kX (by omega) rfl)
theorem xl(d:Dp)(hd:iJ 4294967296 d):au tb Tryz.prog 237 [dv d] Γ (jv (dv (eY d))):=by
 unfold iJ at*;refine au.of_W aB Tryz.func237 rfl ?_;refine W.r [] (.agg #[.int .i64 (IntKind.i64.wrap (0-d.y)),.int .i64 d.x]) ⟨?_,rfl⟩ bU;rw[show IntKind.i64.wrap (0-d.y)= -d.y by rw[ah];omega];rfl
theorem OY(u:Sl)(d:Bool)(v:Sl)(e:Bool){x y:Int} [aZ (ZF u d) (L,x) Γ] [aZ (ZF v e) (M,y) Γ](hy:y≠0)(hL:L≤1000000000:=by omega)(hM:M≤1000000000:=by omega):
  au tb Tryz.prog 265 [zv u d,zv v e] Γ (sY (max L M) (Rat.divInt x y)):=by
 refine au.of_W aB Tryz.func265 rfl ?_;refine aj [] (zR u d v e hy) ?_;rintro _ _ ⟨n1,a1,m1,b1,rfl,rfl⟩;exact W.r [] (qv n1 a1 m1 b1) ⟨n1,a1,m1,b1,rfl,rfl⟩ (j9 (by omega) rfl)
theorem tT(d:Dp)(n:Sl)(a:Bool)(m:Sl)(b:Bool){q:Rat} [aZ (QF n a m b) (L,q) Γ](hd:iJ 4294967296 d)(h0:kt d≠0)(hL:L≤1000:=by omega):
  au tb Tryz.prog 239 [dv d,qv n a m b] Γ (fun v Δ=>∃Q:Qw,v=.agg (yo d bV Q bV bV).toArray∧Δ=[QG Q (L+14,(jM d q).b)]):=by
 refine au.of_W aB Tryz.func239 rfl ?_;refine aj [] (cV 1 (by omega) (by omega)) ?_;rintro _ _ ⟨u1,d1,rfl,rfl⟩;refine aj [] (Dc d hd) ?_;rintro _ _ ⟨u2,d2,rfl,rfl⟩;refine aj [] (OY u1 d1 u2 d2 h0) ?_;rintro _ _ ⟨n3,a3,m3,b3,rfl,rfl⟩;refine aj [] (bR n a m b n3 a3 m3 b3) ?_;rintro _ _ ⟨n4,a4,m4,b4,rfl,rfl⟩;exact W.r [] (.agg (yo d bV ⟨n4,a4,m4,b4⟩ bV bV).toArray) ⟨⟨n4,a4,m4,b4⟩,rfl,rfl⟩ (j9 (by omega) rfl)
theorem zS(d:Dp)(n:Sl)(a:Bool)(m:Sl)(b:Bool){q:Rat} [aZ (QF n a m b) (L,q) Γ](hd:iJ 4294967296 d)(h0:kt d≠0)(hL:L≤1000:=by omega):
  au tb Tryz.prog 240 [dv d,qv n a m b] Γ (fun v Δ=>∃Q:Qw,v=.agg (yo d bV bV bV Q).toArray∧Δ=[QG Q (L+16,(lA d q).e)]):=by
 refine au.of_W aB Tryz.func240 rfl ?_;refine aj [] (cV 1 (by omega) (by omega)) ?_;rintro _ _ ⟨u1,d1,rfl,rfl⟩;refine aj [] (Dc d hd) ?_;rintro _ _ ⟨u2,d2,rfl,rfl⟩;refine aj [] (cV 2 (by omega) (by omega)) ?_;rintro _ _ ⟨u3,d3,rfl,rfl⟩;refine aj [] (l_ u2 d2 u3 d3) ?_;rintro _ _ ⟨u4,d4,rfl,rfl⟩;refine aj [] (OY u1 d1 u4 d4 (by omega)) ?_;rintro _ _ ⟨n5,a5,m5,b5,rfl,rfl⟩;refine aj [] (bR n a m b n5 a5 m5 b5) ?_;rintro _ _ ⟨n6,a6,m6,b6,rfl,rfl⟩;exact W.r [] (.agg (yo d bV bV bV ⟨n6,a6,m6,b6⟩).toArray) ⟨⟨n6,a6,m6,b6⟩,rfl,rfl⟩ (j9 (by omega) rfl)
theorem Db(n:Int):au tb Tryz.prog 187 [.int .i64 n] Γ (jv (.bool (GJ n))):=by
 refine au.of_W aB Tryz.func187 rfl ?_;refine W.d [] 5 (decide (n< -2147483648)) (fun hb=>?_) (fun hb=>?_)
 ·exact W.r [5] (.bool true) ⟨by unfold GJ;rw[hb];rfl,rfl⟩ bU
 ·refine W.r [5] (.bool (decide (n>2147483647))) ⟨?_,rfl⟩ bU;unfold GJ;rw[hb];simp
theorem Wx(p:Dp):au tb Tryz.prog 186 [dv p] Γ (jv (.bool (tQ p))):=by
 refine au.of_W aB Tryz.func186 rfl ?_;refine aj [] (Db p.x) ?_;rintro _ _ ⟨rfl,rfl⟩;refine W.d [] 6 (GJ p.x) (fun hb=>?_) (fun hb=>?_)
 ·exact W.r [6] (.bool true) ⟨by unfold tQ;rw[hb];rfl,rfl⟩ bU
 ·refine aj [6] (Db p.y) ?_;rintro _ _ ⟨rfl,rfl⟩;exact W.r [6] (.bool (GJ p.y)) ⟨by unfold tQ;rw[hb];rfl,rfl⟩ bU
theorem uA{g a b:Int}(hg:0<g)(h:a=g*b)(h1: -4294967296≤a)(h2:a≤4294967296): -4294967296≤b∧b≤4294967296:=by
 have k1:b.natAbs≤a.natAbs:=by
  rw[h,cK];exact Nat.le_mul_of_pos_left _ (by omega)
 omega
theorem JK(x:Int)(h: -9223372036854775807≤x)(h2:x≤9223372036854775807):max x (IntKind.i64.wrap (0-x))=(x.natAbs:Int):=by
 rw[ah];omega
theorem C9(p q:Dp)(hp:iJ 2147483648 p)(hq:iJ 2147483648 q)(hne:p≠q):au tb Tryz.prog 235 [dv p,dv q] Γ (jv (dv (gF p q))):=by
 have hv:=Be hne;have hg:=tF hv;have hdv:=AJ ⟨q.x-p.x,q.y-p.y⟩;have hgd:lW ⟨q.x-p.x,q.y-p.y⟩=((Nat.gcd (q.x-p.x).natAbs (q.y-p.y).natAbs:Nat):Int):=rfl;simp only at hv hdv;unfold iJ at*;have e1:IntKind.i64.wrap (q.x-p.x)=q.x-p.x:=by rw[ah];omega
 have e2:IntKind.i64.wrap (q.y-p.y)=q.y-p.y:=by rw[ah];omega
 refine au.of_W aB Tryz.func235 rfl ?_;refine Mv [] .i64 (IntKind.i64.wrap (q.x-p.x)) (IntKind.i64.wrap (0-IntKind.i64.wrap (q.x-p.x))) ((q.x-p.x).natAbs:Int) (by rw[e1];exact JK _ (by omega) (by omega)) ?_;refine Mv [] .i64 (IntKind.i64.wrap (q.y-p.y)) (IntKind.i64.wrap (0-IntKind.i64.wrap (q.y-p.y))) ((q.y-p.y).natAbs:Int) (by rw[e2];exact JK _ (by omega) (by omega)) ?_;refine xT [] [7,8] (fun a:Nat×Nat=>[(7,.int .i64 (a.1:Int)),(8,.int .i64 (a.2:Int))]) (fun _=>[]) (fun _=>[]) (fun a=>Nat.gcd a.1 a.2=Nat.gcd (q.x-p.x).natAbs (q.y-p.y).natAbs) (fun a=>a.2) ((q.x-p.x).natAbs,(q.y-p.y).natAbs) rfl bU ?_;rintro⟨a,b⟩ R hab close;simp only at hab;refine W.d [] 28 (decide ((b:Int)>0)) (fun hb=>?_) (fun hb=>?_)
 ·have hk:=kr hb;refine W.rem [28] (a:Int) (b:Int) ((a % b:Nat):Int) (by omega) (by rw[fN (by omega),ry]) ?_;refine close [] _ _ (b,a % b) (by kernel_rfl) (by kernel_rfl) (by rw[←hab,Nat.gcd_comm a b,Nat.gcd_rec b a,Nat.gcd_comm]) (fF _ (by omega)) bU
 ·have hk:=eL hb;have hb0:b=0:=by omega
  subst hb0;rw[Nat.gcd_zero_right]at hab;subst hab;rw[←hgd]at*;have hgx:(q.x-p.x).tdiv (lW ⟨q.x-p.x,q.y-p.y⟩)=(gF p q).x:=Int.tdiv_eq_ediv_of_dvd hdv.1;have hgy:(q.y-p.y).tdiv (lW ⟨q.x-p.x,q.y-p.y⟩)=(gF p q).y:=Int.tdiv_eq_ediv_of_dvd hdv.2;have hm:=rJ ⟨q.x-p.x,q.y-p.y⟩;simp only at hm;have bx: -4294967296≤(gF p q).x∧(gF p q).x≤4294967296:=uA hg hm.1 (by omega) (by omega);have byy: -4294967296≤(gF p q).y∧(gF p q).y≤4294967296:=uA hg hm.2 (by omega) (by omega);refine W.quo [28] (IntKind.i64.wrap (q.x-p.x)) (lW ⟨q.x-p.x,q.y-p.y⟩) (gF p q).x (by omega) (by rw[e1,hgx,ah];omega) ?_;refine W.quo [] (IntKind.i64.wrap (q.y-p.y)) (lW ⟨q.x-p.x,q.y-p.y⟩) (gF p q).y (by omega) (by rw[e2,hgy,ah];omega) ?_;exact W.r [] (dv (gF p q)) ⟨rfl,rfl⟩ bU
theorem yl(u:Sl)(d:Bool)(v:Sl)(e:Bool)(B:Nat)(a b c f:Qw){m n:Int}{x y z w:Rat}{K L1 L2 L3 L4:Nat} [h1:aZ (ZF u d) (L,m) Γ] [h2:aZ (ZF v e) (M,n) Γ]
  [hr:aZ (dY B) ([(⟨a.n,a.a,a.m,a.b,x⟩:QE),(⟨b.n,b.a,b.m,b.b,y⟩:QE),(⟨c.n,c.a,c.m,c.b,z⟩:QE),(⟨f.n,f.a,f.m,f.b,w⟩:QE)].flatMap QR.cells) Γ]
  [ha:aZ (QG a) (L1,x) Γ] [hb:aZ (QG b) (L2,y) Γ] [hc:aZ (QG c) (L3,z) Γ] [hf:aZ (QG f) (L4,w) Γ](hm:0≤m)(hn:0≤n)
  (hL:L≤100000:=by omega)(hM:M≤100000:=by omega)(hK:L1≤K∧L2≤K∧L3≤K∧L4≤K:=by omega):
  au tb Tryz.prog 148 [zv u d,zv v e,.slice (some ⟨B,0,none⟩) 4 4] Γ (Xt (max (max L M) K) ⟨m,n,x,y,z,w⟩):=
 (Pe (Γ:=OL QR (some ⟨B,0,none⟩) (K,[(⟨a.n,a.a,a.m,a.b,x⟩:QE),(⟨b.n,b.a,b.m,b.b,y⟩:QE),(⟨c.n,c.a,c.m,c.b,z⟩:QE),(⟨f.n,f.a,f.m,f.b,w⟩:QE)])::Γ) u d v e (some ⟨B,0,none⟩) 4 4 rfl (by omega) hm hn).weak (fun I w hd hh=>aG.cons ⟨fun q hq=>by
  simp at hq;rcases hq with rfl|rfl|rfl|rfl
  ·exact QF.up2 (ha.p hh) hK.1
  ·exact QF.up2 (hb.p hh) hK.2.1
  ·exact QF.up2 (hc.p hh) hK.2.2.1
  ·exact QF.up2 (hf.p hh) hK.2.2.2,RA.of_row (hr.p hh) (fun _ _ h=>h)⟩ hh) (fun _ _ h=>h)
theorem OH(p:Dp)(u:Sl)(d:Bool)(v:Sl)(e:Bool)(B:Nat)(g:Dp)(A1 A2 A3 A4:Qw){m n:Int}{x1 x2 x3 x4:Rat}{K1 K2 K3 K4:Nat} [aZ (ZF u d) (L,m) Γ] [aZ (ZF v e) (M,n) Γ] [aZ (dY B) (yo g A1 A2 A3 A4) Γ]
  [aZ (QG A1) (K1,x1) Γ] [aZ (QG A2) (K2,x2) Γ] [aZ (QG A3) (K3,x3) Γ] [aZ (QG A4) (K4,x4) Γ](hp:iJ 2147483648 p)(hg:iJ 4294967296 g)(h0:0≤m∧0≤n)(hL:L≤10∧M≤10:=by omega)(hK:K1≤45∧K2≤45∧K3≤45∧K4≤45:=by omega):
  au tb Tryz.prog 238 [dv p,zv u d,zv v e,.slice (some ⟨B,0,none⟩) 1 1] Γ (vE 130 (alX m n p.x [⟨g,x1,x2,x3,x4⟩]) (alY m n p.y [⟨g,x1,x2,x3,x4⟩])):=by
 unfold iJ at*;refine au.of_W aB Tryz.func238 rfl ?_;refine aj [] (cV p.x (by omega) (by omega)) ?_;rintro _ _ ⟨ux,dx,rfl,rfl⟩;refine aj [] (cj ux dx) ?_;rintro _ _ ⟨nx,ax,mx,Yp,rfl,rfl⟩;refine cI [] 1 ([(⟨nx,ax,mx,Yp,((p.x:Int):Rat)⟩:QE)].flatMap QR.cells) aB (fun Bx=>?_);refine aj [] (Bq u d v e Bx ⟨nx,ax,mx,Yp⟩ h0.1 h0.2) ?_;rintro _ _ ⟨X,rfl,rfl⟩;refine aj [] (cV p.y (by omega) (by omega)) ?_;rintro _ _ ⟨uy,dy,rfl,rfl⟩;refine aj [] (cj uy dy) ?_;rintro _ _ ⟨ny,ay,my,Yq,rfl,rfl⟩;refine cI [] 1 ([(⟨ny,ay,my,Yq,((p.y:Int):Rat)⟩:QE)].flatMap QR.cells) aB (fun By=>?_);refine aj [] (Bq u d v e By ⟨ny,ay,my,Yq⟩ h0.1 h0.2) ?_;rintro _ _ ⟨Y,rfl,rfl⟩;refine j2 [] 5 ?_;refine cA [47] 18 B 0 1 1 .i64 0 0 rfl aB (by decide) ?_;refine jx [] B (0+0*18) (yo g A1 A2 A3 A4) aB rfl ?_;refine j2 [] 5 ?_;refine aj [55] (cV g.x (by omega) (by omega)) ?_;rintro _ _ ⟨W_,Vg,rfl,rfl⟩;refine aj [] (cj W_ Vg) ?_;rintro _ _ ⟨V8,UP,VV,U5,rfl,rfl⟩;refine aj [] (bR A1.n A1.a A1.m A1.b V8 UP VV U5) ?_;rintro _ _ ⟨Gx,Fj,Gl,Fu,rfl,rfl⟩;refine aj [] (cV g.y (by omega) (by omega)) ?_;rintro _ _ ⟨Xd,Vk,rfl,rfl⟩;refine aj [] (cj Xd Vk) ?_;rintro _ _ ⟨Wb,UT,VZ,U9,rfl,rfl⟩;refine aj [] (bR A1.n A1.a A1.m A1.b Wb UT VZ U9) ?_;rintro _ _ ⟨GB,Fo,Gq,Fy,rfl,rfl⟩
 refine aj [55] (cV g.x (by omega) (by omega)) ?_;rintro _ _ ⟨Xa,Vh,rfl,rfl⟩;refine aj [] (cj Xa Vh) ?_;rintro _ _ ⟨V9,UQ,VW,U6,rfl,rfl⟩;refine aj [] (bR A2.n A2.a A2.m A2.b V9 UQ VW U6) ?_;rintro _ _ ⟨Gy,Fk,Gm,Fv,rfl,rfl⟩;refine aj [] (cV g.y (by omega) (by omega)) ?_;rintro _ _ ⟨Xe,Vl,rfl,rfl⟩;refine aj [] (cj Xe Vl) ?_;rintro _ _ ⟨Wc,UU,V2,U_,rfl,rfl⟩;refine aj [] (bR A2.n A2.a A2.m A2.b Wc UU V2 U_) ?_;rintro _ _ ⟨GC,Fp,Gr,Fz,rfl,rfl⟩;refine aj [55] (cV g.x (by omega) (by omega)) ?_;rintro _ _ ⟨Xb,Vi,rfl,rfl⟩;refine aj [] (cj Xb Vi) ?_;rintro _ _ ⟨V_,UR,VX,U7,rfl,rfl⟩;refine aj [] (bR A3.n A3.a A3.m A3.b V_ UR VX U7) ?_;rintro _ _ ⟨Gz,Fl,Gn,Fw,rfl,rfl⟩;refine aj [] (cV g.y (by omega) (by omega)) ?_;rintro _ _ ⟨Xf,Vm,rfl,rfl⟩;refine aj [] (cj Xf Vm) ?_;rintro _ _ ⟨Wd,UW,V4,Va,rfl,rfl⟩;refine aj [] (bR A3.n A3.a A3.m A3.b Wd UW V4 Va) ?_;rintro _ _ ⟨GD,Fq,Gs,FA,rfl,rfl⟩;refine aj [55] (cV g.x (by omega) (by omega)) ?_;rintro _ _ ⟨Xc,Vj,rfl,rfl⟩;refine aj [] (cj Xc Vj) ?_;rintro _ _ ⟨Wa,US,VY,U8,rfl,rfl⟩;refine aj [] (bR A4.n A4.a A4.m A4.b Wa US VY U8) ?_;rintro _ _ ⟨GA,Fm,Gp,Fx,rfl,rfl⟩;refine aj [] (cV g.y (by omega) (by omega)) ?_
 rintro _ _ ⟨Xg,Vn,rfl,rfl⟩;refine aj [] (cj Xg Vn) ?_;rintro _ _ ⟨We,UX,V5,Vb,rfl,rfl⟩;refine aj [] (bR A4.n A4.a A4.m A4.b We UX V5 Vb) ?_;rintro _ _ ⟨GF,Fs,Gt,FC,rfl,rfl⟩;refine W.revp 15 ([(⟨Gx,Fj,Gl,Fu,x1*((g.x:Int):Rat)⟩:QE),(⟨Gy,Fk,Gm,Fv,x2*((g.x:Int):Rat)⟩:QE),(⟨Gz,Fl,Gn,Fw,x3*((g.x:Int):Rat)⟩:QE),(⟨GA,Fm,Gp,Fx,x4*((g.x:Int):Rat)⟩:QE)].flatMap QR.cells) (fun Yu=>?_);refine W.revp 16 ([(⟨GB,Fo,Gq,Fy,x1*((g.y:Int):Rat)⟩:QE),(⟨GC,Fp,Gr,Fz,x2*((g.y:Int):Rat)⟩:QE),(⟨GD,Fq,Gs,FA,x3*((g.y:Int):Rat)⟩:QE),(⟨GF,Fs,Gt,FC,x4*((g.y:Int):Rat)⟩:QE)].flatMap QR.cells) (fun Yv=>?_);refine wm [55] 4 4 Yu 0 none none 0 4 aB (.inr ⟨rfl,rfl⟩) (.inr ⟨rfl,rfl⟩) (by decide) (by decide) (by decide) ?_;refine aj [] (yl u d v e Yu ⟨Gx,Fj,Gl,Fu⟩ ⟨Gy,Fk,Gm,Fv⟩ ⟨Gz,Fl,Gn,Fw⟩ ⟨GA,Fm,Gp,Fx⟩ (K:=52) h0.1 h0.2) ?_;rintro _ _ ⟨S0,rfl,rfl⟩;refine wm [] 4 4 Yv 0 none none 0 4 aB (.inr ⟨rfl,rfl⟩) (.inr ⟨rfl,rfl⟩) (by decide) (by decide) (by decide) ?_;refine aj [] (yl u d v e Yv ⟨GB,Fo,Gq,Fy⟩ ⟨GC,Fp,Gr,Fz⟩ ⟨GD,Fq,Gs,FA⟩ ⟨GF,Fs,Gt,FC⟩ (K:=52) h0.1 h0.2) ?_;rintro _ _ ⟨T0,rfl,rfl⟩;refine aj [] (pj X (S:=(⟨m,n,((p.x:Int):Rat),0,0,0⟩:Sn)) S0 (T:=⟨m,n,x1*((g.x:Int):Rat),x2*((g.x:Int):Rat),x3*((g.x:Int):Rat),x4*((g.x:Int):Rat)⟩) rfl rfl) ?_
 rintro _ _ ⟨X0,rfl,rfl⟩;refine aj [] (pj Y (S:=(⟨m,n,((p.y:Int):Rat),0,0,0⟩:Sn)) T0 (T:=⟨m,n,x1*((g.y:Int):Rat),x2*((g.y:Int):Rat),x3*((g.y:Int):Rat),x4*((g.y:Int):Rat)⟩) rfl rfl) ?_;rintro _ _ ⟨Y0,rfl,rfl⟩;exact W.r [47] (BB X0 Y0) ⟨X0,Y0,rfl,rfl⟩ (lV (Δ:=[_]) (Δ':=[_]) (pR (by omega) rfl) (pR (by omega) rfl))
theorem pd(p:Dp)(u:Sl)(d:Bool)(v:Sl)(e:Bool)(B:Nat)(g:Dp)(k:Dp)(A1 A2 A3 A4 B1 B2 B3 B4:Qw){m n:Int}{x1 x2 x3 x4 y1 y2 y3 y4:Rat}{K1 K2 K3 K4 J1 J2 J3 J4:Nat} [aZ (ZF u d) (L,m) Γ] [aZ (ZF v e) (M,n) Γ] [aZ (dY B) (yo g A1 A2 A3 A4++yo k B1 B2 B3 B4) Γ]
  [aZ (QG A1) (K1,x1) Γ] [aZ (QG A2) (K2,x2) Γ] [aZ (QG A3) (K3,x3) Γ] [aZ (QG A4) (K4,x4) Γ] [aZ (QG B1) (J1,y1) Γ] [aZ (QG B2) (J2,y2) Γ] [aZ (QG B3) (J3,y3) Γ] [aZ (QG B4) (J4,y4) Γ](hp:iJ 2147483648 p)(hg:iJ 4294967296 g)(hk:iJ 4294967296 k)(h0:0≤m∧0≤n)(hL:L≤10∧M≤10:=by omega)(hK:K1≤45∧K2≤45∧K3≤45∧K4≤45∧J1≤45∧J2≤45∧J3≤45∧J4≤45:=by omega):
  au tb Tryz.prog 238 [dv p,zv u d,zv v e,.slice (some ⟨B,0,none⟩) 2 2] Γ (vE 130 (alX m n p.x [⟨g,x1,x2,x3,x4⟩,⟨k,y1,y2,y3,y4⟩]) (alY m n p.y [⟨g,x1,x2,x3,x4⟩,⟨k,y1,y2,y3,y4⟩])):=by
 unfold iJ at*;refine au.of_W aB Tryz.func238 rfl ?_;refine aj [] (cV p.x (by omega) (by omega)) ?_;rintro _ _ ⟨ux,dx,rfl,rfl⟩;refine aj [] (cj ux dx) ?_;rintro _ _ ⟨nx,ax,mx,Yp,rfl,rfl⟩;refine cI [] 1 ([(⟨nx,ax,mx,Yp,((p.x:Int):Rat)⟩:QE)].flatMap QR.cells) aB (fun Bx=>?_);refine aj [] (Bq u d v e Bx ⟨nx,ax,mx,Yp⟩ h0.1 h0.2) ?_;rintro _ _ ⟨X,rfl,rfl⟩;refine aj [] (cV p.y (by omega) (by omega)) ?_;rintro _ _ ⟨uy,dy,rfl,rfl⟩;refine aj [] (cj uy dy) ?_;rintro _ _ ⟨ny,ay,my,Yq,rfl,rfl⟩;refine cI [] 1 ([(⟨ny,ay,my,Yq,((p.y:Int):Rat)⟩:QE)].flatMap QR.cells) aB (fun By=>?_);refine aj [] (Bq u d v e By ⟨ny,ay,my,Yq⟩ h0.1 h0.2) ?_;rintro _ _ ⟨Y,rfl,rfl⟩;refine j2 [] 5 ?_;refine cA [47] 18 B 0 2 2 .i64 0 0 rfl aB (by decide) ?_;refine jx [] B (0+0*18) (yo g A1 A2 A3 A4) aB rfl ?_;refine j2 [] 5 ?_;refine aj [55] (cV g.x (by omega) (by omega)) ?_;rintro _ _ ⟨W_,Vg,rfl,rfl⟩;refine aj [] (cj W_ Vg) ?_;rintro _ _ ⟨V8,UP,VV,U5,rfl,rfl⟩;refine aj [] (bR A1.n A1.a A1.m A1.b V8 UP VV U5) ?_;rintro _ _ ⟨Gx,Fj,Gl,Fu,rfl,rfl⟩;refine aj [] (cV g.y (by omega) (by omega)) ?_;rintro _ _ ⟨Xd,Vk,rfl,rfl⟩;refine aj [] (cj Xd Vk) ?_;rintro _ _ ⟨Wb,UT,VZ,U9,rfl,rfl⟩;refine aj [] (bR A1.n A1.a A1.m A1.b Wb UT VZ U9) ?_;rintro _ _ ⟨GB,Fo,Gq,Fy,rfl,rfl⟩
 refine aj [55] (cV g.x (by omega) (by omega)) ?_;rintro _ _ ⟨Xa,Vh,rfl,rfl⟩;refine aj [] (cj Xa Vh) ?_;rintro _ _ ⟨V9,UQ,VW,U6,rfl,rfl⟩;refine aj [] (bR A2.n A2.a A2.m A2.b V9 UQ VW U6) ?_;rintro _ _ ⟨Gy,Fk,Gm,Fv,rfl,rfl⟩;refine aj [] (cV g.y (by omega) (by omega)) ?_;rintro _ _ ⟨Xe,Vl,rfl,rfl⟩;refine aj [] (cj Xe Vl) ?_;rintro _ _ ⟨Wc,UU,V2,U_,rfl,rfl⟩;refine aj [] (bR A2.n A2.a A2.m A2.b Wc UU V2 U_) ?_;rintro _ _ ⟨GC,Fp,Gr,Fz,rfl,rfl⟩;refine aj [55] (cV g.x (by omega) (by omega)) ?_;rintro _ _ ⟨Xb,Vi,rfl,rfl⟩;refine aj [] (cj Xb Vi) ?_;rintro _ _ ⟨V_,UR,VX,U7,rfl,rfl⟩;refine aj [] (bR A3.n A3.a A3.m A3.b V_ UR VX U7) ?_;rintro _ _ ⟨Gz,Fl,Gn,Fw,rfl,rfl⟩;refine aj [] (cV g.y (by omega) (by omega)) ?_;rintro _ _ ⟨Xf,Vm,rfl,rfl⟩;refine aj [] (cj Xf Vm) ?_;rintro _ _ ⟨Wd,UW,V4,Va,rfl,rfl⟩;refine aj [] (bR A3.n A3.a A3.m A3.b Wd UW V4 Va) ?_;rintro _ _ ⟨GD,Fq,Gs,FA,rfl,rfl⟩;refine aj [55] (cV g.x (by omega) (by omega)) ?_;rintro _ _ ⟨Xc,Vj,rfl,rfl⟩;refine aj [] (cj Xc Vj) ?_;rintro _ _ ⟨Wa,US,VY,U8,rfl,rfl⟩;refine aj [] (bR A4.n A4.a A4.m A4.b Wa US VY U8) ?_;rintro _ _ ⟨GA,Fm,Gp,Fx,rfl,rfl⟩;refine aj [] (cV g.y (by omega) (by omega)) ?_
 rintro _ _ ⟨Xg,Vn,rfl,rfl⟩;refine aj [] (cj Xg Vn) ?_;rintro _ _ ⟨We,UX,V5,Vb,rfl,rfl⟩;refine aj [] (bR A4.n A4.a A4.m A4.b We UX V5 Vb) ?_;rintro _ _ ⟨GF,Fs,Gt,FC,rfl,rfl⟩;refine W.revp 15 ([(⟨Gx,Fj,Gl,Fu,x1*((g.x:Int):Rat)⟩:QE),(⟨Gy,Fk,Gm,Fv,x2*((g.x:Int):Rat)⟩:QE),(⟨Gz,Fl,Gn,Fw,x3*((g.x:Int):Rat)⟩:QE),(⟨GA,Fm,Gp,Fx,x4*((g.x:Int):Rat)⟩:QE)].flatMap QR.cells) (fun Yu=>?_);refine W.revp 16 ([(⟨GB,Fo,Gq,Fy,x1*((g.y:Int):Rat)⟩:QE),(⟨GC,Fp,Gr,Fz,x2*((g.y:Int):Rat)⟩:QE),(⟨GD,Fq,Gs,FA,x3*((g.y:Int):Rat)⟩:QE),(⟨GF,Fs,Gt,FC,x4*((g.y:Int):Rat)⟩:QE)].flatMap QR.cells) (fun Yv=>?_);refine wm [55] 4 4 Yu 0 none none 0 4 aB (.inr ⟨rfl,rfl⟩) (.inr ⟨rfl,rfl⟩) (by decide) (by decide) (by decide) ?_;refine aj [] (yl u d v e Yu ⟨Gx,Fj,Gl,Fu⟩ ⟨Gy,Fk,Gm,Fv⟩ ⟨Gz,Fl,Gn,Fw⟩ ⟨GA,Fm,Gp,Fx⟩ (K:=52) h0.1 h0.2) ?_;rintro _ _ ⟨S0,rfl,rfl⟩;refine wm [] 4 4 Yv 0 none none 0 4 aB (.inr ⟨rfl,rfl⟩) (.inr ⟨rfl,rfl⟩) (by decide) (by decide) (by decide) ?_;refine aj [] (yl u d v e Yv ⟨GB,Fo,Gq,Fy⟩ ⟨GC,Fp,Gr,Fz⟩ ⟨GD,Fq,Gs,FA⟩ ⟨GF,Fs,Gt,FC⟩ (K:=52) h0.1 h0.2) ?_;rintro _ _ ⟨T0,rfl,rfl⟩;refine aj [] (pj X (S:=(⟨m,n,((p.x:Int):Rat),0,0,0⟩:Sn)) S0 (T:=⟨m,n,x1*((g.x:Int):Rat),x2*((g.x:Int):Rat),x3*((g.x:Int):Rat),x4*((g.x:Int):Rat)⟩) rfl rfl) ?_
 rintro _ _ ⟨X0,rfl,rfl⟩;refine aj [] (pj Y (S:=(⟨m,n,((p.y:Int):Rat),0,0,0⟩:Sn)) T0 (T:=⟨m,n,x1*((g.y:Int):Rat),x2*((g.y:Int):Rat),x3*((g.y:Int):Rat),x4*((g.y:Int):Rat)⟩) rfl rfl) ?_;rintro _ _ ⟨Y0,rfl,rfl⟩;refine cA [47] 18 B 0 2 2 .i64 1 1 rfl aB (by decide) ?_;refine jx [] B (0+1*18) (yo k B1 B2 B3 B4) aB rfl ?_;refine j2 [] 5 ?_;refine aj [55] (cV k.x (by omega) (by omega)) ?_;rintro _ _ ⟨ac3,abt,rfl,rfl⟩;refine aj [] (cj ac3 abt) ?_;rintro _ _ ⟨acO,aa8,acC,abh,rfl,rfl⟩;refine aj [] (bR B1.n B1.a B1.m B1.b acO aa8 acC abh) ?_;rintro _ _ ⟨TY,S7,TP,Th,rfl,rfl⟩;refine aj [] (cV k.y (by omega) (by omega)) ?_;rintro _ _ ⟨ac7,abx,rfl,rfl⟩;refine aj [] (cj ac7 abx) ?_;rintro _ _ ⟨acS,abb,acG,abl,rfl,rfl⟩;refine aj [] (bR B1.n B1.a B1.m B1.b acS abb acG abl) ?_;rintro _ _ ⟨T4,Ta,TU,Tl,rfl,rfl⟩;refine aj [55] (cV k.x (by omega) (by omega)) ?_;rintro _ _ ⟨ac4,abu,rfl,rfl⟩;refine aj [] (cj ac4 abu) ?_;rintro _ _ ⟨acP,aa9,acD,abi,rfl,rfl⟩;refine aj [] (bR B2.n B2.a B2.m B2.b acP aa9 acD abi) ?_;rintro _ _ ⟨TZ,S8,TQ,Ti,rfl,rfl⟩;refine aj [] (cV k.y (by omega) (by omega)) ?_;rintro _ _ ⟨ac8,aby,rfl,rfl⟩;refine aj [] (cj ac8 aby) ?_;rintro _ _ ⟨acT,abc,acH,abm,rfl,rfl⟩;refine aj [] (bR B2.n B2.a B2.m B2.b acT abc acH abm) ?_
 rintro _ _ ⟨T5,Tc,TV,Tm,rfl,rfl⟩;refine aj [55] (cV k.x (by omega) (by omega)) ?_;rintro _ _ ⟨ac5,abv,rfl,rfl⟩;refine aj [] (cj ac5 abv) ?_;rintro _ _ ⟨acQ,aa_,acE,abj,rfl,rfl⟩;refine aj [] (bR B3.n B3.a B3.m B3.b acQ aa_ acE abj) ?_;rintro _ _ ⟨T2,S9,TR,Tj,rfl,rfl⟩;refine aj [] (cV k.y (by omega) (by omega)) ?_;rintro _ _ ⟨ac9,abz,rfl,rfl⟩;refine aj [] (cj ac9 abz) ?_;rintro _ _ ⟨acU,abd,acI,abn,rfl,rfl⟩;refine aj [] (bR B3.n B3.a B3.m B3.b acU abd acI abn) ?_;rintro _ _ ⟨T6,Td,TW,Tn,rfl,rfl⟩;refine aj [55] (cV k.x (by omega) (by omega)) ?_;rintro _ _ ⟨ac6,abw,rfl,rfl⟩;refine aj [] (cj ac6 abw) ?_;rintro _ _ ⟨acR,aba,acF,abk,rfl,rfl⟩;refine aj [] (bR B4.n B4.a B4.m B4.b acR aba acF abk) ?_;rintro _ _ ⟨T3,S_,TS,Tk,rfl,rfl⟩;refine aj [] (cV k.y (by omega) (by omega)) ?_;rintro _ _ ⟨ac_,abA,rfl,rfl⟩;refine aj [] (cj ac_ abA) ?_;rintro _ _ ⟨acV,abe,acJ,abo,rfl,rfl⟩;refine aj [] (bR B4.n B4.a B4.m B4.b acV abe acJ abo) ?_;rintro _ _ ⟨T7,Te,TX,To,rfl,rfl⟩;refine W.revp 15 ([(⟨TY,S7,TP,Th,y1*((k.x:Int):Rat)⟩:QE),(⟨TZ,S8,TQ,Ti,y2*((k.x:Int):Rat)⟩:QE),(⟨T2,S9,TR,Tj,y3*((k.x:Int):Rat)⟩:QE),(⟨T3,S_,TS,Tk,y4*((k.x:Int):Rat)⟩:QE)].flatMap QR.cells) (fun bu1=>?_);refine W.revp 16 ([(⟨T4,Ta,TU,Tl,y1*((k.y:Int):Rat)⟩:QE),(⟨T5,Tc,TV,Tm,y2*((k.y:Int):Rat)⟩:QE),(⟨T6,Td,TW,Tn,y3*((k.y:Int):Rat)⟩:QE),(⟨T7,Te,TX,To,y4*((k.y:Int):Rat)⟩:QE)].flatMap QR.cells) (fun bv1=>?_)
 refine wm [55] 4 4 bu1 0 none none 0 4 aB (.inr ⟨rfl,rfl⟩) (.inr ⟨rfl,rfl⟩) (by decide) (by decide) (by decide) ?_;refine aj [] (yl u d v e bu1 ⟨TY,S7,TP,Th⟩ ⟨TZ,S8,TQ,Ti⟩ ⟨T2,S9,TR,Tj⟩ ⟨T3,S_,TS,Tk⟩ (K:=52) h0.1 h0.2) ?_;rintro _ _ ⟨S1,rfl,rfl⟩;refine wm [] 4 4 bv1 0 none none 0 4 aB (.inr ⟨rfl,rfl⟩) (.inr ⟨rfl,rfl⟩) (by decide) (by decide) (by decide) ?_;refine aj [] (yl u d v e bv1 ⟨T4,Ta,TU,Tl⟩ ⟨T5,Tc,TV,Tm⟩ ⟨T6,Td,TW,Tn⟩ ⟨T7,Te,TX,To⟩ (K:=52) h0.1 h0.2) ?_;rintro _ _ ⟨T1,rfl,rfl⟩;refine aj [] (pj X0 (S:=(Sn.add (⟨m,n,((p.x:Int):Rat),0,0,0⟩:Sn) ⟨m,n,x1*((g.x:Int):Rat),x2*((g.x:Int):Rat),x3*((g.x:Int):Rat),x4*((g.x:Int):Rat)⟩)) S1 (T:=⟨m,n,y1*((k.x:Int):Rat),y2*((k.x:Int):Rat),y3*((k.x:Int):Rat),y4*((k.x:Int):Rat)⟩) rfl rfl) ?_;rintro _ _ ⟨X1,rfl,rfl⟩;refine aj [] (pj Y0 (S:=(Sn.add (⟨m,n,((p.y:Int):Rat),0,0,0⟩:Sn) ⟨m,n,x1*((g.y:Int):Rat),x2*((g.y:Int):Rat),x3*((g.y:Int):Rat),x4*((g.y:Int):Rat)⟩)) T1 (T:=⟨m,n,y1*((k.y:Int):Rat),y2*((k.y:Int):Rat),y3*((k.y:Int):Rat),y4*((k.y:Int):Rat)⟩) rfl rfl) ?_;rintro _ _ ⟨Y1,rfl,rfl⟩;exact W.r [47] (BB X1 Y1) ⟨X1,Y1,rfl,rfl⟩ (lV (Δ:=[_]) (Δ':=[_]) (pR (by omega) rfl) (pR (by omega) rfl))
end
end Go.Proofs.YtgaaopjagcaojaaGreat
