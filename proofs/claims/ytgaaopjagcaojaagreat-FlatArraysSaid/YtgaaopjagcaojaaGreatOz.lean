import Derived.Test.YtgaaopjagcaojaaGreatOw
import Derived.Laws.StructEq
set_option linter.unusedSimpArgs false
set_option linter.unusedVariables false
set_option maxHeartbeats 4000000
namespace Go.Proofs.YtgaaopjagcaojaaGreat
open Go.RowKit Go.IntWalk
def aaJ(F G:aE):aE where
 p I w:=F.p I w∧G.p I w
 up h h1 h2 h3:=⟨F.up h.1 h1 h2 h3,G.up h.2 h1 h2 h3⟩
abbrev jk(x:Sw):List Value:=[.slice x.u.ao x.u.n x.u.c,.bool x.d,.slice x.v.ao x.v.n x.v.c,.bool x.e,
 .slice x.p.n.ao x.p.n.n x.p.n.c,.bool x.p.a,.slice x.p.m.ao x.p.m.n x.p.m.c,.bool x.p.b,.slice x.q.n.ao x.q.n.n x.q.n.c,.bool x.q.a,.slice x.q.m.ao x.q.m.n x.q.m.c,.bool x.q.b,
 .slice x.r.n.ao x.r.n.n x.r.n.c,.bool x.r.a,.slice x.r.m.ao x.r.m.n x.r.m.c,.bool x.r.b,.slice x.s.n.ao x.s.n.n x.s.n.c,.bool x.s.a,.slice x.s.m.ao x.s.m.n x.s.m.c,.bool x.s.b]
structure jJ where
 x:Sw
 y:Sw
 X:Sn
 Y:Sn
def gD:kT jJ where
 z:=40
 cells e:=jk e.x++jk e.y
 len _:=rfl
 fact L e:=aaJ (SF e.x (L,e.X)) (SF e.y (L,e.Y))
def jJ.num(e:jJ):Sn×Sn:=(e.X,e.Y)
theorem pt(e:jJ):∀u∈gD.cells e,u.oneCell'=true:=by
 intro u hu;simp only[gD,ez,aD,aC,bp]at hu;rcases hu with hu|hu<;>(rcases hu with rfl|rfl|rfl|rfl|rfl|rfl|rfl|rfl|rfl|rfl|rfl|rfl|rfl|rfl|rfl|rfl|rfl|rfl|rfl|rfl<;>rfl)
def UB(l0:List (Sn×Sn))(v:Value)(Δ:List aE):Prop:=∃(ao:Option Addr) (c:Nat) (l:List jJ),v=.slice ao l.length c∧l.length≤c∧l.map jJ.num=l0∧Δ=[OL gD ao (130,l)]
theorem vX(d:Dp):0≤kt d:=by
 unfold kt;have h1:0≤d.x*d.x:=by rcases Int.le_total 0 d.x with h|h;exact eZ h h;exact jN h h
 have h2:0≤d.y*d.y:=by rcases Int.le_total 0 d.y with h|h;exact eZ h h;exact jN h h
 omega
theorem Hj(d:Dp):kt (eY d)=kt d:=by
 unfold kt eY;simp only[sW];omega
theorem Dt(d:Dp):kt (iR d)=kt d:=by
 unfold kt iR;simp only[sW];omega
theorem iJ.left{B:Int}{d:Dp}(h:iJ B d):iJ B (eY d):=by unfold iJ eY at*;simp only;omega
theorem iJ.right{B:Int}{d:Dp}(h:iJ B d):iJ B (iR d):=by unfold iJ iR at*;simp only;omega
theorem iJ.neg{B:Int}{d:Dp}(h:iJ B d):iJ B (jn d):=by unfold iJ jn at*;simp only;omega
section
variable{T:Tb}{P:Program}{fin:VS→List aE→Prop}{c:fM}{Γ:List aE}
theorem Mr(D:List Nat)(own:List (Nat×List Value))(z bytes n m:Nat)(ao:Option Addr)(x:Value)(xs news:List Value)(hT:T.Ok P)
   [hrp:aZ (RA ao) xs Γ](NX:xs.length=n*z)(hn0:0<n)(hm:0<m)(hx:qP T Γ own x m z news)
  (hn:n+m≤1000000)(hb:bytes≤100000000)
  (hk:∀g cap cur,n+m≤cap→cap≤maxLen→cur.length=cap*z→cur.take ((n+m)*z)=xs++news→W T P fin (nh (aJ T (bh T D 999 c)) ((g,cur)::own) (.slice (some ⟨g,0,none⟩) (n+m) cap)) Γ)(h:pZ T (aJ T (bh T D 999 c))=some (own,z,bytes,.slice ao n n,x):=by kernel_rfl):W T P fin c Γ:=by
 refine eF D 999 ?_;generalize bh T D 999 c=c1 at*;unfold pZ at h;split at h
 ·rename_i o c' he;rw[he]at hk;split at h
  ·rename_i cl hop;split at h
   ·rename_i sx xx t1 t2 hcal hargs htys;split at h
    ·rename_i a b y1 ha hbv hy;cases hc:(Nat.beq t1 t2&&(Nat.beq y1.kind 3&&(!Nat.beq y1.esize 0&&(Nat.beq y1.ezero.length y1.esize&& !T.dat y1.elem))))with
     |false=>simp[hc]at h
     |true=>
      simp only[hc,bT,aq,aI]at h;obtain⟨hown,rfl,rfl,rfl,rfl⟩:=h;simp only[aK,cF]at hc;obtain⟨c1',c2,c3,c4,c5⟩:=hc;have NU:=aH c1';subst NU;have hne:y1.esize≠0:=by
       intro e0;rw[e0]at c3;simp at c3
      obtain⟨ie,zz,hd,hie,EZ,hsz,FQ,Qu,hze⟩:=mM hT hy (aH c2) hne (aH c4);have hcargs:cl.args= #[sx,xx]:=by rw[←fZ];exact hargs
      have hctys:cl.argTypes= #[t1,t1]:=by rw[←fZ];exact htys
      obtain⟨ax,cc,rfl,hnl,hrd⟩:=hx;have hnb:(n+m)*y1.ebytes≤140737488355328:=by
       have:=aR hn hb;omega
      have acn:xs≠ []:=by
       rintro rfl;have:0<n*y1.esize:=iz hn0 (by omega);simp at NX;omega
      refine W.own (fun v' iX Δ=>∃g cap cur,n+m≤cap∧cap≤maxLen∧cur.length=cap*y1.esize∧cur.take ((n+m)*y1.esize)=xs++news∧v'=.slice (some ⟨g,0,none⟩) (n+m) cap∧iX=(g,cur)::own∧Δ=[]) he (fun I w hdo hh hoa hnod hno=>?_) ?_
      ·rw[hown]at hoa hnod;have hexec:∀v' w',(Builtin.append_ #[t1,t1] o.type #[.slice ao n n,.slice ax m cc]).run P w=.ok v' w'→(execOp c'.s.rho o).run P w=.ok (.value v') w':=by
        intro v' w' hr;simp[execOp,hop,resolve,invoke,builtin,hcal,hcargs,hctys,cE ha,cE hbv,hr]
       obtain⟨ad,rfl,hrd2⟩:=hrd hm;have wR:=hrd2 I w hdo hh hoa;obtain⟨b0,Ck,rfl,h2,h3⟩:=hrp.p hh acn;obtain⟨v',w',hrun,hw,wQ⟩:=run_append_arg_grows (P:=P) w t1 o.type y1.elem ie zz y1.esize y1.ebytes hd hie EZ hsz FQ Qu (by omega) ⟨b0,Ck,none⟩ n n xs NX (fun j u hj=>by
        rw[gp];exact h3 j u hj) ad m cc news hnl wR (by omega) (by unfold maxLen;omega) hnb
       obtain⟨_,hw⟩:=hw;rcases hw with⟨_,h0⟩|⟨g,cap,cur,rfl,hge,YZ,hnc,hcm,hcs,htk⟩
       ·omega
       ·have FX:∀b cs,(b,cs)∈own→b<w.heap.size:=fun b cs hb=>by
         obtain⟨_,_,hc⟩:=hoa b cs hb;exact cu hc
        refine⟨_,(g,cur.toList)::own,[],w',_,hexec _ _ hrun,.inl rfl,⟨g,cap,cur.toList,hnc,hcm,by simpa using hcs,by simpa using htk,rfl,rfl,rfl⟩,fun q _ JE=>⟨wQ.os,wQ.tape,wQ.output,wQ.size,fun k hk=>wQ.block k (by omega) (by simp)⟩,wQ.size,fun k hk _=>wQ.block k hk (by simp),fun b cs hb=>?_,fun b cs hb=>?_,?_,aG.nil _ _⟩
        ·rcases List.mem_cons.1 hb with hb|hb
         ·injection hb with h1' h2';subst h1' h2';exact⟨y1.elem,by simpa using c5,by simpa using YZ⟩
         ·obtain⟨e,he',hc⟩:=hoa b cs hb;exact⟨e,he',by rw[wQ.block b (FX b cs hb) (by simp)];exact hc⟩
        ·rcases List.mem_cons.1 hb with hb|hb
         ·injection hb with h1' h2';subst h1';exact .inr hge
         ·exact .inl ⟨cs,by rw[hown];exact hb⟩
        ·rw[b_,kh];refine⟨fun lK=>?_,hnod⟩;obtain⟨⟨b,cs⟩,h1,h2⟩:=List.mem_map.1 lK;have:=FX b cs h1;simp only at h2;omega
      ·rintro v' iX Δ ⟨g,cap,cur,h1,h2,h3,h4,rfl,rfl,rfl⟩;exact hk g cap cur h1 h2 h3 h4
    ·simp at h
   ·simp at h
  ·simp at h
 ·simp at h
end
section
variable{Γ:List aE}{L M:Nat}
theorem T_(u:Sl)(d:Bool)(v:Sl)(e:Bool)(B:Nat)(Q:Qw){x y:Int}{k:Rat}{K:Nat} [aZ (ZF u d) (L,x) Γ] [aZ (ZF v e) (M,y) Γ] [aZ (dY B) [.slice Q.n.ao Q.n.n Q.n.c,.bool Q.a,.slice Q.m.ao Q.m.n Q.m.c,.bool Q.b] Γ] [aZ (QG Q) (K,k) Γ](hL:L≤9∧M≤9∧K≤31:=by omega):
  au tb Tryz.prog 242 [zv u d,zv v e,.pointer (some ⟨B,0,none⟩)] Γ (fun w Δ=>∃a b:Qw,w=.agg #[.slice none 0 0,.bool false,.slice none 0 0,.bool false,.slice a.n.ao a.n.n a.n.c,.bool a.a,.slice a.m.ao a.m.n a.m.c,.bool a.b,.slice b.n.ao b.n.n b.n.c,.bool b.a,.slice b.m.ao b.m.n b.m.c,.bool b.b,.slice none 0 0,.bool false,.slice none 0 0,.bool false]∧Δ=[QG a (45,k*(x:Rat)),QG b (45,k*(y:Rat))]):=by
 refine au.of_W aB Tryz.func242 rfl ?_;refine jx [] B 0 [.slice Q.n.ao Q.n.n Q.n.c,.bool Q.a,.slice Q.m.ao Q.m.n Q.m.c,.bool Q.b] aB rfl ?_;refine jx [] B 0 [.slice Q.n.ao Q.n.n Q.n.c,.bool Q.a,.slice Q.m.ao Q.m.n Q.m.c,.bool Q.b] aB rfl ?_;refine aj [] (cj u d) ?_;rintro _ _ ⟨n3,a3,m3,b3,rfl,rfl⟩;refine aj [] (bR Q.n Q.a Q.m Q.b n3 a3 m3 b3) ?_;rintro _ _ ⟨n4,a4,m4,b4,rfl,rfl⟩;refine aj [] (cj v e) ?_;rintro _ _ ⟨n5,a5,m5,b5,rfl,rfl⟩;refine aj [] (bR Q.n Q.a Q.m Q.b n5 a5 m5 b5) ?_;rintro _ _ ⟨n6,a6,m6,b6,rfl,rfl⟩;exact W.r [] (.agg #[.slice none 0 0,.bool false,.slice none 0 0,.bool false,.slice n4.ao n4.n n4.c,.bool a4,.slice m4.ao m4.n m4.c,.bool b4,.slice n6.ao n6.n n6.c,.bool a6,.slice m6.ao m6.n m6.c,.bool b6,.slice none 0 0,.bool false,.slice none 0 0,.bool false]) ⟨⟨n4,a4,m4,b4⟩,⟨n6,a6,m6,b6⟩,rfl,rfl⟩ (lV (Δ:=[_]) (Δ':=[_]) (j9 (by omega) rfl) (j9 (by omega) rfl))
theorem uJ(p d e:Dp)(hq:Qw){h:Rat} [aZ (QG hq) (L,h) Γ](hp:iJ 2147483648 p)(hd:iJ 4294967296 d)(he:iJ 4294967296 e)(hx:qC (eY d) e≠0)(hL:L≤5:=by omega):
  au tb Tryz.prog 190 [dv p,dv d,dv e,qv hq.n hq.a hq.m hq.b] Γ (vE 130 (gx p d e h).1 (gx p d e h).2):=by
 refine au.of_W aB Tryz.func190 rfl ?_;refine aj [] (Dc d hd) ?_;rintro _ _ ⟨u1,d1,rfl,rfl⟩;refine aj [] (Dc e he) ?_;rintro _ _ ⟨u2,d2,rfl,rfl⟩;refine aj [] (IG d e hd he) ?_;rintro _ _ ⟨u3,d3,rfl,rfl⟩;refine aj [] (xl d hd) ?_;rintro _ _ ⟨rfl,rfl⟩;refine aj [] (IG (eY d) e hd.left he) ?_;rintro _ _ ⟨u5,d5,rfl,rfl⟩;refine aj [] (l_ u5 d5 u5 d5) ?_;rintro _ _ ⟨u6,d6,rfl,rfl⟩;refine aj [] (cj u6 d6) ?_;rintro _ _ ⟨n7,a7,m7,b7,rfl,rfl⟩;refine aj [] (rS hq.n hq.a hq.m hq.b n7 a7 m7 b7 ?_) ?_
 ·intro e0;rw[show(0:Rat)=((0:Int):Rat)from rfl,Rat.intCast_inj]at e0;exact(kg hx hx) e0
 rintro _ _ ⟨n8,a8,m8,b8,rfl,rfl⟩;refine W.revp 13 [.slice n8.ao n8.n n8.c,.bool a8,.slice m8.ao m8.n m8.c,.bool b8] (fun B=>?_);refine aj [] (xl d hd) ?_;rintro _ _ ⟨rfl,rfl⟩;refine aj [] (rU u3 d3) ?_;rintro _ _ ⟨BW,d10,rfl,rfl⟩;refine aj [] (T_ u2 d2 BW d10 B ⟨n8,a8,m8,b8⟩) ?_;rintro _ _ ⟨qa,qb,rfl,rfl⟩;refine aj [] (xl e he) ?_;rintro _ _ ⟨rfl,rfl⟩;refine aj [] (rU u3 d3) ?_;rintro _ _ ⟨u13,d13,rfl,rfl⟩;refine aj [] (T_ u13 d13 u1 d1 B ⟨n8,a8,m8,b8⟩) ?_;rintro _ _ ⟨qc,qd,rfl,rfl⟩;refine cI [] 2 (yo (eY d) bV qa qb bV++yo (eY e) bV qc qd bV) aB (fun B2=>?_);refine gI [] (kW (L':=0)) (pd p u1 d1 u2 d2 B2 (eY d) (eY e) bV qa qb bV bV qc qd bV hp hd.left he.left ⟨vX d,vX e⟩) ?_;rintro _ _ ⟨X,Y,rfl,rfl⟩;exact W.r [] (BB X Y) ⟨X,Y,rfl,rfl⟩ (lV (Δ:=[_]) (Δ':=[_]) (pR (by omega) rfl) (pR (by omega) rfl))
end
section
variable{T:Tb}{P:Program}{fin:VS→List aE→Prop}{c:fM}{Γ:List aE}
theorem lQ{z n:Nat}{O:List (Nat×List Value)}{v:Value}{xs:List Value}(ho:(dN T 999 c).s.own=O)(hg:cG z O v n xs)
  (hk:∀ao c',v=.slice ao n c'→n≤c'→W T P fin ⟨⟨(dN T 999 c).s.tmps,(dN T 999 c).s.boxes,[],(dN T 999 c).s.maps⟩,(dN T 999 c).k⟩ (RA ao xs::Γ))(hm:dG (dN T 999 c).k=false:=by kernel_rfl):W T P fin c Γ:=by
 refine W.code 999 ?_;obtain⟨hl,hg'⟩:=hg;refine UH (s:=(dN T 999 c).s) (k:=(dN T 999 c).k) ho ⟨hl,hg'⟩ hm (fun ao c' hv=>hk ao c' hv ?_);rcases hg' with⟨rfl,rfl,rfl⟩|⟨g,cap,cur,rfl,rfl,hnc,_⟩
 ·omega
 ·injection hv with _ _ h3;omega
theorem PY{cur ys:List Value}{n:Nat}(h:cur.take n=ys):∀(i:Nat) (v:Value),ys[i]? =some v→cur[i]? =some v:=fun i v hv=>by
 rw[←h,di]at hv;split at hv
 ·exact hv
 ·simp at hv
end
section
variable{Γ:List aE}{L M:Nat}
theorem Vp{g:Nat}{cur:List Value}{l:List jJ} [h:aZ (dY g) cur Γ](hc:∀(i:Nat) (v:Value),(l.flatMap gD.cells)[i]? =some v→cur[i]? =some v)
  (hf:∀(I:f_) (w:World),bB tb I w→aG Γ I w→∀e∈l,(gD.fact 130 e).p I w):∀(I:f_) (w:World),bB tb I w→aG Γ I w→aG [OL gD (some ⟨g,0,none⟩) (130,l)] I w:=fun I w hd hh=>
 aG.cons ⟨hf I w hd hh,RA.of_row (h.p hh) hc⟩ (aG.nil _ _)
theorem zI{ao:Option Addr}{xs:List Value}{l:List jJ} [h:aZ (RA ao) xs Γ]
  (hf:∀(I:f_) (w:World),bB tb I w→aG Γ I w→∀e∈l,(gD.fact 130 e).p I w)(hx:xs=l.flatMap gD.cells:=by rfl):∀(I:f_) (w:World),bB tb I w→aG Γ I w→aG [OL gD ao (130,l)] I w:=fun I w hd hh=>by
 subst hx;exact aG.cons ⟨hf I w hd hh,h.p hh⟩ (aG.nil _ _)
theorem J9(d:Dp)(x y:Int)(hx:x=d.x)(hy:y=d.y)(n:Sl)(a:Bool)(m:Sl)(b:Bool){q:Rat} [aZ (QF n a m b) (L,q) Γ](hd:iJ 4294967296 d)(h0:kt d≠0)(hL:L≤1000:=by omega):
  au tb Tryz.prog 239 [.agg #[.int .i64 x,.int .i64 y],qv n a m b] Γ (fun v Δ=>∃Q:Qw,v=.agg (yo ⟨x,y⟩ bV Q bV bV).toArray∧Δ=[QG Q (L+14,(jM d q).b)]):=by
 subst hx hy;exact tT d n a m b hd h0
theorem Pb(d:Dp)(x y:Int)(hx:x=d.x)(hy:y=d.y)(n:Sl)(a:Bool)(m:Sl)(b:Bool){q:Rat} [aZ (QF n a m b) (L,q) Γ](hd:iJ 4294967296 d)(h0:kt d≠0)(hL:L≤1000:=by omega):
  au tb Tryz.prog 240 [.agg #[.int .i64 x,.int .i64 y],qv n a m b] Γ (fun v Δ=>∃Q:Qw,v=.agg (yo ⟨x,y⟩ bV bV bV Q).toArray∧Δ=[QG Q (L+16,(lA d q).e)]):=by
 subst hx hy;exact zS d n a m b hd h0
theorem WI(p d:Dp)(hq bq:Qw){h b:Rat}{L1:Nat} [aZ (QG hq) (L,h) Γ] [aZ (QG bq) (L1,b) Γ](hp:iJ 2147483648 p)(hd:iJ 4294967296 d)(h0:kt d≠0)(hL:L≤5∧L1≤5:=by omega):
  au tb Tryz.prog 189 [dv p,dv d,qv hq.n hq.a hq.m hq.b,qv bq.n bq.a bq.m bq.b,.bool false] Γ (UB (mh p d h b false)):=by
 have h0l:kt (eY d)≠0:=by rw[Hj];exact h0
 have h0r:kt (iR d)≠0:=by rw[Dt];exact h0
 have hz:0≤kt d∧(0:Int)≤2:=⟨vX d,by decide⟩;have hwr:IntKind.i64.wrap (0-d.x)= -d.x:=by unfold iJ at hd;rw[ah];omega
 have VL:(⟨d.y,IntKind.i64.wrap (0-d.x)⟩:Dp)=iR d:=by rw[hwr];rfl
 have XE:iJ 4294967296 ⟨d.y,IntKind.i64.wrap (0-d.x)⟩:=by rw[VL];exact hd.right
 refine au.of_W aB Tryz.func189 rfl ?_;refine aj [] (Dc d hd) ?_;rintro _ _ ⟨u1,d1,rfl,rfl⟩;refine aj [] (cV 2 (by omega) (by omega)) ?_;rintro _ _ ⟨u2,d2,rfl,rfl⟩;refine aj [] (xl d hd) ?_;rintro _ _ ⟨rfl,rfl⟩;refine aj [] (tT d bq.n bq.a bq.m bq.b hd h0) ?_;rintro _ _ ⟨Q1,rfl,rfl⟩;refine aj [] (tT (eY d) hq.n hq.a hq.m hq.b hd.left h0l) ?_;rintro _ _ ⟨Q2,rfl,rfl⟩;refine cI [] 2 (yo d bV Q1 bV bV++yo (eY d) bV Q2 bV bV) aB (fun B1=>?_);refine gI [] (kW (L':=0)) (pd p u1 d1 u2 d2 B1 d (eY d) bV Q1 bV bV bV Q2 bV bV hp hd hd.left hz) ?_;rintro _ _ ⟨X1,Y1,rfl,rfl⟩;refine cI [] 1 (jk X1++jk Y1) aB (fun C1=>?_);refine W.code 999 ?_;refine W.more (by kernel_rfl) (Tu (b:=C1) (xs:=(jk X1++jk Y1)) (fun _ _ h=>h)) ?_;refine aj [39] (tT d bq.n bq.a bq.m bq.b hd h0) ?_;rintro _ _ ⟨Q3,rfl,rfl⟩;refine aj [] (J9 (iR d) d.y (IntKind.i64.wrap (0-d.x)) rfl hwr hq.n hq.a hq.m hq.b hd.right h0r) ?_;rintro _ _ ⟨Q4,rfl,rfl⟩;refine cI [] 2 (yo d bV Q3 bV bV++yo ⟨d.y,IntKind.i64.wrap (0-d.x)⟩ bV Q4 bV bV) aB (fun B5=>?_);refine gI [] (kW (L':=0)) (pd p u1 d1 u2 d2 B5 d ⟨d.y,IntKind.i64.wrap (0-d.x)⟩ bV Q3 bV bV bV Q4 bV bV hp hd XE hz) ?_;rintro _ _ ⟨X5,Y5,rfl,rfl⟩;refine cI [] 1 (jk X5++jk Y5) aB (fun C5=>?_);refine Mr [] [] 40 640 1 1 (some ⟨C1,0,none⟩) (.slice (some ⟨C5,0,none⟩) 1 1) (jk X1++jk Y1) (jk X5++jk Y5) aB rfl (by decide) (by decide) (bW C5 [] 1 40 rfl 1) (by decide) (by decide) (fun g cap cur h1 h2 h3 h4=>?_)
 refine DL [] [] g cur ?_;refine W.r [] (.slice (some ⟨g,0,none⟩) (1+1) cap) ⟨some ⟨g,0,none⟩,cap,[⟨X1,Y1,(al (kt d) 2 p [jM d b,jM (eY d) h]).1,(al (kt d) 2 p [jM d b,jM (eY d) h]).2⟩,⟨X5,Y5,(al (kt d) 2 p [jM d b,⟨⟨d.y,IntKind.i64.wrap (0-d.x)⟩,0,(jM (iR d) h).b,0,0⟩]).1,(al (kt d) 2 p [jM d b,⟨⟨d.y,IntKind.i64.wrap (0-d.x)⟩,0,(jM (iR d) h).b,0,0⟩]).2⟩],rfl,h1,by rw[VL];rfl,rfl⟩ (Vp (g:=g) (PY h4) (fun I w hd hh e he=>?_));simp only[aD,aC,bp]at he;rcases he with rfl|rfl
 ·exact⟨aZ.p (k:=SF X1) (a:=(130,_)) inferInstance hh,aZ.p (k:=SF Y1) (a:=(130,_)) inferInstance hh⟩
 ·exact⟨aZ.p (k:=SF X5) (a:=(130,_)) inferInstance hh,aZ.p (k:=SF Y5) (a:=(130,_)) inferInstance hh⟩
theorem WJ(p d:Dp)(hq bq:Qw){h b:Rat}{L1:Nat} [aZ (QG hq) (L,h) Γ] [aZ (QG bq) (L1,b) Γ](hp:iJ 2147483648 p)(hd:iJ 4294967296 d)(h0:kt d≠0)(hL:L≤5∧L1≤5:=by omega):
  au tb Tryz.prog 189 [dv p,dv d,qv hq.n hq.a hq.m hq.b,qv bq.n bq.a bq.m bq.b,.bool true] Γ (UB (mh p d h b true)):=by
 have h0l:kt (eY d)≠0:=by rw[Hj];exact h0
 have h0r:kt (iR d)≠0:=by rw[Dt];exact h0
 have hz:0≤kt d∧(0:Int)≤2:=⟨vX d,by decide⟩;have hwr:IntKind.i64.wrap (0-d.x)= -d.x:=by unfold iJ at hd;rw[ah];omega
 have VL:(⟨d.y,IntKind.i64.wrap (0-d.x)⟩:Dp)=iR d:=by rw[hwr];rfl
 have XE:iJ 4294967296 ⟨d.y,IntKind.i64.wrap (0-d.x)⟩:=by rw[VL];exact hd.right
 refine au.of_W aB Tryz.func189 rfl ?_;refine aj [] (Dc d hd) ?_;rintro _ _ ⟨u1,d1,rfl,rfl⟩;refine aj [] (cV 2 (by omega) (by omega)) ?_;rintro _ _ ⟨u2,d2,rfl,rfl⟩;refine aj [] (xl d hd) ?_;rintro _ _ ⟨rfl,rfl⟩;refine aj [] (tT d bq.n bq.a bq.m bq.b hd h0) ?_;rintro _ _ ⟨Q1,rfl,rfl⟩;refine aj [] (tT (eY d) hq.n hq.a hq.m hq.b hd.left h0l) ?_;rintro _ _ ⟨Q2,rfl,rfl⟩;refine cI [] 2 (yo d bV Q1 bV bV++yo (eY d) bV Q2 bV bV) aB (fun B1=>?_);refine gI [] (kW (L':=0)) (pd p u1 d1 u2 d2 B1 d (eY d) bV Q1 bV bV bV Q2 bV bV hp hd hd.left hz) ?_;rintro _ _ ⟨X1,Y1,rfl,rfl⟩;refine cI [] 1 (jk X1++jk Y1) aB (fun C1=>?_);refine W.code 999 ?_;refine W.more (by kernel_rfl) (Tu (b:=C1) (xs:=(jk X1++jk Y1)) (fun _ _ h=>h)) ?_;refine aj [39] (zS d hq.n hq.a hq.m hq.b hd h0) ?_;rintro _ _ ⟨Q3,rfl,rfl⟩;refine aj [] (zS (eY d) hq.n hq.a hq.m hq.b hd.left h0l) ?_;rintro _ _ ⟨Q4,rfl,rfl⟩;refine cI [] 2 (yo d bV bV bV Q3++yo (eY d) bV bV bV Q4) aB (fun B2=>?_);refine gI [] (kW (L':=0)) (pd p u1 d1 u2 d2 B2 d (eY d) bV bV bV Q3 bV bV bV Q4 hp hd hd.left hz) ?_;rintro _ _ ⟨X2,Y2,rfl,rfl⟩;refine aj [] (tT d hq.n hq.a hq.m hq.b hd h0) ?_;rintro _ _ ⟨Q5,rfl,rfl⟩;refine cI [] 1 (yo d bV Q5 bV bV) aB (fun B3=>?_);refine gI [] (kW (L':=0)) (OH p u1 d1 u2 d2 B3 d bV Q5 bV bV hp hd hz) ?_
 rintro _ _ ⟨X3,Y3,rfl,rfl⟩;refine aj [] (zS d hq.n hq.a hq.m hq.b hd h0) ?_;rintro _ _ ⟨Q6,rfl,rfl⟩;refine aj [] (Pb (iR d) d.y (IntKind.i64.wrap (0-d.x)) rfl hwr hq.n hq.a hq.m hq.b hd.right h0r) ?_;rintro _ _ ⟨Q7,rfl,rfl⟩;refine cI [] 2 (yo d bV bV bV Q6++yo ⟨d.y,IntKind.i64.wrap (0-d.x)⟩ bV bV bV Q7) aB (fun B4=>?_);refine gI [] (kW (L':=0)) (pd p u1 d1 u2 d2 B4 d ⟨d.y,IntKind.i64.wrap (0-d.x)⟩ bV bV bV Q6 bV bV bV Q7 hp hd XE hz) ?_;rintro _ _ ⟨X4,Y4,rfl,rfl⟩;refine cI [] 3 ((jk X2++jk Y2)++(jk X3++jk Y3)++(jk X4++jk Y4)) aB (fun C2=>?_);refine Mr [] [] 40 640 1 3 (some ⟨C1,0,none⟩) (.slice (some ⟨C2,0,none⟩) 3 3) (jk X1++jk Y1) ((jk X2++jk Y2)++(jk X3++jk Y3)++(jk X4++jk Y4)) aB rfl (by decide) (by decide) (bW C2 [] 3 40 rfl 3) (by decide) (by decide) (fun g cap cur h1 h2 h3 h4=>?_);refine aj [] (tT d bq.n bq.a bq.m bq.b hd h0) ?_;rintro _ _ ⟨Q8,rfl,rfl⟩;refine aj [] (J9 (iR d) d.y (IntKind.i64.wrap (0-d.x)) rfl hwr hq.n hq.a hq.m hq.b hd.right h0r) ?_;rintro _ _ ⟨Q9,rfl,rfl⟩;refine cI [] 2 (yo d bV Q8 bV bV++yo ⟨d.y,IntKind.i64.wrap (0-d.x)⟩ bV Q9 bV bV) aB (fun B5=>?_);refine gI [] (kW (L':=0)) (pd p u1 d1 u2 d2 B5 d ⟨d.y,IntKind.i64.wrap (0-d.x)⟩ bV Q8 bV bV bV Q9 bV bV hp hd XE hz) ?_;rintro _ _ ⟨X5,Y5,rfl,rfl⟩;refine cI [] 1 (jk X5++jk Y5) aB (fun C5=>?_)
 refine W.app [] [(g,cur)] [] [(g,cur)] [] 40 640 (1+3) 1 (.slice (some ⟨g,0,none⟩) (1+3) cap) (.slice (some ⟨C5,0,none⟩) 1 1) ((jk X1++jk Y1)++((jk X2++jk Y2)++(jk X3++jk Y3)++(jk X4++jk Y4))) (jk X5++jk Y5) aB rfl ⟨rfl,.inr ⟨g,cap,cur,rfl,rfl,h1,h2,h3,h4⟩⟩ (bW C5 [(g,cur)] 1 40 rfl 1) (pt ⟨X5,Y5,⟨0,0,0,0,0,0⟩,⟨0,0,0,0,0,0⟩⟩) (by decide) (by decide) (fun v' O' hg=>?_);refine lQ (by simp only[aA,af];kernel_rfl) hg (fun ao c' hv hc'=>?_);subst hv;refine W.r [] (.slice ao (1+3+1) c') ⟨ao,c',[⟨X1,Y1,(al (kt d) 2 p [jM d b,jM (eY d) h]).1,(al (kt d) 2 p [jM d b,jM (eY d) h]).2⟩,⟨X2,Y2,(al (kt d) 2 p [lA d h,lA (eY d) h]).1,(al (kt d) 2 p [lA d h,lA (eY d) h]).2⟩,⟨X3,Y3,(al (kt d) 2 p [jM d h]).1,(al (kt d) 2 p [jM d h]).2⟩,⟨X4,Y4,(al (kt d) 2 p [lA d h,⟨⟨d.y,IntKind.i64.wrap (0-d.x)⟩,0,0,0,(lA (iR d) h).e⟩]).1,(al (kt d) 2 p [lA d h,⟨⟨d.y,IntKind.i64.wrap (0-d.x)⟩,0,0,0,(lA (iR d) h).e⟩]).2⟩,⟨X5,Y5,(al (kt d) 2 p [jM d b,⟨⟨d.y,IntKind.i64.wrap (0-d.x)⟩,0,(jM (iR d) h).b,0,0⟩]).1,(al (kt d) 2 p [jM d b,⟨⟨d.y,IntKind.i64.wrap (0-d.x)⟩,0,(jM (iR d) h).b,0,0⟩]).2⟩],rfl,hc',by rw[VL];rfl,rfl⟩ (zI (fun I w hd hh e he=>?_));simp only[aD,aC,bp]at he;rcases he with rfl|rfl|rfl|rfl|rfl
 ·exact⟨aZ.p (k:=SF X1) (a:=(130,_)) inferInstance hh,aZ.p (k:=SF Y1) (a:=(130,_)) inferInstance hh⟩
 ·exact⟨aZ.p (k:=SF X2) (a:=(130,_)) inferInstance hh,aZ.p (k:=SF Y2) (a:=(130,_)) inferInstance hh⟩
 ·exact⟨aZ.p (k:=SF X3) (a:=(130,_)) inferInstance hh,aZ.p (k:=SF Y3) (a:=(130,_)) inferInstance hh⟩
 ·exact⟨aZ.p (k:=SF X4) (a:=(130,_)) inferInstance hh,aZ.p (k:=SF Y4) (a:=(130,_)) inferInstance hh⟩
 ·exact⟨aZ.p (k:=SF X5) (a:=(130,_)) inferInstance hh,aZ.p (k:=SF Y5) (a:=(130,_)) inferInstance hh⟩
end
abbrev d_(d:Dp):List Value:=[.int .i64 d.x,.int .i64 d.y]
theorem qD(d:Dp):∀u∈d_ d,u.oneCell'=true:=by
 intro u hu;simp only[aD,aC,bp]at hu;rcases hu with rfl|rfl<;>rfl
theorem nT:∀l:List Dp,(l.flatMap d_).length=l.length*2
 | []=>rfl
 |d::r=>by rw[bj,az,nT r];simp;omega
theorem Ni{l:List Dp}:∀{k:Nat} (h:k<l.length) {j:Nat} {v:Value},(d_ (l[k]'h))[j]? =some v→(l.flatMap d_)[k*2+j]? =some v:=by
 induction l with
 |nil=>intro k h;simp at h
 |cons e r ih=>
  intro k h j v hv;have hj:j<2:=(List.getElem?_eq_some_iff.1 hv).1;cases k with
  |zero=>
   rw[bj,dD (by simp;omega),show 0*2+j=j by omega];exact hv
  |succ k=>
   rw[bj,e_ (by simp;omega),show(k+1)*2+j-(d_ e).length=k*2+j by simp;omega];exact ih (by simpa using h) hv
theorem nc(l:List Dp)(d:Dp):(d::l).reverse.flatMap d_=l.reverse.flatMap d_++d_ d:=by
 rw[List.reverse_cons,bA];simp
theorem zG{cur:List Value}{l:Dp}{r:List Dp}(h:cur.take ((r.length+1)*2)=(l::r).reverse.flatMap d_):(cur.drop (r.length*2)).take 2=d_ l:=by
 have h1:(cur.take ((r.length+1)*2)).drop (r.length*2)=d_ l:=by
  rw[h,nc,List.drop_append_of_le_length (by rw[nT];simp),bu (by rw[nT];simp)];rfl
 rw[List.drop_take,show(r.length+1)*2-r.length*2=2 by omega]at h1;exact h1
theorem Nj{cur:List Value}{l:Dp}{r:List Dp}(h:cur.take ((r.length+1)*2)=(l::r).reverse.flatMap d_):cur.take (r.length*2)=r.reverse.flatMap d_:=by
 have h1:(cur.take ((r.length+1)*2)).take (r.length*2)=cur.take (r.length*2):=by rw[List.take_take,fu (by omega)]
 rw[←h1,h,nc,List.take_append_of_le_length (by rw[nT];simp),aW (by rw[nT];simp)]
def RN(P:Program)(t:TypeId):Bool:=(match P.underlying t with|some (.struct _)=>true|_=>false)&& !P.stoodInHeld t&&(match(P.fieldsOf t).toList with
 | [f,g]=>f.name != "_" &&g.name != "_" &&Nat.beq f.offset 0&&Nat.beq g.offset 1&&(match P.underlying f.type with|some (.int _)=>true|_=>false)&&(match P.underlying g.type with|some (.int _)=>true|_=>false)
 |_=>false)
theorem Dl{P:Program}(w:World)(t:TypeId)(h:RN P t=true)(a b c d:Int):
  (Op.equal t (.agg #[.int .i64 a,.int .i64 b]) (.agg #[.int .i64 c,.int .i64 d])).run P w=.ok (a==c&&b==d) w:=by
 unfold RN at h;simp only[aK]at h;obtain⟨⟨h1,h2⟩,h3⟩:=h;have ht:P.underlying t=some (.struct (P.fieldsOf t)):=by
  unfold Program.fieldsOf;cases hu:P.underlying t with
  |none=>rw[hu]at h1;simp at h1
  |some u=>
   rw[hu]at h1;cases u<;>simp at h1⊢
 have hp:P.stoodInHeld t=false:=by simpa using h2
 show(Op.equalIn (9999+1) t _ _).run P w=_;rw[run_equalIn_agg w 9999 t _ _ ht hp];split at h3
 ·rename_i f g hfg;rw[hfg];simp only[aK,bne_iff_ne,ne_eq]at h3;obtain⟨⟨⟨⟨⟨n1,n2⟩,o1⟩,o2⟩,u1⟩,u2⟩:=h3;have o1':=aH o1;have o2':=aH o2;obtain⟨k1,hk1⟩:∃k,P.underlying f.type=some (.int k):=by
   cases hu:P.underlying f.type with
   |none=>rw[hu]at u1;simp at u1
   |some u=>rw[hu]at u1;cases u<;>simp at u1⊢
  obtain⟨k2,hk2⟩:∃k,P.underlying g.type=some (.int k):=by
   cases hu:P.underlying g.type with
   |none=>rw[hu]at u2;simp at u2
   |some u=>rw[hu]at u2;cases u<;>simp at u2⊢
  have e1:=run_equalIn_int (P:=P) w 9998 f.type .i64 k1 a c hk1;have e2:=run_equalIn_int (P:=P) w 9998 g.type .i64 k2 b d hk2;have p1:∀(x y:Value),(part f.type #[x,y] 0).run P w=.ok x w:=fun x y=>by simp[part,kN hk1,Fe]
  have p2:∀(x y:Value),(part g.type #[x,y] 1).run P w=.ok y w:=fun x y=>by simp[part,kN hk2,Fe]
  simp only[Op.eqFields,n1,n2,ne_eq,not_false_eq_true,eW,o1',o2',cB,p1,p2,bC,e1,Sem.run_ite,dS,e2];cases(a==c)<;>cases(b==d)<;>rfl
 ·simp at h3
theorem MM(l p:Dp):(l.x==p.x&&l.y==p.y)=decide (l=p):=by
 by_cases h:l=p
 ·subst h;simp
 ·rw[ak h];rw[rq];by_cases hx:l.x=p.x
  ·right;simp only[fE];exact fun hy=>h (Dp.eq_iff.2 ⟨hx,hy⟩)
  ·left;simpa using hx
def Py(e:Ev):Option (TypeId×Value×Value):=
 match e with
 | .read o c=>match o.op with
  | .binOp .neq t x y _=>match c.s.ev x,c.s.ev y with
   | .val a,.val b=>some (t,a,b)
   |_,_=>none
  |_=>none
 |_=>none
theorem cG.own{z:Nat}{O:List (Nat×List Value)}{v:Value}{n:Nat}{xs:List Value}(h:cG z O v n xs)(hn:0<n):∃g cap cur,v=.slice (some ⟨g,0,none⟩) n cap∧O=[(g,cur)]∧n≤cap∧cap≤maxLen∧cur.length=cap*z∧cur.take (n*z)=xs:=by
 rcases h.2 with⟨_,h0,_⟩|h
 ·omega
 ·exact h
theorem cG.zero{z:Nat}{O:List (Nat×List Value)}{v:Value}{xs:List Value}(h:cG z O v 0 xs):∃ao c,v=.slice ao 0 c:=by
 rcases h.2 with⟨rfl,_,_⟩|⟨g,cap,cur,rfl,_⟩
 ·exact⟨none,0,rfl⟩
 ·exact⟨_,_,rfl⟩
theorem cG.cast{z:Nat}{O:List (Nat×List Value)}{v:Value}{n n':Nat}{xs xs':List Value}(hx:xs=xs')(hn:n=n')(h:cG z O v n xs):cG z O v n' xs':=by
 subst hx hn;exact h
theorem AB:∀(fK:List Dp) (s:List Dp×List Dp) {Q:Dp→Prop},(∀q∈s.1,q∈fK∨Q q)→∀q∈(fK.foldl push s).1,q∈fK∨Q q
 | [],s,Q,h,q,hq=>h q hq
 |p::r,s,Q,h,q,hq=>by
  have:=AB r (push s p) (Q:=fun q=>q=p∨Q q) (fun q hq=>?_) q hq
  ·rcases this with h1|h1|h1
   ·exact .inl (cX _ h1)
   ·exact .inl (by rw[h1];exact vB)
   ·exact .inr h1
  ·have hin:q=p∨q∈s.1:=by
    obtain⟨R,w⟩:=s
    match R with
    | []=>simp only[push,aD,aC,bp]at hq;exact .inl hq
    |l::r'=>
     simp only[push]at hq;split at hq
     ·exact .inr hq
     ·split at hq
      ·rcases List.mem_cons.1 hq with h1|h1
       ·exact .inl h1
       ·exact .inr (cX _ h1)
      ·rcases List.mem_cons.1 hq with h1|h1
       ·exact .inl h1
       ·exact .inr h1
   rcases hin with h1|h1
   ·exact .inr (.inl h1)
   ·rcases h q h1 with h2|h2
    ·rcases List.mem_cons.1 h2 with h3|h3
     ·exact .inr (.inl h3)
     ·exact .inl h3
    ·exact .inr (.inr h2)
theorem AA:∀(fK:List Dp) (s:List Dp×List Dp),(fK.foldl push s).1.length≤s.1.length+fK.length
 | [],s=>by simp
 |p::r,s=>by
  have h1:=AA r (push s p);have h2:(push s p).1.length≤s.1.length+1:=by
   obtain⟨R,w⟩:=s
   match R with
   | []=>simp[push]
   |l::r'=>
    simp only[push];split
    ·simp
    ·split<;>simp
  simp only[oF,aF];omega
structure CSt where
 i:Nat
 z:Int
 vo:Value
 vw:Value
 Oo:List (Nat×List Value)
 Ow:List (Nat×List Value)
 R:List Dp
 W:List Dp
section
variable{T:Tb}{P:Program}{fin:VS→List aE→Prop}{c:fM}{Γ:List aE}
theorem E_(D:List Nat)(t:TypeId)(l p:Dp)
  (hk:W T P fin (gy (aJ T (bh T D 999 c)) (.bool (decide (l=p)))) Γ)(h:Pu (aJ T (bh T D 999 c))=some (t,dv l,dv p):=by kernel_rfl)(hg:P.eqGuardType P.depth t=false:=by kernel_rfl)(ho:RN P t=true:=by kernel_rfl):W T P fin c Γ:=by
 refine eF D 999 ?_;generalize bh T D 999 c=c1 at*;unfold Pu at h;split at h
 ·rename_i o c' he;rw[he]at hk;split at h
  ·rename_i ty u v yt hop;split at h
   ·rename_i a b ha hb;simp only[aq,aI]at h;obtain⟨rfl,rfl,rfl⟩:=h;refine W.read _ he (.any ?_) hk;intro w;have hr:=Dl w ty ho l.x l.y p.x p.y;rw[MM]at hr;simp[execOp,hop,cE ha,cE hb,eqGuard,binOp,hr,hg]
   ·simp at h
  ·simp at h
 ·simp at h
theorem Mw(D:List Nat)(t:TypeId)(l p:Dp)
  (hk:W T P fin (gy (aJ T (bh T D 999 c)) (.bool (!decide (l=p)))) Γ)(h:Py (aJ T (bh T D 999 c))=some (t,dv l,dv p):=by kernel_rfl)(hg:P.eqGuardType P.depth t=false:=by kernel_rfl)(ho:RN P t=true:=by kernel_rfl):W T P fin c Γ:=by
 refine eF D 999 ?_;generalize bh T D 999 c=c1 at*;unfold Py at h;split at h
 ·rename_i o c' he;rw[he]at hk;split at h
  ·rename_i ty u v yt hop;split at h
   ·rename_i a b ha hb;simp only[aq,aI]at h;obtain⟨rfl,rfl,rfl⟩:=h;refine W.read _ he (.any ?_) hk;intro w;have hr:=Dl w ty ho l.x l.y p.x p.y;rw[MM]at hr;simp[execOp,hop,cE ha,cE hb,eqGuard,binOp,hr,hg]
   ·simp at h
  ·simp at h
 ·simp at h
theorem S4(D:List Nat)(z b r len cap:Nat)(y:Int)(hy:y=r)(hT:T.Ok P)(hrs:r≤cap)(h0:0<cap)
  (hk:W T P fin (gy (aJ T (bh T D 999 c)) (.slice (some ⟨b,0,none⟩) r cap)) Γ)(h:zV T (aJ T (bh T D 999 c))=some (z,.slice (some ⟨b,0,none⟩) len cap,none,some (.int .i64 y)):=by kernel_rfl):W T P fin c Γ:=by
 subst hy;refine Cw D z b 0 len cap none (some (.int .i64 (r:Int))) 0 r hT (h:=h) (.inr ⟨rfl,rfl⟩) (.inl rfl) (aM _) hrs h0 ?_;rw[ln,Nat.sub_zero,Nat.sub_zero];exact hk
theorem eD(b off:Nat){xs:List Value} [h:aZ (RA (some ⟨b,off,none⟩)) xs Γ](k:Nat){cs:List Value}(hv:∀(j:Nat) (v:Value),cs[j]? =some v→xs[k+j]? =some v):∀I w,bB T I w→aG Γ I w→∀j v,cs[j]? =some v→w.cell? ⟨b,off+k+j,none⟩=some v:=fun I w _ hh j v hj=>by
 rw[ij];exact RA.cell (h.p hh) (hv j v hj)
theorem oX{ao:Option Addr}{xs:List Value} [h:aZ (RA ao) xs Γ]:∀I w,bB T I w→aG Γ I w→aG [RA ao xs] I w:=fun I w _ hh=>aG.cons (h.p hh) (aG.nil _ _)
theorem Jf{s:VS}{k:List It}{z n:Nat}{O1 O2:List (Nat×List Value)}{v:Value}{xs:List Value}(hs:s.own=O1++O2)(hg:cG z O1 v n xs)(hm:dG k=false)
  (hk:∀ao c,v=.slice ao n c→W T P fin ⟨⟨s.tmps,s.boxes,O2,s.maps⟩,k⟩ (RA ao xs::Γ)):W T P fin ⟨s,k⟩ Γ:=by
 obtain⟨hl,hg⟩:=hg;rcases hg with⟨rfl,rfl,rfl⟩|⟨g,cap,cur,rfl,rfl,hnc,hcm,hcs,htk⟩
 ·obtain rfl:xs=[]:=aL (by simpa using hl);obtain⟨tm,bx,ow⟩:=s;simp only[aA]at hs;subst hs;exact W.elim (α:=Unit) (fun _=>True) (fun _=>[RA none []]) hm (fun I w _ hh=>⟨(),trivial,aV (RA.nil _ _ _)⟩) (fun _ _=>hk none 0 rfl)
 ·refine W.pub (O1:=[]) (O2:=O2) (b:=g) (cs:=cur) hm hs ?_;refine W.elim (α:=Unit) (fun _=>True) (fun _=>[RA (some ⟨g,0,none⟩) xs]) hm (fun I w _ hh=>⟨(),trivial,aV (RA.of_row hh.h0' fun i v hv=>?_)⟩) (fun _ _=>?_)
  ·rw[←htk,di]at hv;split at hv
   ·exact hv
   ·simp at hv
  ·refine W.sub hm (fun I w _ hh=>?_) (hk _ _ rfl);exact aG.cons hh.h0' (fun F hF=>hh F (by simp[hF]))
end
section
variable{Γ:List aE}{L M:Nat}
theorem LB(ao:Option Addr)(n c:Nat)(fK:List Dp) [aZ (RA ao) (fK.flatMap d_) Γ](hn:n=fK.length)(hn2:n≤8191)(hb:∀p∈fK,iJ 2147483648 p):
  au tb Tryz.prog 188 [.slice ao n c] Γ (fun v Δ=>∃(a1 a2:Option Addr) (c1 c2:Nat),v=.tuple #[.slice a1 (iO fK).1.length c1,.slice a2 (iO fK).2.length c2]∧Δ=[RA a1 ((iO fK).1.reverse.flatMap d_),RA a2 ((iO fK).2.reverse.flatMap d_)]):=by
 refine au.of_W aB Tryz.func188 rfl ?_;refine j0 [] [4,5,12] (fun a:CSt=>[(4,a.vo),(5,a.vw),(12,.int .i64 a.z)]) (fun _=>[]) (fun a=>a.Oo++a.Ow) (fun _=>[RA ao (fK.flatMap d_)]) (fun a=>a.z=a.i∧a.i≤n∧(a.R,a.W)=iO (fK.take a.i)∧cG 2 a.Oo a.vo a.R.length (a.R.reverse.flatMap d_)∧cG 2 a.Ow a.vw a.W.length (a.W.reverse.flatMap d_)) (fun a=>n-a.i) ⟨0,0,.slice none 0 0,.slice none 0 0,[],[],[],[]⟩ ⟨rfl,aM _,rfl,cG.nil 2,cG.nil 2⟩ oX ?_;rintro⟨i,z,vo,vw,Oo,Ow,R,U⟩ K ⟨hz,hi,Qn,vm,Ih⟩ close;simp only at hz hi Qn vm Ih;by_cases hlt:i<n
 rotate_left
 ·have hin:i=n:=by omega
  have hall:fK.take i=fK:=aW (by omega);rw[hall]at Qn;rw[←Qn];refine Jf (O1:=Oo) (O2:=Ow) rfl vm rfl (fun a1 c1 h1=>?_);refine Jf (O1:=Ow) (O2:=[]) (af _).symm Ih rfl (fun a2 c2 h2=>?_);subst h1 h2;refine aS [] 13 (decide (z<(n:Int))) (ak (by omega)) ?_;exact W.r [13] (.tuple #[.slice a1 R.length c1,.slice a2 U.length c2]) ⟨a1,a2,c1,c2,rfl,rfl⟩ (lV (Δ:=[_]) (Δ':=[_]) oX oX)
 have hil:i<fK.length:=by omega
 have hstep:iO (fK.take (i+1))=push (R,U) (fK[i]'hil):=by
  rw[Qn,List.take_succ_eq_append_getElem hil];simp only[iO,List.foldl_append,oF,List.foldl_nil]
 have hok:j5 R U:=by
  have:=zC (fK.take i) ([],[]) rfl;rw[show(fK.take i).foldl push ([],[])=(R,U)from Qn.symm]at this;exact this
 have hlen:=hok.len;have hpb:=hb _ (dW hil);have TA:∀q∈R,iJ 2147483648 q:=fun q hq=>by
  have:=AB (fK.take i) ([],[]) (Q:=fun _=>False) (fun q hq=>absurd hq (by simp)) q (by rw[show(fK.take i).foldl push ([],[])=(R,U)from Qn.symm];exact hq);exact hb q (dI (by simpa using this))
 have TB:R.length≤i:=by
  have:=AA (fK.take i) ([],[]);rw[show(fK.take i).foldl push ([],[])=(R,U)from Qn.symm]at this;simp only[bE,dF]at this;omega
 have hz1:IntKind.i64.wrap (z+1)=((i+1:Nat):Int):=by rw[ah];omega
 have Ie:∀(j:Nat) (v:Value),(d_ (fK[i]'hil))[j]? =some v→(fK.flatMap d_)[i*2+j]? =some v:=fun j v hv=>Ni hil hv;generalize hp:fK[i]'hil=p at*;refine Fb ao (hm:=rfl) (by intro e;have:=nT fK;rw[e]at this;simp at this;omega) (fun ba of e=>?_);subst e;refine bD [] 13 (decide (z<(n:Int))) (aw (by omega)) ?_;refine cA [13] 2 ba of n c .i64 i z hz aB hlt ?_;refine de [] ba (of+i*2) (d_ p) aB (eD ba of (i*2) Ie) ?_
 match R,U,hok,hlen,vm,Ih,TA,TB,Qn,hstep with
 | [],U,hok,hlen,vm,Ih,TA,TB,Qn,hstep=>
  obtain rfl:U=[]:=hok;rcases vm.zero with⟨ao0,co0,rfl⟩;refine j2 [] 3 ?_;refine aS [] 19 (decide (((0:Nat):Int)>0)) (by decide) ?_;refine cI [19] 1 (d_ p) aB (fun b2=>?_);refine W.app [] (Oo++Ow) [] Oo Ow 2 16 0 1 (.slice ao0 0 co0) (.slice (some ⟨b2,0,none⟩) 1 1) [] (d_ p) aB (by simp) vm (bW b2 (Oo++Ow) 1 2 rfl 1) (qD _) (by omega) (by decide) (fun SG QK sO=>?_);refine close [] _ _ ⟨i+1,IntKind.i64.wrap (z+1),SG,vw,QK,Ow,[p],[]⟩ (by kernel_rfl) (by simp only[aA,af];kernel_rfl) ⟨hz1,hlt,by rw[hstep];rfl,sO,Ih⟩ (by simp only;omega) oX
 |l::r,U,hok,hlen,vm,Ih,TA,TB,Qn,hstep=>
  have hlb:=TA l (by simp);have hN:(l::r).length=r.length+1:=rfl;rw[hN]at vm TB;obtain⟨g1,k1,j8,rfl,rfl,hk1,hm1,hl1,ht1⟩:=vm.own (by omega);have hlast:=zG ht1;have NR:=Nj ht1;refine j2 [] 3 ?_;refine bD [] 19 (decide (((r.length+1:Nat):Int)>0)) (aw (by omega)) ?_;refine cA [19] 2 g1 0 (r.length+1) k1 .i64 r.length (IntKind.i64.wrap (((r.length+1:Nat):Int)-1)) (by rw[ah];omega) aB (by omega) ?_;refine wk [] ([(g1,j8)]++Ow) g1 (0+r.length*2) 2 j8 (d_ l) aB (by simp) (by rw[cz];exact hlast) rfl ?_;refine E_ [] 58 l p ?_;by_cases TG:l=p
  ·refine bD [] 28 (decide (l=p)) (aw TG) ?_;refine close [28] _ _ ⟨i+1,IntKind.i64.wrap (z+1),.slice (some ⟨g1,0,none⟩) (r.length+1) k1,vw,[(g1,j8)],Ow,l::r,U⟩ (by kernel_rfl) (by kernel_rfl) ⟨hz1,hlt,?_,vm,Ih⟩ (by simp only;omega) oX;rw[hstep];simp only[push,if_pos TG]
  refine aS [] 28 (decide (l=p)) (ak TG) ?_;refine cA [28] 2 g1 0 (r.length+1) k1 .i64 r.length (IntKind.i64.wrap (((r.length+1:Nat):Int)-1)) (by rw[ah];omega) aB (by omega) ?_;refine wk [] ([(g1,j8)]++Ow) g1 (0+r.length*2) 2 j8 (d_ l) aB (by simp) (by rw[cz];exact hlast) rfl ?_;refine aj [] (C9 l p hlb hpb TG) ?_;rintro _ _ ⟨rfl,rfl⟩
  match r,U,hok,hlen,vm,Ih,hk1,ht1,NR,TA,TB,hstep with
  | [],U,hok,hlen,vm,Ih,hk1,ht1,NR,TA,TB,hstep=>
   obtain rfl:U=[]:=hok;rcases Ih.zero with⟨aw0,cw0,rfl⟩;refine bD [] 38 (decide (((([]:List Dp).length+1:Nat):Int)<2)) (by decide) ?_;refine cI [46,38] 1 (d_ (gF l p)) aB (fun b1=>?_);refine W.app [] ([(g1,j8)]++Ow) [(g1,j8)] Ow [] 2 16 0 1 (.slice aw0 0 cw0) (.slice (some ⟨b1,0,none⟩) 1 1) [] (d_ (gF l p)) aB (by simp) Ih (bW b1 ([(g1,j8)]++Ow) 1 2 rfl 1) (qD _) (by omega) (by decide) (fun Xj DG Rr=>?_);refine cI [] 1 (d_ p) aB (fun b2=>?_);refine W.app [] ([(g1,j8)]++DG++[]) [] [(g1,j8)] (DG++[]) 2 16 (([]:List Dp).length+1) 1 (.slice (some ⟨g1,0,none⟩) (([]:List Dp).length+1) k1) (.slice (some ⟨b2,0,none⟩) 1 1) ([l].reverse.flatMap d_) (d_ p) aB (by simp) vm (bW b2 ([(g1,j8)]++DG++[]) 1 2 rfl 1) (qD _) (by omega) (by decide) (fun SG QK sO=>?_);refine close [] _ _ ⟨i+1,IntKind.i64.wrap (z+1),SG,Xj,QK,DG,p::[l],[gF l p]⟩ (by kernel_rfl) (by simp only[aA,af];kernel_rfl) ⟨hz1,hlt,?_,cG.cast (nc _ _).symm rfl sO,cG.cast (nc _ _).symm rfl Rr⟩ (by simp only;omega) oX;rw[hstep];simp only[push,if_neg TG,List.head?_nil,reduceCtorEq,ea]
  |a::r2,U,⟨d,v,hW,Cg,hd,hv,Ii⟩,hlen,vm,Ih,hk1,ht1,NR,TA,TB,hstep=>
   subst hW;have hab:=TA a (by simp);have Rm:r2.length+2≤i:=TB;have hll:(a::r2).length=r2.length+1:=rfl;have FW:v.length=r2.length:=by simp at hlen;omega
   rw[show(d::v).length=v.length+1 from rfl]at Ih;obtain⟨g2,k2,tt,rfl,rfl,hk2,hm2,hl2,TL⟩:=Ih.own (by omega);have VF:=zG TL;have FY:=Nj TL;refine aS [] 38 (decide ((((a::r2).length+1:Nat):Int)<2)) (ak (by simp only[aF];omega)) ?_;refine cA [38] 2 g2 0 (v.length+1) k2 .i64 v.length (IntKind.i64.wrap ((((a::r2).length+1:Nat):Int)-2)) (by simp only[aF,ah];omega) aB (by omega) ?_;refine wk [38] ([(g1,j8)]++[(g2,tt)]) g2 (0+v.length*2) 2 tt (d_ d) aB (by simp) (by rw[cz];exact VF) rfl ?_;refine Mw [38] 282 d (gF l p) ?_;by_cases Vx:d=gF l p
   rotate_left
   ·refine bD [38] 46 (!decide (d=gF l p)) (by rw[ak Vx];rfl) ?_;refine cI [46] 1 (d_ (gF l p)) aB (fun b1=>?_);refine W.app [] ([(g1,j8)]++[(g2,tt)]) [(g1,j8)] [(g2,tt)] [] 2 16 (v.length+1) 1 (.slice (some ⟨g2,0,none⟩) (v.length+1) k2) (.slice (some ⟨b1,0,none⟩) 1 1) ((d::v).reverse.flatMap d_) (d_ (gF l p)) aB (by simp) Ih (bW b1 ([(g1,j8)]++[(g2,tt)]) 1 2 rfl 1) (qD _) (by omega) (by decide) (fun Xj DG Rr=>?_);refine cI [] 1 (d_ p) aB (fun b2=>?_);refine W.app [] ([(g1,j8)]++DG++[]) [] [(g1,j8)] (DG++[]) 2 16 ((a::r2).length+1) 1 (.slice (some ⟨g1,0,none⟩) ((a::r2).length+1) k1) (.slice (some ⟨b2,0,none⟩) 1 1) ((l::a::r2).reverse.flatMap d_) (d_ p) aB (by simp) vm (bW b2 ([(g1,j8)]++DG++[]) 1 2 rfl 1) (qD _) (by omega) (by decide) (fun SG QK sO=>?_);refine close [] _ _ ⟨i+1,IntKind.i64.wrap (z+1),SG,Xj,QK,DG,p::l::a::r2,gF l p::d::v⟩ (by kernel_rfl) (by simp only[aA,af];kernel_rfl) ⟨hz1,hlt,?_,cG.cast (nc _ _).symm rfl sO,cG.cast (nc _ _).symm rfl Rr⟩ (by simp only;omega) oX;rw[hstep];simp only[push,if_neg TG,oG,aq,if_neg Vx]
   have hj:=j5.back (l:=l) (a:=a) (r:=r2) (w:=d::v) ⟨d,v,rfl,Cg,hd,hv,Ii⟩ TG (by rw[oG,Vx]);obtain⟨hap,Zs,_⟩:=hj;have NI:cG 2 [(g1,j8)] (.slice (some ⟨g1,0,none⟩) (a::r2).length k1) (a::r2).length ((a::r2).reverse.flatMap d_):=⟨by rw[nT];simp,.inr ⟨g1,k1,j8,rfl,rfl,by omega,hm1,hl1,NR⟩⟩;have NJ:cG 2 [(g2,tt)] (.slice (some ⟨g2,0,none⟩) v.length k2) v.length (v.reverse.flatMap d_):=⟨by rw[nT];simp,.inr ⟨g2,k2,tt,rfl,rfl,by omega,hm2,hl2,FY⟩⟩;have NM:=zG NR;refine aS [38] 46 (!decide (d=gF l p)) (by rw[aw Vx];rfl) ?_;refine S4 [46] 2 g1 (a::r2).length ((a::r2).length+1) k1 (IntKind.i64.wrap ((((a::r2).length+1:Nat):Int)-1)) (by simp only[aF,ah];omega) aB (by omega) (by omega) ?_;refine S4 [] 2 g2 v.length (v.length+1) k2 (IntKind.i64.wrap ((((a::r2).length+1:Nat):Int)-2)) (by simp only[aF,ah];omega) aB (by omega) (by omega) ?_;refine bD [] 19 (decide ((((a::r2).length:Nat):Int)>0)) (aw (by simp only[aF];omega)) ?_;refine cA [19] 2 g1 0 (a::r2).length k1 .i64 r2.length (IntKind.i64.wrap ((((a::r2).length:Nat):Int)-1)) (by simp only[aF,ah];omega) aB (by simp only[aF];omega) ?_;refine wk [] ([(g1,j8)]++[(g2,tt)]) g1 (0+r2.length*2) 2 j8 (d_ a) aB (by simp) (by rw[cz];exact NM) rfl ?_
   refine E_ [] 58 a p ?_;refine aS [] 28 (decide (a=p)) (ak hap) ?_;refine cA [28] 2 g1 0 (a::r2).length k1 .i64 r2.length (IntKind.i64.wrap ((((a::r2).length:Nat):Int)-1)) (by simp only[aF,ah];omega) aB (by simp only[aF];omega) ?_;refine wk [] ([(g1,j8)]++[(g2,tt)]) g1 (0+r2.length*2) 2 j8 (d_ a) aB (by simp) (by rw[cz];exact NM) rfl ?_;refine aj [] (C9 a p hab hpb hap) ?_;rintro _ _ ⟨rfl,rfl⟩;have hend:push (l::a::r2,d::v) p=(p::a::r2,gF a p::v):=by
    simp only[push,if_neg TG,oG,aq,if_pos Vx];rw[Zs,Vx]
   match r2,v,FW,NI,NJ,Ii,FY,hl2,TL,hv,hend,Rm,hstep with
   | [],v,FW,NI,NJ,Ii,FY,hl2,TL,hv,hend,Rm,hstep=>
    obtain rfl:v=[]:=aL FW;refine bD [] 38 (decide ((([a].length:Nat):Int)<2)) (aw (by simp)) ?_;refine cI [46,38] 1 (d_ (gF a p)) aB (fun b1=>?_);refine W.app [] ([(g1,j8)]++[(g2,tt)]) [(g1,j8)] [(g2,tt)] [] 2 16 0 1 (.slice (some ⟨g2,0,none⟩) 0 k2) (.slice (some ⟨b1,0,none⟩) 1 1) [] (d_ (gF a p)) aB (by simp) NJ (bW b1 ([(g1,j8)]++[(g2,tt)]) 1 2 rfl 1) (qD _) (by omega) (by decide) (fun Xj DG Rr=>?_);refine cI [] 1 (d_ p) aB (fun b2=>?_);refine W.app [] ([(g1,j8)]++DG++[]) [] [(g1,j8)] (DG++[]) 2 16 [a].length 1 (.slice (some ⟨g1,0,none⟩) [a].length k1) (.slice (some ⟨b2,0,none⟩) 1 1) ([a].reverse.flatMap d_) (d_ p) aB (by simp) NI (bW b2 ([(g1,j8)]++DG++[]) 1 2 rfl 1) (qD _) (by omega) (by decide) (fun SG QK sO=>?_);refine close [] _ _ ⟨i+1,IntKind.i64.wrap (z+1),SG,Xj,QK,DG,p::[a],[gF a p]⟩ (by kernel_rfl) (by simp only[aA,af];kernel_rfl) ⟨hz1,hlt,?_,cG.cast (nc _ _).symm rfl sO,cG.cast (nc _ _).symm rfl Rr⟩ (by simp only;omega) oX;rw[hstep];rw[hend]
   |a3::r3,v,FW,NI,NJ,⟨d3,v3,hv3,_⟩,FY,hl2,TL,hv,hend,Rm,hstep=>
    subst hv3;have VG:=zG FY;have ab8:d3≠gF a p:=fun e=>by
     rw[Zs,←Vx]at e;exact hv (by rw[oG,e])
    simp only[aF]at FW;have hR3:r3.length+3≤i:=Rm;have hl3:(a::a3::r3).length=r3.length+2:=rfl;have hl4:(d3::v3).length=v3.length+1:=rfl;refine aS [] 38 (decide ((((a::a3::r3).length:Nat):Int)<2)) (ak (by simp only[aF];omega)) ?_;refine cA [38] 2 g2 0 (d3::v3).length k2 .i64 v3.length (IntKind.i64.wrap ((((a::a3::r3).length:Nat):Int)-2)) (by simp only[aF,ah];omega) aB (by simp only[aF];omega) ?_;refine wk [38] ([(g1,j8)]++[(g2,tt)]) g2 (0+v3.length*2) 2 tt (d_ d3) aB (by simp) (by rw[cz];exact VG) rfl ?_;refine Mw [38] 282 d3 (gF a p) ?_;refine bD [38] 46 (!decide (d3=gF a p)) (by rw[ak ab8];rfl) ?_;refine cI [46] 1 (d_ (gF a p)) aB (fun b1=>?_);refine W.app [] ([(g1,j8)]++[(g2,tt)]) [(g1,j8)] [(g2,tt)] [] 2 16 (d3::v3).length 1 (.slice (some ⟨g2,0,none⟩) (d3::v3).length k2) (.slice (some ⟨b1,0,none⟩) 1 1) ((d3::v3).reverse.flatMap d_) (d_ (gF a p)) aB (by simp) NJ (bW b1 ([(g1,j8)]++[(g2,tt)]) 1 2 rfl 1) (qD _) (by omega) (by decide) (fun Xj DG Rr=>?_);refine cI [] 1 (d_ p) aB (fun b2=>?_);refine W.app [] ([(g1,j8)]++DG++[]) [] [(g1,j8)] (DG++[]) 2 16 (a::a3::r3).length 1 (.slice (some ⟨g1,0,none⟩) (a::a3::r3).length k1) (.slice (some ⟨b2,0,none⟩) 1 1) ((a::a3::r3).reverse.flatMap d_) (d_ p) aB (by simp) NI (bW b2 ([(g1,j8)]++DG++[]) 1 2 rfl 1) (qD _) (by omega) (by decide) (fun SG QK sO=>?_)
    refine close [] _ _ ⟨i+1,IntKind.i64.wrap (z+1),SG,Xj,QK,DG,p::a::a3::r3,gF a p::d3::v3⟩ (by kernel_rfl) (by simp only[aA,af];kernel_rfl) ⟨hz1,hlt,?_,cG.cast (nc _ _).symm rfl sO,cG.cast (nc _ _).symm rfl Rr⟩ (by simp only;omega) oX;rw[hstep];rw[hend]
end
end Go.Proofs.YtgaaopjagcaojaaGreat
