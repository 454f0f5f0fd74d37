import Derived.Test.YtgaaopjagcaojaaGreatOw
import Derived.Laws.StructEq
set_option linter.unusedSimpArgs false
set_option linter.unusedVariables false
set_option maxHeartbeats 4000000
namespace Go.Proofs.YtgaaopjagcaojaaGreat
open Go.RowKit Go.IntWalk
def abm(F G:aC):aC where
 p I w:=F.p I w∧G.p I w
 up h h1 h2 h3:=⟨F.up h.1 h1 h2 h3,G.up h.2 h1 h2 h3⟩
abbrev iX(x:Sw):List Value:=[.slice x.u.ao x.u.n x.u.c,.bool x.d,.slice x.v.ao x.v.n x.v.c,.bool x.e,
 .slice x.p.n.ao x.p.n.n x.p.n.c,.bool x.p.a,.slice x.p.m.ao x.p.m.n x.p.m.c,.bool x.p.b,.slice x.q.n.ao x.q.n.n x.q.n.c,.bool x.q.a,.slice x.q.m.ao x.q.m.n x.q.m.c,.bool x.q.b,
 .slice x.r.n.ao x.r.n.n x.r.n.c,.bool x.r.a,.slice x.r.m.ao x.r.m.n x.r.m.c,.bool x.r.b,.slice x.s.n.ao x.s.n.n x.s.n.c,.bool x.s.a,.slice x.s.m.ao x.s.m.n x.s.m.c,.bool x.s.b]
structure jt where
 x:Sw
 y:Sw
 X:Sn
 Y:Sn
def gd:kK jt where
 z:=40
 cells e:=iX e.x++iX e.y
 len _:=rfl
 fact L e:=abm (SF e.x (L,e.X)) (SF e.y (L,e.Y))
def jt.num(e:jt):Sn×Sn:=(e.X,e.Y)
theorem o0(e:jt):∀u∈gd.cells e,u.oneCell'=true:=by
 intro u hu;simp only[gd,dU,aH,aI,bU]at hu;rcases hu with hu|hu<;>(rcases hu with rfl|rfl|rfl|rfl|rfl|rfl|rfl|rfl|rfl|rfl|rfl|rfl|rfl|rfl|rfl|rfl|rfl|rfl|rfl|rfl<;>rfl)
def US(l0:List (Sn×Sn))(v:Value)(Δ:List aC):Prop:=∃(ao:Option Addr) (c:Nat) (l:List jt),v=.slice ao l.length c∧l.length≤c∧l.map jt.num=l0∧Δ=[OL gd ao (130,l)]
theorem vM(d:Dp):0≤ke d:=by
 unfold ke;have h1:0≤d.x*d.x:=by rcases Int.le_total 0 d.x with h|h;exact eO h h;exact jv h h
 have h2:0≤d.y*d.y:=by rcases Int.le_total 0 d.y with h|h;exact eO h h;exact jv h h
 omega
theorem G5(d:Dp):ke (eN d)=ke d:=by
 unfold ke eN;simp only[sI];omega
theorem Db(d:Dp):ke (iz d)=ke d:=by
 unfold ke iz;simp only[sI];omega
theorem ig.left{B:Int}{d:Dp}(h:ig B d):ig B (eN d):=by unfold ig eN at*;simp only;omega
theorem ig.right{B:Int}{d:Dp}(h:ig B d):ig B (iz d):=by unfold ig iz at*;simp only;omega
theorem ig.neg{B:Int}{d:Dp}(h:ig B d):ig B (i_ d):=by unfold ig i_ at*;simp only;omega
section
variable{T:Tb}{P:Program}{fin:VS→List aC→Prop}{c:fC}{Γ:List aC}
theorem Mv(D:List Nat)(own:List (Nat×List Value))(z bytes n m:Nat)(ao:Option Addr)(x:Value)(xs news:List Value)(hT:T.Ok P)
   [hrp:aY (RA ao) xs Γ](N7:xs.length=n*z)(hn0:0<n)(hm:0<m)(hx:qA T Γ own x m z news)
  (hn:n+m≤1000000)(hb:bytes≤100000000)
  (hk:∀g cap cur,n+m≤cap→cap≤maxLen→cur.length=cap*z→cur.take ((n+m)*z)=xs++news→W T P fin (mR (aK T (aZ T D 999 c)) ((g,cur)::own) (.slice (some ⟨g,0,none⟩) (n+m) cap)) Γ)(h:pQ T (aK T (aZ T D 999 c))=some (own,z,bytes,.slice ao n n,x):=by kernel_rfl):W T P fin c Γ:=by
 refine eg D 999 ?_;generalize aZ T D 999 c=c1 at*;unfold pQ at h;split at h
 ·rename_i o c' he;rw[he]at hk;split at h
  ·rename_i cl hop;split at h
   ·rename_i sx xx t1 t2 hcal hargs htys;split at h
    ·rename_i a b y1 ha hbv hy;cases hc:(Nat.beq t1 t2&&(Nat.beq y1.kind 3&&(!Nat.beq y1.esize 0&&(Nat.beq y1.ezero.length y1.esize&& !T.dat y1.elem))))with
     |false=>simp[hc]at h
     |true=>
      simp only[hc,bQ,au,aF]at h;obtain⟨hown,rfl,rfl,rfl,rfl⟩:=h;simp only[aL,cD]at hc;obtain⟨c1',c2,c3,c4,c5⟩:=hc;have N4:=aG c1';subst N4;have hne:y1.esize≠0:=by
       intro e0;rw[e0]at c3;simp at c3
      obtain⟨ie,zz,hd,hie,EH,hsz,FC,QQ,hze⟩:=mA hT hy (aG c2) hne (aG c4);have hcargs:cl.args= #[sx,xx]:=by rw[←fM];exact hargs
      have hctys:cl.argTypes= #[t1,t1]:=by rw[←fM];exact htys
      obtain⟨ax,cc,rfl,hnl,hrd⟩:=hx;have hnb:(n+m)*y1.ebytes≤140737488355328:=by
       have:=aW hn hb;omega
      have adh:xs≠ []:=by
       rintro rfl;have:0<n*y1.esize:=g8 hn0 (by omega);simp at N7;omega
      refine W.own (fun v' iE Δ=>∃g cap cur,n+m≤cap∧cap≤maxLen∧cur.length=cap*y1.esize∧cur.take ((n+m)*y1.esize)=xs++news∧v'=.slice (some ⟨g,0,none⟩) (n+m) cap∧iE=(g,cur)::own∧Δ=[]) he (fun I w hdo hh hoa hnod p_=>?_) ?_
      ·rw[hown]at hoa hnod;have hexec:∀v' w',(Builtin.append_ #[t1,t1] o.type #[.slice ao n n,.slice ax m cc]).run P w=.ok v' w'→(execOp c'.s.rho o).run P w=.ok (.value v') w':=by
        intro v' w' hr;simp[execOp,hop,resolve,invoke,builtin,hcal,hcargs,hctys,cC ha,cC hbv,hr]
       obtain⟨ad,rfl,hrd2⟩:=hrd hm;have wy:=hrd2 I w hdo hh hoa;obtain⟨b0,BV,rfl,h2,h3⟩:=hrp.p hh adh;obtain⟨v',w',hrun,hw,wv⟩:=run_append_arg_grows (P:=P) w t1 o.type y1.elem ie zz y1.esize y1.ebytes hd hie EH hsz FC QQ (by omega) ⟨b0,BV,none⟩ n n xs N7 (fun j u hj=>by
        rw[gI];exact h3 j u hj) ad m cc news hnl wy (by omega) (by unfold maxLen;omega) hnb
       obtain⟨_,hw⟩:=hw;rcases hw with⟨_,h0⟩|⟨g,cap,cur,rfl,hge,ZD,hnc,hcm,hcs,htk⟩
       ·omega
       ·have FJ:∀b cs,(b,cs)∈own→b<w.heap.size:=fun b cs hb=>by
         obtain⟨_,_,hc⟩:=hoa b cs hb;exact cj hc
        refine⟨_,(g,cur.toList)::own,[],w',_,hexec _ _ hrun,.inl rfl,⟨g,cap,cur.toList,hnc,hcm,by simpa using hcs,by simpa using htk,rfl,rfl,rfl⟩,fun q _ JA=>⟨wv.os,wv.tape,wv.output,wv.size,fun k hk=>wv.block k (by omega) (by simp)⟩,wv.size,fun k hk _=>wv.block k hk (by simp),fun b cs hb=>?_,fun b cs hb=>?_,?_,aE.nil _ _⟩
        ·rcases List.mem_cons.1 hb with hb|hb
         ·injection hb with h1' h2';subst h1' h2';exact⟨y1.elem,by simpa using c5,by simpa using ZD⟩
         ·obtain⟨e,he',hc⟩:=hoa b cs hb;exact⟨e,he',by rw[wv.block b (FJ b cs hb) (by simp)];exact hc⟩
        ·rcases List.mem_cons.1 hb with hb|hb
         ·injection hb with h1' h2';subst h1';exact .inr hge
         ·exact .inl ⟨cs,by rw[hown];exact hb⟩
        ·rw[cA,j4];refine⟨fun ly=>?_,hnod⟩;obtain⟨⟨b,cs⟩,h1,h2⟩:=List.mem_map.1 ly;have:=FJ b cs h1;simp only at h2;omega
      ·rintro v' iE Δ ⟨g,cap,cur,h1,h2,h3,h4,rfl,rfl,rfl⟩;exact hk g cap cur h1 h2 h3 h4
    ·simp at h
   ·simp at h
  ·simp at h
 ·simp at h
end
section
variable{Γ:List aC}{L M:Nat}
theorem Uq(u:Sl)(d:Bool)(v:Sl)(e:Bool)(B:Nat)(Q:Qw){x y:Int}{k:Rat}{K:Nat} [aY (ZF u d) (L,x) Γ] [aY (ZF v e) (M,y) Γ] [aY (d_ B) [.slice Q.n.ao Q.n.n Q.n.c,.bool Q.a,.slice Q.m.ao Q.m.n Q.m.c,.bool Q.b] Γ] [aY (QG Q) (K,k) Γ](hL:L≤9∧M≤9∧K≤31:=by omega):
  aw tb Tryz.prog 242 [zv u d,zv v e,.pointer (some ⟨B,0,none⟩)] Γ (fun w Δ=>∃a b:Qw,w=.agg #[.slice none 0 0,.bool false,.slice none 0 0,.bool false,.slice a.n.ao a.n.n a.n.c,.bool a.a,.slice a.m.ao a.m.n a.m.c,.bool a.b,.slice b.n.ao b.n.n b.n.c,.bool b.a,.slice b.m.ao b.m.n b.m.c,.bool b.b,.slice none 0 0,.bool false,.slice none 0 0,.bool false]∧Δ=[QG a (45,k*(x:Rat)),QG b (45,k*(y:Rat))]):=by
 refine aw.of_W az Tryz.func242 rfl ?_;refine jh [] B 0 [.slice Q.n.ao Q.n.n Q.n.c,.bool Q.a,.slice Q.m.ao Q.m.n Q.m.c,.bool Q.b] az rfl ?_;refine jh [] B 0 [.slice Q.n.ao Q.n.n Q.n.c,.bool Q.a,.slice Q.m.ao Q.m.n Q.m.c,.bool Q.b] az rfl ?_;refine aq [] (cg u d) ?_;rintro _ _ ⟨n3,a3,m3,b3,rfl,rfl⟩;refine aq [] (bN Q.n Q.a Q.m Q.b n3 a3 m3 b3) ?_;rintro _ _ ⟨n4,a4,m4,b4,rfl,rfl⟩;refine aq [] (cg v e) ?_;rintro _ _ ⟨n5,a5,m5,b5,rfl,rfl⟩;refine aq [] (bN Q.n Q.a Q.m Q.b n5 a5 m5 b5) ?_;rintro _ _ ⟨n6,a6,m6,b6,rfl,rfl⟩;exact W.r [] (.agg #[.slice none 0 0,.bool false,.slice none 0 0,.bool false,.slice n4.ao n4.n n4.c,.bool a4,.slice m4.ao m4.n m4.c,.bool b4,.slice n6.ao n6.n n6.c,.bool a6,.slice m6.ao m6.n m6.c,.bool b6,.slice none 0 0,.bool false,.slice none 0 0,.bool false]) ⟨⟨n4,a4,m4,b4⟩,⟨n6,a6,m6,b6⟩,rfl,rfl⟩ (lM (Δ:=[_]) (Δ':=[_]) (jY (by omega) rfl) (jY (by omega) rfl))
theorem uu(p d e:Dp)(hq:Qw){h:Rat} [aY (QG hq) (L,h) Γ](hp:ig 2147483648 p)(hd:ig 4294967296 d)(he:ig 4294967296 e)(hx:p8 (eN d) e≠0)(hL:L≤5:=by omega):
  aw tb Tryz.prog 190 [dv p,dv d,dv e,qv hq.n hq.a hq.m hq.b] Γ (vr 130 (fY p d e h).1 (fY p d e h).2):=by
 refine aw.of_W az Tryz.func190 rfl ?_;refine aq [] (CU d hd) ?_;rintro _ _ ⟨u1,d1,rfl,rfl⟩;refine aq [] (CU e he) ?_;rintro _ _ ⟨u2,d2,rfl,rfl⟩;refine aq [] (IB d e hd he) ?_;rintro _ _ ⟨u3,d3,rfl,rfl⟩;refine aq [] (wS d hd) ?_;rintro _ _ ⟨rfl,rfl⟩;refine aq [] (IB (eN d) e hd.left he) ?_;rintro _ _ ⟨u5,d5,rfl,rfl⟩;refine aq [] (lV u5 d5 u5 d5) ?_;rintro _ _ ⟨u6,d6,rfl,rfl⟩;refine aq [] (cg u6 d6) ?_;rintro _ _ ⟨n7,a7,m7,b7,rfl,rfl⟩;refine aq [] (rC hq.n hq.a hq.m hq.b n7 a7 m7 b7 ?_) ?_
 ·intro e0;rw[show(0:Rat)=((0:Int):Rat)from rfl,Rat.intCast_inj]at e0;exact(j3 hx hx) e0
 rintro _ _ ⟨n8,a8,m8,b8,rfl,rfl⟩;refine W.revp 13 [.slice n8.ao n8.n n8.c,.bool a8,.slice m8.ao m8.n m8.c,.bool b8] (fun B=>?_);refine aq [] (wS d hd) ?_;rintro _ _ ⟨rfl,rfl⟩;refine aq [] (rE u3 d3) ?_;rintro _ _ ⟨BC,d10,rfl,rfl⟩;refine aq [] (Uq u2 d2 BC d10 B ⟨n8,a8,m8,b8⟩) ?_;rintro _ _ ⟨qa,qb,rfl,rfl⟩;refine aq [] (wS e he) ?_;rintro _ _ ⟨rfl,rfl⟩;refine aq [] (rE u3 d3) ?_;rintro _ _ ⟨u13,d13,rfl,rfl⟩;refine aq [] (Uq u13 d13 u1 d1 B ⟨n8,a8,m8,b8⟩) ?_;rintro _ _ ⟨qc,qd,rfl,rfl⟩;refine cQ [] 2 (xY (eN d) bV qa qb bV++xY (eN e) bV qc qd bV) az (fun B2=>?_);refine gX [] (kN (L':=0)) (oV p u1 d1 u2 d2 B2 (eN d) (eN e) bV qa qb bV bV qc qd bV hp hd.left he.left ⟨vM d,vM e⟩) ?_;rintro _ _ ⟨X,Y,rfl,rfl⟩;exact W.r [] (Bi X Y) ⟨X,Y,rfl,rfl⟩ (lM (Δ:=[_]) (Δ':=[_]) (pG (by omega) rfl) (pG (by omega) rfl))
end
section
variable{T:Tb}{P:Program}{fin:VS→List aC→Prop}{c:fC}{Γ:List aC}
theorem lJ{z n:Nat}{O:List (Nat×List Value)}{v:Value}{xs:List Value}(ho:(dD T 999 c).s.own=O)(hg:cH z O v n xs)
  (hk:∀ao c',v=.slice ao n c'→n≤c'→W T P fin ⟨⟨(dD T 999 c).s.tmps,(dD T 999 c).s.boxes,[],(dD T 999 c).s.maps⟩,(dD T 999 c).k⟩ (RA ao xs::Γ))(hm:dz (dD T 999 c).k=false:=by kernel_rfl):W T P fin c Γ:=by
 refine W.code 999 ?_;obtain⟨hl,hg'⟩:=hg;refine UZ (s:=(dD T 999 c).s) (k:=(dD T 999 c).k) ho ⟨hl,hg'⟩ hm (fun ao c' hv=>hk ao c' hv ?_);rcases hg' with⟨rfl,rfl,rfl⟩|⟨g,cap,cur,rfl,rfl,hnc,_⟩
 ·omega
 ·injection hv with _ _ h3;omega
theorem Qg{cur ys:List Value}{n:Nat}(h:cur.take n=ys):∀(i:Nat) (v:Value),ys[i]? =some v→cur[i]? =some v:=fun i v hv=>by
 rw[←h,dw]at hv;split at hv
 ·exact hv
 ·simp at hv
end
section
variable{Γ:List aC}{L M:Nat}
theorem VH{g:Nat}{cur:List Value}{l:List jt} [h:aY (d_ g) cur Γ](hc:∀(i:Nat) (v:Value),(l.flatMap gd.cells)[i]? =some v→cur[i]? =some v)
  (hf:∀(I:fN) (w:World),br tb I w→aE Γ I w→∀e∈l,(gd.fact 130 e).p I w):∀(I:fN) (w:World),br tb I w→aE Γ I w→aE [OL gd (some ⟨g,0,none⟩) (130,l)] I w:=fun I w hd hh=>
 aE.cons ⟨hf I w hd hh,RA.of_row (h.p hh) hc⟩ (aE.nil _ _)
theorem zm{ao:Option Addr}{xs:List Value}{l:List jt} [h:aY (RA ao) xs Γ]
  (hf:∀(I:fN) (w:World),br tb I w→aE Γ I w→∀e∈l,(gd.fact 130 e).p I w)(hx:xs=l.flatMap gd.cells:=by rfl):∀(I:fN) (w:World),br tb I w→aE Γ I w→aE [OL gd ao (130,l)] I w:=fun I w hd hh=>by
 subst hx;exact aE.cons ⟨hf I w hd hh,h.p hh⟩ (aE.nil _ _)
theorem J0(d:Dp)(x y:Int)(hx:x=d.x)(hy:y=d.y)(n:Sl)(a:Bool)(m:Sl)(b:Bool){q:Rat} [aY (QF n a m b) (L,q) Γ](hd:ig 4294967296 d)(h0:ke d≠0)(hL:L≤1000:=by omega):
  aw tb Tryz.prog 239 [.agg #[.int .i64 x,.int .i64 y],qv n a m b] Γ (fun v Δ=>∃Q:Qw,v=.agg (xY ⟨x,y⟩ bV Q bV bV).toArray∧Δ=[QG Q (L+14,(ju d q).b)]):=by
 subst hx hy;exact tE d n a m b hd h0
theorem Pq(d:Dp)(x y:Int)(hx:x=d.x)(hy:y=d.y)(n:Sl)(a:Bool)(m:Sl)(b:Bool){q:Rat} [aY (QF n a m b) (L,q) Γ](hd:ig 4294967296 d)(h0:ke d≠0)(hL:L≤1000:=by omega):
  aw tb Tryz.prog 240 [.agg #[.int .i64 x,.int .i64 y],qv n a m b] Γ (fun v Δ=>∃Q:Qw,v=.agg (xY ⟨x,y⟩ bV bV bV Q).toArray∧Δ=[QG Q (L+16,(lg d q).e)]):=by
 subst hx hy;exact zy d n a m b hd h0
theorem W8(p d:Dp)(hq bq:Qw){h b:Rat}{L1:Nat} [aY (QG hq) (L,h) Γ] [aY (QG bq) (L1,b) Γ](hp:ig 2147483648 p)(hd:ig 4294967296 d)(h0:ke d≠0)(hL:L≤5∧L1≤5:=by omega):
  aw tb Tryz.prog 189 [dv p,dv d,qv hq.n hq.a hq.m hq.b,qv bq.n bq.a bq.m bq.b,.bool false] Γ (US (lY p d h b false)):=by
 have h0l:ke (eN d)≠0:=by rw[G5];exact h0
 have h0r:ke (iz d)≠0:=by rw[Db];exact h0
 have hz:0≤ke d∧(0:Int)≤2:=⟨vM d,by decide⟩;have hwr:IntKind.i64.wrap (0-d.x)= -d.x:=by unfold ig at hd;rw[af];omega
 have NZ:(⟨d.y,IntKind.i64.wrap (0-d.x)⟩:Dp)=iz d:=by rw[hwr];rfl
 have Yf:ig 4294967296 ⟨d.y,IntKind.i64.wrap (0-d.x)⟩:=by rw[NZ];exact hd.right
 refine aw.of_W az Tryz.func189 rfl ?_;refine aq [] (CU d hd) ?_;rintro _ _ ⟨u1,d1,rfl,rfl⟩;refine aq [] (cU 2 (by omega) (by omega)) ?_;rintro _ _ ⟨u2,d2,rfl,rfl⟩;refine aq [] (wS d hd) ?_;rintro _ _ ⟨rfl,rfl⟩;refine aq [] (tE d bq.n bq.a bq.m bq.b hd h0) ?_;rintro _ _ ⟨Q1,rfl,rfl⟩;refine aq [] (tE (eN d) hq.n hq.a hq.m hq.b hd.left h0l) ?_;rintro _ _ ⟨Q2,rfl,rfl⟩;refine cQ [] 2 (xY d bV Q1 bV bV++xY (eN d) bV Q2 bV bV) az (fun B1=>?_);refine gX [] (kN (L':=0)) (oV p u1 d1 u2 d2 B1 d (eN d) bV Q1 bV bV bV Q2 bV bV hp hd hd.left hz) ?_;rintro _ _ ⟨X1,Y1,rfl,rfl⟩;refine cQ [] 1 (iX X1++iX Y1) az (fun C1=>?_);refine W.code 999 ?_;refine W.more (by kernel_rfl) (TN (b:=C1) (xs:=(iX X1++iX Y1)) (fun _ _ h=>h)) ?_;refine aq [39] (tE d bq.n bq.a bq.m bq.b hd h0) ?_;rintro _ _ ⟨Q3,rfl,rfl⟩;refine aq [] (J0 (iz d) d.y (IntKind.i64.wrap (0-d.x)) rfl hwr hq.n hq.a hq.m hq.b hd.right h0r) ?_;rintro _ _ ⟨Q4,rfl,rfl⟩;refine cQ [] 2 (xY d bV Q3 bV bV++xY ⟨d.y,IntKind.i64.wrap (0-d.x)⟩ bV Q4 bV bV) az (fun B5=>?_);refine gX [] (kN (L':=0)) (oV p u1 d1 u2 d2 B5 d ⟨d.y,IntKind.i64.wrap (0-d.x)⟩ bV Q3 bV bV bV Q4 bV bV hp hd Yf hz) ?_;rintro _ _ ⟨X5,Y5,rfl,rfl⟩;refine cQ [] 1 (iX X5++iX Y5) az (fun C5=>?_);refine Mv [] [] 40 640 1 1 (some ⟨C1,0,none⟩) (.slice (some ⟨C5,0,none⟩) 1 1) (iX X1++iX Y1) (iX X5++iX Y5) az rfl (by decide) (by decide) (b_ C5 [] 1 40 rfl 1) (by decide) (by decide) (fun g cap cur h1 h2 h3 h4=>?_)
 refine Ds [] [] g cur ?_;refine W.r [] (.slice (some ⟨g,0,none⟩) (1+1) cap) ⟨some ⟨g,0,none⟩,cap,[⟨X1,Y1,(al (ke d) 2 p [ju d b,ju (eN d) h]).1,(al (ke d) 2 p [ju d b,ju (eN d) h]).2⟩,⟨X5,Y5,(al (ke d) 2 p [ju d b,⟨⟨d.y,IntKind.i64.wrap (0-d.x)⟩,0,(ju (iz d) h).b,0,0⟩]).1,(al (ke d) 2 p [ju d b,⟨⟨d.y,IntKind.i64.wrap (0-d.x)⟩,0,(ju (iz d) h).b,0,0⟩]).2⟩],rfl,h1,by rw[NZ];rfl,rfl⟩ (VH (g:=g) (Qg h4) (fun I w hd hh e he=>?_));simp only[aH,aI,bU]at he;rcases he with rfl|rfl
 ·exact⟨aY.p (k:=SF X1) (a:=(130,_)) inferInstance hh,aY.p (k:=SF Y1) (a:=(130,_)) inferInstance hh⟩
 ·exact⟨aY.p (k:=SF X5) (a:=(130,_)) inferInstance hh,aY.p (k:=SF Y5) (a:=(130,_)) inferInstance hh⟩
theorem W_(p d:Dp)(hq bq:Qw){h b:Rat}{L1:Nat} [aY (QG hq) (L,h) Γ] [aY (QG bq) (L1,b) Γ](hp:ig 2147483648 p)(hd:ig 4294967296 d)(h0:ke d≠0)(hL:L≤5∧L1≤5:=by omega):
  aw tb Tryz.prog 189 [dv p,dv d,qv hq.n hq.a hq.m hq.b,qv bq.n bq.a bq.m bq.b,.bool true] Γ (US (lY p d h b true)):=by
 have h0l:ke (eN d)≠0:=by rw[G5];exact h0
 have h0r:ke (iz d)≠0:=by rw[Db];exact h0
 have hz:0≤ke d∧(0:Int)≤2:=⟨vM d,by decide⟩;have hwr:IntKind.i64.wrap (0-d.x)= -d.x:=by unfold ig at hd;rw[af];omega
 have NZ:(⟨d.y,IntKind.i64.wrap (0-d.x)⟩:Dp)=iz d:=by rw[hwr];rfl
 have Yf:ig 4294967296 ⟨d.y,IntKind.i64.wrap (0-d.x)⟩:=by rw[NZ];exact hd.right
 refine aw.of_W az Tryz.func189 rfl ?_;refine aq [] (CU d hd) ?_;rintro _ _ ⟨u1,d1,rfl,rfl⟩;refine aq [] (cU 2 (by omega) (by omega)) ?_;rintro _ _ ⟨u2,d2,rfl,rfl⟩;refine aq [] (wS d hd) ?_;rintro _ _ ⟨rfl,rfl⟩;refine aq [] (tE d bq.n bq.a bq.m bq.b hd h0) ?_;rintro _ _ ⟨Q1,rfl,rfl⟩;refine aq [] (tE (eN d) hq.n hq.a hq.m hq.b hd.left h0l) ?_;rintro _ _ ⟨Q2,rfl,rfl⟩;refine cQ [] 2 (xY d bV Q1 bV bV++xY (eN d) bV Q2 bV bV) az (fun B1=>?_);refine gX [] (kN (L':=0)) (oV p u1 d1 u2 d2 B1 d (eN d) bV Q1 bV bV bV Q2 bV bV hp hd hd.left hz) ?_;rintro _ _ ⟨X1,Y1,rfl,rfl⟩;refine cQ [] 1 (iX X1++iX Y1) az (fun C1=>?_);refine W.code 999 ?_;refine W.more (by kernel_rfl) (TN (b:=C1) (xs:=(iX X1++iX Y1)) (fun _ _ h=>h)) ?_;refine aq [39] (zy d hq.n hq.a hq.m hq.b hd h0) ?_;rintro _ _ ⟨Q3,rfl,rfl⟩;refine aq [] (zy (eN d) hq.n hq.a hq.m hq.b hd.left h0l) ?_;rintro _ _ ⟨Q4,rfl,rfl⟩;refine cQ [] 2 (xY d bV bV bV Q3++xY (eN d) bV bV bV Q4) az (fun B2=>?_);refine gX [] (kN (L':=0)) (oV p u1 d1 u2 d2 B2 d (eN d) bV bV bV Q3 bV bV bV Q4 hp hd hd.left hz) ?_;rintro _ _ ⟨X2,Y2,rfl,rfl⟩;refine aq [] (tE d hq.n hq.a hq.m hq.b hd h0) ?_;rintro _ _ ⟨Q5,rfl,rfl⟩;refine cQ [] 1 (xY d bV Q5 bV bV) az (fun B3=>?_);refine gX [] (kN (L':=0)) (OV p u1 d1 u2 d2 B3 d bV Q5 bV bV hp hd hz) ?_
 rintro _ _ ⟨X3,Y3,rfl,rfl⟩;refine aq [] (zy d hq.n hq.a hq.m hq.b hd h0) ?_;rintro _ _ ⟨Q6,rfl,rfl⟩;refine aq [] (Pq (iz d) d.y (IntKind.i64.wrap (0-d.x)) rfl hwr hq.n hq.a hq.m hq.b hd.right h0r) ?_;rintro _ _ ⟨Q7,rfl,rfl⟩;refine cQ [] 2 (xY d bV bV bV Q6++xY ⟨d.y,IntKind.i64.wrap (0-d.x)⟩ bV bV bV Q7) az (fun B4=>?_);refine gX [] (kN (L':=0)) (oV p u1 d1 u2 d2 B4 d ⟨d.y,IntKind.i64.wrap (0-d.x)⟩ bV bV bV Q6 bV bV bV Q7 hp hd Yf hz) ?_;rintro _ _ ⟨X4,Y4,rfl,rfl⟩;refine cQ [] 3 ((iX X2++iX Y2)++(iX X3++iX Y3)++(iX X4++iX Y4)) az (fun C2=>?_);refine Mv [] [] 40 640 1 3 (some ⟨C1,0,none⟩) (.slice (some ⟨C2,0,none⟩) 3 3) (iX X1++iX Y1) ((iX X2++iX Y2)++(iX X3++iX Y3)++(iX X4++iX Y4)) az rfl (by decide) (by decide) (b_ C2 [] 3 40 rfl 3) (by decide) (by decide) (fun g cap cur h1 h2 h3 h4=>?_);refine aq [] (tE d bq.n bq.a bq.m bq.b hd h0) ?_;rintro _ _ ⟨Q8,rfl,rfl⟩;refine aq [] (J0 (iz d) d.y (IntKind.i64.wrap (0-d.x)) rfl hwr hq.n hq.a hq.m hq.b hd.right h0r) ?_;rintro _ _ ⟨Q9,rfl,rfl⟩;refine cQ [] 2 (xY d bV Q8 bV bV++xY ⟨d.y,IntKind.i64.wrap (0-d.x)⟩ bV Q9 bV bV) az (fun B5=>?_);refine gX [] (kN (L':=0)) (oV p u1 d1 u2 d2 B5 d ⟨d.y,IntKind.i64.wrap (0-d.x)⟩ bV Q8 bV bV bV Q9 bV bV hp hd Yf hz) ?_;rintro _ _ ⟨X5,Y5,rfl,rfl⟩;refine cQ [] 1 (iX X5++iX Y5) az (fun C5=>?_)
 refine W.app [] [(g,cur)] [] [(g,cur)] [] 40 640 (1+3) 1 (.slice (some ⟨g,0,none⟩) (1+3) cap) (.slice (some ⟨C5,0,none⟩) 1 1) ((iX X1++iX Y1)++((iX X2++iX Y2)++(iX X3++iX Y3)++(iX X4++iX Y4))) (iX X5++iX Y5) az rfl ⟨rfl,.inr ⟨g,cap,cur,rfl,rfl,h1,h2,h3,h4⟩⟩ (b_ C5 [(g,cur)] 1 40 rfl 1) (o0 ⟨X5,Y5,⟨0,0,0,0,0,0⟩,⟨0,0,0,0,0,0⟩⟩) (by decide) (by decide) (fun v' O' hg=>?_);refine lJ (by simp only[aB,ah];kernel_rfl) hg (fun ao c' hv hc'=>?_);subst hv;refine W.r [] (.slice ao (1+3+1) c') ⟨ao,c',[⟨X1,Y1,(al (ke d) 2 p [ju d b,ju (eN d) h]).1,(al (ke d) 2 p [ju d b,ju (eN d) h]).2⟩,⟨X2,Y2,(al (ke d) 2 p [lg d h,lg (eN d) h]).1,(al (ke d) 2 p [lg d h,lg (eN d) h]).2⟩,⟨X3,Y3,(al (ke d) 2 p [ju d h]).1,(al (ke d) 2 p [ju d h]).2⟩,⟨X4,Y4,(al (ke d) 2 p [lg d h,⟨⟨d.y,IntKind.i64.wrap (0-d.x)⟩,0,0,0,(lg (iz d) h).e⟩]).1,(al (ke d) 2 p [lg d h,⟨⟨d.y,IntKind.i64.wrap (0-d.x)⟩,0,0,0,(lg (iz d) h).e⟩]).2⟩,⟨X5,Y5,(al (ke d) 2 p [ju d b,⟨⟨d.y,IntKind.i64.wrap (0-d.x)⟩,0,(ju (iz d) h).b,0,0⟩]).1,(al (ke d) 2 p [ju d b,⟨⟨d.y,IntKind.i64.wrap (0-d.x)⟩,0,(ju (iz d) h).b,0,0⟩]).2⟩],rfl,hc',by rw[NZ];rfl,rfl⟩ (zm (fun I w hd hh e he=>?_));simp only[aH,aI,bU]at he;rcases he with rfl|rfl|rfl|rfl|rfl
 ·exact⟨aY.p (k:=SF X1) (a:=(130,_)) inferInstance hh,aY.p (k:=SF Y1) (a:=(130,_)) inferInstance hh⟩
 ·exact⟨aY.p (k:=SF X2) (a:=(130,_)) inferInstance hh,aY.p (k:=SF Y2) (a:=(130,_)) inferInstance hh⟩
 ·exact⟨aY.p (k:=SF X3) (a:=(130,_)) inferInstance hh,aY.p (k:=SF Y3) (a:=(130,_)) inferInstance hh⟩
 ·exact⟨aY.p (k:=SF X4) (a:=(130,_)) inferInstance hh,aY.p (k:=SF Y4) (a:=(130,_)) inferInstance hh⟩
 ·exact⟨aY.p (k:=SF X5) (a:=(130,_)) inferInstance hh,aY.p (k:=SF Y5) (a:=(130,_)) inferInstance hh⟩
end
abbrev dY(d:Dp):List Value:=[.int .i64 d.x,.int .i64 d.y]
theorem p9(d:Dp):∀u∈dY d,u.oneCell'=true:=by
 intro u hu;simp only[aH,aI,bU]at hu;rcases hu with rfl|rfl<;>rfl
theorem oJ:∀l:List Dp,(l.flatMap dY).length=l.length*2
 | []=>rfl
 |d::r=>by rw[bL,aA,oJ r];simp;omega
theorem Nh{l:List Dp}:∀{k:Nat} (h:k<l.length) {j:Nat} {v:Value},(dY (l[k]'h))[j]? =some v→(l.flatMap dY)[k*2+j]? =some v:=by
 induction l with
 |nil=>intro k h;simp at h
 |cons e r ih=>
  intro k h j v hv;have hj:j<2:=(List.getElem?_eq_some_iff.1 hv).1;cases k with
  |zero=>
   rw[bL,dk (by simp;omega),show 0*2+j=j by omega];exact hv
  |succ k=>
   rw[bL,eQ (by simp;omega),show(k+1)*2+j-(dY e).length=k*2+j by simp;omega];exact ih (by simpa using h) hv
theorem mM(l:List Dp)(d:Dp):(d::l).reverse.flatMap dY=l.reverse.flatMap dY++dY d:=by
 rw[List.reverse_cons,bB];simp
theorem zk{cur:List Value}{l:Dp}{r:List Dp}(h:cur.take ((r.length+1)*2)=(l::r).reverse.flatMap dY):(cur.drop (r.length*2)).take 2=dY l:=by
 have h1:(cur.take ((r.length+1)*2)).drop (r.length*2)=dY l:=by
  rw[h,mM,List.drop_append_of_le_length (by rw[oJ];simp),bp (by rw[oJ];simp)];rfl
 rw[List.drop_take,show(r.length+1)*2-r.length*2=2 by omega]at h1;exact h1
theorem Ni{cur:List Value}{l:Dp}{r:List Dp}(h:cur.take ((r.length+1)*2)=(l::r).reverse.flatMap dY):cur.take (r.length*2)=r.reverse.flatMap dY:=by
 have h1:(cur.take ((r.length+1)*2)).take (r.length*2)=cur.take (r.length*2):=by rw[List.take_take,fm (by omega)]
 rw[←h1,h,mM,List.take_append_of_le_length (by rw[oJ];simp),aS (by rw[oJ];simp)]
def Sf(P:Program)(t:TypeId):Bool:=(match P.underlying t with|some (.struct _)=>true|_=>false)&& !P.stoodInHeld t&&(match(P.fieldsOf t).toList with
 | [f,g]=>f.name != "_" &&g.name != "_" &&Nat.beq f.offset 0&&Nat.beq g.offset 1&&(match P.underlying f.type with|some (.int _)=>true|_=>false)&&(match P.underlying g.type with|some (.int _)=>true|_=>false)
 |_=>false)
theorem C6{P:Program}(w:World)(t:TypeId)(h:Sf P t=true)(a b c d:Int):
  (Op.equal t (.agg #[.int .i64 a,.int .i64 b]) (.agg #[.int .i64 c,.int .i64 d])).run P w=.ok (a==c&&b==d) w:=by
 unfold Sf at h;simp only[aL]at h;obtain⟨⟨h1,h2⟩,h3⟩:=h;have ht:P.underlying t=some (.struct (P.fieldsOf t)):=by
  unfold Program.fieldsOf;cases hu:P.underlying t with
  |none=>rw[hu]at h1;simp at h1
  |some u=>
   rw[hu]at h1;cases u<;>simp at h1⊢
 have hp:P.stoodInHeld t=false:=by simpa using h2
 show(Op.equalIn (9999+1) t _ _).run P w=_;rw[run_equalIn_agg w 9999 t _ _ ht hp];split at h3
 ·rename_i f g hfg;rw[hfg];simp only[aL,bne_iff_ne,ne_eq]at h3;obtain⟨⟨⟨⟨⟨n1,n2⟩,o1⟩,o2⟩,u1⟩,u2⟩:=h3;have o1':=aG o1;have o2':=aG o2;obtain⟨k1,hk1⟩:∃k,P.underlying f.type=some (.int k):=by
   cases hu:P.underlying f.type with
   |none=>rw[hu]at u1;simp at u1
   |some u=>rw[hu]at u1;cases u<;>simp at u1⊢
  obtain⟨k2,hk2⟩:∃k,P.underlying g.type=some (.int k):=by
   cases hu:P.underlying g.type with
   |none=>rw[hu]at u2;simp at u2
   |some u=>rw[hu]at u2;cases u<;>simp at u2⊢
  have e1:=run_equalIn_int (P:=P) w 9998 f.type .i64 k1 a c hk1;have e2:=run_equalIn_int (P:=P) w 9998 g.type .i64 k2 b d hk2;have p1:∀(x y:Value),(part f.type #[x,y] 0).run P w=.ok x w:=fun x y=>by simp[part,kD hk1,ET]
  have p2:∀(x y:Value),(part g.type #[x,y] 1).run P w=.ok y w:=fun x y=>by simp[part,kD hk2,ET]
  simp only[Op.eqFields,n1,n2,ne_eq,not_false_eq_true,eX,o1',o2',cw,p1,p2,bu,e1,Sem.run_ite,dL,e2];cases(a==c)<;>cases(b==d)<;>rfl
 ·simp at h3
theorem MN(l p:Dp):(l.x==p.x&&l.y==p.y)=decide (l=p):=by
 by_cases h:l=p
 ·subst h;simp
 ·rw[ai h];rw[qT];by_cases hx:l.x=p.x
  ·right;simp only[eL];exact fun hy=>h (Dp.eq_iff.2 ⟨hx,hy⟩)
  ·left;simpa using hx
def PT(e:Ev):Option (TypeId×Value×Value):=
 match e with
 | .read o c=>match o.op with
  | .binOp .neq t x y _=>match c.s.ev x,c.s.ev y with
   | .val a,.val b=>some (t,a,b)
   |_,_=>none
  |_=>none
 |_=>none
theorem cH.own{z:Nat}{O:List (Nat×List Value)}{v:Value}{n:Nat}{xs:List Value}(h:cH z O v n xs)(hn:0<n):∃g cap cur,v=.slice (some ⟨g,0,none⟩) n cap∧O=[(g,cur)]∧n≤cap∧cap≤maxLen∧cur.length=cap*z∧cur.take (n*z)=xs:=by
 rcases h.2 with⟨_,h0,_⟩|h
 ·omega
 ·exact h
theorem cH.zero{z:Nat}{O:List (Nat×List Value)}{v:Value}{xs:List Value}(h:cH z O v 0 xs):∃ao c,v=.slice ao 0 c:=by
 rcases h.2 with⟨rfl,_,_⟩|⟨g,cap,cur,rfl,_⟩
 ·exact⟨none,0,rfl⟩
 ·exact⟨_,_,rfl⟩
theorem cH.cast{z:Nat}{O:List (Nat×List Value)}{v:Value}{n n':Nat}{xs xs':List Value}(hx:xs=xs')(hn:n=n')(h:cH z O v n xs):cH z O v n' xs':=by
 subst hx hn;exact h
theorem Ak:∀(fW:List Dp) (s:List Dp×List Dp) {Q:Dp→Prop},(∀q∈s.1,q∈fW∨Q q)→∀q∈(fW.foldl push s).1,q∈fW∨Q q
 | [],s,Q,h,q,hq=>h q hq
 |p::r,s,Q,h,q,hq=>by
  have:=Ak r (push s p) (Q:=fun q=>q=p∨Q q) (fun q hq=>?_) q hq
  ·rcases this with h1|h1|h1
   ·exact .inl (cN _ h1)
   ·exact .inl (by rw[h1];exact oA)
   ·exact .inr h1
  ·have hin:q=p∨q∈s.1:=by
    obtain⟨R,w⟩:=s
    match R with
    | []=>simp only[push,aH,aI,bU]at hq;exact .inl hq
    |l::r'=>
     simp only[push]at hq;split at hq
     ·exact .inr hq
     ·split at hq
      ·rcases List.mem_cons.1 hq with h1|h1
       ·exact .inl h1
       ·exact .inr (cN _ h1)
      ·rcases List.mem_cons.1 hq with h1|h1
       ·exact .inl h1
       ·exact .inr h1
   rcases hin with h1|h1
   ·exact .inr (.inl h1)
   ·rcases h q h1 with h2|h2
    ·rcases List.mem_cons.1 h2 with h3|h3
     ·exact .inr (.inl h3)
     ·exact .inl h3
    ·exact .inr (.inr h2)
theorem Aj:∀(fW:List Dp) (s:List Dp×List Dp),(fW.foldl push s).1.length≤s.1.length+fW.length
 | [],s=>by simp
 |p::r,s=>by
  have h1:=Aj r (push s p);have h2:(push s p).1.length≤s.1.length+1:=by
   obtain⟨R,w⟩:=s
   match R with
   | []=>simp[push]
   |l::r'=>
    simp only[push];split
    ·simp
    ·split<;>simp
  simp only[nY,aD];omega
structure CSt where
 i:Nat
 z:Int
 vo:Value
 vw:Value
 Oo:List (Nat×List Value)
 Ow:List (Nat×List Value)
 R:List Dp
 W:List Dp
section
variable{T:Tb}{P:Program}{fin:VS→List aC→Prop}{c:fC}{Γ:List aC}
theorem EP(D:List Nat)(t:TypeId)(l p:Dp)
  (hk:W T P fin (fZ (aK T (aZ T D 999 c)) (.bool (decide (l=p)))) Γ)(h:PN (aK T (aZ T D 999 c))=some (t,dv l,dv p):=by kernel_rfl)(hg:P.eqGuardType P.depth t=false:=by kernel_rfl)(ho:Sf P t=true:=by kernel_rfl):W T P fin c Γ:=by
 refine eg D 999 ?_;generalize aZ T D 999 c=c1 at*;unfold PN at h;split at h
 ·rename_i o c' he;rw[he]at hk;split at h
  ·rename_i ty u v yt hop;split at h
   ·rename_i a b ha hb;simp only[au,aF]at h;obtain⟨rfl,rfl,rfl⟩:=h;refine W.read _ he (.any ?_) hk;intro w;have hr:=C6 w ty ho l.x l.y p.x p.y;rw[MN]at hr;simp[execOp,hop,cC ha,cC hb,eqGuard,binOp,hr,hg]
   ·simp at h
  ·simp at h
 ·simp at h
theorem MA(D:List Nat)(t:TypeId)(l p:Dp)
  (hk:W T P fin (fZ (aK T (aZ T D 999 c)) (.bool (!decide (l=p)))) Γ)(h:PT (aK T (aZ T D 999 c))=some (t,dv l,dv p):=by kernel_rfl)(hg:P.eqGuardType P.depth t=false:=by kernel_rfl)(ho:Sf P t=true:=by kernel_rfl):W T P fin c Γ:=by
 refine eg D 999 ?_;generalize aZ T D 999 c=c1 at*;unfold PT at h;split at h
 ·rename_i o c' he;rw[he]at hk;split at h
  ·rename_i ty u v yt hop;split at h
   ·rename_i a b ha hb;simp only[au,aF]at h;obtain⟨rfl,rfl,rfl⟩:=h;refine W.read _ he (.any ?_) hk;intro w;have hr:=C6 w ty ho l.x l.y p.x p.y;rw[MN]at hr;simp[execOp,hop,cC ha,cC hb,eqGuard,binOp,hr,hg]
   ·simp at h
  ·simp at h
 ·simp at h
theorem Tm(D:List Nat)(z b r len cap:Nat)(y:Int)(hy:y=r)(hT:T.Ok P)(hrs:r≤cap)(h0:0<cap)
  (hk:W T P fin (fZ (aK T (aZ T D 999 c)) (.slice (some ⟨b,0,none⟩) r cap)) Γ)(h:zC T (aK T (aZ T D 999 c))=some (z,.slice (some ⟨b,0,none⟩) len cap,none,some (.int .i64 y)):=by kernel_rfl):W T P fin c Γ:=by
 subst hy;refine Cc D z b 0 len cap none (some (.int .i64 (r:Int))) 0 r hT (h:=h) (.inr ⟨rfl,rfl⟩) (.inl rfl) (aJ _) hrs h0 ?_;rw[mU,Nat.sub_zero,Nat.sub_zero];exact hk
theorem ed(b off:Nat){xs:List Value} [h:aY (RA (some ⟨b,off,none⟩)) xs Γ](k:Nat){cs:List Value}(hv:∀(j:Nat) (v:Value),cs[j]? =some v→xs[k+j]? =some v):∀I w,br T I w→aE Γ I w→∀j v,cs[j]? =some v→w.cell? ⟨b,off+k+j,none⟩=some v:=fun I w _ hh j v hj=>by
 rw[gN];exact RA.cell (h.p hh) (hv j v hj)
theorem oL{ao:Option Addr}{xs:List Value} [h:aY (RA ao) xs Γ]:∀I w,br T I w→aE Γ I w→aE [RA ao xs] I w:=fun I w _ hh=>aE.cons (h.p hh) (aE.nil _ _)
theorem I8{s:VS}{k:List It}{z n:Nat}{O1 O2:List (Nat×List Value)}{v:Value}{xs:List Value}(hs:s.own=O1++O2)(hg:cH z O1 v n xs)(hm:dz k=false)
  (hk:∀ao c,v=.slice ao n c→W T P fin ⟨⟨s.tmps,s.boxes,O2,s.maps⟩,k⟩ (RA ao xs::Γ)):W T P fin ⟨s,k⟩ Γ:=by
 obtain⟨hl,hg⟩:=hg;rcases hg with⟨rfl,rfl,rfl⟩|⟨g,cap,cur,rfl,rfl,hnc,hcm,hcs,htk⟩
 ·obtain rfl:xs=[]:=aM (by simpa using hl);obtain⟨tm,bx,ow⟩:=s;simp only[aB]at hs;subst hs;exact W.elim (α:=Unit) (fun _=>True) (fun _=>[RA none []]) hm (fun I w _ hh=>⟨(),trivial,aU (RA.nil _ _ _)⟩) (fun _ _=>hk none 0 rfl)
 ·refine W.pub (O1:=[]) (O2:=O2) (b:=g) (cs:=cur) hm hs ?_;refine W.elim (α:=Unit) (fun _=>True) (fun _=>[RA (some ⟨g,0,none⟩) xs]) hm (fun I w _ hh=>⟨(),trivial,aU (RA.of_row hh.h0' fun i v hv=>?_)⟩) (fun _ _=>?_)
  ·rw[←htk,dw]at hv;split at hv
   ·exact hv
   ·simp at hv
  ·refine W.sub hm (fun I w _ hh=>?_) (hk _ _ rfl);exact aE.cons hh.h0' (fun F hF=>hh F (by simp[hF]))
end
section
variable{Γ:List aC}{L M:Nat}
theorem LB(ao:Option Addr)(n c:Nat)(fW:List Dp) [aY (RA ao) (fW.flatMap dY) Γ](hn:n=fW.length)(hn2:n≤8191)(hb:∀p∈fW,ig 2147483648 p):
  aw tb Tryz.prog 188 [.slice ao n c] Γ (fun v Δ=>∃(a1 a2:Option Addr) (c1 c2:Nat),v=.tuple #[.slice a1 (iv fW).1.length c1,.slice a2 (iv fW).2.length c2]∧Δ=[RA a1 ((iv fW).1.reverse.flatMap dY),RA a2 ((iv fW).2.reverse.flatMap dY)]):=by
 refine aw.of_W az Tryz.func188 rfl ?_;refine gO [] [4,5,12] (fun a:CSt=>[(4,a.vo),(5,a.vw),(12,.int .i64 a.z)]) (fun _=>[]) (fun a=>a.Oo++a.Ow) (fun _=>[RA ao (fW.flatMap dY)]) (fun a=>a.z=a.i∧a.i≤n∧(a.R,a.W)=iv (fW.take a.i)∧cH 2 a.Oo a.vo a.R.length (a.R.reverse.flatMap dY)∧cH 2 a.Ow a.vw a.W.length (a.W.reverse.flatMap dY)) (fun a=>n-a.i) ⟨0,0,.slice none 0 0,.slice none 0 0,[],[],[],[]⟩ ⟨rfl,aJ _,rfl,cH.nil 2,cH.nil 2⟩ oL ?_;rintro⟨i,z,vo,vw,Oo,Ow,R,U⟩ K ⟨hz,hi,QD,uZ,H9⟩ close;simp only at hz hi QD uZ H9;by_cases hlt:i<n
 rotate_left
 ·have hin:i=n:=by omega
  have fI:fW.take i=fW:=aS (by omega);rw[fI]at QD;rw[←QD];refine I8 (O1:=Oo) (O2:=Ow) rfl uZ rfl (fun a1 c1 h1=>?_);refine I8 (O1:=Ow) (O2:=[]) (ah _).symm H9 rfl (fun a2 c2 h2=>?_);subst h1 h2;refine aR [] 13 (decide (z<(n:Int))) (ai (by omega)) ?_;exact W.r [13] (.tuple #[.slice a1 R.length c1,.slice a2 U.length c2]) ⟨a1,a2,c1,c2,rfl,rfl⟩ (lM (Δ:=[_]) (Δ':=[_]) oL oL)
 have hil:i<fW.length:=by omega
 have hstep:iv (fW.take (i+1))=push (R,U) (fW[i]'hil):=by
  rw[QD,List.take_succ_eq_append_getElem hil];simp only[iv,List.foldl_append,nY,List.foldl_nil]
 have hok:jU R U:=by
  have:=zf (fW.take i) ([],[]) rfl;rw[show(fW.take i).foldl push ([],[])=(R,U)from QD.symm]at this;exact this
 have hlen:=hok.len;have hpb:=hb _ (dS hil);have TP:∀q∈R,ig 2147483648 q:=fun q hq=>by
  have:=Ak (fW.take i) ([],[]) (Q:=fun _=>False) (fun q hq=>absurd hq (by simp)) q (by rw[show(fW.take i).foldl push ([],[])=(R,U)from QD.symm];exact hq);exact hb q (eZ (by simpa using this))
 have TQ:R.length≤i:=by
  have:=Aj (fW.take i) ([],[]);rw[show(fW.take i).foldl push ([],[])=(R,U)from QD.symm]at this;simp only[bh,dE]at this;omega
 have hz1:IntKind.i64.wrap (z+1)=((i+1:Nat):Int):=by rw[af];omega
 have H0:∀(j:Nat) (v:Value),(dY (fW[i]'hil))[j]? =some v→(fW.flatMap dY)[i*2+j]? =some v:=fun j v hv=>Nh hil hv;generalize hp:fW[i]'hil=p at*;refine Hs ao rfl (by intro e;have:=oJ fW;rw[e]at this;simp at this;omega) (fun ba of e=>?_);subst e;refine bk [] 13 (decide (z<(n:Int))) (ar (by omega)) ?_;refine bY [13] 2 ba of n c .i64 i z hz az hlt ?_;refine cY [] ba (of+i*2) (dY p) az (ed ba of (i*2) H0) ?_
 match R,U,hok,hlen,uZ,H9,TP,TQ,QD,hstep with
 | [],U,hok,hlen,uZ,H9,TP,TQ,QD,hstep=>
  obtain rfl:U=[]:=hok;rcases uZ.zero with⟨ao0,co0,rfl⟩;refine jP [] 3 ?_;refine aR [] 19 (decide (((0:Nat):Int)>0)) (by decide) ?_;refine cQ [19] 1 (dY p) az (fun b2=>?_);refine W.app [] (Oo++Ow) [] Oo Ow 2 16 0 1 (.slice ao0 0 co0) (.slice (some ⟨b2,0,none⟩) 1 1) [] (dY p) az (by simp) uZ (b_ b2 (Oo++Ow) 1 2 rfl 1) (p9 _) (by omega) (by decide) (fun S3 Rd sA=>?_);refine close [] _ _ ⟨i+1,IntKind.i64.wrap (z+1),S3,vw,Rd,Ow,[p],[]⟩ (by kernel_rfl) (by simp only[aB,ah];kernel_rfl) ⟨hz1,hlt,by rw[hstep];rfl,sA,H9⟩ (by simp only;omega) oL
 |l::r,U,hok,hlen,uZ,H9,TP,TQ,QD,hstep=>
  have hlb:=TP l (by simp);have hN:(l::r).length=r.length+1:=rfl;rw[hN]at uZ TQ;obtain⟨g1,k1,jX,rfl,rfl,hk1,hm1,hl1,ht1⟩:=uZ.own (by omega);have hlast:=zk ht1;have NW:=Ni ht1;refine jP [] 3 ?_;refine bk [] 19 (decide (((r.length+1:Nat):Int)>0)) (ar (by omega)) ?_;refine bY [19] 2 g1 0 (r.length+1) k1 .i64 r.length (IntKind.i64.wrap (((r.length+1:Nat):Int)-1)) (by rw[af];omega) az (by omega) ?_;refine vW [] ([(g1,jX)]++Ow) g1 (0+r.length*2) 2 jX (dY l) az (by simp) (by rw[cu];exact hlast) rfl ?_;refine EP [] 58 l p ?_;by_cases TX:l=p
  ·refine bk [] 28 (decide (l=p)) (ar TX) ?_;refine close [28] _ _ ⟨i+1,IntKind.i64.wrap (z+1),.slice (some ⟨g1,0,none⟩) (r.length+1) k1,vw,[(g1,jX)],Ow,l::r,U⟩ (by kernel_rfl) (by kernel_rfl) ⟨hz1,hlt,?_,uZ,H9⟩ (by simp only;omega) oL;rw[hstep];simp only[push,if_pos TX]
  refine aR [] 28 (decide (l=p)) (ai TX) ?_;refine bY [28] 2 g1 0 (r.length+1) k1 .i64 r.length (IntKind.i64.wrap (((r.length+1:Nat):Int)-1)) (by rw[af];omega) az (by omega) ?_;refine vW [] ([(g1,jX)]++Ow) g1 (0+r.length*2) 2 jX (dY l) az (by simp) (by rw[cu];exact hlast) rfl ?_;refine aq [] (CQ l p hlb hpb TX) ?_;rintro _ _ ⟨rfl,rfl⟩
  match r,U,hok,hlen,uZ,H9,hk1,ht1,NW,TP,TQ,hstep with
  | [],U,hok,hlen,uZ,H9,hk1,ht1,NW,TP,TQ,hstep=>
   obtain rfl:U=[]:=hok;rcases H9.zero with⟨aw0,cw0,rfl⟩;refine bk [] 38 (decide (((([]:List Dp).length+1:Nat):Int)<2)) (by decide) ?_;refine cQ [46,38] 1 (dY (gh l p)) az (fun b1=>?_);refine W.app [] ([(g1,jX)]++Ow) [(g1,jX)] Ow [] 2 16 0 1 (.slice aw0 0 cw0) (.slice (some ⟨b1,0,none⟩) 1 1) [] (dY (gh l p)) az (by simp) H9 (b_ b1 ([(g1,jX)]++Ow) 1 2 rfl 1) (p9 _) (by omega) (by decide) (fun XH Dm RR=>?_);refine cQ [] 1 (dY p) az (fun b2=>?_);refine W.app [] ([(g1,jX)]++Dm++[]) [] [(g1,jX)] (Dm++[]) 2 16 (([]:List Dp).length+1) 1 (.slice (some ⟨g1,0,none⟩) (([]:List Dp).length+1) k1) (.slice (some ⟨b2,0,none⟩) 1 1) ([l].reverse.flatMap dY) (dY p) az (by simp) uZ (b_ b2 ([(g1,jX)]++Dm++[]) 1 2 rfl 1) (p9 _) (by omega) (by decide) (fun S3 Rd sA=>?_);refine close [] _ _ ⟨i+1,IntKind.i64.wrap (z+1),S3,XH,Rd,Dm,p::[l],[gh l p]⟩ (by kernel_rfl) (by simp only[aB,ah];kernel_rfl) ⟨hz1,hlt,?_,cH.cast (mM _ _).symm rfl sA,cH.cast (mM _ _).symm rfl RR⟩ (by simp only;omega) oL;rw[hstep];simp only[push,if_neg TX,List.head?_nil,reduceCtorEq,dW]
  |a::r2,U,⟨d,v,hW,BR,hd,hv,Ia⟩,hlen,uZ,H9,hk1,ht1,NW,TP,TQ,hstep=>
   subst hW;have hab:=TP a (by simp);have RH:r2.length+2≤i:=TQ;have hll:(a::r2).length=r2.length+1:=rfl;have FI:v.length=r2.length:=by simp at hlen;omega
   rw[show(d::v).length=v.length+1 from rfl]at H9;obtain⟨g2,k2,sW,rfl,rfl,hk2,hm2,hl2,T4⟩:=H9.own (by omega);have V4:=zk T4;have FK:=Ni T4;refine aR [] 38 (decide ((((a::r2).length+1:Nat):Int)<2)) (ai (by simp only[aD];omega)) ?_;refine bY [38] 2 g2 0 (v.length+1) k2 .i64 v.length (IntKind.i64.wrap ((((a::r2).length+1:Nat):Int)-2)) (by simp only[aD,af];omega) az (by omega) ?_;refine vW [38] ([(g1,jX)]++[(g2,sW)]) g2 (0+v.length*2) 2 sW (dY d) az (by simp) (by rw[cu];exact V4) rfl ?_;refine MA [38] 282 d (gh l p) ?_;by_cases VP:d=gh l p
   rotate_left
   ·refine bk [38] 46 (!decide (d=gh l p)) (by rw[ai VP];rfl) ?_;refine cQ [46] 1 (dY (gh l p)) az (fun b1=>?_);refine W.app [] ([(g1,jX)]++[(g2,sW)]) [(g1,jX)] [(g2,sW)] [] 2 16 (v.length+1) 1 (.slice (some ⟨g2,0,none⟩) (v.length+1) k2) (.slice (some ⟨b1,0,none⟩) 1 1) ((d::v).reverse.flatMap dY) (dY (gh l p)) az (by simp) H9 (b_ b1 ([(g1,jX)]++[(g2,sW)]) 1 2 rfl 1) (p9 _) (by omega) (by decide) (fun XH Dm RR=>?_);refine cQ [] 1 (dY p) az (fun b2=>?_);refine W.app [] ([(g1,jX)]++Dm++[]) [] [(g1,jX)] (Dm++[]) 2 16 ((a::r2).length+1) 1 (.slice (some ⟨g1,0,none⟩) ((a::r2).length+1) k1) (.slice (some ⟨b2,0,none⟩) 1 1) ((l::a::r2).reverse.flatMap dY) (dY p) az (by simp) uZ (b_ b2 ([(g1,jX)]++Dm++[]) 1 2 rfl 1) (p9 _) (by omega) (by decide) (fun S3 Rd sA=>?_);refine close [] _ _ ⟨i+1,IntKind.i64.wrap (z+1),S3,XH,Rd,Dm,p::l::a::r2,gh l p::d::v⟩ (by kernel_rfl) (by simp only[aB,ah];kernel_rfl) ⟨hz1,hlt,?_,cH.cast (mM _ _).symm rfl sA,cH.cast (mM _ _).symm rfl RR⟩ (by simp only;omega) oL;rw[hstep];simp only[push,if_neg TX,nZ,au,if_neg VP]
   have hj:=jU.back (l:=l) (a:=a) (r:=r2) (w:=d::v) ⟨d,v,rfl,BR,hd,hv,Ia⟩ TX (by rw[nZ,VP]);obtain⟨hap,Z5,_⟩:=hj;have NN:cH 2 [(g1,jX)] (.slice (some ⟨g1,0,none⟩) (a::r2).length k1) (a::r2).length ((a::r2).reverse.flatMap dY):=⟨by rw[oJ];simp,.inr ⟨g1,k1,jX,rfl,rfl,by omega,hm1,hl1,NW⟩⟩;have NO:cH 2 [(g2,sW)] (.slice (some ⟨g2,0,none⟩) v.length k2) v.length (v.reverse.flatMap dY):=⟨by rw[oJ];simp,.inr ⟨g2,k2,sW,rfl,rfl,by omega,hm2,hl2,FK⟩⟩;have NR:=zk NW;refine aR [38] 46 (!decide (d=gh l p)) (by rw[ar VP];rfl) ?_;refine Tm [46] 2 g1 (a::r2).length ((a::r2).length+1) k1 (IntKind.i64.wrap ((((a::r2).length+1:Nat):Int)-1)) (by simp only[aD,af];omega) az (by omega) (by omega) ?_;refine Tm [] 2 g2 v.length (v.length+1) k2 (IntKind.i64.wrap ((((a::r2).length+1:Nat):Int)-2)) (by simp only[aD,af];omega) az (by omega) (by omega) ?_;refine bk [] 19 (decide ((((a::r2).length:Nat):Int)>0)) (ar (by simp only[aD];omega)) ?_;refine bY [19] 2 g1 0 (a::r2).length k1 .i64 r2.length (IntKind.i64.wrap ((((a::r2).length:Nat):Int)-1)) (by simp only[aD,af];omega) az (by simp only[aD];omega) ?_;refine vW [] ([(g1,jX)]++[(g2,sW)]) g1 (0+r2.length*2) 2 jX (dY a) az (by simp) (by rw[cu];exact NR) rfl ?_
   refine EP [] 58 a p ?_;refine aR [] 28 (decide (a=p)) (ai hap) ?_;refine bY [28] 2 g1 0 (a::r2).length k1 .i64 r2.length (IntKind.i64.wrap ((((a::r2).length:Nat):Int)-1)) (by simp only[aD,af];omega) az (by simp only[aD];omega) ?_;refine vW [] ([(g1,jX)]++[(g2,sW)]) g1 (0+r2.length*2) 2 jX (dY a) az (by simp) (by rw[cu];exact NR) rfl ?_;refine aq [] (CQ a p hab hpb hap) ?_;rintro _ _ ⟨rfl,rfl⟩;have hend:push (l::a::r2,d::v) p=(p::a::r2,gh a p::v):=by
    simp only[push,if_neg TX,nZ,au,if_pos VP];rw[Z5,VP]
   match r2,v,FI,NN,NO,Ia,FK,hl2,T4,hv,hend,RH,hstep with
   | [],v,FI,NN,NO,Ia,FK,hl2,T4,hv,hend,RH,hstep=>
    obtain rfl:v=[]:=aM FI;refine bk [] 38 (decide ((([a].length:Nat):Int)<2)) (ar (by simp)) ?_;refine cQ [46,38] 1 (dY (gh a p)) az (fun b1=>?_);refine W.app [] ([(g1,jX)]++[(g2,sW)]) [(g1,jX)] [(g2,sW)] [] 2 16 0 1 (.slice (some ⟨g2,0,none⟩) 0 k2) (.slice (some ⟨b1,0,none⟩) 1 1) [] (dY (gh a p)) az (by simp) NO (b_ b1 ([(g1,jX)]++[(g2,sW)]) 1 2 rfl 1) (p9 _) (by omega) (by decide) (fun XH Dm RR=>?_);refine cQ [] 1 (dY p) az (fun b2=>?_);refine W.app [] ([(g1,jX)]++Dm++[]) [] [(g1,jX)] (Dm++[]) 2 16 [a].length 1 (.slice (some ⟨g1,0,none⟩) [a].length k1) (.slice (some ⟨b2,0,none⟩) 1 1) ([a].reverse.flatMap dY) (dY p) az (by simp) NN (b_ b2 ([(g1,jX)]++Dm++[]) 1 2 rfl 1) (p9 _) (by omega) (by decide) (fun S3 Rd sA=>?_);refine close [] _ _ ⟨i+1,IntKind.i64.wrap (z+1),S3,XH,Rd,Dm,p::[a],[gh a p]⟩ (by kernel_rfl) (by simp only[aB,ah];kernel_rfl) ⟨hz1,hlt,?_,cH.cast (mM _ _).symm rfl sA,cH.cast (mM _ _).symm rfl RR⟩ (by simp only;omega) oL;rw[hstep];rw[hend]
   |a3::r3,v,FI,NN,NO,⟨d3,v3,hv3,_⟩,FK,hl2,T4,hv,hend,RH,hstep=>
    subst hv3;have V5:=zk FK;have ac1:d3≠gh a p:=fun e=>by
     rw[Z5,←VP]at e;exact hv (by rw[nZ,e])
    simp only[aD]at FI;have hR3:r3.length+3≤i:=RH;have hl3:(a::a3::r3).length=r3.length+2:=rfl;have Yd:(d3::v3).length=v3.length+1:=rfl;refine aR [] 38 (decide ((((a::a3::r3).length:Nat):Int)<2)) (ai (by simp only[aD];omega)) ?_;refine bY [38] 2 g2 0 (d3::v3).length k2 .i64 v3.length (IntKind.i64.wrap ((((a::a3::r3).length:Nat):Int)-2)) (by simp only[aD,af];omega) az (by simp only[aD];omega) ?_;refine vW [38] ([(g1,jX)]++[(g2,sW)]) g2 (0+v3.length*2) 2 sW (dY d3) az (by simp) (by rw[cu];exact V5) rfl ?_;refine MA [38] 282 d3 (gh a p) ?_;refine bk [38] 46 (!decide (d3=gh a p)) (by rw[ai ac1];rfl) ?_;refine cQ [46] 1 (dY (gh a p)) az (fun b1=>?_);refine W.app [] ([(g1,jX)]++[(g2,sW)]) [(g1,jX)] [(g2,sW)] [] 2 16 (d3::v3).length 1 (.slice (some ⟨g2,0,none⟩) (d3::v3).length k2) (.slice (some ⟨b1,0,none⟩) 1 1) ((d3::v3).reverse.flatMap dY) (dY (gh a p)) az (by simp) NO (b_ b1 ([(g1,jX)]++[(g2,sW)]) 1 2 rfl 1) (p9 _) (by omega) (by decide) (fun XH Dm RR=>?_);refine cQ [] 1 (dY p) az (fun b2=>?_);refine W.app [] ([(g1,jX)]++Dm++[]) [] [(g1,jX)] (Dm++[]) 2 16 (a::a3::r3).length 1 (.slice (some ⟨g1,0,none⟩) (a::a3::r3).length k1) (.slice (some ⟨b2,0,none⟩) 1 1) ((a::a3::r3).reverse.flatMap dY) (dY p) az (by simp) NN (b_ b2 ([(g1,jX)]++Dm++[]) 1 2 rfl 1) (p9 _) (by omega) (by decide) (fun S3 Rd sA=>?_)
    refine close [] _ _ ⟨i+1,IntKind.i64.wrap (z+1),S3,XH,Rd,Dm,p::a::a3::r3,gh a p::d3::v3⟩ (by kernel_rfl) (by simp only[aB,ah];kernel_rfl) ⟨hz1,hlt,?_,cH.cast (mM _ _).symm rfl sA,cH.cast (mM _ _).symm rfl RR⟩ (by simp only;omega) oL;rw[hstep];rw[hend]
end
end Go.Proofs.YtgaaopjagcaojaaGreat
