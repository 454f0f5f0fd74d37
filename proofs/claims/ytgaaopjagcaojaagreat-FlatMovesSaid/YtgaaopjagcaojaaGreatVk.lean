import Derived.Test.YtgaaopjagcaojaaGreatOw
import Derived.Laws.StructEq
import Derived.Test.YtgaaopjagcaojaaGreatRc
import Derived.Test.YtgaaopjagcaojaaGreatMaths
import Derived.MapKept
import Derived.ChangeSame
set_option linter.unusedSimpArgs false
set_option linter.unusedVariables false
set_option maxHeartbeats 4000000
namespace Go.Proofs.YtgaaopjagcaojaaGreat
open Go.RowKit Go.IntWalk
def abx(F G:aC):aC where
 p I w:=F.p I w∧G.p I w
 up h h1 h2 h3:=⟨F.up h.1 h1 h2 h3,G.up h.2 h1 h2 h3⟩
abbrev jq(x:Sw):List Value:=[.slice x.u.ao x.u.n x.u.c,.bool x.d,.slice x.v.ao x.v.n x.v.c,.bool x.e,
 .slice x.p.n.ao x.p.n.n x.p.n.c,.bool x.p.a,.slice x.p.m.ao x.p.m.n x.p.m.c,.bool x.p.b,.slice x.q.n.ao x.q.n.n x.q.n.c,.bool x.q.a,.slice x.q.m.ao x.q.m.n x.q.m.c,.bool x.q.b,
 .slice x.r.n.ao x.r.n.n x.r.n.c,.bool x.r.a,.slice x.r.m.ao x.r.m.n x.r.m.c,.bool x.r.b,.slice x.s.n.ao x.s.n.n x.s.n.c,.bool x.s.a,.slice x.s.m.ao x.s.m.n x.s.m.c,.bool x.s.b]
structure j4 where
 x:Sw
 y:Sw
 X:Sn
 Y:Sn
def gH:kV j4 where
 z:=40
 cells e:=jq e.x++jq e.y
 len _:=rfl
 fact L e:=abx (SF e.x (L,e.X)) (SF e.y (L,e.Y))
def j4.num(e:j4):Sn×Sn:=(e.X,e.Y)
theorem qK(e:j4):∀u∈gH.cells e,u.oneCell'=true:=by
 intro u hu;simp only[gH,eA,aF,aJ,b_]at hu;rcases hu with hu|hu<;>(rcases hu with rfl|rfl|rfl|rfl|rfl|rfl|rfl|rfl|rfl|rfl|rfl|rfl|rfl|rfl|rfl|rfl|rfl|rfl|rfl|rfl<;>rfl)
def VD(l0:List (Sn×Sn))(v:Value)(Δ:List aC):Prop:=∃(ao:Option Addr) (c:Nat) (l:List j4),v=.slice ao l.length c∧l.length≤c∧l.map j4.num=l0∧Δ=[OL gH ao (130,l)]
theorem wz(d:Dp):0≤kA d:=by
 unfold kA;have h1:0≤d.x*d.x:=by rcases Int.le_total 0 d.x with h|h;exact eZ h h;exact jR h h
 have h2:0≤d.y*d.y:=by rcases Int.le_total 0 d.y with h|h;exact eZ h h;exact jR h h
 omega
theorem HZ(d:Dp):kA (eY d)=kA d:=by
 unfold kA eY;simp only[s8];omega
theorem DO(d:Dp):kA (iS d)=kA d:=by
 unfold kA iS;simp only[s8];omega
theorem iL.left{B:Int}{d:Dp}(h:iL B d):iL B (eY d):=by unfold iL eY at*;simp only;omega
theorem iL.right{B:Int}{d:Dp}(h:iL B d):iL B (iS d):=by unfold iL iS at*;simp only;omega
theorem iL.neg{B:Int}{d:Dp}(h:iL B d):iL B (jw d):=by unfold iL jw at*;simp only;omega
section
variable{T:Tb}{P:Program}{fin:VS→List aC→Prop}{c:fF}{Γ:List aC}
theorem Nm(D:List Nat)(own:List (Nat×List Value))(z bytes n m:Nat)(ao:Option Addr)(x:Value)(xs news:List Value)(hT:T.Ok P)
   [hrp:aZ (RA ao) xs Γ](OT:xs.length=n*z)(hx:pY T Γ own x m z news)
  
  (hk:∀g cap cur,n+m≤cap→cap≤maxLen→cur.length=cap*z→cur.take ((n+m)*z)=xs++news→W T P fin (mA (aE T (aV T D 999 c)) ((g,cur)::own) (.slice (some ⟨g,0,none⟩) (n+m) cap)) Γ)(h:oR T (aE T (aV T D 999 c))=some (own,z,bytes,.slice ao n n,x):=by kernel_rfl)(hn0:0<n:=by decide)(hm:0<m:=by decide)(hn:n+m≤1000000:=by decide)(hb:bytes≤100000000:=by decide):W T P fin c Γ:=by
 refine ez D 999 ?_;generalize aV T D 999 c=c1 at*;unfold oR at h;split at h
 ·rename_i o c' he;rw[he]at hk;split at h
  ·rename_i cl hop;split at h
   ·rename_i sx xx t1 t2 hcal hargs htys;split at h
    ·rename_i a b y1 ha hbv hy;cases hc:(Nat.beq t1 t2&&(Nat.beq y1.kind 3&&(!Nat.beq y1.esize 0&&(Nat.beq y1.ezero.length y1.esize&& !T.dat y1.elem))))with
     |false=>simp[hc]at h
     |true=>
      simp only[hc,bZ,aq,aG]at h;obtain⟨hown,rfl,rfl,rfl,rfl⟩:=h;simp only[aK,cF]at hc;obtain⟨c1',c2,c3,c4,c5⟩:=hc;have OP:=aI c1';subst OP;have hne:y1.esize≠0:=by
       intro e0;rw[e0]at c3;simp at c3
      obtain⟨ie,zz,hd,hie,Fl,hsz,Gl,RG,hze⟩:=nf hT hy (aI c2) hne (aI c4);have hcargs:cl.args= #[sx,xx]:=by rw[←fB];exact hargs
      have hctys:cl.argTypes= #[t1,t1]:=by rw[←fB];exact htys
      obtain⟨ax,cc,rfl,hnl,hrd⟩:=hx;have hnb:(n+m)*y1.ebytes≤140737488355328:=by
       have:=aX hn hb;omega
      have ac4:xs≠ []:=by
       rintro rfl;have:0<n*y1.esize:=iw hn0 (by omega);simp at OT;omega
      refine W.own (fun v' iX Δ=>∃g cap cur,n+m≤cap∧cap≤maxLen∧cur.length=cap*y1.esize∧cur.take ((n+m)*y1.esize)=xs++news∧v'=.slice (some ⟨g,0,none⟩) (n+m) cap∧iX=(g,cur)::own∧Δ=[]) he (fun I w hdo hh hoa hnod hno=>?_) ?_
      ·rw[hown]at hoa hnod;have hexec:∀v' w',(Builtin.append_ #[t1,t1] o.type #[.slice ao n n,.slice ax m cc]).run P w=.ok v' w'→(execOp c'.s.rho o).run P w=.ok (.value v') w':=by
        intro v' w' hr;simp[execOp,hop,resolve,invoke,builtin,hcal,hcargs,hctys,cE ha,cE hbv,hr]
       obtain⟨ad,rfl,hrd2⟩:=hrd hm;have xa:=hrd2 I w hdo hh hoa;obtain⟨b0,CA,rfl,h2,h3⟩:=hrp.p hh ac4;obtain⟨v',w',hrun,hw,w_⟩:=run_append_arg_grows (P:=P) w t1 o.type y1.elem ie zz y1.esize y1.ebytes hd hie Fl hsz Gl RG (by omega) ⟨b0,CA,none⟩ n n xs OT (fun j u hj=>by
        rw[gZ];exact h3 j u hj) ad m cc news hnl xa (by omega) (by unfold maxLen;omega) hnb
       obtain⟨_,hw⟩:=hw;rcases hw with⟨_,h0⟩|⟨g,cap,cur,rfl,hge,ZZ,hnc,hcm,hcs,htk⟩
       ·omega
       ·have Gt:∀b cs,(b,cs)∈own→b<w.heap.size:=fun b cs hb=>by
         obtain⟨_,_,hc⟩:=hoa b cs hb;exact cw hc
        refine⟨_,(g,cur.toList)::own,[],w',_,hexec _ _ hrun,.inl rfl,⟨g,cap,cur.toList,hnc,hcm,by simpa using hcs,by simpa using htk,rfl,rfl,rfl⟩,fun q _ Ku=>⟨w_.os,w_.tape,w_.output,w_.size,fun k hk=>w_.block k (by omega) (by simp)⟩,w_.size,fun k hk _=>w_.block k hk (by simp),fun b cs hb=>?_,fun b cs hb=>?_,?_,aD.nil _ _⟩
        ·rcases List.mem_cons.1 hb with hb|hb
         ·injection hb with h1' h2';subst h1' h2';exact⟨y1.elem,by simpa using c5,by simpa using ZZ⟩
         ·obtain⟨e,he',hc⟩:=hoa b cs hb;exact⟨e,he',by rw[w_.block b (Gt b cs hb) (by simp)];exact hc⟩
        ·rcases List.mem_cons.1 hb with hb|hb
         ·injection hb with h1' h2';subst h1';exact .inr hge
         ·exact .inl ⟨cs,by rw[hown];exact hb⟩
        ·rw[bQ,km];refine⟨fun lV=>?_,hnod⟩;obtain⟨⟨b,cs⟩,h1,h2⟩:=List.mem_map.1 lV;have:=Gt b cs h1;simp only at h2;omega
      ·rintro v' iX Δ ⟨g,cap,cur,h1,h2,h3,h4,rfl,rfl,rfl⟩;exact hk g cap cur h1 h2 h3 h4
    ·simp at h
   ·simp at h
  ·simp at h
 ·simp at h
end
section
variable{Γ:List aC}{L M:Nat}
theorem Vc(u:Sl)(d:Bool)(v:Sl)(e:Bool)(B:Nat)(Q:Qw){x y:Int}{k:Rat}{K:Nat} [aZ (ZF u d) (L,x) Γ] [aZ (ZF v e) (M,y) Γ] [aZ (eT B) [.slice Q.n.ao Q.n.n Q.n.c,.bool Q.a,.slice Q.m.ao Q.m.n Q.m.c,.bool Q.b] Γ] [aZ (QG Q) (K,k) Γ](hL:L≤9∧M≤9∧K≤31:=by omega):
  aw tb Tryz.prog 242 [zv u d,zv v e,.pointer (some ⟨B,0,none⟩)] Γ (fun w Δ=>∃a b:Qw,w=.agg #[.slice none 0 0,.bool false,.slice none 0 0,.bool false,.slice a.n.ao a.n.n a.n.c,.bool a.a,.slice a.m.ao a.m.n a.m.c,.bool a.b,.slice b.n.ao b.n.n b.n.c,.bool b.a,.slice b.m.ao b.m.n b.m.c,.bool b.b,.slice none 0 0,.bool false,.slice none 0 0,.bool false]∧Δ=[QG a (45,k*(x:Rat)),QG b (45,k*(y:Rat))]):=by
 refine aw.of_W au Tryz.func242 rfl (jE [] B 0 [.slice Q.n.ao Q.n.n Q.n.c,.bool Q.a,.slice Q.m.ao Q.m.n Q.m.c,.bool Q.b] au rfl (jE [] B 0 [.slice Q.n.ao Q.n.n Q.n.c,.bool Q.a,.slice Q.m.ao Q.m.n Q.m.c,.bool Q.b] au rfl (bz [] (cD u d) (fun n3 a3 m3 b3=>bz [] (bY Q.n Q.a Q.m Q.b n3 a3 m3 b3) (fun n4 a4 m4 b4=>bz [] (cD v e) (fun n5 a5 m5 b5=>bz [] (bY Q.n Q.a Q.m Q.b n5 a5 m5 b5) (fun n6 a6 m6 b6=>W.r [] (.agg #[.slice none 0 0,.bool false,.slice none 0 0,.bool false,.slice n4.ao n4.n n4.c,.bool a4,.slice m4.ao m4.n m4.c,.bool b4,.slice n6.ao n6.n n6.c,.bool a6,.slice m6.ao m6.n m6.c,.bool b6,.slice none 0 0,.bool false,.slice none 0 0,.bool false]) ⟨⟨n4,a4,m4,b4⟩,⟨n6,a6,m6,b6⟩,rfl,rfl⟩ (mh (Δ:=[_]) (Δ':=[_]) (pq rfl) (pq rfl)))))))))
theorem u_(p d e:Dp)(hq:Qw){h:Rat} [aZ (QG hq) (L,h) Γ](hp:iL 2147483648 p)(hd:iL 4294967296 d)(he:iL 4294967296 e)(hx:qF (eY d) e≠0)(hL:L≤5:=by omega):
  aw tb Tryz.prog 190 [dv p,dv d,dv e,qv hq.n hq.a hq.m hq.b] Γ (vU 130 (gn p d e h).1 (gn p d e h).2):=by
 refine aw.of_W au Tryz.func190 rfl (bR [] (Dy d hd) (fun u1 d1=>bR [] (Dy e he) (fun u2 d2=>bR [] (Jw d e hd he) (fun u3 d3=>W.c0 [] (xD d hd) (bR [] (Jw (eY d) e hd.left he) (fun u5 d5=>bR [] (mz u5 d5 u5 d5) (fun u6 d6=>bz [] (cD u6 d6) (fun n7 a7 m7 b7=>jD [] (Jv hq.n hq.a hq.m hq.b n7 a7 m7 b7 (hb:=?_)) ?_))))))))
 ·intro e0;rw[show(0:Rat)=((0:Int):Rat)from rfl,Rat.intCast_inj]at e0;exact(kj hx hx) e0
 rintro _ _ ⟨n8,a8,m8,b8,rfl,rfl⟩;refine W.revp 13 [.slice n8.ao n8.n n8.c,.bool a8,.slice m8.ao m8.n m8.c,.bool b8] (fun B=>W.c0 [] (xD d hd) (bR [] (se u3 d3) (fun u10 d10=>bR [] (Vc u2 d2 u10 d10 B ⟨n8,a8,m8,b8⟩) (fun qa qb=>W.c0 [] (xD e he) (bR [] (se u3 d3) (fun u13 d13=>bR [] (Vc u13 d13 u1 d1 B ⟨n8,a8,m8,b8⟩) (fun qc qd=>cW [] 2 (yH (eY d) cf qa qb cf++yH (eY e) cf qc qd cf) au (fun B2=>jT [] (mK (L':=0)) (pI p u1 d1 u2 d2 B2 (eY d) (eY e) cf qa qb cf cf qc qd cf hp hd.left he.left ⟨wz d,wz e⟩) ?_))))))));rintro _ _ ⟨X,Y,rfl,rfl⟩;exact W.r [] (BS X Y) ⟨X,Y,rfl,rfl⟩ (mh (Δ:=[_]) (Δ':=[_]) (p8 (by omega) rfl) (p8 (by omega) rfl))
end
section
variable{T:Tb}{P:Program}{fin:VS→List aC→Prop}{c:fF}{Γ:List aC}
theorem l8{z n:Nat}{O:List (Nat×List Value)}{v:Value}{xs:List Value}(ho:(dN T 999 c).s.own=O)(hg:cH z O v n xs)
  (hk:∀ao c',v=.slice ao n c'→n≤c'→W T P fin ⟨⟨(dN T 999 c).s.tmps,(dN T 999 c).s.boxes,[],(dN T 999 c).s.maps⟩,(dN T 999 c).k⟩ (RA ao xs::Γ))(hm:dF (dN T 999 c).k=false:=by kernel_rfl):W T P fin c Γ:=by
 refine W.code 999 ?_;obtain⟨hl,hg'⟩:=hg;refine VK (s:=(dN T 999 c).s) (k:=(dN T 999 c).k) ho ⟨hl,hg'⟩ hm (fun ao c' hv=>hk ao c' hv ?_);rcases hg' with⟨rfl,rfl,rfl⟩|⟨g,cap,cur,rfl,rfl,hnc,_⟩
 ·omega
 ·injection hv with _ _ h3;omega
theorem Q_{cur ys:List Value}{n:Nat}(h:cur.take n=ys):∀(i:Nat) (v:Value),ys[i]? =some v→cur[i]? =some v:=fun i v hv=>by
 rw[←h,dz]at hv;split at hv
 ·exact hv
 ·simp at hv
end
section
variable{Γ:List aC}{L M:Nat}
theorem Wo{g:Nat}{cur:List Value}{l:List j4} [h:aZ (eT g) cur Γ](hc:∀(i:Nat) (v:Value),(l.flatMap gH.cells)[i]? =some v→cur[i]? =some v)
  (hf:∀(I:gd) (w:World),bj tb I w→aD Γ I w→∀e∈l,(gH.fact 130 e).p I w):∀(I:gd) (w:World),bj tb I w→aD Γ I w→aD [OL gH (some ⟨g,0,none⟩) (130,l)] I w:=fun I w hd hh=>
 aD.cons ⟨hf I w hd hh,RA.of_row (h.p hh) hc⟩ (aD.nil _ _)
theorem zS{ao:Option Addr}{xs:List Value}{l:List j4} [h:aZ (RA ao) xs Γ]
  (hf:∀(I:gd) (w:World),bj tb I w→aD Γ I w→∀e∈l,(gH.fact 130 e).p I w)(hx:xs=l.flatMap gH.cells:=by rfl):∀(I:gd) (w:World),bj tb I w→aD Γ I w→aD [OL gH ao (130,l)] I w:=fun I w hd hh=>by
 subst hx;exact aD.cons ⟨hf I w hd hh,h.p hh⟩ (aD.nil _ _)
theorem KV(d:Dp)(x y:Int)(hx:x=d.x)(hy:y=d.y)(n:Sl)(a:Bool)(m:Sl)(b:Bool){q:Rat} [aZ (QF n a m b) (L,q) Γ](hd:iL 4294967296 d)(h0:kA d≠0)(hL:L≤1000:=by omega):
  aw tb Tryz.prog 239 [.agg #[.int .i64 x,.int .i64 y],qv n a m b] Γ (fun v Δ=>∃Q:Qw,v=.agg (yH ⟨x,y⟩ cf Q cf cf).toArray∧Δ=[QG Q (L+14,(jQ d q).b)]):=by
 subst hx hy;exact tZ d n a m b hd h0
theorem Qe(d:Dp)(x y:Int)(hx:x=d.x)(hy:y=d.y)(n:Sl)(a:Bool)(m:Sl)(b:Bool){q:Rat} [aZ (QF n a m b) (L,q) Γ](hd:iL 4294967296 d)(h0:kA d≠0)(hL:L≤1000:=by omega):
  aw tb Tryz.prog 240 [.agg #[.int .i64 x,.int .i64 y],qv n a m b] Γ (fun v Δ=>∃Q:Qw,v=.agg (yH ⟨x,y⟩ cf cf cf Q).toArray∧Δ=[QG Q (L+16,(lK d q).e)]):=by
 subst hx hy;exact z_ d n a m b hd h0
theorem XG(p d:Dp)(hq bq:Qw){h b:Rat}{L1:Nat} [aZ (QG hq) (L,h) Γ] [aZ (QG bq) (L1,b) Γ](hp:iL 2147483648 p)(hd:iL 4294967296 d)(h0:kA d≠0)(hL:L≤5∧L1≤5:=by omega):
  aw tb Tryz.prog 189 [dv p,dv d,qv hq.n hq.a hq.m hq.b,qv bq.n bq.a bq.m bq.b,.bool false] Γ (VD (mD p d h b false)):=by
 have h0l:kA (eY d)≠0:=by rw[HZ];exact h0
 have h0r:kA (iS d)≠0:=by rw[DO];exact h0
 have hz:0≤kA d∧(0:Int)≤2:=⟨wz d,by decide⟩;have hwr:IntKind.i64.wrap (0-d.x)= -d.x:=by unfold iL at hd;rw[af];omega
 have ON:(⟨d.y,IntKind.i64.wrap (0-d.x)⟩:Dp)=iS d:=by rw[hwr];rfl
 have YG:iL 4294967296 ⟨d.y,IntKind.i64.wrap (0-d.x)⟩:=by rw[ON];exact hd.right
 refine aw.of_W au Tryz.func189 rfl (bR [] (Dy d hd) (fun u1 d1=>bR [] (dW 2) (fun u2 d2=>W.c0 [] (xD d hd) (W.c1 [] (tZ d bq.n bq.a bq.m bq.b hd h0) (fun Q1=>W.c1 [] (tZ (eY d) hq.n hq.a hq.m hq.b hd.left h0l) (fun Q2=>cW [] 2 (yH d cf Q1 cf cf++yH (eY d) cf Q2 cf cf) au (fun B1=>jT [] (mK (L':=0)) (pI p u1 d1 u2 d2 B1 d (eY d) cf Q1 cf cf cf Q2 cf cf hp hd hd.left hz) ?_)))))));rintro _ _ ⟨X1,Y1,rfl,rfl⟩;refine cW [] 1 (jq X1++jq Y1) au (fun C1=>W.code 999 (W.more (by kernel_rfl) (UE (b:=C1) (xs:=(jq X1++jq Y1)) (fun _ _ h=>h)) (W.c1 [39] (tZ d bq.n bq.a bq.m bq.b hd h0) (fun Q3=>W.c1 [] (KV (iS d) d.y (IntKind.i64.wrap (0-d.x)) rfl hwr hq.n hq.a hq.m hq.b hd.right h0r) (fun Q4=>cW [] 2 (yH d cf Q3 cf cf++yH ⟨d.y,IntKind.i64.wrap (0-d.x)⟩ cf Q4 cf cf) au (fun B5=>jT [] (mK (L':=0)) (pI p u1 d1 u2 d2 B5 d ⟨d.y,IntKind.i64.wrap (0-d.x)⟩ cf Q3 cf cf cf Q4 cf cf hp hd YG hz) ?_))))));rintro _ _ ⟨X5,Y5,rfl,rfl⟩;refine cW [] 1 (jq X5++jq Y5) au (fun C5=>Nm [] [] 40 640 1 1 (some ⟨C1,0,none⟩) (.slice (some ⟨C5,0,none⟩) 1 1) (jq X1++jq Y1) (jq X5++jq Y5) au rfl (cg C5 [] 1 40 rfl 1) (fun g cap cur h1 h2 h3 h4=>D7 [] [] g cur ?_))
 refine W.r [] (.slice (some ⟨g,0,none⟩) (1+1) cap) ⟨some ⟨g,0,none⟩,cap,[⟨X1,Y1,(al (kA d) 2 p [jQ d b,jQ (eY d) h]).1,(al (kA d) 2 p [jQ d b,jQ (eY d) h]).2⟩,⟨X5,Y5,(al (kA d) 2 p [jQ d b,⟨⟨d.y,IntKind.i64.wrap (0-d.x)⟩,0,(jQ (iS d) h).b,0,0⟩]).1,(al (kA d) 2 p [jQ d b,⟨⟨d.y,IntKind.i64.wrap (0-d.x)⟩,0,(jQ (iS d) h).b,0,0⟩]).2⟩],rfl,h1,by rw[ON];rfl,rfl⟩ (Wo (g:=g) (Q_ h4) (fun I w hd hh e he=>?_));simp only[aF,aJ,b_]at he;rcases he with rfl|rfl
 ·exact⟨aZ.p (k:=SF X1) (a:=(130,_)) inferInstance hh,aZ.p (k:=SF Y1) (a:=(130,_)) inferInstance hh⟩
 ·exact⟨aZ.p (k:=SF X5) (a:=(130,_)) inferInstance hh,aZ.p (k:=SF Y5) (a:=(130,_)) inferInstance hh⟩
theorem XH(p d:Dp)(hq bq:Qw){h b:Rat}{L1:Nat} [aZ (QG hq) (L,h) Γ] [aZ (QG bq) (L1,b) Γ](hp:iL 2147483648 p)(hd:iL 4294967296 d)(h0:kA d≠0)(hL:L≤5∧L1≤5:=by omega):
  aw tb Tryz.prog 189 [dv p,dv d,qv hq.n hq.a hq.m hq.b,qv bq.n bq.a bq.m bq.b,.bool true] Γ (VD (mD p d h b true)):=by
 have h0l:kA (eY d)≠0:=by rw[HZ];exact h0
 have h0r:kA (iS d)≠0:=by rw[DO];exact h0
 have hz:0≤kA d∧(0:Int)≤2:=⟨wz d,by decide⟩;have hwr:IntKind.i64.wrap (0-d.x)= -d.x:=by unfold iL at hd;rw[af];omega
 have ON:(⟨d.y,IntKind.i64.wrap (0-d.x)⟩:Dp)=iS d:=by rw[hwr];rfl
 have YG:iL 4294967296 ⟨d.y,IntKind.i64.wrap (0-d.x)⟩:=by rw[ON];exact hd.right
 refine aw.of_W au Tryz.func189 rfl (bR [] (Dy d hd) (fun u1 d1=>bR [] (dW 2) (fun u2 d2=>W.c0 [] (xD d hd) (W.c1 [] (tZ d bq.n bq.a bq.m bq.b hd h0) (fun Q1=>W.c1 [] (tZ (eY d) hq.n hq.a hq.m hq.b hd.left h0l) (fun Q2=>cW [] 2 (yH d cf Q1 cf cf++yH (eY d) cf Q2 cf cf) au (fun B1=>jT [] (mK (L':=0)) (pI p u1 d1 u2 d2 B1 d (eY d) cf Q1 cf cf cf Q2 cf cf hp hd hd.left hz) ?_)))))));rintro _ _ ⟨X1,Y1,rfl,rfl⟩;refine cW [] 1 (jq X1++jq Y1) au (fun C1=>W.code 999 (W.more (by kernel_rfl) (UE (b:=C1) (xs:=(jq X1++jq Y1)) (fun _ _ h=>h)) (W.c1 [39] (z_ d hq.n hq.a hq.m hq.b hd h0) (fun Q3=>W.c1 [] (z_ (eY d) hq.n hq.a hq.m hq.b hd.left h0l) (fun Q4=>cW [] 2 (yH d cf cf cf Q3++yH (eY d) cf cf cf Q4) au (fun B2=>jT [] (mK (L':=0)) (pI p u1 d1 u2 d2 B2 d (eY d) cf cf cf Q3 cf cf cf Q4 hp hd hd.left hz) ?_))))));rintro _ _ ⟨X2,Y2,rfl,rfl⟩;refine W.c1 [] (tZ d hq.n hq.a hq.m hq.b hd h0) (fun Q5=>cW [] 1 (yH d cf Q5 cf cf) au (fun B3=>jT [] (mK (L':=0)) (PJ p u1 d1 u2 d2 B3 d cf Q5 cf cf hp hd hz) ?_));rintro _ _ ⟨X3,Y3,rfl,rfl⟩;refine W.c1 [] (z_ d hq.n hq.a hq.m hq.b hd h0) (fun Q6=>W.c1 [] (Qe (iS d) d.y (IntKind.i64.wrap (0-d.x)) rfl hwr hq.n hq.a hq.m hq.b hd.right h0r) (fun Q7=>?_))
 refine cW [] 2 (yH d cf cf cf Q6++yH ⟨d.y,IntKind.i64.wrap (0-d.x)⟩ cf cf cf Q7) au (fun B4=>jT [] (mK (L':=0)) (pI p u1 d1 u2 d2 B4 d ⟨d.y,IntKind.i64.wrap (0-d.x)⟩ cf cf cf Q6 cf cf cf Q7 hp hd YG hz) ?_);rintro _ _ ⟨X4,Y4,rfl,rfl⟩;refine cW [] 3 ((jq X2++jq Y2)++(jq X3++jq Y3)++(jq X4++jq Y4)) au (fun C2=>Nm [] [] 40 640 1 3 (some ⟨C1,0,none⟩) (.slice (some ⟨C2,0,none⟩) 3 3) (jq X1++jq Y1) ((jq X2++jq Y2)++(jq X3++jq Y3)++(jq X4++jq Y4)) au rfl (cg C2 [] 3 40 rfl 3) (fun g cap cur h1 h2 h3 h4=>W.c1 [] (tZ d bq.n bq.a bq.m bq.b hd h0) (fun Q8=>W.c1 [] (KV (iS d) d.y (IntKind.i64.wrap (0-d.x)) rfl hwr hq.n hq.a hq.m hq.b hd.right h0r) (fun Q9=>cW [] 2 (yH d cf Q8 cf cf++yH ⟨d.y,IntKind.i64.wrap (0-d.x)⟩ cf Q9 cf cf) au (fun B5=>jT [] (mK (L':=0)) (pI p u1 d1 u2 d2 B5 d ⟨d.y,IntKind.i64.wrap (0-d.x)⟩ cf Q8 cf cf cf Q9 cf cf hp hd YG hz) ?_)))));rintro _ _ ⟨X5,Y5,rfl,rfl⟩;refine cW [] 1 (jq X5++jq Y5) au (fun C5=>W.app [] [(g,cur)] [] [(g,cur)] [] 40 640 (1+3) 1 (.slice (some ⟨g,0,none⟩) (1+3) cap) (.slice (some ⟨C5,0,none⟩) 1 1) ((jq X1++jq Y1)++((jq X2++jq Y2)++(jq X3++jq Y3)++(jq X4++jq Y4))) (jq X5++jq Y5) au (ho:=rfl) ⟨rfl,.inr ⟨g,cap,cur,rfl,rfl,h1,h2,h3,h4⟩⟩ (cg C5 [(g,cur)] 1 40 rfl 1) (qK ⟨X5,Y5,⟨0,0,0,0,0,0⟩,⟨0,0,0,0,0,0⟩⟩) (hn:=(by decide)) (fun v' O' hg=>?_))
 refine l8 (by simp only[az,ai];kernel_rfl) hg (fun ao c' hv hc'=>?_);subst hv;refine W.r [] (.slice ao (1+3+1) c') ⟨ao,c',[⟨X1,Y1,(al (kA d) 2 p [jQ d b,jQ (eY d) h]).1,(al (kA d) 2 p [jQ d b,jQ (eY d) h]).2⟩,⟨X2,Y2,(al (kA d) 2 p [lK d h,lK (eY d) h]).1,(al (kA d) 2 p [lK d h,lK (eY d) h]).2⟩,⟨X3,Y3,(al (kA d) 2 p [jQ d h]).1,(al (kA d) 2 p [jQ d h]).2⟩,⟨X4,Y4,(al (kA d) 2 p [lK d h,⟨⟨d.y,IntKind.i64.wrap (0-d.x)⟩,0,0,0,(lK (iS d) h).e⟩]).1,(al (kA d) 2 p [lK d h,⟨⟨d.y,IntKind.i64.wrap (0-d.x)⟩,0,0,0,(lK (iS d) h).e⟩]).2⟩,⟨X5,Y5,(al (kA d) 2 p [jQ d b,⟨⟨d.y,IntKind.i64.wrap (0-d.x)⟩,0,(jQ (iS d) h).b,0,0⟩]).1,(al (kA d) 2 p [jQ d b,⟨⟨d.y,IntKind.i64.wrap (0-d.x)⟩,0,(jQ (iS d) h).b,0,0⟩]).2⟩],rfl,hc',by rw[ON];rfl,rfl⟩ (zS (fun I w hd hh e he=>?_));simp only[aF,aJ,b_]at he;rcases he with rfl|rfl|rfl|rfl|rfl
 ·exact⟨aZ.p (k:=SF X1) (a:=(130,_)) inferInstance hh,aZ.p (k:=SF Y1) (a:=(130,_)) inferInstance hh⟩
 ·exact⟨aZ.p (k:=SF X2) (a:=(130,_)) inferInstance hh,aZ.p (k:=SF Y2) (a:=(130,_)) inferInstance hh⟩
 ·exact⟨aZ.p (k:=SF X3) (a:=(130,_)) inferInstance hh,aZ.p (k:=SF Y3) (a:=(130,_)) inferInstance hh⟩
 ·exact⟨aZ.p (k:=SF X4) (a:=(130,_)) inferInstance hh,aZ.p (k:=SF Y4) (a:=(130,_)) inferInstance hh⟩
 ·exact⟨aZ.p (k:=SF X5) (a:=(130,_)) inferInstance hh,aZ.p (k:=SF Y5) (a:=(130,_)) inferInstance hh⟩
end
abbrev ed(d:Dp):List Value:=[.int .i64 d.x,.int .i64 d.y]
theorem qG(d:Dp):∀u∈ed d,u.oneCell'=true:=by
 intro u hu;simp only[aF,aJ,b_]at hu;rcases hu with rfl|rfl<;>rfl
theorem pg:∀l:List Dp,(l.flatMap ed).length=l.length*2
 | []=>rfl
 |d::r=>by rw[bB,aA,pg r];simp;omega
theorem N4{l:List Dp}:∀{k:Nat} (h:k<l.length) {j:Nat} {v:Value},(ed (l[k]'h))[j]? =some v→(l.flatMap ed)[k*2+j]? =some v:=by
 induction l with
 |nil=>intro k h;simp at h
 |cons e r ih=>
  intro k h j v hv;have hj:j<2:=(List.getElem?_eq_some_iff.1 hv).1;cases k with
  |zero=>
   rw[bB,cZ (by simp;omega),show 0*2+j=j by omega];exact hv
  |succ k=>
   rw[bB,ec (by simp;omega),show(k+1)*2+j-(ed e).length=k*2+j by simp;omega];exact ih (by simpa using h) hv
theorem nE(l:List Dp)(d:Dp):(d::l).reverse.flatMap ed=l.reverse.flatMap ed++ed d:=by
 rw[List.reverse_cons,br];simp
theorem zQ{cur:List Value}{l:Dp}{r:List Dp}(h:cur.take ((r.length+1)*2)=(l::r).reverse.flatMap ed):(cur.drop (r.length*2)).take 2=ed l:=by
 have h1:(cur.take ((r.length+1)*2)).drop (r.length*2)=ed l:=by
  rw[h,nE,List.drop_append_of_le_length (by rw[pg];simp),bp (by rw[pg];simp)];rfl
 rw[List.drop_take,show(r.length+1)*2-r.length*2=2 by omega]at h1;exact h1
theorem N5{cur:List Value}{l:Dp}{r:List Dp}(h:cur.take ((r.length+1)*2)=(l::r).reverse.flatMap ed):cur.take (r.length*2)=r.reverse.flatMap ed:=by
 have h1:(cur.take ((r.length+1)*2)).take (r.length*2)=cur.take (r.length*2):=by rw[List.take_take,fy (by omega)]
 rw[←h1,h,nE,List.take_append_of_le_length (by rw[pg];simp),aR (by rw[pg];simp)]
def S6(P:Program)(t:TypeId):Bool:=(match P.underlying t with|some (.struct _)=>true|_=>false)&& !P.stoodInHeld t&&(match(P.fieldsOf t).toList with
 | [f,g]=>f.name != "_" &&g.name != "_" &&Nat.beq f.offset 0&&Nat.beq g.offset 1&&(match P.underlying f.type with|some (.int _)=>true|_=>false)&&(match P.underlying g.type with|some (.int _)=>true|_=>false)
 |_=>false)
theorem DG{P:Program}(w:World)(t:TypeId)(h:S6 P t=true)(a b c d:Int):
  (Op.equal t (.agg #[.int .i64 a,.int .i64 b]) (.agg #[.int .i64 c,.int .i64 d])).run P w=.ok (a==c&&b==d) w:=by
 unfold S6 at h;simp only[aK]at h;obtain⟨⟨h1,h2⟩,h3⟩:=h;have ht:P.underlying t=some (.struct (P.fieldsOf t)):=by
  unfold Program.fieldsOf;cases hu:P.underlying t with
  |none=>rw[hu]at h1;simp at h1
  |some u=>
   rw[hu]at h1;cases u<;>simp at h1⊢
 have hp:P.stoodInHeld t=false:=by simpa using h2
 show(Op.equalIn (9999+1) t _ _).run P w=_;rw[run_equalIn_agg w 9999 t _ _ ht hp];split at h3
 ·rename_i f g hfg;rw[hfg];simp only[aK,kF,ne_eq]at h3;obtain⟨⟨⟨⟨⟨n1,n2⟩,o1⟩,o2⟩,u1⟩,u2⟩:=h3;have o1':=aI o1;have o2':=aI o2;obtain⟨k1,hk1⟩:∃k,P.underlying f.type=some (.int k):=by
   cases hu:P.underlying f.type with
   |none=>rw[hu]at u1;simp at u1
   |some u=>rw[hu]at u1;cases u<;>simp at u1⊢
  obtain⟨k2,hk2⟩:∃k,P.underlying g.type=some (.int k):=by
   cases hu:P.underlying g.type with
   |none=>rw[hu]at u2;simp at u2
   |some u=>rw[hu]at u2;cases u<;>simp at u2⊢
  have e1:=run_equalIn_int (P:=P) w 9998 f.type .i64 k1 a c hk1;have e2:=run_equalIn_int (P:=P) w 9998 g.type .i64 k2 b d hk2;have p1:∀(x y:Value),(part f.type #[x,y] 0).run P w=.ok x w:=fun x y=>by simp[part,kR hk1,FA]
  have p2:∀(x y:Value),(part g.type #[x,y] 1).run P w=.ok y w:=fun x y=>by simp[part,kR hk2,FA]
  simp only[Op.eqFields,n1,n2,ne_eq,not_false_eq_true,fj,o1',o2',cB,p1,p2,bu,e1,Sem.run_ite,dT,e2];cases(a==c)<;>cases(b==d)<;>rfl
 ·simp at h3
theorem NB(l p:Dp):(l.x==p.x&&l.y==p.y)=decide (l=p):=by
 by_cases h:l=p
 ·subst h;simp
 ·rw[ak h];rw[ry];by_cases hx:l.x=p.x
  ·right;simp only[cP];exact fun hy=>h (Dp.eq_iff.2 ⟨hx,hy⟩)
  ·left;simpa using hx
def QH(e:Ev):Option (TypeId×Value×Value):=
 match e with
 | .read o c=>match o.op with
  | .binOp .neq t x y _=>match c.s.ev x,c.s.ev y with
   | .val a,.val b=>some (t,a,b)
   |_,_=>none
  |_=>none
 |_=>none
theorem cH.own{z:Nat}{O:List (Nat×List Value)}{v:Value}{n:Nat}{xs:List Value}(h:cH z O v n xs)(hn:0<n):∃g cap cur,v=.slice (some ⟨g,0,none⟩) n cap∧O=[(g,cur)]∧n≤cap∧cap≤maxLen∧cur.length=cap*z∧cur.take (n*z)=xs:=by
 rcases h.2 with⟨_,h0,_⟩|h
 ·omega
 ·exact h
theorem cH.zero{z:Nat}{O:List (Nat×List Value)}{v:Value}{xs:List Value}(h:cH z O v 0 xs):∃ao c,v=.slice ao 0 c:=by
 rcases h.2 with⟨rfl,_,_⟩|⟨g,cap,cur,rfl,_⟩
 ·exact⟨none,0,rfl⟩
 ·exact⟨_,_,rfl⟩
theorem cH.cast{z:Nat}{O:List (Nat×List Value)}{v:Value}{n n':Nat}{xs xs':List Value}(hx:xs=xs')(hn:n=n')(h:cH z O v n xs):cH z O v n' xs':=by
 subst hx hn;exact h
theorem AM:∀(gj:List Dp) (s:List Dp×List Dp) {Q:Dp→Prop},(∀q∈s.1,q∈gj∨Q q)→∀q∈(gj.foldl push s).1,q∈gj∨Q q
 | [],s,Q,h,q,hq=>h q hq
 |p::r,s,Q,h,q,hq=>by
  have:=AM r (push s p) (Q:=fun q=>q=p∨Q q) (fun q hq=>?_) q hq
  ·rcases this with h1|h1|h1
   ·exact .inl (cQ _ h1)
   ·exact .inl (by rw[h1];exact o7)
   ·exact .inr h1
  ·have hin:q=p∨q∈s.1:=by
    obtain⟨R,w⟩:=s
    match R with
    | []=>simp only[push,aF,aJ,b_]at hq;exact .inl hq
    |l::r'=>
     simp only[push]at hq;split at hq
     ·exact .inr hq
     ·split at hq
      ·rcases List.mem_cons.1 hq with h1|h1
       ·exact .inl h1
       ·exact .inr (cQ _ h1)
      ·rcases List.mem_cons.1 hq with h1|h1
       ·exact .inl h1
       ·exact .inr h1
   rcases hin with h1|h1
   ·exact .inr (.inl h1)
   ·rcases h q h1 with h2|h2
    ·rcases List.mem_cons.1 h2 with h3|h3
     ·exact .inr (.inl h3)
     ·exact .inl h3
    ·exact .inr (.inr h2)
theorem AL:∀(gj:List Dp) (s:List Dp×List Dp),(gj.foldl push s).1.length≤s.1.length+gj.length
 | [],s=>by simp
 |p::r,s=>by
  have h1:=AL r (push s p);have h2:(push s p).1.length≤s.1.length+1:=by
   obtain⟨R,w⟩:=s
   match R with
   | []=>simp[push]
   |l::r'=>
    simp only[push];split
    ·simp
    ·split<;>simp
  simp only[oU,aB];omega
structure CSt where
 i:Nat
 z:Int
 vo:Value
 vw:Value
 Oo:List (Nat×List Value)
 Ow:List (Nat×List Value)
 R:List Dp
 W:List Dp
section
variable{T:Tb}{P:Program}{fin:VS→List aC→Prop}{c:fF}{Γ:List aC}
theorem Fx(D:List Nat)(t:TypeId)(l p:Dp)
  (hk:W T P fin (fH (aE T (aV T D 999 c)) (.bool (decide (l=p)))) Γ)(h:QB (aE T (aV T D 999 c))=some (t,dv l,dv p):=by kernel_rfl)(hg:P.eqGuardType P.depth t=false:=by kernel_rfl)(ho:S6 P t=true:=by kernel_rfl):W T P fin c Γ:=by
 refine ez D 999 ?_;generalize aV T D 999 c=c1 at*;unfold QB at h;split at h
 ·rename_i o c' he;rw[he]at hk;split at h
  ·rename_i ty u v yt hop;split at h
   ·rename_i a b ha hb;simp only[aq,aG]at h;obtain⟨rfl,rfl,rfl⟩:=h;refine W.read _ he (.any ?_) hk;intro w;have hr:=DG w ty ho l.x l.y p.x p.y;rw[NB]at hr;simp[execOp,hop,cE ha,cE hb,eqGuard,binOp,hr,hg]
   ·simp at h
  ·simp at h
 ·simp at h
theorem Nq(D:List Nat)(t:TypeId)(l p:Dp)
  (hk:W T P fin (fH (aE T (aV T D 999 c)) (.bool (!decide (l=p)))) Γ)(h:QH (aE T (aV T D 999 c))=some (t,dv l,dv p):=by kernel_rfl)(hg:P.eqGuardType P.depth t=false:=by kernel_rfl)(ho:S6 P t=true:=by kernel_rfl):W T P fin c Γ:=by
 refine ez D 999 ?_;generalize aV T D 999 c=c1 at*;unfold QH at h;split at h
 ·rename_i o c' he;rw[he]at hk;split at h
  ·rename_i ty u v yt hop;split at h
   ·rename_i a b ha hb;simp only[aq,aG]at h;obtain⟨rfl,rfl,rfl⟩:=h;refine W.read _ he (.any ?_) hk;intro w;have hr:=DG w ty ho l.x l.y p.x p.y;rw[NB]at hr;simp[execOp,hop,cE ha,cE hb,eqGuard,binOp,hr,hg]
   ·simp at h
  ·simp at h
 ·simp at h
theorem Ug(D:List Nat)(z b r len cap:Nat)(y:Int)(hy:y=r)(hT:T.Ok P)
  (hk:W T P fin (fH (aE T (aV T D 999 c)) (.slice (some ⟨b,0,none⟩) r cap)) Γ)(h:Ac T (aE T (aV T D 999 c))=some (z,.slice (some ⟨b,0,none⟩) len cap,none,some (.int .i64 y)):=by kernel_rfl)(hrs:r≤cap:=by omega)(h0:0<cap:=by omega):W T P fin c Γ:=by
 subst hy;refine CL D z b 0 len cap none (some (.int .i64 (r:Int))) 0 r hT (h:=h) (.inr ⟨rfl,rfl⟩) (.inl rfl) (aH _) (hrs:=hrs) (hla:=h0) ?_;rw[qD,Nat.sub_zero,Nat.sub_zero];exact hk
theorem eH(b off:Nat){xs:List Value} [h:aZ (RA (some ⟨b,off,none⟩)) xs Γ](k:Nat){cs:List Value}(hv:∀(j:Nat) (v:Value),cs[j]? =some v→xs[k+j]? =some v):∀I w,bj T I w→aD Γ I w→∀j v,cs[j]? =some v→w.cell? ⟨b,off+k+j,none⟩=some v:=fun I w _ hh j v hj=>by
 rw[g_];exact RA.cell (h.p hh) (hv j v hj)
theorem pr{ao:Option Addr}{xs:List Value} [h:aZ (RA ao) xs Γ]:∀I w,bj T I w→aD Γ I w→aD [RA ao xs] I w:=fun I w _ hh=>aD.cons (h.p hh) (aD.nil _ _)
theorem J5{s:VS}{k:List It}{z n:Nat}{O1 O2:List (Nat×List Value)}{v:Value}{xs:List Value}(hs:s.own=O1++O2)(hg:cH z O1 v n xs)(hm:dF k=false)
  (hk:∀ao c,v=.slice ao n c→W T P fin ⟨⟨s.tmps,s.boxes,O2,s.maps⟩,k⟩ (RA ao xs::Γ)):W T P fin ⟨s,k⟩ Γ:=by
 obtain⟨hl,hg⟩:=hg;rcases hg with⟨rfl,rfl,rfl⟩|⟨g,cap,cur,rfl,rfl,hnc,hcm,hcs,htk⟩
 ·obtain rfl:xs=[]:=aL (by simpa using hl);obtain⟨tm,bx,ow⟩:=s;simp only[az]at hs;subst hs;exact W.elim (α:=Unit) (fun _=>True) (fun _=>[RA none []]) hm (fun I w _ hh=>⟨(),trivial,aT (RA.nil _ _ _)⟩) (fun _ _=>hk none 0 rfl)
 ·refine W.pub (O1:=[]) (O2:=O2) (b:=g) (cs:=cur) hm hs (W.elim (α:=Unit) (fun _=>True) (fun _=>[RA (some ⟨g,0,none⟩) xs]) hm (fun I w _ hh=>⟨(),trivial,aT (RA.of_row hh.h0' fun i v hv=>?_)⟩) (fun _ _=>?_))
  ·rw[←htk,dz]at hv;split at hv
   ·exact hv
   ·simp at hv
  ·refine W.sub hm (fun I w _ hh=>?_) (hk _ _ rfl);exact aD.cons hh.h0' (fun F hF=>hh F (by simp[hF]))
end
section
variable{Γ:List aC}{L M:Nat}
theorem MB(ao:Option Addr)(n c:Nat)(gj:List Dp) [aZ (RA ao) (gj.flatMap ed) Γ](hn:n=gj.length)(hn2:n≤8191)(hb:∀p∈gj,iL 2147483648 p):
  aw tb Tryz.prog 188 [.slice ao n c] Γ (fun v Δ=>∃(a1 a2:Option Addr) (c1 c2:Nat),v=.tuple #[.slice a1 (iO gj).1.length c1,.slice a2 (iO gj).2.length c2]∧Δ=[RA a1 ((iO gj).1.reverse.flatMap ed),RA a2 ((iO gj).2.reverse.flatMap ed)]):=by
 refine aw.of_W au Tryz.func188 rfl (gY [] [4,5,12] (fun a:CSt=>[(4,a.vo),(5,a.vw),(12,.int .i64 a.z)]) (fun _=>[]) (fun a=>a.Oo++a.Ow) (fun _=>[RA ao (gj.flatMap ed)]) (fun a=>a.z=a.i∧a.i≤n∧(a.R,a.W)=iO (gj.take a.i)∧cH 2 a.Oo a.vo a.R.length (a.R.reverse.flatMap ed)∧cH 2 a.Ow a.vw a.W.length (a.W.reverse.flatMap ed)) (fun a=>n-a.i) ⟨0,0,.slice none 0 0,.slice none 0 0,[],[],[],[]⟩ ⟨rfl,aH _,rfl,cH.nil 2,cH.nil 2⟩ pr ?_);rintro⟨i,z,vo,vw,Oo,Ow,R,U⟩ K ⟨hz,hi,Rz,hgo,I4⟩ close;simp only at hz hi Rz hgo I4;by_cases hlt:i<n
 rotate_left
 ·have hin:i=n:=by omega
  have hall:gj.take i=gj:=aR (by omega);rw[hall]at Rz;rw[←Rz];refine J5 (O1:=Oo) (O2:=Ow) rfl hgo rfl (fun a1 c1 h1=>J5 (O1:=Ow) (O2:=[]) (ai _).symm I4 rfl (fun a2 c2 h2=>?_));subst h1 h2;refine aO [] 13 (decide (z<(n:Int))) (ak (by omega)) (W.r [13] (.tuple #[.slice a1 R.length c1,.slice a2 U.length c2]) ⟨a1,a2,c1,c2,rfl,rfl⟩ (mh (Δ:=[_]) (Δ':=[_]) pr pr))
 have hil:i<gj.length:=by omega
 have hstep:iO (gj.take (i+1))=push (R,U) (gj[i]'hil):=by
  rw[Rz,List.take_succ_eq_append_getElem hil];simp only[iO,List.foldl_append,oU,List.foldl_nil]
 have hok:j_ R U:=by
  have:=zL (gj.take i) ([],[]) rfl;rw[show(gj.take i).foldl push ([],[])=(R,U)from Rz.symm]at this;exact this
 have hlen:=hok.len;have hpb:=hb _ (d_ hil);have UI:∀q∈R,iL 2147483648 q:=fun q hq=>by
  have:=AM (gj.take i) ([],[]) (Q:=fun _=>False) (fun q hq=>absurd hq (by simp)) q (by rw[show(gj.take i).foldl push ([],[])=(R,U)from Rz.symm];exact hq);exact hb q (fm (by simpa using this))
 have UJ:R.length≤i:=by
  have:=AL (gj.take i) ([],[]);rw[show(gj.take i).foldl push ([],[])=(R,U)from Rz.symm]at this;simp only[a_,dP]at this;omega
 have hz1:IntKind.i64.wrap (z+1)=((i+1:Nat):Int):=by rw[af];omega
 have IY:∀(j:Nat) (v:Value),(ed (gj[i]'hil))[j]? =some v→(gj.flatMap ed)[i*2+j]? =some v:=fun j v hv=>N4 hil hv;generalize hp:gj[i]'hil=p at*;refine IC ao rfl (by intro e;have:=pg gj;rw[e]at this;simp at this;omega) (fun ba of e=>?_);subst e;refine bh [] 13 (decide (z<(n:Int))) (ar (by omega)) (bI [13] 2 ba of n c .i64 i z hz au hlt (cJ [] ba (of+i*2) (ed p) au (eH ba of (i*2) IY) ?_))
 match R,U,hok,hlen,hgo,I4,UI,UJ,Rz,hstep with
 | [],U,hok,hlen,hgo,I4,UI,UJ,Rz,hstep=>
  obtain rfl:U=[]:=hok;rcases hgo.zero with⟨ao0,co0,rfl⟩;refine j5 [] 3 (aO [] 19 (decide (((0:Nat):Int)>0)) (by decide) (cW [19] 1 (ed p) au (fun b2=>W.app [] (Oo++Ow) [] Oo Ow 2 16 0 1 (.slice ao0 0 co0) (.slice (some ⟨b2,0,none⟩) 1 1) [] (ed p) au hgo (cg b2 (Oo++Ow) 1 2 rfl 1) (qG _) (fun TZ RZ sV=>close [] _ _ ⟨i+1,IntKind.i64.wrap (z+1),TZ,vw,RZ,Ow,[p],[]⟩ (by kernel_rfl) (by simp only[az,ai];kernel_rfl) ⟨hz1,hlt,by rw[hstep];rfl,sV,I4⟩ (by simp only;omega) pr))))
 |l::r,U,hok,hlen,hgo,I4,UI,UJ,Rz,hstep=>
  have hlb:=UI l (by simp);have hN:(l::r).length=r.length+1:=rfl;rw[hN]at hgo UJ;obtain⟨g1,k1,kg,rfl,rfl,hk1,hm1,hl1,ht1⟩:=hgo.own (by omega);have hlast:=zQ ht1;have OK:=N5 ht1;refine j5 [] 3 (bh [] 19 (decide (((r.length+1:Nat):Int)>0)) (ar (by omega)) (bI [19] 2 g1 0 (r.length+1) k1 .i64 r.length (IntKind.i64.wrap (((r.length+1:Nat):Int)-1)) (by rw[af];omega) au (by omega) (wM [] ([(g1,kg)]++Ow) g1 (0+r.length*2) 2 kg (ed l) au (by rw[bU];exact hlast) rfl (Fx [] 58 l p ?_))));by_cases UN:l=p
  ·refine bh [] 28 (decide (l=p)) (ar UN) (close [28] _ _ ⟨i+1,IntKind.i64.wrap (z+1),.slice (some ⟨g1,0,none⟩) (r.length+1) k1,vw,[(g1,kg)],Ow,l::r,U⟩ (by kernel_rfl) (by kernel_rfl) ⟨hz1,hlt,?_,hgo,I4⟩ (by simp only;omega) pr);rw[hstep];simp only[push,if_pos UN]
  refine aO [] 28 (decide (l=p)) (ak UN) (bI [28] 2 g1 0 (r.length+1) k1 .i64 r.length (IntKind.i64.wrap (((r.length+1:Nat):Int)-1)) (by rw[af];omega) au (by omega) (wM [] ([(g1,kg)]++Ow) g1 (0+r.length*2) 2 kg (ed l) au (by rw[bU];exact hlast) rfl (W.c0 [] (Du l p hlb hpb UN) ?_)))
  match r,U,hok,hlen,hgo,I4,hk1,ht1,OK,UI,UJ,hstep with
  | [],U,hok,hlen,hgo,I4,hk1,ht1,OK,UI,UJ,hstep=>
   obtain rfl:U=[]:=hok;rcases I4.zero with⟨aw0,cw0,rfl⟩;refine bh [] 38 (decide (((([]:List Dp).length+1:Nat):Int)<2)) (by decide) (cW [46,38] 1 (ed (gA l p)) au (fun b1=>W.app [] ([(g1,kg)]++Ow) [(g1,kg)] Ow [] 2 16 0 1 (.slice aw0 0 cw0) (.slice (some ⟨b1,0,none⟩) 1 1) [] (ed (gA l p)) au I4 (cg b1 ([(g1,kg)]++Ow) 1 2 rfl 1) (qG _) (fun Yn D3 SB=>cW [] 1 (ed p) au (fun b2=>W.app [] ([(g1,kg)]++D3++[]) [] [(g1,kg)] (D3++[]) 2 16 (([]:List Dp).length+1) 1 (.slice (some ⟨g1,0,none⟩) (([]:List Dp).length+1) k1) (.slice (some ⟨b2,0,none⟩) 1 1) ([l].reverse.flatMap ed) (ed p) au hgo (cg b2 ([(g1,kg)]++D3++[]) 1 2 rfl 1) (qG _) (fun TZ RZ sV=>close [] _ _ ⟨i+1,IntKind.i64.wrap (z+1),TZ,Yn,RZ,D3,p::[l],[gA l p]⟩ (by kernel_rfl) (by simp only[az,ai];kernel_rfl) ⟨hz1,hlt,?_,cH.cast (nE _ _).symm rfl sV,cH.cast (nE _ _).symm rfl SB⟩ (by simp only;omega) pr)))));rw[hstep];simp only[push,if_neg UN,List.head?_nil,reduceCtorEq,dZ]
  |a::r2,U,⟨d,v,hW,Cv,hd,hv,I6⟩,hlen,hgo,I4,hk1,ht1,OK,UI,UJ,hstep=>
   subst hW;have hab:=UI a (by simp);have Sv:r2.length+2≤i:=UJ;have hll:(a::r2).length=r2.length+1:=rfl;have Gs:v.length=r2.length:=by simp at hlen;omega
   rw[show(d::v).length=v.length+1 from rfl]at I4;obtain⟨g2,k2,tA,rfl,rfl,hk2,hm2,hl2,UQ⟩:=I4.own (by omega);have WA:=zQ UQ;have Gv:=N5 UQ;refine aO [] 38 (decide ((((a::r2).length+1:Nat):Int)<2)) (ak (by simp only[aB];omega)) (bI [38] 2 g2 0 (v.length+1) k2 .i64 v.length (IntKind.i64.wrap ((((a::r2).length+1:Nat):Int)-2)) (by simp only[aB,af];omega) au (by omega) (wM [38] ([(g1,kg)]++[(g2,tA)]) g2 (0+v.length*2) 2 tA (ed d) au (by rw[bU];exact WA) rfl (Nq [38] 282 d (gA l p) ?_)));by_cases Wu:d=gA l p
   rotate_left
   ·refine bh [38] 46 (!decide (d=gA l p)) (by rw[ak Wu];rfl) (cW [46] 1 (ed (gA l p)) au (fun b1=>W.app [] ([(g1,kg)]++[(g2,tA)]) [(g1,kg)] [(g2,tA)] [] 2 16 (v.length+1) 1 (.slice (some ⟨g2,0,none⟩) (v.length+1) k2) (.slice (some ⟨b1,0,none⟩) 1 1) ((d::v).reverse.flatMap ed) (ed (gA l p)) au I4 (cg b1 ([(g1,kg)]++[(g2,tA)]) 1 2 rfl 1) (qG _) (fun Yn D3 SB=>cW [] 1 (ed p) au (fun b2=>W.app [] ([(g1,kg)]++D3++[]) [] [(g1,kg)] (D3++[]) 2 16 ((a::r2).length+1) 1 (.slice (some ⟨g1,0,none⟩) ((a::r2).length+1) k1) (.slice (some ⟨b2,0,none⟩) 1 1) ((l::a::r2).reverse.flatMap ed) (ed p) au hgo (cg b2 ([(g1,kg)]++D3++[]) 1 2 rfl 1) (qG _) (fun TZ RZ sV=>close [] _ _ ⟨i+1,IntKind.i64.wrap (z+1),TZ,Yn,RZ,D3,p::l::a::r2,gA l p::d::v⟩ (by kernel_rfl) (by simp only[az,ai];kernel_rfl) ⟨hz1,hlt,?_,cH.cast (nE _ _).symm rfl sV,cH.cast (nE _ _).symm rfl SB⟩ (by simp only;omega) pr)))));rw[hstep];simp only[push,if_neg UN,oV,aq,if_neg Wu]
   have hj:=j_.back (l:=l) (a:=a) (r:=r2) (w:=d::v) ⟨d,v,rfl,Cv,hd,hv,I6⟩ UN (by rw[oV,Wu]);obtain⟨hap,aai,_⟩:=hj;have OB:cH 2 [(g1,kg)] (.slice (some ⟨g1,0,none⟩) (a::r2).length k1) (a::r2).length ((a::r2).reverse.flatMap ed):=⟨by rw[pg];simp,.inr ⟨g1,k1,kg,rfl,rfl,by omega,hm1,hl1,OK⟩⟩;have OC:cH 2 [(g2,tA)] (.slice (some ⟨g2,0,none⟩) v.length k2) v.length (v.reverse.flatMap ed):=⟨by rw[pg];simp,.inr ⟨g2,k2,tA,rfl,rfl,by omega,hm2,hl2,Gv⟩⟩;have OG:=zQ OK;refine aO [38] 46 (!decide (d=gA l p)) (by rw[ar Wu];rfl) (Ug [46] 2 g1 (a::r2).length ((a::r2).length+1) k1 (IntKind.i64.wrap ((((a::r2).length+1:Nat):Int)-1)) (by simp only[aB,af];omega) au (Ug [] 2 g2 v.length (v.length+1) k2 (IntKind.i64.wrap ((((a::r2).length+1:Nat):Int)-2)) (by simp only[aB,af];omega) au (bh [] 19 (decide ((((a::r2).length:Nat):Int)>0)) (ar (by simp only[aB];omega)) (bI [19] 2 g1 0 (a::r2).length k1 .i64 r2.length (IntKind.i64.wrap ((((a::r2).length:Nat):Int)-1)) (by simp only[aB,af];omega) au (by simp only[aB];omega) (wM [] ([(g1,kg)]++[(g2,tA)]) g1 (0+r2.length*2) 2 kg (ed a) au (by rw[bU];exact OG) rfl (Fx [] 58 a p (aO [] 28 (decide (a=p)) (ak hap) ?_)))))))
   refine bI [28] 2 g1 0 (a::r2).length k1 .i64 r2.length (IntKind.i64.wrap ((((a::r2).length:Nat):Int)-1)) (by simp only[aB,af];omega) au (by simp only[aB];omega) (wM [] ([(g1,kg)]++[(g2,tA)]) g1 (0+r2.length*2) 2 kg (ed a) au (by rw[bU];exact OG) rfl (W.c0 [] (Du a p hab hpb hap) ?_));have hend:push (l::a::r2,d::v) p=(p::a::r2,gA a p::v):=by
    simp only[push,if_neg UN,oV,aq,if_pos Wu];rw[aai,Wu]
   match r2,v,Gs,OB,OC,I6,Gv,hl2,UQ,hv,hend,Sv,hstep with
   | [],v,Gs,OB,OC,I6,Gv,hl2,UQ,hv,hend,Sv,hstep=>
    obtain rfl:v=[]:=aL Gs;refine bh [] 38 (decide ((([a].length:Nat):Int)<2)) (ar (by simp)) (cW [46,38] 1 (ed (gA a p)) au (fun b1=>W.app [] ([(g1,kg)]++[(g2,tA)]) [(g1,kg)] [(g2,tA)] [] 2 16 0 1 (.slice (some ⟨g2,0,none⟩) 0 k2) (.slice (some ⟨b1,0,none⟩) 1 1) [] (ed (gA a p)) au OC (cg b1 ([(g1,kg)]++[(g2,tA)]) 1 2 rfl 1) (qG _) (fun Yn D3 SB=>cW [] 1 (ed p) au (fun b2=>W.app [] ([(g1,kg)]++D3++[]) [] [(g1,kg)] (D3++[]) 2 16 [a].length 1 (.slice (some ⟨g1,0,none⟩) [a].length k1) (.slice (some ⟨b2,0,none⟩) 1 1) ([a].reverse.flatMap ed) (ed p) au OB (cg b2 ([(g1,kg)]++D3++[]) 1 2 rfl 1) (qG _) (fun TZ RZ sV=>close [] _ _ ⟨i+1,IntKind.i64.wrap (z+1),TZ,Yn,RZ,D3,p::[a],[gA a p]⟩ (by kernel_rfl) (by simp only[az,ai];kernel_rfl) ⟨hz1,hlt,?_,cH.cast (nE _ _).symm rfl sV,cH.cast (nE _ _).symm rfl SB⟩ (by simp only;omega) pr)))));rw[hstep];rw[hend]
   |a3::r3,v,Gs,OB,OC,⟨d3,v3,hv3,_⟩,Gv,hl2,UQ,hv,hend,Sv,hstep=>
    subst hv3;have WB:=zQ Gv;have acT:d3≠gA a p:=fun e=>by
     rw[aai,←Wu]at e;exact hv (by rw[oV,e])
    simp only[aB]at Gs;have hR3:r3.length+3≤i:=Sv;have hl3:(a::a3::r3).length=r3.length+2:=rfl;have hl4:(d3::v3).length=v3.length+1:=rfl;refine aO [] 38 (decide ((((a::a3::r3).length:Nat):Int)<2)) (ak (by simp only[aB];omega)) (bI [38] 2 g2 0 (d3::v3).length k2 .i64 v3.length (IntKind.i64.wrap ((((a::a3::r3).length:Nat):Int)-2)) (by simp only[aB,af];omega) au (by simp only[aB];omega) (wM [38] ([(g1,kg)]++[(g2,tA)]) g2 (0+v3.length*2) 2 tA (ed d3) au (by rw[bU];exact WB) rfl (Nq [38] 282 d3 (gA a p) (bh [38] 46 (!decide (d3=gA a p)) (by rw[ak acT];rfl) (cW [46] 1 (ed (gA a p)) au (fun b1=>W.app [] ([(g1,kg)]++[(g2,tA)]) [(g1,kg)] [(g2,tA)] [] 2 16 (d3::v3).length 1 (.slice (some ⟨g2,0,none⟩) (d3::v3).length k2) (.slice (some ⟨b1,0,none⟩) 1 1) ((d3::v3).reverse.flatMap ed) (ed (gA a p)) au OC (cg b1 ([(g1,kg)]++[(g2,tA)]) 1 2 rfl 1) (qG _) (fun Yn D3 SB=>cW [] 1 (ed p) au (fun b2=>W.app [] ([(g1,kg)]++D3++[]) [] [(g1,kg)] (D3++[]) 2 16 (a::a3::r3).length 1 (.slice (some ⟨g1,0,none⟩) (a::a3::r3).length k1) (.slice (some ⟨b2,0,none⟩) 1 1) ((a::a3::r3).reverse.flatMap ed) (ed p) au OB (cg b2 ([(g1,kg)]++D3++[]) 1 2 rfl 1) (qG _) (fun TZ RZ sV=>?_)))))))))
    refine close [] _ _ ⟨i+1,IntKind.i64.wrap (z+1),TZ,Yn,RZ,D3,p::a::a3::r3,gA a p::d3::v3⟩ (by kernel_rfl) (by simp only[az,ai];kernel_rfl) ⟨hz1,hlt,?_,cH.cast (nE _ _).symm rfl sV,cH.cast (nE _ _).symm rfl SB⟩ (by simp only;omega) pr;rw[hstep];rw[hend]
end
structure Lr(cs ws:List Dp):Prop where
 len:cs.length=ws.length+1
 way:∀(i:Nat) (a b d:Dp),cs[i]? =some a→cs[i+1]? =some b→ws[i]? =some d→a≠b∧d=gA a b
 turn:∀(i:Nat) (d e:Dp),ws[i]? =some d→ws[i+1]? =some e→d≠e
theorem Lr.snoc{cs ws:List Dp}{a b:Dp}(h:Lr cs ws)(ha:cs.getLast?=some a)(hab:a≠b)(hw:ws.getLast?≠some (gA a b)):Lr (cs++[b]) (ws++[gA a b]):=by
 have hl:=h.len;rw[fo,hl,eI]at ha;rw[fo]at hw;refine⟨by simp[hl],fun i x y d h1 h2 h3=>?_,fun i d e h1 h2=>?_⟩
 ·by_cases hi:i<ws.length
  ·rw[cZ (by omega)]at h1 h2 h3;exact h.way i x y d h1 h2 h3
  ·have hi2:i=ws.length:=by
    have:=(List.getElem?_eq_some_iff.1 h3).1;simp at this;omega
   subst hi2;rw[cZ (by omega),ha]at h1;rw[ec (by omega),hl]at h2;rw[ec (by omega)]at h3;simp at h1 h2 h3;subst h1 h2 h3;exact⟨hab,rfl⟩
 ·by_cases hi:i+1<ws.length
  ·rw[cZ (by omega)]at h1 h2;exact h.turn i d e h1 h2
  ·have hi2:i+1=ws.length:=by
    have:=(List.getElem?_eq_some_iff.1 h2).1;simp at this;omega
   rw[cZ (by omega),show i=ws.length-1 by omega]at h1;rw[ec (by omega),hi2]at h2;simp at h2;subst h2;rintro rfl;exact hw h1
theorem Oh:∀{R U:List Dp},j_ R U→R≠ []→Lr R.reverse U.reverse
 | [],_,_,h=>absurd rfl h
 | [a],U,h,_=>by
  simp only[j_]at h;subst h;exact⟨rfl,fun i x y d h1 h2 h3=>by simp at h3,fun i d e h1 h2=>by simp at h1⟩
 |b::a::r,U,⟨d,v,hU,hab,hd,hv,hok⟩,_=>by
  subst hU hd;have ih:=Oh hok (by simp);rw[List.reverse_cons,List.reverse_cons (a:=gA a b)];exact ih.snoc (by rw[List.getLast?_reverse];rfl) hab (by rw[List.getLast?_reverse];exact hv)
theorem CQ:∀U:List Dp,tq U=true↔∃(i:Nat) (d e:Dp),U[i]? =some e∧U[i+1]? =some d∧e=jw d
 | []=>by simp[tq]
 | [a]=>by simp[tq]
 |e::d::r=>by
  have ih:=CQ (d::r);simp only[tq,dI,cY,ih];constructor
  ·rintro(h|⟨i,x,y,h1,h2,h3⟩)
   ·exact⟨0,d,e,rfl,rfl,h⟩
   ·exact⟨i+1,x,y,h1,h2,h3⟩
  ·rintro⟨i,x,y,h1,h2,h3⟩;cases i with
   |zero=>
    simp at h1 h2;subst h1 h2;exact .inl h3
   |succ i=>exact .inr ⟨i,x,y,h1,h2,h3⟩
theorem J8(U:List Dp):tq U=true↔∃(i:Nat) (d e:Dp),U.reverse[i]? =some d∧U.reverse[i+1]? =some e∧e=jw d:=by
 rw[CQ];constructor
 ·rintro⟨i,d,e,h1,h2,h3⟩;have hi:=(List.getElem?_eq_some_iff.1 h2).1;refine⟨U.length-2-i,d,e,?_,?_,h3⟩
  ·rw[List.getElem?_reverse (by omega),show U.length-1-(U.length-2-i)=i+1 by omega,h2]
  ·rw[List.getElem?_reverse (by omega),show U.length-1-(U.length-2-i+1)=i by omega,h1]
 ·rintro⟨i,d,e,h1,h2,h3⟩;have hi:=(List.getElem?_eq_some_iff.1 h2).1;simp only[fC]at hi;rw[List.getElem?_reverse (by omega)]at h1 h2;refine⟨U.length-2-i,d,e,?_,?_,h3⟩
  ·rw[show U.length-2-i=U.length-1-(i+1)by omega,h2]
  ·rw[show U.length-2-i+1=U.length-1-i by omega,h1]
theorem Hz{p q:Dp}(h:p≠q):mi (gA p q)=1:=by
 have hv:=Bv h;unfold gA;generalize(⟨q.x-p.x,q.y-p.y⟩:Dp)=v at*;have h1:=Kg v hv;have h2:=rQ (p6 v);have h3:=NV hv;rw[h1]at h2;rcases h3 with h3|h3
 ·exact Int.eq_one_of_mul_eq_self_left h3 h2.1.symm
 ·exact Int.eq_one_of_mul_eq_self_left h3 h2.2.symm
theorem EG{d:Dp}(h:mi d=1):d.x≠0∨d.y≠0:=by
 by_cases hx:d.x=0
 ·by_cases hy:d.y=0
  ·unfold mi at h;rw[hx,hy]at h;simp at h
  ·exact .inr hy
 ·exact .inl hx
theorem JO{d:Dp}(h:d.x≠0∨d.y≠0):kA d≠0:=by
 unfold kA;have h1:0≤d.x*d.x:=by rcases Int.le_total 0 d.x with h|h;exact eZ h h;exact jR h h
 have h2:0≤d.y*d.y:=by rcases Int.le_total 0 d.y with h|h;exact eZ h h;exact jR h h
 rcases h with h|h
 ·have:d.x*d.x≠0:=kj h h;omega
 ·have:d.y*d.y≠0:=kj h h;omega
theorem Rr{p q:Dp}(hp:iL 2147483648 p)(hq:iL 2147483648 q)(h:p≠q):iL 4294967296 (gA p q):=by
 have hm:=rQ ⟨q.x-p.x,q.y-p.y⟩;have hg:=tJ (Bv h);unfold iL at*;simp only at hm;have bx: -4294967296≤(gA p q).x∧(gA p q).x≤4294967296:=uM hg hm.1;have byy: -4294967296≤(gA p q).y∧(gA p q).y≤4294967296:=uM hg hm.2;omega
theorem F8{d e:Dp}(hd:mi d=1)(he:mi e=1)(h1:d≠e)(h2:e≠jw d):qF (eY d) e≠0:=by
 intro h0;have hx:d.x*e.y=d.y*e.x:=by
  unfold qF eY at h0;simp only at h0;have: -d.y*e.x= -(d.y*e.x):=Int.neg_mul _ _;omega
 have hn:d.x.natAbs*e.y.natAbs=d.y.natAbs*e.x.natAbs:=by rw[←cL,hx,cL]
 have cd:Nat.Coprime d.x.natAbs d.y.natAbs:=by unfold mi at hd;unfold Nat.Coprime;omega
 have ce:Nat.Coprime e.x.natAbs e.y.natAbs:=by unfold mi at he;unfold Nat.Coprime;omega
 have kx:d.x.natAbs=e.x.natAbs:=by
  apply Nat.dvd_antisymm
  ·exact Nat.Coprime.dvd_of_dvd_mul_left cd (by rw[←hn];exact Nat.dvd_mul_right _ _)
  ·exact Nat.Coprime.dvd_of_dvd_mul_right ce (by rw[hn];exact Nat.dvd_mul_left _ _)
 have ky:d.y.natAbs=e.y.natAbs:=by
  apply Nat.dvd_antisymm
  ·exact Nat.Coprime.dvd_of_dvd_mul_left cd.symm (by rw[hn];exact Nat.dvd_mul_right _ _)
  ·exact Nat.Coprime.dvd_of_dvd_mul_right ce.symm (by rw[←hn];exact Nat.dvd_mul_left _ _)
 have hm:∀(P:d.x=0∨d.y=0),False:=fun hz=>by
  rcases hz with hz|hz
  ·have:e.x=0:=by omega
   rcases Int.natAbs_eq_natAbs_iff.1 ky with h|h
   ·exact h1 (Dp.eq_iff.2 ⟨by omega,h⟩)
   ·exact h2 (Dp.eq_iff.2 ⟨by unfold jw;simp only;omega,by unfold jw;simp only;omega⟩)
  ·have:e.y=0:=by omega
   rcases Int.natAbs_eq_natAbs_iff.1 kx with h|h
   ·exact h1 (Dp.eq_iff.2 ⟨h,by omega⟩)
   ·exact h2 (Dp.eq_iff.2 ⟨by unfold jw;simp only;omega,by unfold jw;simp only;omega⟩)
 rcases Int.natAbs_eq_natAbs_iff.1 kx with hx1|hx1<;>rcases Int.natAbs_eq_natAbs_iff.1 ky with hy1|hy1
 ·exact h1 (Dp.eq_iff.2 ⟨hx1,hy1⟩)
 ·have e1:e.x=d.x:=hx1.symm;have e2:e.y= -d.y:=by omega
  rw[e1,e2,Int.mul_neg,lE d.y d.x]at hx;have:d.x*d.y=0:=by omega
  exact hm (Int.mul_eq_zero.1 this)
 ·have e1:e.x= -d.x:=by omega
  have e2:e.y=d.y:=hy1.symm;rw[e1,e2,Int.mul_neg,lE d.y d.x]at hx;have:d.x*d.y=0:=by omega
  exact hm (Int.mul_eq_zero.1 this)
 ·exact h2 (Dp.eq_iff.2 ⟨by unfold jw;simp only;omega,by unfold jw;simp only;omega⟩)
theorem pE(h:Rat):∀(c w:List Dp),c.length=w.length→(gE h c w).length=w.length-1
 |_,[],hl=>by cases ‹List Dp› <;>simp[gE]at*
 | [],_::_,hl=>by simp at hl
 |p::c,[d],hl=>by simp[gE]
 |p::c,d::e::w,hl=>by
  have:=pE h c (e::w) (by simp at hl⊢;omega);simp only[gE,aB,this];omega
theorem nh(h:Rat):∀(c w:List Dp) (j:Nat) (p d e:Dp),c[j]? =some p→w[j]? =some d→w[j+1]? =some e→(gE h c w)[j]? =some (gn p d e h)
 | [],_,j,p,d,e,h1,h2,h3=>by simp at h1
 |_::_,[],j,p,d,e,h1,h2,h3=>by simp at h2
 |_::_,[a],j,p,d,e,h1,h2,h3=>by simp at h3
 |q::c,a::b::w,j,p,d,e,h1,h2,h3=>by
  cases j with
  |zero=>
   simp at h1 h2 h3;subst h1 h2 h3;rfl
  |succ j=>
   simp only[gE,ek]at h1 h2 h3⊢;exact nh h c (b::w) j p d e h1 h2 h3
theorem kS{α:Type}{l:List α}{j:Nat}{x:α}(h:l[j]? =some x):l.take (j+1)=l.take j++[x]:=by
 obtain⟨hj,rfl⟩:=List.getElem?_eq_some_iff.1 h;exact List.take_succ_eq_append_getElem hj
theorem x_{α:Type}{l:List α}{j:Nat}{x:α}(h:l[j]? =some x):(l.drop j).reverse=(l.drop (j+1)).reverse++[x]:=by
 obtain⟨hj,rfl⟩:=List.getElem?_eq_some_iff.1 h;rw[bA hj,List.reverse_cons]
section
variable{Γ:List aC}
theorem eM{F:aC}{Δ:List aC}(h:∀(I:gd) (w:World),bj tb I w→aD Γ I w→F.p I w)(h':∀(I:gd) (w:World),bj tb I w→aD Γ I w→aD Δ I w):∀(I:gd) (w:World),bj tb I w→aD Γ I w→aD (F::Δ) I w:=fun I w hd hh=>aD.cons (h I w hd hh) (h' I w hd hh)
theorem gx{α:Type}{k:α→aC}{a:α} [h:aZ k a Γ]:∀(I:gd) (w:World),bj tb I w→aD Γ I w→(k a).p I w:=fun I w _ hh=>h.p hh
theorem tD:∀(I:gd) (w:World),bj tb I w→aD Γ I w→aD [] I w:=fun I w _ _=>aD.nil _ _
theorem C6{L:Nat}{l:List j4}(e:j4) [h:aZ (OS gH) (L,l) Γ] [hx:aZ (SF e.x) (L,e.X) Γ] [hy:aZ (SF e.y) (L,e.Y) Γ]:∀(I:gd) (w:World),bj tb I w→aD Γ I w→(OS gH (L,l++[e])).p I w:=fun I w _ hh x hx'=>by
 rcases List.mem_append.1 hx' with h1|h1
 ·exact h.p hh x h1
 ·simp only[aF,aJ,b_]at h1;subst h1;exact⟨hx.p hh,hy.p hh⟩
theorem N8{L:Nat}{l l2:List j4}{ao:Option Addr} [h:aZ (OS gH) (L,l) Γ] [hx:aZ (OL gH ao) (L,l2) Γ]:∀(I:gd) (w:World),bj tb I w→aD Γ I w→(OS gH (L,l++l2)).p I w:=fun I w _ hh x hx'=>by
 rcases List.mem_append.1 hx' with h1|h1
 ·exact h.p hh x h1
 ·exact(hx.p hh).1 x h1
theorem PU(B:Nat)(k:Int) [aZ (eT B) [.int .i64 0,.int .i64 1,.int .i64 2,.int .i64 4] Γ]:
  aw tb Tryz.prog 233 [.slice (some ⟨B,0,none⟩) 4 4,.int .i64 k] Γ (fun v Δ=>∃z:Int,v=.int .i64 z∧Δ=[]∧decide (z≥0)=(decide (k=0)||decide (k=1)||decide (k=2)||decide (k=4))):=by
 refine aw.of_W au Tryz.func233 rfl (j5 [] 5 (bI [9] 1 B 0 4 4 .i64 0 0 rfl au (by decide) (cX [] 1 B 0 (.int .i64 0) au (fun I w _ hh=>by rw[oY (aZ.p (k:=eT B) (a:=[.int .i64 0,.int .i64 1,.int .i64 2,.int .i64 4]) inferInstance hh)];rfl) (W.d [] 16 (k==0) (fun h=>?_) (fun h0=>?_)))))
 ·exact W.r [16] (.int .i64 0) ⟨0,rfl,rfl,by have:=eq_of_beq h;subst this;decide⟩ bX
 refine bI [9,16] 1 B 0 4 4 .i64 1 1 rfl au (by decide) (cX [] 1 B 1 (.int .i64 1) au (fun I w _ hh=>by rw[oY (aZ.p (k:=eT B) (a:=[.int .i64 0,.int .i64 1,.int .i64 2,.int .i64 4]) inferInstance hh)];rfl) (W.d [] 16 (k==1) (fun h=>?_) (fun h1=>?_)))
 ·exact W.r [16] (.int .i64 1) ⟨1,rfl,rfl,by have:=eq_of_beq h;subst this;decide⟩ bX
 refine bI [9,16] 1 B 0 4 4 .i64 2 2 rfl au (by decide) (cX [] 1 B 2 (.int .i64 2) au (fun I w _ hh=>by rw[oY (aZ.p (k:=eT B) (a:=[.int .i64 0,.int .i64 1,.int .i64 2,.int .i64 4]) inferInstance hh)];rfl) (W.d [] 16 (k==2) (fun h=>?_) (fun h2=>?_)))
 ·exact W.r [16] (.int .i64 2) ⟨2,rfl,rfl,by have:=eq_of_beq h;subst this;decide⟩ bX
 refine bI [9,16] 1 B 0 4 4 .i64 3 3 rfl au (by decide) (cX [] 1 B 3 (.int .i64 4) au (fun I w _ hh=>by rw[oY (aZ.p (k:=eT B) (a:=[.int .i64 0,.int .i64 1,.int .i64 2,.int .i64 4]) inferInstance hh)];rfl) (W.d [] 16 (k==4) (fun h=>?_) (fun h3=>?_)))
 ·exact W.r [16] (.int .i64 3) ⟨3,rfl,rfl,by have:=eq_of_beq h;subst this;decide⟩ bX
 refine W.r [9,16] (.int .i64 (-1)) ⟨-1,rfl,rfl,?_⟩ bX;have e0:k≠0:=by simpa using h0
 have e1:k≠1:=by simpa using h1
 have e2:k≠2:=by simpa using h2
 have e3:k≠4:=by simpa using h3
 simp[e0,e1,e2,e3]
theorem Te(B:Nat)(k:Int) [aZ (eT B) [.int .i64 0,.int .i64 1,.int .i64 2,.int .i64 4] Γ]:
  aw tb Tryz.prog 184 [.slice (some ⟨B,0,none⟩) 4 4,.int .i64 k] Γ (jy (.bool (decide (k=0)||decide (k=1)||decide (k=2)||decide (k=4)))):=by
 refine aw.of_W au Tryz.func184 rfl (jD [] (PU B k) ?_);rintro _ _ ⟨z,rfl,rfl,hz⟩;exact W.r [] (.bool (decide (z≥0))) ⟨by rw[hz],rfl⟩ bX
theorem FE{α:Type}{p:α→Bool}:∀{l:List α},(∀i (h:i<l.length),p (l[i]'h)=false)→l.any p=false
 | [],_=>rfl
 |a::r,h=>by
  rw[List.any_cons,FE (fun i hi=>h (i+1) (by simpa using hi)),Bool.or_false];exact h 0 (by simp)
theorem PV(ao:Option Addr)(n c:Nat)(gj:List Dp) [aZ (RA ao) (gj.flatMap ed) Γ](hn:n=gj.length)(hn2:n≤8191):
  aw tb Tryz.prog 234 [.slice ao n c,.func (.func 186) #[] #[]] Γ (fun v Δ=>∃z:Int,v=.int .i64 z∧Δ=[]∧decide (z≥0)=gj.any tW):=by
 refine aw.of_W au Tryz.func234 rfl (x7 [] [8] (fun a:Nat×Int=>[(8,.int .i64 a.2)]) (fun _=>[]) (fun _=>[RA ao (gj.flatMap ed)]) (fun a=>a.2=a.1∧a.1≤n∧∀i (h:i<gj.length),i<a.1→tW (gj[i]'h)=false) (fun a=>n-a.1) (0,0) ⟨rfl,aH _,fun i _ h=>by omega⟩ pr ?_);rintro⟨i,z⟩ K ⟨hz,hi,hall⟩ close;simp only at hz hi hall;by_cases hlt:i<n
 rotate_left
 ·refine aO [] 9 (decide (z<(n:Int))) (ak (by omega)) (W.r [9] (.int .i64 (-1)) ⟨-1,rfl,rfl,by rw[FE (fun j hj=>hall j hj (by omega))];rfl⟩ bX)
 have hil:i<gj.length:=by omega
 have IY:∀(j:Nat) (v:Value),(ed (gj[i]'hil))[j]? =some v→(gj.flatMap ed)[i*2+j]? =some v:=fun j v hv=>N4 hil hv;have lV:=d_ hil;have hnext:tW (gj[i]'hil)=false→∀j (h:j<gj.length),j<i+1→tW (gj[j]'h)=false:=fun ho j h hj=>by
  by_cases hji:j<i
  ·exact hall j h hji
  ·obtain rfl:j=i:=by omega
   exact ho
 generalize hp:gj[i]'hil=p at*;refine IC ao rfl (by intro e;have:=pg gj;rw[e]at this;simp at this;omega) (fun ba of e=>?_);subst e;refine bh [] 9 (decide (z<(n:Int))) (ar (by omega)) (bI [9] 2 ba of n c .i64 i z hz au hlt (cJ [] ba (of+i*2) (ed p) au (eH ba of (i*2) IY) (W.c0 [] (Xw p) (W.d [] 16 (tW p) (fun hb=>?_) (fun hb=>?_)))))
 ·refine W.r [16] (.int .i64 z) ⟨z,rfl,rfl,?_⟩ bX;rw[ar (by omega)];exact(List.any_eq_true.2 ⟨p,lV,hb⟩).symm
 ·exact close [16] _ _ (i+1,IntKind.i64.wrap (z+1)) (by kernel_rfl) (by kernel_rfl) ⟨by simp only[af];omega,hlt,hnext hb⟩ (by simp only;omega) pr
theorem PK(ao:Option Addr)(n c:Nat)(gj:List Dp) [aZ (RA ao) (gj.flatMap ed) Γ](hn:n=gj.length)(hn2:n≤8191):
  aw tb Tryz.prog 185 [.slice ao n c,.func (.func 186) #[] #[]] Γ (jy (.bool (gj.any tW))):=by
 refine aw.of_W au Tryz.func185 rfl (jD [] (PV ao n c gj hn hn2) ?_);rintro _ _ ⟨z,rfl,rfl,hz⟩;exact W.r [] (.bool (decide (z≥0))) ⟨by rw[hz],rfl⟩ bX
theorem XF(p d:Dp)(x y:Int)(hx:x=d.x)(hy:y=d.y)(hq bq:Qw){h b:Rat}{L L1:Nat} [aZ (QG hq) (L,h) Γ] [aZ (QG bq) (L1,b) Γ](r:Bool)(hp:iL 2147483648 p)(hd:iL 4294967296 d)(h0:kA d≠0)(hL:L≤5∧L1≤5:=by omega):
  aw tb Tryz.prog 189 [dv p,.agg #[.int .i64 x,.int .i64 y],qv hq.n hq.a hq.m hq.b,qv bq.n bq.a bq.m bq.b,.bool r] Γ (VD (mD p d h b r)):=by
 subst hx hy;cases r
 ·exact XG p d hq bq hp hd h0
 ·exact XH p d hq bq hp hd h0
end
section
variable{T:Tb}{P:Program}{fin:VS→List aC→Prop}{c:fF}{Γ:List aC}
def JU(z:Nat)(O:List (Nat×List Value))(v:Value)(n:Nat)(xs:List Value)(ao:Option Addr)(ys:List Value):Prop:=
 (O=[]∧v=.slice ao n n∧0<n∧xs.length=n*z∧ys=xs)∨(cH z O v n xs∧ao=none∧ys=[])
theorem CH(D:List Nat)(O:List (Nat×List Value))(z bytes n m:Nat)(ao:Option Addr)(v x:Value)(xs ys news:List Value)(hT:T.Ok P)
   [hrp:aZ (RA ao) ys Γ](hg:JU z O v n xs ao ys)(hm:0<m)(hx:pY T Γ O x m z news)(h1:∀u∈news,u.oneCell'=true)
   
  (hk:∀v' O',cH z O' v' (n+m) (xs++news)→W T P fin (mA (aE T (aV T D 999 c)) O' v') Γ)(h:oR T (aE T (aV T D 999 c))=some (O,z,bytes,v,x):=by kernel_rfl)(hn:n+m≤1000000:=by omega)(hb:bytes≤100000000:=by decide):W T P fin c Γ:=by
 rcases hg with⟨rfl,rfl,h0,hl,rfl⟩|⟨hg,rfl,rfl⟩
 ·refine Nm D [] z bytes n m ao x ys news hT (h:=h) hl (hn0:=h0) (hm:=hm) hx (hn:=hn) (hb:=hb) (fun g cap cur k1 k2 k3 k4=>hk _ _ ⟨?_,.inr ⟨g,cap,cur,rfl,rfl,k1,k2,k3,k4⟩⟩);obtain⟨_,_,_,hnl,_⟩:=hx;rw[aA,hl,hnl,eD]
 ·exact W.app D O [] O [] z bytes n m v x xs news hT (h:=h) hg hx h1 (hn:=hn) (hb:=hb) (fun v' O' hg'=>by simpa using hk v' O' hg')
end
structure LnV where
 p:Dp
 d:Dp
 r:Rat
 m:Int
 sl:Bool
structure Yx where
 a:LnV
 b:LnV
 m:Int
 n:Int
structure LnC where
 p:Dp
 d:Dp
 S:Int
 s:Sl
 R:Int
 t:Sl
 M:Int
 u:Sl
 sl:Bool
structure TwE where
 a:LnC
 b:LnC
 M:Int
 u:Sl
 N:Int
 v:Sl
 va:Rat
 ma:Int
 vb:Rat
 mb:Int
 m:Int
 n:Int
def TwE.num(e:TwE):Yx:=⟨⟨e.a.p,e.a.d,e.va,e.ma,e.a.sl⟩,⟨e.b.p,e.b.d,e.vb,e.mb,e.b.sl⟩,e.m,e.n⟩
section
variable{Γ:List aC}{L M:Nat}
end
theorem Mv{gj:List Dp}{width kind bg en:Int}(h:rh gj width kind bg en=0):gj.length≤8191∧rK width kind bg en=false∧gj.any tW=false∧2≤(iO gj).1.length∧tq (iO gj).2=false:=by
 unfold rh at h;split at h
 ·simp at h
 ·split at h
  ·simp at h
  ·split at h
   ·simp at h
   ·split at h
    ·simp at h
    ·split at h
     ·simp at h
     ·refine⟨by omega,by simp_all,by simp_all,by omega,by simp_all⟩
theorem FG{width kind bg en:Int}:rK width kind bg en=false↔(kind=0∨kind=1∨kind=2∨kind=4)∧1≤width∧width≤2147483647∧ -2147483647≤bg∧bg≤2147483647∧ -2147483647≤en∧en≤2147483647:=by
 simp only[rK,fS,gO,dI,cY,aW];omega
theorem Tx(s:List Dp×List Dp)(p:Dp):(push s p).2.length≤s.2.length+1:=by
 obtain⟨R,w⟩:=s;cases R with
 |nil=>simp[push]
 |cons l r=>
  simp only[push];split
  ·simp
  ·split<;>simp
theorem F7:∀(gj:List Dp) (s:List Dp×List Dp),(gj.foldl push s).2.length≤s.2.length+gj.length
 | [],s=>by simp
 |p::r,s=>by
  have:=F7 r (push s p);have:=Tx s p;simp only[oU,aB];omega
def aaT(x:LnV)(m n:Int):Sn:=
 if x.sl=true then⟨m,n,0,0,0,x.r*Rat.divInt 1 2⟩else if x.m=m then⟨m,n,0,x.r,0,0⟩else⟨m,n,0,0,x.r,0⟩
def onS(x:LnV)(X Y:Sn):Sn:=
 ((Sn.mul ⟨X.m,X.n,(x.d.x:Rat),0,0,0⟩ ⟨X.m,X.n,X.p-(x.p.x:Rat),X.q,X.r,X.s⟩).add (Sn.mul ⟨X.m,X.n,(x.d.y:Rat),0,0,0⟩ ⟨Y.m,Y.n,Y.p-(x.p.y:Rat),Y.q,Y.r,Y.s⟩)).add (aaT x X.m X.n).neg
structure YQ(P:Sn×Sn)(t:Yx):Prop where
 xm:P.1.m=t.m
 xn:P.1.n=t.n
 ym:P.2.m=t.m
 yn:P.2.n=t.n
 m0:0≤t.m
 n0:0≤t.n
 a:(onS t.a P.1 P.2).fold.nil
 b:(onS t.b P.1 P.2).fold.nil
def M8(l:List (Sn×Sn))(w:List Yx):Prop:=l.length=w.length∧∀(i:Nat) (a:Sn×Sn) (b:Yx),l[i]? =some a→w[i]? =some b→YQ a b
theorem M8.nil:M8 [] []:=⟨rfl,fun i a b h=>by simp at h⟩
theorem M8.cons{a:Sn×Sn}{b:Yx}{l:List (Sn×Sn)}{w:List Yx}(h:YQ a b)(hl:M8 l w):M8 (a::l) (b::w):=⟨by simp[hl.1],fun i x y hx hy=>by
 cases i with
 |zero=>simp at hx hy;subst hx hy;exact h
 |succ i=>exact hl.2 i x y hx hy⟩
theorem TM(d:Dp):kA (eY d)=kA d∧kA (iS d)=kA d:=by
 unfold kA eY iS;simp only[s8];omega
theorem Cd{d:Dp}(h:iL 4294967296 d):(kA d).natAbs<2^67:=by
 unfold iL at h;have h1:d.x.natAbs*d.x.natAbs≤4294967296*4294967296:=aX (by omega) (by omega);have h2:d.y.natAbs*d.y.natAbs≤4294967296*4294967296:=aX (by omega) (by omega);have e:(kA d).natAbs≤d.x.natAbs*d.x.natAbs+d.y.natAbs*d.y.natAbs:=by
  unfold kA;rw[←cL,←cL];exact Int.natAbs_add_le _ _
 exact iN e (iN (Nat.add_le_add h1 h2) (by decide))
theorem C0{d e:Dp}(h:iL 4294967296 d)(g:iL 4294967296 e):(qF d e).natAbs<2^67:=by
 unfold iL at h g;have h1:d.x.natAbs*e.x.natAbs≤4294967296*4294967296:=aX (by omega) (by omega);have h2:d.y.natAbs*e.y.natAbs≤4294967296*4294967296:=aX (by omega) (by omega);have e:(qF d e).natAbs≤d.x.natAbs*e.x.natAbs+d.y.natAbs*e.y.natAbs:=by
  unfold qF;rw[←cL,←cL];exact Int.natAbs_add_le _ _
 exact iN e (iN (Nat.add_le_add h1 h2) (by decide))
theorem lM{d:Dp}(h:iL 4294967296 d):d.x.natAbs<2^34∧d.y.natAbs<2^34:=by
 unfold iL at h;omega
theorem Aj{d:Dp}(h:iL 4294967296 d):iL 4294967296 (eY d)∧iL 4294967296 (iS d)∧iL 4294967296 (jw d):=by
 unfold iL eY iS jw at*;simp only;omega
open Go.RowKit Go.MapKept
structure Ls(α:Type) where
 f:α→Value
 d:TypeDesc
 inj:∀a b,f a=f b→a=b
 key:∀a,IsKey d (f a)
def dH:Ls Int:=⟨.int .i64,.int .i64,fun a b h=>by injection h,fun a=>rfl⟩
def ea:Ls ByteArray:=⟨.string,.string,fun a b h=>by injection h,fun a=>trivial⟩
section
variable{α:Type} [DecidableEq α]
def gC{β:Type}(k:α):List (α×β)→Option β
 | []=>none
 |(a,v)::r=>if k=a then some v else gC k r
def la{β:Type}(k:α)(v:β):List (α×β)→List (α×β)
 | []=>[(k,v)]
 |(a,u)::r=>if k=a then(k,v)::r else(a,u)::la k v r
def sK(k:α):List (α×Value)→Nat→Option (Nat×Value)
 | [],_=>none
 |(a,v)::r,i=>if k=a then some (i,v)else sK k r (i+1)
def bV(K:Ls α)(l:List (α×Value)):List (Value×Value):=l.map fun e=>(K.f e.1,e.2)
theorem iI{β:Type}(k j:α)(v:β):∀l:List (α×β),gC j (la k v l)=if j=k then some v else gC j l
 | []=>by simp[la,gC]
 |(a,u)::r=>by
  unfold la;by_cases h:k=a
  ·subst h;simp only[fj,gC];by_cases hj:j=k<;>simp[hj]
  ·simp only[h,dZ,gC];by_cases hj:j=a
   ·subst hj;simp[Ne.symm h]
   ·simp only[hj,dZ];exact iI k j v r
theorem CN(k:α):∀(l:List (α×Value)) (i:Nat),(sK k l i).map (·.2)=gC k l
 | [],i=>rfl
 |(a,u)::r,i=>by
  unfold sK gC;by_cases h:k=a
  ·simp[h]
  ·simp only[h,dZ];exact CN k r (i+1)
theorem AA{k:α}:∀{l:List (α×Value)} {i:Nat},sK k l i=none→∀v,la k v l=l++[(k,v)]
 | [],i,_,v=>rfl
 |(a,u)::r,i,h,v=>by
  unfold sK at h;unfold la;by_cases hk:k=a
  ·simp[hk]at h
  ·simp only[hk,dZ]at h⊢;rw[AA h v];rfl
theorem AB{k:α}:∀{l:List (α×Value)} {i j:Nat} {u:Value},sK k l i=some (j,u)→i≤j∧l[j-i]? =some (k,u)∧∀v,la k v l=l.set (j-i) (k,v)
 | [],i,j,u,h=>by simp[sK]at h
 |(a,w)::r,i,j,u,h=>by
  unfold sK at h;by_cases hk:k=a
  ·subst hk;simp only[fj,aq,aG]at h;obtain⟨rfl,rfl⟩:=h;refine⟨aj _,by simp,fun v=>by simp[la]⟩
  ·simp only[hk,dZ]at h;obtain⟨h1,h2,h3⟩:=AB h;refine⟨by omega,?_,fun v=>?_⟩
   ·rw[show j-i=(j-(i+1))+1 by omega];simpa using h2
   ·unfold la;simp only[hk,dZ];rw[h3 v,show j-i=(j-(i+1))+1 by omega];rfl
theorem tG(K:Ls α)(k:α):∀(es:List MapEntry) (l:List (α×Value)) (i:Nat),es.map (fun e=>(e.key,e.val))=bV K l→Instr.findNow K.d (K.f k) es i=some (sK k l i)
 | [],[],i,_=>rfl
 | [],y::l,i,h=>by simp[bV]at h
 |e::es,[],i,h=>by simp[bV]at h
 |e::es,(a,v)::l,i,h=>by
  simp only[bV,bQ,oT,aG]at h;obtain⟨⟨h1,h2⟩,h3⟩:=h;obtain⟨r,hr,Z5⟩:=sameNow_of_keys (K.key k) (K.key a);unfold Instr.findNow;rw[h1,hr];unfold sK;by_cases hk:k=a
  ·subst hk;rw[Z5.2 rfl,h2];simp
  ·have:r=false:=by
    cases r with
    |false=>rfl
    |true=>exact absurd (K.inj _ _ (Z5.1 rfl)) hk
   subst this;simp only[hk,dZ];exact tG K k es l (i+1) h3
end
section
variable{T:Tb}{P:Program}{fin:VS→List aC→Prop}{c:fF}{Γ:List aC}
def E3(e:Ev)(O:List (Nat×List Value))(M:List (Nat×List (Value×Value)))(v:Value):fF:=
 match e with
 | .own o c'=>⟨({c'.s with own:=O,maps:=M}:VS).put o.dst (.val v),c'.k⟩
 |_=>⟨⟨[],[],[],[]⟩,[]⟩
def La(e:Ev):Option (List (Nat×List Value)×List (Nat×List (Value×Value))):=
 match e with
 | .own o c'=>match o.op with
  | .makeMap _ none=>some (c'.s.own,c'.s.maps)
  |_=>none
 |_=>none
def K_(e:Ev):Option (TypeId×Value×Value×Bool×List (Nat×List Value)×List (Nat×List (Value×Value))):=
 match e with
 | .own o c'=>match o.op with
  | .lookup t m k ok=>match c'.s.ev m,c'.s.ev k with
   | .val mv,.val kv=>some (t,mv,kv,ok,c'.s.own,c'.s.maps)
   |_,_=>none
  |_=>none
 |_=>none
def Lc(e:Ev):Option (TypeId×Value×Value×Value×List (Nat×List Value)×List (Nat×List (Value×Value))):=
 match e with
 | .own o c'=>match o.op with
  | .mapUpdate t m k x=>match c'.s.ev m,c'.s.ev k,c'.s.ev x with
   | .val mv,.val kv,.val xv=>some (t,mv,kv,xv,c'.s.own,c'.s.maps)
   |_,_,_=>none
  |_=>none
 |_=>none
theorem JY(D:List Nat)(own:List (Nat×List Value))(maps:List (Nat×List (Value×Value)))
  (hk:∀g,W T P fin (E3 (aE T (aV T D 999 c)) own ((g,[])::maps) (.map (some g))) Γ)(h:La (aE T (aV T D 999 c))=some (own,maps):=by kernel_rfl):W T P fin c Γ:=by
 refine ez D 999 ?_;generalize aV T D 999 c=c1 at*;unfold La at h;split at h
 ·rename_i o c' he;rw[he]at hk;split at h
  ·rename_i t hop;simp only[aq,aG]at h;obtain⟨rfl,rfl⟩:=h;refine W.mop (fun v O M Δ=>∃g,v=.map (some g)∧O=c'.s.own∧M=(g,[])::c'.s.maps∧Δ=[]) he ?_ (fun v O M Δ ⟨g,e1,e2,e3,e4⟩=>by subst e1 e2 e3 e4;exact hk g);intro I w hd hh ho hon hm hmn hx;have hlt:∀b m,(b,m)∈c'.s.maps→b<w.heap.size:=fun b m hb=>by
    obtain⟨es,cl,g1,_⟩:=hm b m hb;exact cw g1
   refine⟨.map (some w.heap.size),c'.s.own,(w.heap.size,[])::c'.s.maps,[],w.alloc (.map #[] 0),.value (.map (some w.heap.size)),?_,.inl rfl,⟨_,rfl,rfl,rfl,rfl⟩,?_,?_,fun b cs hb=>.inl (.inl ⟨cs,hb⟩),hon,?_,?_,?_,aD.nil _ _⟩
   ·simp only[execOp,hop,Option.map_none,Instr.makeMap,cB,dT,run_newObj,bu,World.alloc_eq]
   ·exact⟨rfl,rfl,rfl,by simp,fun k hk' _=>kB _ _ _ hk'⟩
   ·intro b cs hb;obtain⟨e,h1,h2⟩:=ho b cs hb;exact⟨e,h1,by rw[kB _ _ _ (cw h2)];exact h2⟩
   ·intro b m hb;rcases List.mem_cons.1 hb with hb|hb
    ·injection hb with h1 h2;subst h1 h2;exact⟨#[],0,(heap_alloc w _).1,rfl⟩
    ·obtain⟨es,cl,g1,g2⟩:=hm b m hb;exact⟨es,cl,by rw[kB _ _ _ (cw g1)];exact g1,g2⟩
   ·intro b m hb;rcases List.mem_cons.1 hb with hb|hb
    ·injection hb with h1 h2;subst h1;exact .inr (aj _)
    ·exact .inl (.inr ⟨m,hb⟩)
   ·simp only[bQ,km];refine⟨fun hmm=>?_,hmn⟩;obtain⟨⟨b,m⟩,h1,h2⟩:=List.mem_map.1 hmm;have:=hlt b m h1;simp only at h2;omega
  ·simp at h
 ·simp at h
theorem vC(D:List Nat){α:Type} [DecidableEq α](K:Ls α)(ty key el:TypeId)(ok:Bool)(own:List (Nat×List Value))(maps:List (Nat×List (Value×Value)))(b:Nat)(k:α)(l:List (α×Value))(z:Value)(hT:T.Ok P)
   (lV:(b,bV K l)∈maps)
  (hk:W T P fin (E3 (aE T (aV T D 999 c)) own maps (if ok then .tuple #[(gC k l).getD z,.bool (gC k l).isSome]else(gC k l).getD z)) Γ)(h:K_ (aE T (aV T D 999 c))=some (ty,.map (some b),K.f k,ok,own,maps):=by kernel_rfl)(ht:P.underlying ty=some (.map key el):=by kernel_rfl)(hkd:P.underlying key=some K.d:=by kernel_rfl)(hz:(T.get el).map (·.zero)=some z:=by kernel_rfl):W T P fin c Γ:=by
 refine ez D 999 ?_;generalize aV T D 999 c=c1 at*;unfold K_ at h;split at h
 ·rename_i o c' he;rw[he]at hk;split at h
  ·rename_i t m x ok' hop;split at h
   ·rename_i mv kv e1 e2;simp only[aq,aG]at h;obtain⟨rfl,rfl,rfl,rfl,rfl,rfl⟩:=h;refine W.mop (fun v O M Δ=>v=(if ok' then .tuple #[(gC k l).getD z,.bool (gC k l).isSome]else(gC k l).getD z)∧O=c'.s.own∧M=c'.s.maps∧Δ=[]) he ?_ (fun v O M Δ ⟨e1,e2,e3,e4⟩=>by subst e1 e2 e3 e4;exact hk);intro I w hd hh ho hon hm hmn hx;obtain⟨es,clock,hb,hes⟩:=hm b _ lV;have hf:=tG K k es.toList l 0 hes;obtain⟨y,hy,hyz⟩:∃y,T.get el=some y∧y.zero=z:=by
     cases hg:T.get el with
     |none=>rw[hg]at hz;simp at hz
     |some y=>rw[hg]at hz;simp at hz;exact⟨y,rfl,hz⟩
    obtain⟨i,d,hi,hdd,Fl,_⟩:=fk (hT.ty _ _ hy);refine⟨_,c'.s.own,c'.s.maps,[],w,.value (if ok' then .tuple #[(gC k l).getD z,.bool (gC k l).isSome]else(gC k l).getD z),?_,.inl rfl,⟨rfl,rfl,rfl,rfl⟩,ka.refl _ _,ho,fun b cs hb=>.inl (.inl ⟨cs,hb⟩),hon,hm,fun b m hb=>.inl (.inr ⟨m,hb⟩),hmn,aD.nil _ _⟩;have hget:=CN k l 0;simp only[execOp,hop,cE e1,cE e2,Instr.lookup,cB,cM ht,bu,Go.MapKept.run_getObj_map hb,dT,run_checkKey hkd (K.key k),run_findKey hkd hf];cases ha:sK k l 0 with
    |none=>
     rw[ha]at hget;rw[←hget];simp only[cB,HJ hi Fl,bu,dT,Option.map_none,Option.getD_none,lF,hyz]
    |some p=>
     rw[ha]at hget;rw[←hget];simp only[cB,bu,dT,di,jM,vT]
   ·simp at h
  ·simp at h
 ·simp at h
theorem CI(D:List Nat){α:Type} [DecidableEq α](K:Ls α)(ty key el:TypeId)(own:List (Nat×List Value))(M1 M2:List (Nat×List (Value×Value)))(b:Nat)(k:α)(v:Value)(l:List (α×Value))
  
  (hk:W T P fin (E3 (aE T (aV T D 999 c)) own (M1++(b,bV K (la k v l))::M2) undef) Γ)(h:Lc (aE T (aV T D 999 c))=some (ty,.map (some b),K.f k,v,own,M1++(b,bV K l)::M2):=by kernel_rfl)(ht:P.underlying ty=some (.map key el):=by kernel_rfl)(hkd:P.underlying key=some K.d:=by kernel_rfl):W T P fin c Γ:=by
 refine ez D 999 ?_;generalize aV T D 999 c=c1 at*;unfold Lc at h;split at h
 ·rename_i o c' he;rw[he]at hk;split at h
  ·rename_i t m x u hop;split at h
   ·rename_i mv kv xv e1 e2 e3;simp only[aq,aG]at h;obtain⟨rfl,rfl,rfl,rfl,rfl,em⟩:=h;refine W.mop (fun v' O M Δ=>v'=undef∧O=c'.s.own∧M=M1++(b,bV K (la k xv l))::M2∧Δ=[]) he ?_ (fun v O M Δ ⟨e1,e2,e3,e4⟩=>by subst e1 e2 e3 e4;exact hk);intro I w hd hh ho hon hm hmn hx;rw[em]at hm hmn hx⊢;obtain⟨es,clock,hb,hes⟩:=hm b (bV K l) (by simp);have hf:=tG K k es.toList l 0 hes;have hne:∀b' m,((b',m)∈M1∨(b',m)∈M2)→b'≠b:=fun b' m qP e=>by
     subst e;simp only[aS,bQ]at hmn;have:=(List.perm_middle (a:=b') (l₁:=M1.map (·.1)) (l₂:=M2.map (·.1))).nodup_iff.1 hmn;rw[km]at this;apply this.1;rcases qP with qP|qP
     ·exact gU _ (List.mem_map.2 ⟨(b',m),qP,rfl⟩)
     ·exact iH _ (List.mem_map.2 ⟨(b',m),qP,rfl⟩)
    have hown:∀b' cs,(b',cs)∈c'.s.own→b'≠b:=fun b' cs qP e=>by
     subst e;obtain⟨e',_,g⟩:=ho b' cs qP;rw[hb]at g;simp at g
    obtain⟨Zz,Ef,hrun,I3⟩:∃Zz Ef,(execOp c'.s.rho o).run P w=.ok .skip {w with heap:=w.heap.setIfInBounds b (.map Zz Ef)}∧Zz.toList.map (fun e=>(e.key,e.val))=bV K (la k xv l):=by
     simp only[execOp,hop,cE e1,cE e2,cE e3,Instr.mapUpdate,cB,cM ht,bu,Go.MapKept.run_getObj_map hb,dT,run_checkKey hkd (K.key k),run_findKey hkd hf];cases ha:sK k l 0 with
     |none=>
      refine⟨es.push {key:=K.f k,val:=xv,born:=clock},clock+1,by simp only[run_setObj_map _ hb,bu],?_⟩;rw[AA ha];simp only[Array.toList_push,aS,bQ,dd,hes,bV]
     |some p=>
      obtain⟨j,u⟩:=p;obtain⟨_,g2,g3⟩:=AB ha;rw[Nat.sub_zero]at g2 g3;have g4:(bV K l)[j]? =some (K.f k,u):=by simp[bV,g2]
      rw[←hes,bL]at g4;obtain⟨e0,I1,Ii⟩:∃e0,es.toList[j]? =some e0∧(e0.key,e0.val)=(K.f k,u):=by
       cases hj:es.toList[j]? with
       |none=>rw[hj]at g4;simp at g4
       |some e0=>rw[hj]at g4;exact⟨e0,rfl,by simpa using g4⟩
      simp only[aG]at Ii;have hj:es[j]? =some e0:=by simpa using I1
      refine⟨es.modify j fun e=>{key:=K.f k,val:=xv,born:=e.born},clock,by simp only[hj,di,jM,Ii.1,cB,run_keyThatStays (K.key k),run_setObj_map _ hb,bu],?_⟩;rw[g3 xv];refine List.ext_getElem? fun i=>?_;simp only[bV,bL,bC,eV,j1];have hi:=dM (fun q=>q[i]?) hes;simp only[bV,bL,eV]at hi;have hlen:es.size=l.length:=by
       have:=dM List.length hes;simpa [bV]using this
      by_cases hij:j=i
      ·subst hij;have hjl:j<l.length:=(List.getElem?_eq_some_iff.1 g2).1;rw[hj];simp[hjl]
      ·simp only[hij,dZ];exact hi
    have OO:=heap_set (o':=.map Zz Ef) hb;refine⟨undef,c'.s.own,M1++(b,bV K (la k xv l))::M2,[],_,.skip,hrun,.inr ⟨rfl,rfl⟩,⟨rfl,rfl,rfl,rfl⟩,⟨rfl,rfl,rfl,by simp,fun i _ hi=>OO.2 i (fun e=>hi (.inr ⟨bV K l,by subst e;simp⟩))⟩,?_,fun b cs hb=>.inl (.inl ⟨cs,hb⟩),hon,?_,?_,?_,aD.nil _ _⟩
    ·intro b' cs qP;obtain⟨e,h1,h2⟩:=ho b' cs qP;exact⟨e,h1,by rw[OO.2 b' (hown b' cs qP)];exact h2⟩
    ·intro b' m qP;simp only[eA,aF,aG]at qP;rcases qP with qP|⟨rfl,rfl⟩|qP
     ·obtain⟨es1,cl1,h1,h2⟩:=hm b' m (by simp[qP]);exact⟨es1,cl1,by rw[OO.2 b' (hne b' m (.inl qP))];exact h1,h2⟩
     ·exact⟨Zz,Ef,OO.1,I3⟩
     ·obtain⟨es1,cl1,h1,h2⟩:=hm b' m (by simp[qP]);exact⟨es1,cl1,by rw[OO.2 b' (hne b' m (.inr qP))];exact h1,h2⟩
    ·intro b' m qP;simp only[eA,aF,aG]at qP;rcases qP with qP|⟨rfl,rfl⟩|qP
     ·exact .inl (.inr ⟨m,by simp[qP]⟩)
     ·exact .inl (.inr ⟨bV K l,by simp⟩)
     ·exact .inl (.inr ⟨m,by simp[qP]⟩)
    ·simpa using hmn
   ·simp at h
  ·simp at h
 ·simp at h
end
def tbM(L:List Nat)(B:Prop)(v:Value):Tb:={tb with hand:=true,calm:=fun f=> !lI f L,pan:=fun ch=>B∧ch=[{v,recovered:=false}]}
theorem aaY(L:List Nat)(B:Prop)(v:Value):(tbM L B v).Ok Tryz.prog:=⟨au.mixed,au.ty⟩
theorem aw.m{L:List Nat}{B:Prop}{x:Value}{f:FuncId}{args:List Value}{Γ:List aC}{post:Value→List aC→Prop}(h:aw tb Tryz.prog f args Γ post):aw (tbM L B x) Tryz.prog f args Γ post:=h
theorem ko.m{L:List Nat}{B:Prop}{x:Value}{f:FuncId}{args:List Value}{Γ:List aC}{post:Value→List (Nat×List Value)→List aC→Prop}(h:ko tb Tryz.prog f args Γ post):ko (tbM L B x) Tryz.prog f args Γ post:=h
open Go.RowKit Go.ChangeShapes Go.WideShapes
section
variable{H:Type}{enc:TypeId×Value→H}{P:Program}{w:World}
theorem Jp{t:TypeId}{fs:Array Field}{v:Value}{d:DataW H}{ps:List MemPlace}(ht:P.underlying t=some (.struct fs)){r:Reach}{b0:Nat}(hval:Value.okWide P w r b0 t v)(h:DataW.Trod enc P w 0 (fun _=>true) true t v d ps):
  ∃cs:Array Value,v=.agg cs∧cs.size=P.cellsOf t∧∀(i:Nat) (f:Field),fs[i]? =some f→f.offset=i→P.cellsOf f.type=1→∀c,cs[i]? =some c→∃n y,DataW.trod enc P w 0 (fun _=>true) true n f.type [c]=some y:=by
 obtain⟨cs,rfl,hsz⟩:=okWide_struct ht hval;obtain⟨fuel,hf⟩:=h;obtain⟨xs,n,_,hx,hl,hlen,hff⟩:=DataW.trod_struct ht hf;refine⟨cs,rfl,hsz,fun i f hi ho hc c hcs=>?_⟩;have hix:i<xs.length:=by
  have:=(Array.getElem?_eq_some_iff.1 hi).1;omega
 have:=hff i f hi;rw[ho,hc]at this;refine⟨n,xs[i],?_⟩;have e:((Value.agg cs).cells.toList.drop i).take 1=[c]:=by
  have hlt:=(Array.getElem?_eq_some_iff.1 hcs).1;simp only[Value.cells];rw[bA (by simpa using hlt)];simp only[List.take_succ_cons,mT,Array.getElem_toList];rw[(Array.getElem?_eq_some_iff.1 hcs).2]
 rw[e]at this;rw[this,ah hix]
theorem AJ{t:TypeId}{k:IntKind}{c:Value}{n:Nat}{y:DataW H×List MemPlace}(ht:P.underlying t=some (.int k))(h:DataW.trod enc P w 0 (fun _=>true) true n t [c]=some y):∃z,c=.int k z∧(Lit.int k z).wf=true:=by
 obtain⟨z,hc,_,hw⟩:=DataW.trod_int ht h;simp at hc;exact⟨z,hc,hw⟩
end
open Go.RowKit
def qJ:Code→List It→List (Code×List It)
 | .seq a b,k=>qJ a (.code b::k)++qJ b k
 | .block id b,k=>qJ b (.blk id::k)
 | .cond _ a b,k=>qJ a k++qJ b k
 | .scope b,k=>qJ b k
 | .loop b,k=>[(b,k)]
 |_,_=>[]
def RK(fn:Func)(i:Nat):Code:=match fn.body with
 |some c=>((qJ c []).getD i (.skip,[])).1
 |none=>.skip
def RL(fn:Func)(i:Nat):List It:=match fn.body with
 |some c=>((qJ c []).getD i (.skip,[])).2
 |none=>[]
def aaP(l:List SV):List (Nat×SV)→List SV
 | []=>l
 |(i,v)::r=>aaP (l.set i v) r
def aaO(l:List (Option (List Value))):List (Nat×List Value)→List (Option (List Value))
 | []=>l
 |(i,v)::r=>aaO (l.set i (some v)) r
def dX(nt nb:Nat)(U:List (Nat×SV))(X:List (Nat×List Value))(O:List (Nat×List Value))(M:List (Nat×List (Value×Value))):VS:=
 ⟨aaP (List.replicate nt .junk) U,aaO (List.replicate nb none) X,O,M⟩
def VS.only(s:VS)(N B:List Nat):VS:=s.forget (iD N (List.range s.tmps.length)) (iD B (List.range s.boxes.length))
section
variable{T:Tb}{P:Program}{fin:VS→List aC→Prop}{c:fF}{Γ:List aC}
theorem jO(D:List Nat)(fn:Func)(ix nt nb:Nat){α:Type}(N B:List Nat)(U:α→List (Nat×SV))(X:α→List (Nat×List Value))(O:α→List (Nat×List Value))(M:α→List (Nat×List (Value×Value)))(G:α→List aC)(inv:α→Prop)(μ:α→Nat)(a0:α)
  
  
  (i0:inv a0)(f0:∀I w,bj T I w→aD Γ I w→aD (G a0) I w)
  (hr:∀(a:α) (R:VS→List aC→Prop),inv a→
   (∀(D':List Nat) (c':fF) (Γ':List aC) (a':α),kD (aE T (aV T D' 999 c'))=some R→
    (kE (aE T (aV T D' 999 c'))).map (fun s=>s.only N B)=some (dX nt nb (U a') (X a') (O a') (M a'))→
    inv a'→μ a'<μ a→(∀I w,bj T I w→aD Γ' I w→aD (G a') I w)→W T P fin c' Γ')→
   W T P fin ⟨dX nt nb (U a) (X a) (O a) (M a),.code (RK fn ix)::.again R::RL fn ix⟩ (G a))(h:oB (aE T (aV T D 999 c))=true:=by kernel_rfl)(hb:tP (aE T (aV T D 999 c))=RK fn ix:=by kernel_rfl)(hk:Dl (aE T (aV T D 999 c))=RL fn ix:=by kernel_rfl)(h0:(mN (aE T (aV T D 999 c))).only N B=dX nt nb (U a0) (X a0) (O a0) (M a0):=by kernel_rfl):W T P fin c Γ:=by
 refine ez D 999 ?_;generalize aV T D 999 c=c1 at*;generalize he:aE T c1=e at*;cases e with
 |loop b c'=>
  have hb:b=RK fn ix:=hb;have hk:c'.k=RL fn ix:=hk;rw[←hb,←hk]at hr;have key:∀(m:Nat) (s:VS) (Γ':List aC),(∃a,s.only N B=dX nt nb (U a) (X a) (O a) (M a)∧inv a∧μ a=m∧∀I w,bj T I w→aD Γ' I w→aD (G a) I w)→
    W T P fin ⟨s,.code b::.again (fun s' Γ'=>∃m',m'<m∧∃a,s'.only N B=dX nt nb (U a) (X a) (O a) (M a)∧inv a∧μ a=m'∧∀I w,bj T I w→aD Γ' I w→aD (G a) I w)::c'.k⟩ Γ':=by
   rintro m s Γ' ⟨a,hs,hi,rfl,hf⟩;refine W.forget (iD N (List.range s.tmps.length)) (iD B (List.range s.boxes.length)) rfl ?_;rw[show s.forget (iD N (List.range s.tmps.length)) (iD B (List.range s.boxes.length))=dX nt nb (U a) (X a) (O a) (M a)from hs];refine W.sub rfl hf (hr a _ hi (fun D' c' Γ' a' hR hS hi' hl' hf'=>ez D' 999 ?_));generalize aV T D' 999 c'=c2 at*;cases hv:aE T c2<;>rw[hv]at hR hS<;>simp[kD,kE]at hR hS;subst hR;exact W.again hv ⟨μ a',hl',a',hS,hi',rfl,hf'⟩
  exact W.loop (fun m s Γ'=>∃a,s.only N B=dX nt nb (U a) (X a) (O a) (M a)∧inv a∧μ a=m∧∀I w,bj T I w→aD Γ' I w→aD (G a) I w) (μ a0) he ⟨a0,h0,i0,rfl,f0⟩ key
 |_=>simp[oB]at h
end
end Go.Proofs.YtgaaopjagcaojaaGreat
