import Derived.Test.YtgaaopjagcaojaaGreatVk
import Derived.Deep.SlicePairs
import Derived.Test.YtgaaopjagcaojaaGreatNatM
set_option linter.unusedSimpArgs false
set_option linter.unusedVariables false
namespace Go.Proofs.YtgaaopjagcaojaaGreat
open Go.RowKit Go.IntWalk
def Y7(l0:List (Sn×Sn))(v:Value)(Δ:List aC):Prop:=∃(b off c:Nat) (l:List j4),v=.slice (some ⟨b,off,none⟩) l.length c∧l.length≤c∧l.map j4.num=l0∧Δ=[OL gH (some ⟨b,off,none⟩) (130,l)]
def Nf(gj:List Dp)(width kind bg en:Int)(v:Value)(Δ:List aC):Prop:=
 (rh gj width kind bg en≠0∧v=.tuple #[.slice none 0 0,.int .i64 (rh gj width kind bg en)]∧Δ=[])∨
 (rh gj width kind bg en=0∧∃(ao:Option Addr) (c:Nat) (l:List j4),v=.tuple #[.slice ao l.length c,.int .i64 0]∧l.length≤c∧l.map j4.num=sk (iO gj).1.reverse (iO gj).2.reverse width kind bg en∧Δ=[OL gH ao (130,l)])
theorem xS(p d:Dp)(h b:Rat)(r:Bool):2≤(mD p d h b r).length∧(mD p d h b r).length≤5:=by
 cases r<;>simp[mD]
theorem CP(width kind bg en:Int):rK width kind bg en=(!(decide (kind=0)||decide (kind=1)||decide (kind=2)||decide (kind=4))||decide (width<1)||decide (width>2147483647)||decide (bg< -2147483647)||decide (bg>2147483647)||decide (en< -2147483647)||decide (en>2147483647)):=rfl
theorem Hd{gj:List Dp}{width kind bg en:Int}(h:¬ 8191<gj.length)(ha:rK width kind bg en=true):rh gj width kind bg en=1:=by
 unfold rh;rw[if_neg h,if_pos ha]
theorem US{gj:List Dp}(h:gj.any tW=false):∀p∈gj,iL 2147483648 p:=fun p hp=>by
 have:tW p=false:=by
  cases ho:tW p with
  |false=>rfl
  |true=>rw[List.any_eq_true.2 ⟨p,hp,ho⟩]at h;simp at h
 simp only[tW,Hh,fS,aW]at this;unfold iL;omega
theorem eL{l:List Dp}{k:Nat}{d:Dp}(h:l[k]? =some d):∀(j:Nat) (v:Value),(ed d)[j]? =some v→(l.flatMap ed)[k*2+j]? =some v:=fun j v hv=>by
 obtain⟨hk,rfl⟩:=List.getElem?_eq_some_iff.1 h;exact N4 hk hv
structure Yv where
 i:Nat
 z:Int
 v:Value
 O:List (Nat×List Value)
 l:List j4
 ao:Option Addr
 ys:List Value
theorem kP{l:List j4}{q:List (Sn×Sn)}(h:l.map j4.num=q):l.length=q.length:=by rw[←h,bM]
section
variable{T:Tb}{P:Program}{fin:VS→List aC→Prop}{c:fF}{Γ:List aC}
theorem Ns(D:List Nat)(z b off r len cap:Nat)(y:Int)(hy:y=r)(hT:T.Ok P)
  (hk:W T P fin (fH (aE T (aV T D 999 c)) (.slice (some ⟨b,off,none⟩) r cap)) Γ)(h:Ac T (aE T (aV T D 999 c))=some (z,.slice (some ⟨b,off,none⟩) len cap,none,some (.int .i64 y)):=by kernel_rfl)(hrs:r≤cap:=by omega)(h0:0<cap:=by omega):W T P fin c Γ:=by
 subst hy;refine CL D z b off len cap none (some (.int .i64 (r:Int))) 0 r hT (h:=h) (.inr ⟨rfl,rfl⟩) (.inl rfl) (aH _) (hrs:=hrs) (hla:=h0) ?_;rw[qD,Nat.sub_zero,Nat.sub_zero];exact hk
theorem Au{b off L:Nat}{l:List j4} [h:aZ (OL gH (some ⟨b,off,none⟩)) (L,l) Γ]{k:Nat}{e:j4}(he:l[k]? =some e):∀I w,bj T I w→aD Γ I w→∀j v,(gH.cells e)[j]? =some v→w.cell? ⟨b,off+k*40+j,none⟩=some v:=fun I w hd hh j v hv=>by
 obtain⟨hk,rfl⟩:=List.getElem?_eq_some_iff.1 he;exact JW (T:=T) (Γ:=Γ) gH b off k hk I w hd hh j v hv
theorem rp(b off:Nat){l:List j4}{L:Nat} [h:aZ (OL gH (some ⟨b,off,none⟩)) (L,l) Γ](own:List (Nat×List Value))(r c:Nat)(hr:r≤l.length):pY T Γ own (.slice (some ⟨b,off,none⟩) r c) r 40 ((l.take r).flatMap gH.cells):=
 ⟨some ⟨b,off,none⟩,c,rfl,by rw[qp gH,dP,fy hr];rfl,fun _=>⟨⟨b,off,none⟩,rfl,fun I w _ hh _ j u hu=>by
  rw[gZ];refine RA.cell (h.p hh).2 ?_;simp only;rw[←j2 r l,br,cZ (List.getElem?_eq_some_iff.1 hu).1];exact hu⟩⟩
end
section
variable{Γ:List aC}
theorem vf{l:List j4}:∀u∈l.flatMap gH.cells,u.oneCell'=true:=fun u hu=>by
 obtain⟨e,_,he⟩:=List.mem_flatMap.1 hu;exact qK e u he
theorem N7{ao:Option Addr}{L k:Nat}{l:List j4}{e:j4} [h:aZ (OL gH ao) (L,l) Γ](he:l[k]? =some e):∀(I:gd) (w:World),bj tb I w→aD Γ I w→(OS gH (L,[e])).p I w:=fun I w _ hh x hx=>by
 simp only[aF,aJ,b_]at hx;subst hx;obtain⟨hk,rfl⟩:=List.getElem?_eq_some_iff.1 he;exact(h.p hh).1 _ (d_ hk)
theorem N9{L r:Nat}{l l2:List j4}{ao:Option Addr} [h:aZ (OS gH) (L,l) Γ] [hx:aZ (OL gH ao) (L,l2) Γ]:∀(I:gd) (w:World),bj tb I w→aD Γ I w→(OS gH (L,l++l2.take r)).p I w:=fun I w _ hh x hx'=>by
 rcases List.mem_append.1 hx' with h1|h1
 ·exact h.p hh x h1
 ·exact(hx.p hh).1 x (fm h1)
theorem N6{b:Nat}{xs:List Value} [h:aZ (eT b) xs Γ]:∀(I:gd) (w:World),bj tb I w→aD Γ I w→(RA (some ⟨b,0,none⟩) xs).p I w:=fun I w _ hh=>RA.of_row (h.p hh) (fun _ _ h=>h)
theorem N_:∀(I:gd) (w:World),bj tb I w→aD Γ I w→(RA none []).p I w:=fun I w _ _=>RA.nil _ _ _
theorem yF(p d:Dp)(x y:Int)(hx:x=d.x)(hy:y=d.y)(hq bq:Qw){h b:Rat}{L L1:Nat} [aZ (QG hq) (L,h) Γ] [aZ (QG bq) (L1,b) Γ](r:Bool)(hp:iL 2147483648 p)(hd:iL 4294967296 d)(h0:kA d≠0)(hL:L≤5∧L1≤5:=by omega):
  aw tb Tryz.prog 189 [dv p,.agg #[.int .i64 x,.int .i64 y],qv hq.n hq.a hq.m hq.b,qv bq.n bq.a bq.m bq.b,.bool r] Γ (Y7 (mD p d h b r)):=by
 refine(pX (Y7 (mD p d h b r)) (XF p d x y hx hy hq bq r hp hd h0) ?_).post (fun _ _ h=>h.2);rintro v Δ ⟨ao,c,l,rfl,hlc,hl,rfl⟩ I w hh;have hln:=kP hl;have ht:=xS p d h b r;obtain⟨b0,off,rfl,_⟩:=hh.h0'.2 (by
  intro e;have:=qp gH l;simp only at e;rw[e]at this;simp[gH]at this;omega)
 exact⟨b0,off,c,l,rfl,hlc,hl,rfl⟩
theorem XA(a b:Int)(h:Rat)(hh:h=Rat.divInt a b)(hb:b≠0)(h1: -9223372036854775808≤a)(h2:a<9223372036854775808)(h3: -9223372036854775808≤b)(h4:b<9223372036854775808):
  aw tb Tryz.prog 154 [.int .i64 a,.int .i64 b] Γ (Uc 2 h):=by
 subst hh;exact BH a b (hb:=hb) (h1:=h1) (h2:=h2) (h3:=h3) (h4:=h4)
theorem S_(ao:Option Addr)(n c:Nat)(gj cs ws:List Dp)(hcs:cs=(iO gj).1.reverse)(hws:ws=(iO gj).2.reverse) [aZ (RA ao) (gj.flatMap ed) Γ](hn:n=gj.length)(hn2:n≤8191)(hb:∀p∈gj,iL 2147483648 p):
  aw tb Tryz.prog 188 [.slice ao n c] Γ (fun v Δ=>∃(a1 a2:Option Addr) (c1 c2:Nat),v=.tuple #[.slice a1 cs.length c1,.slice a2 ws.length c2]∧Δ=[RA a1 (cs.flatMap ed),RA a2 (ws.flatMap ed)]):=by
 subst hcs hws;rw[fC,fC];exact MB ao n c gj hn hn2 hb
set_option maxHeartbeats 4000000 in
theorem KS(ao:Option Addr)(n c:Nat)(gj:List Dp)(width kind bg en:Int) [aZ (RA ao) (gj.flatMap ed) Γ](hn:n=gj.length):
  aw tb Tryz.prog 128 [.slice ao n c,.int .i64 width,.int .i64 kind,.int .i64 bg,.int .i64 en] Γ (Nf gj width kind bg en):=by
 obtain⟨cs,hcs⟩:∃cs,cs=(iO gj).1.reverse:=⟨_,rfl⟩;obtain⟨ws,hws⟩:∃ws,ws=(iO gj).2.reverse:=⟨_,rfl⟩;have AW:(iO gj).1.length=cs.length:=by rw[hcs,fC]
 have hok:j_ (iO gj).1 (iO gj).2:=zL gj ([],[]) rfl;refine aw.of_W au Tryz.func128 rfl ?_;by_cases AY:8191<gj.length
 ·refine bh [] 24 (decide ((n:Int)>8191)) (ar (by omega)) ?_;have he:rh gj width kind bg en=2:=by unfold rh;rw[if_pos AY]
  exact W.r [24] (.tuple #[.slice none 0 0,.int .i64 2]) (.inl ⟨by rw[he];decide,by rw[he],rfl⟩) bX
 refine aO [] 24 (decide ((n:Int)>8191)) (ak (by omega)) (cW [24] 4 [.int .i64 0,.int .i64 1,.int .i64 2,.int .i64 4] au (fun b1=>W.c0 [] (Te b1 kind) ?_));have hbad:rK width kind bg en=true→Nf gj width kind bg en (.tuple #[.slice none 0 0,.int .i64 1]) []:=fun h=>.inl ⟨by rw[Hd AY h];decide,by rw[Hd AY h],rfl⟩;rw[CP]at hbad;have UL:=CP width kind bg en;refine W.d [] 33 (!(decide (kind=0)||decide (kind=1)||decide (kind=2)||decide (kind=4))) (fun h0=>?_) (fun h0=>?_)
 ·exact W.r [28,53,49,45,41,37,33] (.tuple #[.slice none 0 0,.int .i64 1]) (hbad (by rw[h0];simp)) bX
 refine W.d [33] 37 (decide (width<1)) (fun h1=>?_) (fun h1=>?_)
 ·exact W.r [28,53,49,45,41,37] (.tuple #[.slice none 0 0,.int .i64 1]) (hbad (by rw[h1];simp)) bX
 refine W.d [37] 41 (decide (width>2147483647)) (fun h2=>?_) (fun h2=>?_)
 ·exact W.r [28,53,49,45,41] (.tuple #[.slice none 0 0,.int .i64 1]) (hbad (by rw[h2];simp)) bX
 refine W.d [41] 45 (decide (bg< -2147483647)) (fun h3=>?_) (fun h3=>?_)
 ·exact W.r [28,53,49,45] (.tuple #[.slice none 0 0,.int .i64 1]) (hbad (by rw[h3];simp)) bX
 refine W.d [45] 49 (decide (bg>2147483647)) (fun h4=>?_) (fun h4=>?_)
 ·exact W.r [28,53,49] (.tuple #[.slice none 0 0,.int .i64 1]) (hbad (by rw[h4];simp)) bX
 refine W.d [49] 53 (decide (en< -2147483647)) (fun h5=>?_) (fun h5=>?_)
 ·exact W.r [28,53] (.tuple #[.slice none 0 0,.int .i64 1]) (hbad (by rw[h5];simp)) bX
 refine W.d [53] 28 (decide (en>2147483647)) (fun h6=>?_) (fun h6=>?_)
 ·exact W.r [28] (.tuple #[.slice none 0 0,.int .i64 1]) (hbad (by rw[h6];simp)) bX
 have hgd:rK width kind bg en=false:=by
  rw[UL,h0,h1,h2,h3,h4,h5,h6];rfl
 clear hbad UL;have k1:=eO h1;have k2:=eO h2;have k3:=eO h3;have k4:=eO h4;have k5:=eO h5;have k6:=eO h6;have M5:¬rK width kind bg en=true:=by rw[hgd];decide
 refine W.c0 [28] (PK ao n c gj hn (by omega)) (W.d [] 57 (gj.any tW) (fun h7=>?_) (fun h7=>?_))
 ·have he:rh gj width kind bg en=26:=by unfold rh;rw[if_neg AY,if_neg M5,if_pos h7]
  exact W.r [57] (.tuple #[.slice none 0 0,.int .i64 26]) (.inl ⟨by rw[he];decide,by rw[he],rfl⟩) bX
 have hg7:¬gj.any tW=true:=by rw[h7];decide
 have hin:=US h7;refine bz [57] (S_ ao n c gj cs ws hcs hws hn (by omega) hin) (fun a1 a2 c1 c2=>?_);by_cases Cw:cs.length<2
 ·refine bh [] 67 (decide ((cs.length:Int)<2)) (ar (by omega)) ?_;have he:rh gj width kind bg en=7:=by unfold rh;rw[if_neg AY,if_neg M5,if_neg hg7,AW,if_pos Cw]
  exact W.r [67] (.tuple #[.slice none 0 0,.int .i64 7]) (.inl ⟨by rw[he];decide,by rw[he],rfl⟩) bX
 have Kr:¬(iO gj).1.length<2:=by omega
 have hfw:Lr cs ws:=by
  rw[hcs,hws];exact Oh hok (by intro e;rw[e]at Kr;simp at Kr)
 have lV:∀p∈cs,iL 2147483648 p:=fun p hp=>by
  have:=AM gj ([],[]) (Q:=fun _=>False) (fun q hq=>absurd hq (by simp)) p (by rw[hcs]at hp;exact List.mem_reverse.1 hp);exact hin p (by simpa using this)
 have hlen:=hfw.len;have ad8:cs.length≤8191:=by
  have:=AL gj ([],[]);simp only[a_,bU]at this;have h9:(iO gj).1.length≤gj.length:=this;omega
 have nZ:∀(i:Nat) (d:Dp),ws[i]? =some d→iL 4294967296 d∧mi d=1:=fun i d hd=>by
  have hi:=(List.getElem?_eq_some_iff.1 hd).1;have e1:cs[i]? =some (cs[i]'(by omega)):=ah _;have e2:cs[i+1]? =some (cs[i+1]'(by omega)):=ah _;obtain⟨hne,rfl⟩:=hfw.way i _ _ d e1 e2 hd;exact⟨Rr (lV _ (d_ _)) (lV _ (d_ _)) hne,Hz hne⟩
 have ZP:tq (iO gj).2=true↔∃(i:Nat) (d e:Dp),ws[i]? =some d∧ws[i+1]? =some e∧e=jw d:=by
  rw[hws];exact J8 _
 have oH:∀i,i<ws.length→∃d,ws[i]? =some d:=fun i hi=>⟨_,ah hi⟩;have zb:∀i,i<cs.length→∃d,cs[i]? =some d:=fun i hi=>⟨_,ah hi⟩;have hcn:cs.flatMap ed≠ []:=by intro e;have:=pg cs;rw[e]at this;simp at this;omega
 have hwn:ws.flatMap ed≠ []:=by intro e;have:=pg ws;rw[e]at this;simp at this;omega
 refine aO [] 67 (decide ((cs.length:Int)<2)) (ak (by omega)) (IC a1 (by kernel_rfl) hcn (fun bc oc e=>?_));subst e;refine IC a2 (by kernel_rfl) hwn (fun bw ow e=>?_);subst e;refine jO [67] Tryz.f128 0 211 211 [1,2,3,4,12,13,14] [] (fun a:Nat×Int=>[(1,.val (.int .i64 width)),(2,.val (.int .i64 kind)),(3,.val (.int .i64 bg)),(4,.val (.int .i64 en)),(12,.val (.slice (some ⟨bc,oc,none⟩) cs.length c1)),(13,.val (.slice (some ⟨bw,ow,none⟩) ws.length c2)),(14,.val (.int .i64 a.2))]) (fun _=>[]) (fun _=>[]) (fun _=>[]) (fun _=>[RA (some ⟨bc,oc,none⟩) (cs.flatMap ed),RA (some ⟨bw,ow,none⟩) (ws.flatMap ed)]) (fun a=>a.2=a.1∧1≤a.1∧a.1≤ws.length∧∀(j:Nat) (d e:Dp),j+1<a.1→ws[j]? =some d→ws[j+1]? =some e→e≠jw d) (fun a=>ws.length-a.1) (1,1) ⟨rfl,aj _,by simp only;omega,fun j d e h=>by simp only at h;omega⟩ (eM gx (eM gx tD)) ?_;rintro⟨i,z⟩ K ⟨hz,hi1,hi,hall⟩ close;simp only at hz hi1 hi hall;by_cases hlt:i<ws.length
 ·obtain⟨d,hd⟩:=oH (i-1) (by omega);obtain⟨e,he⟩:=oH i hlt;have hdb:=(nZ _ _ hd).1;have hneg:(⟨IntKind.i64.wrap (0-d.x),IntKind.i64.wrap (0-d.y)⟩:Dp)=jw d:=by
   unfold iL at hdb;refine Dp.eq_iff.2 ⟨?_,?_⟩<;>(simp only[af,jw];omega)
  refine bh [] 71 (decide (z<(ws.length:Int))) (ar (by omega)) (bI [71] 2 bw ow ws.length c2 .i64 i z hz au hlt (cJ [] bw (ow+i*2) (ed e) au (eH bw ow (i*2) (eL he)) (bI [] 2 bw ow ws.length c2 .i64 (i-1) (IntKind.i64.wrap (z-1)) (by rw[af];omega) au (by omega) (bN [] 0 bw (ow+(i-1)*2) au (cX [] 1 bw (ow+(i-1)*2+0) (.int .i64 d.x) au (fun I w hI hh=>eH bw ow ((i-1)*2) (eL hd) I w hI hh 0 _ rfl) (bI [] 2 bw ow ws.length c2 .i64 (i-1) (IntKind.i64.wrap (z-1)) (by rw[af];omega) au (by omega) (bN [] 1 bw (ow+(i-1)*2) au (cX [] 1 bw (ow+(i-1)*2+1) (.int .i64 d.y) au (fun I w hI hh=>eH bw ow ((i-1)*2) (eL hd) I w hI hh 1 _ rfl) (Fx [] 282 e ⟨IntKind.i64.wrap (0-d.x),IntKind.i64.wrap (0-d.y)⟩ ?_)))))))));by_cases hde:e=⟨IntKind.i64.wrap (0-d.x),IntKind.i64.wrap (0-d.y)⟩
  ·refine bh [] 93 (decide (e=⟨IntKind.i64.wrap (0-d.x),IntKind.i64.wrap (0-d.y)⟩)) (ar hde) ?_;have hb:tq (iO gj).2=true:=ZP.2 ⟨i-1,d,e,hd,by rw[gP hi1];exact he,by rw[←hneg];exact hde⟩;have he:rh gj width kind bg en=25:=by unfold rh;rw[if_neg AY,if_neg M5,if_neg hg7,if_neg Kr,if_pos hb]
   exact W.r [93] (.tuple #[.slice none 0 0,.int .i64 25]) (.inl ⟨by rw[he];decide,by rw[he],rfl⟩) bX
  ·refine aO [] 93 (decide (e=⟨IntKind.i64.wrap (0-d.x),IntKind.i64.wrap (0-d.y)⟩)) (ak hde) ?_;rw[hneg]at hde;refine close [93] _ _ (i+1,IntKind.i64.wrap (z+1)) (by kernel_rfl) (by kernel_rfl) ⟨by simp only[af];omega,by simp only;omega,hlt,fun j d' e' hj qe he'=>?_⟩ (by simp only;omega) (eM gx (eM gx tD));by_cases hji:j+1<i
   ·exact hall j d' e' hji qe he'
   ·obtain rfl:j=i-1:=by simp only at hj;omega
    rw[hd]at qe;rw[gP hi1,he]at he';injection qe with qe;injection he' with he';subst qe he';exact hde
 obtain rfl:i=ws.length:=by omega
 have hnb:¬tq (iO gj).2=true:=by
  rw[ZP];rintro⟨j,d,e,hd,he,hn⟩;exact hall j d e (List.getElem?_eq_some_iff.1 he).1 hd he hn
 have hoe:rh gj width kind bg en=0:=by unfold rh;rw[if_neg AY,if_neg M5,if_neg hg7,if_neg Kr,if_neg hnb]
 have yd:∀(i:Nat) (d e:Dp),ws[i]? =some d→ws[i+1]? =some e→qF (eY d) e≠0:=fun i d e hd he=>
  F8 (nZ _ _ hd).2 (nZ _ _ he).2 (hfw.turn i d e hd he) (hall i d e (List.getElem?_eq_some_iff.1 he).1 hd he)
 have IZ:∀(i:Nat) (p:Dp),cs[i]? =some p→iL 2147483648 p:=fun i p hp=>by
  obtain⟨_,rfl⟩:=List.getElem?_eq_some_iff.1 hp;exact lV _ (d_ _)
 have htl:∀(i:Nat) (p:Dp),cs[i+1]? =some p→cs.tail[i]? =some p:=fun i p hp=>by rw[List.getElem?_tail];exact hp
 have ZU:cs.tail.length=ws.length:=by rw[List.length_tail];omega
 obtain⟨p0,oP⟩:=zb 0 (by omega);obtain⟨w0,SC⟩:=oH 0 (by omega);obtain⟨pn,hpn⟩:=zb ws.length (by omega);obtain⟨wn,Gw⟩:=oH (ws.length-1) (by omega);have OQ:=(nZ _ _ SC).1;have hnx:IntKind.i64.wrap (0-w0.x)=(jw w0).x:=by unfold iL at OQ;simp only[af,jw];omega
 have hny:IntKind.i64.wrap (0-w0.y)=(jw w0).y:=by unfold iL at OQ;simp only[af,jw];omega
 have hq0:kA (jw w0)≠0:=JO (by have:=EG (nZ _ _ SC).2;unfold jw;simp only;omega);have hqn:kA wn≠0:=JO (EG (nZ _ _ Gw).2);obtain⟨h,hh⟩:∃h,h=Rat.divInt width 2:=⟨_,rfl⟩;have xc:∀b e,pj kind bg en h=(b,e)→sk cs ws width kind bg en=(mD p0 (jw w0) h b (kind==1)).drop ((mD p0 (jw w0) h b (kind==1)).length-1)++gE h cs.tail ws++mD pn wn h e (kind==1)++(gE (-h) cs.tail ws).reverse++(mD p0 (jw w0) h b (kind==1)).take ((mD p0 (jw w0) h b (kind==1)).length-1):=fun b e hbe=>by
  unfold sk;simp only[←hh,hbe,dw,oP,SC,Gw,show cs.length-1=ws.length by omega,hpn,jM]
 have hm1:=pE h cs.tail ws ZU;have hm2:=pE (-h) cs.tail ws ZU;have hb0:=xS p0 (jw w0);have hbn:=xS pn wn;refine aO [] 71 (decide (z<(ws.length:Int))) (ak (by omega)) (bz [71] (XA width 2 h hh (by omega) (by omega) (by omega) (by omega) (by omega)) (fun n6 a6 m6 b6=>W.d [] 100 (kind==2) (fun hk2=>?_) (fun hk2=>?_)))
 ·have hk:=eq_of_beq hk2;have hpl:=xc (h) (h) (by unfold pj;rw[if_pos hk]);refine bI [100] 2 bc oc cs.length c1 .i64 0 0 rfl au (by omega) (cJ [] bc (oc+0*2) (ed p0) au (eH bc oc (0*2) (eL oP)) (bI [] 2 bw ow ws.length c2 .i64 0 0 rfl au (by omega) (bN [] 0 bw (ow+0*2) au (cX [] 1 bw (ow+0*2+0) (.int .i64 w0.x) au (fun I w hI hh=>eH bw ow (0*2) (eL SC) I w hI hh 0 _ rfl) (bI [] 2 bw ow ws.length c2 .i64 0 0 rfl au (by omega) (bN [] 1 bw (ow+0*2) au (cX [] 1 bw (ow+0*2+1) (.int .i64 w0.y) au (fun I w hI hh=>eH bw ow (0*2) (eL SC) I w hI hh 1 _ rfl) (jD [] (yF p0 (jw w0) (IntKind.i64.wrap (0-w0.x)) (IntKind.i64.wrap (0-w0.y)) hnx hny ⟨n6,a6,m6,b6⟩ ⟨n6,a6,m6,b6⟩ (h:=h) (b:=h) (kind==1) (IZ _ _ oP) OQ.neg hq0) ?_))))))));rintro _ _ ⟨bb,ob,cb,lb,rfl,hlb,A0,rfl⟩;have Gr:=kP A0;have ZN:=hb0 h (h) (kind==1);obtain⟨el,hel⟩:∃el,lb[lb.length-1]? =some el:=⟨_,ah (by omega)⟩;have hdl:(mD p0 (jw w0) h (h) (kind==1)).drop ((mD p0 (jw w0) h (h) (kind==1)).length-1)=[el.num]:=by
   obtain⟨hk,rfl⟩:=List.getElem?_eq_some_iff.1 hel;rw[←Gr,←A0,←List.map_drop,bA hk,bp (by omega)];rfl
  refine bI [] 40 bb ob lb.length cb .i64 (lb.length-1) (IntKind.i64.wrap ((lb.length:Int)-1)) (by rw[af];omega) au (by omega) (cJ [] bb (ob+(lb.length-1)*40) (jq el.x++jq el.y) au (Au hel) (cW [] 1 (jq el.x++jq el.y) au (fun B1=>gY [] [21,22] (fun a:Yv=>[(21,a.v),(22,.int .i64 a.z)]) (fun _=>[]) (fun a=>a.O) (fun a=>[OS gH (130,a.l),RA a.ao a.ys,RA (some ⟨bc,oc,none⟩) (cs.flatMap ed),RA (some ⟨bw,ow,none⟩) (ws.flatMap ed),QF n6 a6 m6 b6 (2,h),QG ⟨n6,a6,m6,b6⟩ (2,h),OL gH (some ⟨bb,ob,none⟩) (130,lb)]) (fun a=>a.z=a.i∧1≤a.i∧a.i≤ws.length∧a.l.map j4.num=[el.num]++(gE h cs.tail ws).take (a.i-1)∧JU 40 a.O a.v a.l.length (a.l.flatMap gH.cells) a.ao a.ys) (fun a=>ws.length-a.i) ⟨1,1,.slice (some ⟨B1,0,none⟩) 1 1,[],[el],some ⟨B1,0,none⟩,jq el.x++jq el.y⟩ ⟨rfl,aj _,by simp only;omega,by simp only[nT,mT,ai];rfl,.inl ⟨rfl,rfl,Nat.zero_lt_one,rfl,rfl⟩⟩ (eM (N7 (ao:=some ⟨bb,ob,none⟩) hel) (eM N6 (eM gx (eM gx (eM gx (eM gx (eM gx tD))))))) ?_)));rintro⟨i,z1,v1,O1,l1,Uh,Vr⟩ K1 ⟨hz1,AX,hi',hl1,hg1⟩ close1;simp only at hz1 AX hi' hl1 hg1;have Gq:=kP hl1;rw[aA,dP,hm1]at Gq;simp only[aB,a_]at Gq;by_cases hlt1:i<ws.length
  ·obtain⟨p,hp⟩:=zb i (by omega);obtain⟨d,hd⟩:=oH (i-1) (by omega);obtain⟨e,he⟩:=oH i hlt1;have Ii:ws[i-1+1]? =some e:=by rw[gP AX];exact he
   have hp1:cs[i-1+1]? =some p:=by rw[gP AX];exact hp
   have hma:=nh h cs.tail ws (i-1) p d e (htl _ _ hp1) hd Ii;refine bh [] 142 (decide (z1<(ws.length:Int))) (ar (by omega)) (bI [142] 2 bc oc cs.length c1 .i64 i z1 hz1 au (by omega) (cJ [] bc (oc+i*2) (ed p) au (eH bc oc (i*2) (eL hp)) (bI [] 2 bw ow ws.length c2 .i64 (i-1) (IntKind.i64.wrap (z1-1)) (by rw[af];omega) au (by omega) (cJ [] bw (ow+(i-1)*2) (ed d) au (eH bw ow ((i-1)*2) (eL hd)) (bI [] 2 bw ow ws.length c2 .i64 i z1 hz1 au hlt1 (cJ [] bw (ow+i*2) (ed e) au (eH bw ow (i*2) (eL he)) (bR [] (u_ p d e ⟨n6,a6,m6,b6⟩ (h:=h) (IZ _ _ hp) (nZ _ _ hd).1 (nZ _ _ he).1 (yd _ _ _ hd Ii)) (fun X Y=>cW [] 1 (jq X++jq Y) au (fun B2=>CH [] O1 40 640 l1.length 1 Uh v1 (.slice (some ⟨B2,0,none⟩) 1 1) (l1.flatMap gH.cells) Vr (jq X++jq Y) au hg1 (by decide) (cg B2 O1 1 40 rfl 1) (qK ⟨X,Y,⟨0,0,0,0,0,0⟩,⟨0,0,0,0,0,0⟩⟩) (fun v' O' hg'=>close1 [] _ _ ⟨i+1,IntKind.i64.wrap (z1+1),v',O',l1++[⟨X,Y,(gn p d e h).1,(gn p d e h).2⟩],none,[]⟩ (by kernel_rfl) (by kernel_rfl) ⟨by simp only[af];omega,by simp only;omega,hlt1,?_,.inr ⟨?_,rfl,rfl⟩⟩ (by simp only;omega) (eM (C6 ⟨X,Y,(gn p d e h).1,(gn p d e h).2⟩) (eM N_ (eM gx (eM gx (eM gx (eM gx (eM gx tD)))))))))))))))))
   ·simp only;rw[aS,hl1,eI,show i=i-1+1 by omega,kS hma,aU,eI];rfl
   ·simp only[aA,br,aB,a_];exact cH.cast (by simp[gH]) rfl hg'
  obtain rfl:i=ws.length:=by omega
  rw[aR (by rw[hm1];omega)]at hl1;refine aO [] 142 (decide (z1<(ws.length:Int))) (ak (by omega)) (bI [142] 2 bc oc cs.length c1 .i64 ws.length (ws.length:Int) rfl au (by omega) (cJ [] bc (oc+ws.length*2) (ed pn) au (eH bc oc (ws.length*2) (eL hpn)) (bI [] 2 bw ow ws.length c2 .i64 (ws.length-1) (IntKind.i64.wrap ((ws.length:Int)-1)) (by rw[af];omega) au (by omega) (cJ [] bw (ow+(ws.length-1)*2) (ed wn) au (eH bw ow ((ws.length-1)*2) (eL Gw)) (jD [] (yF pn wn wn.x wn.y rfl rfl ⟨n6,a6,m6,b6⟩ ⟨n6,a6,m6,b6⟩ (h:=h) (b:=h) (kind==1) (IZ _ _ hpn) (nZ _ _ Gw).1 hqn) ?_)))));rintro _ _ ⟨bt,ot,ct,lt,rfl,hlt2,hnt,rfl⟩;have Z_:=kP hnt;have ZQ:=hbn h (h) (kind==1);refine CH [] O1 40 640 l1.length lt.length Uh v1 (.slice (some ⟨bt,ot,none⟩) lt.length ct) (l1.flatMap gH.cells) Vr ((lt.take lt.length).flatMap gH.cells) au hg1 (by omega) (rp bt ot O1 lt.length ct (aj _)) vf (fun v2 O2 hg2=>?_);have hl2:(l1++lt).map j4.num=[el.num]++gE h cs.tail ws++mD pn wn h (h) (kind==1):=by rw[aS,hl1,hnt]
  refine gY [] [21,23] (fun a:Yv=>[(21,a.v),(23,.int .i64 a.z)]) (fun _=>[]) (fun a=>a.O) (fun a=>[OS gH (130,a.l),RA (some ⟨bc,oc,none⟩) (cs.flatMap ed),RA (some ⟨bw,ow,none⟩) (ws.flatMap ed),QF n6 a6 m6 b6 (2,h),OL gH (some ⟨bb,ob,none⟩) (130,lb)]) (fun a=>a.z=a.i∧a.i≤ws.length-1∧a.l.map j4.num=[el.num]++gE h cs.tail ws++mD pn wn h (h) (kind==1)++((gE (-h) cs.tail ws).drop a.i).reverse∧cH 40 a.O a.v a.l.length (a.l.flatMap gH.cells)) (fun a=>a.i) ⟨ws.length-1,IntKind.i64.wrap ((ws.length:Int)-1),v2,O2,l1++lt,none,[]⟩ ⟨by simp only[af];omega,aj _,?_,cH.cast (by simp[br]) (by simp) hg2⟩ (eM (N8 (l:=l1) (l2:=lt) (ao:=some ⟨bt,ot,none⟩)) (eM gx (eM gx (eM gx (eM gx tD))))) ?_
  ·simp only;rw[hl2,bp (by rw[hm2];exact aj _),List.reverse_nil,ai]
  rintro⟨i,z3,v3,O3,l3,ao3,ys3⟩ K2 ⟨hz3,Z4,hl3,hg3⟩ close2;simp only at hz3 Z4 hl3 hg3;have OD:=kP hl3;simp only[aA,fC,jK,hm1,hm2,aB,a_]at OD;cases i with
  |succ i=>
   obtain⟨p,hp⟩:=zb (i+1) (by omega);obtain⟨d,hd⟩:=oH i (by omega);obtain⟨e,he⟩:=oH (i+1) (by omega);have hma:=nh (-h) cs.tail ws i p d e (htl _ _ hp) hd he;refine bh [] 182 (decide (z3>0)) (ar (by omega)) (bI [182] 2 bc oc cs.length c1 .i64 (i+1) z3 hz3 au (by omega) (cJ [] bc (oc+(i+1)*2) (ed p) au (eH bc oc ((i+1)*2) (eL hp)) (bI [] 2 bw ow ws.length c2 .i64 i (IntKind.i64.wrap (z3-1)) (by rw[af];omega) au (by omega) (cJ [] bw (ow+i*2) (ed d) au (eH bw ow (i*2) (eL hd)) (bI [] 2 bw ow ws.length c2 .i64 (i+1) z3 hz3 au (by omega) (cJ [] bw (ow+(i+1)*2) (ed e) au (eH bw ow ((i+1)*2) (eL he)) (bz [] (pK n6 a6 m6 b6) (fun n8 a8 m8 b8=>bR [] (u_ p d e ⟨n8,a8,m8,b8⟩ (h:= -h) (IZ _ _ hp) (nZ _ _ hd).1 (nZ _ _ he).1 (yd _ _ _ hd he)) (fun X Y=>cW [] 1 (jq X++jq Y) au (fun B2=>W.app [] O3 [] O3 [] 40 640 l3.length 1 v3 (.slice (some ⟨B2,0,none⟩) 1 1) (l3.flatMap gH.cells) (jq X++jq Y) au hg3 (cg B2 O3 1 40 rfl 1) (qK ⟨X,Y,⟨0,0,0,0,0,0⟩,⟨0,0,0,0,0,0⟩⟩) (fun v' O' hg'=>?_)))))))))));refine close2 [] _ _ ⟨i,IntKind.i64.wrap (z3-1),v',O',l3++[⟨X,Y,(gn p d e (-h)).1,(gn p d e (-h)).2⟩],none,[]⟩ (by kernel_rfl) (by simp only[az,ai];kernel_rfl) ⟨by simp only[af];omega,by simp only;omega,?_,?_⟩ (by simp only;omega) (eM (C6 ⟨X,Y,(gn p d e (-h)).1,(gn p d e (-h)).2⟩) (eM gx (eM gx (eM gx (eM gx tD)))))
   ·simp only;rw[aS,hl3,x_ hma,←aU];rfl
   ·simp only[aA,br,aB,a_];exact cH.cast (by simp[gH]) rfl hg'
  |zero=>
   rw[h_]at hl3;refine aO [] 182 (decide (z3>0)) (ak (by omega)) (Ns [182] 40 bb ob (lb.length-1) lb.length cb (IntKind.i64.wrap ((lb.length:Int)-1)) (by rw[af];omega) au (W.app [] O3 [] O3 [] 40 640 l3.length (lb.length-1) v3 (.slice (some ⟨bb,ob,none⟩) (lb.length-1) cb) (l3.flatMap gH.cells) ((lb.take (lb.length-1)).flatMap gH.cells) au hg3 (rp bb ob O3 (lb.length-1) cb (by omega)) vf (fun v' O' hg'=>?_)));have ZY:cH 40 O' v' (l3++lb.take (lb.length-1)).length ((l3++lb.take (lb.length-1)).flatMap gH.cells):=cH.cast (by rw[br]) (by rw[aA,dP,fy (by omega)]) hg';refine l8 (by simp only[az,ai];kernel_rfl) ZY (fun ao c' hv hc'=>?_);subst hv;refine W.more (by kernel_rfl) (eM (N9 (ao:=some ⟨bb,ob,none⟩) (r:=lb.length-1) (l:=l3) (l2:=lb) (L:=130)) tD) (W.r [] (.tuple #[.slice ao (l3++lb.take (lb.length-1)).length c',.int .i64 0]) (.inr ⟨hoe,ao,c',l3++lb.take (lb.length-1),rfl,hc',?_,rfl⟩) (zS (fun I w hd hh e he=>(aZ.p (k:=OS gH) (a:=(130,l3++lb.take (lb.length-1))) inferInstance hh) e he)));rw[←hcs,←hws,hpl,aS,hl3,hdl,←Gr,←A0,List.map_take]
 have Z8:kind≠2:=by intro e;rw[e]at hk2;simp at hk2
 refine W.d [100] 104 (kind==4) (fun hk4=>?_) (fun hk4=>?_)
 ·have hk:=eq_of_beq hk4;refine bR [104] (dW bg) (fun u7 d7=>bz [] (cD u7 d7) (fun nb ab mb bb2=>bR [] (dW en) (fun u9 d9=>bz [] (cD u9 d9) (fun ne ae me be2=>?_))));have hpl:=xc (((bg:Int):Rat)) (((en:Int):Rat)) (by unfold pj;rw[if_neg Z8,if_pos hk]);refine bI [] 2 bc oc cs.length c1 .i64 0 0 rfl au (by omega) (cJ [] bc (oc+0*2) (ed p0) au (eH bc oc (0*2) (eL oP)) (bI [] 2 bw ow ws.length c2 .i64 0 0 rfl au (by omega) (bN [] 0 bw (ow+0*2) au (cX [] 1 bw (ow+0*2+0) (.int .i64 w0.x) au (fun I w hI hh=>eH bw ow (0*2) (eL SC) I w hI hh 0 _ rfl) (bI [] 2 bw ow ws.length c2 .i64 0 0 rfl au (by omega) (bN [] 1 bw (ow+0*2) au (cX [] 1 bw (ow+0*2+1) (.int .i64 w0.y) au (fun I w hI hh=>eH bw ow (0*2) (eL SC) I w hI hh 1 _ rfl) (jD [] (yF p0 (jw w0) (IntKind.i64.wrap (0-w0.x)) (IntKind.i64.wrap (0-w0.y)) hnx hny ⟨n6,a6,m6,b6⟩ ⟨nb,ab,mb,bb2⟩ (h:=h) (b:=((bg:Int):Rat)) (kind==1) (IZ _ _ oP) OQ.neg hq0) ?_))))))));rintro _ _ ⟨bb,ob,cb,lb,rfl,hlb,A0,rfl⟩;have Gr:=kP A0;have ZN:=hb0 h (((bg:Int):Rat)) (kind==1);obtain⟨el,hel⟩:∃el,lb[lb.length-1]? =some el:=⟨_,ah (by omega)⟩;have hdl:(mD p0 (jw w0) h (((bg:Int):Rat)) (kind==1)).drop ((mD p0 (jw w0) h (((bg:Int):Rat)) (kind==1)).length-1)=[el.num]:=by
   obtain⟨hk,rfl⟩:=List.getElem?_eq_some_iff.1 hel;rw[←Gr,←A0,←List.map_drop,bA hk,bp (by omega)];rfl
  refine bI [] 40 bb ob lb.length cb .i64 (lb.length-1) (IntKind.i64.wrap ((lb.length:Int)-1)) (by rw[af];omega) au (by omega) (cJ [] bb (ob+(lb.length-1)*40) (jq el.x++jq el.y) au (Au hel) (cW [] 1 (jq el.x++jq el.y) au (fun B1=>gY [] [21,22] (fun a:Yv=>[(21,a.v),(22,.int .i64 a.z)]) (fun _=>[]) (fun a=>a.O) (fun a=>[OS gH (130,a.l),RA a.ao a.ys,RA (some ⟨bc,oc,none⟩) (cs.flatMap ed),RA (some ⟨bw,ow,none⟩) (ws.flatMap ed),QF n6 a6 m6 b6 (2,h),QG ⟨ne,ae,me,be2⟩ (2,((en:Int):Rat)),OL gH (some ⟨bb,ob,none⟩) (130,lb)]) (fun a=>a.z=a.i∧1≤a.i∧a.i≤ws.length∧a.l.map j4.num=[el.num]++(gE h cs.tail ws).take (a.i-1)∧JU 40 a.O a.v a.l.length (a.l.flatMap gH.cells) a.ao a.ys) (fun a=>ws.length-a.i) ⟨1,1,.slice (some ⟨B1,0,none⟩) 1 1,[],[el],some ⟨B1,0,none⟩,jq el.x++jq el.y⟩ ⟨rfl,aj _,by simp only;omega,by simp only[nT,mT,ai];rfl,.inl ⟨rfl,rfl,Nat.zero_lt_one,rfl,rfl⟩⟩ (eM (N7 (ao:=some ⟨bb,ob,none⟩) hel) (eM N6 (eM gx (eM gx (eM gx (eM gx (eM gx tD))))))) ?_)));rintro⟨i,z1,v1,O1,l1,Uh,Vr⟩ K1 ⟨hz1,AX,hi',hl1,hg1⟩ close1;simp only at hz1 AX hi' hl1 hg1;have Gq:=kP hl1;rw[aA,dP,hm1]at Gq;simp only[aB,a_]at Gq;by_cases hlt1:i<ws.length
  ·obtain⟨p,hp⟩:=zb i (by omega);obtain⟨d,hd⟩:=oH (i-1) (by omega);obtain⟨e,he⟩:=oH i hlt1;have Ii:ws[i-1+1]? =some e:=by rw[gP AX];exact he
   have hp1:cs[i-1+1]? =some p:=by rw[gP AX];exact hp
   have hma:=nh h cs.tail ws (i-1) p d e (htl _ _ hp1) hd Ii;refine bh [] 142 (decide (z1<(ws.length:Int))) (ar (by omega)) (bI [142] 2 bc oc cs.length c1 .i64 i z1 hz1 au (by omega) (cJ [] bc (oc+i*2) (ed p) au (eH bc oc (i*2) (eL hp)) (bI [] 2 bw ow ws.length c2 .i64 (i-1) (IntKind.i64.wrap (z1-1)) (by rw[af];omega) au (by omega) (cJ [] bw (ow+(i-1)*2) (ed d) au (eH bw ow ((i-1)*2) (eL hd)) (bI [] 2 bw ow ws.length c2 .i64 i z1 hz1 au hlt1 (cJ [] bw (ow+i*2) (ed e) au (eH bw ow (i*2) (eL he)) (bR [] (u_ p d e ⟨n6,a6,m6,b6⟩ (h:=h) (IZ _ _ hp) (nZ _ _ hd).1 (nZ _ _ he).1 (yd _ _ _ hd Ii)) (fun X Y=>cW [] 1 (jq X++jq Y) au (fun B2=>CH [] O1 40 640 l1.length 1 Uh v1 (.slice (some ⟨B2,0,none⟩) 1 1) (l1.flatMap gH.cells) Vr (jq X++jq Y) au hg1 (by decide) (cg B2 O1 1 40 rfl 1) (qK ⟨X,Y,⟨0,0,0,0,0,0⟩,⟨0,0,0,0,0,0⟩⟩) (fun v' O' hg'=>close1 [] _ _ ⟨i+1,IntKind.i64.wrap (z1+1),v',O',l1++[⟨X,Y,(gn p d e h).1,(gn p d e h).2⟩],none,[]⟩ (by kernel_rfl) (by kernel_rfl) ⟨by simp only[af];omega,by simp only;omega,hlt1,?_,.inr ⟨?_,rfl,rfl⟩⟩ (by simp only;omega) (eM (C6 ⟨X,Y,(gn p d e h).1,(gn p d e h).2⟩) (eM N_ (eM gx (eM gx (eM gx (eM gx (eM gx tD)))))))))))))))))
   ·simp only;rw[aS,hl1,eI,show i=i-1+1 by omega,kS hma,aU,eI];rfl
   ·simp only[aA,br,aB,a_];exact cH.cast (by simp[gH]) rfl hg'
  obtain rfl:i=ws.length:=by omega
  rw[aR (by rw[hm1];omega)]at hl1;refine aO [] 142 (decide (z1<(ws.length:Int))) (ak (by omega)) (bI [142] 2 bc oc cs.length c1 .i64 ws.length (ws.length:Int) rfl au (by omega) (cJ [] bc (oc+ws.length*2) (ed pn) au (eH bc oc (ws.length*2) (eL hpn)) (bI [] 2 bw ow ws.length c2 .i64 (ws.length-1) (IntKind.i64.wrap ((ws.length:Int)-1)) (by rw[af];omega) au (by omega) (cJ [] bw (ow+(ws.length-1)*2) (ed wn) au (eH bw ow ((ws.length-1)*2) (eL Gw)) (jD [] (yF pn wn wn.x wn.y rfl rfl ⟨n6,a6,m6,b6⟩ ⟨ne,ae,me,be2⟩ (h:=h) (b:=((en:Int):Rat)) (kind==1) (IZ _ _ hpn) (nZ _ _ Gw).1 hqn) ?_)))));rintro _ _ ⟨bt,ot,ct,lt,rfl,hlt2,hnt,rfl⟩;have Z_:=kP hnt;have ZQ:=hbn h (((en:Int):Rat)) (kind==1);refine CH [] O1 40 640 l1.length lt.length Uh v1 (.slice (some ⟨bt,ot,none⟩) lt.length ct) (l1.flatMap gH.cells) Vr ((lt.take lt.length).flatMap gH.cells) au hg1 (by omega) (rp bt ot O1 lt.length ct (aj _)) vf (fun v2 O2 hg2=>?_);have hl2:(l1++lt).map j4.num=[el.num]++gE h cs.tail ws++mD pn wn h (((en:Int):Rat)) (kind==1):=by rw[aS,hl1,hnt]
  refine gY [] [21,23] (fun a:Yv=>[(21,a.v),(23,.int .i64 a.z)]) (fun _=>[]) (fun a=>a.O) (fun a=>[OS gH (130,a.l),RA (some ⟨bc,oc,none⟩) (cs.flatMap ed),RA (some ⟨bw,ow,none⟩) (ws.flatMap ed),QF n6 a6 m6 b6 (2,h),OL gH (some ⟨bb,ob,none⟩) (130,lb)]) (fun a=>a.z=a.i∧a.i≤ws.length-1∧a.l.map j4.num=[el.num]++gE h cs.tail ws++mD pn wn h (((en:Int):Rat)) (kind==1)++((gE (-h) cs.tail ws).drop a.i).reverse∧cH 40 a.O a.v a.l.length (a.l.flatMap gH.cells)) (fun a=>a.i) ⟨ws.length-1,IntKind.i64.wrap ((ws.length:Int)-1),v2,O2,l1++lt,none,[]⟩ ⟨by simp only[af];omega,aj _,?_,cH.cast (by simp[br]) (by simp) hg2⟩ (eM (N8 (l:=l1) (l2:=lt) (ao:=some ⟨bt,ot,none⟩)) (eM gx (eM gx (eM gx (eM gx tD))))) ?_
  ·simp only;rw[hl2,bp (by rw[hm2];exact aj _),List.reverse_nil,ai]
  rintro⟨i,z3,v3,O3,l3,ao3,ys3⟩ K2 ⟨hz3,Z4,hl3,hg3⟩ close2;simp only at hz3 Z4 hl3 hg3;have OD:=kP hl3;simp only[aA,fC,jK,hm1,hm2,aB,a_]at OD;cases i with
  |succ i=>
   obtain⟨p,hp⟩:=zb (i+1) (by omega);obtain⟨d,hd⟩:=oH i (by omega);obtain⟨e,he⟩:=oH (i+1) (by omega);have hma:=nh (-h) cs.tail ws i p d e (htl _ _ hp) hd he;refine bh [] 182 (decide (z3>0)) (ar (by omega)) (bI [182] 2 bc oc cs.length c1 .i64 (i+1) z3 hz3 au (by omega) (cJ [] bc (oc+(i+1)*2) (ed p) au (eH bc oc ((i+1)*2) (eL hp)) (bI [] 2 bw ow ws.length c2 .i64 i (IntKind.i64.wrap (z3-1)) (by rw[af];omega) au (by omega) (cJ [] bw (ow+i*2) (ed d) au (eH bw ow (i*2) (eL hd)) (bI [] 2 bw ow ws.length c2 .i64 (i+1) z3 hz3 au (by omega) (cJ [] bw (ow+(i+1)*2) (ed e) au (eH bw ow ((i+1)*2) (eL he)) (bz [] (pK n6 a6 m6 b6) (fun n8 a8 m8 b8=>bR [] (u_ p d e ⟨n8,a8,m8,b8⟩ (h:= -h) (IZ _ _ hp) (nZ _ _ hd).1 (nZ _ _ he).1 (yd _ _ _ hd he)) (fun X Y=>cW [] 1 (jq X++jq Y) au (fun B2=>W.app [] O3 [] O3 [] 40 640 l3.length 1 v3 (.slice (some ⟨B2,0,none⟩) 1 1) (l3.flatMap gH.cells) (jq X++jq Y) au hg3 (cg B2 O3 1 40 rfl 1) (qK ⟨X,Y,⟨0,0,0,0,0,0⟩,⟨0,0,0,0,0,0⟩⟩) (fun v' O' hg'=>?_)))))))))));refine close2 [] _ _ ⟨i,IntKind.i64.wrap (z3-1),v',O',l3++[⟨X,Y,(gn p d e (-h)).1,(gn p d e (-h)).2⟩],none,[]⟩ (by kernel_rfl) (by simp only[az,ai];kernel_rfl) ⟨by simp only[af];omega,by simp only;omega,?_,?_⟩ (by simp only;omega) (eM (C6 ⟨X,Y,(gn p d e (-h)).1,(gn p d e (-h)).2⟩) (eM gx (eM gx (eM gx (eM gx tD)))))
   ·simp only;rw[aS,hl3,x_ hma,←aU];rfl
   ·simp only[aA,br,aB,a_];exact cH.cast (by simp[gH]) rfl hg'
  |zero=>
   rw[h_]at hl3;refine aO [] 182 (decide (z3>0)) (ak (by omega)) (Ns [182] 40 bb ob (lb.length-1) lb.length cb (IntKind.i64.wrap ((lb.length:Int)-1)) (by rw[af];omega) au (W.app [] O3 [] O3 [] 40 640 l3.length (lb.length-1) v3 (.slice (some ⟨bb,ob,none⟩) (lb.length-1) cb) (l3.flatMap gH.cells) ((lb.take (lb.length-1)).flatMap gH.cells) au hg3 (rp bb ob O3 (lb.length-1) cb (by omega)) vf (fun v' O' hg'=>?_)));have ZY:cH 40 O' v' (l3++lb.take (lb.length-1)).length ((l3++lb.take (lb.length-1)).flatMap gH.cells):=cH.cast (by rw[br]) (by rw[aA,dP,fy (by omega)]) hg';refine l8 (by simp only[az,ai];kernel_rfl) ZY (fun ao c' hv hc'=>?_);subst hv;refine W.more (by kernel_rfl) (eM (N9 (ao:=some ⟨bb,ob,none⟩) (r:=lb.length-1) (l:=l3) (l2:=lb) (L:=130)) tD) (W.r [] (.tuple #[.slice ao (l3++lb.take (lb.length-1)).length c',.int .i64 0]) (.inr ⟨hoe,ao,c',l3++lb.take (lb.length-1),rfl,hc',?_,rfl⟩) (zS (fun I w hd hh e he=>(aZ.p (k:=OS gH) (a:=(130,l3++lb.take (lb.length-1))) inferInstance hh) e he)));rw[←hcs,←hws,hpl,aS,hl3,hdl,←Gr,←A0,List.map_take]
 have acK:kind≠4:=by intro e;rw[e]at hk4;simp at hk4
 refine W.more (by kernel_rfl) (mK (L':=0)) ?_;have hpl:=xc (0) (0) (by unfold pj;rw[if_neg Z8,if_neg acK]);refine bI [104] 2 bc oc cs.length c1 .i64 0 0 rfl au (by omega) (cJ [] bc (oc+0*2) (ed p0) au (eH bc oc (0*2) (eL oP)) (bI [] 2 bw ow ws.length c2 .i64 0 0 rfl au (by omega) (bN [] 0 bw (ow+0*2) au (cX [] 1 bw (ow+0*2+0) (.int .i64 w0.x) au (fun I w hI hh=>eH bw ow (0*2) (eL SC) I w hI hh 0 _ rfl) (bI [] 2 bw ow ws.length c2 .i64 0 0 rfl au (by omega) (bN [] 1 bw (ow+0*2) au (cX [] 1 bw (ow+0*2+1) (.int .i64 w0.y) au (fun I w hI hh=>eH bw ow (0*2) (eL SC) I w hI hh 1 _ rfl) (jD [] (yF p0 (jw w0) (IntKind.i64.wrap (0-w0.x)) (IntKind.i64.wrap (0-w0.y)) hnx hny ⟨n6,a6,m6,b6⟩ cf (h:=h) (b:=0) (kind==1) (IZ _ _ oP) OQ.neg hq0) ?_))))))));rintro _ _ ⟨bb,ob,cb,lb,rfl,hlb,A0,rfl⟩;have Gr:=kP A0;have ZN:=hb0 h (0) (kind==1);obtain⟨el,hel⟩:∃el,lb[lb.length-1]? =some el:=⟨_,ah (by omega)⟩;have hdl:(mD p0 (jw w0) h (0) (kind==1)).drop ((mD p0 (jw w0) h (0) (kind==1)).length-1)=[el.num]:=by
  obtain⟨hk,rfl⟩:=List.getElem?_eq_some_iff.1 hel;rw[←Gr,←A0,←List.map_drop,bA hk,bp (by omega)];rfl
 refine bI [] 40 bb ob lb.length cb .i64 (lb.length-1) (IntKind.i64.wrap ((lb.length:Int)-1)) (by rw[af];omega) au (by omega) (cJ [] bb (ob+(lb.length-1)*40) (jq el.x++jq el.y) au (Au hel) (cW [] 1 (jq el.x++jq el.y) au (fun B1=>gY [] [21,22] (fun a:Yv=>[(21,a.v),(22,.int .i64 a.z)]) (fun _=>[]) (fun a=>a.O) (fun a=>[OS gH (130,a.l),RA a.ao a.ys,RA (some ⟨bc,oc,none⟩) (cs.flatMap ed),RA (some ⟨bw,ow,none⟩) (ws.flatMap ed),QF n6 a6 m6 b6 (2,h),QG cf (0,0),OL gH (some ⟨bb,ob,none⟩) (130,lb)]) (fun a=>a.z=a.i∧1≤a.i∧a.i≤ws.length∧a.l.map j4.num=[el.num]++(gE h cs.tail ws).take (a.i-1)∧JU 40 a.O a.v a.l.length (a.l.flatMap gH.cells) a.ao a.ys) (fun a=>ws.length-a.i) ⟨1,1,.slice (some ⟨B1,0,none⟩) 1 1,[],[el],some ⟨B1,0,none⟩,jq el.x++jq el.y⟩ ⟨rfl,aj _,by simp only;omega,by simp only[nT,mT,ai];rfl,.inl ⟨rfl,rfl,Nat.zero_lt_one,rfl,rfl⟩⟩ (eM (N7 (ao:=some ⟨bb,ob,none⟩) hel) (eM N6 (eM gx (eM gx (eM gx (eM gx (eM gx tD))))))) ?_)));rintro⟨i,z1,v1,O1,l1,Uh,Vr⟩ K1 ⟨hz1,AX,hi',hl1,hg1⟩ close1;simp only at hz1 AX hi' hl1 hg1;have Gq:=kP hl1;rw[aA,dP,hm1]at Gq;simp only[aB,a_]at Gq;by_cases hlt1:i<ws.length
 ·obtain⟨p,hp⟩:=zb i (by omega);obtain⟨d,hd⟩:=oH (i-1) (by omega);obtain⟨e,he⟩:=oH i hlt1;have Ii:ws[i-1+1]? =some e:=by rw[gP AX];exact he
  have hp1:cs[i-1+1]? =some p:=by rw[gP AX];exact hp
  have hma:=nh h cs.tail ws (i-1) p d e (htl _ _ hp1) hd Ii;refine bh [] 142 (decide (z1<(ws.length:Int))) (ar (by omega)) (bI [142] 2 bc oc cs.length c1 .i64 i z1 hz1 au (by omega) (cJ [] bc (oc+i*2) (ed p) au (eH bc oc (i*2) (eL hp)) (bI [] 2 bw ow ws.length c2 .i64 (i-1) (IntKind.i64.wrap (z1-1)) (by rw[af];omega) au (by omega) (cJ [] bw (ow+(i-1)*2) (ed d) au (eH bw ow ((i-1)*2) (eL hd)) (bI [] 2 bw ow ws.length c2 .i64 i z1 hz1 au hlt1 (cJ [] bw (ow+i*2) (ed e) au (eH bw ow (i*2) (eL he)) (bR [] (u_ p d e ⟨n6,a6,m6,b6⟩ (h:=h) (IZ _ _ hp) (nZ _ _ hd).1 (nZ _ _ he).1 (yd _ _ _ hd Ii)) (fun X Y=>cW [] 1 (jq X++jq Y) au (fun B2=>CH [] O1 40 640 l1.length 1 Uh v1 (.slice (some ⟨B2,0,none⟩) 1 1) (l1.flatMap gH.cells) Vr (jq X++jq Y) au hg1 (by decide) (cg B2 O1 1 40 rfl 1) (qK ⟨X,Y,⟨0,0,0,0,0,0⟩,⟨0,0,0,0,0,0⟩⟩) (fun v' O' hg'=>close1 [] _ _ ⟨i+1,IntKind.i64.wrap (z1+1),v',O',l1++[⟨X,Y,(gn p d e h).1,(gn p d e h).2⟩],none,[]⟩ (by kernel_rfl) (by kernel_rfl) ⟨by simp only[af];omega,by simp only;omega,hlt1,?_,.inr ⟨?_,rfl,rfl⟩⟩ (by simp only;omega) (eM (C6 ⟨X,Y,(gn p d e h).1,(gn p d e h).2⟩) (eM N_ (eM gx (eM gx (eM gx (eM gx (eM gx tD)))))))))))))))))
  ·simp only;rw[aS,hl1,eI,show i=i-1+1 by omega,kS hma,aU,eI];rfl
  ·simp only[aA,br,aB,a_];exact cH.cast (by simp[gH]) rfl hg'
 obtain rfl:i=ws.length:=by omega
 rw[aR (by rw[hm1];omega)]at hl1;refine aO [] 142 (decide (z1<(ws.length:Int))) (ak (by omega)) (bI [142] 2 bc oc cs.length c1 .i64 ws.length (ws.length:Int) rfl au (by omega) (cJ [] bc (oc+ws.length*2) (ed pn) au (eH bc oc (ws.length*2) (eL hpn)) (bI [] 2 bw ow ws.length c2 .i64 (ws.length-1) (IntKind.i64.wrap ((ws.length:Int)-1)) (by rw[af];omega) au (by omega) (cJ [] bw (ow+(ws.length-1)*2) (ed wn) au (eH bw ow ((ws.length-1)*2) (eL Gw)) (jD [] (yF pn wn wn.x wn.y rfl rfl ⟨n6,a6,m6,b6⟩ cf (h:=h) (b:=0) (kind==1) (IZ _ _ hpn) (nZ _ _ Gw).1 hqn) ?_)))));rintro _ _ ⟨bt,ot,ct,lt,rfl,hlt2,hnt,rfl⟩;have Z_:=kP hnt;have ZQ:=hbn h (0) (kind==1);refine CH [] O1 40 640 l1.length lt.length Uh v1 (.slice (some ⟨bt,ot,none⟩) lt.length ct) (l1.flatMap gH.cells) Vr ((lt.take lt.length).flatMap gH.cells) au hg1 (by omega) (rp bt ot O1 lt.length ct (aj _)) vf (fun v2 O2 hg2=>?_);have hl2:(l1++lt).map j4.num=[el.num]++gE h cs.tail ws++mD pn wn h (0) (kind==1):=by rw[aS,hl1,hnt]
 refine gY [] [21,23] (fun a:Yv=>[(21,a.v),(23,.int .i64 a.z)]) (fun _=>[]) (fun a=>a.O) (fun a=>[OS gH (130,a.l),RA (some ⟨bc,oc,none⟩) (cs.flatMap ed),RA (some ⟨bw,ow,none⟩) (ws.flatMap ed),QF n6 a6 m6 b6 (2,h),OL gH (some ⟨bb,ob,none⟩) (130,lb)]) (fun a=>a.z=a.i∧a.i≤ws.length-1∧a.l.map j4.num=[el.num]++gE h cs.tail ws++mD pn wn h (0) (kind==1)++((gE (-h) cs.tail ws).drop a.i).reverse∧cH 40 a.O a.v a.l.length (a.l.flatMap gH.cells)) (fun a=>a.i) ⟨ws.length-1,IntKind.i64.wrap ((ws.length:Int)-1),v2,O2,l1++lt,none,[]⟩ ⟨by simp only[af];omega,aj _,?_,cH.cast (by simp[br]) (by simp) hg2⟩ (eM (N8 (l:=l1) (l2:=lt) (ao:=some ⟨bt,ot,none⟩)) (eM gx (eM gx (eM gx (eM gx tD))))) ?_
 ·simp only;rw[hl2,bp (by rw[hm2];exact aj _),List.reverse_nil,ai]
 rintro⟨i,z3,v3,O3,l3,ao3,ys3⟩ K2 ⟨hz3,Z4,hl3,hg3⟩ close2;simp only at hz3 Z4 hl3 hg3;have OD:=kP hl3;simp only[aA,fC,jK,hm1,hm2,aB,a_]at OD;cases i with
 |succ i=>
  obtain⟨p,hp⟩:=zb (i+1) (by omega);obtain⟨d,hd⟩:=oH i (by omega);obtain⟨e,he⟩:=oH (i+1) (by omega);have hma:=nh (-h) cs.tail ws i p d e (htl _ _ hp) hd he;refine bh [] 182 (decide (z3>0)) (ar (by omega)) (bI [182] 2 bc oc cs.length c1 .i64 (i+1) z3 hz3 au (by omega) (cJ [] bc (oc+(i+1)*2) (ed p) au (eH bc oc ((i+1)*2) (eL hp)) (bI [] 2 bw ow ws.length c2 .i64 i (IntKind.i64.wrap (z3-1)) (by rw[af];omega) au (by omega) (cJ [] bw (ow+i*2) (ed d) au (eH bw ow (i*2) (eL hd)) (bI [] 2 bw ow ws.length c2 .i64 (i+1) z3 hz3 au (by omega) (cJ [] bw (ow+(i+1)*2) (ed e) au (eH bw ow ((i+1)*2) (eL he)) (bz [] (pK n6 a6 m6 b6) (fun n8 a8 m8 b8=>bR [] (u_ p d e ⟨n8,a8,m8,b8⟩ (h:= -h) (IZ _ _ hp) (nZ _ _ hd).1 (nZ _ _ he).1 (yd _ _ _ hd he)) (fun X Y=>cW [] 1 (jq X++jq Y) au (fun B2=>W.app [] O3 [] O3 [] 40 640 l3.length 1 v3 (.slice (some ⟨B2,0,none⟩) 1 1) (l3.flatMap gH.cells) (jq X++jq Y) au hg3 (cg B2 O3 1 40 rfl 1) (qK ⟨X,Y,⟨0,0,0,0,0,0⟩,⟨0,0,0,0,0,0⟩⟩) (fun v' O' hg'=>?_)))))))))));refine close2 [] _ _ ⟨i,IntKind.i64.wrap (z3-1),v',O',l3++[⟨X,Y,(gn p d e (-h)).1,(gn p d e (-h)).2⟩],none,[]⟩ (by kernel_rfl) (by simp only[az,ai];kernel_rfl) ⟨by simp only[af];omega,by simp only;omega,?_,?_⟩ (by simp only;omega) (eM (C6 ⟨X,Y,(gn p d e (-h)).1,(gn p d e (-h)).2⟩) (eM gx (eM gx (eM gx (eM gx tD)))))
  ·simp only;rw[aS,hl3,x_ hma,←aU];rfl
  ·simp only[aA,br,aB,a_];exact cH.cast (by simp[gH]) rfl hg'
 |zero=>
  rw[h_]at hl3;refine aO [] 182 (decide (z3>0)) (ak (by omega)) (Ns [182] 40 bb ob (lb.length-1) lb.length cb (IntKind.i64.wrap ((lb.length:Int)-1)) (by rw[af];omega) au (W.app [] O3 [] O3 [] 40 640 l3.length (lb.length-1) v3 (.slice (some ⟨bb,ob,none⟩) (lb.length-1) cb) (l3.flatMap gH.cells) ((lb.take (lb.length-1)).flatMap gH.cells) au hg3 (rp bb ob O3 (lb.length-1) cb (by omega)) vf (fun v' O' hg'=>?_)));have ZY:cH 40 O' v' (l3++lb.take (lb.length-1)).length ((l3++lb.take (lb.length-1)).flatMap gH.cells):=cH.cast (by rw[br]) (by rw[aA,dP,fy (by omega)]) hg';refine l8 (by simp only[az,ai];kernel_rfl) ZY (fun ao c' hv hc'=>?_);subst hv;refine W.more (by kernel_rfl) (eM (N9 (ao:=some ⟨bb,ob,none⟩) (r:=lb.length-1) (l:=l3) (l2:=lb) (L:=130)) tD) (W.r [] (.tuple #[.slice ao (l3++lb.take (lb.length-1)).length c',.int .i64 0]) (.inr ⟨hoe,ao,c',l3++lb.take (lb.length-1),rfl,hc',?_,rfl⟩) (zS (fun I w hd hh e he=>(aZ.p (k:=OS gH) (a:=(130,l3++lb.take (lb.length-1))) inferInstance hh) e he)));rw[←hcs,←hws,hpl,aS,hl3,hdl,←Gr,←A0,List.map_take]
end
open Go.RowKit Go.ChangeShapes Go.WideShapes
def intOf:Value→Int
 | .int _ z=>z
 |_=>0
section
variable{H:Type}{enc:TypeId×Value→H}{P:Program}{w:World}
end
structure Re where
 k:Int
 d:Int
 b:List Int
instance:Inhabited Re:=⟨⟨0,0,[]⟩⟩
structure Im where
 f:List Re
 p:List Re
instance:Inhabited Im:=⟨⟨[],[]⟩⟩
structure Ce where
 h:List Re
 i:List Im
instance:Inhabited Ce:=⟨⟨[],[]⟩⟩
structure Li where
 h:List Re
 c:List Ce
instance:Inhabited Li:=⟨⟨[],[]⟩⟩
structure Rv where
 data:Int
 part:Int
 least:Int
 most:Int
def E9(k:Int):Option Rv:=
 if k=0∨k=13∨k=14∨k=22∨k=33∨k=34∨k=42∨k=43∨k=46∨k=54∨k=57 then some ⟨2,2,1,1⟩
 else if k=1∨k=5 then some ⟨2,24,1,1⟩
 else if k=19 then some ⟨2,4,1,1⟩
 else if k=59 then some ⟨2,6,1,32⟩
 else if k=4∨k=7∨k=8∨k=9∨k=10∨k=11∨k=12∨k=17∨k=21∨k=45∨k=56 then some ⟨0,1,0,0⟩
 else if k=15∨k=47∨k=48∨k=49 then some ⟨3,4,1,1⟩
 else if k=16 then some ⟨3,8,1,8191⟩
 else if k=27∨k=28 then some ⟨5,8,1,1⟩
 else if k=3 then some ⟨5,16,1,1⟩
 else if k=23∨k=26∨k=38∨k=52 then some ⟨1,2,1,1⟩
 else if k=2∨k=25∨k=44∨k=55∨k=58 then some ⟨6,2,1,256⟩
 else if k=6∨k=18 then some ⟨6,2,1,16⟩
 else if k=35 then some ⟨6,44,1,1⟩
 else if k=32 then some ⟨6,176,1,1⟩
 else if k=31 then some ⟨6,44,1,17⟩
 else none
def fI(b:List Int):List Int:=if b.getLast?=some 0 then b.dropLast else b
def jW(c:Int):Bool:=(decide (65≤c)&&decide (c≤90))||(decide (97≤c)&&decide (c≤122))||(decide (48≤c)&&decide (c≤57))||(c==95||c==63||c==36)
def EA(k:Int):Bool:=k==2||k==25||k==44||k==55||k==58
def Ez(k:Int):Bool:=k==6||k==18
def fr(r:Re):Bool:=
 match E9 r.k with
 |none=>false
 |some s=>r.d==s.data&&((r.b.length:Int) % s.part==0&&(decide (s.least≤(r.b.length:Int)/s.part)&&(decide ((r.b.length:Int)/s.part≤s.most)&&
   (if EA r.k then !(fI r.b).contains 0 else if Ez r.k then(fI r.b).all jW else true))))
abbrev oy(α:Type):=List Re→Option (α×List Re)
def dL(k:Int)(l:List Re):Bool:=match l with
 |r::_=>r.k==k
 | []=>false
def gK(k:Int):oy Re:=fun l=>match l with
 |r::m=>if r.k=k∧fr r=true then some (r,m)else none
 | []=>none
def dq:List Int→oy (List Re)
 | [],l=>some ([],l)
 |k::ks,l=>if k<256∨dL (k % 256) l=true then
   (match gK (k % 256) l with
    |some (r,m)=>(match dq ks m with
     |some (rs,m')=>some (r::rs,m')
     |none=>none)
    |none=>none)
  else dq ks l
def fP(p q:oy (List Re)):oy (List Re):=fun l=>match p l with
 |some (a,m)=>(match q m with
  |some (b,m')=>some (a++b,m')
  |none=>none)
 |none=>none
def jI:oy (List Re):=fun l=>if dL 26 l=true then dq [26,283,284] l else some ([],l)
def gJ(k:Int):oy (List Re):=
 if k=8 then dq [13,14,16]
 else if k=9 then dq [13,14,289,271,304,305,16]
 else if k=10 then fP (dq [18]) (fP jI (dq [16]))
 else if k=11 then fP (dq [18]) (fP jI (dq [19,16]))
 else if k=12 then fP (dq [13,22,279,289,271]) (fP jI (dq [16,25]))
 else if k=21 then dq [13,42,16]
 else if k=45 then dq [13,46,16]
 else fun l=>some ([],l)
def eB:oy (List Re):=fun l=>match l with
 |r::_=>fP (dq [r.k,294,303]) (gJ r.k) l
 | []=>none
def fe:Nat→oy (List Re)
 |0,l=>some ([],l)
 |n+1,l=>if dL 43 l=true then
   (match dq [43,44] l with
    |some (a,m)=>(match fe n m with
     |some (b,m')=>some (a++b,m')
     |none=>none)
    |none=>none)
  else some ([],l)
def fZ:oy Im:=fun l=>match eB l with
 |some (f,m)=>(match fe m.length m with
  |some (p,m')=>(match gK 17 m' with
   |some (_,Mh)=>some (⟨f,p⟩,Mh)
   |none=>none)
  |none=>none)
 |none=>none
def pB(k:Int):Bool:=k==8||k==9||k==10||k==11||k==12||k==21||k==45
def eg(l:List Re):Bool:=match l with
 |r::_=>pB r.k
 | []=>false
def gh:Nat→oy (List Im)
 |0,l=>some ([],l)
 |n+1,l=>if eg l=true then
   (match fZ l with
    |some (x,m)=>(match gh n m with
     |some (xs,m')=>some (x::xs,m')
     |none=>none)
    |none=>none)
  else some ([],l)
def qi:oy Ce:=fun l=>match dq [5,6,308] l with
 |some (h,m)=>(match gh m.length m with
  |some (i,m')=>(match gK 7 m' with
   |some (_,Mh)=>some (⟨h,i⟩,Mh)
   |none=>none)
  |none=>none)
 |none=>none
def fN:Nat→oy (List Ce)
 |0,l=>some ([],l)
 |n+1,l=>if dL 5 l=true then
   (match qi l with
    |some (x,m)=>(match fN n m with
     |some (xs,m')=>some (x::xs,m')
     |none=>none)
    |none=>none)
  else some ([],l)
def fX:Nat→oy (List Re)
 |0,l=>some ([],l)
 |n+1,l=>if dL 55 l=true then
   (match gK 55 l with
    |some (a,m)=>(match fX n m with
     |some (b,m')=>some (a::b,m')
     |none=>none)
    |none=>none)
  else some ([],l)
def oJ:oy (List Re):=fun l=>if dL 54 l=true then
  (match gK 54 l with
   |some (a,m)=>(match fX m.length m with
    |some (b,m')=>if b=[]then some ([a],m')else
     (match gK 56 m' with
      |some (e,Mh)=>some (a::(b++[e]),Mh)
      |none=>none)
    |none=>none)
   |none=>none)
 else some ([],l)
def qj:oy (List Re):=fP (dq [0,1,313,314,315,2,287,288,291,290]) (fP oJ (dq [3]))
def so:oy Li:=fun l=>match qj l with
 |some (h,m)=>(match fN m.length m with
  |some (c,m')=>(match gK 4 m' with
   |some (_,Mh)=>some (⟨h,c⟩,Mh)
   |none=>none)
  |none=>none)
 |none=>none
def gD(k:Int):Re:=⟨k,0,[]⟩
def fQ(x:Im):List Re:=x.f++(x.p++[gD 17])
def gi(c:Ce):List Re:=c.h++(c.i.flatMap fQ++[gD 7])
def iQ(t:Li):List Re:=t.h++(t.c.flatMap gi++[gD 4])
def xq(x y:Im):Bool:=x.f.length==y.f.length&&x.p.length==y.p.length
def jY:List Im→List Im→Bool
 | [],[]=>true
 |x::l,y::m=>xq x y&&jY l m
 |_,_=>false
def xo(c d:Ce):Bool:=c.h.length==d.h.length&&jY c.i d.i
def jX:List Ce→List Ce→Bool
 | [],[]=>true
 |x::l,y::m=>xo x y&&jX l m
 |_,_=>false
def GJ(t u:Li):Bool:=t.h.length==u.h.length&&jX t.c u.c
def lS(t:Li):Bool:=match so (iQ t)with
 |some (u,[])=>GJ t u
 |_=>false
theorem fO{k:Int}{l m:List Re}{r:Re}(h:gK k l=some (r,m)):l=r::m∧r.k=k∧fr r=true:=by
 unfold gK at h;split at h
 ·split at h
  ·rename_i hk;simp only[aq,aG]at h;obtain⟨rfl,rfl⟩:=h;exact⟨rfl,hk⟩
  ·simp at h
 ·simp at h
def sQ{α:Type}(p:oy α)(fl:α→List Re):Prop:=∀l x m,p l=some (x,m)→l=fl x++m
def oz(p:oy (List Re)):Prop:=∀l x m,p l=some (x,m)→∀r∈x,fr r=true
theorem cU:∀ks,sQ (dq ks) id∧oz (dq ks)
 | []=>⟨fun l x m h=>by simp[dq]at h;simp[h],fun l x m h=>by simp[dq]at h;simp[h.1]⟩
 |k::ks=>by
  have ih:=cU ks;have key:∀l x m,dq (k::ks) l=some (x,m)→l=x++m∧∀r∈x,fr r=true:=by
   intro l x m h;unfold dq at h;split at h
   ·split at h
    ·rename_i r m1 hm;split at h
     ·rename_i rs m2 hr;simp only[aq,aG]at h;obtain⟨rfl,rfl⟩:=h;obtain⟨rfl,_,hrr⟩:=fO hm;have e1:=ih.1 _ _ _ hr;have e2:=ih.2 _ _ _ hr;simp only[id]at e1;subst e1;refine⟨rfl,fun r hr=>?_⟩;rcases List.mem_cons.1 hr with rfl|hr
      ·exact hrr
      ·exact e2 r hr
     ·simp at h
    ·simp at h
   ·exact⟨ih.1 _ _ _ h,ih.2 _ _ _ h⟩
  exact⟨fun l x m h=>(key l x m h).1,fun l x m h=>(key l x m h).2⟩
theorem f_{p q:oy (List Re)}(hp:sQ p id∧oz p)(hq:sQ q id∧oz q):sQ (fP p q) id∧oz (fP p q):=by
 have key:∀l x m,fP p q l=some (x,m)→l=x++m∧∀r∈x,fr r=true:=by
  intro l x m h;unfold fP at h;split at h
  ·rename_i a m1 ha;split at h
   ·rename_i b m2 hb;simp only[aq,aG]at h;obtain⟨rfl,rfl⟩:=h;have e1:=hp.1 _ _ _ ha;have e2:=hq.1 _ _ _ hb;simp only[id]at e1 e2;subst e1 e2;refine⟨by simp,fun r hr=>?_⟩;rcases List.mem_append.1 hr with hr|hr
    ·exact hp.2 _ _ _ ha r hr
    ·exact hq.2 _ _ _ hb r hr
   ·simp at h
  ·simp at h
 exact⟨fun l x m h=>(key l x m h).1,fun l x m h=>(key l x m h).2⟩
theorem pG:sQ (fun l=>some (([]:List Re),l)) id∧oz (fun l=>some ([],l)):=
 ⟨fun l x m h=>by simp at h;simp[h],fun l x m h=>by simp at h;simp[h.1]⟩
theorem kI:sQ jI id∧oz jI:=by
 refine⟨fun l x m h=>?_,fun l x m h=>?_⟩<;>unfold jI at h<;>split at h
 ·exact(cU _).1 _ _ _ h
 ·exact pG.1 _ _ _ h
 ·exact(cU _).2 _ _ _ h
 ·exact pG.2 _ _ _ h
theorem pN(k:Int):sQ (gJ k) id∧oz (gJ k):=by
 unfold gJ
 repeat' split
 ·exact cU _
 ·exact cU _
 ·exact f_ (cU _) (f_ kI (cU _))
 ·exact f_ (cU _) (f_ kI (cU _))
 ·exact f_ (cU _) (f_ kI (cU _))
 ·exact cU _
 ·exact cU _
 ·exact pG
theorem EW:sQ eB id∧oz eB:=by
 refine⟨fun l x m h=>?_,fun l x m h=>?_⟩<;>unfold eB at h<;>split at h
 ·exact(f_ (cU _) (pN _)).1 _ _ _ h
 ·simp at h
 ·exact(f_ (cU _) (pN _)).2 _ _ _ h
 ·simp at h
theorem zq:∀n,sQ (fe n) id∧oz (fe n)
 |0=>pG
 |n+1=>by
  have ih:=zq n;have:=f_ (cU [43,44]) ih;refine⟨fun l x m h=>?_,fun l x m h=>?_⟩<;>unfold fe at h<;>split at h
  ·exact this.1 _ _ _ h
  ·exact pG.1 _ _ _ h
  ·exact this.2 _ _ _ h
  ·exact pG.2 _ _ _ h
theorem zR{k:Int}{r:Re}(hk:k=17∨k=7∨k=4)(h:r.k=k)(hr:fr r=true):r=gD k:=by
 obtain⟨rk,rd,rb⟩:=r;simp only at h;subst h;have hs:E9 rk=some ⟨0,1,0,0⟩:=by rcases hk with rfl|rfl|rfl<;>rfl
 simp only[fr,hs,aK,eJ,cY]at hr;obtain⟨h1,_,_,h4,_⟩:=hr;have:rb.length=0:=by omega
 unfold gD;rw[h1,aL this]
theorem wc{k:Int}(hk:k=17∨k=7∨k=4):fr (gD k)=true:=by rcases hk with rfl|rfl|rfl<;>decide
theorem sj:sQ fZ fQ:=by
 intro l x m h;unfold fZ at h;split at h
 ·rename_i f m1 hf;split at h
  ·rename_i p m2 hp;split at h
   ·rename_i r m3 hm;simp only[aq,aG]at h;obtain⟨rfl,rfl⟩:=h;obtain⟨rfl,hk,hr⟩:=fO hm;have e1:=EW.1 _ _ _ hf;have e2:=(zq _).1 _ _ _ hp;simp only[id]at e1 e2;rw[e1,e2,zR (.inl rfl) hk hr];simp[fQ]
   ·simp at h
  ·simp at h
 ·simp at h
theorem uo:∀n,sQ (gh n) (List.flatMap fQ)
 |0=>fun l x m h=>by simp[gh]at h;obtain⟨rfl,rfl⟩:=h;simp
 |n+1=>fun l x m h=>by
  unfold gh at h;split at h
  ·split at h
   ·rename_i y m1 hy;split at h
    ·rename_i ys m2 WL;simp only[aq,aG]at h;obtain⟨rfl,rfl⟩:=h;have e1:=sj _ _ _ hy;have e2:=uo n _ _ _ WL;rw[e1,e2];simp
    ·simp at h
   ·simp at h
  ·simp at h;obtain⟨rfl,rfl⟩:=h;simp
theorem si:sQ qi gi:=by
 intro l x m h;unfold qi at h;split at h
 ·rename_i f m1 hf;split at h
  ·rename_i p m2 hp;split at h
   ·rename_i r m3 hm;simp only[aq,aG]at h;obtain⟨rfl,rfl⟩:=h;obtain⟨rfl,hk,hr⟩:=fO hm;have e1:=(cU _).1 _ _ _ hf;have e2:=(uo _) _ _ _ hp;simp only[id]at e1 e2;rw[e1,e2,zR (.inr (.inl rfl)) hk hr];simp[gi]
   ·simp at h
  ·simp at h
 ·simp at h
theorem zl:∀n,sQ (fN n) (List.flatMap gi)
 |0=>fun l x m h=>by simp[fN]at h;obtain⟨rfl,rfl⟩:=h;simp
 |n+1=>fun l x m h=>by
  unfold fN at h;split at h
  ·split at h
   ·rename_i y m1 hy;split at h
    ·rename_i ys m2 WL;simp only[aq,aG]at h;obtain⟨rfl,rfl⟩:=h;have e1:=si _ _ _ hy;have e2:=zl n _ _ _ WL;rw[e1,e2];simp
    ·simp at h
   ·simp at h
  ·simp at h;obtain⟨rfl,rfl⟩:=h;simp
theorem uq:∀n,sQ (fX n) id∧oz (fX n)
 |0=>pG
 |n+1=>by
  have ih:=uq n;have key:∀l x m,fX (n+1) l=some (x,m)→l=x++m∧∀r∈x,fr r=true:=by
   intro l x m h;unfold fX at h;split at h
   ·split at h
    ·rename_i r m1 hm;split at h
     ·rename_i rs m2 hr;simp only[aq,aG]at h;obtain⟨rfl,rfl⟩:=h;obtain⟨rfl,_,hrr⟩:=fO hm;have e1:=ih.1 _ _ _ hr;have e2:=ih.2 _ _ _ hr;simp only[id]at e1;subst e1;refine⟨rfl,fun r hr=>?_⟩;rcases List.mem_cons.1 hr with rfl|hr
      ·exact hrr
      ·exact e2 r hr
     ·simp at h
    ·simp at h
   ·simp at h;obtain⟨rfl,rfl⟩:=h;simp
  exact⟨fun l x m h=>(key l x m h).1,fun l x m h=>(key l x m h).2⟩
theorem BO:sQ oJ id∧oz oJ:=by
 have key:∀l x m,oJ l=some (x,m)→l=x++m∧∀r∈x,fr r=true:=by
  intro l x m h;unfold oJ at h;split at h
  ·split at h
   ·rename_i a m1 ha;obtain⟨rfl,_,hra⟩:=fO ha;split at h
    ·rename_i b m2 hb;have e1:=(uq _).1 _ _ _ hb;have e2:=(uq _).2 _ _ _ hb;simp only[id]at e1;subst e1;split at h
     ·rename_i hb0;simp only[aq,aG]at h;obtain⟨rfl,rfl⟩:=h;subst hb0;exact⟨rfl,fun r hr=>by simp at hr;subst hr;exact hra⟩
     ·split at h
      ·rename_i e m3 he;simp only[aq,aG]at h;obtain⟨rfl,rfl⟩:=h;obtain⟨rfl,_,ON⟩:=fO he;refine⟨by simp,fun r hr=>?_⟩;simp only[aF,eA,aJ,b_]at hr;rcases hr with rfl|hr|rfl
       ·exact hra
       ·exact e2 r hr
       ·exact ON
      ·simp at h
    ·simp at h
   ·simp at h
  ·simp at h;obtain⟨rfl,rfl⟩:=h;simp
 exact⟨fun l x m h=>(key l x m h).1,fun l x m h=>(key l x m h).2⟩
theorem JC:sQ qj id∧oz qj:=f_ (cU _) (f_ BO (cU _))
theorem MG:sQ so iQ:=by
 intro l x m h;unfold so at h;split at h
 ·rename_i f m1 hf;split at h
  ·rename_i p m2 hp;split at h
   ·rename_i r m3 hm;simp only[aq,aG]at h;obtain⟨rfl,rfl⟩:=h;obtain⟨rfl,hk,hr⟩:=fO hm;have e1:=JC.1 _ _ _ hf;have e2:=(zl _) _ _ _ hp;simp only[id]at e1 e2;rw[e1,e2,zR (.inr (.inr rfl)) hk hr];simp[iQ]
   ·simp at h
  ·simp at h
 ·simp at h
theorem Pg{x y:Im}{a b:List Re}(h:xq x y=true)(e:fQ x++a=fQ y++b):x=y∧a=b:=by
 obtain⟨xf,xp⟩:=x;obtain⟨yf,yp⟩:=y;simp only[xq,aK,eJ]at h;simp only[fQ,aU]at e;obtain⟨rfl,e1⟩:=List.append_inj e h.1;obtain⟨rfl,e2⟩:=List.append_inj e1 h.2;exact⟨rfl,by simpa using e2⟩
theorem Dj:∀{l m:List Im} {a b:List Re},jY l m=true→l.flatMap fQ++a=m.flatMap fQ++b→l=m∧a=b
 | [],[],a,b,_,e=>⟨rfl,by simpa using e⟩
 | [],y::m,_,_,h,_=>by simp[jY]at h
 |x::l,[],_,_,h,_=>by simp[jY]at h
 |x::l,y::m,a,b,h,e=>by
  simp only[jY,aK]at h;simp only[bB,aU]at e;obtain⟨rfl,e1⟩:=Pg h.1 e;obtain⟨rfl,e2⟩:=Dj h.2 e1;exact⟨rfl,e2⟩
theorem Pf{x y:Ce}{a b:List Re}(h:xo x y=true)(e:gi x++a=gi y++b):x=y∧a=b:=by
 obtain⟨xf,xp⟩:=x;obtain⟨yf,yp⟩:=y;simp only[xo,aK,eJ]at h;simp only[gi,aU]at e;obtain⟨rfl,e1⟩:=List.append_inj e h.1;obtain⟨rfl,e2⟩:=Dj h.2 e1;exact⟨rfl,by simpa using e2⟩
theorem Di:∀{l m:List Ce} {a b:List Re},jX l m=true→l.flatMap gi++a=m.flatMap gi++b→l=m∧a=b
 | [],[],a,b,_,e=>⟨rfl,by simpa using e⟩
 | [],y::m,_,_,h,_=>by simp[jX]at h
 |x::l,[],_,_,h,_=>by simp[jX]at h
 |x::l,y::m,a,b,h,e=>by
  simp only[jX,aK]at h;simp only[bB,aU]at e;obtain⟨rfl,e1⟩:=Pf h.1 e;obtain⟨rfl,e2⟩:=Di h.2 e1;exact⟨rfl,e2⟩
theorem SP{x y:Li}{a b:List Re}(h:GJ x y=true)(e:iQ x++a=iQ y++b):x=y∧a=b:=by
 obtain⟨xf,xp⟩:=x;obtain⟨yf,yp⟩:=y;simp only[GJ,aK,eJ]at h;simp only[iQ,aU]at e;obtain⟨rfl,e1⟩:=List.append_inj e h.1;obtain⟨rfl,e2⟩:=Di h.2 e1;exact⟨rfl,by simpa using e2⟩
theorem zi:∀l,jY l l=true
 | []=>rfl
 |x::l=>by simp[jY,xq,zi l]
theorem zh:∀l,jX l l=true
 | []=>rfl
 |x::l=>by simp[jX,xo,zi,zh l]
theorem MX{t:Li}:lS t=true↔so (iQ t)=some (t,[]):=by
 unfold lS;constructor
 ·intro h;split at h
  ·rename_i u hu;have e:=MG _ _ _ hu;rw[ai]at e;obtain⟨rfl,_⟩:=SP (a:=[]) (b:=[]) h (by simpa using e);exact hu
  ·simp at h
 ·intro h;rw[h];simp[GJ,zh]
def Am(K:List Int)(m m':List Re):Prop:=∀k∈K,dL k m=dL k m'
def YR(K:List Int){α:Type}(p:oy α)(fl:α→List Re):Prop:=∀l x m m',p l=some (x,m)→Am K m m'→p (fl x++m')=some (x,m')
def Iy{α:Type}(p:oy α)(fl:α→List Re):Prop:=∀l x m m',p l=some (x,m)→p (fl x++m')=some (x,m')
theorem uB{x m m':List Re}{k:Int}(h:x=[]→dL k m=dL k m'):dL k (x++m)=dL k (x++m'):=by
 cases x with
 |nil=>exact h rfl
 |cons r x=>rfl
theorem Am.app{K:List Int}{x m m':List Re}(h:x=[]→Am K m m'):Am K (x++m) (x++m'):=fun k hk=>uB (fun e=>h e k hk)
theorem lq{k:Int}{r:Re}{m:List Re}(h1:r.k=k)(h2:fr r=true):gK k (r::m)=some (r,m):=by simp[gK,h1,h2]
theorem pQ:∀(ks:List Int) {K:List Int},(∀k∈ks,¬k<256→k % 256∈K)→YR K (dq ks) id
 | [],K,_=>fun l x m m' h _=>by simp[dq]at h;obtain⟨rfl,rfl⟩:=h;rfl
 |k::ks,K,hK=>fun l x m m' h ha=>by
  have ih:=pQ ks (K:=K) (fun k hk=>hK k (cQ _ hk));have el:=(cU (k::ks)).1 _ _ _ h;simp only[id]at el⊢;unfold dq at h;split at h
  ·rename_i hc;split at h
   ·rename_i r m1 hm;split at h
    ·rename_i rs m2 hr;simp only[aq,aG]at h;obtain⟨rfl,rfl⟩:=h;obtain⟨rfl,hk,hrr⟩:=fO hm;have:=ih _ _ _ m' hr ha;unfold dq;rw[if_pos (by rcases hc with hc|hc;exact .inl hc;exact .inr hc),dA,lq hk hrr];simp only[id]at this;simp only[this]
    ·simp at h
   ·simp at h
  ·rename_i hc;have:=ih _ _ _ m' h ha;unfold dq;rw[if_neg ?_]
   ·exact this
   ·intro hn;rcases hn with hn|hn
    ·exact hc (.inl hn)
    ·apply hc;refine .inr ?_;rw[el];rw[uB (x:=x) (m:=m) (m':=m') (fun _=>ha _ (hK k (by simp) (fun h=>hc (.inl h))))];exact hn
theorem hZ:∀(ks:List Int) (k:Int),k<256→Iy (dq (ks++[k])) id∧∀l x m,dq (ks++[k]) l=some (x,m)→x≠ []
 | [],k,hk=>by
  refine⟨fun l x m m' h=>?_,fun l x m h=>?_⟩
  ·simp only[az,dq,hk,true_or,fj]at h⊢;split at h
   ·rename_i r m1 hm;simp only[aq,aG]at h;obtain⟨rfl,rfl⟩:=h;obtain⟨rfl,hk,hrr⟩:=fO hm;simp only[id,dA,az,lq hk hrr]
   ·simp at h
  ·simp only[az,dq,hk,true_or,fj]at h;split at h
   ·simp only[aq,aG]at h;rw[←h.1];simp
   ·simp at h
 |j::ks,k,hk=>by
  have ih:=hZ ks k hk;have key:∀l x m m',dq (j::(ks++[k])) l=some (x,m)→dq (j::(ks++[k])) (x++m')=some (x,m')∧x≠ []:=by
   intro l x m m' h;have el:=(cU (j::(ks++[k]))).1 _ _ _ h;simp only[id]at el;unfold dq at h;split at h
   ·rename_i hc;split at h
    ·rename_i r m1 hm;split at h
     ·rename_i rs m2 hr;simp only[aq,aG]at h;obtain⟨rfl,rfl⟩:=h;obtain⟨rfl,hk,hrr⟩:=fO hm;have:=ih.1 _ _ _ m' hr;simp only[id]at this;refine⟨?_,by simp⟩;unfold dq;rw[if_pos (by rcases hc with hc|hc;exact .inl hc;exact .inr hc),dA,lq hk hrr];simp only[this]
     ·simp at h
    ·simp at h
   ·rename_i hc;have h1:=ih.1 _ _ _ m' h;have h2:=ih.2 _ _ _ h;refine⟨?_,h2⟩;unfold dq;rw[if_neg ?_]
    ·exact h1
    ·intro hn;rcases hn with hn|hn
     ·exact hc (.inl hn)
     ·apply hc;refine .inr ?_;rw[el,uB (x:=x) (m:=m) (m':=m') (fun e=>absurd e h2)];exact hn
  exact⟨fun l x m m' h=>(key l x m m' h).1,fun l x m h=>(key l x m m h).2⟩
theorem kQ{K:List Int}{p q:oy (List Re)}(hqe:sQ q id)(hp:YR K p id)(hq:Iy q id∧∀l x m,q l=some (x,m)→x≠ []):Iy (fP p q) id∧∀l x m,fP p q l=some (x,m)→x≠ []:=by
 have key:∀l x m m',fP p q l=some (x,m)→fP p q (x++m')=some (x,m')∧x≠ []:=by
  intro l x m m' h;unfold fP at h⊢;split at h
  ·rename_i a m1 h1;split at h
   ·rename_i b m2 h2;simp only[aq,aG]at h;obtain⟨rfl,rfl⟩:=h;have e2:=hqe _ _ _ h2;simp only[id]at e2;subst e2;have hb:=hq.2 _ _ _ h2;have g2:=hq.1 _ _ _ m' h2;have g1:=hp _ _ _ (b++m') h1 (Am.app fun e=>absurd e hb);simp only[id]at g1 g2;rw[aU,g1];simp only[g2];exact⟨trivial,by simp[hb]⟩
   ·simp at h
  ·simp at h
 exact⟨fun l x m m' h=>(key l x m m' h).1,fun l x m h=>(key l x m m h).2⟩
theorem Iy.loc{K:List Int}{α:Type}{p:oy α}{fl:α→List Re}(h:Iy p fl):YR K p fl:=fun l x m m' hl _=>h l x m m' hl
theorem wy:YR [26,27,28] jI id:=fun l x m m' h ha=>by
 have el:=kI.1 _ _ _ h;simp only[id]at el⊢;unfold jI at h⊢;split at h
 ·rename_i hs;have hx:x≠ []:=by
   rintro rfl;have:=hZ [] 26 (by decide);unfold dq at h;simp only[true_or,fj,show(26:Int)<256 by decide]at h;split at h
   ·split at h<;>simp at h
   ·simp at h
  rw[←uB (x:=x) (m:=m) (m':=m') (fun e=>absurd e hx),←el,if_pos hs];exact pQ [26,283,284] (K:=[26,27,28]) (by decide) _ _ _ m' h ha
 ·rename_i hs;simp only[aq,aG]at h;obtain⟨rfl,rfl⟩:=h;rw[if_neg (by rw[az,←ha 26 (by simp)];exact hs)];rfl
theorem JB{k:Int}(hk:pB k=true):Iy (gJ k) id∧∀l x m,gJ k l=some (x,m)→x≠ []:=by
 simp only[pB,dI,eJ]at hk;rcases hk with(((((rfl|rfl)|rfl)|rfl)|rfl)|rfl)|rfl
 ·exact hZ [13,14] 16 (by decide)
 ·exact hZ [13,14,289,271,304,305] 16 (by decide)
 ·exact kQ (K:=[26,27,28]) (f_ kI (cU _)).1 (hZ [] 18 (by decide)).1.loc (kQ (cU _).1 wy (hZ [] 16 (by decide)))
 ·exact kQ (K:=[26,27,28]) (f_ kI (cU _)).1 (hZ [] 18 (by decide)).1.loc (kQ (cU _).1 wy (hZ [19] 16 (by decide)))
 ·exact kQ (K:=[23,33,15]) (f_ kI (cU _)).1 (pQ _ (by decide)) (kQ (cU _).1 wy (hZ [16] 25 (by decide)))
 ·exact hZ [13,42] 16 (by decide)
 ·exact hZ [13,46] 16 (by decide)
theorem xJ{r:Re}{l x m:List Re}(hk:pB r.k=true)(h:eB (r::l)=some (x,m)):(∃x',x=r::x')∧∀m',eB (x++m')=some (x,m'):=by
 unfold eB at h;simp only at h;have hs:=kQ (K:=[38,47]) (p:=dq [r.k,294,303]) (pN r.k).1 (pQ _ (by
  intro k h1 h2;simp only[aF,aJ,b_]at h1;rcases h1 with rfl|rfl|rfl
  ·exfalso
   apply h2;simp only[pB,dI,eJ]at hk;omega
  ·decide
  ·decide)) (JB hk)
 have he:=(f_ (cU [r.k,294,303]) (pN r.k)).1 _ _ _ h;simp only[id]at he;cases x with
 |nil=>exact absurd rfl (hs.2 _ _ _ h)
 |cons y x=>
  rw[dA]at he;injection he with e1 e2;subst e1;refine⟨⟨x,rfl⟩,fun m'=>?_⟩;have:=hs.1 _ _ _ m' h;simp only[id]at this;unfold eB;exact this
theorem vg{a b:Int}{l x m:List Re}(h:dq [a,b] l=some (x,m))(ha:a<256:=by decide):m.length<l.length:=by
 have e:=(cU [a,b]).1 _ _ _ h;simp only[id]at e;have hx:x≠ []:=by
  rintro rfl;unfold dq at h;simp only[ha,true_or,fj]at h;split at h
  ·split at h<;>simp at h
  ·simp at h
 rw[e,aA];cases x with
 |nil=>exact absurd rfl hx
 |cons r x=>simp
theorem zr:∀(n n':Nat) (l:List Re),l.length≤n→l.length≤n'→fe n l=fe n' l
 |0,0,l,_,_=>rfl
 |0,n'+1,l,h,_=>by
  have:l=[]:=aL (by omega);subst this;simp[fe,dL]
 |n+1,0,l,_,h=>by
  have:l=[]:=aL (by omega);subst this;simp[fe,dL]
 |n+1,n'+1,l,h,h'=>by
  unfold fe;split
  ·split
   ·rename_i a m hm;have:=vg hm;rw[zr n n' m (by omega) (by omega)]
   ·rfl
  ·rfl
theorem BV:∀n,∀l x m m',l.length≤n→fe n l=some (x,m)→Am [43] m m'→∀n',(x++m').length≤n'→fe n' (x++m')=some (x,m')
 |0,l,x,m,m',hl,h,ha,n',hn=>by
  have:l=[]:=aL (by omega);subst this;simp[fe]at h;obtain⟨rfl,rfl⟩:=h;cases n' with
  |zero=>rfl
  |succ n'=>
   unfold fe;rw[az,if_neg (by rw[←ha 43 (by simp)];decide)]
 |n+1,l,x,m,m',hl,h,ha,n',hn=>by
  unfold fe at h;split at h
  ·rename_i hs;split at h
   ·rename_i a m1 h1;split at h
    ·rename_i b m2 h2;simp only[aq,aG]at h;obtain⟨rfl,rfl⟩:=h;have e1:=(cU _).1 _ _ _ h1;simp only[id]at e1;subst e1;have hlen:=vg h1;have ih:=BV n m1 b _ m' (by simp only[aA]at hl hlen;omega) h2 ha;have g1:=(hZ [43] 44 (by decide)).1 _ _ _ (b++m') h1;simp only[id]at g1;have ha0:a≠ []:=(hZ [43] 44 (by decide)).2 _ _ _ h1;have hpos:0<a.length:=List.length_pos_iff.2 ha0;cases n' with
     |zero=>simp only[aA]at hn;omega
     |succ n'=>
      unfold fe;rw[aU,uB (x:=a) (m:=b++m') (m':=m1) (fun e=>absurd e ha0),if_pos hs];rw[show dq [43,44] (a++(b++m'))=some (a,b++m')from g1];simp only;rw[ih n' (by simp only[aA]at hn⊢;omega)]
    ·simp at h
   ·simp at h
  ·rename_i hs;simp only[aq,aG]at h;obtain⟨rfl,rfl⟩:=h;cases n' with
   |zero=>
    rfl
   |succ n'=>
    unfold fe;rw[az,if_neg (by rw[←ha 43 (by simp)];exact hs)]
def ju(x:Im):Prop:=eg (fQ x)=true∧fZ (fQ x)=some (x,[])
theorem BQ{l m:List Re}{x:Im}(hs:eg l=true)(h:fZ l=some (x,m)):eg (fQ x)=true∧∀m',fZ (fQ x++m')=some (x,m'):=by
 cases l with
 |nil=>simp[eg]at hs
 |cons r l=>
  simp only[eg]at hs;unfold fZ at h;split at h
  ·rename_i f m1 hf;obtain⟨⟨f',rfl⟩,g1⟩:=xJ hs hf;split at h
   ·rename_i p m2 hp;split at h
    ·rename_i r' m3 hm;simp only[aq,aG]at h;obtain⟨rfl,rfl⟩:=h;obtain⟨rfl,hk,hr⟩:=fO hm;refine⟨by simpa [fQ,eg]using hs,fun m'=>?_⟩;have g2:=BV _ _ _ _ (gD 17::m') (aj _) hp (fun k hk'=>by simp only[aF,aJ,b_]at hk';subst hk';simp[dL,gD,hk]) _ (aj _);unfold fZ;rw[show fQ ⟨r::f',p⟩++m'=(r::f')++(p++(gD 17::m'))by simp[fQ],g1];simp only;rw[g2];simp only;rw[lq (k:=17) (r:=gD 17) rfl (wc (.inl rfl))]
    ·simp at h
   ·simp at h
  ·simp at h
theorem Md{l m:List Re}{x:Im}(hs:eg l=true)(h:fZ l=some (x,m)):ju x:=by
 obtain⟨h1,h2⟩:=BQ hs h;exact⟨h1,by simpa using h2 []⟩
theorem ju.go{x:Im}(h:ju x)(m:List Re):eg (fQ x++m)=true∧fZ (fQ x++m)=some (x,m):=by
 refine⟨?_,(BQ h.1 h.2).2 m⟩;have:=h.1;cases hf:fQ x with
 |nil=>rw[hf]at this;simp[eg]at this
 |cons r l=>rw[hf]at this;exact this
theorem qZ(x:Im):fQ x≠ []:=by simp[fQ]
theorem DC:∀n l xs m,l.length≤n→gh n l=some (xs,m)→(∀x∈xs,ju x)∧eg m=false
 |0,l,xs,m,hl,h=>by
  have:l=[]:=aL (by omega);subst this;simp[gh]at h;obtain⟨rfl,rfl⟩:=h;exact⟨by simp,rfl⟩
 |n+1,l,xs,m,hl,h=>by
  unfold gh at h;split at h
  ·rename_i hs;split at h
   ·rename_i y m1 hy;split at h
    ·rename_i ys m2 WL;simp only[aq,aG]at h;obtain⟨rfl,rfl⟩:=h;have e:=sj _ _ _ hy;have hlen:m1.length<l.length:=by
      rw[e,aA];have:=List.length_pos_iff.2 (qZ y);omega
     obtain⟨g1,g2⟩:=DC n m1 ys _ (by omega) WL;refine⟨fun x hx=>?_,g2⟩;rcases List.mem_cons.1 hx with rfl|hx
     ·exact Md hs hy
     ·exact g1 x hx
    ·simp at h
   ·simp at h
  ·rename_i hs;simp only[aq,aG]at h;obtain⟨rfl,rfl⟩:=h;exact⟨by simp,by simpa using hs⟩
theorem DB:∀(xs:List Im) (n:Nat) (m:List Re),(∀x∈xs,ju x)→eg m=false→(xs.flatMap fQ++m).length≤n→gh n (xs.flatMap fQ++m)=some (xs,m)
 | [],n,m,_,hm,hn=>by
  cases n with
  |zero=>rfl
  |succ n=>
   unfold gh;simp only[List.flatMap_nil,az];rw[if_neg (by rw[hm];decide)]
 |x::xs,n,m,hx,hm,hn=>by
  obtain⟨h1,h2⟩:=ju.go (hx x (by simp)) (xs.flatMap fQ++m);have hpos:=List.length_pos_iff.2 (qZ x);cases n with
  |zero=>simp at hn;exact absurd hn.1 (qZ x)
  |succ n=>
   unfold gh;rw[bB,aU,if_pos h1,h2];simp only;rw[DB xs n m (fun y hy=>hx y (cQ _ hy)) hm (by simp only[bB,aA]at hn⊢;omega)]
def iy(h:List Re):Prop:=dq [5,6,308] (h++[gD 7])=some (h,[gD 7])
def tu(c:Ce):Prop:=iy c.h∧∀x∈c.i,ju x
theorem TH{l:List Re}{k:Int}(hs:eg l=true)(hk:pB k=false):dL k l=false:=by
 cases l with
 |nil=>rfl
 |cons r l=>
  simp only[eg]at hs;simp only[dL,cP];rintro rfl;rw[hs]at hk;simp at hk
theorem AD{xs:List Im}{m:List Re}(hx:∀x∈xs,ju x):dL 52 (xs.flatMap fQ++gD 7::m)=false:=by
 cases xs with
 |nil=>rfl
 |cons x xs=>
  rw[bB,aU];exact TH ((hx x (by simp)).go _).1 (by decide)
theorem Qk{l m:List Re}{c:Ce}(h:qi l=some (c,m)):tu c:=by
 unfold qi at h;split at h
 ·rename_i f m1 hf;split at h
  ·rename_i p m2 hp;split at h
   ·rename_i r m3 hm;simp only[aq,aG]at h;obtain⟨rfl,rfl⟩:=h;obtain⟨rfl,hk,hr⟩:=fO hm;have hpo:=(DC _ _ _ _ (aj _) hp).1;have e2:=uo _ _ _ _ hp;have hr7:=zR (.inr (.inl rfl)) hk hr;refine⟨?_,hpo⟩;refine pQ [5,6,308] (K:=[52]) (by decide) _ _ _ _ hf (fun k hk'=>?_);simp only[aF,aJ,b_]at hk';subst hk';rw[e2,hr7,AD hpo];rfl
   ·simp at h
  ·simp at h
 ·simp at h
theorem iy.shape{h:List Re}(hh:iy h):∃r l,h=r::l∧r.k=5:=by
 unfold iy dq at hh;simp only[true_or,fj,show(5:Int)<256 by decide]at hh;split at hh
 ·rename_i r m hm;obtain⟨e,hk,_⟩:=fO hm;split at hh
  ·simp only[aq,aG]at hh;exact⟨r,_,hh.1.symm,hk⟩
  ·simp at hh
 ·simp at hh
theorem tu.go{c:Ce}(h:tu c)(m:List Re):dL 5 (gi c++m)=true∧qi (gi c++m)=some (c,m):=by
 obtain⟨ch,ci⟩:=c;obtain⟨h1,h2⟩:=h;simp only at h1 h2;obtain⟨r,l,rfl,hk⟩:=h1.shape;refine⟨by simp[gi,dL,hk],?_⟩;unfold qi;have g1:=pQ [5,6,308] (K:=[52]) (by decide) _ _ _ (ci.flatMap fQ++gD 7::m) h1 (fun k hk'=>by
  simp only[aF,aJ,b_]at hk';subst hk';rw[AD h2];rfl)
 simp only[id]at g1;rw[show gi ⟨r::l,ci⟩++m=(r::l)++(ci.flatMap fQ++gD 7::m)by simp[gi],g1];simp only;rw[DB ci _ _ h2 rfl (aj _)];simp only;rw[lq (k:=7) (r:=gD 7) rfl (wc (.inr (.inl rfl)))]
theorem qY(x:Ce):gi x≠ []:=by simp[gi]
theorem DA:∀n l xs m,l.length≤n→fN n l=some (xs,m)→(∀x∈xs,tu x)∧dL 5 m=false
 |0,l,xs,m,hl,h=>by
  have:l=[]:=aL (by omega);subst this;simp[fN]at h;obtain⟨rfl,rfl⟩:=h;exact⟨by simp,rfl⟩
 |n+1,l,xs,m,hl,h=>by
  unfold fN at h;split at h
  ·rename_i hs;split at h
   ·rename_i y m1 hy;split at h
    ·rename_i ys m2 WL;simp only[aq,aG]at h;obtain⟨rfl,rfl⟩:=h;have e:=si _ _ _ hy;have hlen:m1.length<l.length:=by
      rw[e,aA];have:=List.length_pos_iff.2 (qY y);omega
     obtain⟨g1,g2⟩:=DA n m1 ys _ (by omega) WL;refine⟨fun x hx=>?_,g2⟩;rcases List.mem_cons.1 hx with rfl|hx
     ·exact Qk hy
     ·exact g1 x hx
    ·simp at h
   ·simp at h
  ·rename_i hs;simp only[aq,aG]at h;obtain⟨rfl,rfl⟩:=h;exact⟨by simp,by simpa using hs⟩
theorem Dz:∀(xs:List Ce) (n:Nat) (m:List Re),(∀x∈xs,tu x)→dL 5 m=false→(xs.flatMap gi++m).length≤n→fN n (xs.flatMap gi++m)=some (xs,m)
 | [],n,m,_,hm,hn=>by
  cases n with
  |zero=>rfl
  |succ n=>
   unfold fN;simp only[List.flatMap_nil,az];rw[if_neg (by rw[hm];decide)]
 |x::xs,n,m,hx,hm,hn=>by
  obtain⟨h1,h2⟩:=tu.go (hx x (by simp)) (xs.flatMap gi++m);cases n with
  |zero=>simp at hn;exact absurd hn.1 (qY x)
  |succ n=>
   unfold fN;rw[bB,aU,if_pos h1,h2];simp only;have hpos:=List.length_pos_iff.2 (qY x);rw[Dz xs n m (fun y hy=>hx y (cQ _ hy)) hm (by simp only[bB,aA]at hn⊢;omega)]
def I2(h:List Re):Prop:=qj h=some (h,[])
theorem zp:∀(n n':Nat) (l:List Re),l.length≤n→l.length≤n'→fX n l=fX n' l
 |0,0,l,_,_=>rfl
 |0,n'+1,l,h,_=>by
  have:l=[]:=aL (by omega);subst this;simp[fX,dL]
 |n+1,0,l,_,h=>by
  have:l=[]:=aL (by omega);subst this;simp[fX,dL]
 |n+1,n'+1,l,h,h'=>by
  unfold fX;split
  ·split
   ·rename_i a m hm;have:=(fO hm).1;subst this;simp only[aB]at h h';rw[zp n n' m (by omega) (by omega)]
   ·rfl
  ·rfl
theorem wv:∀n,∀l x m m',l.length≤n→fX n l=some (x,m)→Am [55] m m'→∀n',(x++m').length≤n'→fX n' (x++m')=some (x,m')
 |0,l,x,m,m',hl,h,ha,n',hn=>by
  have:l=[]:=aL (by omega);subst this;simp[fX]at h;obtain⟨rfl,rfl⟩:=h;cases n' with
  |zero=>rfl
  |succ n'=>
   unfold fX;rw[az,if_neg (by rw[←ha 55 (by simp)];decide)]
 |n+1,l,x,m,m',hl,h,ha,n',hn=>by
  unfold fX at h;split at h
  ·rename_i hs;split at h
   ·rename_i a m1 h1;split at h
    ·rename_i b m2 h2;simp only[aq,aG]at h;obtain⟨rfl,rfl⟩:=h;obtain⟨rfl,hk,hr⟩:=fO h1;simp only[aB]at hl;have ih:=wv n m1 b _ m' (by omega) h2 ha;cases n' with
     |zero=>simp at hn
     |succ n'=>
      unfold fX;rw[dA,if_pos (by simp[dL,hk]),lq hk hr];simp only;rw[ih n' (by simpa using hn)]
    ·simp at h
   ·simp at h
  ·rename_i hs;simp only[aq,aG]at h;obtain⟨rfl,rfl⟩:=h;cases n' with
   |zero=>rfl
   |succ n'=>
    unfold fX;rw[az,if_neg (by rw[←ha 55 (by simp)];exact hs)]
theorem ME:YR [54,55] oJ id:=fun l x m m' h ha=>by
 unfold oJ at h;split at h
 ·rename_i hs;split at h
  ·rename_i a m1 h1;obtain⟨rfl,hk,hr⟩:=fO h1;split at h
   ·rename_i b m2 h2;split at h
    ·rename_i hb;simp only[aq,aG]at h;obtain⟨rfl,rfl⟩:=h;subst hb;have g:=wv _ _ _ _ m' (aj _) h2 (fun k hk'=>ha k (by simp only[aF,aJ,b_]at hk'⊢;exact .inr hk')) m'.length (by simp);unfold oJ;simp only[id,dA,az]at g⊢;rw[if_pos (by simp[dL,hk]),lq hk hr];simp only[g,fj]
    ·rename_i hb;split at h
     ·rename_i e m3 h3;obtain⟨rfl,hk3,hr3⟩:=fO h3;simp only[aq,aG]at h;obtain⟨rfl,rfl⟩:=h;have g:=wv _ _ _ _ (e::m') (aj _) h2 (fun k hk'=>by simp[dL]) (b++e::m').length (aj _);unfold oJ;simp only[id,dA,aU,az]at g⊢;rw[if_pos (by simp[dL,hk]),lq hk hr];simp only[g];rw[if_neg hb,lq hk3 hr3]
     ·simp at h
   ·simp at h
  ·simp at h
 ·rename_i hs;simp only[aq,aG]at h;obtain⟨rfl,rfl⟩:=h;unfold oJ;simp only[id,az];rw[if_neg (by rw[←ha 54 (by simp)];exact hs)]
theorem BP:Iy qj id∧∀l x m,qj l=some (x,m)→x≠ []:=
 kQ (K:=[57,58,59,31,32,35,34]) (f_ BO (cU _)).1 (pQ _ (by decide)) (kQ (cU _).1 ME (hZ [] 3 (by decide)))
theorem oq{t:Li}:lS t=true↔I2 t.h∧∀c∈t.c,tu c:=by
 rw[MX];obtain⟨th,tc⟩:=t;constructor
 ·intro h;unfold so at h;split at h
  ·rename_i f m1 hf;split at h
   ·rename_i p m2 hp;split at h
    ·rename_i r m3 hm;simp only[aq,aG,Li.mk.injEq]at h;obtain⟨⟨rfl,rfl⟩,rfl⟩:=h;refine⟨?_,(DA _ _ _ _ (aj _) hp).1⟩;have:=BP.1 _ _ _ [] hf;simpa [I2]using this
    ·simp at h
   ·simp at h
  ·simp at h
 ·rintro⟨h1,h2⟩;simp only at h1 h2;unfold so;have g1:=BP.1 _ _ _ (tc.flatMap gi++[gD 4]) h1;simp only[id]at g1;simp only[iQ];rw[g1];simp only;rw[Dz tc _ _ h2 rfl (aj _)];simp only;rw[lq (k:=4) (r:=gD 4) rfl (wc (.inr (.inr rfl)))]
end Go.Proofs.YtgaaopjagcaojaaGreat
