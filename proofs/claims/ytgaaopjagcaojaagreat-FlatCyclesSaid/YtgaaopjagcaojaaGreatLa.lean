import Derived.Test.YtgaaopjagcaojaaGreatVk
import Derived.Deep.SlicePairs
import Derived.Test.YtgaaopjagcaojaaGreatNatU
set_option linter.unusedSimpArgs false
set_option linter.unusedVariables false
namespace Go.Proofs.YtgaaopjagcaojaaGreat
open Go.RowKit Go.IntWalk
def XW(l0:List (Sn×Sn))(v:Value)(Δ:List aD):Prop:=∃(b off c:Nat) (l:List jF),v=.slice (some ⟨b,off,none⟩) l.length c∧l.length≤c∧l.map jF.num=l0∧Δ=[OL gi (some ⟨b,off,none⟩) (130,l)]
def MB(f_:List Dp)(width kind bg en:Int)(v:Value)(Δ:List aD):Prop:=
 (rh f_ width kind bg en≠0∧v=.tuple #[.slice none 0 0,.int .i64 (rh f_ width kind bg en)]∧Δ=[])∨
 (rh f_ width kind bg en=0∧∃(ao:Option Addr) (c:Nat) (l:List jF),v=.tuple #[.slice ao l.length c,.int .i64 0]∧l.length≤c∧l.map jF.num=sj (iC f_).1.reverse (iC f_).2.reverse width kind bg en∧Δ=[OL gi ao (130,l)])
theorem xz(p d:Dp)(h b:Rat)(r:Bool):2≤(mC p d h b r).length∧(mC p d h b r).length≤5:=by
 cases r<;>simp[mC]
theorem Ck(width kind bg en:Int):rG width kind bg en=(!(decide (kind=0)||decide (kind=1)||decide (kind=2)||decide (kind=4))||decide (width<1)||decide (width>2147483647)||decide (bg< -2147483647)||decide (bg>2147483647)||decide (en< -2147483647)||decide (en>2147483647)):=rfl
theorem GH{f_:List Dp}{width kind bg en:Int}(h:¬ 8191<f_.length)(ha:rG width kind bg en=true):rh f_ width kind bg en=1:=by
 unfold rh;rw[if_neg h,if_pos ha]
theorem TX{f_:List Dp}(h:f_.any tR=false):∀p∈f_,iu 2147483648 p:=fun p hp=>by
 have:tR p=false:=by
  cases ho:tR p with
  |false=>rfl
  |true=>rw[List.any_eq_true.2 ⟨p,hp,ho⟩]at h;simp at h
 simp only[tR,GK,sO,aX]at this;unfold iu;omega
theorem eH{l:List Dp}{k:Nat}{d:Dp}(h:l[k]? =some d):∀(j:Nat) (v:Value),(eg d)[j]? =some v→(l.flatMap eg)[k*2+j]? =some v:=fun j v hv=>by
 obtain⟨hk,rfl⟩:=List.getElem?_eq_some_iff.1 h;exact Nx hk hv
structure Xw where
 i:Nat
 z:Int
 v:Value
 O:List (Nat×List Value)
 l:List jF
 ao:Option Addr
 ys:List Value
theorem kT{l:List jF}{q:List (Sn×Sn)}(h:l.map jF.num=q):l.length=q.length:=by rw[←h,bI]
section
variable{T:Tb}{P:Program}{fin:VS→List aD→Prop}{c:fG}{Γ:List aD}
theorem MR(D:List Nat)(z b off r len cap:Nat)(y:Int)(hy:y=r)(hT:T.Ok P)(hrs:r≤cap)(h0:0<cap)
  (hk:W T P fin (gg (aL T (bh T D 999 c)) (.slice (some ⟨b,off,none⟩) r cap)) Γ)(h:zI T (aL T (bh T D 999 c))=some (z,.slice (some ⟨b,off,none⟩) len cap,none,some (.int .i64 y)):=by kernel_rfl):W T P fin c Γ:=by
 subst hy;refine Ch D z b off len cap none (some (.int .i64 (r:Int))) 0 r hT (h:=h) (.inr ⟨rfl,rfl⟩) (.inl rfl) (aJ _) hrs h0 ?_;rw[nC,Nat.sub_zero,Nat.sub_zero];exact hk
theorem zY{b off L:Nat}{l:List jF} [h:aW (OL gi (some ⟨b,off,none⟩)) (L,l) Γ]{k:Nat}{e:jF}(he:l[k]? =some e):∀I w,br T I w→aG Γ I w→∀j v,(gi.cells e)[j]? =some v→w.cell? ⟨b,off+k*40+j,none⟩=some v:=fun I w hd hh j v hv=>by
 obtain⟨hk,rfl⟩:=List.getElem?_eq_some_iff.1 he;exact Je (T:=T) (Γ:=Γ) gi b off k hk I w hd hh j v hv
theorem ri(b off:Nat){l:List jF}{L:Nat} [h:aW (OL gi (some ⟨b,off,none⟩)) (L,l) Γ](own:List (Nat×List Value))(r c:Nat)(hr:r≤l.length):p5 T Γ own (.slice (some ⟨b,off,none⟩) r c) r 40 ((l.take r).flatMap gi.cells):=
 ⟨some ⟨b,off,none⟩,c,rfl,by rw[qy gi,dG,fr hr];rfl,fun _=>⟨⟨b,off,none⟩,rfl,fun I w _ hh _ j u hu=>by
  rw[gP];refine RA.cell (h.p hh).2 ?_;simp only;rw[←jY r l,bp,cW (List.getElem?_eq_some_iff.1 hu).1];exact hu⟩⟩
end
section
variable{Γ:List aD}
theorem uR{l:List jF}:∀u∈l.flatMap gi.cells,u.oneCell'=true:=fun u hu=>by
 obtain⟨e,_,he⟩:=List.mem_flatMap.1 hu;exact pK e u he
theorem NA{ao:Option Addr}{L k:Nat}{l:List jF}{e:jF} [h:aW (OL gi ao) (L,l) Γ](he:l[k]? =some e):∀(I:fQ) (w:World),br tb I w→aG Γ I w→(OS gi (L,[e])).p I w:=fun I w _ hh x hx=>by
 simp only[aF,aE,bL]at hx;subst hx;obtain⟨hk,rfl⟩:=List.getElem?_eq_some_iff.1 he;exact(h.p hh).1 _ (dY hk)
theorem NC{L r:Nat}{l l2:List jF}{ao:Option Addr} [h:aW (OS gi) (L,l) Γ] [hx:aW (OL gi ao) (L,l2) Γ]:∀(I:fQ) (w:World),br tb I w→aG Γ I w→(OS gi (L,l++l2.take r)).p I w:=fun I w _ hh x hx'=>by
 rcases List.mem_append.1 hx' with h1|h1
 ·exact h.p hh x h1
 ·exact(hx.p hh).1 x (fe h1)
theorem Nz{b:Nat}{xs:List Value} [h:aW (ek b) xs Γ]:∀(I:fQ) (w:World),br tb I w→aG Γ I w→(RA (some ⟨b,0,none⟩) xs).p I w:=fun I w _ hh=>RA.of_row (h.p hh) (fun _ _ h=>h)
theorem ND:∀(I:fQ) (w:World),br tb I w→aG Γ I w→(RA none []).p I w:=fun I w _ _=>RA.nil _ _ _
theorem x_(p d:Dp)(x y:Int)(hx:x=d.x)(hy:y=d.y)(hq bq:Qw){h b:Rat}{L L1:Nat} [aW (QG hq) (L,h) Γ] [aW (QG bq) (L1,b) Γ](r:Bool)(hp:iu 2147483648 p)(hd:iu 4294967296 d)(h0:kE d≠0)(hL:L≤5∧L1≤5:=by omega):
  aw tb Tryz.prog 189 [dv p,.agg #[.int .i64 x,.int .i64 y],qv hq.n hq.a hq.m hq.b,qv bq.n bq.a bq.m bq.b,.bool r] Γ (XW (mC p d h b r)):=by
 refine(pZ (XW (mC p d h b r)) (WJ p d x y hx hy hq bq r hp hd h0) ?_).post (fun _ _ h=>h.2);rintro v Δ ⟨ao,c,l,rfl,hlc,hl,rfl⟩ I w hh;have hln:=kT hl;have ht:=xz p d h b r;obtain⟨b0,off,rfl,_⟩:=hh.h0'.2 (by
  intro e;have:=qy gi l;simp only at e;rw[e]at this;simp[gi]at this;omega)
 exact⟨b0,off,c,l,rfl,hlc,hl,rfl⟩
theorem WD(a b:Int)(h:Rat)(hh:h=Rat.divInt a b)(hb:b≠0)(h1: -9223372036854775808≤a)(h2:a<9223372036854775808)(h3: -9223372036854775808≤b)(h4:b<9223372036854775808):
  aw tb Tryz.prog 154 [.int .i64 a,.int .i64 b] Γ (Ta 2 h):=by
 subst hh;exact Bb a b hb h1 h2 h3 h4
theorem Si(ao:Option Addr)(n c:Nat)(f_ cs ws:List Dp)(hcs:cs=(iC f_).1.reverse)(hws:ws=(iC f_).2.reverse) [aW (RA ao) (f_.flatMap eg) Γ](hn:n=f_.length)(hn2:n≤8191)(hb:∀p∈f_,iu 2147483648 p):
  aw tb Tryz.prog 188 [.slice ao n c] Γ (fun v Δ=>∃(a1 a2:Option Addr) (c1 c2:Nat),v=.tuple #[.slice a1 cs.length c1,.slice a2 ws.length c2]∧Δ=[RA a1 (cs.flatMap eg),RA a2 (ws.flatMap eg)]):=by
 subst hcs hws;rw[fz,fz];exact LU ao n c f_ hn hn2 hb
set_option maxHeartbeats 4000000 in
theorem Kd(ao:Option Addr)(n c:Nat)(f_:List Dp)(width kind bg en:Int) [aW (RA ao) (f_.flatMap eg) Γ](hn:n=f_.length):
  aw tb Tryz.prog 128 [.slice ao n c,.int .i64 width,.int .i64 kind,.int .i64 bg,.int .i64 en] Γ (MB f_ width kind bg en):=by
 obtain⟨cs,hcs⟩:∃cs,cs=(iC f_).1.reverse:=⟨_,rfl⟩;obtain⟨ws,hws⟩:∃ws,ws=(iC f_).2.reverse:=⟨_,rfl⟩;have hcl:(iC f_).1.length=cs.length:=by rw[hcs,fz]
 have hok:j8 (iC f_).1 (iC f_).2:=zm f_ ([],[]) rfl;refine aw.of_W aB Tryz.func128 rfl ?_;by_cases Az:8191<f_.length
 ·refine bj [] 24 (decide ((n:Int)>8191)) (au (by omega)) ?_;have he:rh f_ width kind bg en=2:=by unfold rh;rw[if_pos Az]
  exact W.r [24] (.tuple #[.slice none 0 0,.int .i64 2]) (.inl ⟨by rw[he];decide,by rw[he],rfl⟩) bT
 refine aQ [] 24 (decide ((n:Int)>8191)) (aj (by omega)) ?_;refine cH [24] 4 [.int .i64 0,.int .i64 1,.int .i64 2,.int .i64 4] aB (fun b1=>?_);refine aq [] (So b1 kind) ?_;rintro _ _ ⟨rfl,rfl⟩;have iD:rG width kind bg en=true→MB f_ width kind bg en (.tuple #[.slice none 0 0,.int .i64 1]) []:=fun h=>.inl ⟨by rw[GH Az h];decide,by rw[GH Az h],rfl⟩;rw[Ck]at iD;have TN:=Ck width kind bg en;refine W.d [] 33 (!(decide (kind=0)||decide (kind=1)||decide (kind=2)||decide (kind=4))) (fun h0=>?_) (fun h0=>?_)
 ·exact W.r [28,53,49,45,41,37,33] (.tuple #[.slice none 0 0,.int .i64 1]) (iD (by rw[h0];simp)) bT
 refine W.d [33] 37 (decide (width<1)) (fun h1=>?_) (fun h1=>?_)
 ·exact W.r [28,53,49,45,41,37] (.tuple #[.slice none 0 0,.int .i64 1]) (iD (by rw[h1];simp)) bT
 refine W.d [37] 41 (decide (width>2147483647)) (fun h2=>?_) (fun h2=>?_)
 ·exact W.r [28,53,49,45,41] (.tuple #[.slice none 0 0,.int .i64 1]) (iD (by rw[h2];simp)) bT
 refine W.d [41] 45 (decide (bg< -2147483647)) (fun h3=>?_) (fun h3=>?_)
 ·exact W.r [28,53,49,45] (.tuple #[.slice none 0 0,.int .i64 1]) (iD (by rw[h3];simp)) bT
 refine W.d [45] 49 (decide (bg>2147483647)) (fun h4=>?_) (fun h4=>?_)
 ·exact W.r [28,53,49] (.tuple #[.slice none 0 0,.int .i64 1]) (iD (by rw[h4];simp)) bT
 refine W.d [49] 53 (decide (en< -2147483647)) (fun h5=>?_) (fun h5=>?_)
 ·exact W.r [28,53] (.tuple #[.slice none 0 0,.int .i64 1]) (iD (by rw[h5];simp)) bT
 refine W.d [53] 28 (decide (en>2147483647)) (fun h6=>?_) (fun h6=>?_)
 ·exact W.r [28] (.tuple #[.slice none 0 0,.int .i64 1]) (iD (by rw[h6];simp)) bT
 have hgd:rG width kind bg en=false:=by
  rw[TN,h0,h1,h2,h3,h4,h5,h6];rfl
 clear iD TN;have k1:=eJ h1;have k2:=eJ h2;have k3:=eJ h3;have k4:=eJ h4;have k5:=eJ h5;have k6:=eJ h6;have Mm:¬rG width kind bg en=true:=by rw[hgd];decide
 refine aq [28] (Pf ao n c f_ hn (by omega)) ?_;rintro _ _ ⟨rfl,rfl⟩;refine W.d [] 57 (f_.any tR) (fun h7=>?_) (fun h7=>?_)
 ·have he:rh f_ width kind bg en=26:=by unfold rh;rw[if_neg Az,if_neg Mm,if_pos h7]
  exact W.r [57] (.tuple #[.slice none 0 0,.int .i64 26]) (.inl ⟨by rw[he];decide,by rw[he],rfl⟩) bT
 have hg7:¬f_.any tR=true:=by rw[h7];decide
 have hin:=TX h7;refine aq [57] (Si ao n c f_ cs ws hcs hws hn (by omega) hin) ?_;rintro _ _ ⟨a1,a2,c1,c2,rfl,rfl⟩;by_cases Lq:cs.length<2
 ·refine bj [] 67 (decide ((cs.length:Int)<2)) (au (by omega)) ?_;have he:rh f_ width kind bg en=7:=by unfold rh;rw[if_neg Az,if_neg Mm,if_neg hg7,hcl,if_pos Lq]
  exact W.r [67] (.tuple #[.slice none 0 0,.int .i64 7]) (.inl ⟨by rw[he];decide,by rw[he],rfl⟩) bT
 have JK:¬(iC f_).1.length<2:=by omega
 have hfw:KN cs ws:=by
  rw[hcs,hws];exact NR hok (by intro e;rw[e]at JK;simp at JK)
 have lU:∀p∈cs,iu 2147483648 p:=fun p hp=>by
  have:=Ao f_ ([],[]) (Q:=fun _=>False) (fun q hq=>absurd hq (by simp)) p (by rw[hcs]at hp;exact List.mem_reverse.1 hp);exact hin p (by simpa using this)
 have hlen:=hfw.len;have ac_:cs.length≤8191:=by
  have:=An f_ ([],[]);simp only[a_,bQ]at this;have h9:(iC f_).1.length≤f_.length:=this;omega
 have nQ:∀(i:Nat) (d:Dp),ws[i]? =some d→iu 4294967296 d∧mi d=1:=fun i d hd=>by
  have hi:=(List.getElem?_eq_some_iff.1 hd).1;have e1:cs[i]? =some (cs[i]'(by omega)):=ai _;have e2:cs[i+1]? =some (cs[i+1]'(by omega)):=ai _;obtain⟨hne,rfl⟩:=hfw.way i _ _ d e1 e2 hd;exact⟨QK (lU _ (dY _)) (lU _ (dY _)) hne,G2 hne⟩
 have YJ:tq (iC f_).2=true↔∃(i:Nat) (d e:Dp),ws[i]? =some d∧ws[i+1]? =some e∧e=jk d:=by
  rw[hws];exact Jo _
 have oA:∀i,i<ws.length→∃d,ws[i]? =some d:=fun i hi=>⟨_,ai hi⟩;have yL:∀i,i<cs.length→∃d,cs[i]? =some d:=fun i hi=>⟨_,ai hi⟩;have hcn:cs.flatMap eg≠ []:=by intro e;have:=o9 cs;rw[e]at this;simp at this;omega
 have hwn:ws.flatMap eg≠ []:=by intro e;have:=o9 ws;rw[e]at this;simp at this;omega
 refine aQ [] 67 (decide ((cs.length:Int)<2)) (aj (by omega)) ?_;refine HH a1 (by kernel_rfl) hcn (fun bc oc e=>?_);subst e;refine HH a2 (by kernel_rfl) hwn (fun bw ow e=>?_);subst e;refine j0 [67] Tryz.f128 0 211 211 [1,2,3,4,12,13,14] [] (fun a:Nat×Int=>[(1,.val (.int .i64 width)),(2,.val (.int .i64 kind)),(3,.val (.int .i64 bg)),(4,.val (.int .i64 en)),(12,.val (.slice (some ⟨bc,oc,none⟩) cs.length c1)),(13,.val (.slice (some ⟨bw,ow,none⟩) ws.length c2)),(14,.val (.int .i64 a.2))]) (fun _=>[]) (fun _=>[]) (fun _=>[]) (fun _=>[RA (some ⟨bc,oc,none⟩) (cs.flatMap eg),RA (some ⟨bw,ow,none⟩) (ws.flatMap eg)]) (fun a=>a.2=a.1∧1≤a.1∧a.1≤ws.length∧∀(j:Nat) (d e:Dp),j+1<a.1→ws[j]? =some d→ws[j+1]? =some e→e≠jk d) (fun a=>ws.length-a.1) (1,1) ⟨rfl,ak _,by simp only;omega,fun j d e h=>by simp only at h;omega⟩ (eI gj (eI gj tD)) ?_;rintro⟨i,z⟩ K ⟨hz,hi1,hi,hall⟩ close;simp only at hz hi1 hi hall;by_cases hlt:i<ws.length
 ·obtain⟨d,hd⟩:=oA (i-1) (by omega);obtain⟨e,he⟩:=oA i hlt;have hdb:=(nQ _ _ hd).1;have hneg:(⟨IntKind.i64.wrap (0-d.x),IntKind.i64.wrap (0-d.y)⟩:Dp)=jk d:=by
   unfold iu at hdb;refine Dp.eq_iff.2 ⟨?_,?_⟩<;>(simp only[af,jk];omega)
  refine bj [] 71 (decide (z<(ws.length:Int))) (au (by omega)) ?_;refine bW [71] 2 bw ow ws.length c2 .i64 i z hz aB hlt ?_;refine cV [] bw (ow+i*2) (eg e) aB (eB bw ow (i*2) (eH he)) ?_;refine bW [] 2 bw ow ws.length c2 .i64 (i-1) (IntKind.i64.wrap (z-1)) (by rw[af];omega) aB (by omega) ?_;refine bZ [] 0 bw (ow+(i-1)*2) aB ?_;refine dJ [] 1 bw (ow+(i-1)*2+0) (.int .i64 d.x) aB (fun I w hI hh=>eB bw ow ((i-1)*2) (eH hd) I w hI hh 0 _ rfl) ?_;refine bW [] 2 bw ow ws.length c2 .i64 (i-1) (IntKind.i64.wrap (z-1)) (by rw[af];omega) aB (by omega) ?_;refine bZ [] 1 bw (ow+(i-1)*2) aB ?_;refine dJ [] 1 bw (ow+(i-1)*2+1) (.int .i64 d.y) aB (fun I w hI hh=>eB bw ow ((i-1)*2) (eH hd) I w hI hh 1 _ rfl) ?_;refine EZ [] 282 e ⟨IntKind.i64.wrap (0-d.x),IntKind.i64.wrap (0-d.y)⟩ ?_;by_cases Ih:e=⟨IntKind.i64.wrap (0-d.x),IntKind.i64.wrap (0-d.y)⟩
  ·refine bj [] 93 (decide (e=⟨IntKind.i64.wrap (0-d.x),IntKind.i64.wrap (0-d.y)⟩)) (au Ih) ?_;have hb:tq (iC f_).2=true:=YJ.2 ⟨i-1,d,e,hd,by rw[gG hi1];exact he,by rw[←hneg];exact Ih⟩;have he:rh f_ width kind bg en=25:=by unfold rh;rw[if_neg Az,if_neg Mm,if_neg hg7,if_neg JK,if_pos hb]
   exact W.r [93] (.tuple #[.slice none 0 0,.int .i64 25]) (.inl ⟨by rw[he];decide,by rw[he],rfl⟩) bT
  ·refine aQ [] 93 (decide (e=⟨IntKind.i64.wrap (0-d.x),IntKind.i64.wrap (0-d.y)⟩)) (aj Ih) ?_;rw[hneg]at Ih;refine close [93] _ _ (i+1,IntKind.i64.wrap (z+1)) (by kernel_rfl) (by kernel_rfl) ⟨by simp only[af];omega,by simp only;omega,hlt,fun j d' e' hj hd' he'=>?_⟩ (by simp only;omega) (eI gj (eI gj tD));by_cases hji:j+1<i
   ·exact hall j d' e' hji hd' he'
   ·obtain rfl:j=i-1:=by simp only at hj;omega
    rw[hd]at hd';rw[gG hi1,he]at he';injection hd' with hd';injection he' with he';subst hd' he';exact Ih
 obtain rfl:i=ws.length:=by omega
 have hnb:¬tq (iC f_).2=true:=by
  rw[YJ];rintro⟨j,d,e,hd,he,hn⟩;exact hall j d e (List.getElem?_eq_some_iff.1 he).1 hd he hn
 have hoe:rh f_ width kind bg en=0:=by unfold rh;rw[if_neg Az,if_neg Mm,if_neg hg7,if_neg JK,if_neg hnb]
 have xP:∀(i:Nat) (d e:Dp),ws[i]? =some d→ws[i+1]? =some e→qG (eS d) e≠0:=fun i d e hd he=>
  Fz (nQ _ _ hd).2 (nQ _ _ he).2 (hfw.turn i d e hd he) (hall i d e (List.getElem?_eq_some_iff.1 he).1 hd he)
 have Ig:∀(i:Nat) (p:Dp),cs[i]? =some p→iu 2147483648 p:=fun i p hp=>by
  obtain⟨_,rfl⟩:=List.getElem?_eq_some_iff.1 hp;exact lU _ (dY _)
 have htl:∀(i:Nat) (p:Dp),cs[i+1]? =some p→cs.tail[i]? =some p:=fun i p hp=>by rw[List.getElem?_tail];exact hp
 have YM:cs.tail.length=ws.length:=by rw[List.length_tail];omega
 obtain⟨p0,oH⟩:=yL 0 (by omega);obtain⟨w0,RS⟩:=oA 0 (by omega);obtain⟨pn,hpn⟩:=yL ws.length (by omega);obtain⟨wn,FZ⟩:=oA (ws.length-1) (by omega);have Ot:=(nQ _ _ RS).1;have Mn:IntKind.i64.wrap (0-w0.x)=(jk w0).x:=by unfold iu at Ot;simp only[af,jk];omega
 have hny:IntKind.i64.wrap (0-w0.y)=(jk w0).y:=by unfold iu at Ot;simp only[af,jk];omega
 have hq0:kE (jk w0)≠0:=I6 (by have:=Ed (nQ _ _ RS).2;unfold jk;simp only;omega);have hqn:kE wn≠0:=I6 (Ed (nQ _ _ FZ).2);obtain⟨h,hh⟩:∃h,h=Rat.divInt width 2:=⟨_,rfl⟩;have wQ:∀b e,o_ kind bg en h=(b,e)→sj cs ws width kind bg en=(mC p0 (jk w0) h b (kind==1)).drop ((mC p0 (jk w0) h b (kind==1)).length-1)++gy h cs.tail ws++mC pn wn h e (kind==1)++(gy (-h) cs.tail ws).reverse++(mC p0 (jk w0) h b (kind==1)).take ((mC p0 (jk w0) h b (kind==1)).length-1):=fun b e hbe=>by
  unfold sj;simp only[←hh,hbe,dL,oH,RS,FZ,show cs.length-1=ws.length by omega,hpn,jD]
 have hm1:=pA h cs.tail ws YM;have hm2:=pA (-h) cs.tail ws YM;have hb0:=xz p0 (jk w0);have hbn:=xz pn wn;refine aQ [] 71 (decide (z<(ws.length:Int))) (aj (by omega)) ?_;refine aq [71] (WD width 2 h hh (by omega) (by omega) (by omega) (by omega) (by omega)) ?_;rintro _ _ ⟨n6,a6,m6,b6,rfl,rfl⟩;refine W.d [] 100 (kind==2) (fun hk2=>?_) (fun hk2=>?_)
 ·have hk:=eq_of_beq hk2;have hpl:=wQ (h) (h) (by unfold o_;rw[if_pos hk]);refine bW [100] 2 bc oc cs.length c1 .i64 0 0 rfl aB (by omega) ?_;refine cV [] bc (oc+0*2) (eg p0) aB (eB bc oc (0*2) (eH oH)) ?_;refine bW [] 2 bw ow ws.length c2 .i64 0 0 rfl aB (by omega) ?_;refine bZ [] 0 bw (ow+0*2) aB ?_;refine dJ [] 1 bw (ow+0*2+0) (.int .i64 w0.x) aB (fun I w hI hh=>eB bw ow (0*2) (eH RS) I w hI hh 0 _ rfl) ?_;refine bW [] 2 bw ow ws.length c2 .i64 0 0 rfl aB (by omega) ?_;refine bZ [] 1 bw (ow+0*2) aB ?_;refine dJ [] 1 bw (ow+0*2+1) (.int .i64 w0.y) aB (fun I w hI hh=>eB bw ow (0*2) (eH RS) I w hI hh 1 _ rfl) ?_;refine aq [] (x_ p0 (jk w0) (IntKind.i64.wrap (0-w0.x)) (IntKind.i64.wrap (0-w0.y)) Mn hny ⟨n6,a6,m6,b6⟩ ⟨n6,a6,m6,b6⟩ (h:=h) (b:=h) (kind==1) (Ig _ _ oH) Ot.neg hq0) ?_;rintro _ _ ⟨bb,ob,cb,lb,rfl,hlb,AD,rfl⟩;have FT:=kT AD;have YH:=hb0 h (h) (kind==1);obtain⟨el,hel⟩:∃el,lb[lb.length-1]? =some el:=⟨_,ai (by omega)⟩;have hdl:(mC p0 (jk w0) h (h) (kind==1)).drop ((mC p0 (jk w0) h (h) (kind==1)).length-1)=[el.num]:=by
   obtain⟨hk,rfl⟩:=List.getElem?_eq_some_iff.1 hel;rw[←FT,←AD,←List.map_drop,bC hk,bu (by omega)];rfl
  refine bW [] 40 bb ob lb.length cb .i64 (lb.length-1) (IntKind.i64.wrap ((lb.length:Int)-1)) (by rw[af];omega) aB (by omega) ?_;refine cV [] bb (ob+(lb.length-1)*40) (jg el.x++jg el.y) aB (zY hel) ?_;refine cH [] 1 (jg el.x++jg el.y) aB (fun B1=>?_);refine gV [] [21,22] (fun a:Xw=>[(21,a.v),(22,.int .i64 a.z)]) (fun _=>[]) (fun a=>a.O) (fun a=>[OS gi (130,a.l),RA a.ao a.ys,RA (some ⟨bc,oc,none⟩) (cs.flatMap eg),RA (some ⟨bw,ow,none⟩) (ws.flatMap eg),QF n6 a6 m6 b6 (2,h),QG ⟨n6,a6,m6,b6⟩ (2,h),OL gi (some ⟨bb,ob,none⟩) (130,lb)]) (fun a=>a.z=a.i∧1≤a.i∧a.i≤ws.length∧a.l.map jF.num=[el.num]++(gy h cs.tail ws).take (a.i-1)∧Jc 40 a.O a.v a.l.length (a.l.flatMap gi.cells) a.ao a.ys) (fun a=>ws.length-a.i) ⟨1,1,.slice (some ⟨B1,0,none⟩) 1 1,[],[el],some ⟨B1,0,none⟩,jg el.x++jg el.y⟩ ⟨rfl,ak _,by simp only;omega,by simp only[nA,mQ,ah];rfl,.inl ⟨rfl,rfl,Nat.zero_lt_one,rfl,rfl⟩⟩ (eI (NA (ao:=some ⟨bb,ob,none⟩) hel) (eI Nz (eI gj (eI gj (eI gj (eI gj (eI gj tD))))))) ?_;rintro⟨i,z1,v1,O1,l1,Th,Uw⟩ K1 ⟨hz1,Ay,hi',hl1,hg1⟩ close1;simp only at hz1 Ay hi' hl1 hg1;have FR:=kT hl1;rw[aA,dG,hm1]at FR;simp only[aC,a_]at FR;by_cases xQ:i<ws.length
  ·obtain⟨p,hp⟩:=yL i (by omega);obtain⟨d,hd⟩:=oA (i-1) (by omega);obtain⟨e,he⟩:=oA i xQ;have NY:ws[i-1+1]? =some e:=by rw[gG Ay];exact he
   have hp1:cs[i-1+1]? =some p:=by rw[gG Ay];exact hp
   have hma:=m_ h cs.tail ws (i-1) p d e (htl _ _ hp1) hd NY;refine bj [] 142 (decide (z1<(ws.length:Int))) (au (by omega)) ?_;refine bW [142] 2 bc oc cs.length c1 .i64 i z1 hz1 aB (by omega) ?_;refine cV [] bc (oc+i*2) (eg p) aB (eB bc oc (i*2) (eH hp)) ?_;refine bW [] 2 bw ow ws.length c2 .i64 (i-1) (IntKind.i64.wrap (z1-1)) (by rw[af];omega) aB (by omega) ?_;refine cV [] bw (ow+(i-1)*2) (eg d) aB (eB bw ow ((i-1)*2) (eH hd)) ?_;refine bW [] 2 bw ow ws.length c2 .i64 i z1 hz1 aB xQ ?_;refine cV [] bw (ow+i*2) (eg e) aB (eB bw ow (i*2) (eH he)) ?_;refine aq [] (uN p d e ⟨n6,a6,m6,b6⟩ (h:=h) (Ig _ _ hp) (nQ _ _ hd).1 (nQ _ _ he).1 (xP _ _ _ hd NY)) ?_;rintro _ _ ⟨X,Y,rfl,rfl⟩;refine cH [] 1 (jg X++jg Y) aB (fun B2=>?_);refine Cd [] O1 40 640 l1.length 1 Th v1 (.slice (some ⟨B2,0,none⟩) 1 1) (l1.flatMap gi.cells) Uw (jg X++jg Y) aB hg1 (by decide) (bX B2 O1 1 40 rfl 1) (pK ⟨X,Y,⟨0,0,0,0,0,0⟩,⟨0,0,0,0,0,0⟩⟩) (by omega) (by decide) (fun v' O' hg'=>?_);refine close1 [] _ _ ⟨i+1,IntKind.i64.wrap (z1+1),v',O',l1++[⟨X,Y,(gf p d e h).1,(gf p d e h).2⟩],none,[]⟩ (by kernel_rfl) (by kernel_rfl) ⟨by simp only[af];omega,by simp only;omega,xQ,?_,.inr ⟨?_,rfl,rfl⟩⟩ (by simp only;omega) (eI (Cy ⟨X,Y,(gf p d e h).1,(gf p d e h).2⟩) (eI ND (eI gj (eI gj (eI gj (eI gj (eI gj tD)))))))
   ·simp only;rw[aT,hl1,eF,show i=i-1+1 by omega,lR hma,aV,eF];rfl
   ·simp only[aA,bp,aC,a_];exact cF.cast (by simp[gi]) rfl hg'
  obtain rfl:i=ws.length:=by omega
  rw[aU (by rw[hm1];omega)]at hl1;refine aQ [] 142 (decide (z1<(ws.length:Int))) (aj (by omega)) ?_;refine bW [142] 2 bc oc cs.length c1 .i64 ws.length (ws.length:Int) rfl aB (by omega) ?_;refine cV [] bc (oc+ws.length*2) (eg pn) aB (eB bc oc (ws.length*2) (eH hpn)) ?_;refine bW [] 2 bw ow ws.length c2 .i64 (ws.length-1) (IntKind.i64.wrap ((ws.length:Int)-1)) (by rw[af];omega) aB (by omega) ?_;refine cV [] bw (ow+(ws.length-1)*2) (eg wn) aB (eB bw ow ((ws.length-1)*2) (eH FZ)) ?_;refine aq [] (x_ pn wn wn.x wn.y rfl rfl ⟨n6,a6,m6,b6⟩ ⟨n6,a6,m6,b6⟩ (h:=h) (b:=h) (kind==1) (Ig _ _ hpn) (nQ _ _ FZ).1 hqn) ?_;rintro _ _ ⟨bt,ot,ct,lt,rfl,hlt2,hnt,rfl⟩;have Zc:=kT hnt;have YK:=hbn h (h) (kind==1);refine Cd [] O1 40 640 l1.length lt.length Th v1 (.slice (some ⟨bt,ot,none⟩) lt.length ct) (l1.flatMap gi.cells) Uw ((lt.take lt.length).flatMap gi.cells) aB hg1 (by omega) (ri bt ot O1 lt.length ct (ak _)) uR (by omega) (by decide) (fun v2 O2 hg2=>?_);have hl2:(l1++lt).map jF.num=[el.num]++gy h cs.tail ws++mC pn wn h (h) (kind==1):=by rw[aT,hl1,hnt]
  refine gV [] [21,23] (fun a:Xw=>[(21,a.v),(23,.int .i64 a.z)]) (fun _=>[]) (fun a=>a.O) (fun a=>[OS gi (130,a.l),RA (some ⟨bc,oc,none⟩) (cs.flatMap eg),RA (some ⟨bw,ow,none⟩) (ws.flatMap eg),QF n6 a6 m6 b6 (2,h),OL gi (some ⟨bb,ob,none⟩) (130,lb)]) (fun a=>a.z=a.i∧a.i≤ws.length-1∧a.l.map jF.num=[el.num]++gy h cs.tail ws++mC pn wn h (h) (kind==1)++((gy (-h) cs.tail ws).drop a.i).reverse∧cF 40 a.O a.v a.l.length (a.l.flatMap gi.cells)) (fun a=>a.i) ⟨ws.length-1,IntKind.i64.wrap ((ws.length:Int)-1),v2,O2,l1++lt,none,[]⟩ ⟨by simp only[af];omega,ak _,?_,cF.cast (by simp[bp]) (by simp) hg2⟩ (eI (NB (l:=l1) (l2:=lt) (ao:=some ⟨bt,ot,none⟩)) (eI gj (eI gj (eI gj (eI gj tD))))) ?_
  ·simp only;rw[hl2,bu (by rw[hm2];exact ak _),List.reverse_nil,ah]
  rintro⟨i,z3,v3,O3,l3,ao3,ys3⟩ K2 ⟨hz3,YY,hl3,yM⟩ iB;simp only at hz3 YY hl3 yM;have N_:=kT hl3;simp only[aA,fz,iw,hm1,hm2,aC,a_]at N_;cases i with
  |succ i=>
   obtain⟨p,hp⟩:=yL (i+1) (by omega);obtain⟨d,hd⟩:=oA i (by omega);obtain⟨e,he⟩:=oA (i+1) (by omega);have hma:=m_ (-h) cs.tail ws i p d e (htl _ _ hp) hd he;refine bj [] 182 (decide (z3>0)) (au (by omega)) ?_;refine bW [182] 2 bc oc cs.length c1 .i64 (i+1) z3 hz3 aB (by omega) ?_;refine cV [] bc (oc+(i+1)*2) (eg p) aB (eB bc oc ((i+1)*2) (eH hp)) ?_;refine bW [] 2 bw ow ws.length c2 .i64 i (IntKind.i64.wrap (z3-1)) (by rw[af];omega) aB (by omega) ?_;refine cV [] bw (ow+i*2) (eg d) aB (eB bw ow (i*2) (eH hd)) ?_;refine bW [] 2 bw ow ws.length c2 .i64 (i+1) z3 hz3 aB (by omega) ?_;refine cV [] bw (ow+(i+1)*2) (eg e) aB (eB bw ow ((i+1)*2) (eH he)) ?_;refine aq [] (pG n6 a6 m6 b6) ?_;rintro _ _ ⟨n8,a8,m8,b8,rfl,rfl⟩;refine aq [] (uN p d e ⟨n8,a8,m8,b8⟩ (h:= -h) (Ig _ _ hp) (nQ _ _ hd).1 (nQ _ _ he).1 (xP _ _ _ hd he)) ?_;rintro _ _ ⟨X,Y,rfl,rfl⟩;refine cH [] 1 (jg X++jg Y) aB (fun B2=>?_);refine W.app [] O3 [] O3 [] 40 640 l3.length 1 v3 (.slice (some ⟨B2,0,none⟩) 1 1) (l3.flatMap gi.cells) (jg X++jg Y) aB (by simp) yM (bX B2 O3 1 40 rfl 1) (pK ⟨X,Y,⟨0,0,0,0,0,0⟩,⟨0,0,0,0,0,0⟩⟩) (by omega) (by decide) (fun v' O' hg'=>?_);refine iB [] _ _ ⟨i,IntKind.i64.wrap (z3-1),v',O',l3++[⟨X,Y,(gf p d e (-h)).1,(gf p d e (-h)).2⟩],none,[]⟩ (by kernel_rfl) (by simp only[az,ah];kernel_rfl) ⟨by simp only[af];omega,by simp only;omega,?_,?_⟩ (by simp only;omega) (eI (Cy ⟨X,Y,(gf p d e (-h)).1,(gf p d e (-h)).2⟩) (eI gj (eI gj (eI gj (eI gj tD)))))
   ·simp only;rw[aT,hl3,xN hma,←aV];rfl
   ·simp only[aA,bp,aC,a_];exact cF.cast (by simp[gi]) rfl hg'
  |zero=>
   rw[gX]at hl3;refine aQ [] 182 (decide (z3>0)) (aj (by omega)) ?_;refine MR [182] 40 bb ob (lb.length-1) lb.length cb (IntKind.i64.wrap ((lb.length:Int)-1)) (by rw[af];omega) aB (by omega) (by omega) ?_;refine W.app [] O3 [] O3 [] 40 640 l3.length (lb.length-1) v3 (.slice (some ⟨bb,ob,none⟩) (lb.length-1) cb) (l3.flatMap gi.cells) ((lb.take (lb.length-1)).flatMap gi.cells) aB (by simp) yM (ri bb ob O3 (lb.length-1) cb (by omega)) uR (by omega) (by decide) (fun v' O' hg'=>?_);have YT:cF 40 O' v' (l3++lb.take (lb.length-1)).length ((l3++lb.take (lb.length-1)).flatMap gi.cells):=cF.cast (by rw[bp]) (by rw[aA,dG,fr (by omega)]) hg';refine l_ (by simp only[az,ah];kernel_rfl) YT (fun ao c' hv hc'=>?_);subst hv;refine W.more (by kernel_rfl) (eI (NC (ao:=some ⟨bb,ob,none⟩) (r:=lb.length-1) (l:=l3) (l2:=lb) (L:=130)) tD) ?_;refine W.r [] (.tuple #[.slice ao (l3++lb.take (lb.length-1)).length c',.int .i64 0]) (.inr ⟨hoe,ao,c',l3++lb.take (lb.length-1),rfl,hc',?_,rfl⟩) (zw (fun I w hd hh e he=>(aW.p (k:=OS gi) (a:=(130,l3++lb.take (lb.length-1))) inferInstance hh) e he));rw[←hcs,←hws,hpl,aT,hl3,hdl,←FT,←AD,List.map_take]
 have Y_:kind≠2:=by intro e;rw[e]at hk2;simp at hk2
 refine W.d [100] 104 (kind==4) (fun hk4=>?_) (fun hk4=>?_)
 ·have hk:=eq_of_beq hk4;refine aq [104] (cU bg (by omega) (by omega)) ?_;rintro _ _ ⟨u7,d7,rfl,rfl⟩;refine aq [] (cr u7 d7) ?_;rintro _ _ ⟨nb,ab,mb,bb2,rfl,rfl⟩;refine aq [] (cU en (by omega) (by omega)) ?_;rintro _ _ ⟨u9,d9,rfl,rfl⟩;refine aq [] (cr u9 d9) ?_;rintro _ _ ⟨ne,ae,me,be2,rfl,rfl⟩;have hpl:=wQ (((bg:Int):Rat)) (((en:Int):Rat)) (by unfold o_;rw[if_neg Y_,if_pos hk]);refine bW [] 2 bc oc cs.length c1 .i64 0 0 rfl aB (by omega) ?_;refine cV [] bc (oc+0*2) (eg p0) aB (eB bc oc (0*2) (eH oH)) ?_;refine bW [] 2 bw ow ws.length c2 .i64 0 0 rfl aB (by omega) ?_;refine bZ [] 0 bw (ow+0*2) aB ?_;refine dJ [] 1 bw (ow+0*2+0) (.int .i64 w0.x) aB (fun I w hI hh=>eB bw ow (0*2) (eH RS) I w hI hh 0 _ rfl) ?_;refine bW [] 2 bw ow ws.length c2 .i64 0 0 rfl aB (by omega) ?_;refine bZ [] 1 bw (ow+0*2) aB ?_;refine dJ [] 1 bw (ow+0*2+1) (.int .i64 w0.y) aB (fun I w hI hh=>eB bw ow (0*2) (eH RS) I w hI hh 1 _ rfl) ?_;refine aq [] (x_ p0 (jk w0) (IntKind.i64.wrap (0-w0.x)) (IntKind.i64.wrap (0-w0.y)) Mn hny ⟨n6,a6,m6,b6⟩ ⟨nb,ab,mb,bb2⟩ (h:=h) (b:=((bg:Int):Rat)) (kind==1) (Ig _ _ oH) Ot.neg hq0) ?_;rintro _ _ ⟨bb,ob,cb,lb,rfl,hlb,AD,rfl⟩;have FT:=kT AD;have YH:=hb0 h (((bg:Int):Rat)) (kind==1);obtain⟨el,hel⟩:∃el,lb[lb.length-1]? =some el:=⟨_,ai (by omega)⟩;have hdl:(mC p0 (jk w0) h (((bg:Int):Rat)) (kind==1)).drop ((mC p0 (jk w0) h (((bg:Int):Rat)) (kind==1)).length-1)=[el.num]:=by
   obtain⟨hk,rfl⟩:=List.getElem?_eq_some_iff.1 hel;rw[←FT,←AD,←List.map_drop,bC hk,bu (by omega)];rfl
  refine bW [] 40 bb ob lb.length cb .i64 (lb.length-1) (IntKind.i64.wrap ((lb.length:Int)-1)) (by rw[af];omega) aB (by omega) ?_;refine cV [] bb (ob+(lb.length-1)*40) (jg el.x++jg el.y) aB (zY hel) ?_;refine cH [] 1 (jg el.x++jg el.y) aB (fun B1=>?_);refine gV [] [21,22] (fun a:Xw=>[(21,a.v),(22,.int .i64 a.z)]) (fun _=>[]) (fun a=>a.O) (fun a=>[OS gi (130,a.l),RA a.ao a.ys,RA (some ⟨bc,oc,none⟩) (cs.flatMap eg),RA (some ⟨bw,ow,none⟩) (ws.flatMap eg),QF n6 a6 m6 b6 (2,h),QG ⟨ne,ae,me,be2⟩ (2,((en:Int):Rat)),OL gi (some ⟨bb,ob,none⟩) (130,lb)]) (fun a=>a.z=a.i∧1≤a.i∧a.i≤ws.length∧a.l.map jF.num=[el.num]++(gy h cs.tail ws).take (a.i-1)∧Jc 40 a.O a.v a.l.length (a.l.flatMap gi.cells) a.ao a.ys) (fun a=>ws.length-a.i) ⟨1,1,.slice (some ⟨B1,0,none⟩) 1 1,[],[el],some ⟨B1,0,none⟩,jg el.x++jg el.y⟩ ⟨rfl,ak _,by simp only;omega,by simp only[nA,mQ,ah];rfl,.inl ⟨rfl,rfl,Nat.zero_lt_one,rfl,rfl⟩⟩ (eI (NA (ao:=some ⟨bb,ob,none⟩) hel) (eI Nz (eI gj (eI gj (eI gj (eI gj (eI gj tD))))))) ?_;rintro⟨i,z1,v1,O1,l1,Th,Uw⟩ K1 ⟨hz1,Ay,hi',hl1,hg1⟩ close1;simp only at hz1 Ay hi' hl1 hg1;have FR:=kT hl1;rw[aA,dG,hm1]at FR;simp only[aC,a_]at FR;by_cases xQ:i<ws.length
  ·obtain⟨p,hp⟩:=yL i (by omega);obtain⟨d,hd⟩:=oA (i-1) (by omega);obtain⟨e,he⟩:=oA i xQ;have NY:ws[i-1+1]? =some e:=by rw[gG Ay];exact he
   have hp1:cs[i-1+1]? =some p:=by rw[gG Ay];exact hp
   have hma:=m_ h cs.tail ws (i-1) p d e (htl _ _ hp1) hd NY;refine bj [] 142 (decide (z1<(ws.length:Int))) (au (by omega)) ?_;refine bW [142] 2 bc oc cs.length c1 .i64 i z1 hz1 aB (by omega) ?_;refine cV [] bc (oc+i*2) (eg p) aB (eB bc oc (i*2) (eH hp)) ?_;refine bW [] 2 bw ow ws.length c2 .i64 (i-1) (IntKind.i64.wrap (z1-1)) (by rw[af];omega) aB (by omega) ?_;refine cV [] bw (ow+(i-1)*2) (eg d) aB (eB bw ow ((i-1)*2) (eH hd)) ?_;refine bW [] 2 bw ow ws.length c2 .i64 i z1 hz1 aB xQ ?_;refine cV [] bw (ow+i*2) (eg e) aB (eB bw ow (i*2) (eH he)) ?_;refine aq [] (uN p d e ⟨n6,a6,m6,b6⟩ (h:=h) (Ig _ _ hp) (nQ _ _ hd).1 (nQ _ _ he).1 (xP _ _ _ hd NY)) ?_;rintro _ _ ⟨X,Y,rfl,rfl⟩;refine cH [] 1 (jg X++jg Y) aB (fun B2=>?_);refine Cd [] O1 40 640 l1.length 1 Th v1 (.slice (some ⟨B2,0,none⟩) 1 1) (l1.flatMap gi.cells) Uw (jg X++jg Y) aB hg1 (by decide) (bX B2 O1 1 40 rfl 1) (pK ⟨X,Y,⟨0,0,0,0,0,0⟩,⟨0,0,0,0,0,0⟩⟩) (by omega) (by decide) (fun v' O' hg'=>?_);refine close1 [] _ _ ⟨i+1,IntKind.i64.wrap (z1+1),v',O',l1++[⟨X,Y,(gf p d e h).1,(gf p d e h).2⟩],none,[]⟩ (by kernel_rfl) (by kernel_rfl) ⟨by simp only[af];omega,by simp only;omega,xQ,?_,.inr ⟨?_,rfl,rfl⟩⟩ (by simp only;omega) (eI (Cy ⟨X,Y,(gf p d e h).1,(gf p d e h).2⟩) (eI ND (eI gj (eI gj (eI gj (eI gj (eI gj tD)))))))
   ·simp only;rw[aT,hl1,eF,show i=i-1+1 by omega,lR hma,aV,eF];rfl
   ·simp only[aA,bp,aC,a_];exact cF.cast (by simp[gi]) rfl hg'
  obtain rfl:i=ws.length:=by omega
  rw[aU (by rw[hm1];omega)]at hl1;refine aQ [] 142 (decide (z1<(ws.length:Int))) (aj (by omega)) ?_;refine bW [142] 2 bc oc cs.length c1 .i64 ws.length (ws.length:Int) rfl aB (by omega) ?_;refine cV [] bc (oc+ws.length*2) (eg pn) aB (eB bc oc (ws.length*2) (eH hpn)) ?_;refine bW [] 2 bw ow ws.length c2 .i64 (ws.length-1) (IntKind.i64.wrap ((ws.length:Int)-1)) (by rw[af];omega) aB (by omega) ?_;refine cV [] bw (ow+(ws.length-1)*2) (eg wn) aB (eB bw ow ((ws.length-1)*2) (eH FZ)) ?_;refine aq [] (x_ pn wn wn.x wn.y rfl rfl ⟨n6,a6,m6,b6⟩ ⟨ne,ae,me,be2⟩ (h:=h) (b:=((en:Int):Rat)) (kind==1) (Ig _ _ hpn) (nQ _ _ FZ).1 hqn) ?_;rintro _ _ ⟨bt,ot,ct,lt,rfl,hlt2,hnt,rfl⟩;have Zc:=kT hnt;have YK:=hbn h (((en:Int):Rat)) (kind==1);refine Cd [] O1 40 640 l1.length lt.length Th v1 (.slice (some ⟨bt,ot,none⟩) lt.length ct) (l1.flatMap gi.cells) Uw ((lt.take lt.length).flatMap gi.cells) aB hg1 (by omega) (ri bt ot O1 lt.length ct (ak _)) uR (by omega) (by decide) (fun v2 O2 hg2=>?_);have hl2:(l1++lt).map jF.num=[el.num]++gy h cs.tail ws++mC pn wn h (((en:Int):Rat)) (kind==1):=by rw[aT,hl1,hnt]
  refine gV [] [21,23] (fun a:Xw=>[(21,a.v),(23,.int .i64 a.z)]) (fun _=>[]) (fun a=>a.O) (fun a=>[OS gi (130,a.l),RA (some ⟨bc,oc,none⟩) (cs.flatMap eg),RA (some ⟨bw,ow,none⟩) (ws.flatMap eg),QF n6 a6 m6 b6 (2,h),OL gi (some ⟨bb,ob,none⟩) (130,lb)]) (fun a=>a.z=a.i∧a.i≤ws.length-1∧a.l.map jF.num=[el.num]++gy h cs.tail ws++mC pn wn h (((en:Int):Rat)) (kind==1)++((gy (-h) cs.tail ws).drop a.i).reverse∧cF 40 a.O a.v a.l.length (a.l.flatMap gi.cells)) (fun a=>a.i) ⟨ws.length-1,IntKind.i64.wrap ((ws.length:Int)-1),v2,O2,l1++lt,none,[]⟩ ⟨by simp only[af];omega,ak _,?_,cF.cast (by simp[bp]) (by simp) hg2⟩ (eI (NB (l:=l1) (l2:=lt) (ao:=some ⟨bt,ot,none⟩)) (eI gj (eI gj (eI gj (eI gj tD))))) ?_
  ·simp only;rw[hl2,bu (by rw[hm2];exact ak _),List.reverse_nil,ah]
  rintro⟨i,z3,v3,O3,l3,ao3,ys3⟩ K2 ⟨hz3,YY,hl3,yM⟩ iB;simp only at hz3 YY hl3 yM;have N_:=kT hl3;simp only[aA,fz,iw,hm1,hm2,aC,a_]at N_;cases i with
  |succ i=>
   obtain⟨p,hp⟩:=yL (i+1) (by omega);obtain⟨d,hd⟩:=oA i (by omega);obtain⟨e,he⟩:=oA (i+1) (by omega);have hma:=m_ (-h) cs.tail ws i p d e (htl _ _ hp) hd he;refine bj [] 182 (decide (z3>0)) (au (by omega)) ?_;refine bW [182] 2 bc oc cs.length c1 .i64 (i+1) z3 hz3 aB (by omega) ?_;refine cV [] bc (oc+(i+1)*2) (eg p) aB (eB bc oc ((i+1)*2) (eH hp)) ?_;refine bW [] 2 bw ow ws.length c2 .i64 i (IntKind.i64.wrap (z3-1)) (by rw[af];omega) aB (by omega) ?_;refine cV [] bw (ow+i*2) (eg d) aB (eB bw ow (i*2) (eH hd)) ?_;refine bW [] 2 bw ow ws.length c2 .i64 (i+1) z3 hz3 aB (by omega) ?_;refine cV [] bw (ow+(i+1)*2) (eg e) aB (eB bw ow ((i+1)*2) (eH he)) ?_;refine aq [] (pG n6 a6 m6 b6) ?_;rintro _ _ ⟨n8,a8,m8,b8,rfl,rfl⟩;refine aq [] (uN p d e ⟨n8,a8,m8,b8⟩ (h:= -h) (Ig _ _ hp) (nQ _ _ hd).1 (nQ _ _ he).1 (xP _ _ _ hd he)) ?_;rintro _ _ ⟨X,Y,rfl,rfl⟩;refine cH [] 1 (jg X++jg Y) aB (fun B2=>?_);refine W.app [] O3 [] O3 [] 40 640 l3.length 1 v3 (.slice (some ⟨B2,0,none⟩) 1 1) (l3.flatMap gi.cells) (jg X++jg Y) aB (by simp) yM (bX B2 O3 1 40 rfl 1) (pK ⟨X,Y,⟨0,0,0,0,0,0⟩,⟨0,0,0,0,0,0⟩⟩) (by omega) (by decide) (fun v' O' hg'=>?_);refine iB [] _ _ ⟨i,IntKind.i64.wrap (z3-1),v',O',l3++[⟨X,Y,(gf p d e (-h)).1,(gf p d e (-h)).2⟩],none,[]⟩ (by kernel_rfl) (by simp only[az,ah];kernel_rfl) ⟨by simp only[af];omega,by simp only;omega,?_,?_⟩ (by simp only;omega) (eI (Cy ⟨X,Y,(gf p d e (-h)).1,(gf p d e (-h)).2⟩) (eI gj (eI gj (eI gj (eI gj tD)))))
   ·simp only;rw[aT,hl3,xN hma,←aV];rfl
   ·simp only[aA,bp,aC,a_];exact cF.cast (by simp[gi]) rfl hg'
  |zero=>
   rw[gX]at hl3;refine aQ [] 182 (decide (z3>0)) (aj (by omega)) ?_;refine MR [182] 40 bb ob (lb.length-1) lb.length cb (IntKind.i64.wrap ((lb.length:Int)-1)) (by rw[af];omega) aB (by omega) (by omega) ?_;refine W.app [] O3 [] O3 [] 40 640 l3.length (lb.length-1) v3 (.slice (some ⟨bb,ob,none⟩) (lb.length-1) cb) (l3.flatMap gi.cells) ((lb.take (lb.length-1)).flatMap gi.cells) aB (by simp) yM (ri bb ob O3 (lb.length-1) cb (by omega)) uR (by omega) (by decide) (fun v' O' hg'=>?_);have YT:cF 40 O' v' (l3++lb.take (lb.length-1)).length ((l3++lb.take (lb.length-1)).flatMap gi.cells):=cF.cast (by rw[bp]) (by rw[aA,dG,fr (by omega)]) hg';refine l_ (by simp only[az,ah];kernel_rfl) YT (fun ao c' hv hc'=>?_);subst hv;refine W.more (by kernel_rfl) (eI (NC (ao:=some ⟨bb,ob,none⟩) (r:=lb.length-1) (l:=l3) (l2:=lb) (L:=130)) tD) ?_;refine W.r [] (.tuple #[.slice ao (l3++lb.take (lb.length-1)).length c',.int .i64 0]) (.inr ⟨hoe,ao,c',l3++lb.take (lb.length-1),rfl,hc',?_,rfl⟩) (zw (fun I w hd hh e he=>(aW.p (k:=OS gi) (a:=(130,l3++lb.take (lb.length-1))) inferInstance hh) e he));rw[←hcs,←hws,hpl,aT,hl3,hdl,←FT,←AD,List.map_take]
 have abL:kind≠4:=by intro e;rw[e]at hk4;simp at hk4
 refine W.more (by kernel_rfl) (ln (L':=0)) ?_;have hpl:=wQ (0) (0) (by unfold o_;rw[if_neg Y_,if_neg abL]);refine bW [104] 2 bc oc cs.length c1 .i64 0 0 rfl aB (by omega) ?_;refine cV [] bc (oc+0*2) (eg p0) aB (eB bc oc (0*2) (eH oH)) ?_;refine bW [] 2 bw ow ws.length c2 .i64 0 0 rfl aB (by omega) ?_;refine bZ [] 0 bw (ow+0*2) aB ?_;refine dJ [] 1 bw (ow+0*2+0) (.int .i64 w0.x) aB (fun I w hI hh=>eB bw ow (0*2) (eH RS) I w hI hh 0 _ rfl) ?_;refine bW [] 2 bw ow ws.length c2 .i64 0 0 rfl aB (by omega) ?_;refine bZ [] 1 bw (ow+0*2) aB ?_;refine dJ [] 1 bw (ow+0*2+1) (.int .i64 w0.y) aB (fun I w hI hh=>eB bw ow (0*2) (eH RS) I w hI hh 1 _ rfl) ?_;refine aq [] (x_ p0 (jk w0) (IntKind.i64.wrap (0-w0.x)) (IntKind.i64.wrap (0-w0.y)) Mn hny ⟨n6,a6,m6,b6⟩ b_ (h:=h) (b:=0) (kind==1) (Ig _ _ oH) Ot.neg hq0) ?_;rintro _ _ ⟨bb,ob,cb,lb,rfl,hlb,AD,rfl⟩;have FT:=kT AD;have YH:=hb0 h (0) (kind==1);obtain⟨el,hel⟩:∃el,lb[lb.length-1]? =some el:=⟨_,ai (by omega)⟩;have hdl:(mC p0 (jk w0) h (0) (kind==1)).drop ((mC p0 (jk w0) h (0) (kind==1)).length-1)=[el.num]:=by
  obtain⟨hk,rfl⟩:=List.getElem?_eq_some_iff.1 hel;rw[←FT,←AD,←List.map_drop,bC hk,bu (by omega)];rfl
 refine bW [] 40 bb ob lb.length cb .i64 (lb.length-1) (IntKind.i64.wrap ((lb.length:Int)-1)) (by rw[af];omega) aB (by omega) ?_;refine cV [] bb (ob+(lb.length-1)*40) (jg el.x++jg el.y) aB (zY hel) ?_;refine cH [] 1 (jg el.x++jg el.y) aB (fun B1=>?_);refine gV [] [21,22] (fun a:Xw=>[(21,a.v),(22,.int .i64 a.z)]) (fun _=>[]) (fun a=>a.O) (fun a=>[OS gi (130,a.l),RA a.ao a.ys,RA (some ⟨bc,oc,none⟩) (cs.flatMap eg),RA (some ⟨bw,ow,none⟩) (ws.flatMap eg),QF n6 a6 m6 b6 (2,h),QG b_ (0,0),OL gi (some ⟨bb,ob,none⟩) (130,lb)]) (fun a=>a.z=a.i∧1≤a.i∧a.i≤ws.length∧a.l.map jF.num=[el.num]++(gy h cs.tail ws).take (a.i-1)∧Jc 40 a.O a.v a.l.length (a.l.flatMap gi.cells) a.ao a.ys) (fun a=>ws.length-a.i) ⟨1,1,.slice (some ⟨B1,0,none⟩) 1 1,[],[el],some ⟨B1,0,none⟩,jg el.x++jg el.y⟩ ⟨rfl,ak _,by simp only;omega,by simp only[nA,mQ,ah];rfl,.inl ⟨rfl,rfl,Nat.zero_lt_one,rfl,rfl⟩⟩ (eI (NA (ao:=some ⟨bb,ob,none⟩) hel) (eI Nz (eI gj (eI gj (eI gj (eI gj (eI gj tD))))))) ?_;rintro⟨i,z1,v1,O1,l1,Th,Uw⟩ K1 ⟨hz1,Ay,hi',hl1,hg1⟩ close1;simp only at hz1 Ay hi' hl1 hg1;have FR:=kT hl1;rw[aA,dG,hm1]at FR;simp only[aC,a_]at FR;by_cases xQ:i<ws.length
 ·obtain⟨p,hp⟩:=yL i (by omega);obtain⟨d,hd⟩:=oA (i-1) (by omega);obtain⟨e,he⟩:=oA i xQ;have NY:ws[i-1+1]? =some e:=by rw[gG Ay];exact he
  have hp1:cs[i-1+1]? =some p:=by rw[gG Ay];exact hp
  have hma:=m_ h cs.tail ws (i-1) p d e (htl _ _ hp1) hd NY;refine bj [] 142 (decide (z1<(ws.length:Int))) (au (by omega)) ?_;refine bW [142] 2 bc oc cs.length c1 .i64 i z1 hz1 aB (by omega) ?_;refine cV [] bc (oc+i*2) (eg p) aB (eB bc oc (i*2) (eH hp)) ?_;refine bW [] 2 bw ow ws.length c2 .i64 (i-1) (IntKind.i64.wrap (z1-1)) (by rw[af];omega) aB (by omega) ?_;refine cV [] bw (ow+(i-1)*2) (eg d) aB (eB bw ow ((i-1)*2) (eH hd)) ?_;refine bW [] 2 bw ow ws.length c2 .i64 i z1 hz1 aB xQ ?_;refine cV [] bw (ow+i*2) (eg e) aB (eB bw ow (i*2) (eH he)) ?_;refine aq [] (uN p d e ⟨n6,a6,m6,b6⟩ (h:=h) (Ig _ _ hp) (nQ _ _ hd).1 (nQ _ _ he).1 (xP _ _ _ hd NY)) ?_;rintro _ _ ⟨X,Y,rfl,rfl⟩;refine cH [] 1 (jg X++jg Y) aB (fun B2=>?_);refine Cd [] O1 40 640 l1.length 1 Th v1 (.slice (some ⟨B2,0,none⟩) 1 1) (l1.flatMap gi.cells) Uw (jg X++jg Y) aB hg1 (by decide) (bX B2 O1 1 40 rfl 1) (pK ⟨X,Y,⟨0,0,0,0,0,0⟩,⟨0,0,0,0,0,0⟩⟩) (by omega) (by decide) (fun v' O' hg'=>?_);refine close1 [] _ _ ⟨i+1,IntKind.i64.wrap (z1+1),v',O',l1++[⟨X,Y,(gf p d e h).1,(gf p d e h).2⟩],none,[]⟩ (by kernel_rfl) (by kernel_rfl) ⟨by simp only[af];omega,by simp only;omega,xQ,?_,.inr ⟨?_,rfl,rfl⟩⟩ (by simp only;omega) (eI (Cy ⟨X,Y,(gf p d e h).1,(gf p d e h).2⟩) (eI ND (eI gj (eI gj (eI gj (eI gj (eI gj tD)))))))
  ·simp only;rw[aT,hl1,eF,show i=i-1+1 by omega,lR hma,aV,eF];rfl
  ·simp only[aA,bp,aC,a_];exact cF.cast (by simp[gi]) rfl hg'
 obtain rfl:i=ws.length:=by omega
 rw[aU (by rw[hm1];omega)]at hl1;refine aQ [] 142 (decide (z1<(ws.length:Int))) (aj (by omega)) ?_;refine bW [142] 2 bc oc cs.length c1 .i64 ws.length (ws.length:Int) rfl aB (by omega) ?_;refine cV [] bc (oc+ws.length*2) (eg pn) aB (eB bc oc (ws.length*2) (eH hpn)) ?_;refine bW [] 2 bw ow ws.length c2 .i64 (ws.length-1) (IntKind.i64.wrap ((ws.length:Int)-1)) (by rw[af];omega) aB (by omega) ?_;refine cV [] bw (ow+(ws.length-1)*2) (eg wn) aB (eB bw ow ((ws.length-1)*2) (eH FZ)) ?_;refine aq [] (x_ pn wn wn.x wn.y rfl rfl ⟨n6,a6,m6,b6⟩ b_ (h:=h) (b:=0) (kind==1) (Ig _ _ hpn) (nQ _ _ FZ).1 hqn) ?_;rintro _ _ ⟨bt,ot,ct,lt,rfl,hlt2,hnt,rfl⟩;have Zc:=kT hnt;have YK:=hbn h (0) (kind==1);refine Cd [] O1 40 640 l1.length lt.length Th v1 (.slice (some ⟨bt,ot,none⟩) lt.length ct) (l1.flatMap gi.cells) Uw ((lt.take lt.length).flatMap gi.cells) aB hg1 (by omega) (ri bt ot O1 lt.length ct (ak _)) uR (by omega) (by decide) (fun v2 O2 hg2=>?_);have hl2:(l1++lt).map jF.num=[el.num]++gy h cs.tail ws++mC pn wn h (0) (kind==1):=by rw[aT,hl1,hnt]
 refine gV [] [21,23] (fun a:Xw=>[(21,a.v),(23,.int .i64 a.z)]) (fun _=>[]) (fun a=>a.O) (fun a=>[OS gi (130,a.l),RA (some ⟨bc,oc,none⟩) (cs.flatMap eg),RA (some ⟨bw,ow,none⟩) (ws.flatMap eg),QF n6 a6 m6 b6 (2,h),OL gi (some ⟨bb,ob,none⟩) (130,lb)]) (fun a=>a.z=a.i∧a.i≤ws.length-1∧a.l.map jF.num=[el.num]++gy h cs.tail ws++mC pn wn h (0) (kind==1)++((gy (-h) cs.tail ws).drop a.i).reverse∧cF 40 a.O a.v a.l.length (a.l.flatMap gi.cells)) (fun a=>a.i) ⟨ws.length-1,IntKind.i64.wrap ((ws.length:Int)-1),v2,O2,l1++lt,none,[]⟩ ⟨by simp only[af];omega,ak _,?_,cF.cast (by simp[bp]) (by simp) hg2⟩ (eI (NB (l:=l1) (l2:=lt) (ao:=some ⟨bt,ot,none⟩)) (eI gj (eI gj (eI gj (eI gj tD))))) ?_
 ·simp only;rw[hl2,bu (by rw[hm2];exact ak _),List.reverse_nil,ah]
 rintro⟨i,z3,v3,O3,l3,ao3,ys3⟩ K2 ⟨hz3,YY,hl3,yM⟩ iB;simp only at hz3 YY hl3 yM;have N_:=kT hl3;simp only[aA,fz,iw,hm1,hm2,aC,a_]at N_;cases i with
 |succ i=>
  obtain⟨p,hp⟩:=yL (i+1) (by omega);obtain⟨d,hd⟩:=oA i (by omega);obtain⟨e,he⟩:=oA (i+1) (by omega);have hma:=m_ (-h) cs.tail ws i p d e (htl _ _ hp) hd he;refine bj [] 182 (decide (z3>0)) (au (by omega)) ?_;refine bW [182] 2 bc oc cs.length c1 .i64 (i+1) z3 hz3 aB (by omega) ?_;refine cV [] bc (oc+(i+1)*2) (eg p) aB (eB bc oc ((i+1)*2) (eH hp)) ?_;refine bW [] 2 bw ow ws.length c2 .i64 i (IntKind.i64.wrap (z3-1)) (by rw[af];omega) aB (by omega) ?_;refine cV [] bw (ow+i*2) (eg d) aB (eB bw ow (i*2) (eH hd)) ?_;refine bW [] 2 bw ow ws.length c2 .i64 (i+1) z3 hz3 aB (by omega) ?_;refine cV [] bw (ow+(i+1)*2) (eg e) aB (eB bw ow ((i+1)*2) (eH he)) ?_;refine aq [] (pG n6 a6 m6 b6) ?_;rintro _ _ ⟨n8,a8,m8,b8,rfl,rfl⟩;refine aq [] (uN p d e ⟨n8,a8,m8,b8⟩ (h:= -h) (Ig _ _ hp) (nQ _ _ hd).1 (nQ _ _ he).1 (xP _ _ _ hd he)) ?_;rintro _ _ ⟨X,Y,rfl,rfl⟩;refine cH [] 1 (jg X++jg Y) aB (fun B2=>?_);refine W.app [] O3 [] O3 [] 40 640 l3.length 1 v3 (.slice (some ⟨B2,0,none⟩) 1 1) (l3.flatMap gi.cells) (jg X++jg Y) aB (by simp) yM (bX B2 O3 1 40 rfl 1) (pK ⟨X,Y,⟨0,0,0,0,0,0⟩,⟨0,0,0,0,0,0⟩⟩) (by omega) (by decide) (fun v' O' hg'=>?_);refine iB [] _ _ ⟨i,IntKind.i64.wrap (z3-1),v',O',l3++[⟨X,Y,(gf p d e (-h)).1,(gf p d e (-h)).2⟩],none,[]⟩ (by kernel_rfl) (by simp only[az,ah];kernel_rfl) ⟨by simp only[af];omega,by simp only;omega,?_,?_⟩ (by simp only;omega) (eI (Cy ⟨X,Y,(gf p d e (-h)).1,(gf p d e (-h)).2⟩) (eI gj (eI gj (eI gj (eI gj tD)))))
  ·simp only;rw[aT,hl3,xN hma,←aV];rfl
  ·simp only[aA,bp,aC,a_];exact cF.cast (by simp[gi]) rfl hg'
 |zero=>
  rw[gX]at hl3;refine aQ [] 182 (decide (z3>0)) (aj (by omega)) ?_;refine MR [182] 40 bb ob (lb.length-1) lb.length cb (IntKind.i64.wrap ((lb.length:Int)-1)) (by rw[af];omega) aB (by omega) (by omega) ?_;refine W.app [] O3 [] O3 [] 40 640 l3.length (lb.length-1) v3 (.slice (some ⟨bb,ob,none⟩) (lb.length-1) cb) (l3.flatMap gi.cells) ((lb.take (lb.length-1)).flatMap gi.cells) aB (by simp) yM (ri bb ob O3 (lb.length-1) cb (by omega)) uR (by omega) (by decide) (fun v' O' hg'=>?_);have YT:cF 40 O' v' (l3++lb.take (lb.length-1)).length ((l3++lb.take (lb.length-1)).flatMap gi.cells):=cF.cast (by rw[bp]) (by rw[aA,dG,fr (by omega)]) hg';refine l_ (by simp only[az,ah];kernel_rfl) YT (fun ao c' hv hc'=>?_);subst hv;refine W.more (by kernel_rfl) (eI (NC (ao:=some ⟨bb,ob,none⟩) (r:=lb.length-1) (l:=l3) (l2:=lb) (L:=130)) tD) ?_;refine W.r [] (.tuple #[.slice ao (l3++lb.take (lb.length-1)).length c',.int .i64 0]) (.inr ⟨hoe,ao,c',l3++lb.take (lb.length-1),rfl,hc',?_,rfl⟩) (zw (fun I w hd hh e he=>(aW.p (k:=OS gi) (a:=(130,l3++lb.take (lb.length-1))) inferInstance hh) e he));rw[←hcs,←hws,hpl,aT,hl3,hdl,←FT,←AD,List.map_take]
end
open Go.RowKit Go.ChangeShapes Go.WideShapes
def intOf:Value→Int
 | .int _ z=>z
 |_=>0
section
variable{H:Type}{enc:TypeId×Value→H}{P:Program}{w:World}
end
structure Re where
 k:Int
 d:Int
 b:List Int
instance:Inhabited Re:=⟨⟨0,0,[]⟩⟩
structure Im where
 f:List Re
 p:List Re
instance:Inhabited Im:=⟨⟨[],[]⟩⟩
structure Ce where
 h:List Re
 i:List Im
instance:Inhabited Ce:=⟨⟨[],[]⟩⟩
structure Li where
 h:List Re
 c:List Ce
instance:Inhabited Li:=⟨⟨[],[]⟩⟩
structure QN where
 data:Int
 part:Int
 least:Int
 most:Int
def ET(k:Int):Option QN:=
 if k=0∨k=13∨k=14∨k=22∨k=33∨k=34∨k=42∨k=43∨k=46∨k=54∨k=57 then some ⟨2,2,1,1⟩
 else if k=1∨k=5 then some ⟨2,24,1,1⟩
 else if k=19 then some ⟨2,4,1,1⟩
 else if k=59 then some ⟨2,6,1,32⟩
 else if k=4∨k=7∨k=8∨k=9∨k=10∨k=11∨k=12∨k=17∨k=21∨k=45∨k=56 then some ⟨0,1,0,0⟩
 else if k=15∨k=47∨k=48∨k=49 then some ⟨3,4,1,1⟩
 else if k=16 then some ⟨3,8,1,8191⟩
 else if k=27∨k=28 then some ⟨5,8,1,1⟩
 else if k=3 then some ⟨5,16,1,1⟩
 else if k=23∨k=26∨k=38∨k=52 then some ⟨1,2,1,1⟩
 else if k=2∨k=25∨k=44∨k=55∨k=58 then some ⟨6,2,1,256⟩
 else if k=6∨k=18 then some ⟨6,2,1,16⟩
 else if k=35 then some ⟨6,44,1,1⟩
 else if k=32 then some ⟨6,176,1,1⟩
 else if k=31 then some ⟨6,44,1,17⟩
 else none
def fI(b:List Int):List Int:=if b.getLast?=some 0 then b.dropLast else b
def jQ(c:Int):Bool:=(decide (65≤c)&&decide (c≤90))||(decide (97≤c)&&decide (c≤122))||(decide (48≤c)&&decide (c≤57))||(c==95||c==63||c==36)
def D8(k:Int):Bool:=k==2||k==25||k==44||k==55||k==58
def D7(k:Int):Bool:=k==6||k==18
def fk(r:Re):Bool:=
 match ET r.k with
 |none=>false
 |some s=>r.d==s.data&&((r.b.length:Int) % s.part==0&&(decide (s.least≤(r.b.length:Int)/s.part)&&(decide ((r.b.length:Int)/s.part≤s.most)&&
   (if D8 r.k then !(fI r.b).contains 0 else if D7 r.k then(fI r.b).all jQ else true))))
abbrev n_(α:Type):=List Re→Option (α×List Re)
def dK(k:Int)(l:List Re):Bool:=match l with
 |r::_=>r.k==k
 | []=>false
def gE(k:Int):n_ Re:=fun l=>match l with
 |r::m=>if r.k=k∧fk r=true then some (r,m)else none
 | []=>none
def dj:List Int→n_ (List Re)
 | [],l=>some ([],l)
 |k::ks,l=>if k<256∨dK (k % 256) l=true then
   (match gE (k % 256) l with
    |some (r,m)=>(match dj ks m with
     |some (rs,m')=>some (r::rs,m')
     |none=>none)
    |none=>none)
  else dj ks l
def fF(p q:n_ (List Re)):n_ (List Re):=fun l=>match p l with
 |some (a,m)=>(match q m with
  |some (b,m')=>some (a++b,m')
  |none=>none)
 |none=>none
def jA:n_ (List Re):=fun l=>if dK 26 l=true then dj [26,283,284] l else some ([],l)
def gD(k:Int):n_ (List Re):=
 if k=8 then dj [13,14,16]
 else if k=9 then dj [13,14,289,271,304,305,16]
 else if k=10 then fF (dj [18]) (fF jA (dj [16]))
 else if k=11 then fF (dj [18]) (fF jA (dj [19,16]))
 else if k=12 then fF (dj [13,22,279,289,271]) (fF jA (dj [16,25]))
 else if k=21 then dj [13,42,16]
 else if k=45 then dj [13,46,16]
 else fun l=>some ([],l)
def ez:n_ (List Re):=fun l=>match l with
 |r::_=>fF (dj [r.k,294,303]) (gD r.k) l
 | []=>none
def eX:Nat→n_ (List Re)
 |0,l=>some ([],l)
 |n+1,l=>if dK 43 l=true then
   (match dj [43,44] l with
    |some (a,m)=>(match eX n m with
     |some (b,m')=>some (a++b,m')
     |none=>none)
    |none=>none)
  else some ([],l)
def fT:n_ Im:=fun l=>match ez l with
 |some (f,m)=>(match eX m.length m with
  |some (p,m')=>(match gE 17 m' with
   |some (_,LC)=>some (⟨f,p⟩,LC)
   |none=>none)
  |none=>none)
 |none=>none
def pr(k:Int):Bool:=k==8||k==9||k==10||k==11||k==12||k==21||k==45
def ea(l:List Re):Bool:=match l with
 |r::_=>pr r.k
 | []=>false
def fX:Nat→n_ (List Im)
 |0,l=>some ([],l)
 |n+1,l=>if ea l=true then
   (match fT l with
    |some (x,m)=>(match fX n m with
     |some (xs,m')=>some (x::xs,m')
     |none=>none)
    |none=>none)
  else some ([],l)
def qu:n_ Ce:=fun l=>match dj [5,6,308] l with
 |some (h,m)=>(match fX m.length m with
  |some (i,m')=>(match gE 7 m' with
   |some (_,LC)=>some (⟨h,i⟩,LC)
   |none=>none)
  |none=>none)
 |none=>none
def fD:Nat→n_ (List Ce)
 |0,l=>some ([],l)
 |n+1,l=>if dK 5 l=true then
   (match qu l with
    |some (x,m)=>(match fD n m with
     |some (xs,m')=>some (x::xs,m')
     |none=>none)
    |none=>none)
  else some ([],l)
def fO:Nat→n_ (List Re)
 |0,l=>some ([],l)
 |n+1,l=>if dK 55 l=true then
   (match gE 55 l with
    |some (a,m)=>(match fO n m with
     |some (b,m')=>some (a::b,m')
     |none=>none)
    |none=>none)
  else some ([],l)
def oB:n_ (List Re):=fun l=>if dK 54 l=true then
  (match gE 54 l with
   |some (a,m)=>(match fO m.length m with
    |some (b,m')=>if b=[]then some ([a],m')else
     (match gE 56 m' with
      |some (e,LC)=>some (a::(b++[e]),LC)
      |none=>none)
    |none=>none)
   |none=>none)
 else some ([],l)
def qx:n_ (List Re):=fF (dj [0,1,313,314,315,2,287,288,291,290]) (fF oB (dj [3]))
def sk:n_ Li:=fun l=>match qx l with
 |some (h,m)=>(match fD m.length m with
  |some (c,m')=>(match gE 4 m' with
   |some (_,LC)=>some (⟨h,c⟩,LC)
   |none=>none)
  |none=>none)
 |none=>none
def gx(k:Int):Re:=⟨k,0,[]⟩
def fH(x:Im):List Re:=x.f++(x.p++[gx 17])
def fS(c:Ce):List Re:=c.h++(c.i.flatMap fH++[gx 7])
def g9(t:Li):List Re:=t.h++(t.c.flatMap fS++[gx 4])
def wX(x y:Im):Bool:=x.f.length==y.f.length&&x.p.length==y.p.length
def jS:List Im→List Im→Bool
 | [],[]=>true
 |x::l,y::m=>wX x y&&jS l m
 |_,_=>false
def wW(c d:Ce):Bool:=c.h.length==d.h.length&&jS c.i d.i
def jR:List Ce→List Ce→Bool
 | [],[]=>true
 |x::l,y::m=>wW x y&&jR l m
 |_,_=>false
def Gd(t u:Li):Bool:=t.h.length==u.h.length&&jR t.c u.c
def jo(t:Li):Bool:=match sk (g9 t)with
 |some (u,[])=>Gd t u
 |_=>false
theorem fE{k:Int}{l m:List Re}{r:Re}(h:gE k l=some (r,m)):l=r::m∧r.k=k∧fk r=true:=by
 unfold gE at h;split at h
 ·split at h
  ·rename_i hk;simp only[ar,aH]at h;obtain⟨rfl,rfl⟩:=h;exact⟨rfl,hk⟩
  ·simp at h
 ·simp at h
def sP{α:Type}(p:n_ α)(fl:α→List Re):Prop:=∀l x m,p l=some (x,m)→l=fl x++m
def oe(p:n_ (List Re)):Prop:=∀l x m,p l=some (x,m)→∀r∈x,fk r=true
theorem cR:∀ks,sP (dj ks) id∧oe (dj ks)
 | []=>⟨fun l x m h=>by simp[dj]at h;simp[h],fun l x m h=>by simp[dj]at h;simp[h.1]⟩
 |k::ks=>by
  have ih:=cR ks;have key:∀l x m,dj (k::ks) l=some (x,m)→l=x++m∧∀r∈x,fk r=true:=by
   intro l x m h;unfold dj at h;split at h
   ·split at h
    ·rename_i r m1 hm;split at h
     ·rename_i rs m2 hr;simp only[ar,aH]at h;obtain⟨rfl,rfl⟩:=h;obtain⟨rfl,_,hrr⟩:=fE hm;have e1:=ih.1 _ _ _ hr;have e2:=ih.2 _ _ _ hr;simp only[id]at e1;subst e1;refine⟨rfl,fun r hr=>?_⟩;rcases List.mem_cons.1 hr with rfl|hr
      ·exact hrr
      ·exact e2 r hr
     ·simp at h
    ·simp at h
   ·exact⟨ih.1 _ _ _ h,ih.2 _ _ _ h⟩
  exact⟨fun l x m h=>(key l x m h).1,fun l x m h=>(key l x m h).2⟩
theorem fU{p q:n_ (List Re)}(hp:sP p id∧oe p)(hq:sP q id∧oe q):sP (fF p q) id∧oe (fF p q):=by
 have key:∀l x m,fF p q l=some (x,m)→l=x++m∧∀r∈x,fk r=true:=by
  intro l x m h;unfold fF at h;split at h
  ·rename_i a m1 ha;split at h
   ·rename_i b m2 hb;simp only[ar,aH]at h;obtain⟨rfl,rfl⟩:=h;have e1:=hp.1 _ _ _ ha;have e2:=hq.1 _ _ _ hb;simp only[id]at e1 e2;subst e1 e2;refine⟨by simp,fun r hr=>?_⟩;rcases List.mem_append.1 hr with hr|hr
    ·exact hp.2 _ _ _ ha r hr
    ·exact hq.2 _ _ _ hb r hr
   ·simp at h
  ·simp at h
 exact⟨fun l x m h=>(key l x m h).1,fun l x m h=>(key l x m h).2⟩
theorem pC:sP (fun l=>some (([]:List Re),l)) id∧oe (fun l=>some ([],l)):=
 ⟨fun l x m h=>by simp at h;simp[h],fun l x m h=>by simp at h;simp[h.1]⟩
theorem kM:sP jA id∧oe jA:=by
 refine⟨fun l x m h=>?_,fun l x m h=>?_⟩<;>unfold jA at h<;>split at h
 ·exact(cR _).1 _ _ _ h
 ·exact pC.1 _ _ _ h
 ·exact(cR _).2 _ _ _ h
 ·exact pC.2 _ _ _ h
theorem pJ(k:Int):sP (gD k) id∧oe (gD k):=by
 unfold gD
 repeat' split
 ·exact cR _
 ·exact cR _
 ·exact fU (cR _) (fU kM (cR _))
 ·exact fU (cR _) (fU kM (cR _))
 ·exact fU (cR _) (fU kM (cR _))
 ·exact cR _
 ·exact cR _
 ·exact pC
theorem Ew:sP ez id∧oe ez:=by
 refine⟨fun l x m h=>?_,fun l x m h=>?_⟩<;>unfold ez at h<;>split at h
 ·exact(fU (cR _) (pJ _)).1 _ _ _ h
 ·simp at h
 ·exact(fU (cR _) (pJ _)).2 _ _ _ h
 ·simp at h
theorem y5:∀n,sP (eX n) id∧oe (eX n)
 |0=>pC
 |n+1=>by
  have ih:=y5 n;have:=fU (cR [43,44]) ih;refine⟨fun l x m h=>?_,fun l x m h=>?_⟩<;>unfold eX at h<;>split at h
  ·exact this.1 _ _ _ h
  ·exact pC.1 _ _ _ h
  ·exact this.2 _ _ _ h
  ·exact pC.2 _ _ _ h
theorem zu{k:Int}{r:Re}(hk:k=17∨k=7∨k=4)(h:r.k=k)(hr:fk r=true):r=gx k:=by
 obtain⟨rk,rd,rb⟩:=r;simp only at h;subst h;have hs:ET rk=some ⟨0,1,0,0⟩:=by rcases hk with rfl|rfl|rfl<;>rfl
 simp only[fk,hs,aM,jM,dp]at hr;obtain⟨h1,_,_,h4,_⟩:=hr;have:rb.length=0:=by omega
 unfold gx;rw[h1,aN this]
theorem vO{k:Int}(hk:k=17∨k=7∨k=4):fk (gx k)=true:=by rcases hk with rfl|rfl|rfl<;>decide
theorem si:sP fT fH:=by
 intro l x m h;unfold fT at h;split at h
 ·rename_i f m1 hf;split at h
  ·rename_i p m2 hp;split at h
   ·rename_i r m3 hm;simp only[ar,aH]at h;obtain⟨rfl,rfl⟩:=h;obtain⟨rfl,hk,hr⟩:=fE hm;have e1:=Ew.1 _ _ _ hf;have e2:=(y5 _).1 _ _ _ hp;simp only[id]at e1 e2;rw[e1,e2,zu (.inl rfl) hk hr];simp[fH]
   ·simp at h
  ·simp at h
 ·simp at h
theorem ue:∀n,sP (fX n) (List.flatMap fH)
 |0=>fun l x m h=>by simp[fX]at h;obtain⟨rfl,rfl⟩:=h;simp
 |n+1=>fun l x m h=>by
  unfold fX at h;split at h
  ·split at h
   ·rename_i y m1 hy;split at h
    ·rename_i ys m2 VO;simp only[ar,aH]at h;obtain⟨rfl,rfl⟩:=h;have e1:=si _ _ _ hy;have e2:=ue n _ _ _ VO;rw[e1,e2];simp
    ·simp at h
   ·simp at h
  ·simp at h;obtain⟨rfl,rfl⟩:=h;simp
theorem se:sP qu fS:=by
 intro l x m h;unfold qu at h;split at h
 ·rename_i f m1 hf;split at h
  ·rename_i p m2 hp;split at h
   ·rename_i r m3 hm;simp only[ar,aH]at h;obtain⟨rfl,rfl⟩:=h;obtain⟨rfl,hk,hr⟩:=fE hm;have e1:=(cR _).1 _ _ _ hf;have e2:=(ue _) _ _ _ hp;simp only[id]at e1 e2;rw[e1,e2,zu (.inr (.inl rfl)) hk hr];simp[fS]
   ·simp at h
  ·simp at h
 ·simp at h
theorem yW:∀n,sP (fD n) (List.flatMap fS)
 |0=>fun l x m h=>by simp[fD]at h;obtain⟨rfl,rfl⟩:=h;simp
 |n+1=>fun l x m h=>by
  unfold fD at h;split at h
  ·split at h
   ·rename_i y m1 hy;split at h
    ·rename_i ys m2 VO;simp only[ar,aH]at h;obtain⟨rfl,rfl⟩:=h;have e1:=se _ _ _ hy;have e2:=yW n _ _ _ VO;rw[e1,e2];simp
    ·simp at h
   ·simp at h
  ·simp at h;obtain⟨rfl,rfl⟩:=h;simp
theorem uf:∀n,sP (fO n) id∧oe (fO n)
 |0=>pC
 |n+1=>by
  have ih:=uf n;have key:∀l x m,fO (n+1) l=some (x,m)→l=x++m∧∀r∈x,fk r=true:=by
   intro l x m h;unfold fO at h;split at h
   ·split at h
    ·rename_i r m1 hm;split at h
     ·rename_i rs m2 hr;simp only[ar,aH]at h;obtain⟨rfl,rfl⟩:=h;obtain⟨rfl,_,hrr⟩:=fE hm;have e1:=ih.1 _ _ _ hr;have e2:=ih.2 _ _ _ hr;simp only[id]at e1;subst e1;refine⟨rfl,fun r hr=>?_⟩;rcases List.mem_cons.1 hr with rfl|hr
      ·exact hrr
      ·exact e2 r hr
     ·simp at h
    ·simp at h
   ·simp at h;obtain⟨rfl,rfl⟩:=h;simp
  exact⟨fun l x m h=>(key l x m h).1,fun l x m h=>(key l x m h).2⟩
theorem Bj:sP oB id∧oe oB:=by
 have key:∀l x m,oB l=some (x,m)→l=x++m∧∀r∈x,fk r=true:=by
  intro l x m h;unfold oB at h;split at h
  ·split at h
   ·rename_i a m1 ha;obtain⟨rfl,_,Oh⟩:=fE ha;split at h
    ·rename_i b m2 hb;have e1:=(uf _).1 _ _ _ hb;have e2:=(uf _).2 _ _ _ hb;simp only[id]at e1;subst e1;split at h
     ·rename_i hb0;simp only[ar,aH]at h;obtain⟨rfl,rfl⟩:=h;subst hb0;exact⟨rfl,fun r hr=>by simp at hr;subst hr;exact Oh⟩
     ·split at h
      ·rename_i e m3 he;simp only[ar,aH]at h;obtain⟨rfl,rfl⟩:=h;obtain⟨rfl,_,Ol⟩:=fE he;refine⟨by simp,fun r hr=>?_⟩;simp only[aF,dI,aE,bL]at hr;rcases hr with rfl|hr|rfl
       ·exact Oh
       ·exact e2 r hr
       ·exact Ol
      ·simp at h
    ·simp at h
   ·simp at h
  ·simp at h;obtain⟨rfl,rfl⟩:=h;simp
 exact⟨fun l x m h=>(key l x m h).1,fun l x m h=>(key l x m h).2⟩
theorem IV:sP qx id∧oe qx:=fU (cR _) (fU Bj (cR _))
theorem LX:sP sk g9:=by
 intro l x m h;unfold sk at h;split at h
 ·rename_i f m1 hf;split at h
  ·rename_i p m2 hp;split at h
   ·rename_i r m3 hm;simp only[ar,aH]at h;obtain⟨rfl,rfl⟩:=h;obtain⟨rfl,hk,hr⟩:=fE hm;have e1:=IV.1 _ _ _ hf;have e2:=(yW _) _ _ _ hp;simp only[id]at e1 e2;rw[e1,e2,zu (.inr (.inr rfl)) hk hr];simp[g9]
   ·simp at h
  ·simp at h
 ·simp at h
theorem OK{x y:Im}{a b:List Re}(h:wX x y=true)(e:fH x++a=fH y++b):x=y∧a=b:=by
 obtain⟨xf,xp⟩:=x;obtain⟨yf,yp⟩:=y;simp only[wX,aM,jM]at h;simp only[fH,aV]at e;obtain⟨rfl,e1⟩:=List.append_inj e h.1;obtain⟨rfl,e2⟩:=List.append_inj e1 h.2;exact⟨rfl,by simpa using e2⟩
theorem CR:∀{l m:List Im} {a b:List Re},jS l m=true→l.flatMap fH++a=m.flatMap fH++b→l=m∧a=b
 | [],[],a,b,_,e=>⟨rfl,by simpa using e⟩
 | [],y::m,_,_,h,_=>by simp[jS]at h
 |x::l,[],_,_,h,_=>by simp[jS]at h
 |x::l,y::m,a,b,h,e=>by
  simp only[jS,aM]at h;simp only[bz,aV]at e;obtain⟨rfl,e1⟩:=OK h.1 e;obtain⟨rfl,e2⟩:=CR h.2 e1;exact⟨rfl,e2⟩
theorem OJ{x y:Ce}{a b:List Re}(h:wW x y=true)(e:fS x++a=fS y++b):x=y∧a=b:=by
 obtain⟨xf,xp⟩:=x;obtain⟨yf,yp⟩:=y;simp only[wW,aM,jM]at h;simp only[fS,aV]at e;obtain⟨rfl,e1⟩:=List.append_inj e h.1;obtain⟨rfl,e2⟩:=CR h.2 e1;exact⟨rfl,by simpa using e2⟩
theorem CQ:∀{l m:List Ce} {a b:List Re},jR l m=true→l.flatMap fS++a=m.flatMap fS++b→l=m∧a=b
 | [],[],a,b,_,e=>⟨rfl,by simpa using e⟩
 | [],y::m,_,_,h,_=>by simp[jR]at h
 |x::l,[],_,_,h,_=>by simp[jR]at h
 |x::l,y::m,a,b,h,e=>by
  simp only[jR,aM]at h;simp only[bz,aV]at e;obtain⟨rfl,e1⟩:=OJ h.1 e;obtain⟨rfl,e2⟩:=CQ h.2 e1;exact⟨rfl,e2⟩
theorem R7{x y:Li}{a b:List Re}(h:Gd x y=true)(e:g9 x++a=g9 y++b):x=y∧a=b:=by
 obtain⟨xf,xp⟩:=x;obtain⟨yf,yp⟩:=y;simp only[Gd,aM,jM]at h;simp only[g9,aV]at e;obtain⟨rfl,e1⟩:=List.append_inj e h.1;obtain⟨rfl,e2⟩:=CQ h.2 e1;exact⟨rfl,by simpa using e2⟩
theorem yT:∀l,jS l l=true
 | []=>rfl
 |x::l=>by simp[jS,wX,yT l]
theorem yS:∀l,jR l l=true
 | []=>rfl
 |x::l=>by simp[jR,wW,yT,yS l]
theorem Mi{t:Li}:jo t=true↔sk (g9 t)=some (t,[]):=by
 unfold jo;constructor
 ·intro h;split at h
  ·rename_i u hu;have e:=LX _ _ _ hu;rw[ah]at e;obtain⟨rfl,_⟩:=R7 (a:=[]) (b:=[]) h (by simpa using e);exact hu
  ·simp at h
 ·intro h;rw[h];simp[Gd,yS]
def zR(K:List Int)(m m':List Re):Prop:=∀k∈K,dK k m=dK k m'
def XQ(K:List Int){α:Type}(p:n_ α)(fl:α→List Re):Prop:=∀l x m m',p l=some (x,m)→zR K m m'→p (fl x++m')=some (x,m')
def HA{α:Type}(p:n_ α)(fl:α→List Re):Prop:=∀l x m m',p l=some (x,m)→p (fl x++m')=some (x,m')
theorem uj{x m m':List Re}{k:Int}(h:x=[]→dK k m=dK k m'):dK k (x++m)=dK k (x++m'):=by
 cases x with
 |nil=>exact h rfl
 |cons r x=>rfl
theorem zR.app{K:List Int}{x m m':List Re}(h:x=[]→zR K m m'):zR K (x++m) (x++m'):=fun k hk=>uj (fun e=>h e k hk)
theorem ly{k:Int}{r:Re}{m:List Re}(h1:r.k=k)(h2:fk r=true):gE k (r::m)=some (r,m):=by simp[gE,h1,h2]
theorem pN:∀(ks:List Int) {K:List Int},(∀k∈ks,¬k<256→k % 256∈K)→XQ K (dj ks) id
 | [],K,_=>fun l x m m' h _=>by simp[dj]at h;obtain⟨rfl,rfl⟩:=h;rfl
 |k::ks,K,hK=>fun l x m m' h ha=>by
  have ih:=pN ks (K:=K) (fun k hk=>hK k (cN _ hk));have el:=(cR (k::ks)).1 _ _ _ h;simp only[id]at el⊢;unfold dj at h;split at h
  ·rename_i hc;split at h
   ·rename_i r m1 hm;split at h
    ·rename_i rs m2 hr;simp only[ar,aH]at h;obtain⟨rfl,rfl⟩:=h;obtain⟨rfl,hk,hrr⟩:=fE hm;have:=ih _ _ _ m' hr ha;unfold dj;rw[if_pos (by rcases hc with hc|hc;exact .inl hc;exact .inr hc),cT,ly hk hrr];simp only[id]at this;simp only[this]
    ·simp at h
   ·simp at h
  ·rename_i hc;have:=ih _ _ _ m' h ha;unfold dj;rw[if_neg ?_]
   ·exact this
   ·intro hn;rcases hn with hn|hn
    ·exact hc (.inl hn)
    ·apply hc;refine .inr ?_;rw[el];rw[uj (x:=x) (m:=m) (m':=m') (fun _=>ha _ (hK k (by simp) (fun h=>hc (.inl h))))];exact hn
theorem gW:∀(ks:List Int) (k:Int),k<256→HA (dj (ks++[k])) id∧∀l x m,dj (ks++[k]) l=some (x,m)→x≠ []
 | [],k,hk=>by
  refine⟨fun l x m m' h=>?_,fun l x m h=>?_⟩
  ·simp only[az,dj,hk,true_or,e8]at h⊢;split at h
   ·rename_i r m1 hm;simp only[ar,aH]at h;obtain⟨rfl,rfl⟩:=h;obtain⟨rfl,hk,hrr⟩:=fE hm;simp only[id,cT,az,ly hk hrr]
   ·simp at h
  ·simp only[az,dj,hk,true_or,e8]at h;split at h
   ·simp only[ar,aH]at h;rw[←h.1];simp
   ·simp at h
 |j::ks,k,hk=>by
  have ih:=gW ks k hk;have key:∀l x m m',dj (j::(ks++[k])) l=some (x,m)→dj (j::(ks++[k])) (x++m')=some (x,m')∧x≠ []:=by
   intro l x m m' h;have el:=(cR (j::(ks++[k]))).1 _ _ _ h;simp only[id]at el;unfold dj at h;split at h
   ·rename_i hc;split at h
    ·rename_i r m1 hm;split at h
     ·rename_i rs m2 hr;simp only[ar,aH]at h;obtain⟨rfl,rfl⟩:=h;obtain⟨rfl,hk,hrr⟩:=fE hm;have:=ih.1 _ _ _ m' hr;simp only[id]at this;refine⟨?_,by simp⟩;unfold dj;rw[if_pos (by rcases hc with hc|hc;exact .inl hc;exact .inr hc),cT,ly hk hrr];simp only[this]
     ·simp at h
    ·simp at h
   ·rename_i hc;have h1:=ih.1 _ _ _ m' h;have h2:=ih.2 _ _ _ h;refine⟨?_,h2⟩;unfold dj;rw[if_neg ?_]
    ·exact h1
    ·intro hn;rcases hn with hn|hn
     ·exact hc (.inl hn)
     ·apply hc;refine .inr ?_;rw[el,uj (x:=x) (m:=m) (m':=m') (fun e=>absurd e h2)];exact hn
  exact⟨fun l x m m' h=>(key l x m m' h).1,fun l x m h=>(key l x m m h).2⟩
theorem kU{K:List Int}{p q:n_ (List Re)}(hqe:sP q id)(hp:XQ K p id)(hq:HA q id∧∀l x m,q l=some (x,m)→x≠ []):HA (fF p q) id∧∀l x m,fF p q l=some (x,m)→x≠ []:=by
 have key:∀l x m m',fF p q l=some (x,m)→fF p q (x++m')=some (x,m')∧x≠ []:=by
  intro l x m m' h;unfold fF at h⊢;split at h
  ·rename_i a m1 h1;split at h
   ·rename_i b m2 h2;simp only[ar,aH]at h;obtain⟨rfl,rfl⟩:=h;have e2:=hqe _ _ _ h2;simp only[id]at e2;subst e2;have hb:=hq.2 _ _ _ h2;have g2:=hq.1 _ _ _ m' h2;have g1:=hp _ _ _ (b++m') h1 (zR.app fun e=>absurd e hb);simp only[id]at g1 g2;rw[aV,g1];simp only[g2];exact⟨trivial,by simp[hb]⟩
   ·simp at h
  ·simp at h
 exact⟨fun l x m m' h=>(key l x m m' h).1,fun l x m h=>(key l x m m h).2⟩
theorem HA.loc{K:List Int}{α:Type}{p:n_ α}{fl:α→List Re}(h:HA p fl):XQ K p fl:=fun l x m m' hl _=>h l x m m' hl
theorem v8:XQ [26,27,28] jA id:=fun l x m m' h ha=>by
 have el:=kM.1 _ _ _ h;simp only[id]at el⊢;unfold jA at h⊢;split at h
 ·rename_i hs;have hx:x≠ []:=by
   rintro rfl;have:=gW [] 26 (by decide);unfold dj at h;simp only[true_or,e8,show(26:Int)<256 by decide]at h;split at h
   ·split at h<;>simp at h
   ·simp at h
  rw[←uj (x:=x) (m:=m) (m':=m') (fun e=>absurd e hx),←el,if_pos hs];exact pN [26,283,284] (K:=[26,27,28]) (by decide) _ _ _ m' h ha
 ·rename_i hs;simp only[ar,aH]at h;obtain⟨rfl,rfl⟩:=h;rw[if_neg (by rw[az,←ha 26 (by simp)];exact hs)];rfl
theorem IU{k:Int}(hk:pr k=true):HA (gD k) id∧∀l x m,gD k l=some (x,m)→x≠ []:=by
 simp only[pr,eu,jM]at hk;rcases hk with(((((rfl|rfl)|rfl)|rfl)|rfl)|rfl)|rfl
 ·exact gW [13,14] 16 (by decide)
 ·exact gW [13,14,289,271,304,305] 16 (by decide)
 ·exact kU (K:=[26,27,28]) (fU kM (cR _)).1 (gW [] 18 (by decide)).1.loc (kU (cR _).1 v8 (gW [] 16 (by decide)))
 ·exact kU (K:=[26,27,28]) (fU kM (cR _)).1 (gW [] 18 (by decide)).1.loc (kU (cR _).1 v8 (gW [19] 16 (by decide)))
 ·exact kU (K:=[23,33,15]) (fU kM (cR _)).1 (pN _ (by decide)) (kU (cR _).1 v8 (gW [16] 25 (by decide)))
 ·exact gW [13,42] 16 (by decide)
 ·exact gW [13,46] 16 (by decide)
theorem xk{r:Re}{l x m:List Re}(hk:pr r.k=true)(h:ez (r::l)=some (x,m)):(∃x',x=r::x')∧∀m',ez (x++m')=some (x,m'):=by
 unfold ez at h;simp only at h;have hs:=kU (K:=[38,47]) (p:=dj [r.k,294,303]) (pJ r.k).1 (pN _ (by
  intro k h1 h2;simp only[aF,aE,bL]at h1;rcases h1 with rfl|rfl|rfl
  ·exfalso
   apply h2;simp only[pr,eu,jM]at hk;omega
  ·decide
  ·decide)) (IU hk)
 have he:=(fU (cR [r.k,294,303]) (pJ r.k)).1 _ _ _ h;simp only[id]at he;cases x with
 |nil=>exact absurd rfl (hs.2 _ _ _ h)
 |cons y x=>
  rw[cT]at he;injection he with e1 e2;subst e1;refine⟨⟨x,rfl⟩,fun m'=>?_⟩;have:=hs.1 _ _ _ m' h;simp only[id]at this;unfold ez;exact this
theorem uT{a b:Int}{l x m:List Re}(ha:a<256)(h:dj [a,b] l=some (x,m)):m.length<l.length:=by
 have e:=(cR [a,b]).1 _ _ _ h;simp only[id]at e;have hx:x≠ []:=by
  rintro rfl;unfold dj at h;simp only[ha,true_or,e8]at h;split at h
  ·split at h<;>simp at h
  ·simp at h
 rw[e,aA];cases x with
 |nil=>exact absurd rfl hx
 |cons r x=>simp
theorem y6:∀(n n':Nat) (l:List Re),l.length≤n→l.length≤n'→eX n l=eX n' l
 |0,0,l,_,_=>rfl
 |0,n'+1,l,h,_=>by
  have:l=[]:=aN (by omega);subst this;simp[eX,dK]
 |n+1,0,l,_,h=>by
  have:l=[]:=aN (by omega);subst this;simp[eX,dK]
 |n+1,n'+1,l,h,h'=>by
  unfold eX;split
  ·split
   ·rename_i a m hm;have:=uT (by decide) hm;rw[y6 n n' m (by omega) (by omega)]
   ·rfl
  ·rfl
theorem Bq:∀n,∀l x m m',l.length≤n→eX n l=some (x,m)→zR [43] m m'→∀n',(x++m').length≤n'→eX n' (x++m')=some (x,m')
 |0,l,x,m,m',hl,h,ha,n',hn=>by
  have:l=[]:=aN (by omega);subst this;simp[eX]at h;obtain⟨rfl,rfl⟩:=h;cases n' with
  |zero=>rfl
  |succ n'=>
   unfold eX;rw[az,if_neg (by rw[←ha 43 (by simp)];decide)]
 |n+1,l,x,m,m',hl,h,ha,n',hn=>by
  unfold eX at h;split at h
  ·rename_i hs;split at h
   ·rename_i a m1 h1;split at h
    ·rename_i b m2 h2;simp only[ar,aH]at h;obtain⟨rfl,rfl⟩:=h;have e1:=(cR _).1 _ _ _ h1;simp only[id]at e1;subst e1;have hlen:=uT (by decide) h1;have ih:=Bq n m1 b _ m' (by simp only[aA]at hl hlen;omega) h2 ha;have g1:=(gW [43] 44 (by decide)).1 _ _ _ (b++m') h1;simp only[id]at g1;have ha0:a≠ []:=(gW [43] 44 (by decide)).2 _ _ _ h1;have hpos:0<a.length:=List.length_pos_iff.2 ha0;cases n' with
     |zero=>simp only[aA]at hn;omega
     |succ n'=>
      unfold eX;rw[aV,uj (x:=a) (m:=b++m') (m':=m1) (fun e=>absurd e ha0),if_pos hs];rw[show dj [43,44] (a++(b++m'))=some (a,b++m')from g1];simp only;rw[ih n' (by simp only[aA]at hn⊢;omega)]
    ·simp at h
   ·simp at h
  ·rename_i hs;simp only[ar,aH]at h;obtain⟨rfl,rfl⟩:=h;cases n' with
   |zero=>
    rfl
   |succ n'=>
    unfold eX;rw[az,if_neg (by rw[←ha 43 (by simp)];exact hs)]
def jw(x:Im):Prop:=ea (fH x)=true∧fT (fH x)=some (x,[])
theorem Bl{l m:List Re}{x:Im}(hs:ea l=true)(h:fT l=some (x,m)):ea (fH x)=true∧∀m',fT (fH x++m')=some (x,m'):=by
 cases l with
 |nil=>simp[ea]at hs
 |cons r l=>
  simp only[ea]at hs;unfold fT at h;split at h
  ·rename_i f m1 hf;obtain⟨⟨f',rfl⟩,g1⟩:=xk hs hf;split at h
   ·rename_i p m2 hp;split at h
    ·rename_i r' m3 hm;simp only[ar,aH]at h;obtain⟨rfl,rfl⟩:=h;obtain⟨rfl,hk,hr⟩:=fE hm;refine⟨by simpa [fH,ea]using hs,fun m'=>?_⟩;have g2:=Bq _ _ _ _ (gx 17::m') (ak _) hp (fun k hk'=>by simp only[aF,aE,bL]at hk';subst hk';simp[dK,gx,hk]) _ (ak _);unfold fT;rw[show fH ⟨r::f',p⟩++m'=(r::f')++(p++(gx 17::m'))by simp[fH],g1];simp only;rw[g2];simp only;rw[ly (k:=17) (r:=gx 17) rfl (vO (.inl rfl))]
    ·simp at h
   ·simp at h
  ·simp at h
theorem Lz{l m:List Re}{x:Im}(hs:ea l=true)(h:fT l=some (x,m)):jw x:=by
 obtain⟨h1,h2⟩:=Bl hs h;exact⟨h1,by simpa using h2 []⟩
theorem jw.go{x:Im}(h:jw x)(m:List Re):ea (fH x++m)=true∧fT (fH x++m)=some (x,m):=by
 refine⟨?_,(Bl h.1 h.2).2 m⟩;have:=h.1;cases hf:fH x with
 |nil=>rw[hf]at this;simp[ea]at this
 |cons r l=>rw[hf]at this;exact this
theorem qY(x:Im):fH x≠ []:=by simp[fH]
theorem C9:∀n l xs m,l.length≤n→fX n l=some (xs,m)→(∀x∈xs,jw x)∧ea m=false
 |0,l,xs,m,hl,h=>by
  have:l=[]:=aN (by omega);subst this;simp[fX]at h;obtain⟨rfl,rfl⟩:=h;exact⟨by simp,rfl⟩
 |n+1,l,xs,m,hl,h=>by
  unfold fX at h;split at h
  ·rename_i hs;split at h
   ·rename_i y m1 hy;split at h
    ·rename_i ys m2 VO;simp only[ar,aH]at h;obtain⟨rfl,rfl⟩:=h;have e:=si _ _ _ hy;have hlen:m1.length<l.length:=by
      rw[e,aA];have:=List.length_pos_iff.2 (qY y);omega
     obtain⟨g1,g2⟩:=C9 n m1 ys _ (by omega) VO;refine⟨fun x hx=>?_,g2⟩;rcases List.mem_cons.1 hx with rfl|hx
     ·exact Lz hs hy
     ·exact g1 x hx
    ·simp at h
   ·simp at h
  ·rename_i hs;simp only[ar,aH]at h;obtain⟨rfl,rfl⟩:=h;exact⟨by simp,by simpa using hs⟩
theorem C8:∀(xs:List Im) (n:Nat) (m:List Re),(∀x∈xs,jw x)→ea m=false→(xs.flatMap fH++m).length≤n→fX n (xs.flatMap fH++m)=some (xs,m)
 | [],n,m,_,hm,hn=>by
  cases n with
  |zero=>rfl
  |succ n=>
   unfold fX;simp only[rC,az];rw[if_neg (by rw[hm];decide)]
 |x::xs,n,m,hx,hm,hn=>by
  obtain⟨h1,h2⟩:=jw.go (hx x (by simp)) (xs.flatMap fH++m);have hpos:=List.length_pos_iff.2 (qY x);cases n with
  |zero=>simp at hn;exact absurd hn.1 (qY x)
  |succ n=>
   unfold fX;rw[bz,aV,if_pos h1,h2];simp only;rw[C8 xs n m (fun y hy=>hx y (cN _ hy)) hm (by simp only[bz,aA]at hn⊢;omega)]
def iK(h:List Re):Prop:=dj [5,6,308] (h++[gx 7])=some (h,[gx 7])
def tx(c:Ce):Prop:=iK c.h∧∀x∈c.i,jw x
theorem SJ{l:List Re}{k:Int}(hs:ea l=true)(hk:pr k=false):dK k l=false:=by
 cases l with
 |nil=>rfl
 |cons r l=>
  simp only[ea]at hs;simp only[dK,ed];rintro rfl;rw[hs]at hk;simp at hk
theorem Af{xs:List Im}{m:List Re}(hx:∀x∈xs,jw x):dK 52 (xs.flatMap fH++gx 7::m)=false:=by
 cases xs with
 |nil=>rfl
 |cons x xs=>
  rw[bz,aV];exact SJ ((hx x (by simp)).go _).1 (by decide)
theorem PL{l m:List Re}{c:Ce}(h:qu l=some (c,m)):tx c:=by
 unfold qu at h;split at h
 ·rename_i f m1 hf;split at h
  ·rename_i p m2 hp;split at h
   ·rename_i r m3 hm;simp only[ar,aH]at h;obtain⟨rfl,rfl⟩:=h;obtain⟨rfl,hk,hr⟩:=fE hm;have hpo:=(C9 _ _ _ _ (ak _) hp).1;have e2:=ue _ _ _ _ hp;have hr7:=zu (.inr (.inl rfl)) hk hr;refine⟨?_,hpo⟩;refine pN [5,6,308] (K:=[52]) (by decide) _ _ _ _ hf (fun k hk'=>?_);simp only[aF,aE,bL]at hk';subst hk';rw[e2,hr7,Af hpo];rfl
   ·simp at h
  ·simp at h
 ·simp at h
theorem iK.shape{h:List Re}(hh:iK h):∃r l,h=r::l∧r.k=5:=by
 unfold iK dj at hh;simp only[true_or,e8,show(5:Int)<256 by decide]at hh;split at hh
 ·rename_i r m hm;obtain⟨e,hk,_⟩:=fE hm;split at hh
  ·simp only[ar,aH]at hh;exact⟨r,_,hh.1.symm,hk⟩
  ·simp at hh
 ·simp at hh
theorem tx.go{c:Ce}(h:tx c)(m:List Re):dK 5 (fS c++m)=true∧qu (fS c++m)=some (c,m):=by
 obtain⟨ch,ci⟩:=c;obtain⟨h1,h2⟩:=h;simp only at h1 h2;obtain⟨r,l,rfl,hk⟩:=h1.shape;refine⟨by simp[fS,dK,hk],?_⟩;unfold qu;have g1:=pN [5,6,308] (K:=[52]) (by decide) _ _ _ (ci.flatMap fH++gx 7::m) h1 (fun k hk'=>by
  simp only[aF,aE,bL]at hk';subst hk';rw[Af h2];rfl)
 simp only[id]at g1;rw[show fS ⟨r::l,ci⟩++m=(r::l)++(ci.flatMap fH++gx 7::m)by simp[fS],g1];simp only;rw[C8 ci _ _ h2 rfl (ak _)];simp only;rw[ly (k:=7) (r:=gx 7) rfl (vO (.inr (.inl rfl)))]
theorem pg(x:Ce):fS x≠ []:=by simp[fS]
theorem C7:∀n l xs m,l.length≤n→fD n l=some (xs,m)→(∀x∈xs,tx x)∧dK 5 m=false
 |0,l,xs,m,hl,h=>by
  have:l=[]:=aN (by omega);subst this;simp[fD]at h;obtain⟨rfl,rfl⟩:=h;exact⟨by simp,rfl⟩
 |n+1,l,xs,m,hl,h=>by
  unfold fD at h;split at h
  ·rename_i hs;split at h
   ·rename_i y m1 hy;split at h
    ·rename_i ys m2 VO;simp only[ar,aH]at h;obtain⟨rfl,rfl⟩:=h;have e:=se _ _ _ hy;have hlen:m1.length<l.length:=by
      rw[e,aA];have:=List.length_pos_iff.2 (pg y);omega
     obtain⟨g1,g2⟩:=C7 n m1 ys _ (by omega) VO;refine⟨fun x hx=>?_,g2⟩;rcases List.mem_cons.1 hx with rfl|hx
     ·exact PL hy
     ·exact g1 x hx
    ·simp at h
   ·simp at h
  ·rename_i hs;simp only[ar,aH]at h;obtain⟨rfl,rfl⟩:=h;exact⟨by simp,by simpa using hs⟩
theorem C6:∀(xs:List Ce) (n:Nat) (m:List Re),(∀x∈xs,tx x)→dK 5 m=false→(xs.flatMap fS++m).length≤n→fD n (xs.flatMap fS++m)=some (xs,m)
 | [],n,m,_,hm,hn=>by
  cases n with
  |zero=>rfl
  |succ n=>
   unfold fD;simp only[rC,az];rw[if_neg (by rw[hm];decide)]
 |x::xs,n,m,hx,hm,hn=>by
  obtain⟨h1,h2⟩:=tx.go (hx x (by simp)) (xs.flatMap fS++m);cases n with
  |zero=>simp at hn;exact absurd hn.1 (pg x)
  |succ n=>
   unfold fD;rw[bz,aV,if_pos h1,h2];simp only;have hpos:=List.length_pos_iff.2 (pg x);rw[C6 xs n m (fun y hy=>hx y (cN _ hy)) hm (by simp only[bz,aA]at hn⊢;omega)]
def Ii(h:List Re):Prop:=qx h=some (h,[])
theorem yZ:∀(n n':Nat) (l:List Re),l.length≤n→l.length≤n'→fO n l=fO n' l
 |0,0,l,_,_=>rfl
 |0,n'+1,l,h,_=>by
  have:l=[]:=aN (by omega);subst this;simp[fO,dK]
 |n+1,0,l,_,h=>by
  have:l=[]:=aN (by omega);subst this;simp[fO,dK]
 |n+1,n'+1,l,h,h'=>by
  unfold fO;split
  ·split
   ·rename_i a m hm;have:=(fE hm).1;subst this;simp only[aC]at h h';rw[yZ n n' m (by omega) (by omega)]
   ·rfl
  ·rfl
theorem vZ:∀n,∀l x m m',l.length≤n→fO n l=some (x,m)→zR [55] m m'→∀n',(x++m').length≤n'→fO n' (x++m')=some (x,m')
 |0,l,x,m,m',hl,h,ha,n',hn=>by
  have:l=[]:=aN (by omega);subst this;simp[fO]at h;obtain⟨rfl,rfl⟩:=h;cases n' with
  |zero=>rfl
  |succ n'=>
   unfold fO;rw[az,if_neg (by rw[←ha 55 (by simp)];decide)]
 |n+1,l,x,m,m',hl,h,ha,n',hn=>by
  unfold fO at h;split at h
  ·rename_i hs;split at h
   ·rename_i a m1 h1;split at h
    ·rename_i b m2 h2;simp only[ar,aH]at h;obtain⟨rfl,rfl⟩:=h;obtain⟨rfl,hk,hr⟩:=fE h1;simp only[aC]at hl;have ih:=vZ n m1 b _ m' (by omega) h2 ha;cases n' with
     |zero=>simp at hn
     |succ n'=>
      unfold fO;rw[cT,if_pos (by simp[dK,hk]),ly hk hr];simp only;rw[ih n' (by simpa using hn)]
    ·simp at h
   ·simp at h
  ·rename_i hs;simp only[ar,aH]at h;obtain⟨rfl,rfl⟩:=h;cases n' with
   |zero=>rfl
   |succ n'=>
    unfold fO;rw[az,if_neg (by rw[←ha 55 (by simp)];exact hs)]
theorem LW:XQ [54,55] oB id:=fun l x m m' h ha=>by
 unfold oB at h;split at h
 ·rename_i hs;split at h
  ·rename_i a m1 h1;obtain⟨rfl,hk,hr⟩:=fE h1;split at h
   ·rename_i b m2 h2;split at h
    ·rename_i hb;simp only[ar,aH]at h;obtain⟨rfl,rfl⟩:=h;subst hb;have g:=vZ _ _ _ _ m' (ak _) h2 (fun k hk'=>ha k (by simp only[aF,aE,bL]at hk'⊢;exact .inr hk')) m'.length (by simp);unfold oB;simp only[id,cT,az]at g⊢;rw[if_pos (by simp[dK,hk]),ly hk hr];simp only[g,e8]
    ·rename_i hb;split at h
     ·rename_i e m3 h3;obtain⟨rfl,hk3,hr3⟩:=fE h3;simp only[ar,aH]at h;obtain⟨rfl,rfl⟩:=h;have g:=vZ _ _ _ _ (e::m') (ak _) h2 (fun k hk'=>by simp[dK]) (b++e::m').length (ak _);unfold oB;simp only[id,cT,aV,az]at g⊢;rw[if_pos (by simp[dK,hk]),ly hk hr];simp only[g];rw[if_neg hb,ly hk3 hr3]
     ·simp at h
   ·simp at h
  ·simp at h
 ·rename_i hs;simp only[ar,aH]at h;obtain⟨rfl,rfl⟩:=h;unfold oB;simp only[id,az];rw[if_neg (by rw[←ha 54 (by simp)];exact hs)]
theorem Bk:HA qx id∧∀l x m,qx l=some (x,m)→x≠ []:=
 kU (K:=[57,58,59,31,32,35,34]) (fU Bj (cR _)).1 (pN _ (by decide)) (kU (cR _).1 LW (gW [] 3 (by decide)))
theorem gp{t:Li}:jo t=true↔Ii t.h∧∀c∈t.c,tx c:=by
 rw[Mi];obtain⟨th,tc⟩:=t;constructor
 ·intro h;unfold sk at h;split at h
  ·rename_i f m1 hf;split at h
   ·rename_i p m2 hp;split at h
    ·rename_i r m3 hm;simp only[ar,aH,Li.mk.injEq]at h;obtain⟨⟨rfl,rfl⟩,rfl⟩:=h;refine⟨?_,(C7 _ _ _ _ (ak _) hp).1⟩;have:=Bk.1 _ _ _ [] hf;simpa [Ii]using this
    ·simp at h
   ·simp at h
  ·simp at h
 ·rintro⟨h1,h2⟩;simp only at h1 h2;unfold sk;have g1:=Bk.1 _ _ _ (tc.flatMap fS++[gx 4]) h1;simp only[id]at g1;simp only[g9];rw[g1];simp only;rw[C6 tc _ _ h2 rfl (ak _)];simp only;rw[ly (k:=4) (r:=gx 4) rfl (vO (.inr (.inr rfl)))]
end Go.Proofs.YtgaaopjagcaojaaGreat
