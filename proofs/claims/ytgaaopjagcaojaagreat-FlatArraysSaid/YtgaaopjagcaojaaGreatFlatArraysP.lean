/- An AREF has the shapes of its SREFs, one by one, row by row, whenever the Go function FlatArrays is called. -/
import Derived.Test.YtgaaopjagcaojaaGreatCb
import Derived.Test.YtgaaopjagcaojaaGreatBc
import Derived.Test.YtgaaopjagcaojaaGreatRows
import Derived.JoinedOf
import Derived.ProofKit
import Derived.Test.YtgaaopjagcaojaaGreatVy
import Derived.SizedLaws
import Derived.Test.YtgaaopjagcaojaaGreatVk
set_option linter.unusedSimpArgs false
set_option linter.unusedVariables false
set_option maxHeartbeats 4000000
namespace Go.Proofs.YtgaaopjagcaojaaGreat
open Go.RowKit Go.IntWalk
section
variable{Γ:List aE}
end
theorem wN{b:Nat}:∀{l:List Nat} {a:Nat},a≤b→(∀x∈l,x≤b)→l.foldl max a≤b
 | [],a,ha,_=>ha
 |y::l,a,ha,h=>wN (l:=l) (by have:=h y (by simp);omega) (fun x hx=>h x (by simp[hx]))
theorem Dx{α:Type}{f:Nat→Nat}{g:α→Nat}:∀(l:List α) (k:Nat),(∀i x,l[i]? =some x→f (k+i)≤g x)→((List.range' k l.length).map f).sum≤(l.map g).sum
 | [],k,_=>by simp
 |x::l,k,h=>by
  rw[aF,List.range'_succ,cj,fS,cj,fS];have h1:=h 0 x rfl;have h2:=Dx l (k+1) (fun i y hy=>by
   have:=h (i+1) y (by simpa using hy);rw[show k+1+i=k+(i+1)by omega];exact this)
  simp only[fk]at h1;omega
theorem XX{t:List Ce}{i:Nat}{c:Ce}(hc:t[i]? =some c){b:Nat}(h:∀x∈c.i,wI x≤b):wC t i≤b:=by
 unfold wC;rw[tO hc];exact wN (aM _) (fun y hy=>by
  obtain⟨x,hx,rfl⟩:=List.mem_map.1 hy;exact h x hx)
theorem S4{t:List Ce}{g:Ce→Nat}(h:∀c∈t,∀x∈c.i,wI x≤g c):zx t≤(t.map g).sum:=by
 unfold zx;rw[List.range_eq_range'];refine Dx t 0 (fun i c hc=>?_);rw[cz];exact XX hc (h c (aO hc))
section
variable{Γ:List aE}
theorem xk(aa:Option Addr)(an ac:Nat)(ba:Option Addr)(bn bc:Nat){l:List Sh} [h1:aY (LF oR qO.x ⟨aa,an,ac⟩) l Γ] [h2:aY (LF oR qO.x ⟨ba,bn,bc⟩) l Γ]:
  au tb Tryz.prog 14 [.slice aa an ac,.slice ba bn bc] Γ (js (.bool true)):=by
 refine au.of_W aB Tryz.func14 rfl ?_;refine W.len oR qO.x ⟨aa,an,ac⟩ rfl (fun ha ha2 ha3=>?_);refine W.len oR qO.x ⟨ba,bn,bc⟩ rfl (fun hb _ _=>?_);simp only at ha hb ha2 ha3;refine aS [] 11 ((an:Int) != (bn:Int)) (by rw[ha,hb];simp) ?_;refine jZ [11] [4,5] (fun a:Tq=>[(4,.bool false),(5,.int .i64 a.z)]) (fun _=>[]) (fun _=>[]) (fun _=>[LF oR qO.x ⟨aa,an,ac⟩ l,LF oR qO.x ⟨ba,bn,bc⟩ l]) (fun a=>a.z=a.i∧a.i≤an) (fun a=>an-a.i) ⟨0,0,.bool true,[]⟩ ⟨rfl,aM _⟩ (eC eK (eC eK eE)) ?_;rintro⟨i,z,v,O⟩ K ⟨hz,hi⟩ close;simp only at hz hi;by_cases hl:z<(an:Int)
 ·obtain⟨⟨A,k,p⟩,hx⟩:∃x,l[i]? =some x:=⟨_,ar (by omega)⟩;refine MR oR qO.x ⟨aa,an,ac⟩ hx (by kernel_rfl) (by decide) (fun xX yi e ha4 he=>?_);obtain⟨⟨pa,pn,pc⟩,e⟩:=e;obtain rfl:e=⟨A,k,p⟩:=he;simp only at ha4;subst ha4;refine MR oR qO.x ⟨ba,bn,bc⟩ hx (by kernel_rfl) (by decide) (fun DS Eo e hb4 he=>?_);obtain⟨⟨qa,qn,qc⟩,e⟩:=e;obtain rfl:e=⟨A,k,p⟩:=he;simp only at hb4;subst hb4;refine W.more (Δ:=[zA ⟨pa,pn,pc⟩ p,zA ⟨qa,qn,qc⟩ p,RA (some ⟨xX,yi+i*3,none⟩) [.int .i64 A,.int .i64 k,.slice pa pn pc],RA (some ⟨DS,Eo+i*3,none⟩) [.int .i64 A,.int .i64 k,.slice qa qn qc]]) rfl (fun I w _ hh=>aG.cons (hh _ (.tail _ (.tail _ (.head _)))) (aG.cons (hh _ (.head _)) (aG.cons (hh _ (.tail _ (.tail _ (.tail _ (.head _))))) (aU (hh _ (.tail _ (.head _))))))) ?_;refine Jo ⟨pa,pn,pc⟩ rfl (fun hp yX hp4=>?_);refine Jo ⟨qa,qn,qc⟩ rfl (fun hq _ hq4=>?_);simp only at hp hq yX hp4 hq4;refine bD [] 15 (decide (z<(an:Int))) (aw hl) ?_;refine cA [15] 3 xX yi an ac .i64 i z hz aB (by omega) ?_;refine cr [] 0 xX (yi+i*3) aB ?_;refine eg [] 1 xX (yi+i*3+0) (.int .i64 A) aB (fun I w hd hh=>dL xX (yi+i*3) I w hd hh 0 _ rfl) ?_;refine cA [] 3 DS Eo bn bc .i64 i z hz aB (by omega) ?_;refine cr [] 0 DS (Eo+i*3) aB ?_;refine eg [] 1 DS (Eo+i*3+0) (.int .i64 A) aB (fun I w hd hh=>dL DS (Eo+i*3) I w hd hh 0 _ rfl) ?_
  refine aS [] 29 (A != A) (by simp) ?_;refine cA [29] 3 xX yi an ac .i64 i z hz aB (by omega) ?_;refine cr [29] 1 xX (yi+i*3) aB ?_;refine eg [29] 1 xX (yi+i*3+1) (.int .i64 k) aB (fun I w hd hh=>dL xX (yi+i*3) I w hd hh 1 _ rfl) ?_;refine cA [29] 3 DS Eo bn bc .i64 i z hz aB (by omega) ?_;refine cr [29] 1 DS (Eo+i*3) aB ?_;refine eg [29] 1 DS (Eo+i*3+1) (.int .i64 k) aB (fun I w hd hh=>dL DS (Eo+i*3) I w hd hh 1 _ rfl) ?_;refine aS [29] 42 (k != k) (by simp) ?_;refine cA [42] 3 xX yi an ac .i64 i z hz aB (by omega) ?_;refine cr [42] 2 xX (yi+i*3) aB ?_;refine eg [42] 1 xX (yi+i*3+2) (.slice pa pn pc) aB (fun I w hd hh=>dL xX (yi+i*3) I w hd hh 2 _ rfl) ?_;refine cA [42] 3 DS Eo bn bc .i64 i z hz aB (by omega) ?_;refine cr [42] 2 DS (Eo+i*3) aB ?_;refine eg [42] 1 DS (Eo+i*3+2) (.slice qa qn qc) aB (fun I w hd hh=>dL DS (Eo+i*3) I w hd hh 2 _ rfl) ?_;refine aS [42] 56 ((pn:Int) != (qn:Int)) (by rw[hp,hq];simp) ?_;refine jZ [56] [4,6] (fun a:Tq=>[(4,.bool false),(6,.int .i64 a.z)]) (fun _=>[]) (fun _=>[]) (fun _=>[LF oR qO.x ⟨some ⟨xX,yi,none⟩,an,ac⟩ l,LF oR qO.x ⟨some ⟨DS,Eo,none⟩,bn,bc⟩ l,zA ⟨pa,pn,pc⟩ p,zA ⟨qa,qn,qc⟩ p,RA (some ⟨xX,yi+i*3,none⟩) [.int .i64 A,.int .i64 k,.slice pa pn pc],RA (some ⟨DS,Eo+i*3,none⟩) [.int .i64 A,.int .i64 k,.slice qa qn qc]]) (fun a=>a.z=a.i∧a.i≤pn) (fun a=>pn-a.i) ⟨0,0,.bool true,[]⟩ ⟨rfl,aM _⟩ (eC eK (eC eK (eC eK (eC eK (eC eK (eC eK eE)))))) ?_
  rintro⟨j,zj,v2,O2⟩ K2 ⟨Yu,hj⟩ g8;simp only at Yu hj;by_cases hlj:zj<(pn:Int)
  ·obtain⟨d,hd⟩:∃d,p[j]? =some d:=⟨_,ar (by omega)⟩;obtain⟨pb,po,Z9⟩:=hp4 (by rintro rfl;simp at hd);obtain⟨qb,qo,QY⟩:=hq4 (by rintro rfl;simp at hd);subst Z9 QY;refine W.more (Δ:=[RA (some ⟨pb,po,none⟩) (p.flatMap d_),RA (some ⟨qb,qo,none⟩) (p.flatMap d_)]) rfl (fun I w _ hh=>aG.cons (aY.p (k:=zA ⟨some ⟨pb,po,none⟩,pn,pc⟩) (a:=p) inferInstance hh).2.2 (aU (aY.p (k:=zA ⟨some ⟨qb,qo,none⟩,qn,qc⟩) (a:=p) inferInstance hh).2.2)) ?_;refine cA [] 3 xX yi an ac .i64 i z hz aB (by omega) ?_;refine cr [] 2 xX (yi+i*3) aB ?_;refine eg [] 1 xX (yi+i*3+2) (.slice (some ⟨pb,po,none⟩) pn pc) aB (fun I w hd hh=>dL xX (yi+i*3) I w hd hh 2 _ rfl) ?_;refine bD [] 64 (decide (zj<(pn:Int))) (aw hlj) ?_;refine cA [64] 3 xX yi an ac .i64 i z hz aB (by omega) ?_;refine cr [] 2 xX (yi+i*3) aB ?_;refine eg [] 1 xX (yi+i*3+2) (.slice (some ⟨pb,po,none⟩) pn pc) aB (fun I w hd hh=>dL xX (yi+i*3) I w hd hh 2 _ rfl) ?_;refine cA [] 2 pb po pn pc .i64 j zj Yu aB (by omega) ?_;refine dd [] pb (po+j*2) (d_ d) aB (eD pb po (j*2) (ek hd)) ?_;refine cA [] 3 DS Eo bn bc .i64 i z hz aB (by omega) ?_;refine cr [] 2 DS (Eo+i*3) aB ?_;refine eg [] 1 DS (Eo+i*3+2) (.slice (some ⟨qb,qo,none⟩) qn qc) aB (fun I w hd hh=>dL DS (Eo+i*3) I w hd hh 2 _ rfl) ?_;refine cA [] 2 qb qo qn qc .i64 j zj Yu aB (by omega) ?_
   refine dd [] qb (qo+j*2) (d_ d) aB (eD qb qo (j*2) (ek hd)) ?_;refine MT [] 58 d d ?_;refine aS [] 83 (!decide (d=d)) (by simp) ?_;exact g8 [83] _ _ ⟨j+1,IntKind.i64.wrap (zj+1),.bool true,[]⟩ (by kernel_rfl) (by kernel_rfl) ⟨by simp only[ah];omega,by simp only;omega⟩ (by simp only;omega) (eC eK (eC eK (eC eK (eC eK (eC eK (eC eK eE))))))
  ·refine cA [] 3 xX yi an ac .i64 i z hz aB (by omega) ?_;refine cr [] 2 xX (yi+i*3) aB ?_;refine eg [] 1 xX (yi+i*3+2) (.slice pa pn pc) aB (fun I w hd hh=>dL xX (yi+i*3) I w hd hh 2 _ rfl) ?_;refine aS [] 64 (decide (zj<(pn:Int))) (ak hlj) ?_;exact close [64] _ _ ⟨i+1,IntKind.i64.wrap (z+1),.bool true,[]⟩ (by kernel_rfl) (by kernel_rfl) ⟨by simp only[ah];omega,by simp only;omega⟩ (by simp only;omega) (eC eK (eC eK eE))
 ·refine aS [] 15 (decide (z<(an:Int))) (ak hl) ?_;exact W.r [15] (.bool true) ⟨rfl,rfl⟩ bU
end
theorem Nc{b:Nat}{l:List Int}{I:fZ}{w:World}(hl:l.length≤1000)(hb:ke l)(h:(dY b (l.map (Value.int .u8))).p I w):(BF ⟨some ⟨b,0,none⟩,l.length,l.length⟩ l).p I w:=
 ⟨rfl,⟨ai _,by simp only;unfold maxLen;omega⟩,hb,RA.of_row h fun _ _ hv=>hv⟩
theorem pW{b:Nat}(es:List nd){I:fZ}{w:World}(hm:es.length≤1000)(h:(dY b (es.flatMap lI.cells)).p I w)(hf:∀e∈es,(mq e.f e.p e.x).p I w):(uC ⟨some ⟨b,0,none⟩,es.length,es.length⟩ (es.map nd.x)).p I w:=
 ⟨es,rfl,(bL ..).symm,⟨ai _,by simp only;unfold maxLen;omega⟩,fun e he=>hf e he,RA.of_row h fun _ _ hv=>hv⟩
theorem wL{b:Nat}(es:List qi){I:fZ}{w:World}(hm:es.length≤1000)(h:(dY b (es.flatMap pH.cells)).p I w)(hf:∀e∈es,(xM e.h e.i e.x).p I w):(pF ⟨some ⟨b,0,none⟩,es.length,es.length⟩ (es.map qi.x)).p I w:=
 ⟨es,rfl,(bL ..).symm,⟨ai _,by simp only;unfold maxLen;omega⟩,fun e he=>hf e he,RA.of_row h fun _ _ hv=>hv⟩
theorem ER{b:Nat}(es:List qO){I:fZ}{w:World}(hm:es.length≤1000)(h:(dY b (es.flatMap oR.cells)).p I w)(hf:∀e∈es,(zA e.s e.x.p).p I w):(LF oR qO.x ⟨some ⟨b,0,none⟩,es.length,es.length⟩ (es.map qO.x)).p I w:=
 ⟨es,rfl,(bL ..).symm,⟨ai _,by simp only;unfold maxLen;omega⟩,fun e he=>hf e he,RA.of_row h fun _ _ hv=>hv⟩
theorem EJ{b:Nat}{l:List Dp}{I:fZ}{w:World}(hl:l.length≤1000)(h:(dY b (l.flatMap d_)).p I w):(zA ⟨some ⟨b,0,none⟩,l.length,l.length⟩ l).p I w:=
 ⟨rfl,⟨ai _,by simp only;unfold maxLen;omega⟩,RA.of_row h fun _ _ hv=>hv⟩
theorem FI{l:List Int}(h:l.all (fun z=>decide (0≤z)&&decide (z<256))=true):ke l:=fun z hz=>by
 have:=List.all_eq_true.1 h z hz;simpa using this
theorem oH:(jo kE).length≤100000:=by decide
theorem mK:zx kE.c≤160:=by decide+kernel
def kR:List Dp:=[⟨0,0⟩,⟨10,0⟩,⟨10,10⟩,⟨0,10⟩]
def ya:List Ce:=[fm mW [cL 1 0 kR],fm j2 [jS]]
section
variable{Γ:List aE}
theorem mQ:au tb Tryz.prog 9 [] Γ (js (.bool true)):=by
 refine au.of_W aB Tryz.func9 rfl ?_;refine cI [] 4 (kR.flatMap d_) aB (fun b1=>?_);refine gF [] (Γ':=[RA (some ⟨b1,0,none⟩) (kR.flatMap d_)]) (fun I w _ hh=>aU (RA.of_row hh.h0' fun _ _ hv=>hv)) (GW 1 0 (some ⟨b1,0,none⟩) 4 4 (ps:=kR) rfl (by decide)) ?_;rintro _ _ ⟨u2,rfl,rfl⟩;refine aj [] (gJ 10 0 ⟨none,0,0⟩) ?_;rintro _ _ ⟨rfl,rfl⟩;refine aj [] (xi mW (by decide)) ?_;rintro _ _ ⟨u4,rfl,rfl⟩;refine aj [] (gJ 18 6 u4) ?_;rintro _ _ ⟨rfl,rfl⟩;refine cI [] 2 [.int .u8 0,.int .u8 0] aB (fun b6=>?_);refine aj [] (gJ 26 1 ⟨some ⟨b6,0,none⟩,2,2⟩) ?_;rintro _ _ ⟨rfl,rfl⟩;refine cI [] 8 [.int .u8 66,.int .u8 90,.int .u8 0,.int .u8 0,.int .u8 0,.int .u8 0,.int .u8 0,.int .u8 0] aB (fun b8=>?_);refine aj [] (gJ 28 5 ⟨some ⟨b8,0,none⟩,8,8⟩) ?_;rintro _ _ ⟨rfl,rfl⟩;refine cI [] 2 [.int .i64 100,.int .i64 0] aB (fun zp=>?_);refine gF [] (Γ':=[NL ⟨some ⟨zp,0,none⟩,2,2⟩ [100,0]]) (fun I w _ hh=>aU (tS (l:=[100,0]) (by decide) hh.h0')) (rn ⟨some ⟨zp,0,none⟩,2,2⟩ (l:=[100,0]) (by decide)) ?_;rintro _ _ ⟨u11,rfl,rfl⟩;refine aj [] (gJ 16 3 u11) ?_;rintro _ _ ⟨rfl,rfl⟩;refine cI [] 5 [.int .u8 10,.int .u8 0,.slice none 0 0,.int .u8 18,.int .u8 6,bz u4,.int .u8 26,.int .u8 1,.slice (some ⟨b6,0,none⟩) 2 2,.int .u8 28,.int .u8 5,.slice (some ⟨b8,0,none⟩) 8 8,.int .u8 16,.int .u8 3,bz u11] aB (fun CA=>?_)
 have Ga:∀{Γ':List aE} [aY (BF u4) (mu mW) Γ'] [aY (dY b6) [.int .u8 0,.int .u8 0] Γ'] [aY (dY b8) [.int .u8 66,.int .u8 90,.int .u8 0,.int .u8 0,.int .u8 0,.int .u8 0,.int .u8 0,.int .u8 0] Γ'] [aY (BF u11) ([100,0].flatMap lB) Γ']
   [aY (dY CA) [.int .u8 10,.int .u8 0,.slice none 0 0,.int .u8 18,.int .u8 6,bz u4,.int .u8 26,.int .u8 1,.slice (some ⟨b6,0,none⟩) 2 2,.int .u8 28,.int .u8 5,.slice (some ⟨b8,0,none⟩) 8 8,.int .u8 16,.int .u8 3,bz u11] Γ'] {I:fZ} {w:World},
   aG Γ' I w→(mq ⟨some ⟨CA,0,none⟩,5,5⟩ ⟨none,0,0⟩ jS).p I w:=fun{Γ'} _ _ _ _ _ {I w} hh=>
  ⟨si [⟨⟨none,0,0⟩,⟨10,0,[]⟩⟩,⟨u4,⟨18,6,mu mW⟩⟩,⟨⟨some ⟨b6,0,none⟩,2,2⟩,⟨26,1,[0,0]⟩⟩,⟨⟨some ⟨b8,0,none⟩,8,8⟩,⟨28,5,[66,90,0,0,0,0,0,0]⟩⟩,⟨u11,⟨16,3,[100,0].flatMap lB⟩⟩] (by simp) (aY.p (k:=dY CA) inferInstance hh) (fun e he=>by
   simp only[aD,aC,bp]at he;rcases he with rfl|rfl|rfl|rfl|rfl
   ·exact g_ (by decide) (by decide) (qD _ _ _)
   ·exact g_ (by decide) (by decide) (aY.p (k:=BF u4) inferInstance hh)
   ·exact g_ (by decide) (by decide) (Nc (l:=[0,0]) (by decide) (FI rfl) (aY.p (k:=dY b6) inferInstance hh))
   ·exact g_ (by decide) (by decide) (Nc (l:=[66,90,0,0,0,0,0,0]) (by decide) (FI rfl) (aY.p (k:=dY b8) inferInstance hh))
   ·exact g_ (by decide) (by decide) (aY.p (k:=BF u11) inferInstance hh)),xD _ _⟩
 refine Rs [] [0,3,8,1,2,4,5,6,7,9] [0,3,8,1,4,2,5,6,7,9] [0,3,8,4,1,2,5,6,7,9] ?_ ?_ ?_
 ·refine cI [] 1 [bz u2,.slice none 0 0] aB (fun xO=>?_);refine gF [] (Γ':=[uC ⟨some ⟨xO,0,none⟩,1,1⟩ [cL 1 0 kR]]) (fun I w _ hh=>aU (pW [⟨u2,⟨none,0,0⟩,cL 1 0 kR⟩] (by simp) (aY.p (k:=dY xO) inferInstance hh) (fun e he=>by
   simp only[aD,aC,bp]at he;subst he;exact aY.p (k:=mq u2 ⟨none,0,0⟩) inferInstance hh))) (lY mW ⟨some ⟨xO,0,none⟩,1,1⟩ (l:=[cL 1 0 kR]) (by decide)) ?_
  rintro _ _ ⟨Jf,rfl,rfl⟩;refine cI [] 1 [.slice (some ⟨CA,0,none⟩) 5 5,.slice none 0 0] aB (fun zB=>?_);refine gF [] (Γ':=[uC ⟨some ⟨zB,0,none⟩,1,1⟩ [jS]]) (fun I w _ hh=>aU (pW [⟨⟨some ⟨CA,0,none⟩,5,5⟩,⟨none,0,0⟩,jS⟩] (by simp) (aY.p (k:=dY zB) inferInstance hh) (fun e he=>by
   simp only[aD,aC,bp]at he;subst he;exact Ga hh))) (lY j2 ⟨some ⟨zB,0,none⟩,1,1⟩ (l:=[jS]) (by decide)) ?_
  rintro _ _ ⟨u32,rfl,rfl⟩;refine cI [] 2 [bz Jf,.slice (some ⟨xO,0,none⟩) 1 1,bz u32,.slice (some ⟨zB,0,none⟩) 1 1] aB (fun DR=>?_);refine gF [] (Γ':=[pF ⟨some ⟨DR,0,none⟩,2,2⟩ ya]) (fun I w _ hh=>aU (wL [⟨Jf,⟨some ⟨xO,0,none⟩,1,1⟩,fm mW [cL 1 0 kR]⟩,⟨u32,⟨some ⟨zB,0,none⟩,1,1⟩,fm j2 [jS]⟩] (by simp) (aY.p (k:=dY DR) inferInstance hh) (fun e he=>by
   simp only[aD,aC,bp]at he;rcases he with rfl|rfl
   ·exact aY.p (k:=xM Jf ⟨some ⟨xO,0,none⟩,1,1⟩) inferInstance hh
   ·exact aY.p (k:=xM u32 ⟨some ⟨zB,0,none⟩,1,1⟩) inferInstance hh))) (xg ⟨some ⟨DR,0,none⟩,2,2⟩ (cs:=ya)) ?_
  rintro _ _ ⟨UU,rfl,rfl⟩;refine aj [] (nA UU ⟨some ⟨DR,0,none⟩,2,2⟩ 1 (t:=kE) oH (fun _=>mK)) ?_;rintro _ _ hp;rw[mL 1 (by decide) (by decide),if_neg (by decide)]at hp;rcases hp with⟨e,he,_⟩|⟨l,s,he,rfl,rfl⟩
  ·simp at he
  injection he with he;subst he;refine aj [] (nA UU ⟨some ⟨DR,0,none⟩,2,2⟩ 0 (t:=kE) oH (fun _=>mK)) ?_;rintro _ _ hp;rw[mL 0 (by decide) (by decide),if_pos (by decide)]at hp;rcases hp with⟨e,he,rfl,rfl⟩|⟨l,s,he,_⟩
  rotate_left
  ·simp at he
  injection he with he;subst he;refine cI [] 4 (kD.flatMap d_) aB (fun K0=>?_);refine cI [] 1 [.int .i64 1,.int .i64 0,.slice (some ⟨K0,0,none⟩) 4 4] aB (fun K5=>?_);obtain⟨sa,sn,sc⟩:=s;refine bD [] 53 ((0:Int)==0) rfl ?_;refine gF [53,54] (Γ':=[LF oR qO.x ⟨some ⟨K5,0,none⟩,1,1⟩ [⟨1,0,kD⟩]]) (fun I w _ hh=>aU (ER [⟨⟨some ⟨K0,0,none⟩,4,4⟩,⟨1,0,kD⟩⟩] (by simp) (aY.p (k:=dY K5) inferInstance hh) (fun e he=>by
   simp only[aD,aC,bp]at he;subst he;exact EJ (l:=kD) (by decide) (aY.p (k:=dY K0) inferInstance hh)))) (xk sa sn sc (some ⟨K5,0,none⟩) 1 1 (l:=[⟨1,0,kD⟩])) ?_
  rintro _ _ ⟨rfl,rfl⟩;exact W.r [54,59] (.bool true) ⟨rfl,rfl⟩ bU
 ·refine cI [] 1 [bz u2,.slice none 0 0] aB (fun xO=>?_);refine cI [] 1 [.slice (some ⟨CA,0,none⟩) 5 5,.slice none 0 0] aB (fun zB=>?_);refine gF [] (Γ':=[uC ⟨some ⟨xO,0,none⟩,1,1⟩ [cL 1 0 kR]]) (fun I w _ hh=>aU (pW [⟨u2,⟨none,0,0⟩,cL 1 0 kR⟩] (by simp) (aY.p (k:=dY xO) inferInstance hh) (fun e he=>by
   simp only[aD,aC,bp]at he;subst he;exact aY.p (k:=mq u2 ⟨none,0,0⟩) inferInstance hh))) (lY mW ⟨some ⟨xO,0,none⟩,1,1⟩ (l:=[cL 1 0 kR]) (by decide)) ?_
  rintro _ _ ⟨Jf,rfl,rfl⟩;refine gF [] (Γ':=[uC ⟨some ⟨zB,0,none⟩,1,1⟩ [jS]]) (fun I w _ hh=>aU (pW [⟨⟨some ⟨CA,0,none⟩,5,5⟩,⟨none,0,0⟩,jS⟩] (by simp) (aY.p (k:=dY zB) inferInstance hh) (fun e he=>by
   simp only[aD,aC,bp]at he;subst he;exact Ga hh))) (lY j2 ⟨some ⟨zB,0,none⟩,1,1⟩ (l:=[jS]) (by decide)) ?_
  rintro _ _ ⟨u32,rfl,rfl⟩;refine cI [] 2 [bz Jf,.slice (some ⟨xO,0,none⟩) 1 1,bz u32,.slice (some ⟨zB,0,none⟩) 1 1] aB (fun DR=>?_);refine gF [] (Γ':=[pF ⟨some ⟨DR,0,none⟩,2,2⟩ ya]) (fun I w _ hh=>aU (wL [⟨Jf,⟨some ⟨xO,0,none⟩,1,1⟩,fm mW [cL 1 0 kR]⟩,⟨u32,⟨some ⟨zB,0,none⟩,1,1⟩,fm j2 [jS]⟩] (by simp) (aY.p (k:=dY DR) inferInstance hh) (fun e he=>by
   simp only[aD,aC,bp]at he;rcases he with rfl|rfl
   ·exact aY.p (k:=xM Jf ⟨some ⟨xO,0,none⟩,1,1⟩) inferInstance hh
   ·exact aY.p (k:=xM u32 ⟨some ⟨zB,0,none⟩,1,1⟩) inferInstance hh))) (xg ⟨some ⟨DR,0,none⟩,2,2⟩ (cs:=ya)) ?_
  rintro _ _ ⟨UU,rfl,rfl⟩;refine aj [] (nA UU ⟨some ⟨DR,0,none⟩,2,2⟩ 1 (t:=kE) oH (fun _=>mK)) ?_;rintro _ _ hp;rw[mL 1 (by decide) (by decide),if_neg (by decide)]at hp;rcases hp with⟨e,he,_⟩|⟨l,s,he,rfl,rfl⟩
  ·simp at he
  injection he with he;subst he;refine aj [] (nA UU ⟨some ⟨DR,0,none⟩,2,2⟩ 0 (t:=kE) oH (fun _=>mK)) ?_;rintro _ _ hp;rw[mL 0 (by decide) (by decide),if_pos (by decide)]at hp;rcases hp with⟨e,he,rfl,rfl⟩|⟨l,s,he,_⟩
  rotate_left
  ·simp at he
  injection he with he;subst he;refine cI [] 4 (kD.flatMap d_) aB (fun K0=>?_);refine cI [] 1 [.int .i64 1,.int .i64 0,.slice (some ⟨K0,0,none⟩) 4 4] aB (fun K5=>?_);obtain⟨sa,sn,sc⟩:=s;refine bD [] 53 ((0:Int)==0) rfl ?_;refine gF [53,54] (Γ':=[LF oR qO.x ⟨some ⟨K5,0,none⟩,1,1⟩ [⟨1,0,kD⟩]]) (fun I w _ hh=>aU (ER [⟨⟨some ⟨K0,0,none⟩,4,4⟩,⟨1,0,kD⟩⟩] (by simp) (aY.p (k:=dY K5) inferInstance hh) (fun e he=>by
   simp only[aD,aC,bp]at he;subst he;exact EJ (l:=kD) (by decide) (aY.p (k:=dY K0) inferInstance hh)))) (xk sa sn sc (some ⟨K5,0,none⟩) 1 1 (l:=[⟨1,0,kD⟩])) ?_
  rintro _ _ ⟨rfl,rfl⟩;exact W.r [54,59] (.bool true) ⟨rfl,rfl⟩ bU
 ·refine cI [] 1 [.slice (some ⟨CA,0,none⟩) 5 5,.slice none 0 0] aB (fun zB=>?_);refine cI [] 1 [bz u2,.slice none 0 0] aB (fun xO=>?_);refine gF [] (Γ':=[uC ⟨some ⟨xO,0,none⟩,1,1⟩ [cL 1 0 kR]]) (fun I w _ hh=>aU (pW [⟨u2,⟨none,0,0⟩,cL 1 0 kR⟩] (by simp) (aY.p (k:=dY xO) inferInstance hh) (fun e he=>by
   simp only[aD,aC,bp]at he;subst he;exact aY.p (k:=mq u2 ⟨none,0,0⟩) inferInstance hh))) (lY mW ⟨some ⟨xO,0,none⟩,1,1⟩ (l:=[cL 1 0 kR]) (by decide)) ?_
  rintro _ _ ⟨Jf,rfl,rfl⟩;refine gF [] (Γ':=[uC ⟨some ⟨zB,0,none⟩,1,1⟩ [jS]]) (fun I w _ hh=>aU (pW [⟨⟨some ⟨CA,0,none⟩,5,5⟩,⟨none,0,0⟩,jS⟩] (by simp) (aY.p (k:=dY zB) inferInstance hh) (fun e he=>by
   simp only[aD,aC,bp]at he;subst he;exact Ga hh))) (lY j2 ⟨some ⟨zB,0,none⟩,1,1⟩ (l:=[jS]) (by decide)) ?_
  rintro _ _ ⟨u32,rfl,rfl⟩;refine cI [] 2 [bz Jf,.slice (some ⟨xO,0,none⟩) 1 1,bz u32,.slice (some ⟨zB,0,none⟩) 1 1] aB (fun DR=>?_);refine gF [] (Γ':=[pF ⟨some ⟨DR,0,none⟩,2,2⟩ ya]) (fun I w _ hh=>aU (wL [⟨Jf,⟨some ⟨xO,0,none⟩,1,1⟩,fm mW [cL 1 0 kR]⟩,⟨u32,⟨some ⟨zB,0,none⟩,1,1⟩,fm j2 [jS]⟩] (by simp) (aY.p (k:=dY DR) inferInstance hh) (fun e he=>by
   simp only[aD,aC,bp]at he;rcases he with rfl|rfl
   ·exact aY.p (k:=xM Jf ⟨some ⟨xO,0,none⟩,1,1⟩) inferInstance hh
   ·exact aY.p (k:=xM u32 ⟨some ⟨zB,0,none⟩,1,1⟩) inferInstance hh))) (xg ⟨some ⟨DR,0,none⟩,2,2⟩ (cs:=ya)) ?_
  rintro _ _ ⟨UU,rfl,rfl⟩;refine aj [] (nA UU ⟨some ⟨DR,0,none⟩,2,2⟩ 1 (t:=kE) oH (fun _=>mK)) ?_;rintro _ _ hp;rw[mL 1 (by decide) (by decide),if_neg (by decide)]at hp;rcases hp with⟨e,he,_⟩|⟨l,s,he,rfl,rfl⟩
  ·simp at he
  injection he with he;subst he;refine aj [] (nA UU ⟨some ⟨DR,0,none⟩,2,2⟩ 0 (t:=kE) oH (fun _=>mK)) ?_;rintro _ _ hp;rw[mL 0 (by decide) (by decide),if_pos (by decide)]at hp;rcases hp with⟨e,he,rfl,rfl⟩|⟨l,s,he,_⟩
  rotate_left
  ·simp at he
  injection he with he;subst he;refine cI [] 4 (kD.flatMap d_) aB (fun K0=>?_);refine cI [] 1 [.int .i64 1,.int .i64 0,.slice (some ⟨K0,0,none⟩) 4 4] aB (fun K5=>?_);obtain⟨sa,sn,sc⟩:=s;refine bD [] 53 ((0:Int)==0) rfl ?_;refine gF [53,54] (Γ':=[LF oR qO.x ⟨some ⟨K5,0,none⟩,1,1⟩ [⟨1,0,kD⟩]]) (fun I w _ hh=>aU (ER [⟨⟨some ⟨K0,0,none⟩,4,4⟩,⟨1,0,kD⟩⟩] (by simp) (aY.p (k:=dY K5) inferInstance hh) (fun e he=>by
   simp only[aD,aC,bp]at he;subst he;exact EJ (l:=kD) (by decide) (aY.p (k:=dY K0) inferInstance hh)))) (xk sa sn sc (some ⟨K5,0,none⟩) 1 1 (l:=[⟨1,0,kD⟩])) ?_
  rintro _ _ ⟨rfl,rfl⟩;exact W.r [54,59] (.bool true) ⟨rfl,rfl⟩ bU
end
section
variable{Γ:List aE}
end
theorem HA(c:Nat)(h:c≤5):IntKind.i64.wrap (1+IntKind.i64.wrap (c:Int))=((c+1:Nat):Int):=by simp only[ah];omega
theorem xL(A B:Int)(hB: -6000≤B∧B≤6000)(hA: -1000≤A∧A≤1000):IntKind.i64.wrap (A+IntKind.i64.wrap B)=A+B:=by simp only[ah];omega
theorem DB(A B C:Int)(hB: -6000≤B∧B≤6000)(hC: -6000≤C∧C≤6000)(hA: -1000≤A∧A≤1000):IntKind.i64.wrap (IntKind.i64.wrap (A+IntKind.i64.wrap B)+IntKind.i64.wrap C)=A+B+C:=by simp only[ah];omega
theorem uX(a:Int):∃A:Int,a.tmod 1000=A∧ -1000≤A∧A≤1000:=⟨_,rfl,by
 have h1:=Int.lt_tmod_of_pos a (show(0:Int)<1000 by decide);have h2:=Int.tmod_lt_of_pos a (show(0:Int)<1000 by decide);omega⟩
theorem Qq(a:Int):∃c0:Nat,c0≤5∧(IntKind.u64.wrap a).tmod 6=(c0:Int):=by
 have h1:0≤IntKind.u64.wrap a:=by rw[IntKind.wrap_u64];omega
 refine⟨((IntKind.u64.wrap a).tmod 6).toNat,?_,?_⟩<;>rw[fK h1]<;>omega
theorem Hs{B:Im}{l:List Im}{a:Nat}(hB:wI B≤8)(h:∀x∈l,wI x≤8):zx (pK B l).c≤16:=by
 refine aP (S4 (g:=fun _=>8) (fun c hc x hx=>?_)) (ai _);simp only[pK,aD,aC,bp]at hc;rcases hc with rfl|rfl
 ·simp only[fm,aD,aC,bp]at hx;subst hx;exact hB
 ·exact h x hx
theorem KI{B:Im}{l:List Im}(hB:(eP B).length≤8)(h:∀x∈l,(eP x).length≤8)(hl:l.length≤1000):(jo (pK B l)).length≤100000:=by
 have h1:(l.flatMap eP).length≤8*l.length:=by
  clear hl
  induction l with
  |nil=>simp
  |cons x l ih=>
   have:=h x (by simp);have:=ih fun y hy=>h y (by simp[hy]);rw[bh,az,aF];omega
 have h2:(jo (pK B l)).length=11+(eP B).length+(l.flatMap eP).length:=by
  show(CC++([fm mW [B],fm j2 l].flatMap gh++[iI 4])).length=_;rw[az,az,bh,bh,iL,af,az];unfold gh;rw[az,az,az,az];show 4+(2+(([B].flatMap eP).length+1)+(2+((l.flatMap eP).length+1))+1)=_;rw[show [B].flatMap eP=eP B by rw[bh,iL,af]];omega
 omega
theorem BM(c r:Nat)(x y dx dy ex ey:Int):(jm c r x y dx dy ex ey).length=r*c:=by
 unfold jm;rw[List.length_flatMap];simp only[bL,dX];rw[ET,dX]
structure AtS where
 k:Nat
 z:Int
 v:Sl
 O:List (Nat×List Value)
 es:List nd
theorem I1{α:Type}(f:Nat→List α)(k:Nat):(List.range (k+1)).flatMap f=(List.range k).flatMap f++f k:=by
 rw[List.range_succ,bA];simp
theorem He{α:Type}(f:Nat→α)(k:Nat):(List.range (k+1)).map f=(List.range k).map f++[f k]:=by
 rw[List.range_succ,aW];rfl
section
variable{H:Type}{enc:TypeId×Value→H}{P:Program}{w:World}
theorem SS{t e ti:TypeId}{f0 f1:Field}{v:Value}{d:DataW H}{ps:List MemPlace}(ht:P.underlying t=some (.slice e))(he:P.underlying e=some (.struct #[f0,f1]))
  (h0:f0.type=ti∧f0.offset=0)(h1:f1.type=ti∧f1.offset=1)(hi:P.underlying ti=some (.int .i64)){ao:Option Addr}{n c:Nat}(hv:v=.slice ao n c)(h:DataW.Trod enc P w 0 (fun _=>true) true t v d ps)(hce:P.cellsOf e=2:=by kernel_rfl)(hci:P.cellsOf ti=1:=by kernel_rfl):
  ∃fH:List Dp,n=fH.length∧(∀p∈fH,(Lit.int .i64 p.x).wf=true∧(Lit.int .i64 p.y).wf=true)∧n≤c∧(RA ao (fH.flatMap d_)).p (fun _=>True) w:=by
 subst hv;obtain⟨fuel,hf⟩:=h;obtain⟨ao',n',c',fH,e1,e2,e3,e4,e5⟩:=Nm ht he hce h0 h1 hi hci hf;simp at e1;obtain⟨rfl,rfl,rfl⟩:=e1;exact⟨fH,e2,e4,e3,e5⟩
end
section
variable{Γ:List aE}
theorem Ew(po:Option Addr)(pn pc:Nat)(ps:List Dp) [h:aY (RA po) (ps.flatMap d_) Γ](hn:pn=ps.length)(hc:pn≤pc)(hw:∀p∈ps,(Lit.int .i64 p.x).wf=true∧(Lit.int .i64 p.y).wf=true)(eH:Int)(w0:(Lit.int .i64 eH).wf=true)(rows:Int)(w1:(Lit.int .i64 rows).wf=true)(x:Int)(w2:(Lit.int .i64 x).wf=true)
  (y:Int)(w3:(Lit.int .i64 y).wf=true)(dx:Int)(w4:(Lit.int .i64 dx).wf=true)(dy:Int)(w5:(Lit.int .i64 dy).wf=true)(ex:Int)(w6:(Lit.int .i64 ex).wf=true)(ey:Int)(w7:(Lit.int .i64 ey).wf=true):
  au tb Tryz.prog 6 [.slice po pn pc,.int .i64 eH,.int .i64 rows,.int .i64 x,.int .i64 y,.int .i64 dx,.int .i64 dy,.int .i64 ex,.int .i64 ey] Γ (js (.bool true)):=by
 refine au.of_W aB Tryz.func6 rfl ?_;by_cases hlo:pn<3
 ·refine bD [] 32 (decide ((pn:Int)<3)) (aw (by omega)) ?_;refine aj [36,32] mQ ?_;rintro _ _ ⟨rfl,rfl⟩;exact W.r [] (.bool true) ⟨rfl,rfl⟩ bU
 refine aS [] 32 (decide ((pn:Int)<3)) (ak (by omega)) ?_;by_cases hhi:12<pn
 ·refine bD [32] 36 (decide ((pn:Int)>12)) (aw (by omega)) ?_;refine aj [36] mQ ?_;rintro _ _ ⟨rfl,rfl⟩;exact W.r [] (.bool true) ⟨rfl,rfl⟩ bU
 refine aS [32] 36 (decide ((pn:Int)>12)) (ak (by omega)) ?_;refine xU [36] [18,19] (fun q:Nat×Int=>[(18,.bool false),(19,.int .i64 q.2)]) (fun _=>[]) (fun _=>[RA po (ps.flatMap d_)]) (fun q=>q.2=(q.1:Int)∧q.1≤ps.length∧∀d∈ps.take q.1,Ca d) (fun q=>ps.length-q.1) (0,0) ⟨rfl,aM _,by simp⟩ (eC eK eE) ?_;rintro⟨i,z⟩ K ⟨hz,hi,hm⟩ close;simp only at hz hi hm;by_cases hlt:i<ps.length
 ·obtain⟨d,hd⟩:∃d,ps[i]? =some d:=⟨_,ar hlt⟩;refine Fh po (xs:=ps.flatMap d_) (fun e=>by
   have:=AF hd 0 _ rfl;rw[e]at this;simp at this) ?_
  rintro b off rfl;refine bD [] 41 (decide (z<(pn:Int))) (aw (by omega)) ?_;refine cA [41] 2 b off pn pc .i64 i z hz aB (by omega) ?_;refine cr [] 0 b (off+i*2) aB ?_;refine eg [] 1 b (off+i*2+0) (.int .i64 d.x) aB (pR b off hd 0 rfl) ?_;by_cases c1:d.x< -1000000
  ·refine bD [] 50 (decide (d.x< -1000000)) (aw c1) ?_;refine aj [73,66,58,50] mQ ?_;rintro _ _ ⟨rfl,rfl⟩;exact W.r [] (.bool true) ⟨rfl,rfl⟩ bU
  refine aS [] 50 (decide (d.x< -1000000)) (ak c1) ?_;refine cA [50] 2 b off pn pc .i64 i z hz aB (by omega) ?_;refine cr [50] 0 b (off+i*2) aB ?_;refine eg [50] 1 b (off+i*2+0) (.int .i64 d.x) aB (pR b off hd 0 rfl) ?_;by_cases c2:d.x>1000000
  ·refine bD [50] 58 (decide (d.x>1000000)) (aw c2) ?_;refine aj [73,66,58] mQ ?_;rintro _ _ ⟨rfl,rfl⟩;exact W.r [] (.bool true) ⟨rfl,rfl⟩ bU
  refine aS [50] 58 (decide (d.x>1000000)) (ak c2) ?_;refine cA [58] 2 b off pn pc .i64 i z hz aB (by omega) ?_;refine cr [58] 1 b (off+i*2) aB ?_;refine eg [58] 1 b (off+i*2+1) (.int .i64 d.y) aB (pR b off hd 1 rfl) ?_;by_cases c3:d.y< -1000000
  ·refine bD [58] 66 (decide (d.y< -1000000)) (aw c3) ?_;refine aj [73,66] mQ ?_;rintro _ _ ⟨rfl,rfl⟩;exact W.r [] (.bool true) ⟨rfl,rfl⟩ bU
  refine aS [58] 66 (decide (d.y< -1000000)) (ak c3) ?_;refine cA [66] 2 b off pn pc .i64 i z hz aB (by omega) ?_;refine cr [66] 1 b (off+i*2) aB ?_;refine eg [66] 1 b (off+i*2+1) (.int .i64 d.y) aB (pR b off hd 1 rfl) ?_;by_cases c4:d.y>1000000
  ·refine bD [66] 73 (decide (d.y>1000000)) (aw c4) ?_;refine aj [73] mQ ?_;rintro _ _ ⟨rfl,rfl⟩;exact W.r [] (.bool true) ⟨rfl,rfl⟩ bU
  refine aS [66] 73 (decide (d.y>1000000)) (ak c4) ?_;refine close [73] _ _ (i+1,IntKind.i64.wrap (z+1)) (by kernel_rfl) (by kernel_rfl) ⟨by simp only[ah];omega,by simp only;omega,?_⟩ (by simp only;omega) (eC eK eE);intro e he;rw[lG hd]at he;rcases List.mem_append.1 he with h1|h1
  ·exact hm e h1
  ·simp only[aD,aC,bp]at h1;subst h1;unfold Ca;omega
 refine aS [] 41 (decide (z<(pn:Int))) (ak (by omega)) ?_;clear close;obtain rfl:i=ps.length:=by omega
 rw[aV (ai _)]at hm;obtain⟨c0,hc0,hC0⟩:=Qq eH;obtain⟨r0,hr0,hR0⟩:=Qq rows;obtain⟨X,hX,bX⟩:=uX x;obtain⟨Y,hY,bY⟩:=uX y;obtain⟨DX,hDX,Y9⟩:=uX dx;obtain⟨DY,hDY,Y_⟩:=uX dy;obtain⟨EX,hEX,Za⟩:=uX ex;obtain⟨EY,hEY,Zb⟩:=uX ey;have hC:=HA c0 hc0;have hR:=HA r0 hr0;have bc:1≤c0+1∧c0+1≤6:=by omega
 have br:1≤r0+1∧r0+1≤6:=by omega
 have bl:3≤ps.length∧ps.length≤12:=by omega
 obtain⟨s,f1,f2,fs⟩:=M6 bc br bX bY Y9 Y_ Za Zb bl hm 3 4;refine mD [41] .u64 (IntKind.u64.wrap eH) 6 (c0:Int) (by decide) hC0 ?_;refine mD [] .u64 (IntKind.u64.wrap rows) 6 (r0:Int) (by decide) hR0 ?_;refine mD [] .i64 x 1000 X (by decide) hX ?_;refine mD [] .i64 y 1000 Y (by decide) hY ?_;refine mD [] .i64 dx 1000 DX (by decide) hDX ?_;refine mD [] .i64 dy 1000 DY (by decide) hDY ?_;refine mD [] .i64 ex 1000 EX (by decide) hEX ?_;refine mD [] .i64 ey 1000 EY (by decide) hEY ?_;refine aj [] (GW 3 4 po pn pc (ps:=ps) hn (by omega)) ?_;rintro _ _ ⟨ub,rfl,rfl⟩;refine cI [] 1 [bz ub,.slice none 0 0] aB (fun sX=>?_);refine gF [] (Γ':=[uC ⟨some ⟨sX,0,none⟩,1,1⟩ [cL 3 4 ps]]) (fun I w _ hh=>aU (pW [⟨ub,⟨none,0,0⟩,cL 3 4 ps⟩] (by simp) (aY.p (k:=dY sX) inferInstance hh) (fun e he=>by
  simp only[aD,aC,bp]at he;subst he;exact aY.p (k:=mq ub ⟨none,0,0⟩) inferInstance hh))) (lY mW ⟨some ⟨sX,0,none⟩,1,1⟩ (l:=[cL 3 4 ps]) (by decide)) ?_
 rintro _ _ ⟨uc,rfl,rfl⟩;refine aj [] (gJ 11 0 ⟨none,0,0⟩) ?_;rintro _ _ ⟨rfl,rfl⟩;refine aj [] (xi mW (by decide)) ?_;rintro _ _ ⟨ut,rfl,rfl⟩;refine aj [] (gJ 18 6 ut) ?_;rintro _ _ ⟨rfl,rfl⟩;refine cI [] 2 [.int .i64 (IntKind.i64.wrap (1+IntKind.i64.wrap (c0:Int))),.int .i64 (IntKind.i64.wrap (1+IntKind.i64.wrap (r0:Int)))] aB (fun b16=>?_);refine gF [] (Γ':=[NL ⟨some ⟨b16,0,none⟩,2,2⟩ [((c0+1:Nat):Int),((r0+1:Nat):Int)]]) (fun I w _ hh=>aU (tS (l:=[((c0+1:Nat):Int),((r0+1:Nat):Int)]) (by simp) (by
  have:=hh.h0';rw[hC,hR]at this;exact this))) (ph ⟨some ⟨b16,0,none⟩,2,2⟩ (l:=[((c0+1:Nat):Int),((r0+1:Nat):Int)]) (by simp)) ?_
 rintro _ _ ⟨us,rfl,rfl⟩;refine aj [] (gJ 19 2 us) ?_;rintro _ _ ⟨rfl,rfl⟩;have m1:=kS (c:=c0+1) (z:=DX) (by omega) Y9;have m2:=kS (c:=c0+1) (z:=DY) (by omega) Y_;have m3:=kS (c:=r0+1) (z:=EX) (by omega) Za;have m4:=kS (c:=r0+1) (z:=EY) (by omega) Zb;refine cI [] 6 [.int .i64 X,.int .i64 Y,.int .i64 (IntKind.i64.wrap (X+IntKind.i64.wrap (IntKind.i64.wrap (1+IntKind.i64.wrap (c0:Int))*DX))),.int .i64 (IntKind.i64.wrap (Y+IntKind.i64.wrap (IntKind.i64.wrap (1+IntKind.i64.wrap (c0:Int))*DY))),
  .int .i64 (IntKind.i64.wrap (X+IntKind.i64.wrap (IntKind.i64.wrap (1+IntKind.i64.wrap (r0:Int))*EX))),.int .i64 (IntKind.i64.wrap (Y+IntKind.i64.wrap (IntKind.i64.wrap (1+IntKind.i64.wrap (r0:Int))*EY)))] aB (fun RE=>?_)
 refine gF [] (Γ':=[NL ⟨some ⟨RE,0,none⟩,6,6⟩ [X,Y,X+((c0+1:Nat):Int)*DX,Y+((c0+1:Nat):Int)*DY,X+((r0+1:Nat):Int)*EX,Y+((r0+1:Nat):Int)*EY]]) (fun I w _ hh=>aU (tS (l:=[X,Y,X+((c0+1:Nat):Int)*DX,Y+((c0+1:Nat):Int)*DY,X+((r0+1:Nat):Int)*EX,Y+((r0+1:Nat):Int)*EY]) (by simp) (by
  have:=hh.h0';rw[hC,hR,xL X _ m1 bX,xL Y _ m2 bY,xL X _ m3 bX,xL Y _ m4 bY]at this;exact this))) (rn ⟨some ⟨RE,0,none⟩,6,6⟩ (l:=[X,Y,X+((c0+1:Nat):Int)*DX,Y+((c0+1:Nat):Int)*DY,X+((r0+1:Nat):Int)*EX,Y+((r0+1:Nat):Int)*EY]) (by simp)) ?_
 rintro _ _ ⟨ul,rfl,rfl⟩;refine aj [] (gJ 16 3 ul) ?_;rintro _ _ ⟨rfl,rfl⟩;refine cI [] 4 [.int .u8 11,.int .u8 0,.slice none 0 0,.int .u8 18,.int .u8 6,bz ut,.int .u8 19,.int .u8 2,bz us,.int .u8 16,.int .u8 3,bz ul] aB (fun Mt=>?_);refine W.code 999 ?_;refine W.more (Δ:=[mq ⟨some ⟨Mt,0,none⟩,4,4⟩ ⟨none,0,0⟩ (lR ((c0+1:Nat):Int) ((r0+1:Nat):Int) X Y DX DY EX EY)]) (by kernel_rfl) (fun I w _ hh=>aU ⟨si [⟨⟨none,0,0⟩,⟨11,0,[]⟩⟩,⟨ut,⟨18,6,mu mW⟩⟩,⟨us,⟨19,2,[((c0+1:Nat):Int),((r0+1:Nat):Int)].flatMap sB⟩⟩,⟨ul,⟨16,3,[X,Y,X+((c0+1:Nat):Int)*DX,Y+((c0+1:Nat):Int)*DY,X+((r0+1:Nat):Int)*EX,Y+((r0+1:Nat):Int)*EY].flatMap lB⟩⟩] (by simp) (aY.p (k:=dY Mt) inferInstance hh) (fun e he=>by
  simp only[aD,aC,bp]at he;rcases he with rfl|rfl|rfl|rfl
  ·exact g_ (by decide) (by decide) (qD _ _ _)
  ·exact g_ (by decide) (by decide) (aY.p (k:=BF ut) inferInstance hh)
  ·exact g_ (by decide) (by decide) (aY.p (k:=BF us) inferInstance hh)
  ·exact g_ (by decide) (by decide) (aY.p (k:=BF ul) inferInstance hh)),xD _ _⟩) ?_
 generalize hA:lR ((c0+1:Nat):Int) ((r0+1:Nat):Int) X Y DX DY EX EY=A at f1⊢;refine kB [] Tryz.f6 1 209 209 [1,2,3,4,5,6,7,8,18,20,21,22,23] [20,21] (fun q:AtS=>[(1,.val (.int .i64 (IntKind.i64.wrap (1+IntKind.i64.wrap (c0:Int))))),(2,.val (.int .i64 (IntKind.i64.wrap (1+IntKind.i64.wrap (r0:Int))))),(3,.val (.int .i64 X)),(4,.val (.int .i64 Y)),(5,.val (.int .i64 DX)),(6,.val (.int .i64 DY)),(7,.val (.int .i64 EX)),(8,.val (.int .i64 EY)),(18,.val (.bool false)),(20,.ptr 20 0),(21,.ptr 21 0),(22,.val (bz q.v)),(23,.val (.int .i64 q.z))])
  (fun _=>[(20,[bz uc,.slice (some ⟨sX,0,none⟩) 1 1]),(21,[.slice (some ⟨Mt,0,none⟩) 4 4,.slice none 0 0])]) (fun q=>q.O) (fun _=>[]) (fun q=>[mq ⟨some ⟨Mt,0,none⟩,4,4⟩ ⟨none,0,0⟩ A,xM uc ⟨some ⟨sX,0,none⟩,1,1⟩ (fm mW [cL 3 4 ps]),rB lI (bz q.v) q.es])
  (fun q=>q.z=(q.k:Int)∧q.k≤r0+1∧cG 2 q.O (bz q.v) q.es.length (q.es.flatMap lI.cells)∧q.es.map nd.x=jm (c0+1) q.k X Y DX DY EX EY) (fun q=>r0+1-q.k) ⟨0,0,⟨none,0,0⟩,[],[]⟩ ⟨rfl,aM _,cG.nil 2,rfl⟩ (eC eK (eC eK (eC (fun I w hd hh e he=>by simp at he) eE))) ?_
 rintro⟨k,z2,v2,O2,es⟩ K2 ⟨hz2,hk2,nP,he2⟩ g8;simp only at hz2 hk2 nP he2;by_cases hlt2:k<r0+1
 ·refine bD [] 138 (decide (z2<IntKind.i64.wrap (1+IntKind.i64.wrap (r0:Int)))) (aw (by omega)) ?_;refine jZ [138] [22,24] (fun q:AtS=>[(22,bz q.v),(24,.int .i64 q.z)]) (fun _=>[]) (fun q=>q.O) (fun q=>[mq ⟨some ⟨Mt,0,none⟩,4,4⟩ ⟨none,0,0⟩ A,xM uc ⟨some ⟨sX,0,none⟩,1,1⟩ (fm mW [cL 3 4 ps]),rB lI (bz q.v) q.es])
   (fun q=>q.z=(q.k:Int)∧q.k≤c0+1∧cG 2 q.O (bz q.v) q.es.length (q.es.flatMap lI.cells)∧q.es.map nd.x=jm (c0+1) k X Y DX DY EX EY++(List.range q.k).map fun i:Nat=>k9 mW (X+i*DX+k*EX) (Y+i*DY+k*EY)) (fun q=>c0+1-q.k) ⟨0,0,v2,O2,es⟩ ⟨rfl,aM _,nP,by simpa using he2⟩ (eC eK (eC eK (eC eK eE))) ?_
  rintro⟨j,z3,v3,O3,jv⟩ K3 ⟨hz3,hj3,x7,ZJ⟩ tx;simp only at hz3 hj3 x7 ZJ;have hes:jv.length≤100000:=by
   have:=dz List.length ZJ;rw[az,BM,bL,bL,dX]at this;have:=aR (show k≤6 by omega) (show c0+1≤6 by omega);omega
  by_cases F7:j<c0+1
  ·have p1:=kS (c:=j) (z:=DX) (by omega) Y9;have p2:=kS (c:=j) (z:=DY) (by omega) Y_;have p3:=kS (c:=k) (z:=EX) (by omega) Za;have p4:=kS (c:=k) (z:=EY) (by omega) Zb;refine bD [] 143 (decide (z3<IntKind.i64.wrap (1+IntKind.i64.wrap (c0:Int)))) (aw (by omega)) ?_;refine aj [143] (SJ mW (IntKind.i64.wrap (IntKind.i64.wrap (X+IntKind.i64.wrap (z3*DX))+IntKind.i64.wrap (z2*EX))) (IntKind.i64.wrap (IntKind.i64.wrap (Y+IntKind.i64.wrap (z3*DY))+IntKind.i64.wrap (z2*EY))) (by decide)) ?_;rintro _ _ ⟨ur,rfl,rfl⟩;refine cI [] 1 [bz ur,.slice none 0 0] aB (fun M9=>?_);refine W.app [] O3 [] O3 [] 2 48 jv.length 1 (bz v3) (.slice (some ⟨M9,0,none⟩) 1 1) (jv.flatMap lI.cells) [bz ur,.slice none 0 0] aB (by simp) x7 (bW M9 _ 1 2 rfl 1) (Jb ur ⟨none,0,0⟩) (by omega) (by decide) (fun v' O' hg'=>?_);obtain⟨v',rfl⟩:=iz hg';refine tx [] _ _ ⟨j+1,IntKind.i64.wrap (z3+1),v',O',jv++[⟨ur,⟨none,0,0⟩,k9 mW (IntKind.i64.wrap (IntKind.i64.wrap (X+IntKind.i64.wrap (z3*DX))+IntKind.i64.wrap (z2*EX))) (IntKind.i64.wrap (IntKind.i64.wrap (Y+IntKind.i64.wrap (z3*DY))+IntKind.i64.wrap (z2*EY)))⟩]⟩ (by kernel_rfl) (by simp only[aA,af];kernel_rfl)
    ⟨by simp only[ah];omega,by simp only;omega,cG.cast (by simp[lI]) (by simp) hg',?_⟩ (by simp only;omega) (eC eK (eC eK (eC (fun I w hd hh=>rB.snoc (R:=lI) (e:=(⟨ur,⟨none,0,0⟩,_⟩:nd)) (eK (k:=rB lI (bz v3)) I w hd hh) (eK (k:=mq ur ⟨none,0,0⟩) I w hd hh)) eE)))
   rw[aW,ZJ,He,aT];simp only[cj,di];rw[hz3,hz2,DB X _ _ p1 p3 bX,DB Y _ _ p2 p4 bY]
  ·refine aS [] 143 (decide (z3<IntKind.i64.wrap (1+IntKind.i64.wrap (c0:Int)))) (ak (by omega)) ?_;obtain rfl:j=c0+1:=by omega
   refine g8 [143] _ _ ⟨k+1,IntKind.i64.wrap (z2+1),v3,O3,jv⟩ (by kernel_rfl) (by kernel_rfl) ⟨by simp only[ah];omega,by simp only;omega,x7,?_⟩ (by simp only;omega) (eC eK (eC eK (eC eK eE)));simp only;rw[ZJ];unfold jm;rw[I1]
 refine aS [] 138 (decide (z2<IntKind.i64.wrap (1+IntKind.i64.wrap (r0:Int)))) (ak (by omega)) ?_;obtain rfl:k=r0+1:=by omega
 clear g8;have hes:es.length≤36:=by
  have:=dz List.length he2;rw[bL,BM]at this;have:=aR (show r0+1≤6 by omega) (show c0+1≤6 by omega);omega
 refine W.code 999 ?_;refine lQ [] O2 [] (s:=v2) (by simp only[aA,af];kernel_rfl) nP (fun g1 g2 g3=>?_);refine W.more (Δ:=[uC v2 (jm (c0+1) (r0+1) X Y DX DY EX EY)]) (by kernel_rfl) (fun I w hd hh=>aU (by
  rw[←he2];exact JW lI nd.x g1 g2 g3 (aY.p (k:=rB lI (bz v2)) inferInstance hh) (aY.p (k:=RA v2.ao) inferInstance hh))) ?_
 refine cI [138] 1 [.slice (some ⟨Mt,0,none⟩) 4 4,.slice none 0 0] aB (fun QS=>?_);refine gF [] (Γ':=[uC ⟨some ⟨QS,0,none⟩,1,1⟩ [A]]) (fun I w _ hh=>aU (pW [⟨⟨some ⟨Mt,0,none⟩,4,4⟩,⟨none,0,0⟩,A⟩] (by simp) (aY.p (k:=dY QS) inferInstance hh) (fun e he=>by
  simp only[aD,aC,bp]at he;subst he;exact aY.p (k:=mq ⟨some ⟨Mt,0,none⟩,4,4⟩ ⟨none,0,0⟩) inferInstance hh))) (lY j2 ⟨some ⟨QS,0,none⟩,1,1⟩ (l:=[A]) (by decide)) ?_
 rintro _ _ ⟨u25,rfl,rfl⟩;refine cI [] 2 [bz uc,.slice (some ⟨sX,0,none⟩) 1 1,bz u25,.slice (some ⟨QS,0,none⟩) 1 1] aB (fun M9=>?_);refine gF [] (Γ':=[pF ⟨some ⟨M9,0,none⟩,2,2⟩ [fm mW [cL 3 4 ps],fm j2 [A]]]) (fun I w _ hh=>aU (wL [⟨uc,⟨some ⟨sX,0,none⟩,1,1⟩,fm mW [cL 3 4 ps]⟩,⟨u25,⟨some ⟨QS,0,none⟩,1,1⟩,fm j2 [A]⟩] (by simp) (aY.p (k:=dY M9) inferInstance hh) (fun e he=>by
  simp only[aD,aC,bp]at he;rcases he with rfl|rfl
  ·exact aY.p (k:=xM uc ⟨some ⟨sX,0,none⟩,1,1⟩) inferInstance hh
  ·exact aY.p (k:=xM u25 ⟨some ⟨QS,0,none⟩,1,1⟩) inferInstance hh))) (xg ⟨some ⟨M9,0,none⟩,2,2⟩ (cs:=[fm mW [cL 3 4 ps],fm j2 [A]])) ?_
 rintro _ _ ⟨u27,rfl,rfl⟩;have hBl:(eP (cL 3 4 ps)).length≤8:=eU rfl;have hBw:wI (cL 3 4 ps)≤8:=eU rfl;refine aj [] (nA u27 ⟨some ⟨M9,0,none⟩,2,2⟩ 36 (t:=pK (cL 3 4 ps) [A]) (KI hBl (fun x hx=>by
  simp only[aD,aC,bp]at hx;subst hx;subst hA;exact eU rfl) (by simp)) (fun _=>aP (Hs (a:=0) hBw (fun x hx=>by
  simp only[aD,aC,bp]at hx;subst hx;subst hA;exact ai _)) (by decide))) ?_
 rintro _ _ hp;rw[f1]at hp;rcases hp with⟨e,he,_⟩|⟨l1,s1,he,rfl,rfl⟩
 ·simp at he
 injection he with he;subst he;refine aj [] (lY j2 v2 (l:=jm (c0+1) (r0+1) X Y DX DY EX EY) (by decide)) ?_;rintro _ _ ⟨Jf,rfl,rfl⟩;refine cI [] 2 [bz uc,.slice (some ⟨sX,0,none⟩) 1 1,bz Jf,bz v2] aB (fun TR=>?_);refine gF [] (Γ':=[pF ⟨some ⟨TR,0,none⟩,2,2⟩ [fm mW [cL 3 4 ps],fm j2 (jm (c0+1) (r0+1) X Y DX DY EX EY)]]) (fun I w _ hh=>aU (wL [⟨uc,⟨some ⟨sX,0,none⟩,1,1⟩,fm mW [cL 3 4 ps]⟩,⟨Jf,v2,fm j2 (jm (c0+1) (r0+1) X Y DX DY EX EY)⟩] (by simp) (aY.p (k:=dY TR) inferInstance hh) (fun e he=>by
  simp only[aD,aC,bp]at he;rcases he with rfl|rfl
  ·exact aY.p (k:=xM uc ⟨some ⟨sX,0,none⟩,1,1⟩) inferInstance hh
  ·exact aY.p (k:=xM Jf v2) inferInstance hh))) (xg ⟨some ⟨TR,0,none⟩,2,2⟩ (cs:=[fm mW [cL 3 4 ps],fm j2 (jm (c0+1) (r0+1) X Y DX DY EX EY)])) ?_
 rintro _ _ ⟨u31,rfl,rfl⟩;refine aj [] (nA u31 ⟨some ⟨TR,0,none⟩,2,2⟩ 36 (t:=pK (cL 3 4 ps) (jm (c0+1) (r0+1) X Y DX DY EX EY)) (KI hBl (fun x hx=>by
  obtain⟨i,k,_,_,rfl⟩:=zX bc br bX bY Y9 Y_ Za Zb hx;exact eU rfl) (by rw[BM];have:=aR (show r0+1≤6 by omega) (show c0+1≤6 by omega);omega)) (fun _=>aP (Hs (a:=0) hBw (fun x hx=>by
  obtain⟨i,k,_,_,rfl⟩:=zX bc br bX bY Y9 Y_ Za Zb hx;exact eU rfl)) (by decide))) ?_
 rintro _ _ hp;rw[f2]at hp;rcases hp with⟨e,he,_⟩|⟨l2,s2,he,rfl,rfl⟩
 ·simp at he
 injection he with he;subst he;obtain⟨a1,n1,c1⟩:=s1;obtain⟨a2,n2,c2⟩:=s2;refine W.code 999 ?_;refine W.len oR qO.x ⟨a1,n1,c1⟩ (by kernel_rfl) (fun hs _ _=>?_);simp only at hs;refine aj [] mQ ?_;rintro _ _ ⟨rfl,rfl⟩;refine bD [188] 192 ((0:Int)==0) rfl ?_;refine bD [192] 196 ((0:Int)==0) rfl ?_;refine bD [196] 204 ((n1:Int)==IntKind.i64.wrap (IntKind.i64.wrap (1+IntKind.i64.wrap (c0:Int))*IntKind.i64.wrap (1+IntKind.i64.wrap (r0:Int)))) (by
  rw[hC,hR,hs,fs,←dp,ly,ah];have:=aR (show r0+1≤6 by omega) (show c0+1≤6 by omega);have:=eA (r0+1) (c0+1);omega) ?_
 refine aj [204] (xk a1 n1 c1 a2 n2 c2 (l:=s)) ?_;rintro _ _ ⟨rfl,rfl⟩;exact W.r [204] (.bool true) ⟨rfl,rfl⟩ bU
end
theorem OG:Tryz.prog.mayEnter=true:=by kernel_rfl
theorem Sa:(false==Tryz.prog.liftsFinal)=true:=by kernel_rfl
theorem Sb:(Tryz.prog.make==some Rows.flatCountsRow.make)=true:=by kernel_rfl
theorem JV:laidOutB Tryz.prog=true:=by kernel_rfl
theorem Sc:mapsRowed Tryz.prog=true:=by kernel_rfl
theorem Wz:ownKnob Tryz.prog.godebug=none:=by kernel_rfl
end Go.Proofs.YtgaaopjagcaojaaGreat
namespace Go.Proofs.YtgaaopjagcaojaaGreat.flatArrays
open Go.ChangeShapes Go.WideShapes Go.ChangeAt Go.RowKit
open Go.ChangeMaps (open_string shut_string)
theorem VP:joinedFacts Tryz.pinned.checked.prog 6 Tryz.f6 Rows.flatArraysSpec Rows.flatArraysRow=true:=by
 unfold joinedFacts;rw[show Tryz.pinned.checked.prog.mayEnter=true from OG,show(Rows.flatArraysRow.lifted==Tryz.pinned.checked.prog.liftsFinal)=true from Sa,show(Tryz.pinned.checked.prog.make==some Rows.flatArraysRow.make)=true from Sb,
  show laidOutB Tryz.pinned.checked.prog=true from JV,show mapsRowed Tryz.pinned.checked.prog=true from Sc]
 kernel_rfl
set_option maxRecDepth 100000 in
theorem lifted(os:Os)(started:os.Started)(H:Type)(enc:TypeId×Value→H):
  ReturnsInHanded {} Tryz.checked os 6 .any (Rows.flatArraysSpec.pre6 enc Tryz.prog Tryz.f6 Rows.flatArraysRow.domain false) (Rows.flatArraysSpec.post enc Tryz.prog Tryz.f6 false true false false):=by
 refine returnsInHanded_of_change (C:=Tryz.checked) Wz started (by kernel_rfl) Tryz.func6
  (ChangeSpec.witness6 (enc:=enc) (C:=Tryz.checked) false ⟨#[],#[.slice none 0 0,.int .i64 0,.int .i64 0,.int .i64 0,.int .i64 0,.int .i64 0,.int .i64 0,.int .i64 0,.int .i64 0],[]⟩ 8 (by kernel_rfl) (by kernel_rfl) (by kernel_rfl) (by kernel_rfl)) ?_
 intro W base args ds gs mG Uo hW agl _;have hval:∀(j:Nat) t v,Tryz.f6.params[j]? =some t→args[j]? =some v→Value.okWide Tryz.prog W .any base t v:=Uo;have hW':=hW;obtain⟨p,q,hA0,hV,rfl,hfz,AS⟩:=hW;have hA:DataW.TrodAll enc Tryz.prog W 0 (fun _=>true) true Tryz.f6.params.toList args.toList ds p:=hA0;have hK:=hA;rw[Tryz.params6]at hA hval hK;obtain⟨v0,vs0,d0,ds0,p0,q0,hargs,rfl,rfl,h0,r0⟩:=trodAll_cons hA;obtain⟨v1,vs1,d1,ds1,p1,q1,rfl,rfl,rfl,h1,r1⟩:=trodAll_cons r0;obtain⟨v2,vs2,d2,ds2,p2,q2,rfl,rfl,rfl,h2,r2⟩:=trodAll_cons r1;obtain⟨v3,vs3,d3,ds3,p3,q3,rfl,rfl,rfl,h3,r3⟩:=trodAll_cons r2;obtain⟨v4,vs4,d4,ds4,p4,q4,rfl,rfl,rfl,h4,r4⟩:=trodAll_cons r3;obtain⟨v5,vs5,d5,ds5,p5,q5,rfl,rfl,rfl,h5,r5⟩:=trodAll_cons r4;obtain⟨v6,vs6,d6,ds6,p6,q6,rfl,rfl,rfl,h6,r6⟩:=trodAll_cons r5;obtain⟨v7,vs7,d7,ds7,p7,q7,rfl,rfl,rfl,h7,r7⟩:=trodAll_cons r6;obtain⟨v8,vs8,d8,ds8,p8,q8,rfl,rfl,rfl,h8,r8⟩:=trodAll_cons r7;obtain⟨rfl,rfl,rfl⟩:=trodAll_nil r8;obtain rfl:args= #[v0,v1,v2,v3,v4,v5,v6,v7,v8]:=by cases args;simp_all
 obtain⟨rfl,rfl⟩:=trodVars_none hV;obtain⟨ao0,n0,c0,hv0⟩:=okWide_slice Tryz.underlying54 (hval 0 54 v0 rfl rfl);obtain⟨a0,e0,w0,q0,g0⟩:=SS Tryz.underlying54 Tryz.underlying58 ⟨rfl,rfl⟩ ⟨rfl,rfl⟩ Tryz.underlying3 hv0 h0;subst hv0;obtain⟨a1,rfl,rfl,rfl,w1⟩:=open_int Tryz.underlying3 (hval 1 3 v1 rfl rfl) h1;obtain⟨a2,rfl,rfl,rfl,w2⟩:=open_int Tryz.underlying3 (hval 2 3 v2 rfl rfl) h2;obtain⟨a3,rfl,rfl,rfl,w3⟩:=open_int Tryz.underlying3 (hval 3 3 v3 rfl rfl) h3;obtain⟨a4,rfl,rfl,rfl,w4⟩:=open_int Tryz.underlying3 (hval 4 3 v4 rfl rfl) h4;obtain⟨a5,rfl,rfl,rfl,w5⟩:=open_int Tryz.underlying3 (hval 5 3 v5 rfl rfl) h5;obtain⟨a6,rfl,rfl,rfl,w6⟩:=open_int Tryz.underlying3 (hval 6 3 v6 rfl rfl) h6;obtain⟨a7,rfl,rfl,rfl,w7⟩:=open_int Tryz.underlying3 (hval 7 3 v7 rfl rfl) h7;obtain⟨a8,rfl,rfl,rfl,w8⟩:=open_int Tryz.underlying3 (hval 8 3 v8 rfl rfl) h8;clear hA0 Uo;simp only[af]at hW' hK;refine(IE (Ew ao0 n0 c0 a0 e0 q0 w0 a1 w1 a2 w2 a3 w3 a4 w4 a5 w5 a6 w6 a7 w7 a8 w8) W (aG.cons g0 (aG.nil _ _))).mono fun e W' ⟨he,hg⟩=>?_;subst he;exact⟨_,rfl,OJ hW' rfl (fun _ _ _=>(trodAll_cons_mk (shut_bool Tryz.underlying4 _) trodAll_mk0)) (fun sp hsp=>vu JV hg (by kernel_rfl) hK (fun x hx=>hW'.lt x (by first|exact hx|simpa using hx)) (fun x hx=>hsp x (by first|exact hx|simpa using hx))) rfl hg⟩
theorem over:Rows.flatArraysRow.holds Tryz.pinned (OpenSpec.ofChange Rows.flatArraysSpec):=
 OpenClaim.holds_of_wide 6 Tryz.f6 rfl rfl rfl rfl rfl rfl rfl ⟨rfl,rfl,rfl,rfl,rfl⟩ rfl rfl rfl rfl rfl (by kernel_rfl) Tryz.func6 VP
  (kt (by kernel_rfl)) (by unfold Func.isWrapper;first|(rw[if_pos (by decide+kernel)];kernel_rfl)|(rw[if_neg (by decide+kernel)];exact⟨rfl,rfl⟩))
  (fun os started H enc _=>lifted os started H enc)
end Go.Proofs.YtgaaopjagcaojaaGreat.flatArrays
namespace Go.Proofs.YtgaaopjagcaojaaGreat
theorem flatArrays_holds:Rows.FlatArraysSaid:=flatArrays.over
end Go.Proofs.YtgaaopjagcaojaaGreat
