/- A part of TopHonest. -/
import Derived.Test.YtlddafbgfkocjaaGreatDoorT39
namespace Go.Proofs.YtlddafbgfkocjaaGreatDoor
open Go.RowKit Go.Proofs.Tryz
set_option linter.all false
set_option maxRecDepth 1000000
set_option maxHeartbeats 400000000
section
def Ft(L:List jL)(i:Nat)(s:jL):List jL:=(L.take i++s::L.drop i).drop (L.length+1-32)
def ON(L:List jL)(i:Nat):jL:=L[i]?.getD lI
def zk(C:qi)(s:jL):qi:=if UU C.bh s.ay=true then if ON C.bh (AX C.bh s.ay)=s then C else{C with frozen:=true}else if(0<AX C.bh s.ay∧jV (ON C.bh (AX C.bh s.ay-1)) s=false)∨(AX C.bh s.ay<C.bh.length∧jV s (ON C.bh (AX C.bh s.ay))=false)then{C with frozen:=true}else{C with bh:=Ft C.bh (AX C.bh s.ay) s}
def ab2 {w:World}{B e sz n c p xs}(h:w.ownsRow B e sz (.slice p n c) n xs):n≤c:=by rcases h.2 with⟨h1,h2⟩|⟨g,cap,cur,h1,_,_,h4,_⟩;injection h1 with _ _ h3;subst h2;omega;injection h1 with _ _ h3;subst h3;exact h4
def zS {L:List jL}{s i}(hi:i≤L.length):(L.take i++s::L.drop i).length=L.length+1:=aR
def akU {W B g c L s i e}(h:W.ownsRow B e 34 (.slice (some (aD g 0)) (L.length+1) c) (L.length+1) ((L.take i++s::L.drop i).flatMap sC))(hi:i≤L.length)(hl:L.length<32):fV W (.slice (some (aD g 0)) (L.length+1) c) (Ft L i s):=by unfold Ft;rw[show L.length+1-32=0 from ab];exact di.iz h (zS hi).symm
def akV {W B g c L s i e}(h:W.ownsRow B e 34 (.slice (some (aD g 0)) (L.length+1) c) (L.length+1) ((L.take i++s::L.drop i).flatMap sC))(hi:i≤L.length)(hl:L.length=32):fV W (.slice (some (aD g 34)) L.length (c-1)) (Ft L i s):=by unfold Ft;rw[show L.length+1-32=1 from ab];have h2:=(di.cut (di.iz h (zS hi).symm) qE (k:=1) (by rw[zS hi];omega)).2;rw[zS hi]at h2;exact mm
section
variable{I:MF}{fs:List MF}{w0 w:World}{row:Option Nat}{l:List MB}{rs:List MR}{R:Ending→World→Prop}
def agl(hM:Fm I w0 row w l rs fs){v L}(hv:fV w v L)(hl:L.length≤1000000)(k:∀q c w',Fm I w0 row w' l ((.slice q L.length c,49,34,L.length,L.flatMap sC)::rs) fs→R (.returned (.slice q L.length c)) w'):Calls prog 341 #[v] w R:=(Vq w v L hv hl).mono fun e w'⟨v',h1,h2,_,h4⟩=>by
 subst h1;obtain⟨q,c,rfl⟩:∃q c,v'=.slice q L.length c:=by rcases ownsRow_forms h2 with⟨rfl,h⟩|⟨g,c,rfl⟩;exact⟨none,0,by rw[h]⟩;exact ue
 exact k q c w' (hM.ii h4 h2)
def ap3 {q n c0}{L:List jL}(hM:Fm I w0 row w l ((.slice q n c0,49,34,n,L.flatMap sC)::rs) fs){j gx i:Nat}{x}(hn:L.length=n)(hi:i≤n)(hl:n≤100000)(k:∀g c w',Fm I w0 row w' l ((.slice (some (aD g 0)) (n+1) c,49,34,n+1,(L.take i++x::L.drop i).flatMap sC)::rs) fs→R (.returned (.slice (some (aD g 0)) (n+1) c)) w')(hj:l[j]?=some (gx,49,iB x):=by first|exact aX|exact eQ|exact fw|exact rx|exact Bu|exact yF|exact Ct):Calls prog 340 #[.slice q n c0,al i,.slice (some (aD gx 0)) 1 1] w R:=(TV L x i n gx w0.heap.size _ w (hM.mem.ij aX) hn hi (hM.mem.at_ hj) (hM.mem.kR _ (aV ..) _ (aT hj)) hM.mem.grown.size hl).mono fun e w'⟨g,c,h1,h2,h3,h4⟩=>by subst h1;refine k g c w' (hM.yM 0 aX h2 h3 ?_);rcases h4 with h4|h4;exact .inl (by rw[h4];rfl);exact .inr (.inr ⟨g,rfl,h4⟩)
end
theorem sw {L i}h:ON L i=L[i]:=by unfold ON;rw[aW h];rfl
def cpF {G:Prop}(h:G:=by go_wp2_with(first|(refine aP ?_)|(refine bx ?_;intro wN hM));refine bu (frr hM) rfl ?_;exact⟨⟨some (aD g' o),L.length,c⟩,rfl,dz.same _ _ _,hM.below⟩):G:=h
theorem cpI {G:Prop}(h:G:=by
 go_wp2_with fail;refine rB [8] [0,1,3,4,999] ?_;intro hM;intro hS;refine fv 2 5 ad rfl rfl (fun K hK=>?_) (fun K hK=>?_);rotate_left 1;focus rw[if_pos aq];(refine Mi hM ?_;intro gN wN hM);refine hK.out _ _ hM.sub (fun hS=>?_);refine rG [2,6,7,8] ?_;refine rC ?_;refine agl hM RZ ab fun qN cN wN hM=>?_;refine rK ?_;refine rC ?_;refine ap3 hM rfl ab ab fun g5 c5 wN hM=>?_;refine rK ?_;refine rS ?_;intro wN hM
 rotate_left 1;focus go_simp;refine agl hM RZ ab fun qN cN wN hM=>?_;refine hK.out _ _ hM.sub (fun hS=>?_);refine rG [5,6,7,8] ?_;refine rN ?_;intro gN wN hM;refine rC ?_;refine ap3 hM rfl ab ab fun g5 c5 wN hM=>?_;refine rK ?_;refine rS ?_;intro wN hM
 all_goals
  rcases dF L.length 32 with hq|hq
  ·have i20:max ((L.length:Int)+1-32) 0=0:=by omega
   go_wp2_with(first|(refine aP ?_)|(refine bx ?_;intro wN hM));refine bu (frr hM) rfl ?_;refine⟨⟨some (aD g5 0),L.length+1,c5⟩,rfl,?_,hM.below⟩;replace hM:=hM.gj 0 rfl;exact hM.gives ((hM.st aX).mono fun W k=>akU k hle hq)
  ·have i20:max ((L.length:Int)+1-32) 0=1:=by omega
   have hc5:¬c5=1:=by have:=ab2 (hM.mem.ij aX);omega
   go_wp2_with(first|(refine aP ?_)|(refine bx ?_;intro wN hM));refine bu (frr hM) rfl ?_;refine⟨⟨some (aD g5 34),L.length,c5-1⟩,rfl,?_,hM.below⟩;replace hM:=hM.gj 0 rfl;exact hM.gives ((hM.st aX).mono fun W k=>akV k hle ab)):G:=h
attribute[local go_sem]aF in theorem akW X q s w(hv:fV w (aF q) X.bh)(hl:X.bh.length≤32)(h1:1≤X.bh.length):Calls prog 307 #[.agg (iY (oR X q)),.agg (iB s)] w fun e w'=>∃q',e=.returned (.agg (iY (oR (zk X s) q')))∧dz w w' (fun W=>fV W (aF q) X.bh) (fun W=>fV W (aF q') (zk X s).bh)∧Below w.heap.size w w':=by
 obtain⟨Y,hY⟩:=aZ (zk X s);rw[hY];obtain⟨ch,key,oF,fr,L⟩:=X;obtain⟨p,n,c⟩:=q;have hn:=hv.nn;simp only[oR]at hn hv hl h1⊢;subst hn;have qK:=ag (fun w hv=>agk ⟨ch,key,oF,fr,⟨p,L.length,c⟩⟩ L s.ay w hv ab);have hle:=Wc L s.ay;have hM:=Fm.start w (fun W=>fV W (.slice p L.length c) L) (fun W hb=>hv.step hb);obtain⟨g',o,rfl⟩:=hv.some_ ab;obtain⟨B,hB⟩:=aZ (UU L s.ay);have Np:=hB;unfold zk at hY;unfold UU at Np;simp only[hB]at hY;obtain⟨i,hi⟩:=aZ (AX L s.ay);rw[hi,hB]at qK;rw[hi]at hle hY Np;have i3:(0:Int)≤(i:Int):=ab;obtain⟨x,hx⟩:=aZ (ON L i);obtain⟨y,hy⟩:=aZ (ON L (i-1));obtain⟨f1,hf1⟩:=aZ (jV y s);obtain⟨f2,hf2⟩:=aZ (jV s x);rw[hx,hy,hf1,hf2]at hY;have HF1:=ag (fun w=>FM y s w);have HF2:=ag (fun w=>FM s x w);rw[hf1]at HF1;rw[hf2]at HF2;have HY:=ag hY;clear hv hi hf1 hf2 hY hB;rcases B with _|_
 ·clear Np;rcases dZ i with h0|h0
  ·have eo:i<L.length:=ab;replace hM:=hM.eW ((hM.st aX).mono fun W h=>fV.at_ h eo);rw[←sw eo,hx]at hM;have i1:(i:Int)<(L.length:Int):=ab;have i5:¬(0:Int)<(i:Int):=ab;have H0:=ag h0;clear hx hy h0;go_enter func307,ntmps307;go_wp2_with(first|(refine aP ?_)|(refine bw ?_;intro gN wN hM)|(go_at_call 339;refine cB hM (qK.o _ RZ) fun wN hM=>?_));refine rB [] [0,1,2,3,4,5,6,7,8,9,10] ?_;intro hM;go_wp2_with fail;refine rB [] [0,1,2,999,3,4,5,6,7,8,9,10,11,12,13,14,15,16,17,18,19,20,999,21,22,23,24,25,26,27,28,29,30,31,32,33] ?_;intro hM;refine Ki ?_;refine UH (u:=.bool false) ?_ (hy:=by intro _ _;go_simp;exact H0.o);refine rL ?_;refine Ki ?_;refine UH (u:=.bool true) ?_ (hy:=by intro _ _;go_simp;done);refine rL ?_;rcases f2 with _|_;all_goals refine rC ?_;refine cB hM (HF2.o _) fun wN hM=>?_;refine rK ?_
   ·obtain rfl:=HY.o.symm.trans ((if_neg ae).trans (if_pos (.inr ⟨eo,ae⟩)));exact cpF
   ·obtain rfl:=HY.o.symm.trans ((if_neg ae).trans (if_neg (by have:=H0.o;exact aR)));exact cpI
  ·obtain⟨j,hjj⟩:=aZ (i-1);have i8:(i:Int)-1=(j:Int):=ab;have hj:j<L.length:=ab;replace hM:=hM.eW ((hM.st aX).mono fun W h=>fV.at_ (i:=i-1) h ab);rw[←sw ab,hy,hjj]at hM;have i9:IntKind.i64.wrap (j:Int)=(j:Int):=cE;have i11:(j:Int)<(L.length:Int):=ab;have i12:(0:Int)≤(j:Int):=ab;have i5:(0:Int)<(i:Int):=ab;have H0:=ag h0;clear hy h0 hjj;rcases f1 with _|_;·clear hx;go_enter func307,ntmps307;go_wp2_with(first|(refine aP ?_)|(refine bw ?_;intro gN wN hM)|(go_at_call 339;refine cB hM (qK.o _ RZ) fun wN hM=>?_));refine rB [] [0,1,2,3,4,5,6,7,8,9,10] ?_;intro hM;go_wp2_with fail;refine rB [] [0,1,2,999,3,4,5,6,7,8,9,10,11,12,13,14,15,16,17,18,19,20,21,22,23,24,25,26,27,28,29,30,31,32,33] ?_;intro hM;refine Ki (UH (u:=.bool true) ?_ (hy:=by intro _ _;go_simp;exact H0.o));refine rL ?_;refine rC ?_;refine cB hM (HF1.o _) fun wN hM=>?_;refine rK ?_;obtain rfl:=HY.o.symm.trans ((if_neg ae).trans (if_pos (.inl ⟨H0.o,ae⟩)));exact cpF
   ·rcases dF i L.length with eo|eo
    ·replace hM:=hM.eW ((hM.st eQ).mono fun W h=>fV.at_ h eo);rw[←sw eo,hx]at hM;have i1:(i:Int)<(L.length:Int):=ab;clear hx;go_enter func307,ntmps307;go_wp2_with(first|(refine aP ?_)|(refine bw ?_;intro gN wN hM)|(go_at_call 339;refine cB hM (qK.o _ RZ) fun wN hM=>?_));refine rB [] [0,1,2,3,4,5,6,7,8,9,10] ?_;intro hM;go_wp2_with fail;refine rB [] [0,1,2,999,3,4,5,6,7,8,9,10,11,12,13,14,15,16,17,18,19,20,999,21,22,23,24,25,26,27,28,29,30,31,32,33] ?_;intro hM;refine Ki ?_;refine UH (u:=.bool true) ?_ (hy:=by intro _ _;go_simp;exact H0.o);refine rL ?_;refine rC ?_;refine cB hM (HF1.o _) fun wN hM=>?_;refine rK ?_;refine Ki ?_;refine UH (u:=.bool true) ?_ (hy:=by intro _ _;go_simp;done);refine rL ?_;rcases f2 with _|_;all_goals refine rC ?_;refine cB hM (HF2.o _) fun wN hM=>?_;refine rK ?_
     ·obtain rfl:=HY.o.symm.trans ((if_neg ae).trans (if_pos (.inr ⟨eo,ae⟩)));exact cpF
     ·obtain rfl:=HY.o.symm.trans ((if_neg ae).trans (if_neg ae));exact cpI
    ·have HL:=ag eo;clear hx eo;go_enter func307,ntmps307;go_wp2_with(first|(refine aP ?_)|(refine bw ?_;intro gN wN hM)|(go_at_call 339;refine cB hM (qK.o _ RZ) fun wN hM=>?_));refine rB [] [0,1,2,3,4,5,6,7,8,9,10] ?_;intro hM;go_wp2_with fail;refine rB [] [0,1,2,999,3,4,5,6,7,8,9,10,11,12,13,14,15,16,17,18,19,20,999,21,22,23,24,25,26,27,28,29,30,31,32,33] ?_;intro hM;refine Ki ?_;refine UH (u:=.bool true) ?_ (hy:=by intro _ _;go_simp;exact H0.o);refine rL ?_;refine rC ?_;refine cB hM (HF1.o _) fun wN hM=>?_;refine rK ?_;refine Ki ?_;refine UH (u:=.bool false) ?_ (hy:=by intro _ _;go_simp;have:=HL.o;omega);refine rL ?_;obtain rfl:=HY.o.symm.trans ((if_neg ae).trans (if_neg (by have:=HL.o;exact aR)));exact cpI
 ·have eo:i<L.length:=by
   rcases dF i L.length with h2|h2;·exact h2
   ·rw[cU h2]at Np;cases Np
  replace hM:=hM.eW ((hM.st aX).mono fun W h=>fV.at_ h eo);rw[←sw eo,hx]at hM;have i1:(i:Int)<(L.length:Int):=ab;have HE:=fun w=>arv 9997 x s w;clear hx hy Np;by_cases he:x=s;·subst he;rw[eL rfl]at HE;go_enter func307,ntmps307;go_wp2_with(first|(refine aP ?_)|(refine bw ?_;intro gN wN hM)|(go_at_call 339;refine cB hM (qK.o _ RZ) fun wN hM=>?_));refine rB [] [0,1,2,3,4,5,6,7,8,9,10] ?_;intro hM;obtain rfl:=HY.o.symm.trans ((if_pos ae).trans (if_pos ae));exact cpF
  ·rw[cP he]at HE;have HN:=ag he;clear he;go_enter func307,ntmps307;go_wp2_with(first|(refine aP ?_)|(refine bw ?_;intro gN wN hM)|(go_at_call 339;refine cB hM (qK.o _ RZ) fun wN hM=>?_));refine rB [] [0,1,2,3,4,5,6,7,8,9,10] ?_;intro hM;go_wp2_with fail;refine rB [] [0,1,2,3,4,5,6,7,8,9,10,11,12,13,14,15,16,17,18,19,20,21,22,23,24,25,26,27,28,29,30,31,32,33] ?_;intro hM;obtain rfl:=HY.o.symm.trans ((if_pos ae).trans (if_neg (by simpa using HN.o)));exact cpF
end
noncomputable def sR(T:bR)(X:qi)(h:qh)(tC:ez)(now:Int):qi×Int:=if uS X now=true then if lH h=true∧h.chain=X.chain then if uJ T X.key (qV h)=tC then(zk X (mz h),0)else(zm,18)else(zm,1)else(zm,19)
section
variable{T:bR}{X:qi}{h:qh}{tC:ez}{now:Int}
def an6(e:uS X now=false):sR T X h tC now=(zm,19):=by unfold sR;exact if_neg (by simp[e])
def agm(e:uS X now=true)(e1:lH h=false∨h.chain≠X.chain):sR T X h tC now=(zm,1):=by unfold sR;rw[if_pos e];exact if_neg (by rcases e1 with e1|e1<;>simp[e1])
def an7(e:uS X now=true)(e1:lH h=true)(e2:h.chain=X.chain)(e3:uJ T X.key (qV h)≠tC):sR T X h tC now=(zm,18):=by unfold sR;rw[if_pos e,if_pos ⟨e1,e2⟩];exact if_neg e3
def an5(e:uS X now=true)(e1:lH h=true)(e2:h.chain=X.chain)(e3:uJ T X.key (qV h)=tC):sR T X h tC now=(zk X (mz h),0):=by unfold sR;rw[if_pos e,if_pos ⟨e1,e2⟩];exact if_pos e3
end
def aeD {X}(h:jt X=true):1≤X.bh.length:=by unfold jt at h;rw[dO,dU]at h;exact h.1.2.2.2.1
def aeE T X q h tC now w(hI:fV w (aF q) X.bh∧be T w)(it:jt X=true)(hc:h.chain.length≤100000):Calls prog 276 #[.agg (iY (oR X q)),.agg (il h),.agg (da tC),al now] w fun e w'=>∃q',e=.returned (.tuple #[.agg (iY (oR (sR T X h tC now).1 q')),al (sR T X h tC now).2])∧dz w w' (fun W=>fV W (aF q) X.bh∧be T W) (fun W=>fV W (aF q') (sR T X h tC now).1.bh)∧Below w.heap.size w w':=by
 have hM:=Fm.pH w (fun W hb=>hI.1.step hb) (fun W hb=>hI.2.step hb);obtain⟨c1,c2,c3,c4,c5,c6⟩:=vB it;have HO:=ag it;have c0:=aeD it;clear hI c5 it;obtain⟨act,aqA⟩:=aZ (uS X now);have HA:=ag (fun w hv=>QK (oR X q) X.bh now w hv ab c3 c4);rw[show(!(oR X q).frozen&&decide (now<(nS X.bh).time+(oR X q).period))=act from aqA]at HA;have ahz:=ag aqA;clear aqA;go_enter func276,ntmps276;go_wp2_with(first|go_skip|(refine aP ?_)|(refine bx ?_;intro wN hM)|(refine bw ?_;intro gN wN hM)|(go_at_call 306;refine yj hM (HA.o _ (hM.get aX)) fun wN bN hb hM=>?_;cases bN)|(go_at_call 257;refine yj hM (DZ _ _) fun wN bN hb hM=>?_;cases bN));refine ar ?_;rw[an6 (by rw[ahz.o,hb])];exact nt;refine ar ?_;rw[agm (by rw[ahz.o];exact aj) (.inl hb)];exact nt;refine ar ?_;have h9:(!h.chain==X.chain)=true:=aj;rw[agm (by rw[ahz.o];exact aj) (.inr (by simpa using h9))];exact nt
 ·have ha:act=true:=aj;have ad3:lH h=true:=aj;have We:h.chain=X.chain:=by have h9:(!h.chain==X.chain)=false:=aj;simpa using h9
  obtain⟨hh,ht⟩:h.ay≤1099511627776∧h.time≤1099511627776:=by have:=ad3;unfold lH at this;rw[dU]at this;omega
  obtain⟨S,hS⟩:=aZ (uJ T X.key (qV h));have HE:=fun w=>Fu 9998 S tC w;have HS:=ag (fun w HT=>Gm w T X.key h HT ab ab ab ab);rw[hS]at HS;have H2:=ag hS;clear hS;by_cases e:S=tC
  ·rw[eL e]at HE;have H3:=ag e;clear e;refine rB [] [0,1,2,4,3,5,6] ?_;intro hM;refine rC ?_;refine cB hM (HS.o _ (hM.get eQ)) fun wN hM=>?_;refine rK ?_;all_goals go_wp2_with fail
   refine rB [4] [0,1,2,3,4,5] ?_;intro hM;refine rC ?_;refine cB hM (Gr _ _) fun wN hM=>?_;refine aN ?_;refine cF hM (hM.st aX) (akW X q (mz h) _ (hM.get aX) c1 c0) fun sN wN hM=>?_;refine bW ?_;intro wN hM;all_goals go_wp2_with fail
   all_goals refine ar ?_
   all_goals rw[an5 (by rw[ahz.o];exact ha) ad3 We (by rw[H2.o];exact H3.o)]
   all_goals exact Jl
  ·rw[cP e]at HE;have H3:=ag e;clear e;refine rB [] [0,1,2,4,3,5,6] ?_;intro hM;refine rC ?_;refine cB hM (HS.o _ (hM.get eQ)) fun wN hM=>?_;refine rK ?_;all_goals go_wp2_with(first|(refine aP ?_)|(refine bx ?_;intro wN hM))
   refine ar ?_;rw[an7 (by rw[ahz.o];exact ha) ad3 We (by rw[H2.o];exact H3.o)];exact nt
structure jN where
  g : xK
  lo : Ez
  hi : Ez
  P : List ez
  Q : List ez
def jN.I(x:jN)(T:bR):MF:=fun W=>co W (aF x.g.left) x.lo∧co W (aF x.g.right) x.hi∧lP W (aF x.g.a.path) x.P∧lP W (aF x.g.b.path) x.Q∧be T W
structure jN.Ok (x : jN) : Prop where
  many : 0 ≤ x.g.many ∧ x.g.many ≤ 2000
  at_ : 0 ≤ x.g.a.at_ ∧ x.g.a.at_ ≤ 2000
  P : x.P.length ≤ 1000000
  Q : x.Q.length ≤ 1000000
  lo : x.lo.length ≤ 1000000
  hi : x.hi.length ≤ 1000000
  lob : ∀ y ∈ x.lo, y.1.length ≤ 16777215 ∧ y.2.length ≤ 16777215
  hib : ∀ y ∈ x.hi, y.1.length ≤ 16777215 ∧ y.2.length ≤ 16777215
def jN.anm(x:jN)(T:bR)(root:ez)(key:Bs):Bool:=PX T root key x.g.many x.lo x.hi x.g.a.many x.g.a.at_ x.P x.g.b.many x.g.b.at_ x.Q
def alk T root(key:Bs)(x:jN)w(hI:x.I T w)(ho:x.Ok):dM 331 #[.agg (da root),str key,.agg (ir x.g)] w (.bool (x.anm T root key)):=by obtain⟨⟨gm,⟨lp,ln,lc⟩,⟨rp,rn,rc⟩,⟨aa,am,⟨ap,an,ac⟩⟩,⟨ba,bm,⟨bp,bn,bc⟩⟩⟩,lo,hi,P,Q⟩:=x;exact ab7 T root key gm lo hi am aa bm ba P Q lp rp ap bp ln lc rn rc an ac bn bc w hI ho.P ho.Q ho.lo ho.hi ho.lob ho.hib ho.many ho.at_
def zq(T:bR)(d:Ez)(id:Bs)(ay time:Int)(key:Bs)(x:jN):jL×Int:=if(mI d time id ay).2=0∧x.anm T (mI d time id ay).1.root key=false then(lI,18)else mI d time id ay
section
variable{T:bR}{d:Ez}{id key:Bs}{ay time er:Int}{x:jN}{S:jL}
def aoh(h:Hid (mI d time id ay=(S,er)))(h1:(er==0)=true)(h2:x.anm T S.root key=false):zq T d id ay time key x=(lI,18):=by unfold zq;rw[h.o];exact if_pos ⟨fF,h2⟩
def aoi(h:Hid (mI d time id ay=(S,er)))(h2:x.anm T S.root key=true):zq T d id ay time key x=(S,er):=by unfold zq;exact Se
def aoj(h:Hid (mI d time id ay=(S,er)))(h1:(er==0)=false):zq T d id ay time key x=(S,er):=by unfold zq;exact Sb
end
def alm T d(s:Sl)(id:Bs)ay time (key:Bs)x w(hv:co w (aF s) d)(hW:WD d)(hI:x.I T w)(ho:x.Ok)(hi:id.length≤1000000):dM 298 #[.agg #[aF s],str id,al ay,al time,str key,.agg (ir x.g)] w (.tuple #[.agg (iB (zq T d id ay time key x).1),al (zq T d id ay time key x).2]):=by
 have hM:=Fm.pH w (fun W hb=>hv.step hb) (I2:=x.I T) (fun W hb=>⟨hI.1.step hb,hI.2.1.step hb,hI.2.2.1.step hb,hI.2.2.2.1.step hb,hI.2.2.2.2.step hb⟩);clear hv hI;go_enter func298,ntmps298;go_wp2_with(first|go_skip|(refine xT ?_ ?_;intro eF;(try rw[eF]);rotate_left;intro eF;(try rw[eF]);rotate_left)|(refine aP ?_)|(refine bx ?_;intro wN hM)|(refine bw ?_;intro gN wN hM)|(go_at_call 330;refine cSt hM (hM.get aX) hW ab fun S er wN HS hM=>?_)|(go_at_call 331;refine yj hM (alk T _ _ x _ (hM.get eQ) ho) fun wN bN hb hM=>?_;cases bN));all_goals refine ar ?_
 exact⟨by rw[aoh HS eF hb];rfl,hM.below⟩;exact⟨by rw[aoi HS hb];rfl,hM.below⟩;exact⟨by rw[aoj HS eF];rfl,hM.below⟩
def agj {L:List jL}{s i j}(hi:i≤L.length)hj:(L.take i++s::L.drop i)[j]=if h:j<i then L[j]' ab else if h2:j=i then s else L[j-1]' ai:=ai
theorem zj {c L}:lB c L=true↔∀(i)(h),lH (mW c L[i])=true∧(∀h0:0<i,jV (L[i-1]' ab) L[i]=true):=by simp[lB]
def Vn {c L}(h:lB c L=true)k:lB c (L.drop k)=true:=by grind[zj]
def YP {c L s i}(h:lB c L=true)(hi:i≤L.length)(hs:lH (mW c s)=true)(h1:∀h0:0<i,jV (L[i-1]' ab) s=true)(h2:∀hl,jV s L[i]=true):lB c (L.take i++s::L.drop i)=true:=by rw[zj]at h⊢;intro j hj;have hj':=hj;rw[zS hi]at hj';refine⟨?_,fun h0=>?_⟩;grind;rw[agj hi hj,agj hi ab];grind
def YQ {L s i}(hi:i≤L.length)(hl:L.length≤32):1≤(Ft L i s).length∧(Ft L i s).length≤32:=by grind[Ft]
def ahv {C s}(h:jt C=true)(hs:lH (mW C.chain s)=true):jt (zk C s)=true:=by have hf:∀b,jt {C with frozen:=b}=jt C:=fun _=>rfl;unfold zk;split;grind;·split;grind;·rename_i hn;rw[not_or]at hn;have hle:=Wc C.bh s.ay;unfold jt at h⊢;rw[dO,dU]at h⊢;obtain⟨⟨h1,h2,h3,h4,h5⟩,h6⟩:=h;have hlen:=YQ (s:=s) hle h5;refine⟨⟨h1,h2,h3,hlen.1,hlen.2⟩,Vn (YP h6 hle hs (fun h0=>?_) (fun hl=>?_)) _⟩;all_goals grind[sw]
def Wb {T C D h tC t}(hc:jt C=true)(hu:sR T C h tC t=(D,0)):jt D=true∧D=zk C (mz h)∧lH h=true∧h.chain=C.chain:=by
 unfold sR at hu;split at hu
 ·split at hu;·rename_i h1;split at hu;injection hu with hu _;subst hu;refine⟨ahv hc ?_,rfl,h1.1,h1.2⟩;rw[←h1.2];exact h1.1;grind
  grind
 grind
end Go.Proofs.YtlddafbgfkocjaaGreatDoor
