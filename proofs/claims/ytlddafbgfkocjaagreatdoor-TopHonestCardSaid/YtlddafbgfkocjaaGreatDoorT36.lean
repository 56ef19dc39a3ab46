/- A part of TopHonest. -/
import Derived.Test.YtlddafbgfkocjaaGreatDoorT23
import Derived.Test.YtlddafbgfkocjaaGreatDoorT25
import Derived.Test.YtlddafbgfkocjaaGreatDoorT31
import Derived.Test.YtlddafbgfkocjaaGreatDoorT32
import Derived.Test.YtlddafbgfkocjaaGreatDoorT33
namespace Go.Proofs.YtlddafbgfkocjaaGreatDoor
open Go.RowKit Go.Proofs.Tryz
set_option linter.all false
set_option maxRecDepth 1000000
set_option maxHeartbeats 400000000
theorem ab1(s:Bs)w(hs:s.length≤1000000):Calls prog 187 #[str s] w fun e w'=>∃q,e=.returned (.tuple #[.agg (iY (oR (gK s).1 q)),al (gK s).2])∧dz w w' (fun _=>True) (fun W=>fV W (aF q) (gK s).1.bh)∧Below w.heap.size w w':=by
 have hM:=Fm.bZ w;go_enter func187,ntmps187;go_wp2_with(first|((with_reducible refine BC ?_);first|(refine qI hM (d:=some 2) ?_;intro g2 w2 hM)|(refine qI hM (d:=some 5) ?_;intro g5 w5 hM))|(refine aP ?_)|(refine bx ?_;intro wN hM)|(go_at_call 108;refine auH hM ?_;intro gR wN hM)|(go_at_call 161;(with_reducible refine gD 99 ?_);refine Cd (c:=99) hM (k:=?_);intro w_c zl Mo Mr DY c1 c2 hM;try simp only[ax]at hM)|(go_at_call 161;(with_reducible refine gD 107 ?_);refine Cd (c:=107) hM (k:=?_);intro w_k Mt Wg Wh Gu k1 k2 hM;try simp only[ax,az]at hM)|(go_at_call 109;(with_reducible refine gD 112 ?_);refine DU (c:=112) hM (k:=?_);intro w_p v_p s_p b_p H_p p1 p2 p3 hM;try simp only[ax,az]at hM)|(go_at_call 109;(with_reducible refine gD 102 ?_);refine DU (c:=102) hM (k:=?_);intro w_f UV Wf Wd Gt f1 f2 f3 hM;try simp only[ax,az]at hM)|(go_at_call 110;(with_reducible refine UD 115 ?_);refine adY (c:=115) hM (k:=?_);intro w_l jd QG QF q_l c_l UI B_l l1 l2 hM;try simp only[ax,az]at hM));replace hM:=hM.iN 49 34;have e0:yL.bh=⟨none,0,0⟩:=rfl;rw[e0]at hM;obtain⟨fz,Gk⟩:=aZ (UV==1);rw[Gk]at hM;have HFZ:=ag Gk;clear Gk;go_loopw [28](fun iv wr=>∃(k:Nat)(q:Sl),k≤jd.length∧iv=al k∧q.n=k∧Hid (∀t∈jd.take k,(eR t).2=0∧(eR t).1.chain=zl)∧Fm (fun _=>True) w none wr [(g5,32,iY ⟨zl,Mt,v_p,fz,q⟩),(gR,247,#[str QG,.bool QF]),(g2,32,iY yL)] [(aF q,49,34,k,(jd.take k).flatMap fun t=>sC (mz (eR t).1)),(.slice q_l jd.length c_l,9,1,jd.length,jd.map str)] [])(fun iv _=>jd.length-(intOf iv).toNat);case atStart=>exact⟨0,⟨none,0,0⟩,aI _,rfl,rfl,ag ae,hM⟩
 case round=>
  obtain⟨k,⟨qp,qn,qc⟩,hk,rfl,hq,HT,hM⟩:=hrel;have hq:k=qn:=hq.symm;subst hq;by_cases h1:k<jd.length
  ·have i1:(k:Int)<(jd.length:Int):=ab;have i3:(0:Int)≤(k:Int):=ab;obtain⟨g,hg⟩:=qL (hM.mem.ij eQ) ab;subst hg;obtain⟨t,ht⟩:=aZ (jd[k]);have pJ:(jd.map str)[k]?=some (str t):=Dd;have Ea:t.length≤200:=by have:=B_l.o t Dc;exact mo
   have Mu:=ag pJ;have Nt:=ag ht;clear pJ ht;go_wp2_with(first|((with_reducible refine ap2 ?_);(refine UE hM Mu.o ?_))|(refine aP ?_)|(refine bx ?_;intro wN hM)|(refine bw ?_;intro gN wN hM)|(go_at_call 224;refine cE2 hM (Vo _) (abY _ _ ab) ?_ ?_<;>(intro wN hn hM)));·refine bu (frr hM) rfl ?_;have hE:gK s=(zm,10):=RX;rw[hE];exact nt
   ·have We:(eR t).1.chain=zl:=by have h5:(!(eR t).1.chain==zl)=false:=aj;exact xj
    have hz:(eR t).2=0:=by rename_i hh _ _ _ _ _;exact hn.o
    refine fu [5,7] (fun W=>Fm _ _ _ W _ _ _) ad hM.drew (fun hS=>?_);replace hM:=hM.drew;refine dR 0 47 hS ?_;refine de 1 (some 48) hS ?_;refine de 2 (some 49) hS ?_;refine bF 3 ad rfl (fun K hK=>?_);go_simp;refine cB hM (Gr _ _) fun wN hM=>?_;refine hK.out _ _ hM.sub (fun hS=>?_);refine bF 4 ad rfl (fun K hK=>?_);rw[if_pos aq];(refine Mi hM ?_;intro gN wN hM);refine hK.out _ _ hM.sub (fun hS=>?_);refine dC 5 ad aq rfl (fun K hK=>?_);rw[if_pos aq];(refine YK hM ?_;intro gN cN wN hM);refine hK.out _ _ (fun W=>Fm _ _ _ W _ _ _) hM (fun hS=>?_);refine dR 6 53 hS ?_;refine dC 7 ad aq rfl (fun K hK=>?_);rw[if_pos aq];(refine Pg hM ?_;intro wN hM);refine hK.out _ _ (fun W=>Fm _ _ _ W _ _ _) hM (fun hS=>?_);refine dB ad ?_;go_wp2_with fail;refine⟨⟨_,_,_,_,_,⟨k+1,ab,rfl,⟨some (aD gN 0),k+1,cN⟩,rfl,ag (PT h1 HT.o (by rw[Nt.o];exact⟨hz,We⟩)),?_⟩,rfl,rfl,rfl,rfl,ae⟩,bC⟩;rw[Ms jd _ k h1,Nt.o];exact lm
   ·refine bu (frr hM) rfl ?_;have hE:gK s=(zm,10):=RX;rw[hE];exact nt
  ·have e1:k=jd.length:=ab;subst e1;have i1:¬(jd.length:Int)<(jd.length:Int):=ab;have ko:∀t∈jd,(eR t).2=0∧(eR t).1.chain=zl:=by have:=HT.o;rwa[ci]at this
   have HA:=ag ko;clear ko;replace hM:=hM.gj 0 aX;simp only[aQ]at hM;rw[ci]at hM;replace hM:=hM.eW (Q:=fun W=>fV W (.slice qp jd.length qc) (jd.map fun t=>mz (eR t).1)) ((hM.st aX).mono fun W h=>by refine di.iz (B:=w.heap.size) (e:=49) (n:=jd.length) ?_ ae;rw[tJ];exact h);go_wp2_with(first|go_skip|(refine aP ?_)|(refine bx ?_;intro wN hM)|(go_at_call 111;refine adA hM ?_ ?_<;>(intro wN HE hM))|(go_at_call 226;refine yj hM (aa0 ⟨zl,Mt,v_p,fz,⟨qp,_,qc⟩⟩ _ _ (hM.get aX) aR) fun wN bN hb hM=>?_;cases bN));·refine bu (frr hM) rfl ?_;have hE:gK s=(zm,10):=RY;rw[hE];exact nt
   ·refine bu (frr hM) rfl ?_;have hE:gK s=(⟨zl,Mt,v_p,fz,jd.map fun t=>mz (eR t).1⟩,0):=by simp only[vA]at*;simp only[gK,DY,Gu,H_p,Gt,UI,HFZ];rw[if_pos];exact⟨HA,aj,aj⟩
    rw[hE];exact⟨⟨qp,_,qc⟩,rfl,hM.Ig aX,hM.below⟩
   ·refine bu (frr hM) rfl ?_;have hE:gK s=(zm,10):=RY;rw[hE];exact nt
def Bx s:(gK s).2=0∨(gK s).2=10:=by simp only[gK];split<;>simp
def YV k p h:(nH k p h).2=0∨(nH k p h).2=1:=by unfold nH;split<;>simp
def ab3(s:Bs):(sS s).2=0∨(sS s).2=10:=by simp only[sS];split<;>simp
def TX(s:Bs):(mj s).2=0∨(mj s).2=10:=by simp only[mj];split<;>simp
def Be(d:Ez)(k:Bs):Bs:=(getD d k).getD []
def dJ(d:Ez)(id:Bs):qi×Int:=gK (Be d (fD 67 id))
def Gv d(id:Bs)(s:Sl)w(hv:co w (aF s) d)(hW:WD d)(hi:id.length≤1000000):Calls prog 136 #[.agg #[aF s],str id] w fun e w'=>∃q,e=.returned (.tuple #[.agg (iY (oR (dJ d id).1 q)),.bool ((dJ d id).2==0)])∧dz w w' (fun W=>co W (aF s) d) (fun W=>fV W (aF q) (dJ d id).1.bh)∧Below w.heap.size w w':=by
 have hM:=Fm.start w (fun W=>co W (aF s) d) (fun W hb=>hv.step hb);have aaz:=hW.val (fD 67 id);have hC:dJ d id=gK ((getD d (fD 67 id)).getD []):=rfl;rw[hC];go_enter func136,ntmps136;go_wp2_with((refine bw ?_;intro gN wN hM));refine rB [] [0,1,2,3,4,5,6,7,8] ?_;intro hM;refine rC ?_;refine cB hM (FN _ _ ab) fun wN hM=>?_;refine aN ?_;refine cB hM (ve _ _ _ _ dp aj) fun wN hM=>?_;refine rK ?_;go_wp2_with(first|(refine aP ?_)|(refine bx ?_;intro wN hM)|(refine bw ?_;intro gN wN hM)|(go_at_call 187;refine cFE hM jh.EL (Bx _) (ab1 _ _ ab) ?_ ?_<;>(intro sN wN hn hM)));all_goals refine ar ?_
 all_goals(rw[hn.o];exact Jl)
def gu(d:Ez)(k:Bs):En×Bool:=((sS (Be d k)).1,(sS (Be d k)).2==0)
def aa1 d(k:Bs)(s:Sl)w(hv:co w (aF s) d)(hW:WD d):dM 252 #[.agg #[aF s],str k] w (.tuple #[.agg #[al (gu d k).1.1,str (gu d k).1.2.1,str (gu d k).1.2.2.1,str (gu d k).1.2.2.2],.bool (gu d k).2]):=by
 have hM:=Fm.start w (fun W=>co W (aF s) d) (fun W hb=>hv.step hb);have aaz:=hW.val k;have hC:gu d k=((sS ((getD d k).getD [])).1,(sS ((getD d k).getD [])).2==0):=rfl;rw[hC];go_enter func252,ntmps252;go_wp2_with(first|(refine aP ?_)|(refine bx ?_;intro wN hM)|(refine bw ?_;intro gN wN hM)|(go_at_call 185;refine cB hM (ve _ _ _ _ dp aj) fun wN hM=>?_)|(go_at_call 299;refine cE2 hM (ab3 _) (ahA _ _ ab) ?_ ?_<;>(intro wN hn hM)));all_goals refine ar ?_
 all_goals(rw[hn.o];exact aK)
def BH d(id:Bs)(s:Sl)w(hv:co w (aF s) d)(hW:WD d)(hi:id.length≤1000000):dM 277 #[.agg #[aF s],str id] w (.tuple #[.agg #[al (gu d (fD 75 id)).1.1,str (gu d (fD 75 id)).1.2.1,str (gu d (fD 75 id)).1.2.2.1,str (gu d (fD 75 id)).1.2.2.2],.bool (gu d (fD 75 id)).2]):=by have hM:=Fm.start w (fun W=>co W (aF s) d) (fun W hb=>hv.step hb);go_enter func277,ntmps277;go_wp2_with((refine bw ?_;intro gN wN hM));refine rB [6] [0,1,2,3,4,5,6,7] ?_;intro hM;refine rC ?_;refine cB hM (Mw _ _ ab) fun wN hM=>?_;refine aN ?_;refine cB hM (aa1 _ _ _ _ (hM.get aX) hW) fun wN hM=>?_;refine bW ?_;intro wN hM;go_wp2_with fail;refine ar ?_;exact aK
def EW d(id:Bs)(s:Sl)w(hv:co w (aF s) d)(hW:WD d)(hi:id.length≤1000000):dM 218 #[.agg #[aF s],str id] w (.tuple #[.agg #[al (gu d (fD 72 id)).1.1,str (gu d (fD 72 id)).1.2.1,str (gu d (fD 72 id)).1.2.2.1,str (gu d (fD 72 id)).1.2.2.2],.bool (gu d (fD 72 id)).2]):=by have hM:=Fm.start w (fun W=>co W (aF s) d) (fun W hb=>hv.step hb);go_enter func218,ntmps218;go_wp2_with((refine bw ?_;intro gN wN hM));refine rB [6] [0,1,2,3,4,5,6,7] ?_;intro hM;refine rC ?_;refine cB hM (Mx _ _ ab) fun wN hM=>?_;refine aN ?_;refine cB hM (aa1 _ _ _ _ (hM.get aX) hW) fun wN hM=>?_;refine bW ?_;intro wN hM;go_wp2_with fail;refine ar ?_;exact aK
def BG(d:Ez)(id:Bs):Int:=if(mj (Be d (fD 78 id))).2=0 then(mj (Be d (fD 78 id))).1 else 1
def aa2 d(id:Bs)(s:Sl)w(hv:co w (aF s) d)(hW:WD d)(hi:id.length≤1000000):dM 282 #[.agg #[aF s],str id] w (al (BG d id)):=by
 have hM:=Fm.start w (fun W=>co W (aF s) d) (fun W hb=>hv.step hb);have aaz:=hW.val (fD 78 id);obtain⟨v,hvv⟩:=aZ ((getD d (fD 78 id)).getD []);have hC:BG d id=if(mj v).2=0 then(mj v).1 else 1:=by rw[←hvv];rfl
 rw[hC];rw[hvv]at aaz;have HC:=ag hC;obtain⟨r,hr⟩:=aZ ((if(mj v).2=0 then(mj v).1 else 1));rw[hr];have HR:=ag hr;have HV:=ag hvv;clear hC hr hvv;go_enter func282,ntmps282;go_wp2_with((refine bw ?_;intro gN wN hM));refine rB [] [0,1,2,3,4,5,6,7,8] ?_;intro hM;refine rC ?_;refine cB hM (Wi _ _ ab) fun wN hM=>?_;refine aN ?_;refine cB hM (ve _ _ _ _ dp aj) fun wN hM=>?_;refine rK ?_;rw[HV.o]at*;go_wp2_with((go_at_call 313;refine cE2 hM (TX _) (TW _ _ ab) ?_ ?_<;>(intro wN hn hM)));all_goals go_ret
 exact⟨by rw[←HR.o,if_pos hn.o];rfl,hM.below⟩;exact⟨by rw[←HR.o,if_neg (by rw[hn.o];decide)];rfl,hM.below⟩
abbrev lk(w:World)(J:MF)(r:Ez×ls)(e:Ending)(w':World):Prop:=∃s':Sl,e=.returned (.tuple #[.agg #[aF s'],.agg (sn r.2)])∧dz w w' J (fun W=>co W (aF s') r.1)∧Below w.heap.size w w'
instance(x:Led):Piece (mt x) 0 #[aF x.d]:=⟨ad⟩
def bY(d:Ez)(e:Int):Ez×ls:=(d,{ic with err:=e})
def jj d s h t e w(hv:co w (aF s) d):Calls prog 217 #[.agg (mt ⟨s,h,t⟩),al e] w (lk w (fun W=>co W (aF s) d) (bY d e)):=by have hM:=Fm.start w (fun W=>co W (aF s) d) (fun W hb=>hv.step hb);go_enter func217,ntmps217;go_wp2_with(first|(refine aP ?_)|(refine bx ?_;intro wN hM)|(refine bw ?_;intro gN wN hM));refine ar ?_;exact⟨s,rfl,dz.same _ _ _,hM.below⟩
def vw(d d':Ez)(e:Int)(r:ls):Ez×ls:=if e=0 then(d',r)else bY d e
def BI d d'(s s':Sl)h t e r w(hv:co w (aF s) d)(hv':co w (aF s') d'):Calls prog 270 #[.agg (mt ⟨s,h,t⟩),.agg #[aF s'],al e,.agg (sn r)] w (lk w (fun W=>co W (aF s) d∧co W (aF s') d') (vw d d' e r)):=by
 have hM:=Fm.pH w (fun W hb=>hv.step hb) (fun W hb=>hv'.step hb);by_cases he:e=0
 ·subst he;have hT:vw d d' 0 r=(d',r):=rfl;rw[hT];go_enter func270,ntmps270;go_wp2_with((refine bw ?_;intro gN wN hM));refine rB [2,3] [0,999] ?_;intro hM;intro hS;refine vf 1 2 ad rfl rfl aq (fun K hK=>?_) (fun K hK=>?_);rotate_left 1;focus refine rHS [1,3] ?_;intro wN hM;refine rS ?_;intro wN hM
  rotate_left 1;focus refine YG [2,3] ?_;refine rS ?_;intro wN hM;refine rS ?_;intro wN hM
  all_goals go_wp2_with fail
  all_goals refine ar ?_
  all_goals exact⟨s',rfl,hM.Ig eQ,hM.below⟩
 have hT:vw d d' e r=bY d e:=if_neg he;rw[hT];have e2:(e !=0)=true:=oz;have e3:(e==0)=false:=oz;go_enter func270,ntmps270;go_wp2_with(first|(refine aP ?_)|(refine bx ?_;intro wN hM)|(refine bw ?_;intro gN wN hM)|(refine De ?_;intro sN wN hM));refine ar ?_;exact aH
def vz(d:Ez)(k v:Bs):Ez×ls:=vw d (jM d k v) (nD d k v) ic
def Mv d s h t(k v:Bs)w(hv:co w (aF s) d)(hW:WD d):Calls prog 274 #[.agg (mt ⟨s,h,t⟩),str k,str v] w (lk w (fun W=>co W (aF s) d) (vz d k v)):=by have hM:=Fm.start w (fun W=>co W (aF s) d) (fun W hb=>hv.step hb);go_enter func274,ntmps274;go_wp2_with(first|(refine aP ?_)|(refine bx ?_;intro wN hM)|(refine bw ?_;intro gN wN hM)|(go_at_call 107;refine cF hM jh.EL (KG _ _ _ _ _ dp aj) fun sN wN hM=>?_)|(refine Jm ?_;intro sN wN hM));refine ar ?_;exact aH
section
def Wa(b:Bool):Int:=if b=true then 1 else 0
def pW(c:Bs)(L:List jL):List Bs:=L.map fun s=>qV (mW c s)
def vh(C:qi):Bs:=bA 99 C.chain++(bA 107 C.key++(dN 112 C.period.toNat++(dN 102 (Wa C.frozen).toNat++qf 115 (pW C.chain C.bh))))
theorem Yf h:(qV h).length≤h.chain.length+64:=by unfold qV;have h1:=dW 104 h.ay.toNat;have h2:=dW 116 h.time.toNat;simp only[aw,cw,h.root.2];omega
def ry c B:∀(l:List Bs),(∀x∈l,x.length≤B)→(lj c l).length≤l.length*(B+4)|[],_=>by simp[lj]|x::l,h=>by have h1:=h x ae;have h2:=ry c B l (fun y hy=>h y (by simp[hy]));simp only[lj,aw,cw,bG];rw[vV];omega
def ahy c L(hc:c.length≤1000)(hL:L.length≤1000):(lj 115 (pW c L)).length≤1100000:=by
 have h:=ry 115 1064 (pW c L) (by intro x hx;obtain⟨s,_,rfl⟩:=eu.1 hx;have:=Yf (mW c s);have e:(mW c s).chain=c:=rfl;rw[e]at this;omega);have e:(pW c L).length=L.length:=by simp[pW]
 rw[e]at h;have:L.length*1068≤1000*1068:=mO _ hL;omega
attribute[local go_sem]aF in def zqE {G:Prop}(h:G:=by
 obtain⟨k,q,hk,rfl,rfl,hM⟩:=hrel;by_cases k1:k<L.length;have i1:(k:Int)<(L.length:Int):=ab;have i3:(0:Int)≤(k:Int):=ab;obtain⟨g',o,hp⟩:=HP.o ab;subst hp;replace hM:=hM.eW ((hM.st aX).mono fun W h=>fV.at_ h k1);have hx4:=HB.o _ (bH k1);have k2:k<D.length:=ab;have hDx:D[k]=qV (mW ch L[k]):=by simp only[←HD.o,pW,iG]
 obtain⟨x,hx⟩:=aZ (L[k]);rw[hx]at hM hx4 hDx;have HDX:=ag hDx;clear hx hDx;go_wp2_with(first|(refine aP ?_)|(refine bx ?_;intro wN hM)|(refine bw ?_;intro gN wN hM)|(refine vg ?_;intro gN cN wN hM;try simp only[]at hM)|(go_at_call 258;refine xn ?_;intro wN hM)|(refine RV ?_;intro wN hM));have iq:(D.take (k+1)).map str=(D.take k).map str++[str (qV (mW ch x))]:=by rw[aS k2,cR,HDX.o];rfl
 refine⟨⟨k+1,⟨_,k+1,_⟩,ab,ae,rfl,?_⟩,bC⟩;rw[iq];exact lm;have e1:k=L.length:=ab;subst e1;have i1:¬(L.length:Int)<(L.length:Int):=ab;have ko:(D.take L.length).map str=D.map str:=by rw[aL ab]
 rw[ko]at hM;go_wp2_with fail;refine rB [] [0,1,3,4,7,8,11,14,2,5,6,9,10,12,13,15,16,17] ?_;intro hM;refine rC ?_;refine cN hM (B:=1100) dE (dP _ _ _ ah ah ab) fun X wN HX lX hM=>?_;refine aN ?_;refine cN hM (B:=1100) dE (dP _ _ _ ah ah ab) fun Y wN HY lY hM=>?_;have q1:¬9223372036854775807<X.length+Y.length:=ab;refine aN ?_;refine cN hM (B:=1100) (aC (dW _ _) ah) (jc _ _ _ ah ah ab) fun Z wN HZ lZ hM=>?_;have q2:¬9223372036854775807<X.length+Y.length+Z.length:=ab;refine aN ?_;refine cN hM (B:=1100) (aC (dW _ _) ah) (jc _ _ _ ah ah ab) fun U wN HU lU hM=>?_;have q3:¬9223372036854775807<X.length+(Y.length+Z.length)+U.length:=ab;refine aN ?_;refine cN hM (B:=1200000) (by show(bA 115 (lj 115 D)).length≤_;exact dE) (zQ 115 _ D _ (iS.reads (B:=w.heap.size) RU) ah ah ab) fun V wN HV lV hM=>?_;have q4:¬9223372036854775807<X.length+(Y.length+(Z.length+U.length))+V.length:=ab;refine ll ?_;exact RW):G:=h
attribute[local go_sem]aF in theorem YU C L w(hv:fV w (aF C.bh) L)(hl:L.length≤1000)(h1:C.chain.length≤1000)(h2:C.key.length≤1000)(h3:C.period≤1099511627776)(h4:∀s∈L,s.ay≤1099511627776∧s.time≤1099511627776):dM 275 #[.agg (iY C)] w (str (vh ⟨C.chain,C.key,C.period,C.frozen,L⟩)):=by
 obtain⟨ch,key,oF,fr,⟨p,n,c⟩⟩:=C;have hn:=hv.nn;simp only[]at hn h1 h2 h3;subst hn;have hM:=Fm.start w (fun W=>fV W (.slice p L.length c) L) (fun W hb=>hv.step hb);have aqz:=ahy ch L h1 hl;have hB:vh ⟨ch,key,oF,fr,L⟩=bA 99 ch++(bA 107 key++(dN 112 oF.toNat++(dN 102 (Wa fr).toNat++qf 115 (pW ch L)))):=rfl;rw[hB];obtain⟨f,hf⟩:=aZ (Wa fr);rw[hf];have hp:0<L.length→∃g o,p=some (aD g o):=hv.some_;have HP:=ag hp;have HB:=ag h4;have HF:=ag hf;obtain⟨D,hD⟩:=aZ (pW ch L);rw[hD]at aqz⊢;have HD:=ag hD;have Ns:D.length=L.length:=by rw[←hD];simp[pW]
 clear hv hB hf hp h4 hD;rcases fr with _|_
 ·have hf0:f=0:=by rw[←HF.o];rfl
  subst hf0;go_enter func275,ntmps275;go_wp2_with(first|((refine db ?_);(refine xp ?_;intro g1 w1 hM))|(refine aP ?_));replace hM:=hM.iN 9 1;go_loopw [12,4](fun iv lv wr=>∃(k:Nat)(q:Sl),k≤L.length∧iv=al k∧lv=aF q∧Fm (fun W=>fV W (.slice p L.length c) L) w none wr [(g1,32,iY ⟨ch,key,oF,false,⟨p,L.length,c⟩⟩)] [(aF q,9,1,k,(D.take k).map str)] [fun W=>fV W (.slice p L.length c) L])(fun iv _ _=>L.length-(intOf iv).toNat);case atStart=>exact⟨0,eV,aI _,rfl,rfl,hM⟩
  case round=>exact zqE
 ·have hf0:f=1:=by rw[←HF.o];rfl
  subst hf0;go_enter func275,ntmps275;go_wp2_with(first|((refine db ?_);(refine xp ?_;intro g1 w1 hM))|(refine aP ?_));replace hM:=hM.iN 9 1;go_loopw [12,4](fun iv lv wr=>∃(k:Nat)(q:Sl),k≤L.length∧iv=al k∧lv=aF q∧Fm (fun W=>fV W (.slice p L.length c) L) w none wr [(g1,32,iY ⟨ch,key,oF,true,⟨p,L.length,c⟩⟩)] [(aF q,9,1,k,(D.take k).map str)] [fun W=>fV W (.slice p L.length c) L])(fun iv _ _=>L.length-(intOf iv).toNat);case atStart=>exact⟨0,eV,aI _,rfl,rfl,hM⟩
  case round=>exact zqE
end
end Go.Proofs.YtlddafbgfkocjaaGreatDoor
