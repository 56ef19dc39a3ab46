/- A part of TopHonest. -/
import Derived.Test.YtlddafbgfkocjaaGreatDoorT36
import Derived.Test.YtlddafbgfkocjaaGreatDoorT38
namespace Go.Proofs.YtlddafbgfkocjaaGreatDoor
open Go.RowKit Go.Proofs.Tryz
set_option linter.all false
set_option maxRecDepth 1000000
set_option maxHeartbeats 400000000
structure Ch where
  g : Nat
  nm : Bs
  key : Bs
  lg : Nat
  mp : Option Addr
  mc : Nat
  ms : List (Sl × Ez)
  hp : Option Addr
  hc : Nat
  hs : List qh
  ep : Option Addr
  ec : Nat
  es : List oM
  wp : Option Addr
  wc : Nat
  ws : List Bs
  dead : Bool
abbrev chC(c:Ch):Array Value:=#[str c.nm,str c.key,aG c.lg,.slice c.mp c.ms.length c.mc,.slice c.hp c.hs.length c.hc,.slice c.ep c.es.length c.ec,.slice c.wp c.ws.length c.wc,.bool c.dead]
def ahj(p:Sl×Ez):List Value:=[aF p.1]
def akL p:(ahj p).length=1:=rfl
def aaV h:(ahk h).length=35:=by have h1:=h.root.2;simp_all[eY]
def PU v:(yJ v).length=15:=aq
structure mQ (c : Ch) (W : World) : Prop where
  pC : aM W c.g 101 (chC c)
  maps : di W (.slice c.mp c.ms.length c.mc) ahj 1 c.ms
  yy : di W (.slice c.hp c.hs.length c.hc) ahk 35 c.hs
  EN : di W (.slice c.ep c.es.length c.ec) yJ 15 c.es
  each : ∀ p ∈ c.ms, co W (aF p.1) p.2
def mQ.step {c w W}(h:mQ c w)(hb:Below w.heap.size w W):mQ c W:=⟨h.pC.step hb,h.maps.step hb,h.yy.step hb,h.EN.step hb,fun p hp=>(h.each p hp).step hb⟩
structure Bc (c : Ch) : Prop where
  many : c.ms.length = c.hs.length + 1
  aU : c.hs.length ≤ 1000000
  wd : ∀ p ∈ c.ms, WD p.2
  key : c.key.length ≤ 64
  nm : c.nm.length ≤ 64
  hds : ∀ h ∈ c.hs, h.chain.length ≤ 64 ∧ h.ay ≤ 1099511627776 ∧ h.time ≤ 1099511627776
def kM(c:Ch):Int:=(c.hs.getLast?.map qh.time).getD 0
def vQ(c:Ch)(h:Int):Sl×Ez:=if 0≤h then(c.ms[h.toNat]?).getD (eV,[])else(eV,[])
def Pe(c:Ch)(h:Int):Bool:=decide (0≤h∧h<c.ms.length)
def XZ {c w}(hI:mQ c w)h:co w (.slice (vQ c h).1.p (vQ c h).1.n (vQ c h).1.c) (vQ c h).2:=by unfold vQ;split;rcases hq:c.ms[h.toNat]? with _|p;exact di.nil w;exact hI.each p (aT hq);exact di.nil w
def Ya {c}(ho:Bc c)h:WD (vQ c h).2:=by unfold vQ;split;rcases hq:c.ms[h.toNat]? with _|p;exact WD.nil;exact ho.wd p (aT hq);simp[WD.nil]
def auJ {c W q}(h:mQ c W)(hq:c.mp=q):aM W c.g 101 #[str c.nm,str c.key,aG c.lg,.slice q c.ms.length c.mc,.slice c.hp c.hs.length c.hc,.slice c.ep c.es.length c.ec,.slice c.wp c.ws.length c.wc,.bool c.dead]:=by subst hq;exact h.pC
def adB {c W q}(h:mQ c W)(hq:c.hp=q):aM W c.g 101 #[str c.nm,str c.key,aG c.lg,.slice c.mp c.ms.length c.mc,.slice q c.hs.length c.hc,.slice c.ep c.es.length c.ec,.slice c.wp c.ws.length c.wc,.bool c.dead]:=by subst hq;exact h.pC
section
variable(c:Ch)(w:World)(hI:mQ c w)
include hI
def akM:dM 122 #[aG c.g] w (.bool true):=by have hM:=Fm.start w (fun W=>aM W c.g 101 (chC c)) (fun W hb=>hI.pC.step hb);go_enter func122,ntmps122;go_wp2_with((refine aP ?_));go_ret;exact aK
def BE:dM 71 #[aG c.g] w (.bool c.dead):=by have hM:=Fm.pH w (I1:=mQ c) (I2:=fun W=>aM W c.g 101 (chC c)) (fun W hb=>hI.step hb) (fun W hb=>hI.pC.step hb);go_enter func71,ntmps71;go_wp2_with(first|(refine aP ?_)|(go_at_call 122;refine cB hM (akM c _ (hM.get aX)) fun wN hM=>?_));go_ret;exact aK
def rD:dM 25 #[aG c.g] w (al c.hs.length):=by have hM:=Fm.start w (fun W=>aM W c.g 101 (chC c)) (fun W hb=>hI.pC.step hb);go_enter func25,ntmps25;go_wp2_with((refine aP ?_));go_ret;exact aK
def Pd h:Calls prog 24 #[.pointer (some ⟨c.g,0,none⟩),.int .i64 h] w fun e w'=>e=.returned (.tuple #[.agg #[.slice (vQ c h).1.p (vQ c h).1.n (vQ c h).1.c],.bool (Pe c h)])∧Below w.heap.size w w':=by
 have hM:=Fm.pH w (I1:=mQ c) (I2:=fun W=>aM W c.g 101 (chC c)) (fun W hb=>hI.step hb) (fun W hb=>hI.pC.step hb);by_cases h0:h<0
 ·have e1:vQ c h=(eV,[]):=by unfold vQ;rw[if_neg ab]
  have e2:Pe c h=false:=by unfold Pe;exact cP ab
  rw[e1,e2];go_enter func24,ntmps24;go_wp2_with(first|(refine aP ?_)|(refine bx ?_;clear hM;intro wN hM)|(refine bw ?_;clear hM;intro gN wN hM));refine ar ?_;exact aK
 ·have i0:¬h<0:=h0;by_cases h1:h<c.ms.length
  ·have i1:¬(c.ms.length:Int)≤h:=ab;obtain⟨k,rfl⟩:∃k:Nat,h=(k:Int):=⟨h.toNat,ab⟩;have hk:k<c.ms.length:=ab;obtain⟨p,hp⟩:=aZ (c.ms[k]);have e1:vQ c (k:Int)=p:=by unfold vQ;rw[if_pos ae,fG,aW hk,hp];rfl
   have e2:Pe c (k:Int)=true:=by unfold Pe;exact eL ab
   rw[e1,e2];obtain⟨g,o,hq⟩:=hI.maps.some_ ab;have hpc:∀W,mQ c W→W.rangeAt g (o+k) (#[.slice p.1.p p.1.n p.1.c]:Array Value).toList:=fun W hW=>by have h2:=hW.maps;rw[hq]at h2;have h3:=di.piece h2 akL hk;rw[hp,pu]at h3;exact h3
   replace hM:=hM.eW ((hM.st aX).mono hpc);replace hM:=hM.eW ((hM.st eQ).mono fun W hW=>(auJ hW hq:aM W c.g 101 #[str c.nm,str c.key,.pointer (some ⟨c.lg,0,none⟩),.slice (some ⟨g,o,none⟩) c.ms.length c.mc,.slice c.hp c.hs.length c.hc,.slice c.ep c.es.length c.ec,.slice c.wp c.ws.length c.wc,.bool c.dead]));clear hpc e1 e2 hq;go_enter func24,ntmps24;go_wp2_with(first|(refine aP ?_)|(refine bx ?_;clear hM;intro wN hM)|(refine bw ?_;clear hM;intro gN wN hM));refine ar ?_;exact aK
  ·have i1:(c.ms.length:Int)≤h:=ab;have e1:vQ c h=(eV,[]):=by unfold vQ;rw[if_pos ab,cU ab];rfl
   have e2:Pe c h=false:=by unfold Pe;exact cP ab
   rw[e1,e2];go_enter func24,ntmps24;go_wp2_with(first|(refine aP ?_)|(refine bx ?_;clear hM;intro wN hM)|(refine bw ?_;clear hM;intro gN wN hM));refine ar ?_;exact aK
end
def pT(c:Ch)(h:Int):qh:=if 1≤h then(c.hs[(h-1).toNat]?).getD ol else ol
def vu(c:Ch)(h:Int):Bool:=decide (1≤h∧h≤c.hs.length)
noncomputable def yz(T:bR)(c:Ch)(h:Int):ez:=if vu c h=true then uJ T c.key (qV (pT c h))else iP
section
variable(c:Ch)(w:World)(hI:mQ c w)(ho:Bc c)
include hI
attribute[local go_sem]aF in include ho in theorem Gl:dM 67 #[aG c.g] w (al (kM c)):=by
 have hM:=Fm.pH w (I1:=mQ c) (I2:=fun W=>aM W c.g 101 (chC c)) (fun W hb=>hI.step hb) (fun W hb=>hI.pC.step hb);have hm:=ho.aU;rcases dZ c.hs.length with h0|h0;have e1:kM c=0:=by unfold kM;rw[cn h0];rfl
 rw[e1];have i1:((c.hs.length:Int)==0)=true:=by simp[h0]
 go_enter func67,ntmps67;go_wp2_with((refine zZ ?_;intro wN hM));go_ret;exact aK;obtain⟨j,hj⟩:=aZ (c.hs.length-1);have h1:j<c.hs.length:=ab;obtain⟨x,hx⟩:=aZ (c.hs[j]);have e1:kM c=x.time:=by unfold kM;rw[mS,hj,aW h1,hx];rfl
 rw[e1];obtain⟨g,o,hq⟩:=hI.yy.some_ h0;replace hM:=hM.eW ((hM.st aX).mono fun W hW=>by have h2:=hW.yy;rw[hq]at h2;have h3:=di.piece h2 aaV h1;rw[hx]at h3;exact(show W.cell? (aD g (o+j*35+2))=some (al x.time)from h3 2 _ rfl));replace hM:=hM.eW ((hM.st eQ).mono fun W hW=>show W.cell? (aD c.g 4)=some (.slice (some (aD g o)) c.hs.length c.hc)from(adB hW hq).cell 4);replace hM:=hM.eW ((hM.st fw).mono fun W hW=>(adB hW hq:aM W c.g 101 #[str c.nm,str c.key,aG c.lg,.slice c.mp c.ms.length c.mc,.slice (some (aD g o)) c.hs.length c.hc,.slice c.ep c.es.length c.ec,.slice c.wp c.ws.length c.wc,.bool c.dead]));have i1:((c.hs.length:Int)==0)=false:=fE.2 ab;have i2:(0:Int)≤(j:Int):=ab;have i3:(j:Int)<c.hs.length:=ab;have i4:IntKind.i64.wrap ((c.hs.length:Int)-1)=(j:Int):=cE;clear e1 hq hx;go_enter func67,ntmps67;go_wp2_with((go_at_call 25;refine cB hM (rD c _ (hM.get rx)) fun wN hM=>?_));refine rB [] [0,1,2,3,4,5,6,7,8,9,10,11,12,13] ?_;intro hM;go_wp2_with fail;go_ret;exact aK
def aev:dM 9 #[aG c.g] w (.agg #[.slice (vQ c c.hs.length).1.p (vQ c c.hs.length).1.n (vQ c c.hs.length).1.c]):=by have hM:=Fm.start w (mQ c) (fun W hb=>hI.step hb);go_enter func9,ntmps9;go_wp2_with(first|(refine aP ?_)|(refine bx ?_;intro wN hM)|(refine bw ?_;intro gN wN hM)|(refine zZ ?_;intro wN hM)|(go_at_call 24;refine cB hM (Pd c _ (hM.get aX) _) fun wN hM=>?_));refine ar ?_;exact aK
attribute[local go_sem]aF in include ho in theorem yl T(HT:be T w)h:dM 11 #[aG c.g,al h] w (.tuple #[.agg (il (pT c h)),.agg (da (yz T c h)),.bool (vu c h)]):=by
 have hM:=Fm.kJ w (I1:=mQ c) (I2:=fun W=>aM W c.g 101 (chC c)) (I3:=be T) (fun W hb=>hI.step hb) (fun W hb=>hI.pC.step hb) (fun W hb=>HT.step hb);have hm:=ho.aU;have hk:=ho.key;by_cases h0:h<1
 ·have e1:pT c h=ol:=by unfold pT;rw[if_neg ab]
  have e2:vu c h=false:=by unfold vu;exact cP ab
  have e3:yz T c h=iP:=by unfold yz;rw[e2];rfl
  rw[e1,e2,e3];clear e1 e2 e3;go_enter func11,ntmps11;go_wp2_with(first|(refine aP ?_)|(refine bx ?_;intro wN hM)|(refine bw ?_;intro gN wN hM));refine bu (frr hM) rfl ?_;exact aK
 ·have i0:¬h<1:=h0;by_cases h1:(c.hs.length:Int)<h
  ·have e1:pT c h=ol:=by unfold pT;rw[if_pos ab,cU ab];rfl
   have e2:vu c h=false:=by unfold vu;exact cP ab
   have e3:yz T c h=iP:=by unfold yz;rw[e2];rfl
   rw[e1,e2,e3];clear e1 e2 e3;go_enter func11,ntmps11;go_wp2_with(first|(refine aP ?_)|(refine bx ?_;intro wN hM)|(refine bw ?_;intro gN wN hM)|(go_at_call 25;refine cB hM (rD c _ (hM.get aX)) fun wN hM=>?_));refine bu (frr hM) rfl ?_;exact aK
  ·obtain⟨k,rfl⟩:∃k:Nat,h=(k:Int)+1:=⟨(h-1).toNat,ab⟩;have lQ:k<c.hs.length:=ab;obtain⟨x,hx⟩:=aZ (c.hs[k]);have e1:pT c ((k:Int)+1)=x:=by unfold pT;rw[if_pos ab,show((k:Int)+1-1).toNat=k from ab,aW lQ,hx];rfl
   have e2:vu c ((k:Int)+1)=true:=by unfold vu;exact eL ab
   have e3:yz T c ((k:Int)+1)=uJ T c.key (qV x):=by unfold yz;rw[e2,if_pos rfl,e1]
   rw[e1,e2,e3];have hb:=ho.hds x (by rw[←hx];exact bH lQ);obtain⟨g,o,hq⟩:=hI.yy.some_ ab;replace hM:=hM.eW ((hM.st aX).mono fun W hW=>by have h2:=hW.yy;rw[hq]at h2;have h3:=di.piece h2 aaV lQ;rw[hx]at h3;exact(show W.rangeAt g (o+k*35) (il x).toList from h3));replace hM:=hM.eW ((hM.st eQ).mono fun W hW=>(adB hW hq:aM W c.g 101 #[str c.nm,str c.key,aG c.lg,.slice c.mp c.ms.length c.mc,.slice (some (aD g o)) c.hs.length c.hc,.slice c.ep c.es.length c.ec,.slice c.wp c.ws.length c.wc,.bool c.dead]));replace hM:=hM.eW ((hM.st fw).mono fun W hW=>show W.cell? (aD c.g 1)=some (str c.key)from hW.pC.cell 1);have i1:¬(c.hs.length:Int)<(k:Int)+1:=h1;have i2:¬((k:Int)+1<1):=ab;have i3:(k:Int)+1-1=k:=ab;have i4:(k:Int)<c.hs.length:=ab;clear e1 e2 e3 hq hx h0 h1 i0;go_enter func11,ntmps11;go_wp2_with(first|(refine aP ?_)|(refine bx ?_;intro wN hM)|(refine bw ?_;intro gN wN hM)|(go_at_call 25;refine cB hM (rD c _ (hM.get rx)) fun wN hM=>?_));refine rB [7,8] [0,1,2,3,4,5,6,7,8,9] ?_;intro hM;refine rC ?_;refine cB hM (Gm _ T _ _ (hM.get yF) ab ab ab ab) fun wN hM=>?_;refine rK ?_;refine rS ?_;intro wN hM;refine rS ?_;intro wN hM;all_goals go_wp2_with fail
   all_goals refine bu (frr hM) rfl ?_
   all_goals exact aK
end
def QL {s}(h:(gK s).2=0):jt (gK s).1=true:=by
 simp only[gK]at h⊢;split at h;·rename_i h1;rw[if_pos h1];exact h1.2.2
 cases h
def vB {c}(h:jt c=true):c.bh.length≤32∧c.key.length≤64∧(0≤c.period∧c.period≤1099511627776)∧(0≤(nS c.bh).time∧(nS c.bh).time≤1099511627776)∧(∀s∈c.bh,s.ay≤1099511627776∧s.time≤1099511627776)∧c.chain.length≤32:=by
 unfold jt at h;rw[dO,dU]at h;obtain⟨⟨h1,h2,h3,h4,h5⟩,h6⟩:=h;unfold lB at h6;rw[dU]at h6;have hb:∀(i:Nat)(hi:i<c.bh.length),0≤c.bh[i].time∧c.bh[i].time≤1099511627776∧c.bh[i].ay≤1099511627776∧c.chain.length≤32:=by intro i hi;have:=(h6 i hi).1;unfold lH at this;rw[dU]at this;obtain⟨a1,a2,a3,a4,a5⟩:=this;have e1:(mW c.chain c.bh[i]).time=c.bh[i].time:=rfl;have e2:(mW c.chain c.bh[i]).ay=c.bh[i].ay:=rfl;have e3:(mW c.chain c.bh[i]).chain=c.chain:=rfl;rw[e1]at a4;rw[e1,e2]at a5;rw[e3]at a2;exact⟨a4,ab,ab,a2⟩
 have hl:nS c.bh=c.bh[c.bh.length-1]:=by unfold nS;rw[List.getLastD_eq_getLast?,mS,aW ab];rfl
 have h7:=hb (c.bh.length-1) ab;refine⟨h5,h1,⟨ab,h3⟩,by rw[hl];exact⟨h7.1,h7.2.1⟩,?_,h7.2.2.2⟩;intro s hs;obtain⟨i,hi,rfl⟩:=iW.1 hs;exact⟨(hb i hi).2.2.1,(hb i hi).2.1⟩
def uS(c:qi)(now:Int):Bool:=!c.frozen&&decide (now<(nS c.bh).time+c.period)
def mI(d:Ez)(time:Int)(id:Bs)(ay:Int):jL×Int:=if(dJ d id).2=0 then if uS (dJ d id).1 time=true then if(AR (dJ d id).1.bh ay).2=true then((AR (dJ d id).1.bh ay).1,0)else(lI,18)else(lI,19)else(lI,12)
def akY {d time ay id C}(h:Hid (dJ d id=(C,10))):mI d time id ay=(lI,12):=by unfold mI;rw[h.o];exact if_neg ae
def akZ {d time ay id C}(h:Hid (dJ d id=(C,0)))(h2:uS C time=false):mI d time id ay=(lI,19):=by unfold mI;rw[h.o];rw[if_pos rfl,if_neg (by simp[h2])]
def ak1 {d time ay id C}(h:Hid (dJ d id=(C,0)))(h2:uS C time=true)(h3:(AR C.bh ay).2=false):mI d time id ay=(lI,18):=by unfold mI;rw[h.o];rw[if_pos rfl,if_pos h2,if_neg (by simp[h3])]
def ak0 {d time ay id C}(h:Hid (dJ d id=(C,0)))(h2:uS C time=true)(h3:(AR C.bh ay).2=true):mI d time id ay=((AR C.bh ay).1,0):=by unfold mI;rw[h.o];rw[if_pos rfl,if_pos h2,if_pos h3]
def ahC {I fs w0 w row l rs}{R:Ending→World→Prop}(hM:Fm I w0 row w l rs fs){d id}{s:Sl}(hv:jh I w0 w l rs (fun W=>co W (aF s) d))(hv':co w (aF s) d)(hW:WD d)(hi:id.length≤1000000)(k0:∀(C)(q)w',Hid (dJ d id=(C,0))→Hid (jt C=true)→Fm I w0 row w' l rs ((fun W=>fV W (aF q) C.bh)::fs)→R (.returned (.tuple #[.agg (iY (oR C q)),.bool true])) w')(k1:∀(C)(q)w',Hid (dJ d id=(C,10))→Hid True→Fm I w0 row w' l rs ((fun W=>fV W (aF q) C.bh)::fs)→R (.returned (.tuple #[.agg (iY (oR C q)),.bool false])) w'):Calls prog 136 #[.agg #[aF s],str id] w fun e w'=>R e w':=by
 refine(Gv d id s w hv' hW hi).mono fun e w'⟨q,h1,h2,h3⟩=>?_;subst h1;have uo:=hM.vP h3 hv h2;obtain⟨⟨C,er⟩,hC⟩:∃r,dJ d id=r:=⟨_,rfl⟩;have hc:=Bx (Be d (fD 67 id));have he:(gK (Be d (fD 67 id))).2=er:=by rw[show gK (Be d (fD 67 id))=dJ d id from rfl,hC]
 rw[he]at hc;rw[hC]at uo⊢;rcases hc with rfl|rfl;exact k0 C q w' (ag hC) (ag (by have:=QL he;rw[show gK (Be d (fD 67 id))=dJ d id from rfl,hC]at this;exact this)) uo;exact k1 C q w' (ag hC) (ag trivial) uo
def ab4 C q now w(hv:fV w (aF q) C.bh)(hk:jt C=true):dM 306 #[.agg (iY (oR C q)),al now] w (.bool (uS C now)):=by have hb:=vB hk;exact QK (oR C q) C.bh now w hv ab hb.2.2.1 hb.2.2.2.1
def ahB C q h w(hv:fV w (aF q) C.bh)(hk:jt C=true):dM 352 #[.agg (iY (oR C q)),al h] w (.tuple #[.agg (iB (AR C.bh h).1),.bool (AR C.bh h).2]):=by have hb:=vB hk;exact ahx (oR C q) C.bh h w hv ab
def aeG d s h t(id:Bs)ay w(hv:co w (aF s) d)(hW:WD d)(hi:id.length≤1000000):dM 330 #[.agg (mt ⟨s,h,t⟩),str id,al ay] w (.tuple #[.agg (iB (mI d t id ay).1),al (mI d t id ay).2]):=by
 have hM:=Fm.start w (fun W=>co W (aF s) d) (fun W hb=>hv.step hb);go_enter func330,ntmps330;go_wp2_with(first|(refine aP ?_)|(refine bx ?_;intro wN hM)|(refine bw ?_;intro gN wN hM)|(go_at_call 136;refine ahC hM (hM.st aX) (hM.get aX) hW ab ?_ ?_<;>(intro C q wN HC HK hM))|(go_at_call 306;refine yj hM (ab4 _ _ _ _ (hM.get aX) HK.o) fun wN bN hb hM=>?_;cases bN)|(go_at_call 352;refine cBp hM (ahB _ _ _ _ (hM.get aX) HK.o) fun wN bN hf hM=>?_;cases bN));all_goals refine ar ?_
 rw[akZ HC hb];exact aK;rw[ak1 HC hb hf];exact aK;rw[ak0 HC hb hf];exact aK;rw[akY HC];exact aK
def cSt {I fs w0 w row l rs}{R:Ending→World→Prop}(hM:Fm I w0 row w l rs fs){d id s h t ay}(hv:co w (aF s) d)(hW:WD d)(hi:id.length≤1000000)(k:∀(S)(er)w',Hid (mI d t id ay=(S,er))→Fm I w0 row w' l rs fs→R (.returned (.tuple #[.agg (iB S),al er])) w'):Calls prog 330 #[.agg (mt ⟨s,h,t⟩),str id,al ay] w fun e w'=>R e w':=by refine(aeG d s h t id ay w hv hW hi).mono fun e w'⟨h1,h2⟩=>?_;subst h1;exact k _ _ w' (ag rfl) (hM.step h2)
def gV(T:bR)(d:Ez)(id:Bs)(ay time:Int)(key value:Bs)(x:xI)(L:List ez):Int:=if(mI d time id ay).2=0∧Hj T (mI d time id ay).1.root (key,value) x.many x.at_ L=false then 18 else(mI d time id ay).2
section
variable{T:bR}{d:Ez}{id key value:Bs}{ay time er:Int}{x:xI}{L:List ez}{S:jL}
def ahE(h:Hid (mI d time id ay=(S,er)))(h1:(er==0)=true)(h2:Hj T S.root (key,value) x.many x.at_ L=false):gV T d id ay time key value x L=18:=by unfold gV;rw[h.o];exact if_pos ⟨fF,h2⟩
def ahD(h:Hid (mI d time id ay=(S,er)))(h2:Hj T S.root (key,value) x.many x.at_ L=true):gV T d id ay time key value x L=er:=by unfold gV;exact Se
def ahF(h:Hid (mI d time id ay=(S,er)))(h1:(er==0)=false):gV T d id ay time key value x L=er:=by unfold gV;exact Sb
end
def aeH T d(s:Sl)(id:Bs)ay time (key value:Bs)x L w(hv:co w (aF s) d)(hW:WD d)(hP:lP w (aF x.path) L)(HT:be T w)(hi:id.length≤1000000)(hl:L.length≤1000000)(hk:key.length≤1000000)(hva:value.length≤1000000):dM 322 #[.agg #[aF s],str id,al ay,al time,str key,str value,.agg (jF x)] w (al (gV T d id ay time key value x L)):=by
 have hM:=Fm.kJ w (fun W hb=>hv.step hb) (fun W hb=>hP.step hb) (fun W hb=>HT.step hb);clear hv hP HT;go_enter func322,ntmps322;go_wp2_with(first|go_skip|(refine xT ?_ ?_;intro eF;(try rw[eF]);rotate_left;intro eF;(try rw[eF]);rotate_left)|(refine aP ?_)|(refine bx ?_;intro wN hM)|(refine bw ?_;intro gN wN hM)|(go_at_call 330;refine cSt hM (hM.get aX) hW ab fun S er wN HS hM=>?_)|(go_at_call 346;refine yj hM (Wj T _ _ _ _ _ _ _ _ _ _ (hM.get eQ) (hM.get fw) hl ab ab) fun wN bN hb hM=>?_;cases bN));all_goals go_ret
 exact⟨by rw[ahE HS eF hb];rfl,hM.below⟩;exact⟨by rw[ahD HS hb];rfl,hM.below⟩;exact⟨by rw[ahF HS eF];rfl,hM.below⟩
def yn T d s h t(id:Bs)x(key value:Bs)L w(hv:co w (aF s) d)(hW:WD d)(hP:lP w (aF x.proof.path) L)(HT:be T w)(hi:id.length≤1000000)(hl:L.length≤1000000)(hk:key.length≤1000000)(hva:value.length≤1000000):dM 289 #[.agg (mt ⟨s,h,t⟩),str id,.agg (dA x),str key,str value] w (al (gV T d id x.ay t key value x.proof L)):=by have hM:=Fm.kJ w (fun W hb=>hv.step hb) (fun W hb=>hP.step hb) (fun W hb=>HT.step hb);clear hv hP HT;go_enter func289,ntmps289;go_wp2_with(first|(refine aP ?_)|(refine bw ?_;intro gN wN hM)|(go_at_call 322;refine cB hM (aeH T d s _ _ _ _ _ x.proof L _ (hM.get aX) hW (hM.get eQ) (hM.get fw) hi hl hk hva) fun wN hM=>?_));go_ret;exact aK
end Go.Proofs.YtlddafbgfkocjaaGreatDoor
