/- A part of TopHonest. -/
import Derived.Test.YtlddafbgfkocjaaGreatDoorT28
import Derived.Test.YtlddafbgfkocjaaGreatDoorT44
import Derived.Test.YtlddafbgfkocjaaGreatDoorT45
namespace Go.Proofs.YtlddafbgfkocjaaGreatDoor
open Go.RowKit Go.Proofs.Tryz
set_option linter.all false
set_option maxRecDepth 1000000
set_option maxHeartbeats 400000000
section
variable{I:MF}{fs:List MF}{w0 w:World}{row:Option Nat}{l:List MB}{rs:List MR}{R:Ending→World→Prop}
def avS(hM:Fm I w0 row w l rs fs){T:bR}{X:qi}{q:Sl}{h:qh}{tC:ez}{now:Int}(hJ:jh I w0 w l rs (fun W=>fV W (aF q) X.bh∧be T W))(hI:fV w (aF q) X.bh∧be T w)(it:jt X=true)(hc:h.chain.length≤100000)(k:∀(D:qi)er(q':Sl)w',Hid (sR T X h tC now=(D,er))→Fm I w0 row w' l rs ((fun W=>fV W (aF q') D.bh)::fs)→R (.returned (.tuple #[.agg (iY (oR D q')),al er])) w'):Calls prog 276 #[.agg (iY (oR X q)),.agg (il h),.agg (da tC),al now] w fun e w'=>R e w':=(aeE T X q h tC now w hI it hc).mono fun _ w'⟨q',h1,h2,h3⟩=>by subst h1;exact k _ _ q' w' (ag rfl) (hM.vP h3 hJ h2)
end
def alz(T:bR)(d:Ez)(s:Sl)(h t:Int)(x:Tx)(w:World)(hv:co w (aF s) d)(HT:be T w)(hW:WD d)(hx:lW x):Calls prog 243 #[.agg (mt ⟨s,h,t⟩),.agg (dA x)] w (lk w (fun W=>co W (aF s) d∧be T W) (Im T d x t)):=by
 have hM:=Fm.pH w (fun W hb=>hv.step hb) (fun W hb=>HT.step hb);have x1:=hx.id;have x2:=hx.chain;clear hv hx HT;go_enter func243,ntmps243;go_wp2_with(first|(refine aP ?_)|(refine bx ?_;intro wN hM)|(refine bw ?_;intro gN wN hM)|(go_at_call 136;refine ahC hM (hM.st aX) (hM.get aX) hW ab ?_ ?_<;>(intro C q wN HC HK hM))|(go_at_call 217;first|(refine Dh ?_;intro sN wN hM)|(refine cF hM (hM.st fw) (jj d s _ _ _ _ (hM.get fw)) fun sN wN hM=>?_))|(go_at_call 276;refine avS hM ((hM.st aX).and (hM.st fw)) ⟨hM.get aX,hM.get fw⟩ HK.o ab fun D er q2 wN HU hM=>?_));have he:(er !=0)=true:=aj;refine ar ?_;rw[arA HC HU he];exact aH
 ·have he:(er !=0)=false:=aj;have hu:=HU.o;rw[show er=0 from oz]at hu;have HD:=ag (Wb HK.o hu).1;clear hu;refine rB [9,10] [0,1,2,4,3,5,6,7,8,9,10] ?_;intro hM;refine rC ?_;refine cB hM (FN _ _ ab) fun wN hM=>?_;refine aN ?_;refine cB hM (QM _ _ _ (hM.get aX) HD.o) fun wN hM=>?_;refine aN ?_;refine cF hM (hM.st fw) (Mv _ _ _ _ _ _ _ (hM.get fw) hW) fun sN wN hM=>?_;refine bW ?_;intro wN hM;refine rS ?_;intro wN hM;all_goals go_wp2_with fail
  all_goals refine ar ?_
  all_goals rw[arB HC HU he]
  all_goals exact aH
 refine ar ?_;rw[arC HC];exact aH
noncomputable def Aq(T:bR)(d:Ez)(x:Tx)(L:List ez)(G:jN)(h t:Int):Ez×ls:=if x.kind=1 then Il d x.aA.bj else if x.kind=2 then TY d x.aA.bj else if x.kind=3 then oq d x.id x.key x.period x.header else if x.kind=4 then Im T d x t else if x.kind=5∨x.kind=6 then nM T d t x L else if x.kind=7∨x.kind=8 then ot T d t x L else if x.kind=9∨x.kind=10 then wP T d t x L else if x.kind=11∨x.kind=12 then uT T d t x L else if x.kind=13 then AB T d x.aA else if x.kind=14 then vC T d x L h t else if x.kind=15 then BO T d x L t else if x.kind=16 then AD T d x G t else bY d 1
def In(f:Fn)(w:World):(binOp .eql 306 (.func f #[] #[]) .nilFunc).run prog w=.ok (.bool false) w:=ad
def AT(w:World):(binOp .eql 306 .nilFunc .nilFunc).run prog w=.ok (.bool true) w:=ad
def oT(k:Int)(w:World)(v:Value)(hv:v=if k=1 then .func (.func 240) #[] #[]else if k=2 then .func (.func 241) #[] #[]else if k=3 then .func (.func 242) #[] #[]else if k=4 then .func (.func 243) #[] #[]else if k=5∨k=6 then .func (.func 244) #[] #[]else if k=7∨k=8 then .func (.func 245) #[] #[]else if k=9∨k=10 then .func (.func 246) #[] #[]else if k=11∨k=12 then .func (.func 247) #[] #[]else if k=13 then .func (.func 248) #[] #[]else if k=14 then .func (.func 249) #[] #[]else if k=15 then .func (.func 250) #[] #[]else if k=16 then .func (.func 251) #[] #[]else .nilFunc):Calls prog 216 #[al k] w fun e w'=>e=.returned v∧w=w':=by
 by_cases h1:k=1;subst h1;obtain rfl:v=.func (.func 240) #[] #[]:=jl;exact jm;by_cases h2:k=2;subst h2;obtain rfl:v=.func (.func 241) #[] #[]:=jl;exact jm;by_cases h3:k=3;subst h3;obtain rfl:v=.func (.func 242) #[] #[]:=jl;exact jm;by_cases h4:k=4;subst h4;obtain rfl:v=.func (.func 243) #[] #[]:=jl;exact jm;by_cases h5:k=5;subst h5;obtain rfl:v=.func (.func 244) #[] #[]:=jl;exact jm;by_cases h6:k=6;subst h6;obtain rfl:v=.func (.func 244) #[] #[]:=jl;exact jm;by_cases h7:k=7;subst h7;obtain rfl:v=.func (.func 245) #[] #[]:=jl;exact jm;by_cases h8:k=8;subst h8;obtain rfl:v=.func (.func 245) #[] #[]:=jl;exact jm;by_cases h9:k=9;subst h9;obtain rfl:v=.func (.func 246) #[] #[]:=jl;exact jm;by_cases h10:k=10;subst h10;obtain rfl:v=.func (.func 246) #[] #[]:=jl;exact jm;by_cases h11:k=11;subst h11;obtain rfl:v=.func (.func 247) #[] #[]:=jl;exact jm;by_cases h12:k=12;subst h12;obtain rfl:v=.func (.func 247) #[] #[]:=jl;exact jm;by_cases h13:k=13;subst h13;obtain rfl:v=.func (.func 248) #[] #[]:=jl;exact jm;by_cases h14:k=14;subst h14;obtain rfl:v=.func (.func 249) #[] #[]:=jl;exact jm;by_cases h15:k=15;subst h15;obtain rfl:v=.func (.func 250) #[] #[]:=jl;exact jm;by_cases h16:k=16;subst h16;obtain rfl:v=.func (.func 251) #[] #[]:=jl;exact jm;obtain rfl:v=.nilFunc:=by rw[hv];simp[h1,h2,h3,h4,h5,h6,h7,h8,h9,h10,h11,h12,h13,h14,h15,h16]
 clear hv;have e1:(k==1)=false:=fF;have e2:(k==2)=false:=mm;have e3:(k==3)=false:=kC;have e4:(k==4)=false:=by simpa using h4
 have e5:(k==5)=false:=xj;have e6:(k==6)=false:=by simpa using h6
 have e7:(k==7)=false:=by simpa using h7
 have e8:(k==8)=false:=by simpa using h8
 have e9:(k==9)=false:=by simpa using h9
 have e10:(k==10)=false:=by simpa using h10
 have e11:(k==11)=false:=by simpa using h11
 have e12:(k==12)=false:=by simpa using h12
 have e13:(k==13)=false:=by simpa using h13
 have e14:(k==14)=false:=by simpa using h14
 have e15:(k==15)=false:=by simpa using h15
 have e16:(k==16)=false:=by simpa using h16
 clear h1 h2 h3 h4 h5 h6 h7 h8 h9 h10 h11 h12 h13 h14 h15 h16;go_enter func216,ntmps216;go_wp2;go_ret;exact⟨rfl,rfl⟩
def zqQ {G K:Prop}(k:K)(h:Hid K→G:=by intro HC;have hM:=Fm.kJ w (fun W hb=>hv.1.step hb) (fun W hb=>hv.2.1.step hb) (fun W hb=>jN.step hv.2.2 hb);have Ny:=In;have Gk:=AT;clear hv hk;refine lq ?_;go_wp2_with(first|(refine aP ?_)|(refine bx ?_;intro wN hM)|(refine bw ?_;intro gN wN hM)|(refine lr ?_;intro wN hM)|(go_at_call 240;refine cF hM (hM.st aX) (ak3 d s h t x _ (hM.get aX) hW hx) fun sN wN hM=>?_)|(go_at_call 241;refine cF hM (hM.st aX) (ahG d s h t x _ (hM.get aX) hW hx) fun sN wN hM=>?_)|(go_at_call 242;refine cF hM (hM.st aX) (aeI d s h t x _ (hM.get aX) hW hx) fun sN wN hM=>?_)|(go_at_call 243;refine cF hM ((hM.st aX).and ((hM.st fw).mono fun W k=>k.2.2.2.2)) (alz T d s h t x _ (hM.get aX) (hM.get fw).2.2.2.2 hW hx) fun sN wN hM=>?_)|(go_at_call 244;refine cF hM (((hM.st aX).and ((hM.st eQ).and (hM.st fw))).mono fun W k=>⟨k.1,k.2.1,k.2.2.2.2.2.2⟩) (ab6 T d s h t x L _ ⟨hM.get aX,hM.get eQ,(hM.get fw).2.2.2.2⟩ hW hl hx) fun sN wN hM=>?_)|(go_at_call 245;refine cF hM (((hM.st aX).and ((hM.st eQ).and (hM.st fw))).mono fun W k=>⟨k.1,k.2.1,k.2.2.2.2.2.2⟩) (Vr T d s h t x L _ ⟨hM.get aX,hM.get eQ,(hM.get fw).2.2.2.2⟩ hW hl hx) fun sN wN hM=>?_)|(go_at_call 246;refine cF hM (((hM.st aX).and ((hM.st eQ).and (hM.st fw))).mono fun W k=>⟨k.1,k.2.1,k.2.2.2.2.2.2⟩) (ahM T d s h t x L _ ⟨hM.get aX,hM.get eQ,(hM.get fw).2.2.2.2⟩ hW hl hx) fun sN wN hM=>?_)|(go_at_call 247;refine cF hM (((hM.st aX).and ((hM.st eQ).and (hM.st fw))).mono fun W k=>⟨k.1,k.2.1,k.2.2.2.2.2.2⟩) (aeL T d s h t x L _ ⟨hM.get aX,hM.get eQ,(hM.get fw).2.2.2.2⟩ hW hl hx) fun sN wN hM=>?_)|(go_at_call 248;refine cF hM ((hM.st aX).and ((hM.st fw).mono fun W k=>k.2.2.2.2)) (alj T d s h t x _ (hM.get aX) (hM.get fw).2.2.2.2 hW hx) fun sN wN hM=>?_)|(go_at_call 249;refine cF hM (((hM.st aX).and ((hM.st eQ).and (hM.st fw))).mono fun W k=>⟨k.1,k.2.1,k.2.2.2.2.2.2⟩) (ahX T d s h t x L _ ⟨hM.get aX,hM.get eQ,(hM.get fw).2.2.2.2⟩ hW hl hx) fun sN wN hM=>?_)|(go_at_call 250;refine cF hM (((hM.st aX).and ((hM.st eQ).and (hM.st fw))).mono fun W k=>⟨k.1,k.2.1,k.2.2.2.2.2.2⟩) (aly T d s h t x L _ ⟨hM.get aX,hM.get eQ,(hM.get fw).2.2.2.2⟩ hW hl hx) fun sN wN hM=>?_)|(go_at_call 251;refine cF hM ((hM.st aX).and (hM.st fw)) (ah1 T d s h t x G _ ⟨hM.get aX,hM.get fw⟩ hW hG ho hx) fun sN wN hM=>?_));refine ar ?_;exact aH):G:=h (ag k)











def aon(T:bR)(d:Ez)(s:Sl)(h t:Int)(x:Tx)(w:World)(hv:co w (aF s) d)(hk:¬(1≤x.kind∧x.kind≤16)):Calls prog 167 #[.agg #[aF s],.agg (dA x),al h,al t] w fun e w'=>lk w (fun W=>co W (aF s) d) (bY d 1) e w':=by have hM:=Fm.start w _ (fun W hb=>hv.step hb);have HC:=ag (fun w=>oT x.kind w .nilFunc (by rw[if_neg ab];rw[if_neg ab];rw[if_neg ab];rw[if_neg ab];rw[if_neg ab];rw[if_neg ab];rw[if_neg ab];rw[if_neg ab];rw[if_neg ab];rw[if_neg ab];rw[if_neg ab];rw[if_neg ab]));have Ny:=In;have Gk:=AT;clear hv hk;refine lq ?_;go_wp2_with(first|(refine aP ?_)|(refine bx ?_;intro wN hM)|(refine bw ?_;intro gN wN hM)|(refine lr ?_;intro wN hM)|(refine Ad ?_;intro sN wN hM));refine ar ?_;exact aH
def art(T:bR)(d:Ez)(s:Sl)(h t:Int)(x:Tx)(L:List ez)(G:jN)(w:World)(hv:co w (aF s) d∧lP w (aF x.proof.path) L∧G.I T w)(hW:WD d)(hl:L.length≤1000000)(hG:G.g=x.fx)(ho:G.Ok)(hx:lW x):Calls prog 167 #[.agg #[aF s],.agg (dA x),al h,al t] w fun e w'=>lk w (fun W=>co W (aF s) d∧lP W (aF x.proof.path) L∧G.I T W) (Aq T d x L G h t) e w':=by unfold Aq;by_cases hk:x.kind=1;rw[if_pos hk];exact zqQ (fun w=>oT x.kind w (.func (.func 240) #[] #[]) rW);rw[if_neg hk];by_cases hk:x.kind=2;rw[if_pos hk];exact zqQ (fun w=>oT x.kind w (.func (.func 241) #[] #[]) rW);rw[if_neg hk];by_cases hk:x.kind=3;rw[if_pos hk];exact zqQ (fun w=>oT x.kind w (.func (.func 242) #[] #[]) rW);rw[if_neg hk];by_cases hk:x.kind=4;rw[if_pos hk];exact zqQ (fun w=>oT x.kind w (.func (.func 243) #[] #[]) rW);rw[if_neg hk];by_cases hk:x.kind=5∨x.kind=6;rw[if_pos hk];exact zqQ (fun w=>oT x.kind w (.func (.func 244) #[] #[]) Di);rw[if_neg hk];by_cases hk:x.kind=7∨x.kind=8;rw[if_pos hk];exact zqQ (fun w=>oT x.kind w (.func (.func 245) #[] #[]) Di);rw[if_neg hk];by_cases hk:x.kind=9∨x.kind=10;rw[if_pos hk];exact zqQ (fun w=>oT x.kind w (.func (.func 246) #[] #[]) Di);rw[if_neg hk];by_cases hk:x.kind=11∨x.kind=12;rw[if_pos hk];exact zqQ (fun w=>oT x.kind w (.func (.func 247) #[] #[]) Di);rw[if_neg hk];by_cases hk:x.kind=13;rw[if_pos hk];exact zqQ (fun w=>oT x.kind w (.func (.func 248) #[] #[]) rW);rw[if_neg hk];by_cases hk:x.kind=14;rw[if_pos hk];exact zqQ (fun w=>oT x.kind w (.func (.func 249) #[] #[]) rW);rw[if_neg hk];by_cases hk:x.kind=15;rw[if_pos hk];exact zqQ (fun w=>oT x.kind w (.func (.func 250) #[] #[]) rW);rw[if_neg hk];by_cases hk:x.kind=16;rw[if_pos hk];exact zqQ (fun w=>oT x.kind w (.func (.func 251) #[] #[]) rW);rw[if_neg hk];exact(aon T d s h t x w hv.1 ab).mono fun e w'⟨s',k1,k2,k3⟩=>⟨s',k1,k2.mono (fun _ k=>k.1) (fun _ k=>k),k3⟩
section
def yx(h t:Int)(L:List Bs):Bool:=decide (1≤h∧0≤t∧max h t≤1099511627776∧L.length≤16)&&decide (∀x∈L,x.length≤6000)
def BY(h t:Int)(L:List Bs):Int:=if yx h t L=true then 0 else 1
def YC(h t:Int)(L:List Bs):BY h t L=0∨BY h t L=1:=by unfold BY;split<;>simp
attribute[local go_sem]aF in def YE(h t:Int)(L:List Bs)(q:Sl)(w:World)(hv:ke w (aF q) L):dM 112 #[.agg (um ⟨h,t,q⟩)] w (al (BY h t L)):=by
 obtain⟨p,n,c⟩:=q;have hn:=hv.nn;simp only[]at hn;subst hn;have hp:0<L.length→∃g o,p=some (aD g o):=hv.some_;have hM:=Fm.start w (fun W=>ke W (.slice p L.length c) L) (fun W hb=>hv.ajN hb);obtain⟨A,hA⟩:=aZ (decide (∀x∈L,x.length≤6000));have hcl:BY h t L=if(decide (1≤h∧0≤t∧max h t≤1099511627776∧L.length≤16)&&A)=true then 0 else 1:=by unfold BY yx;rw[hA]
 obtain⟨r,hr⟩:=aZ (BY h t L);rw[hr];rw[hr]at hcl;have HR:=ag hcl;have HP:=ag hp;have HA:=ag hA;clear hv hA hcl hr hp;go_enter func112,ntmps112;go_wp2_with(first|go_skip|(refine xT ?_ ?_;intro eF;(try rw[eF]);rotate_left;intro eF;(try rw[eF]);rotate_left)|(refine aP ?_)|(refine bw ?_;intro gN wN hM));exact Jf;exact Jf;exact Jf;have eF:16<(L.length:Int):=aj;go_ret;refine io ?_;rw[HR.o,if_neg (by intro k;simp only[dO,dU]at k;omega)];rfl
 ·have h4:(L.length:Int)≤16:=aj;have HC:=ag (show 1≤h∧0≤t∧max h t≤1099511627776∧L.length≤16 by simp only[gZ]at*;omega);clear h4;go_loopw [30](fun iv wr=>∃(k:Nat),k≤L.length∧iv=al k∧Hid (∀x∈L.take k,x.length≤6000)∧Fm (fun W=>ke W (.slice p L.length c) L) w none wr [] [] [fun W=>ke W (.slice p L.length c) L])(fun iv _=>L.length-(intOf iv).toNat);case atStart=>exact⟨0,aI _,rfl,ag ae,hM.sub⟩
  case round=>
   obtain⟨k,hk,rfl,HS,hM⟩:=hrel;by_cases h1:k<L.length;have i1:(k:Int)<(L.length:Int):=ab;have i3:(0:Int)≤(k:Int):=ab;obtain⟨g,o,hp⟩:=HP.o ab;subst hp;replace hM:=hM.eW ((hM.st aX).mono fun W h=>ke.at_ h h1);obtain⟨x,hx⟩:=aZ (L[k]);rw[hx]at hM;have HX:=ag hx;clear hx;by_cases h2:6000<x.length;have i2:(6000:Int)<(x.length:Int):=ab;go_wp2_with((refine aP ?_));go_ret;refine io ?_;have hAf:A=false:=by rw[←HA.o];exact cP (fun h3=>by have:=h3 x (by rw[←HX.o];exact bH h1);omega)
   rw[HR.o,hAf,if_neg ae];rfl;have i2:¬(6000:Int)<(x.length:Int):=ab;go_wp2_with((refine aP ?_));exact⟨⟨k+1,ab,ae,ag (PT h1 HS.o (by rw[HX.o];omega)),hM.sub⟩,bC⟩;have e1:k=L.length:=ab;subst e1;have i1:¬(L.length:Int)<(L.length:Int):=ab;go_wp2_with fail;go_ret;refine io ?_;have hAt:A=true:=by rw[←HA.o];have:=HS.o;rw[ci]at this;exact eL this
   rw[HR.o,hAt,eL HC.o,if_pos ae];rfl
def yT(h t:Int)(L:List Bs):Bs:=dN 104 h.toNat++(dN 116 t.toNat++qf 120 L)
theorem XX {L:List Bs}(h1:L.length≤16)(h2:∀x∈L,x.length≤6000):(lj 120 L).length≤100000:=by have:=ry 120 6000 L h2;have h3:L.length*6004≤16*6004:=mO _ h1;omega
def YF(h t:Int)(L:List Bs)(q:Sl)(w:World)(hv:ke w (aF q) L)(h1:L.length≤16)(h2:∀x∈L,x.length≤6000)(hh:h≤1099511627776)(ht:t≤1099511627776):dM 73 #[.agg (um ⟨h,t,q⟩)] w (str (yT h t L)):=by
 have hM:=Fm.start w (fun W=>ke W (aF q) L) (fun W hb=>hv.ajN hb);have hc:=XX h1 h2;have hB:yT h t L=dN 104 h.toNat++(dN 116 t.toNat++qf 120 L):=rfl;have hal:(qf 120 L).length=(lj 120 L).length+4:=by unfold qf;exact dE
 have HB:=ag hB;have Gg:=ag hal;clear hB hv h2 hal;go_enter func73,ntmps73;go_wp2_with((refine bw ?_;intro gN wN hM));refine rB [] [0,1,3,4,7,8,2,5,999,6,9,999,10,999,11] ?_;intro hM;refine rC ?_;refine cN hM (B:=12) (aC (dW _ _) ah) (jc _ _ _ ah ah ab) fun X0 wN YD lX0 hM=>?_;refine aN ?_;refine cN hM (B:=12) (aC (dW _ _) ah) (jc _ _ _ ah ah ab) fun X1 wN wb lX1 hM=>?_;have q1:¬9223372036854775807<X0.length+X1.length:=ab;refine rK ?_;refine Ki (UH (u:=str (X0++X1)) ?_ (hy:=by intro _ _;go_simp));refine rL ?_;refine rC ?_;refine cN hM (B:=100004) (by rw[Gg.o];omega) (zQ 120 _ L _ (hM.get aX) ah ah ab) fun X2 wN we lX2 hM=>?_;have q2:¬9223372036854775807<X0.length+(X1.length+X2.length):=ab;have q3:X0.length+X1.length+X2.length≤9223372036854775807:=ab;refine rK ?_;refine Ki (UH (u:=str (X0++(X1++X2))) ?_ (hy:=by intro _ _;go_simp));refine rL ?_;refine Ki (UH (u:=str (X0++(X1++X2))) ?_ (hy:=by intro _ _;go_simp));refine rL ?_;go_wp2_with fail;go_ret;exact⟨by rw[HB.o,YD.o,wb.o,we.o];rfl,hM.below⟩
def Vk(T:bR)(nm:Bs)(h t:Int)(q s:Sl)(d:Ez)(w:World)(hv:co w (aF s) d)(HT:be T w)(hW:WD d):dM 114 #[str nm,.agg (um ⟨h,t,q⟩),.agg #[aF s]] w (.agg (il ⟨nm,h,t,Ld T d⟩)):=by
 have hM:=Fm.pH w (fun W hb=>hv.step hb) (fun W hb=>HT.step hb);have HRo:=ag (fun w hv HT=>aaU T d (aF s) w hv HT CW (fun x hx=>by have:=hW.2.2 x hx;omega));clear hv HT;go_enter func114,ntmps114;go_wp2_with((refine bw ?_;intro gN wN hM));refine rB [8] [0,1,2,3,4,5,6,7,8] ?_;intro hM;refine rC ?_;refine cB hM (HRo.o _ (hM.get aX) (hM.get eQ)) fun wN hM=>?_;refine rK ?_;refine rR ?_;refine rS ?_;intro wN hM;all_goals go_wp2_with fail
 all_goals refine ar ?_
 all_goals exact aK
end
structure Lh (x : TxP) : Prop where
  kind : 0 ≤ x.kind ∧ x.kind ≤ 16
  id : x.id.length ≤ 4000
  over : x.over.length ≤ 4000
  peer : x.peer.length ≤ 4000
  dj : x.dj.length ≤ 4000
  key : x.key.length ≤ 4000
  chain : x.header.chain.length ≤ 4000
  source : x.aA.source.length ≤ 4000
  sink : x.aA.sink.length ≤ 4000
  bM : x.aA.bj.bM.length ≤ 4000
  src : x.aA.bj.src.length ≤ 4000
  dst : x.aA.bj.dst.length ≤ 4000
  nK : x.nK.length ≤ 4000
  seq : 0 ≤ x.aA.seq ∧ x.aA.seq ≤ 1099511627776
  pkt : (0 ≤ x.aA.ay ∧ x.aA.ay ≤ 1099511627776) ∧ 0 ≤ x.aA.time ∧ x.aA.time ≤ 1099511627776
  proof : ∃ s, x.proof = (dK s).1
  fx : ∃ s, x.fx = (eM s).1
def Vl s:(fe s).2=0→Lh (fe s).1:=by obtain⟨⟨v_K,s_K,b_K⟩,NL⟩:∃r,ei 75 16 (s,false)=r:=⟨_,rfl⟩;have l_K:=iV NL;obtain⟨⟨v_I,s_I,b_I⟩,NG⟩:∃r,bq 73 4000 (s_K,b_K)=r:=⟨_,rfl⟩;have l_I:=fT NG ae;obtain⟨⟨v_O,s_O,b_O⟩,NF⟩:∃r,bq 79 4000 (s_I,b_I)=r:=⟨_,rfl⟩;have l_O:=fT NF ae;obtain⟨⟨v_Q,s_Q,b_Q⟩,NM⟩:∃r,bq 81 4000 (s_O,b_O)=r:=⟨_,rfl⟩;have l_Q:=fT NM ae;obtain⟨⟨v_R,s_R,b_R⟩,NQ⟩:∃r,bq 82 4000 (s_Q,b_Q)=r:=⟨_,rfl⟩;have l_R:=fT NQ ae;obtain⟨⟨v_Y,s_Y,b_Y⟩,NK⟩:∃r,bq 89 4000 (s_R,b_R)=r:=⟨_,rfl⟩;have l_Y:=fT NK ae;obtain⟨⟨v_E,s_E,b_E⟩,NC⟩:∃r,ei 69 1099511627776 (s_Y,b_Y)=r:=⟨_,rfl⟩;have l_E:=iV NC;obtain⟨⟨zl,Mo,Mr⟩,DY⟩:∃r,bq 99 4000 (s_E,b_E)=r:=⟨_,rfl⟩;have l_c:=fT DY ae;obtain⟨⟨Mj,UK,UJ⟩,EV⟩:∃r,ei 104 1099511627776 (Mo,Mr)=r:=⟨_,rfl⟩;have l_h:=iV EV;obtain⟨⟨Iv,Le,Lf⟩,DT⟩:∃r,ei 116 1099511627776 (UK,UJ)=r:=⟨_,rfl⟩;have l_t:=iV DT;obtain⟨⟨IA,US,UT⟩,Kk⟩:∃r,bq 114 32 (Le,Lf)=r:=⟨_,rfl⟩;have l_r:=fT Kk ae;obtain⟨⟨v_M,s_M,b_M⟩,NH⟩:∃r,bq 77 32 (US,UT)=r:=⟨_,rfl⟩;have l_M:=fT NH ae;obtain⟨⟨v_q,s_q,b_q⟩,NB⟩:∃r,ei 113 1099511627776 (s_M,b_M)=r:=⟨_,rfl⟩;have l_q:=iV NB;obtain⟨⟨v_s,s_s,Py⟩,Nz⟩:∃r,bq 115 4000 (s_q,b_q)=r:=⟨_,rfl⟩;have l_s:=fT Nz ae;obtain⟨⟨Mt,Wg,Wh⟩,Gu⟩:∃r,bq 107 4000 (s_s,Py)=r:=⟨_,rfl⟩;have l_k:=fT Gu ae;obtain⟨⟨v_d,s_d,b_d⟩,NS⟩:∃r,bq 100 4000 (Wg,Wh)=r:=⟨_,rfl⟩;have l_d:=fT NS ae;obtain⟨⟨NE,Wp,Ws⟩,IB⟩:∃r,bq 97 32 (s_d,b_d)=r:=⟨_,rfl⟩;have l_a:=fT IB ae;obtain⟨⟨UV,Wf,Wd⟩,Gt⟩:∃r,bq 102 4000 (Wp,Ws)=r:=⟨_,rfl⟩;have l_f:=fT Gt ae;obtain⟨⟨v_g,s_g,b_g⟩,NN⟩:∃r,bq 103 4000 (Wf,Wd)=r:=⟨_,rfl⟩;have l_g:=fT NN ae;obtain⟨⟨v_u,s_u,b_u⟩,NJ⟩:∃r,ei 117 1099511627776 (s_g,b_g)=r:=⟨_,rfl⟩;have l_u:=iV NJ;obtain⟨⟨v_v,s_v,b_v⟩,NA⟩:∃r,ei 118 1099511627776 (s_u,b_u)=r:=⟨_,rfl⟩;have l_v:=iV NA;obtain⟨⟨v_A,s_A,b_A⟩,NO⟩:∃r,bq 65 4000 (s_v,b_v)=r:=⟨_,rfl⟩;have l_A:=fT NO ae;obtain⟨⟨v_T,s_T,b_T⟩,NP⟩:∃r,ei 84 1099511627776 (s_A,b_A)=r:=⟨_,rfl⟩;have l_T:=iV NP;obtain⟨⟨Wr,s_F,b_F⟩,NI⟩:∃r,bq 70 4000 (s_T,b_T)=r:=⟨_,rfl⟩;have l_F:=fT NI ae;obtain⟨⟨Wq,s_G,b_G⟩,NR⟩:∃r,bq 71 4000 (s_F,b_F)=r:=⟨_,rfl⟩;have l_G:=fT NR ae;rw[oY NL NG NF NM NQ NK NC DY EV DT Kk NH NB Nz Gu NS IB Gt NN NJ NA NO NP NI NR];clear NL NG NF NM NQ NK NC DY EV DT Kk NH NB Nz Gu NS IB Gt NN NJ NA NO NP NI NR;obtain⟨P,hP⟩:=aZ (dK Wr);obtain⟨G,hG⟩:=aZ (eM Wq);rw[hP,hG];split;intro _;exact⟨ai,ai,ai,ai,ai,ai,ai,ai,ai,ai,ai,ai,ai,ai,⟨⟨ai,ai⟩,ai,ai⟩,⟨Wr,ai⟩,⟨Wq,ai⟩⟩;simp
structure nL where
  ay : Int
  time : Int
  Ca : List Bs
def YH:nL:=⟨0,0,[]⟩
def qg (s : Bs) : nL × Int :=
  let h := ei 104 1099511627776 (s, false)
  let t := ei 116 1099511627776 h.2
  let l := sZ 120 16 6000 t.2
  if mV l.2 = 0 ∧ BY h.1 t.1 l.1 = 0 then (⟨h.1, t.1, l.1⟩, 0) else (YH, 10)
def abS(s:Bs)(w:World)(hs:s.length≤1000000):Calls prog 66 #[str s] w fun e w'=>∃q:Sl,e=.returned (.tuple #[.agg (um ⟨(qg s).1.ay,(qg s).1.time,q⟩),al (qg s).2])∧dz w w' (fun _=>True) (fun W=>ke W (aF q) (qg s).1.Ca)∧Below w.heap.size w w':=by
 have hM:=Fm.bZ w;go_enter func66,ntmps66;go_wp2_with(first|go_skip|(refine aP ?_)|(refine bx ?_;intro wN hM)|(refine bw ?_;intro gN wN hM)|(refine xi ?_;intro gR wN hM)|(go_at_call 109;(with_reducible refine gD 104 ?_);refine DU (c:=104) hM (k:=?_);intro w_h Mj UK UJ EV h1 h2 h3 hM;try simp only[ax]at hM)|(go_at_call 109;(with_reducible refine gD 116 ?_);refine DU (c:=116) hM (k:=?_);intro w_t Iv Le Lf DT t1 t2 t3 hM;try simp only[ax,az]at hM)|(go_at_call 110;(with_reducible refine UD 120 ?_);refine adY (c:=120) hM (k:=?_);intro w_l jd QG QF q_l c_l UI B_l l1 l2 hM;try simp only[ax,az]at hM)|(go_at_call 111;refine adA hM ?_ ?_<;>(intro wN HE hM))|(go_at_call 112;(replace hM:=hM.gj 0 rfl);(simp only[aQ]at hM);refine cE1 hM (YC _ _ _) (YE Mj Iv jd ⟨_,_,_⟩ _ (BZ (hM.get aX) rfl)) ?_ ?_<;>(intro wN hn hM)));have hE:qg s=(⟨Mj,Iv,jd⟩,0):=by unfold qg;simp only[EV.o,DT.o,UI.o];rw[if_pos ⟨HE.o,hn.o⟩]
 refine ar ?_;rw[hE];exact⟨⟨q_l,jd.length,c_l⟩,rfl,(hM.gives (hM.st aX)).mono (fun _ _=>trivial) (fun W k=>BZ k rfl),hM.below⟩;have hE:qg s=(YH,10):=by unfold qg;simp only[EV.o,DT.o,UI.o];rw[if_neg (by intro k;have:=k.2;rw[hn.o]at this;cases this)]
 refine ar ?_;exact RO;have hE:qg s=(YH,10):=by unfold qg;simp only[EV.o,DT.o,UI.o];rw[if_neg (by intro k;have:=k.1;rw[HE.o]at this;cases this)]
 refine ar ?_;exact RO
structure yI (v : oM) : Prop where
  seq : 0 ≤ v.aA.seq ∧ v.aA.seq ≤ 1099511627776
  source : v.aA.source.length ≤ 4000
  sink : v.aA.sink.length ≤ 4000
  bM : v.aA.bj.bM.length ≤ 4000
  src : v.aA.bj.src.length ≤ 4000
  dst : v.aA.bj.dst.length ≤ 4000
  nK : v.nK.length ≤ 4000
  pkt : (0 ≤ v.aA.ay ∧ v.aA.ay ≤ 1099511627776) ∧ 0 ≤ v.aA.time ∧ v.aA.time ≤ 1099511627776
def ahg(d:Ez)(s:Sl)(h:Int)(x:Tx)(r:ls)(w:World)(hv:co w (aF s) d)(hW:WD d)(hx:lW x)(hr:0≤r.seq∧r.seq≤1099511627776)(ha:r.nK.length≤4000)(Nk:(0≤x.aA.ay∧x.aA.ay≤1099511627776)∧0≤x.aA.time∧x.aA.time≤1099511627776):Calls prog 168 #[.agg #[aF s],al h,.agg (dA x),.agg (sn r)] w fun e w'=>∃v:oM,e=.returned (.agg (iw v))∧yI v∧Below w.heap.size w w':=by
 have hM:=Fm.start w (fun W=>co W (aF s) d) (fun W hb=>hv.step hb);have x1:=hx.source;have HX:=ag hx;have HK:=ag Nk;clear hv hx Nk;go_enter func168,ntmps168;go_wp2_with(first|(refine aP ?_)|(refine bx ?_;intro wN hM)|(refine bw ?_;intro gN wN hM)|(go_at_call 218;refine DV hM (EW _ _ _ _ (hM.get aX) hW ab) fun n1 a1 b1 c1 v1 wN HI ln la lb lc hM=>?_))
 ·refine rB [6,9] [0,1,2,4,5,999] ?_;intro hM;intro hS;refine vf 3 6 ad rfl rfl aq (fun K hK=>?_) (fun K hK=>?_);rotate_left 1;focus refine rHS [3,7,8,9] ?_;intro wN hM;refine rS ?_;intro wN hM
  rotate_left 1;focus refine YG [6,7,8,9] ?_;refine rS ?_;intro wN hM;refine rS ?_;intro wN hM
  all_goals go_wp2_with(first|(refine aP ?_)|(refine bx ?_;intro wN hM))
  all_goals refine ar ?_
  all_goals exact⟨_,rfl,⟨hr,HX.o.source,aC lc ah,HX.o.bM,HX.o.src,HX.o.dst,by simp[Aw],HK.o⟩,hM.below⟩
 refine ar ?_;exact⟨_,rfl,⟨HX.o.seq,HX.o.source,HX.o.sink,HX.o.bM,HX.o.src,HX.o.dst,ha,HK.o⟩,hM.below⟩;refine ar ?_;exact⟨_,rfl,⟨HX.o.seq,HX.o.source,HX.o.sink,HX.o.bM,HX.o.src,HX.o.dst,HX.o.nK,HK.o⟩,hM.below⟩;refine ar ?_;exact⟨_,rfl,⟨HX.o.seq,HX.o.source,HX.o.sink,HX.o.bM,HX.o.src,HX.o.dst,by simp[Aw],HK.o⟩,hM.below⟩
def Hy(K:Bs)(d d':Ez):Prop:=WD d→WD d'∧getD d' K=getD d K
def GH(K:Bs)(d:Ez)(r:Ez×Int):Prop:=r.2=0→Hy K d r.1
section
variable{K:Bs}{d d' d2:Ez}
theorem Hy.refl(K:Bs)(d:Ez):Hy K d d:=fun h=>⟨h,rfl⟩
def Hy.trans(h:Hy K d d')(k:Hy K d' d2):Hy K d d2:=fun hW=>⟨(k (h hW).1).1,(k (h hW).1).2.trans (h hW).2⟩
theorem Ku {k v:Bs}(hk:k≠K):GH K d (jM d k v,nD d k v):=fun he hW=>by
 have he':nD d k v=0:=he;have e:jM d k v=Bf d k v:=by simp_all[jM]
 rw[show(jM d k v,nD d k v).1=Bf d k v from e];exact⟨hW.put he',Ud hW.1 (fun h=>hk h.symm)⟩
theorem Qg {k:Bs}(hk:k≠K):Hy K d (rh d k):=fun hW=>⟨hW.drop k,PE hW.1 (fun h=>hk h.symm)⟩
theorem ik(e:Int):Hy K d (bY d e).1:=Hy.refl K d
def Fh {e:Int}{r:ls}(h:e=0→Hy K d d'):Hy K d (vw d d' e r).1:=by grind[vw,ik]
theorem Qi {k v:Bs}(hk:k≠K):Hy K d (vz d k v).1:=Fh (fun he=>Ku hk he)
def MH {r1 r2:Ez×Int}(h1:GH K d r1)(h2:GH K r1.1 r2):GH K d (pQ r1 r2):=by
 unfold pQ;split;·rename_i he;exact fun h=>(h1 he).trans (h2 h)
 omega
def Qh {k:Bs}{n:W4}(hk:k≠K):GH K d (mU d k n):=by grind[mU,Ku,GH]
def Qe {k:Bs}{n:W4}(hk:k≠K):GH K d (jp d k n):=by grind[jp,Qg,Ku,GH]
def pP {a:UInt8}{l:Bs}(hK:K.head?=some 67)(ha:a≠67):a::l≠K:=ai
theorem Qf {a den:Bs}{n:W4}(hK:K.head?=some 67):GH K d (my d a den n):=by unfold my;split;split;exact MH (Qh (pP hK ae)) (Qh (pP hK ae));simp[GH];simp[GH]
theorem alR {a den:Bs}{n:W4}(hK:K.head?=some 67):GH K d (zf d a den n):=by unfold zf;split;exact MH (Qe (pP hK ae)) (Qe (pP hK ae));simp[GH]
theorem KK {a b den:Bs}{n:W4}(hK:K.head?=some 67):GH K d (ka d a b den n):=by unfold ka;split;split;simp[Hy.refl,GH];exact MH (Qe (pP hK ae)) (Qh (pP hK ae));simp[GH]
def alP {p:kY}(hK:K.head?=some 67):GH K d (Ew d p):=by grind[Ew,BJ,alR,KK,GH]
def ae4 {p:kY}(hK:K.head?=some 67):GH K d (qM d p):=by grind[qM,uU,Qf,KK,GH]
def alQ {p:kY}(hK:K.head?=some 67):GH K d (pI d p):=by grind[pI,AS,KK,Qf,GH]
def Rf {r:Ez×Int}{k v:Bs}(hr:GH K d r)(hk:k≠K):GH K d (Ev r k v):=by
 unfold Ev;split;·rename_i he;exact fun h=>(hr he).trans (Ku hk h)
 omega
theorem WH {c:UInt8}{T:bR}{t:Int}{id:Bs}{x:Tx}{L:List ez}{b:Bool}(hK:K.head?=some 67)(hc:c≠67):Hy K d (nT c T d t id x L b).1:=by unfold nT;exact SC
theorem Re {c:UInt8}{T:bR}{t:Int}{id:Bs}{x:Tx}{own:En}{L:List ez}{b:Bool}(hK:K.head?=some 67)(hc:c≠67):Hy K d (kH c T d t id x own L b).1:=by unfold kH;exact SC
def aig {T:bR}{p:kY}(hK:K.head?=some 67):Hy K d (AB T d p).1:=by
 unfold AB;split
 ·unfold ut;repeat' split
  all_goals first|exact ik _|skip
  unfold Ln;exact Fh (fun h=>Rf (Rf (alP hK) (pP hK ae)) (pP hK ae) h)
 simp[ik]
theorem WJ {T:bR}{p:kY}{a:Bs}(hK:K.head?=some 67)(h:Hy K d d'):Hy K d (AC T d d' p a).1:=by unfold AC;exact Fh (fun he=>h.trans (Ku (pP hK ae) he))
def aii {T:bR}{x:Tx}{L:List ez}{h t:Int}(hK:K.head?=some 67):Hy K d (vC T d x L h t).1:=by
 unfold vC;split
 ·split
  ·unfold tr;repeat' split
   all_goals first|exact ik _|skip
   unfold Ex;split;·rename_i he;exact WJ hK (alQ hK he)
   grind[WJ,Hy.refl]
  simp[ik]
 simp[ik]
theorem WI {T:bR}{p:kY}{S:Bs→Bool×Int}(hK:K.head?=some 67):Hy K d (rE T d p S).1:=by
 unfold rE;split
 ·split
  ·unfold BN;repeat' split
   all_goals first|exact ik _|exact Qg (pP hK ah)|skip
   rename_i he;exact(ae4 hK he).trans (Qg (pP hK ae))
  simp[ik]
 simp[ik]
def agw {T:bR}{x:Tx}{L:List ez}{G:jN}{h t:Int}(hK:K.head?=some 67)(h3:x.kind=3→fD 67 x.id=K→(dJ d x.id).2=0)(h4:x.kind=4→fD 67 x.id≠K):Hy K d (Aq T d x L G h t).1:=by unfold Aq;by_cases k1:x.kind=1;rw[if_pos k1];unfold Il;split;exact Fh (fun e=>Qf hK e);simp[ik];rw[if_neg k1];by_cases k2:x.kind=2;rw[if_pos k2];unfold TY;split;exact Fh (fun e=>KK hK e);simp[ik];rw[if_neg k2];by_cases k3:x.kind=3;rw[if_pos k3];grind[oq,ik,Qi];rw[if_neg k3];by_cases k4:x.kind=4;rw[if_pos k4];grind[Im,ik,Qi];rw[if_neg k4];by_cases k5:x.kind=5∨x.kind=6;rw[if_pos k5];grind[nM,ik,WH];rw[if_neg k5];by_cases k6:x.kind=7∨x.kind=8;rw[if_pos k6];grind[ot,ik,Re];rw[if_neg k6];by_cases k7:x.kind=9∨x.kind=10;rw[if_pos k7];grind[wP,ik,WH];rw[if_neg k7];by_cases k8:x.kind=11∨x.kind=12;rw[if_pos k8];grind[uT,ik,Re];rw[if_neg k8];by_cases k9:x.kind=13;simp_all[aig];rw[if_neg k9];by_cases k10:x.kind=14;simp_all[aii];rw[if_neg k10];by_cases k11:x.kind=15;rw[if_pos k11];grind[BO,ik,WI];rw[if_neg k11];by_cases k12:x.kind=16;rw[if_pos k12];grind[AD,ik,WI];simp_all[ik]
def abe(c:UInt8)(id:Bs):fD c id≠[c]:=by intro h;have:=congrArg List.length h;have h2:([c]:Bs).length=1:=rfl;grind[IR]
def apY {T:bR}{x:Tx}{L:List ez}{G:jN}{h t:Int}(hW:WD d):WD (Aq T d x L G h t).1:=(agw (K:=[67]) rfl (fun _ e=>absurd e (abe _ _)) (fun _=>abe _ _) hW).1
def aoA {T:bR}{x:Tx}{L:List ez}{G:jN}{h t:Int}{id:Bs}(hW:WD d)(hc:(gK (Be d (fD 67 id))).2=0)(hu:x.kind≠4):getD (Aq T d x L G h t).1 (fD 67 id)=getD d (fD 67 id):=(agw (K:=fD 67 id) rfl (fun _ e=>by grind[dJ]) (fun k=>absurd k hu) hW).2
def BD(r:ls):Prop:=(0≤r.seq∧r.seq≤1099511627776)∧r.nK.length≤4000
theorem BQ:BD ic:=⟨⟨ef _,ah⟩,ah⟩
theorem iD(e:Int):BD (bY d e).2:=BQ
theorem Fg {e:Int}{r:ls}(h:BD r):BD (vw d d' e r).2:=by grind[vw,iD]
theorem KL {k v:Bs}:BD (vz d k v).2:=Fg BQ
theorem WL {c:UInt8}{T:bR}{t:Int}{id:Bs}{x:Tx}{L:List ez}{b:Bool}:BD (nT c T d t id x L b).2:=by grind[nT,iD,KL]
theorem Rg {c:UInt8}{T:bR}{t:Int}{id:Bs}{x:Tx}{own:En}{L:List ez}{b:Bool}:BD (kH c T d t id x own L b).2:=by grind[kH,iD,KL]
def aoz(id:Bs):0≤BG d id∧BG d id≤1099511627776:=by unfold BG;split;unfold mj;split;grind[ei];simp;simp
theorem WK {T:bR}{p:kY}{S:Bs→Bool×Int}:BD (rE T d p S).2:=by
 unfold rE;split
 ·split
  ·unfold BN;repeat' split
   all_goals exact iD _
  simp[iD]
 simp[iD]
theorem aih {T:bR}{p:kY}{a:Bs}(h:a.length≤4000):BD (AC T d d' p a).2:=by unfold AC;exact Fg ⟨BQ.1,h⟩
def ars {T:bR}{x:Tx}{L:List ez}{G:jN}{h t:Int}:BD (Aq T d x L G h t).2:=by
 unfold Aq;by_cases k0:x.kind=1;rw[if_pos k0];grind[Il,Fg,BQ,iD];rw[if_neg k0];by_cases k1:x.kind=2;rw[if_pos k1];grind[TY,Fg,BQ,iD];rw[if_neg k1];by_cases k2:x.kind=3;rw[if_pos k2];grind[oq,iD,KL];rw[if_neg k2];by_cases k3:x.kind=4;rw[if_pos k3];grind[Im,iD,KL];rw[if_neg k3];by_cases k4:x.kind=5∨x.kind=6;rw[if_pos k4];grind[nM,iD,WL];rw[if_neg k4];by_cases k5:x.kind=7∨x.kind=8;rw[if_pos k5];grind[ot,iD,Rg];rw[if_neg k5];by_cases k6:x.kind=9∨x.kind=10;rw[if_pos k6];grind[wP,iD,WL];rw[if_neg k6];by_cases k7:x.kind=11∨x.kind=12;rw[if_pos k7];grind[uT,iD,Rg];rw[if_neg k7];by_cases k8:x.kind=13
 ·rw[if_pos k8];unfold AB;split
  ·unfold ut;repeat' split
   all_goals first|exact iD _|skip
   unfold Ln;exact Fg ⟨aoz _,BQ.2⟩
  simp[iD]
 rw[if_neg k8];by_cases k9:x.kind=14;rw[if_pos k9];grind[vC,tr,iD,Ex,aih,yN];rw[if_neg k9];by_cases k10:x.kind=15;rw[if_pos k10];grind[BO,iD,WK];rw[if_neg k10];by_cases k11:x.kind=16;rw[if_pos k11];grind[AD,iD,WK];simp_all[iD]
end
def Gh {I:MF}{fs:List MF}{w0 w:World}{l:List MB}{rs:List MR}(r:ls)(g n c:Nat)(p:Option Addr)(L:List ls)(hM:Fm I w0 none w ((g,59,#[.slice p n c])::l) ((.slice p n c,249,3,L.length,L.flatMap wA)::rs) fs)(hL:L.length≤100000):Calls prog 165 #[.agg (sn r),aG g] w fun e w'=>∃g' c',e=.returned (.tuple #[])∧Fm I w0 none w' ((g,59,#[.slice (some (aD g' 0)) (L.length+1) c'])::l) ((.slice (some (aD g' 0)) (L.length+1) c',249,3,(L++[r]).length,(L++[r]).flatMap wA)::rs) fs:=by
 go_enter func165,ntmps165;go_wp2_with(first|(refine aP ?_)|(refine bx ?_;intro wN hM)|(refine bw ?_;intro gN wN hM)|(refine vg ?_;intro gN cN wN hM));have e:(L++[r]).flatMap wA=L.flatMap wA++(sn r).toList:=by simp[sn]
 go_end0;refine⟨gN,cN,rfl,?_⟩;rw[e,aw];exact hM.less (List.Sublist.cons _ (List.Sublist.cons _ (aB _))) (aB _) (fun _ h=>h)
def Lh.tx {x}(h:Lh x)q u:lW (yK x q u):=⟨h.id,h.over,h.peer,h.dj,h.key,h.chain,h.source,h.sink,h.bM,h.src,h.dst,h.nK,h.seq⟩
def abF s:(dK s).1.path.length≤16:=by unfold dK;obtain⟨⟨L,r⟩,hl⟩:∃l,sZ 112 16 32 (ei 109 2000 (ei 105 2000 (s,false)).2).2=l:=⟨_,rfl⟩;have hb:=(CN hl ae ae).2;simp only[hl];split;grind;simp[zA]
def asF s:0≤(dK s).1.at_∧(dK s).1.at_≤2000:=by unfold dK;obtain⟨⟨n,r⟩,hl⟩:∃l,ei 105 2000 (s,false)=l:=⟨_,rfl⟩;have hb:=iV hl;simp only[hl];split;grind;simp[zA]
def anf L(h:∀x∈L,(x.length:Int)≤4000):(LR L).length≤1∧∀y∈LR L,y.1.length≤4000∧y.2.length≤4000:=by match L with|[]=>simp[LR]|[a]=>simp[LR]|a::b::r=>have h1:=h a ae;have h2:=h b ae;refine⟨au _,fun y hy=>?_⟩;grind[LR]
def abP r:((dS r).1.length≤1∧∀y∈(dS r).1,y.1.length≤4000∧y.2.length≤4000)∧(dS r).2.1.path.length≤16∧0≤(dS r).2.1.at_∧(dS r).2.1.at_≤2000:=by unfold dS;obtain⟨⟨L,r1⟩,hl⟩:∃l,sZ 101 2 4000 r=l:=⟨_,rfl⟩;have hb:=(CN hl ae ae).1;simp only[hl];split;exact⟨anf L hb,abF _,asF _⟩;simp[zA]
def afE s:(0≤(eM s).1.many∧(eM s).1.many≤2000)∧(((eM s).1.left.length≤1∧∀y∈(eM s).1.left,y.1.length≤4000∧y.2.length≤4000)∧(eM s).1.a.path.length≤16∧0≤(eM s).1.a.at_∧(eM s).1.a.at_≤2000)∧((eM s).1.right.length≤1∧∀y∈(eM s).1.right,y.1.length≤4000∧y.2.length≤4000)∧(eM s).1.b.path.length≤16:=by unfold eM;obtain⟨⟨n,r⟩,hl⟩:∃l,ei 109 2000 (s,false)=l:=⟨_,rfl⟩;have hb:=iV hl;have h1:=abP r;obtain⟨x,hx⟩:=aZ (dS r);rw[hx]at h1;have h2:=abP x.2.2.2;obtain⟨y,hy⟩:=aZ (dS x.2.2.2);rw[hy]at h2;simp only[hl,hx,hy];split;grind;exact⟨⟨ef _,ah⟩,⟨⟨aI _,by simp[OQ]⟩,aI _,ef _,(ae:(0:Int)≤2000)⟩,⟨aI _,by simp[OQ]⟩,aI _⟩
def Qq(r:ez):Mp r.1=r:=Subtype.ext (by unfold Mp Eg;grind)
theorem jZ(c aU n:Int)(rest:Bs)(c0:0≤c)(c1:c≤255)(h0:0≤n)(h1:n≤aU)(hm:aU≤1099511627776):ei c aU (dN c n.toNat++rest,false)=(n,rest,false):=by grind[VY]
theorem aby(c aU:Int)(s:Bs)(c0:0≤c)(c1:c≤255)(hs:s.length≤16777215)(hm:(s.length:Int)≤aU):bq c aU (bA c s,false)=(s,[],false):=by have:=iM c aU s [] c0 c1 hs hm;grind
def agM(c many aU:Int)(L:List Bs)(c0:0≤c)(c1:c≤255)(h1:∀b∈L,(b.length:Int)≤aU)(h2:aU≤6000)(hl:(lj c L).length≤16777215)(hm:(L.length:Int)≤many):sZ c many aU (qf c L,false)=(L,[],false):=by have:=ag6 c many aU L [] c0 c1 h1 (fun b hb=>ai) hl hm;grind
def KS:mV (([]:Bs),false)=0:=rfl
def vi {h:qh}(hk:lH h=true):h.chain≠[]∧h.chain.length≤32∧1≤h.ay∧0≤h.time∧max h.ay h.time≤1099511627776:=by simp_all[lH]
theorem LP {h:qh}(hk:lH h=true):eR (qV h)=(h,0):=by
 obtain⟨a1,a2,a3,a4,a5⟩:=vi hk;have e1:bq 99 32 (qV h,false)=(h.chain,dN 104 h.ay.toNat++(dN 116 h.time.toNat++bA 114 h.root.1),false):=iM 99 32 _ _ ae ae ab ab;have e2:=jZ 104 1099511627776 h.ay (dN 116 h.time.toNat++bA 114 h.root.1) ae ae ab ab (ef _);have e3:=jZ 116 1099511627776 h.time (bA 114 h.root.1) ae ae ab ab (ef _);have e4:=aby 114 32 h.root.1 ae ae ai ai;have e5:(⟨h.chain,h.ay,h.time,Mp h.root.1⟩:qh)=h:=by rw[Qq]
 unfold eR;simp only[e1,e2,e3,e4,e5];rw[if_pos ⟨h.root.2,KS,hk⟩]
def zO {C:qi}(h:jt C=true):(C.key.length≤64∧1≤C.period∧C.period≤1099511627776∧1≤C.bh.length∧C.bh.length≤32)∧lB C.chain C.bh=true:=by simp_all[jt]
theorem MT {C:qi}(h:jt C=true){s:jL}(hs:s∈C.bh):lH (mW C.chain s)=true:=by obtain⟨i,hi,rfl⟩:=iW.1 hs;exact(zj.1 (zO h).2 i hi).1
def acE {C:qi}(h:jt C=true):C.chain.length≤32:=by have h1:=(zO h).1.2.2.2.1;have h2:=MT h (bH (show 0<C.bh.length from ab));exact(vi h2).2.1
theorem ao0(c:Bs)(s:jL):mz (mW c s)=s:=rfl
def LQ {C:qi}(h:jt C=true):gK (vh C)=(C,0):=by
 have hc:=acE h;obtain⟨⟨a1,a2,a3,a4,a5⟩,a6⟩:=zO h;have hb:∀b∈pW C.chain C.bh,b.length≤96:=fun b hb=>RQ;have aqz:=ry 115 96 _ hb;have hlen:(pW C.chain C.bh).length=C.bh.length:=fR ..;have hl:(lj 115 (pW C.chain C.bh)).length≤16777215:=ab;have hfr:(Wa C.frozen).toNat=(Wa C.frozen).toNat:=rfl;have e1:bq 99 32 (vh C,false)=(C.chain,bA 107 C.key++(dN 112 C.period.toNat++(dN 102 (Wa C.frozen).toNat++qf 115 (pW C.chain C.bh))),false):=iM 99 32 _ _ ae ae ab ab;have e2:=iM 107 64 C.key (dN 112 C.period.toNat++(dN 102 (Wa C.frozen).toNat++qf 115 (pW C.chain C.bh))) ae ae ab ab;have e3:=jZ 112 1099511627776 C.period (dN 102 (Wa C.frozen).toNat++qf 115 (pW C.chain C.bh)) ae ae ab ab (ef _);have e4:=jZ 102 1 (Wa C.frozen) (qf 115 (pW C.chain C.bh)) ae ae (by grind[Wa]) (by grind[Wa]) ae;have e5:=agM 115 32 200 (pW C.chain C.bh) ae ae (fun b hx=>ai) ae hl ab;have e6:(Wa C.frozen==1)=C.frozen:=by grind[Wa]
 have e7:(pW C.chain C.bh).map (fun t=>mz (eR t).1)=C.bh:=by
  have xX:∀s∈C.bh,mz (eR (qV (mW C.chain s))).1=s:=fun s hs=>by grind[LP,MT,ao0]
  simp_all[pW,qz]
 have e8:(⟨C.chain,C.key,C.period,C.frozen,C.bh⟩:qi)=C:=rfl;unfold gK;simp only[e1,e2,e3,e4,e5,e6,e7,e8];have ko:∀t∈pW C.chain C.bh,(eR t).2=0∧(eR t).1.chain=C.chain:=fun t ht=>by obtain⟨s,hs,rfl⟩:=eu.1 ht;rw[LP (MT h hs)];simp[mW]
 simp_all[KS]
def zL {h t:Int}{L:List Bs}(k:yx h t L=true):(1≤h∧0≤t∧max h t≤1099511627776∧L.length≤16)∧∀x∈L,x.length≤6000:=by simp_all[yx]
def ZQ {h t:Int}{L:List Bs}(k:yx h t L=true):qg (yT h t L)=(⟨h,t,L⟩,0):=by obtain⟨⟨a1,a2,a3,a4⟩,a5⟩:=zL k;have hl:=XX a4 a5;have e1:ei 104 1099511627776 (yT h t L,false)=(h,dN 116 t.toNat++qf 120 L,false):=jZ 104 1099511627776 h _ ae ae ab ab (ef _);have e2:=jZ 116 1099511627776 t (qf 120 L) ae ae ab ab (ef _);have e3:=agM 120 16 6000 L ae ae (fun b hb=>ai) ae ab ab;simp_all[BY,qg,KS]
def zh(G:Ml)(u:Sl4):jN:=⟨⟨G.many,u.l,u.r,⟨G.a.at_,G.a.many,u.a⟩,⟨G.b.at_,G.b.many,u.b⟩⟩,G.left,G.right,G.a.path,G.b.path⟩
def akx(G:Ml):Prop:=(0≤G.many∧G.many≤2000)∧((G.left.length≤1∧∀y∈G.left,y.1.length≤4000∧y.2.length≤4000)∧G.a.path.length≤16∧0≤G.a.at_∧G.a.at_≤2000)∧(G.right.length≤1∧∀y∈G.right,y.1.length≤4000∧y.2.length≤4000)∧G.b.path.length≤16
def akK {G:Ml}(h:akx G)(u:Sl4):(zh G u).Ok:=by obtain⟨h1,⟨⟨h2,h3⟩,h4,h5⟩,⟨h6,h7⟩,h8⟩:=h;exact⟨h1,h5,by show G.a.path.length≤_;omega,by show G.b.path.length≤_;omega,by show G.left.length≤_;omega,by show G.right.length≤_;omega,fun y hy=>by have:=h3 y hy;omega,fun y hy=>by have:=h7 y hy;omega⟩
def Lh.auI {x:TxP}(h:Lh x):akx x.fx:=by obtain⟨s,hs⟩:=h.fx;rw[hs];exact afE s
def Lh.path {x:TxP}(h:Lh x):x.proof.path.length≤16:=by obtain⟨s,hs⟩:=h.proof;rw[hs];exact abF s
def wB:Sl4:=⟨eV,eV,eV,eV⟩
noncomputable def Gi(T:bR)(d:Ez)(h t:Int)(s:Bs):Ez×ls:=if(fe s).2=0 then Aq T d (yK (fe s).1 eV wB) (fe s).1.proof.path (zh (fe s).1.fx wB) h t else(d,{ic with err:=10})
def apd(T:bR)(d:Ez)(id:Bs)(ay time:Int)(key value:Bs)(a m:Int)(L:List ez):Int:=gV T d id ay time key value ⟨a,m,eV⟩ L
def afF(T:bR)(d:Ez)(id:Bs)(ay time:Int)(key value:Bs)(a m:Int)(q:Sl)(L:List ez):gV T d id ay time key value ⟨a,m,q⟩ L=apd T d id ay time key value a m L:=aq
def avq(T:bR)(d:Ez)(id:Bs)(ay time:Int)(key:Bs)(G:Ml):jL×Int:=zq T d id ay time key (zh G wB)
def amJ(T:bR)(d:Ez)(id:Bs)(ay time:Int)(key:Bs)(G:Ml)(u:Sl4):zq T d id ay time key (zh G u)=avq T d id ay time key G:=aq
def anU(T:bR)(d:Ez)(x:TxP)(q:Sl)(u:Sl4)(L:List ez)(h t:Int):Aq T d (yK x q u) L (zh x.fx u) h t=Aq T d (yK x eV wB) L (zh x.fx wB) h t:=by unfold Aq nM ot wP uT vC BO AD Im nT kH tr aaA BM;simp only[yK,afF,amJ];rfl
noncomputable def ss(T:bR)(h t:Int)(d:Ez)(L:List Bs):Ez:=L.foldl (fun d s=>(Gi T d h t s).1) d
def ahh(T:bR)(h t:Int)(d:Ez)(L:List Bs)(s:Bs):ss T h t d (L++[s])=(Gi T (ss T h t d L) h t s).1:=by simp[ss]
theorem agQ {T:bR}{d:Ez}{h t:Int}{s:Bs}(hW:WD d):WD (Gi T d h t s).1:=by unfold Gi;by_cases h0:(fe s).2=0;all_goals simp_all[apY]
theorem XY {T:bR}{h t:Int}{L:List Bs}:∀{d:Ez},WD d→WD (ss T h t d L):=by induction L<;>grind[ss,Gi,agQ]
def kK:Bs:=fD 67 [107]
structure aj6 (HS : jL → Prop) (nm key : Bs) (d : Ez) (C : qi) : Prop where
  at_ : getD d kK = some (vh C)
  ok : jt C = true
  fz : C.frozen = false
  chain : C.chain = nm
  key : C.key = key
  st : ∀ s ∈ C.bh, HS s
def yW(HS:jL→Prop)(nm key:Bs)(d:Ez):Prop:=∃C,aj6 HS nm key d C
structure anB (HS : jL → Prop) : Prop where
  one : ∀ s s', HS s → HS s' → s.ay = s'.ay → s = s'
  up : ∀ s s', HS s → HS s' → s.ay < s'.ay → s.time ≤ s'.time
def jo(HS:jL→Prop)(s:Bs):Prop:=(fe s).2=0→(fe s).1.kind=4→(fe s).1.id=[107]∧HS (mz (fe s).1.header)
def yW.mono {HS HS':jL→Prop}{nm key:Bs}{d:Ez}(h:yW HS nm key d)(k:∀s,HS s→HS' s):yW HS' nm key d:=by obtain⟨C,h1,h2,h3,h4,h5,h6⟩:=h;exact⟨C,h1,h2,h3,h4,h5,fun s hs=>k s (h6 s hs)⟩
def jo.mono {HS HS':jL→Prop}{s:Bs}(h:jo HS s)(k:∀s,HS s→HS' s):jo HS' s:=fun h1 h2=>⟨(h h1 h2).1,k _ (h h1 h2).2⟩
def ai2 {HS:jL→Prop}(hH:anB HS){C:qi}{s:jL}(hf:C.frozen=false)(ko:∀s∈C.bh,HS s)(hs:HS s):(zk C s).frozen=false∧(zk C s).chain=C.chain∧(zk C s).key=C.key∧∀s'∈(zk C s).bh,HS s':=by
 have akw:∀i(hi:i<C.bh.length),i<AX C.bh s.ay→C.bh[i].ay<s.ay:=by simp_all[AX]
 unfold zk;rcases hq:C.bh[AX C.bh s.ay]? with _|s0;have hb:UU C.bh s.ay=false:=by grind[UU]
 have hlen:C.bh.length≤AX C.bh s.ay:=List.getElem?_eq_none_iff.1 hq;rw[hb,if_neg ae,if_neg];grind[Ft];rintro(⟨h0,h1⟩|⟨h0,h1⟩);by_cases hi:AX C.bh s.ay-1<C.bh.length;rw[sw hi]at h1;have h2:=akw _ hi ab;have h3:=hH.up _ _ (ko _ (bH hi)) hs h2;grind[jV];grind[Wc];omega;obtain⟨hi,rfl⟩:=bf.1 hq;have hm:=ko _ (bH hi);have vq:s.ay≤C.bh[AX C.bh s.ay].ay:=by grind[AX]
 have hb:UU C.bh s.ay=(C.bh[AX C.bh s.ay].ay==s.ay):=by grind[UU]
 by_cases he:C.bh[AX C.bh s.ay].ay=s.ay;rw[hb,if_pos ai,sw hi,if_pos (hH.one _ _ hm hs he)];grind;rw[hb,if_neg ai,if_neg];grind[Ft];rintro(⟨h0,h1⟩|⟨h0,h1⟩);have hi':AX C.bh s.ay-1<C.bh.length:=ab;rw[sw hi']at h1;have h2:=akw _ hi' ab;have h3:=hH.up _ _ (ko _ (bH hi')) hs h2;grind[jV];rw[sw hi]at h1;have h2:s.ay<C.bh[AX C.bh s.ay].ay:=ab;have h3:=hH.up _ _ hs hm h2;grind[jV]
def amI {T:bR}{d:Ez}{x:Tx}{L:List ez}{G:jN}{h t:Int}(hk:x.kind=4):Aq T d x L G h t=Im T d x t:=by simp_all[Aq]
def Yw {HS:jL→Prop}{nm key:Bs}{d:Ez}{C:qi}(h:aj6 HS nm key d C):dJ d [107]=(C,0):=by unfold dJ Be;rw[show getD d (fD 67 [107])=some (vh C)from h.at_];exact LQ h.ok
theorem ai3 {HS:jL→Prop}(hH:anB HS){T:bR}{nm key:Bs}{d:Ez}{h t:Int}{s:Bs}(hW:WD d)(hI:yW HS nm key d)(hg:jo HS s):yW HS nm key (Gi T d h t s).1:=by obtain⟨C,hC⟩:=hI;unfold jo at hg;unfold Gi;obtain⟨⟨P,e0⟩,hP⟩:∃r,fe s=r:=⟨_,rfl⟩;rw[hP]at hg⊢;simp only[]at hg⊢;by_cases h0:e0=0;rw[if_pos h0];by_cases hk:P.kind=4;obtain⟨hid,hs⟩:=hg h0 hk;rw[amI (show(yK P eV wB).kind=4 from hk)];have awK:(yK P eV wB).id=[107]:=hid;unfold Im;rw[awK,Yw hC,if_pos rfl];obtain⟨⟨D,er⟩,hD⟩:∃r,sR T C (yK P eV wB).header (yK P eV wB).tC t=r:=⟨_,rfl⟩;simp only[hD];by_cases he:er=0;subst he;rw[if_pos rfl];obtain⟨k1,k2,k3,k4⟩:=Wb hC.ok hD;have hs':HS (mz (yK P eV wB).header):=hs;obtain⟨g1,g2,g3,g4⟩:=ai2 hH hC.fz hC.st hs';rw[←k2]at g1 g2 g3 g4;unfold vz vw;by_cases hp:nD d (fD 67 [107]) (vh D)=0;rw[if_pos hp];refine⟨D,?_,k1,g1,g2.trans hC.chain,g3.trans hC.key,g4⟩;show getD (jM d (fD 67 [107]) (vh D)) kK=_;unfold jM;rw[if_pos hp];exact Iz hW.1 _ _;rw[if_neg hp];exact⟨C,hC⟩;rw[if_neg he];exact⟨C,hC⟩;have aqg:=aoA (T:=T) (x:=yK P eV wB) (L:=P.proof.path) (G:=zh P.fx wB) (h:=h) (t:=t) (id:=[107]) hW (by have:=Yw hC;grind[dJ]) (show(yK P eV wB).kind≠4 from hk);exact⟨C,aqg.trans hC.at_,hC.ok,hC.fz,hC.chain,hC.key,hC.st⟩;rw[if_neg h0];exact⟨C,hC⟩
def ai1 {HS:jL→Prop}(hH:anB HS){T:bR}{nm key:Bs}{h t:Int}:∀(L:List Bs){d:Ez},WD d→yW HS nm key d→(∀s∈L,jo HS s)→yW HS nm key (ss T h t d L):=by intro L;induction L with|nil=>intro d _ hI _;exact hI|cons s L ih=>grind[ss,agQ,ai3]
section
def Fm.perm {I:MF}{w0 w:World}{row:Option Nat}{l l':List MB}{rs uR:List MR}{fs:List MF}(h:Fm I w0 row w l rs fs)(hl:l.Perm l')(hr:rs.Perm uR):Fm I w0 row w l' uR fs:=⟨h.mem.perm hl hr,h.wC,fun Q hQ=>(h.fact Q hQ).move (au _) (fun _ _ _ _ _=>rfl) (fun x hx=>.inl ⟨x,hl.symm.subset hx,rfl⟩) (fun x hx b e=>.inr (.inl ⟨x,hr.symm.subset hx,e⟩))⟩
def aqy(T:bR)(d:Ez)(s q:Sl)(L:List Bs):MF:=fun W=>co W (aF s) d∧ke W (aF q) L∧be T W
def as4(d:Ez)(s rv ev:Sl)(R:List ls)(E:List oM):MF:=fun W=>co W (aF s) d∧di W (aF rv) wA 3 R∧di W (aF ev) yJ 15 E
def akc {T:bR}{G:Ml}{u:Sl4}{W:World}(h:OJ u G W)(hT:be T W):(zh G u).I T W:=⟨h.1.1,h.2.1,h.1.2,h.2.2,hT⟩
def aeu(s:Bs):(fe s).2=0∨(fe s).2=10:=by unfold fe;simp only[];split;exact .inl rfl;exact .inr rfl
section
variable{I J:MF}{fs:List MF}{w0 w:World}{row:Option Nat}{l:List MB}{rs:List MR}{R:Ending→World→Prop}
def cRd(hM:Fm I w0 row w l rs fs){s:Bs}{P:TxP}{er:Int}(h:fe s=(P,er))(hs:s.length≤1000000)(k:∀(X:Tx)(q:Sl)(u:Sl4)w',Hid (X=yK P q u)→X.kind=P.kind→Fm I w0 row w' l rs ((fun W=>lP W (aF q) P.proof.path∧OJ u P.fx W)::fs)→R (.returned (.tuple #[.agg (dA X),al er])) w'):Calls prog 166 #[str s] w fun e w'=>R e w':=(YJ s w hs).mono fun e w'⟨q,u,h1,h2,h3⟩=>by rw[h]at h1 h2;rw[h1];exact k _ q u w' (ag rfl) rfl (hM.vP h3 jh.EL h2)
def cDo(hM:Fm I w0 row w l rs fs){T:bR}{d d2:Ez}{r2:ls}{s q:Sl}{u:Sl4}{h t:Int}{P:TxP}{X:Tx}(hX:X=yK P q u){i j m:Nat}(hi:fs[i]?=some (fun W=>co W (aF s) d))(hj:fs[j]?=some (fun W=>lP W (aF q) P.proof.path∧OJ u P.fx W))(hm:fs[m]?=some (be T))(hW:WD d)(hP:Lh P)(hD:Aq T d (yK P eV wB) P.proof.path (zh P.fx wB) h t=(d2,r2))(k:∀(s2:Sl)w',Fm I w0 row w' l rs ((fun W=>co W (aF s2) d2)::fs)→R (.returned (.tuple #[.agg #[aF s2],.agg (sn r2)])) w'):Calls prog 167 #[.agg #[aF s],.agg (dA X),al h,al t] w fun e w'=>R e w':=by subst hX;have h1:=hM.get hj;have h2:=hM.get hm;refine(art T d s h t (yK P q u) P.proof.path (zh P.fx u) w ⟨hM.get hi,h1.1,akc h1.2 h2⟩ hW (by have:=hP.path;omega) rfl (akK hP.auI u) (hP.tx q u)).mono fun e w'⟨s2,k1,k2,k3⟩=>?_;rw[anU,hD]at k1 k2;rw[k1];exact k s2 w' (hM.vP k3 (((hM.st hi).and ((hM.st hj).and (hM.st hm))).mono fun W kk=>⟨kk.1,kk.2.1.1,akc kk.2.1.2 kk.2.2⟩) k2)
def avI(hM:Fm I w0 row w l rs fs){d:Ez}{s:Sl}{h:Int}{x:Tx}{r:ls}{i:Nat}(hi:fs[i]?=some (fun W=>co W (aF s) d))(hW:WD d)(hx:lW x)(hr:BD r)(Nk:(0≤x.aA.ay∧x.aA.ay≤1099511627776)∧0≤x.aA.time∧x.aA.time≤1099511627776)(k:∀(v:oM)w',Hid (yI v)→Fm I w0 row w' l rs fs→R (.returned (.agg (iw v))) w'):Calls prog 168 #[.agg #[aF s],al h,.agg (dA x),.agg (sn r)] w fun e w'=>R e w':=(ahg d s h x r w (hM.get hi) hW hx hr.1 hr.2 Nk).mono fun e w'⟨v,h1,h2,h3⟩=>by rw[h1];exact k v w' (ag h2) (hM.step h3)
end
def noKind {X:Tx}{P:TxP}(h:X.kind=P.kind)(h6:¬(13:Int)≤P.kind):decide ((13:Int)≤X.kind)=false:=by rw[h];exact cP h6
structure Lg (L : List Bs) (k : Nat) (R : List ls) (E : List oM) (rp : Option Addr) (rc : Nat) (ep : Option Addr) (ec : Nat) : Prop where
  r : R.length ≤ k
  e : E.length ≤ k
  ok : ∀ v ∈ E, yI v
  r0 : R = [] → rp = none ∧ rc = 0
  e0 : E = [] → ep = none ∧ ec = 0
def ajO {α:Type}(a b c:α)(l:List α):(a::b::c::l).Perm (c::a::b::l):=((List.Perm.swap c b l).cons a).trans (List.Perm.swap c a (b::l))
section
variable{L:List Bs}{k:Nat}{R:List ls}{E:List oM}{rp ep:Option Addr}{rc ec:Nat}
def Lg.told(h:Lg L k R E rp rc ep ec)(r:ls)(g c:Nat):Lg L (k+1) (R++[r]) E (some (aD g 0)) c ep ec:=⟨by have:=h.r;exact aR,by have:=h.e;omega,h.ok,fun e=>by simp at e,h.e0⟩
def Lg.evt(h:Lg L k R E rp rc ep ec)(r:ls){v:oM}(hv:yI v)(g c g' c':Nat):Lg L (k+1) (R++[r]) (E++[v]) (some (aD g 0)) c (some (aD g' 0)) c':=⟨by have:=h.r;exact aR,by have:=h.e;exact aR,fun u hu=>by rcases cQ.1 hu with hu|hu;exact h.ok u hu;rw[cG.1 hu];exact hv,fun e=>by simp at e,fun e=>by simp at e⟩
end
attribute[local go_sem]aF in theorem anT(T:bR)(d:Ez)(s q:Sl)(h t:Int)(L:List Bs)(w:World)(hI:aqy T d s q L w)(hW:WD d)(h1:L.length≤16)(h2:∀x∈L,x.length≤6000):Calls prog 113 #[.agg #[aF s],.agg (um ⟨h,t,q⟩)] w fun e w'=>∃(s' rv ev:Sl)(R:List ls)(E:List oM),e=.returned (.tuple #[.agg #[aF s'],aF rv,aF ev])∧dz w w' (aqy T d s q L) (as4 (ss T h t d L) s' rv ev R E)∧Lg L L.length R E rv.p rv.c ev.p ev.c∧(rv.n=R.length∧ev.n=E.length)∧Below w.heap.size w w':=by
 have hM:=Fm.kJ w (I1:=fun W=>co W (aF s) d) (I2:=fun W=>ke W (aF q) L) (I3:=be T) (fun W hb=>hI.1.step hb) (fun W hb=>hI.2.1.ajN hb) (fun W hb=>hI.2.2.step hb);obtain⟨qp,qn,qc⟩:=q;have hn:=hI.2.1.nn;have hqp:0<L.length→∃g o,qp=some (aD g o):=hI.2.1.some_;simp only[]at hn;subst hn;clear hI;go_enter func113,ntmps113;go_wp2_with(first|((with_reducible refine OI ?_);first|(refine EM hM (d:=some 2) ?_;intro g2 w2 hM)|(refine EM hM (d:=some 3) ?_;intro g3 w3 hM))|((with_reducible refine BC ?_);(refine qI hM (d:=some 4) ?_;intro g4 w4 hM)));go_step3;go_wp2_with((refine bw ?_;intro g7 w7 hM));go_step3;go_wp2_with((refine aP ?_));replace hM:=(hM.iN 254 15).iN 249 3;have HQ:=ag hqp;have HB:=ag h2;have HW:=ag hW;clear hqp h2 hW;go_loopw [8,19](fun ev iv wr=>∃(k:Nat)(R:List ls)(E:List oM)(dk:Ez)(s':Sl)(rp:Option Addr)(rc:Nat)(ep:Option Addr)(ec:Nat),k≤L.length∧ev=.slice ep E.length ec∧iv=al k∧Hid (Lg L k R E rp rc ep ec)∧Hid (dk=ss T h t d (L.take k))∧Fm (fun W=>co W (aF s) d∧ke W (.slice qp L.length qc) L∧be T W) w none wr [(g7,59,#[.slice rp R.length rc]),(g4,37,#[.slice none 0 0]),(g3,142,um ⟨h,t,⟨qp,L.length,qc⟩⟩),(g2,37,#[aF s'])] [(.slice rp R.length rc,249,3,R.length,R.flatMap wA),(.slice ep E.length ec,254,15,E.length,E.flatMap yJ)] [fun W=>co W (aF s') dk,fun W=>co W (aF s) d,fun W=>ke W (.slice qp L.length qc) L,be T])(fun _ iv _=>L.length-(intOf iv).toNat);case atStart=>exact⟨0,[],[],d,s,none,0,none,0,aI _,rfl,rfl,ag ⟨au _,au _,(by intro v hv;cases hv),fun _=>⟨rfl,rfl⟩,fun _=>⟨rfl,rfl⟩⟩,ag rfl,hM.eW (hM.st aX)⟩
 case round=>
  obtain⟨k,R,E,dk,s',rp,rc,ep,ec,hk,rfl,rfl,HS,HD,hM⟩:=hrel;by_cases eo:k<L.length
  ·obtain⟨g,o,hp⟩:=HQ.o ab;subst hp;obtain⟨x,hx⟩:=aZ (L[k]);have hxl:x.length≤6000:=by rw[←hx];exact HB.o _ (bH eo)
   replace hM:=hM.eW ((hM.st fw).mono fun W h=>show W.cell? (aD g (o+k))=some (str x)from by rw[←hx];exact ke.at_ h eo);have hWk:WD dk:=by rw[HD.o];exact XY HW.o
   have Ih:ss T h t d (L.take (k+1))=(Gi T dk h t x).1:=by rw[aS eo,hx,ahh,HD.o]
   have HN:=ag Ih;have i1:(k:Int)<(L.length:Int):=ab;have i3:(0:Int)≤(k:Int):=ab;clear hx Ih;have hR:=HS.o.r;have hE:=HS.o.e;obtain⟨⟨P,er⟩,hP⟩:∃r,fe x=r:=⟨_,rfl⟩;have UL:=aeu x;rw[hP]at UL;simp only[]at UL;rcases UL with rfl|rfl
   ·have hPO:=Vl x (by rw[hP]);rw[hP]at hPO;simp only[]at hPO;obtain⟨⟨d2,r2⟩,hD⟩:∃r,Aq T dk (yK P eV wB) P.proof.path (zh P.fx wB) h t=r:=⟨_,rfl⟩;have HNo:=ag (show(Gi T dk h t x).1=d2 by unfold Gi;rw[hP];exact(congrArg Prod.fst (if_pos rfl)).trans (by rw[hD]));have vt:BD r2:=by have:=ars (T:=T) (d:=dk) (x:=yK P eV wB) (L:=P.proof.path) (G:=zh P.fx wB) (h:=h) (t:=t);rw[hD]at this;exact this
    have hW2:WD d2:=by have:=apY (T:=T) (x:=yK P eV wB) (L:=P.proof.path) (G:=zh P.fx wB) (h:=h) (t:=t) hWk;rw[hD]at this;exact this
    have HP:=ag hP;have HPO:=ag hPO;have HDo:=ag hD;have YI:=ag vt;have Ha:=ag hW2;have HWk:=ag hWk;clear hP hPO hD vt hW2 hWk;by_cases h5:r2.err=0
    ·by_cases h6:13≤P.kind
     ·have i5:(r2.err==0)=true:=xj;have i6:(13:Int)≤P.kind:=h6;go_wp2_with(first|((with_reducible refine BC ?_);first|(refine qI hM (d:=some 12) ?_;intro g12 Nl hM)|(refine qI hM (d:=some 14) ?_;intro g14 w14 hM))|(refine aP ?_)|(refine bx ?_;intro wN hM)|(refine bw ?_;intro gN wN hM)|(refine vg ?_;intro gN cN wN hM)|(go_at_call 166;refine cRd hM HP.o ab fun X q_ u_ wN HX hXk hM=>?_)|(go_at_call 167;refine cDo hM HX.o fw aX yF HWk.o HPO.o HDo.o fun s2 wN hM=>?_)|(go_at_call 168;refine avI hM aX Ha.o (by rw[HX.o];exact HPO.o.tx _ _) YI.o (by rw[HX.o];exact HPO.o.pkt) fun v wN HV hM=>?_)|(go_at_call 165;refine(Gh _ g7 _ _ _ R (Fm.perm hM (ajO _ _ _ _) (cz _)) ab).mono ?_;rintro e wN⟨gr,cr,rfl,uo⟩;replace hM:=uo;clear uo));refine⟨⟨k+1,R++[r2],E++[v],d2,s2,_,cr,_,cN,ab,ua,ae,ag (HS.o.evt r2 HV.o gr cr gN cN),ag CY,?_⟩,bC⟩;have e1:(E++[v]).flatMap yJ=E.flatMap yJ++(iw v).toList:=by simp[iw]
      rw[e1];exact CX
     ·have i5:(r2.err==0)=true:=xj;have H6:=ag h6;clear h6 h5;go_wp2_with(first|((with_reducible refine BC ?_);first|(refine qI hM (d:=some 12) ?_;intro g12 Nl hM)|(refine qI hM (d:=some 14) ?_;intro g14 w14 hM))|(refine aP ?_)|(refine bx ?_;intro wN hM)|(go_at_call 166;refine cRd hM HP.o ab fun X q_ u_ wN HX hXk hM=>?_;have i7:=noKind hXk H6.o;clear hXk)|(go_at_call 167;refine cDo hM HX.o fw aX yF HWk.o HPO.o HDo.o fun s2 wN hM=>?_)|(go_at_call 165;refine(Gh _ g7 _ _ _ R (Fm.perm hM (ajO _ _ _ _) (cz _)) ab).mono ?_;rintro e wN⟨gr,cr,rfl,uo⟩;replace hM:=uo;clear uo));refine⟨⟨k+1,R++[r2],E,d2,s2,_,cr,ep,ec,ab,rfl,ae,ag (HS.o.told r2 gr cr),ag CY,?_⟩,bC⟩;exact CX
    ·have i5:(r2.err==0)=false:=xj;go_wp2_with(first|((with_reducible refine BC ?_);first|(refine qI hM (d:=some 12) ?_;intro g12 Nl hM)|(refine qI hM (d:=some 14) ?_;intro g14 w14 hM))|(refine aP ?_)|(refine bx ?_;intro wN hM)|(go_at_call 166;refine cRd hM HP.o ab fun X q_ u_ wN HX hXk hM=>?_)|(go_at_call 167;refine cDo hM HX.o fw aX yF HWk.o HPO.o HDo.o fun s2 wN hM=>?_)|(go_at_call 165;refine(Gh _ g7 _ _ _ R (Fm.perm hM (ajO _ _ _ _) (cz _)) ab).mono ?_;rintro e wN⟨gr,cr,rfl,uo⟩;replace hM:=uo;clear uo));refine⟨⟨k+1,R++[r2],E,d2,s2,_,cr,ep,ec,ab,rfl,ae,ag (HS.o.told r2 gr cr),ag CY,?_⟩,bC⟩;exact CX
   ·have HNo:=ag (show(Gi T dk h t x).1=dk by unfold Gi;rw[hP];exact congrArg Prod.fst (if_neg (ah:¬(10:Int)=0)));have HP:=ag hP;clear hP;go_wp2_with(first|(refine aP ?_)|(refine bx ?_;intro wN hM)|(refine bw ?_;intro gN wN hM)|(go_at_call 166;refine cRd hM HP.o ab fun X q_ u_ wN HX hXk hM=>?_)|(go_at_call 165;refine(Gh _ g7 _ _ _ R (Fm.perm hM (List.Perm.swap _ _ _) (cz _)) ab).mono ?_;rintro e wN⟨gr,cr,rfl,uo⟩;replace hM:=uo;clear uo));refine⟨⟨k+1,R++[{ic with err:=10}],E,dk,s',_,cr,ep,ec,ab,rfl,ae,ag (HS.o.told _ gr cr),ag CY,?_⟩,bC⟩;exact CX
  ·have e1:k=L.length:=ab;subst e1;have i1:¬(L.length:Int)<(L.length:Int):=ab;go_wp2_with fail;refine rB [3] [0,2,999] ?_;intro hM;intro hS;refine vf 1 3 ad rfl rfl aq (fun K hK=>?_) (fun K hK=>?_);rotate_left 1;focus refine rHS [1,4,5] ?_;intro wN hM
   rotate_left 1;focus refine YG [3,4,5] ?_;refine rS ?_;intro wN hM
   all_goals go_wp2_with fail
   all_goals rw[bX]
   all_goals refine bu (frr hM) rfl ?_
   all_goals refine⟨s',⟨rp,R.length,rc⟩,⟨ep,E.length,ec⟩,R,E,rfl,?_,HS.o,⟨rfl,rfl⟩,hM.below⟩
   all_goals(have eI:=(hM.gj 0 rfl).gj 0 rfl)
   all_goals(have hdk:dk=ss T h t d L:=by rw[HD.o,ci])
   all_goals subst hdk
   all_goals exact(eI.gives ((eI.st fw).and ((eI.st eQ).and (eI.st aX)))).mono (fun _ h=>h) (fun W k=>⟨k.1,di.iz k.2.1 rfl,di.iz k.2.2 rfl⟩)
end
noncomputable def iA(T:bR)(d0:Ez)(bs:List nL):Ez:=bs.foldl (fun d b=>ss T b.ay b.time d b.Ca) d0
noncomputable def Ay(T:bR)(d0:Ez)(bs:List nL):List (Ez):=(List.range (bs.length+1)).map fun k=>iA T d0 (bs.take k)
noncomputable def oQ(T:bR)(nm:Bs)(d0:Ez)(bs:List nL)(k:Nat):qh:=⟨nm,(bs[k]?.getD YH).ay,(bs[k]?.getD YH).time,Ld T (iA T d0 (bs.take (k+1)))⟩
noncomputable def wn(T:bR)(nm:Bs)(d0:Ez)(bs:List nL):List qh:=(List.range bs.length).map (oQ T nm d0 bs)
def lastTime(bs:List nL):Int:=(bs.getLast?.map nL.time).getD 0
def kP(bs:List nL):Prop:=∀k(h:k<bs.length),bs[k].ay=k+1∧yx bs[k].ay bs[k].time bs[k].Ca=true∧lastTime (bs.take k)≤bs[k].time
def pm(b:nL):Bs:=yT b.ay b.time b.Ca
section
variable{T:bR}{nm:Bs}{d0:Ez}{bs:List nL}{b:nL}
theorem CS:iA T d0 (bs++[b])=ss T b.ay b.time (iA T d0 bs) b.Ca:=by simp[iA]
def Iy:(Ay T d0 bs).length=bs.length+1:=by simp[Ay]
def Gp:(wn T nm d0 bs).length=bs.length:=by simp[wn]
def afL {k:Nat}(h:k<(Ay T d0 bs).length):(Ay T d0 bs)[k]=iA T d0 (bs.take k):=by simp[Ay]
def adc {k:Nat}(h:k<(wn T nm d0 bs).length):(wn T nm d0 bs)[k]=oQ T nm d0 bs k:=by simp[wn]
def abT:Ay T d0 (bs++[b])=Ay T d0 bs++[ss T b.ay b.time (iA T d0 bs) b.Ca]:=by unfold Ay;rw[aw,bG,dL,uZ,cR];congr 1;grind[List.map_congr_left];grind[CS]
def XI {k:Nat}(h:k<bs.length)(c:List nL):oQ T nm d0 (bs++c) k=oQ T nm d0 bs k:=by grind[oQ]
def Lj:wn T nm d0 (bs++[b])=wn T nm d0 bs++[⟨nm,b.ay,b.time,Ld T (ss T b.ay b.time (iA T d0 bs) b.Ca)⟩]:=by unfold wn;rw[aw,bG,dL,uZ,cR];congr 1;simp_all[XI];rw[qU];unfold oQ;simp[aL,CS]
def BF(h:WD d0):WD (iA T d0 bs):=by unfold iA;induction bs generalizing d0 with|nil=>grind|cons b bs ih=>grind[XY]
def aex:(Ay T d0 bs)[bs.length]?=some (iA T d0 bs):=by simp[Iy,afL]
def IK:lastTime (bs++[b])=b.time:=by simp[lastTime]
def kP.snoc(h:kP bs)(h1:b.ay=bs.length+1)(h2:yx b.ay b.time b.Ca=true)(h3:lastTime bs≤b.time):kP (bs++[b]):=by intro k hk;by_cases hl:k<bs.length;rw[np hl,iT ab];exact h k hl;grind
def kP.left {c:List nL}(h:kP (bs++c)):kP bs:=by intro k hk;have:=h k ai;grind
def kP.time(h:kP bs):0≤lastTime bs∧lastTime bs≤1099511627776:=by rcases jH bs with rfl|⟨l,b,rfl⟩;exact⟨ef _,ah⟩;rw[pf]at h⊢;rw[IK];have:=h l.length ae;rw[List.getElem_append_right (au _)]at this;simp only[Nat.sub_self,ly]at this;have h2:=(zL this.2.1).1;omega
def kP.times(h:kP bs){i k:Nat}(hi:i<k)(hk:k<bs.length):(bs[i]' ab).time≤bs[k].time:=by
 induction k with|zero=>omega|succ k ih=>
  have h1:=(h (k+1) hk).2.2;have h2:lastTime (bs.take (k+1))=(bs[k]' ab).time:=by rw[aS ab,IK]
  grind
def MS(T:bR)(nm:Bs)(d0:Ez)(bs:List nL)(s:jL):Prop:=∃k,k<bs.length∧s=mz (oQ T nm d0 bs k)
def MS.more {c:List nL}{s:jL}(h:MS T nm d0 bs s):MS T nm d0 (bs++c) s:=by obtain⟨k,h1,rfl⟩:=h;exact⟨k,ai,by rw[XI h1]⟩
def apw(h:kP bs):anB (MS T nm d0 bs):=by
 have hh:∀k(hk:k<bs.length),(oQ T nm d0 bs k).ay=k+1∧(oQ T nm d0 bs k).time=bs[k].time:=by intro k hk;unfold oQ;rw[aW hk];exact⟨(h k hk).1,rfl⟩
 constructor;rintro s s'⟨i,hi,rfl⟩⟨k,hk,rfl⟩e;grind[mz];rintro s s'⟨i,hi,rfl⟩⟨k,hk,rfl⟩e;have h1:=hh i hi;have h2:=hh k hk;have e':(oQ T nm d0 bs i).ay<(oQ T nm d0 bs k).ay:=e;show(oQ T nm d0 bs i).time≤(oQ T nm d0 bs k).time;rw[h1.2,h2.2];exact h.times ab hk
def Yc(h:yx b.ay b.time b.Ca=true):(pm b).length≤100100:=by obtain⟨⟨a1,a2,a3,a4⟩,a5⟩:=zL h;grind[XX,dW,pm,yT,qf,cw]
def anY(h:yx b.ay b.time b.Ca=true):qg (pm b)=(b,0):=ZQ h
end
structure Sd where
  nm : Bs
  key : Bs
  bs : List nL
  waits : List Bs
  going : List nL
  D : lT
  X : Log
structure wJ (T : bR) (d0 : Ez) (n : Int) (j : Nat) (HS : jL → Prop) (Inv : Ez → Prop) (s : Sd) : Prop where
  qJ : kP (s.bs ++ s.going)
  log : rj n j s.D s.X (s.bs.map pm) (s.going.map pm)
  many : s.waits.length ≤ 16
  aU : ∀ x ∈ s.waits, x.length ≤ 6000
  MU : ∀ x ∈ s.waits, jo HS x
  Vj : Inv (iA T d0 s.bs)
  aaP : Inv (iA T d0 (s.bs ++ s.going))
section
variable{T:bR}{d0:Ez}{n:Int}{j:Nat}{HS HS':jL→Prop}{Inv Uv:Ez→Prop}{s:Sd}
def wJ.mono(h:wJ T d0 n j HS Inv s)(k:∀q,HS q→HS' q)(ki:∀d,Inv d→Uv d):wJ T d0 n j HS' Uv s:=⟨h.qJ,h.log,h.many,h.aU,fun x hx=>(h.MU x hx).mono k,ki _ h.Vj,ki _ h.aaP⟩
def wJ.le {j':Nat}(h:wJ T d0 n j HS Inv s)(hj:j≤j'):wJ T d0 n j' HS Inv s:=⟨h.qJ,h.log.le hj,h.many,h.aU,h.MU,h.Vj,h.aaP⟩
def wJ.asp(h:wJ T d0 n j HS Inv s){x:Bs}(h1:x.length≤6000)(h2:s.waits.length<16)(h3:jo HS x):wJ T d0 n j HS Inv {s with waits:=s.waits++[x]}:=by
 refine⟨h.qJ,h.log,?_,?_,?_,h.Vj,h.aaP⟩;grind;all_goals intro y hy;rcases cQ.1 hy with hy|hy
 exact h.aU y hy;grind;exact h.MU y hy;grind
def wJ.arm(h:wJ T d0 n j HS Inv s){k:Int}(hk:k≤100):wJ T d0 n (j+1) HS Inv {s with D:=yO s.D k}:=⟨h.qJ,h.log.arm hk,h.many,h.aU,h.MU,h.Vj,h.aaP⟩
def wJ.LH(h:wJ T d0 n j HS Inv s)(ks:List Bool)(bS:Int){cc:Nat}(tU:cc≤64):∃X' bs',(bs'=s.bs∨bs'=s.bs++s.going)∧wJ T d0 n (j+1) HS Inv ⟨s.nm,s.key,bs',[],[],dH ks bS cc s.D,X'⟩∧pV (dH ks bS cc s.D)=(some X',bs'.map pm,0)∧(dH ks bS cc s.D).eS=false:=by obtain⟨X',T',h1,h2,h3,h4⟩:=h.log.LH ks bS tU;rcases h1 with rfl|rfl;refine⟨X',s.bs,.inl rfl,⟨?_,h2,aI _,(fun x hx=>ai),(fun x hx=>ai),h.Vj,?_⟩,h3,h4⟩;show kP (s.bs++[]);rw[cq];exact h.qJ.left;show Inv (iA T d0 (s.bs++[]));rw[cq];exact h.Vj;refine⟨X',s.bs++s.going,.inr rfl,⟨?_,?_,aI _,(fun x hx=>ai),(fun x hx=>ai),h.aaP,?_⟩,?_,h4⟩;show kP ((s.bs++s.going)++[]);rw[cq];exact h.qJ;grind;show Inv (iA T d0 ((s.bs++s.going)++[]));rw[cq];exact h.aaP;grind
def oK(s:Sd)(t:Int):nL:=⟨s.bs.length+1,max (min t 1099511627776) (lastTime s.bs),s.waits⟩
def wJ.aqu(h:wJ T d0 n j HS Inv s)(hj:j≤98000)(t:Int):yx (oK s t).ay (oK s t).time (oK s t).Ca=true:=by have h1:=h.qJ.left.time;have h2:=h.log.len;rw[fR]at h2;have h3:=h.many;unfold yx oK;rw[dO,dU,dU];refine⟨⟨ai,ai,ai,h3⟩,h.aU⟩
def wJ.cut(h:wJ T d0 n j HS Inv s)(hd:WD d0)(hI:∀(h t:Int)(L:List Bs)(d:Ez),WD d→Inv d→(∀s∈L,jo HS s)→Inv (ss T h t d L))(hj:j≤98000)(t:Int){X':Log}{D':lT}{er:Int}(hC:ri s.D s.X (pm (oK s t))=(X',D',er)):(er=0∧s.going=[]∧wJ T d0 n (j+1600) HS Inv ⟨s.nm,s.key,s.bs++[oK s t],[],[],D',X'⟩∧D'.eS=s.D.eS)∨(er=14∧s.going=[]∧wJ T d0 n (j+1600) HS Inv ⟨s.nm,s.key,s.bs,s.waits,[oK s t],D',X'⟩∧s.D.eS=true)∨(er=13∧s.going≠[])∨(er=15∧s.going=[]∧wJ T d0 n (j+1600) HS Inv ⟨s.nm,s.key,s.bs,s.waits,[],D',X'⟩∧(n-2)*64<((fC (s.bs.map pm)++cT (pm (oK s t))).length:Int)):=by
 have it:=h.aqu hj t;obtain⟨T',G',h1,h2⟩:=h.log.arY (Yc it) hj hC;have Zp:s.going.map pm=[]→s.going=[]:=fun e=>List.map_eq_nil_iff.1 e;have Ih:s.going=[]→Inv (iA T d0 (s.bs++[oK s t])):=fun _=>by rw[CS];exact hI _ _ _ _ (BF hd) h.Vj h.MU
 have aun:kP (s.bs++[oK s t]):=h.qJ.left.snoc rfl it (by show lastTime s.bs≤max (min t 1099511627776) (lastTime s.bs);omega);rcases h2 with⟨rfl,k1,rfl,rfl,k4⟩|⟨rfl,k1,rfl,rfl,k4⟩|⟨rfl,k1,rfl,rfl⟩|⟨rfl,k1,rfl,rfl,rfl,k5⟩;refine .inl ⟨rfl,Zp k1,⟨?_,?_,aI _,(fun x hx=>ai),(fun x hx=>ai),Ih (Zp k1),?_⟩,k4⟩;grind;grind;show Inv (iA T d0 ((s.bs++[oK s t])++[]));rw[cq];exact Ih (Zp k1);exact .inr (.inl ⟨rfl,Zp k1,⟨aun,h1,h.many,h.aU,h.MU,h.Vj,Ih (Zp k1)⟩,k4⟩);grind;refine .inr (.inr (.inr ⟨rfl,Zp k1,⟨?_,h1,h.many,h.aU,h.MU,h.Vj,?_⟩,k5⟩));show kP (s.bs++[]);rw[cq];exact h.qJ.left;show Inv (iA T d0 (s.bs++[]));rw[cq];exact h.Vj
end
end Go.Proofs.YtlddafbgfkocjaaGreatDoor
