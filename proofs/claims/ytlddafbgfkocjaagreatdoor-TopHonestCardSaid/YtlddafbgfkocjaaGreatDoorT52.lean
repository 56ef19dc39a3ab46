/- A part of TopHonest. -/
import Derived.Test.YtlddafbgfkocjaaGreatDoorT50
import Derived.Test.YtlddafbgfkocjaaGreatDoorT51
namespace Go.Proofs.YtlddafbgfkocjaaGreatDoor
open Go.RowKit Go.Proofs.Tryz
set_option linter.all false
set_option maxRecDepth 1000000
set_option maxHeartbeats 400000000
def ara(x:Tx)(P:List ez)(lo hi:Ez)(P1 P2:List ez):MF:=fun W=>lP W (aF x.proof.path) P∧co W (aF x.fx.left) lo∧co W (aF x.fx.right) hi∧lP W (aF x.fx.a.path) P1∧lP W (aF x.fx.b.path) P2
structure aq9 (x : xI) (P : List ez) : Prop where
  at_ : 0 ≤ x.at_ ∧ x.at_ ≤ 2000
  many : 0 ≤ x.many ∧ x.many ≤ 2000
  len : P.length ≤ 11
structure aub (x : Tx) (P : List ez) (lo hi : Ez) (P1 P2 : List ez) : Prop where
  prf : aq9 x.proof P
  many : 0 ≤ x.fx.many ∧ x.fx.many ≤ 2000
  lo : lo.length ≤ 1 ∧ ∀ q ∈ lo, q.1.length ≤ 4000 ∧ q.2.length ≤ 4000
  hi : hi.length ≤ 1 ∧ ∀ q ∈ hi, q.1.length ≤ 4000 ∧ q.2.length ≤ 4000
  a : aq9 x.fx.a P1
  b : aq9 x.fx.b P2
def aoV {F:MF}{w0 w:World}{os:List Ob}{l:List MB}{rs:List MR}{B:Nat}{x:Tx}(hM:cJ F w0 w os l rs)(hF:∀W,F W→wH B x W):∃P lo hi P1 P2,aub x P lo hi P1 P2∧cJ (fun W=>F W∧ara x P lo hi P1 P2 W) w0 w os l rs:=by obtain⟨⟨P,p1,p2,p3,p4⟩,g1,lo,hi,P1,P2,⟨l1,l2,l3⟩,⟨r1,r2,r3⟩,⟨a1,a2,a3,a4⟩,⟨b1,b2,b3,b4⟩⟩:=hF w (cJ.here hM);have h1:=cJ.fix hM (fun W h=>by obtain⟨⟨P,k⟩,_⟩:=hF W h;exact⟨_,_,k.2.2.2⟩) p4;have h2:=cJ.fix h1 (fun W h=>by obtain⟨_,_,lo,hi,P1,P2,k,_⟩:=hF W h.1;exact⟨_,_,k.2.2⟩) l3;have h3:=cJ.fix h2 (fun W h=>by obtain⟨_,_,lo,hi,P1,P2,_,k,_⟩:=hF W h.1.1;exact⟨_,_,k.2.2⟩) r3;have h4:=cJ.fix h3 (fun W h=>by obtain⟨_,_,lo,hi,P1,P2,_,_,k,_⟩:=hF W h.1.1.1;exact⟨_,_,k.2.2.2⟩) a4;have h5:=cJ.fix h4 (fun W h=>by obtain⟨_,_,lo,hi,P1,P2,_,_,_,k⟩:=hF W h.1.1.1.1;exact⟨_,_,k.2.2.2⟩) b4;exact⟨P,lo,hi,P1,P2,⟨⟨p1,p2,p3⟩,g1,⟨l1,l2⟩,⟨r1,r2⟩,⟨a1,a2,a3⟩,⟨b1,b2,b3⟩⟩,cJ.mono h5 fun W h=>⟨h.1.1.1.1.1,di.iz h.1.1.1.1.2 rfl,di.iz h.1.1.1.2 rfl,di.iz h.1.1.2 rfl,di.iz h.1.2 rfl,di.iz h.2 rfl⟩⟩
theorem Pr {P:List ez}(hl:P.length≤11):(lj 112 (P.map (·.1))).length≤400:=by have h:=ry 112 32 (P.map (·.1)) (fun b hb=>ai);grind
theorem abt {a m:Int}{P:List ez}(hl:P.length≤11):(CD a m P).length≤430:=by grind[dW,Pr,CD,qf,cw]
def agI {L:Ez}(h:L.length≤1∧∀q∈L,q.1.length≤4000∧q.2.length≤4000):(lj 101 (Cn L)).length≤8008:=by
 have h1:=ry 101 4000 (Cn L) (fun b hb=>by unfold Cn at hb;grind);have h2:(Cn L).length≤2:=by induction L<;>simp_all[Cn]
 omega
def aoW {x:Tx}{P:List ez}{lo hi:Ez}{P1 P2:List ez}(hk:FG x)(h:aub x P lo hi P1 P2):ZL (ara x P lo hi P1 P2) x (CD x.proof.at_ x.proof.many P) (ahs x.fx.many lo hi x.fx.a.many x.fx.a.at_ P1 x.fx.b.many x.fx.b.at_ P2):=by have c0:=Pr h.prf.len;have c1:=Pr h.a.len;have c2:=Pr h.b.len;have c3:=agI h.lo;have c4:=agI h.hi;have q0:=h.prf.len;have q1:=h.a.len;have q2:=h.b.len;have q3:=h.lo.1;have q4:=h.hi.1;refine⟨fun w w' k hb=>⟨k.1.step hb,k.2.1.step hb,k.2.2.1.step hb,k.2.2.2.1.step hb,k.2.2.2.2.step hb⟩,hk.ok,hk.fit,fun w hw=>?_,?_,fun w hw=>?_,?_⟩;exact zz x.proof.at_ x.proof.many x.proof.path.p x.proof.path.n x.proof.path.c P w hw.1 ab h.prf.at_ h.prf.many ab;grind[abt];exact LN x.fx.many lo hi x.fx.a.many x.fx.a.at_ x.fx.b.many x.fx.b.at_ P1 P2 x.fx.left.p x.fx.right.p x.fx.a.path.p x.fx.b.path.p x.fx.left.n x.fx.left.c x.fx.right.n x.fx.right.c x.fx.a.path.n x.fx.a.path.c x.fx.b.path.n x.fx.b.path.c w hw.2.1 hw.2.2.1 hw.2.2.2.1 hw.2.2.2.2 ab ab ab ab ab ab ab ab h.many h.a.at_ h.a.many h.b.at_ h.b.many;grind[abt,dW,ahs,za,qf,cw]
section
variable{F:MF}{w0 w:World}{os:List Ob}{T:bR}{n:Int}{st st2:Nat}{HS QY:jL→Prop}{Inv Inv2:Ez→Prop}{x y:Sx}{s sy:Sd}{l:List MB}{rs:List MR}
def VD(hx:eT T n st HS Inv x s){Q:MF}{B:Nat}{X:Tx}(hM:cJ (fun W=>((F W∧dY y.c.ms W)∧dY x.c.ms W)∧Q W) w0 w (ey x.o::ey y.o::os) ((x.sa,61,GR x.nm x.o.g x.c.g x.q x.p x.Rs.length x.k)::sP x.c::l) (sxR x (sxR y rs)))(hQ:∀W,Q W→wH B X W)(hX:FG X):Calls prog 74 #[aG x.sa,.agg (dA X)] w fun e w'=>∃(x':Sx)(s':Sd)(b:Bool),e=.returned (.bool b)∧(eT T n st HS Inv x' s'∧pL x s x' s'∧x'.o=x.o)∧vI (fun W=>F W∧dY y.c.ms W) w0 w' x' (ey y.o::os) l (sxR y rs):=by obtain⟨P,lo,hi,P1,P2,hB,eI⟩:=aoV hM (fun W h=>hQ W h.2);have hk:=hX.kind;refine(zx (F:=fun W=>(F W∧dY y.c.ms W)∧ara X P lo hi P1 P2 W) hx (aoW hX hB) (fun W h=>h.2) (KH ab ab) (cJ.mono eI fun W h=>⟨⟨h.1.1.1,h.2⟩,h.1.1.2⟩)).mono ?_;rintro e w'⟨x',s',b,rfl,h1,h2,h3,h4⟩;exact⟨x',s',b,rfl,⟨h1,h2,h3⟩,cJ.mono h4 fun W h=>⟨h.1.1,h.2⟩⟩
attribute[local go_sem]aF in theorem acC(hx:eT T n st HS Inv x s)(hy:eT T n st2 QY Inv2 y sy)(wj:0≤lh (iA T jU s.bs) [107]∧lh (iA T jU s.bs) [107]≤1000)(hT:∀W,F W→be T W)(ee:Sep w0 (ey x.o::ey y.o::os))(v0:Value)(pl:qO)(hM:oZ F w0 w x y os l rs):Calls prog 43 #[v0,aG x.sa,aG y.sa,.agg (kV pl)] w fun e w'=>∃(x':Sx)(s':Sd)(b:Bool),e=.returned (.bool b)∧(eT T n st HS Inv x' s'∧pL x s x' s'∧x'.o=x.o)∧oZ F w0 w' x' y os l rs:=by
 obtain⟨sl,BT⟩:=hx.AZ.last;have he1:=hx.EN;have he2:=hy.EN;have KD:=hx.aU;have UY:=hy.aU;have HP:=ag (fun(w:World)(h1:mQ x.c w)(h2:mQ y.c w)(h3:be T w)=>amn T x.c y.c w h1 h2 h3 hx.Pq hy.Pq BT (BF AJ) ⟨wj.1,ab⟩ ab hy.AZ.ev ab hx.AZ.ev);have HX:=ag hx;have HT:=ag hT;clear hx hy BT wj hT;go_enter func43,ntmps43;go_wp2_with((refine bw ?_;intro g7 w7 hM));refine fu [8] (fun W=>Fm _ _ _ W _ _ _) ad hM.drew (fun hS=>?_);replace hM:=hM.drew;refine dR 0 10 hS ?_;refine dR 1 11 hS ?_;refine dR 2 12 hS ?_;refine de 3 (some 13) hS ?_;refine dR 4 14 hS ?_;refine dR 5 15 hS ?_;refine dR 6 16 hS ?_;refine de 7 (some 17) hS ?_;refine dC 8 ad aq rfl (fun K hK=>?_);go_simp;refine(HP.o _ (jS hM Aa aX eQ fw (hM.get aX).here.2) (jS hM (by exact Bu) yF Ct at7 (hM.get aX).here.1.2) (HT.o _ (hM.get aX).here.1.1)).mono ?_;rintro e wN⟨Lx,px,cx,rfl,tB,Nw,kZ,Vf,eH⟩;have hN:=cJ.Ax ee (cJ.Yr ee hM eH tB Vf);clear tB Vf eH;have hM:=hN;clear hN;refine hK.out _ _ (fun W=>Fm _ _ _ W _ _ _) hM (fun hS=>?_);refine dR 9 9 hS ?_;refine dB ad ?_;clear hS;obtain⟨B,hB⟩:=aZ w7.drew.heap.size;rw[hB]at hM;clear hB;by_cases hE:Lx=[];·subst hE;go_wp2_with fail;go_ret;exact⟨x,s,false,rfl,⟨HX.o,pL.refl,rfl⟩,cJ.mono (hM.less (List.Sublist.cons _ (aB _)) (aB _) (fun Q hQ=>hQ)) fun W h=>h.1.1⟩
 ·have hp:0<Lx.length:=ea.2 hE;have i0:(0:Int)<Lx.length:=ab;have eI:=cJ.mono hM fun W h=>(⟨h.1,di.iz (f:=LM) h.2 rfl⟩:(((F W∧dY y.c.ms W)∧dY x.c.ms W)∧∀q∈Lx,wH B q W)∧di W (.slice px Lx.length cx) LM 100 Lx);have hM:=eI;clear eI;obtain⟨g,o,hq⟩:=(cJ.here hM).2.some_ hp;subst hq;have HPC:=ag (fun(W:World)(i:Nat)(X:Tx)(hi:i<Lx.length)(hX:Lx[i]=X)(h:di W (.slice (some (aD g o)) Lx.length cx) LM 100 Lx)=>(show W.rangeAt g (o+i*100) (dA X).toList from hX▸di.piece h agJ hi));go_wp2_with(first|(refine aP ?_)|(go_at_call 81;go_loud(refine(KR _ (Lx.length:Int) _ ab ab).mono ?_;rintro e wN⟨r,r1,rfl,mR⟩;have hN:=hM.step mR;have hM:=hN;clear hN mR;obtain⟨i,rfl⟩:∃i:Nat,r=(i:Int):=⟨r.toNat,ab⟩;have i3:i<Lx.length:=ab;have i4:(i:Int)<Lx.length:=ab;obtain⟨X,hX⟩:=aZ (Lx[i]);have hN:=Fm.eW hM ((hM.st aX).mono fun W hW=>HPC.o W i X i3 hX hW.here.2);have hM:=hN;clear hN))|(go_at_call 74;have hN:=cJ.mono (Fm.perm (hM.less (fs':=zR (Hf (ey x.o::ey y.o::os)) (fun W=>(((F W∧dY y.c.ms W)∧dY x.c.ms W)∧∀q∈Lx,wH B q W)∧di W (.slice (some (aD g o)) Lx.length cx) LM 100 Lx)::(ey x.o::ey y.o::os).map zi) (aB _) (aB _) (fun Q hQ=>bQ _ hQ)) (AN _ _ _ _) (cz _)) (fun W h=>h.1);refine(VD (Q:=fun W=>∀q∈Lx,wH B q W) HX.o hN (fun W h=>h X (by rw[←hX];simp)) (kZ X (by rw[←hX];simp))).mono ?_;rintro e wN⟨x2,s2,b,rfl,h1,eI⟩;clear hN;have hM:=eI;clear eI));exact JQ
end
def PR(F:MF)(w0:World)(T:bR)(a b:Nat)(x y:Sx)(sx sy:Sd)(os:List Ob)(l:List MB)(rs:List MR)(w':World):Prop:=∃(x':Sx)(s':Sd),Ek T (a+1) b x' y s' sy∧pL x sx x' s'∧Sep w0 (ey x'.o::ey y.o::os)∧oZ F w0 w' x' y os l rs
def El(fn:Nat)(F:MF)(w0 w:World)(T:bR)(a b:Nat)(v0:Value)(pl:qO)(x y:Sx)(sx sy:Sd)(os:List Ob)(l:List MB)(rs:List MR):Prop:=Calls prog fn #[v0,aG x.sa,aG y.sa,.agg (kV pl)] w fun e w'=>(∃r:Bool,e=.returned (.bool r))∧PR F w0 T a b x y sx sy os l rs w'
section
variable{F:MF}{w0 w:World}{os:List Ob}{T:bR}{a b:Nat}{x y:Sx}{sx sy:Sd}{l:List MB}{rs:List MR}{v0:Value}{pl:qO}
def Ek.same(h:Ek T a b x y sx sy)(ha:a≤59){x':Sx}{s':Sd}(k:eT T 2500 a (Bp T y sy) (MZ T y sy) x' s'∧pL x sx x' s'∧x'.o=x.o):Ek T (a+1) b x' y s' sy:=h.left (k.1.le ae ab) k.2.1
def Ek.ne(h:Ek T a b x y sx sy):sy.bs≠[]:=by have h1:=Qv h.hy.ok.qJ.left h.hx.ok.Vj;grind
variable(h:Ek T a b x y sx sy)(ha:a≤59)(hT:∀W,F W→be T W)(ee:Sep w0 (ey x.o::ey y.o::os))(hM:oZ F w0 w x y os l rs)
include h ha ee hM
def amW:El 39 F w0 w T a b v0 pl x y sx sy os l rs:=(afm h.hx h.known v0 _ pl hM).mono fun e w'⟨x',s',r,k1,k2,k3⟩=>⟨⟨r,k1⟩,x',s',h.same ha k2,k2.2.1,ai,k3⟩
def amX:El 40 F w0 w T a b v0 pl x y sx sy os l rs:=(afn h.hx h.known v0 _ pl hM).mono fun e w'⟨x',s',r,k1,k2,k3⟩=>⟨⟨r,k1⟩,x',s',h.same ha k2,k2.2.1,ai,k3⟩
def amY:El 47 F w0 w T a b v0 pl x y sx sy os l rs:=(afo h.hx v0 _ pl hM).mono fun e w'⟨x',s',r,k1,k2,k3⟩=>⟨⟨r,k1⟩,x',s',h.same ha k2,k2.2.1,ai,k3⟩
def asw(hg:jo (Bp T y sy) pl.tx):El 44 F w0 w T a b v0 pl x y sx sy os l rs:=(amO h.hx v0 _ hg hM).mono fun e w'⟨x',s',r,k1,k2,k3,k4,k5⟩=>⟨⟨r,k1⟩,x',s',h.same ha ⟨k2,k3,k4⟩,k3,ai,k5⟩
def apB:El 45 F w0 w T a b v0 pl x y sx sy os l rs:=(ajc h.hx ha ee v0 _ pl hM).mono fun e w'⟨x',s',k1,k2,k3,k4,k5⟩=>⟨⟨true,k1⟩,x',s',h.left k2 k3,k3,k4,k5⟩
def ajj {ks:List Bool}(hK:∀W,F W→w0.heap.size≤W.heap.size∧yR w0 W (aF pl.gj) ks)(hT:∀W,F W→be T W):El 46 F w0 w T a b v0 pl x y sx sy os l rs:=(adb h.hx ha ee (fun W k=>hT W k.1) v0 _ (fun W k=>hK W k.1) hM).mono fun e w'⟨x',s',k1,k2,k3,k4,k5⟩=>⟨⟨true,k1⟩,x',s',h.left k2 k3,k3,k4,k5⟩
def apA(hT:∀W,F W→be T W):El 41 F w0 w T a b v0 pl x y sx sy os l rs:=(ada h.hx ha ee (fun W k=>hT W k.1) h.ari v0 _ pl hM).mono fun e w'⟨x',s',r,k1,k2,k3,k4,k5⟩=>⟨⟨r,k1⟩,x',s',h.left k2 k3,k3,k4,k5⟩
def afT(hT:∀W,F W→be T W):El 42 F w0 w T a b v0 pl x y sx sy os l rs:=by
 have hx:eT T 2500 a (MS T y.c.nm jU sy.bs) (MZ T y sy) x sx:=by rw[h.hy.nm];exact h.hx
 refine(ZK hx h.hy h.ne hT v0 pl hM).mono fun e w'⟨x',s',r,k1,k2,k3⟩=>?_;rw[h.hy.nm]at k2;exact⟨⟨r,k1⟩,x',s',h.same ha k2,k2.2.1,ai,k3⟩
def ajk(hT:∀W,F W→be T W):El 43 F w0 w T a b v0 pl x y sx sy os l rs:=(acC h.hx h.hy h.known hT ee v0 pl hM).mono fun e w'⟨x',s',r,k1,k2,k3⟩=>⟨⟨r,k1⟩,x',s',h.same ha k2,k2.2.1,ai,k3⟩
end
def aak(g:Nat)(k:Int):Value:=if k=1 then .func (.func 39) #[aG g] #[]else if k=2 then .func (.func 40) #[aG g] #[]else if k=3 then .func (.func 41) #[aG g] #[]else if k=4 then .func (.func 42) #[aG g] #[]else if k=5 then .func (.func 43) #[aG g] #[]else if k=6 then .func (.func 44) #[aG g] #[]else if k=7 then .func (.func 45) #[aG g] #[]else if k=8 then .func (.func 46) #[aG g] #[]else if k=9 then .func (.func 47) #[aG g] #[]else .nilFunc
def awS(f:Nat)v w:(binOp .neq 65 (.func (.func f) #[v] #[]) .nilFunc).run prog w=.ok (.bool true) w:=ad
def avx w:(binOp .neq 65 .nilFunc .nilFunc).run prog w=.ok (.bool false) w:=ad
def asx {α:Type}a b c d e(l:List α):(a::b::c::d::e::l).Perm (b::c::d::e::a::l):=(tI (l₁:=[b,c,d,e])).symm
def ayQ q g a b w(hB:aM w g 55 (KE a b)):dM 18 #[aG g,al (cond q 1 0)] w (.pointer (some (aD (cond q b a) 0))):=by cases q;exact MY g a b w hB;exact MX g a b w hB
section
variable{F:MF}{w0 w:World}{os:List Ob}{T:bR}{a b:Nat}{x y:Sx}{sx sy:Sd}{l:List MB}{rs:List MR}
def asy q(fn:Nat)pl(hs:pl.side=cond q 1 0){g}(hv:aak g pl.kind=.func (.func fn) #[aG g] #[])(hE:∀args w,(callFunc fn args).run prog w=.ok (.enter fn args) w)(hC:∀(w)(l),oZ F w0 w x y os l rs→El fn F w0 w T a b (aG g) pl x y sx sy os l rs)(hM:oZ F w0 w x y os ((g,55,KE (cond q y.sa x.sa) (cond q x.sa y.sa))::l) rs):Calls prog 5 #[aG g,.agg (kV pl)] w fun e w'=>(∃r,e=.returned (.bool r))∧PR F w0 T a b x y sx sy os ((g,55,KE (cond q y.sa x.sa) (cond q x.sa y.sa))::l) rs w':=by have HC:=fun(w:World)(l:List MB)=>ag (hC w l);have HE:=ag hE;have HPl:=ag (fun(w:World)=>abs g pl.kind w (.func (.func fn) #[aG g] #[]) hv.symm);have gQ:=awS fn (aG g);have HSP:=ag (fun w h=>ayQ q g (cond q y.sa x.sa) (cond q x.sa y.sa) w h);cases q<;>simp only[cond]at hs hM HSP⊢;all_goals obtain⟨k,sd,nn,tn,ct,kp,tx⟩:=pl;simp only[]at hs;subst hs;have hw1:IntKind.i64.wrap 1=1:=aq;have QW:IntKind.i64.wrap 0=0:=aq;clear hC hE hv;go_enter func5,ntmps5;go_wp2_with(first|((refine db ?_);(refine iQ ?_;intro g3 w3 hM))|(refine aP ?_)|(go_at_call 18;refine cB hM (HSP.o _ (hM.mem.at_ yF)) fun wN hM=>?_)|(go_at_call 19;refine(HPl.o _).mono ?_;rintro e wN⟨rfl,rfl⟩));refine rB [14] [0,1,2,3,4,5,6,7,8,9,10,11,12,13,14,15,16] ?_;intro hM;refine rT ?_;rw[HE.o,Oper.upon_enter];refine((HC _ _).out (Fm.perm hM (asx _ _ _ _ _ _) (cz _))).mono ?_;rintro e wN⟨⟨r,rfl⟩,x2,s2,hT2,hTo,Fl,eI⟩;have hM:=eI;clear eI;refine rU ?_;go_wp2_with fail;go_ret;exact⟨ae,x2,s2,hT2,hTo,Fl,hM.less (List.Sublist.cons_cons _ (List.Sublist.cons_cons _ (List.Sublist.cons_cons _ (List.Sublist.cons_cons _ (List.Sublist.cons _ (aB _)))))) (aB _) (fun Q hQ=>hQ)⟩
end
section
open Go.MuLone
section
variable{F:MF}{w0 w:World}{os:List Ob}{T:bR}{a b:Nat}{x y:Sx}{sx sy:Sd}{l:List MB}{rs:List MR}
structure DoC (F : MF) (w0 : World) (T : bR) (a b g : Nat) (pl : qO) (x y : Sx) (sx sy : Sd) (os : List Ob) (rs : List MR) (fn : Nat) : Prop where
  hv : aak g pl.kind = .func (.func fn) #[aG g] #[]
  hE : ∀ args w, (callFunc fn args).run prog w = .ok (.enter fn args) w
  hC : ∀ (w : World) (l : List MB), oZ F w0 w x y os l rs → El fn F w0 w T a b (aG g) pl x y sx sy os l rs
def apC(h:Ek T a b x y sx sy)(ha:a≤59)(ee:Sep w0 (ey x.o::ey y.o::os))(hT:∀W,F W→be T W)g pl(hg:jo (Bp T y sy) pl.tx){ks}(hK:∀W,F W→w0.heap.size≤W.heap.size∧yR w0 W (aF pl.gj) ks):(∃fn,DoC F w0 T a b g pl x y sx sy os rs fn)∨aak g pl.kind=.nilFunc:=by by_cases k1:pl.kind=1;exact .inl ⟨_,by rw[k1];rfl,run_callFunc_enter func39 ad rfl,fun w l hM=>amW h ha ee hM⟩;by_cases k2:pl.kind=2;exact .inl ⟨_,by rw[k2];rfl,run_callFunc_enter func40 ad rfl,fun w l hM=>amX h ha ee hM⟩;by_cases k3:pl.kind=3;exact .inl ⟨_,by rw[k3];rfl,run_callFunc_enter func41 ad rfl,fun w l hM=>apA h ha ee hM hT⟩;by_cases k4:pl.kind=4;exact .inl ⟨_,by rw[k4];rfl,run_callFunc_enter func42 ad rfl,fun w l hM=>afT h ha ee hM hT⟩;by_cases k5:pl.kind=5;exact .inl ⟨_,by rw[k5];rfl,run_callFunc_enter func43 ad rfl,fun w l hM=>ajk h ha ee hM hT⟩;by_cases k6:pl.kind=6;exact .inl ⟨_,by rw[k6];rfl,run_callFunc_enter func44 ad rfl,fun w l hM=>asw h ha ee hM hg⟩;by_cases k7:pl.kind=7;exact .inl ⟨_,by rw[k7];rfl,run_callFunc_enter func45 ad rfl,fun w l hM=>apB h ha ee hM⟩;by_cases k8:pl.kind=8;exact .inl ⟨_,by rw[k8];rfl,run_callFunc_enter func46 ad rfl,fun w l hM=>ajj h ha ee hM hK hT⟩;by_cases k9:pl.kind=9;exact .inl ⟨_,by rw[k9];rfl,run_callFunc_enter func47 ad rfl,fun w l hM=>amY h ha ee hM⟩;simp_all[aak]
def amZ q pl(hs:pl.side=cond q 1 0){g}(hv:aak g pl.kind=.nilFunc)(h:Ek T a b x y sx sy)(ha:a≤59)(ee:Sep w0 (ey x.o::ey y.o::os))(hM:oZ F w0 w x y os ((g,55,KE (cond q y.sa x.sa) (cond q x.sa y.sa))::l) rs):Calls prog 5 #[aG g,.agg (kV pl)] w fun e w'=>(∃r,e=.returned (.bool r))∧PR F w0 T a b x y sx sy os ((g,55,KE (cond q y.sa x.sa) (cond q x.sa y.sa))::l) rs w':=by have HK:=ag (fun(w':World)(l:List MB)(hM:oZ F w0 w' x y os l rs)=>(⟨x,sx,h.left (h.hx.le ae ab) pL.refl,pL.refl,ee,hM⟩:PR F w0 T a b x y sx sy os l rs w'));have HPl:=ag (fun(w:World)=>abs g pl.kind w .nilFunc hv.symm);have gQ:=avx;have HSP:=ag (fun w h=>ayQ q g (cond q y.sa x.sa) (cond q x.sa y.sa) w h);cases q<;>simp only[cond]at hs hM HSP⊢;all_goals obtain⟨k,sd,nn,tn,ct,kp,tx⟩:=pl;simp only[]at hs;subst hs;clear hv h ee ha;go_enter func5,ntmps5;go_wp2_with(first|((refine db ?_);(refine iQ ?_;intro g3 w3 hM))|(refine aP ?_)|(go_at_call 18;refine cB hM (HSP.o _ (hM.mem.at_ yF)) fun wN hM=>?_)|(go_at_call 19;refine(HPl.o _).mono ?_;rintro e wN⟨rfl,rfl⟩));refine rB [] [0,1,2,3,4,5,6,7,8,9,10,11,12,13,14,15,16] ?_;intro hM;go_wp2_with fail;go_ret;exact⟨ae,HK.o _ _ (hM.less (List.Sublist.cons _ (aB _)) (aB _) (fun Q hQ=>hQ))⟩
def agZ q(h:Ek T a b x y sx sy)(ha:a≤59)(ee:Sep w0 (ey x.o::ey y.o::os))(hT:∀W,F W→be T W)pl(hs:pl.side=cond q 1 0)(hg:jo (Bp T y sy) pl.tx){ks}(hK:∀W,F W→w0.heap.size≤W.heap.size∧yR w0 W (aF pl.gj) ks){g}(hM:oZ F w0 w x y os ((g,55,KE (cond q y.sa x.sa) (cond q x.sa y.sa))::l) rs):Calls prog 5 #[aG g,.agg (kV pl)] w fun e w'=>(∃r,e=.returned (.bool r))∧PR F w0 T a b x y sx sy os ((g,55,KE (cond q y.sa x.sa) (cond q x.sa y.sa))::l) rs w':=by rcases apC (rs:=rs) h ha ee hT g pl hg hK with⟨fn,k⟩|k;exact asy q fn pl hs k.hv k.hE k.hC hM;exact amZ q pl hs k h ha ee hM
end
end
structure LI (w0 W : World) (p : Option Addr) (n c : Nat) (F : Nat → qO) (Ks : Nat → List Bool) : Prop where
  size : w0.heap.size ≤ W.heap.size
  many : n ≤ maxLen
  some_ : 0 < n → ∃ b o, p = some (aD b o) ∧ b < w0.heap.size ∧ ∀ i, i < n → W.rangeAt b (o + i * 7) (kV (F i)).toList
  gj : ∀ i, i < n → yR w0 W (.slice (F i).gj.p (F i).gj.n (F i).gj.c) (Ks i)
def XN(T:bR)(w0:World)(p:Option Addr)(n c:Nat)(F:Nat→qO)(Ks:Nat→List Bool):MF:=fun W=>be T W∧LI w0 W p n c F Ks
section
variable{T:bR}{w0 w:World}{p:Option Addr}{n c g xa ya:Nat}{F:Nat→qO}{Ks:Nat→List Bool}
def KU {W V:World}{b i:Nat}(h:∀b,b<W.heap.size→V.heap[b]?=W.heap[b]?)(hb:b<W.heap.size):V.cell? (aD b i)=W.cell? (aD b i):=by simp only[World.cell?];grind
def LI.step {W:World}(h:LI w0 w0 p n c F Ks)(hs:w0.heap.size≤W.heap.size)(ha:∀b,b<w0.heap.size→W.heap[b]?=w0.heap[b]?):LI w0 W p n c F Ks:=by refine⟨hs,h.many,fun h0=>?_,fun i hi=>?_⟩;obtain⟨b,o,e,hb,k⟩:=h.some_ h0;exact⟨b,o,e,hb,fun i hi j v hj=>by rw[KU ha hb];exact k i hi j v hj⟩;obtain⟨a,q,d,e,k⟩:=h.gj i hi;refine⟨a,q,d,e,fun h0=>?_⟩;obtain⟨b,o,e2,hb,k2⟩:=k h0;exact⟨b,o,e2,hb,fun j hj=>by rw[KU ha hb];grind⟩
structure CU(T:bR)(w0:World)(p:Option Addr)(n c:Nat)(F:Nat→qO)(Ks:Nat→List Bool)(xa ya g:Nat)(k:Nat)(w:World):Prop where ex:∃(x y:Sx)(sx sy:Sd)(a b:Nat),(a≤10+k∧b≤10+k)∧(x.sa=xa∧y.sa=ya)∧Ek T a b x y sx sy∧Sep w0 (ey x.o::ey y.o::[])∧oZ (XN T w0 p n c F Ks) w0 w x y [] [(g,55,KE xa ya)] []
def CU.step {k:Nat}(h:CU T w0 p n c F Ks xa ya g k w){w':World}(hb:Below w.heap.size w w'):CU T w0 p n c F Ks xa ya g k w':=by obtain⟨x,y,sx,sy,a,b,h1,h2,h3,h4,h5⟩:=h.ex;exact⟨x,y,sx,sy,a,b,h1,h2,h3,h4,h5.step hb⟩
def CU.fact {k:Nat}(h:CU T w0 p n c F Ks xa ya g k w):XN T w0 p n c F Ks w:=by obtain⟨x,y,sx,sy,a,b,h1,h2,h3,h4,h5⟩:=h.ex;exact(cJ.here h5).1.1
def ajq {k:Nat}(h:CU T w0 p n c F Ks xa ya g k w)(hk:k≤39)(pl:qO)(hs:pl.side=0∨pl.side=1)(hg:∀HS,jo HS pl.tx){i:Nat}(hi:i<n)(hkp:pl.gj=(F i).gj):Calls prog 5 #[aG g,.agg (kV pl)] w fun e w'=>(∃r:Bool,e=.returned (.bool r))∧CU T w0 p n c F Ks xa ya g (k+1) w':=by obtain⟨x,y,sx,sy,a,b,⟨ha,hb⟩,⟨rfl,rfl⟩,h3,h4,h5⟩:=h.ex;have hT:∀W,XN T w0 p n c F Ks W→be T W:=fun W h=>h.1;have hK:∀W,XN T w0 p n c F Ks W→w0.heap.size≤W.heap.size∧yR w0 W (aF pl.gj) (Ks i):=fun W h=>⟨h.2.size,by rw[hkp];exact h.2.gj i hi⟩;rcases hs with hs|hs;refine(agZ false h3 ab h4 hT pl hs (hg _) hK h5).mono ?_;rintro e w'⟨hr,x',s',k1,k2,k3,k4⟩;exact⟨hr,x',y,s',sy,a+1,b,⟨ab,ab⟩,⟨k2.sa,rfl⟩,k1,k3,k4⟩;refine(agZ true h3.flip ab h4.flip hT pl hs (hg _) hK h5.flip).mono ?_;rintro e w'⟨hr,x',s',k1,k2,k3,k4⟩;exact⟨hr,x,x',sx,s',a,b+1,⟨ab,ab⟩,⟨rfl,k2.sa⟩,k1.flip,k3.flip,k4.flip⟩
structure awX (T : bR) (g : Nat) (i j : Int) (w : World) (x y : Sx) (sx sy : Sd) : Prop where
  two : ∃ a b, Ek T a b x y sx sy
  cx : ∀ W, Below w.heap.size w W → Calls prog 8 #[aG g, al i] W fun e W' => e = .returned (aG x.c.g) ∧ Below W.heap.size W W'
  cy : ∀ W, Below w.heap.size w W → Calls prog 8 #[aG g, al j] W fun e W' => e = .returned (aG y.c.g) ∧ Below W.heap.size W W'
  ix : ∀ W, Below w.heap.size w W → mQ x.c W
  iy : ∀ W, Below w.heap.size w W → mQ y.c W
  tab : ∀ W, Below w.heap.size w W → be T W
def CU.view {k:Nat}(h:CU T w0 p n c F Ks xa ya g k w){i j:Int}(hij:(i=0∧j=1)∨(i=1∧j=0)):∃(x y:Sx)(sx sy:Sd),awX T g i j w x y sx sy:=by obtain⟨x,y,sx,sy,a,b,h1,⟨rfl,rfl⟩,h3,h4,h5⟩:=h.ex;have hg:∀W,Below w.heap.size w W→aM W g 55 (KE x.sa y.sa):=fun W hb=>(aM.step · hb) (h5.mem.at_ (i:=4) rfl);have hx:∀W,Below w.heap.size w W→aM W x.sa 61 (GR x.nm x.o.g x.c.g x.q x.p x.Rs.length x.k):=fun W hb=>(aM.step · hb) (h5.mem.at_ (i:=0) rfl);have hy:∀W,Below w.heap.size w W→aM W y.sa 61 (GR y.nm y.o.g y.c.g y.q y.p y.Rs.length y.k):=fun W hb=>(aM.step · hb) (h5.mem.at_ (i:=2) rfl);have ix:∀W,Below w.heap.size w W→mQ x.c W:=fun W hb=>oZ.own (h5.step hb);have iy:∀W,Below w.heap.size w W→mQ y.c W:=fun W hb=>oZ.peer (h5.step hb);have ht:∀W,Below w.heap.size w W→be T W:=fun W hb=>(cJ.here (h5.step hb)).1.1.1;rcases hij with⟨rfl,rfl⟩|⟨rfl,rfl⟩;exact⟨x,y,sx,sy,⟨a,b,h3⟩,fun W hb=>Mb g x.sa y.sa W (hg W hb) (hx W hb),fun W hb=>Ma g x.sa y.sa W (hg W hb) (hy W hb),ix,iy,ht⟩;exact⟨y,x,sy,sx,⟨b,a,h3.flip⟩,fun W hb=>Ma g x.sa y.sa W (hg W hb) (hy W hb),fun W hb=>Mb g x.sa y.sa W (hg W hb) (hx W hb),iy,ix,ht⟩
end
def ajr(d:Ez)(s:Value)(w:World)(hv:co w s d)(hl:d.length≤1000000):Calls prog 10 #[.agg #[s]] w fun e w'=>∃q:Sl,e=.returned (aF q)∧dz w w' (fun _=>True) (fun W=>co W (aF q) d)∧Below w.heap.size w w':=by refine(Qc d s w hv hl).mono ?_;rintro e w'⟨v,rfl,ho,hb⟩;obtain⟨q,m,k,rfl⟩:=(di.iz ho rfl:co w' v d).sl;exact⟨⟨q,m,k⟩,rfl,(dz.own ho).mono (fun _ h=>h) (fun W h=>di.iz h rfl),hb⟩
section
variable{T:bR}{x y:Sx}{sx sy:Sd}
def apJ {a b:Nat}(h:Ek T a b x y sx sy):∃C,aj6 (Bp T y sy) y.nm (keyOf y.nm) (iA T jU sx.bs) C:=h.hx.ok.Vj
def get_mem {d:Ez}{k v:Bs}(hr:iC d)(h:getD d k=some v):(k,v)∈d∧∀e∈d,e.1=k→e.2=v:=by refine⟨(zN hr).1 h,fun e he hk=>?_⟩;have h2:getD d e.1=some e.2:=(zN hr).2 he;grind
def apK {a b:Nat}(h:Ek T a b x y sx sy){s:jL}(hs:Bp T y sy s):∃hd:qh,pT y.c s.ay=hd∧vu y.c s.ay=true∧hd.time=s.time∧hd.root=s.root∧yz T y.c s.ay=uJ T (keyOf y.nm) (qV hd)∧lH hd=true:=by
 obtain⟨k,hk,rfl⟩:=hs;have hb:=h.hy.ok.qJ.left;have h1:=(hb k hk).1;obtain⟨e1,e2⟩:=h.hy.AZ.hdr hk;have hh:(mz (oQ T y.nm jU sy.bs k)).ay=(k:Int)+1:=by simp_all[oQ,mz]
 rw[hh];rw[h.hy.nm]at e1;refine⟨oQ T y.nm jU sy.bs k,e1,e2,rfl,rfl,?_,Qw hb hk h.hy.nn h.hy.nl⟩;unfold yz;rw[if_pos e2,h.hy.key,e1]
end
section
def ag0 {W:World}{b i:Nat}{v:Value}(h:W.cell? (aD b i)=some v):b<W.heap.size:=by rcases dF b W.heap.size with h1|h1;exact h1;simp only[World.cell?]at h;rw[eJ h1]at h;cases h
def apL {T:bR}{w W:World}(h:be T w)(ha:∀b,b<w.heap.size→W.heap[b]?=w.heap[b]?):be T W:=by refine⟨h.1,fun i hi=>?_,fun i hi=>?_⟩;rw[KU ha (ag0 (h.2.1 i hi))];exact h.2.1 i hi;rw[KU ha (ag0 (h.2.2 i hi))];exact h.2.2 i hi
def am5 {w W:World}(ha:∀b,b<w.heap.size→W.heap[b]?=w.heap[b]?):w.heap.size≤W.heap.size:=by rcases dZ w.heap.size with h|h;omega;have:=ha (w.heap.size-1) ab;rw[fk (xs:=w.heap) ab]at this;have:=(bL.1 this).1;omega
section
variable{T:bR}{w0 w:World}{p:Option Addr}{n c g xa ya:Nat}{F:Nat→qO}{Ks:Nat→List Bool}
def abL(hT:be T w0)(hO:LI w0 w0 p n c F Ks){W:World}(ha:∀b,b<w0.heap.size→W.heap[b]?=w0.heap[b]?):XN T w0 p n c F Ks W:=⟨apL hT ha,hO.step (am5 ha) ha⟩
def am4(hT:be T w0)(hO:LI w0 w0 p n c F Ks):cJ (XN T w0 p n c F Ks) w0 w0 [] [] []:=No.toS (No.start w0 (fun W hb=>abL hT hO (fun b eo=>hb.block b eo)) (fun W hI=>abL hT hO hI))
def awY:Sep w0 []:=⟨fun o ho=>by simp at ho,fun o ho=>by simp at ho,List.Pairwise.nil⟩
def CU.below {k:Nat}(h:CU T w0 p n c F Ks xa ya g k w):Below w0.heap.size w0 w:=by obtain⟨x,y,sx,sy,a,b,h1,h2,h3,h4,h5⟩:=h.ex;exact Fm.below h5
def CU.awZ {k i b o:Nat}(h:CU T w0 (some (aD b o)) n c F Ks xa ya g k w)(hi:i<n):w.rangeAt b (o+i*7) (kV (F i)).toList:=by obtain⟨b',o',e,_,k⟩:=h.fact.2.some_ ab;injection e with e;injection e with e1 e2;subst e1 e2;exact k i hi
def UB(d:Ez)(id ch key:Bs)(oF:Int)(st:List jL)(s:Sl)(w:World)(hi:id.length≤1000000)(hv:co w (aF s) d)(hl:d.length≤1000000)(hm:(fD 67 id,vh ⟨ch,key,oF,false,st⟩)∈d)(h1:∀x∈d,x.1=fD 67 id→x.2=vh ⟨ch,key,oF,false,st⟩)(it:jt ⟨ch,key,oF,false,st⟩=true)(hb:(vh ⟨ch,key,oF,false,st⟩).length≤1000000):Calls prog 7 #[aF s,str id] w fun e w'=>∃q:Sl,e=.returned (.tuple #[.agg (iY ⟨ch,key,oF,false,q⟩),.bool true])∧dz w w' (fun W=>co W (aF s) d) (fun W=>fV W (aF q) st)∧Below w.heap.size w w':=VH d id ⟨ch,key,oF,false,st⟩ s w hi hv hl hm h1 it hb
def af2 {W:World}{g a:Nat}{x:jL}(h:W.rangeAt g a (iB x).toList):W.rangeAt g (a+2) (da x.root).toList:=by intro j v hj;have:=h (2+j) v (by show((iB x).toList)[2+j]?=some v;rw[apM];show([al x.ay,al x.time]++eY x.root.1)[2+j]?=some v;rw[dX ae];simpa[da]using hj);rwa[←Nat.add_assoc]at this
end
def asC {I:MF}{w0 w:World}{row:Option Nat}{a b:Nat}{c d:Array Value}{l:List MB}{rs:List MR}{fs:List MF}(h:Fm I w0 row w ((a,45,c)::(b,43,d)::l) rs fs):Fm I w0 row w ((b,43,d)::(a,45,c)::l) rs fs:=h.swap
attribute[local go_sem]aF in def VO(p:Option Addr)(n c:Nat)(F:Nat→qO)(Ks:Nat→List Bool)(w:World)(hT:be qs w)(hO:LI w w p n c F Ks):dM 3 #[.slice p n c] w (.bool true):=by
 have HN:=ag (fun(hM:cJ (XN qs w p n c F Ks) w w [] [] [])=>adk (T:=qs) (F:=XN qs w p n c F Ks) (w0:=w) (w:=w) (os:=[]) (l:=[]) (rs:=[]) awY (fun W h=>h.1) hM);have HM0:=ag (am4 hT hO);have HO:=ag hO;have hM:=Fm.bZ w;clear hT hO;go_enter func3,ntmps3;go_wp2_with((go_at_call 4;refine(HN.o HM0.o).mono ?_;rintro e wN⟨g,xa,ya,x0,y0,u0,v0,rfl,hP⟩;clear hM));have hI:CU qs w p n c F Ks xa ya g 0 wN:=by obtain⟨x,y,sx,sy,h1,h2,h3,h4,h5,h6⟩:=hP;exact⟨x,y,sx,sy,10,10,⟨ab,ab⟩,h1,h2,h5,h6⟩
 clear hP;go_loopw [4](fun iv wr=>∃k:Nat,k≤n∧k≤40∧iv=al k∧CU qs w p n c F Ks xa ya g k wr)(fun iv _=>40-(intOf iv).toNat);case atStart=>exact⟨0,ab,ab,rfl,hI⟩
 case round=>
  clear hI;obtain⟨k,kZ,lQ,rfl,hI⟩:=hrel;by_cases h1:k<n
  ·by_cases h2:k<40
   ·have i1:(k:Int)<(n:Int):=ab;have i2:(k:Int)<40:=ab;have i3:(0:Int)≤(k:Int):=ab;obtain⟨bb,oo,rfl,hbb,tU⟩:=HO.o.some_ ab;have hM:=Fm.pH wr (I1:=fun W=>Below wr.heap.size wr W) (I2:=fun W=>W.rangeAt bb (oo+k*7) (kV (F k)).toList) (fun W hb=>hb) (fun W hb=>(hI.step hb).awZ h1);have HDo:=fun(w':World)(hb:Below wr.heap.size wr w')(pl:qO)(hs:pl.side=0∨pl.side=1)(hkp:pl.gj=(F k).gj)(hg:∀HS,jo HS pl.tx)=>ag (ajq (hI.step hb) ab pl hs hg h1 hkp);obtain⟨Fk,hFk⟩:=aZ (F k);rw[hFk]at hM HDo;clear hI tU hFk;go_wp2_with(first|(refine aP ?_)|(go_at_call 6;refine(ado _ _).mono ?_;rintro e wN⟨pl,rfl,hs,hkp,hg,hb⟩;replace hM:=hM.step hb;clear hb)|(go_at_call 5;refine(HDo _ (hM.get aX) pl hs hkp hg).out.mono ?_;rintro e wN⟨⟨r,rfl⟩,hI⟩;clear hM));clear HDo;go_loopw [5](fun iv wr=>∃i:Nat,i≤2∧iv=al i∧CU qs w (some (aD bb oo)) n c F Ks xa ya g (k+1) wr)(fun iv _=>2-(intOf iv).toNat);case atStart=>exact⟨0,ab,rfl,hI⟩
    case round=>
     clear hI;obtain⟨i,hi2,rfl,hI⟩:=hrel;generalize hw1:wr=w1 at hI⊢;clear hw1;by_cases q1:i<2
     ·have j1:(i:Int)<2:=ab;obtain⟨j,hj⟩:∃j:Int,1-(i:Int)=j:=⟨_,rfl⟩;have j2:IntKind.i64.wrap (1-(i:Int))=j:=cE;obtain⟨x,y,sx,sy,hV⟩:=hI.view (i:=(i:Int)) (j:=j) ab;obtain⟨a,b,aeo⟩:=hV.two;obtain⟨sl,BT⟩:=aeo.hx.AZ.last;obtain⟨C,hC⟩:=apJ aeo;obtain⟨d,hd⟩:=aZ (iA qs jU sx.bs);have hWD:WD d:=by rw[←hd];exact BF AJ
      rw[hd]at BT hC;obtain⟨cch,ayF,anD,cfz,Na⟩:=C;have c1:=hC.fz;have c2:=hC.chain;have c3:=hC.key;simp only[]at c1 c2 c3;subst c1 c2 c3;obtain⟨m1,m2⟩:=get_mem hWD.1 hC.at_;have hdl:=hWD.2.1;have hcl:(vh ⟨y.nm,keyOf y.nm,anD,false,Na⟩).length≤1000000:=aC (hWD.2.2 _ m1).2 ah;have iO:Na.length≤32:=(zO hC.ok).1.2.2.2.2;have HCX:=ag hV.cx;have HCY:=ag hV.cy;have HIX:=ag hV.ix;have HIY:=ag hV.iy;have HTB:=ag hV.tab;have Lw:=ag (fun(s:jL)(hs:s∈Na)=>apK aeo (hC.st s hs));have HCO:=ag (fun(w':World)(hb:Below w1.heap.size w1 w')=>wD x.c w' (hV.ix w' hb) BT);have HCL:=fun(w':World)(q:Sl)(hv:co w' (aF q) d)=>ag (UB d [107] y.nm (keyOf y.nm) anD Na q w' ah hv ab m1 m2 hC.ok hcl);have avA:=ag aeo.hy.Pq;have auy:=ag (show(keyOf y.nm).length≤64 from(zO hC.ok).1.1);have HNM:=ag aeo.hy.nl;have hM:=Fm.pH w1 (I1:=fun W=>Below w1.heap.size w1 W) (I2:=fun W=>co W (aF sl) d) (fun W hb=>hb) (fun W hb=>(hV.ix W hb).each _ (aT BT));obtain⟨key,aux⟩:=aZ (keyOf y.nm);rw[aux]at Lw HCL auy;have HI:=ag hI;clear hV aeo hC BT m1 m2 hcl hd aux hI hj;go_wp2_with(first|((refine bU ?_);(refine xw ?_;intro g6 w6 hM))|(refine aP ?_)|(refine bx ?_;intro wN hM)|(go_at_call 8;refine cB hM (HCX.o _ (hM.get aX)) fun wN hM=>?_)|(go_at_call 9;refine cB hM (HCO.o _ (hM.get aX)) fun wN hM=>?_)|(go_at_call 10;refine cF hM jh.EL (ajr d _ _ (hM.get eQ) ab) fun sA wN hM=>?_)|(go_at_call 7;refine cF hM (hM.st aX) (HCL _ sA (hM.get aX)).out fun sC wN hM=>?_));obtain⟨qp,qn,qc⟩:=sC;have hqn:=(hM.get (i:=0) rfl).nn;simp only[]at hqn;subst hqn;have hSm:0<Na.length→∃g o,qp=some (aD g o):=(hM.get (i:=0) rfl).some_;have HSM:=ag hSm;clear hSm;go_loopw [8](fun mv wr'=>∃m:Nat,m≤Na.length∧mv=al m∧Fm (fun W=>Below w1.heap.size w1 W∧co W (aF sl) d) w1 none wr' [(g6,32,iY ⟨y.nm,key,anD,false,⟨qp,Na.length,qc⟩⟩)] [] [fun W=>fV W (.slice qp Na.length qc) Na,fun W=>Below w1.heap.size w1 W])(fun mv _=>Na.length-(intOf mv).toNat);case atStart=>exact⟨0,ab,rfl,hM.sub⟩
      case round=>
       obtain⟨m,hm,rfl,hM⟩:=hrel;by_cases r1:m<Na.length
       ·have l1:(m:Int)<(Na.length:Int):=ab;have l3:(0:Int)≤(m:Int):=ab;obtain⟨gs,os,rfl⟩:=HSM.o ab;obtain⟨hd,e1,e2,e3,e4,e5,e6⟩:=Lw.o Na[m] (bH r1);replace hM:=hM.eW ((hM.st aX).mono fun W h=>fV.at_ h r1);have HHD:=fun(w':World)(hb:Below w1.heap.size w1 w')=>ag (by have:=yl y.c w' (HIY.o w' hb) avA.o qs (HTB.o w' hb) Na[m].ay;rw[e1,e2,e5]at this;exact this);obtain⟨s,hs⟩:=aZ (Na[m]);rw[hs]at hM HHD e3 e4;obtain⟨sh,st,sr⟩:=s;obtain⟨We,hht,Hg,hrt⟩:=hd;simp only[]at e3 e4;subst e3 e4;obtain⟨z1,z2,z3,z4,z5⟩:=vi e6;have z6:hht≤1099511627776∧Hg≤1099511627776:=by have q:max hht Hg≤1099511627776:=z5;omega
        have HSL:=fun(w':World)=>ag (acO key ⟨We,hht,Hg,hrt⟩ w' auy.o (aC z2 ah) z6.1 z6.2);obtain⟨mc,hmc⟩:=aZ (uJ qs key (qV ⟨We,hht,Hg,hrt⟩));rw[hmc]at HHD HSL;replace hM:=((hM.eW ((hM.st aX).mono fun W h=>(zC h).1)).eW ((hM.st aX).mono fun W h=>(zC h).2)).eW ((hM.st aX).mono fun W h=>af2 h);replace hM:=hM.eW (hM.st yF);have HE1:=fun w=>Fu 9998 hrt hrt w;have HE2:=fun w=>Fu 9998 mc mc w;rw[eL (Eq.refl hrt)]at HE1;rw[eL (Eq.refl mc)]at HE2;clear e1 e2 e5 e6 hs z1 z2 z3 z4 z5 z6 hmc;go_wp2_with((refine aP ?_));refine@akg (fun gH gM wN=>Fm (fun W=>Below w1.heap.size w1 W∧co W (aF sl) d) w1 none wN [(gM,43,da mc),(gH,45,il ⟨We,hht,Hg,hrt⟩),(g6,32,iY ⟨y.nm,key,anD,false,⟨some (aD gs os),Na.length,qc⟩⟩)] [] [fun W=>W.rangeAt gs (os+m*34+2) (da hrt).toList,fun W=>W.cell? (aD gs (os+m*34+1))=some (al Hg),fun W=>fV W (.slice (some (aD gs os)) Na.length qc) Na,fun W=>Below w1.heap.size w1 W]) ?R _ ?h ?k;case h=>
         intro kz;refine rB [17,18] [0,1,2,4,5,6,7,8,9,999] ?_;intro hM;intro hS;refine MC 3 15 16 ad rfl rfl rfl (fun K hK=>?_) (fun K hK=>?_) (fun K hK=>?_);rotate_left 2;focus
          refine zP [999] ?_;intro gM wN hM;intro hS;refine fv 3 15 ad rfl rfl (fun K hK=>?_) (fun K hK=>?_);rotate_left 1;focus refine zP [3,10,11,12,13,14,17,18,19] ?_;intro gH wN hM;refine rC ?_;refine An ?_;intro wN hM;refine aN ?_;refine nA ?_;intro wN hM;refine bW ?_;intro wN hM;refine rS ?_;intro wN hM
          rotate_left 1;focus
           go_simp;refine An ?_;intro wN hM;refine hK.out _ _ hM.sub fun hS=>?_;refine rG [999] ?_;intro hS;refine fv 10 15 ad rfl rfl (fun K hK=>?_) (fun K hK=>?_);rotate_left 1;focus refine zP [10,11,12,13,14,17,18,19] ?_;intro gH wN hM;refine rC ?_;refine nA ?_;intro wN hM;refine bW ?_;intro wN hM;refine rS ?_;intro wN hM
           rotate_left 1;focus go_simp;refine nA ?_;intro wN hM;refine hK.out _ _ hM.sub fun hS=>?_;refine rG [11,12,13,14,15,17,18,19] ?_;refine rN ?_;intro gH wN hM;refine rS ?_;intro wN hM;refine rS ?_;intro wN hM
         rotate_left 4;focus
          refine zP [999] ?_;intro gH wN hM;intro hS;refine fv 3 16 ad rfl rfl (fun K hK=>?_) (fun K hK=>?_);rotate_left 1;focus refine zP [3,10,11,12,13,14,17,18,19] ?_;intro gM wN hM;refine rC ?_;refine An ?_;intro wN hM;refine aN ?_;refine nA ?_;intro wN hM;refine bW ?_;intro wN hM;refine rS ?_;intro wN hM
          rotate_left 1;focus
           go_simp;refine An ?_;intro wN hM;refine hK.out _ _ hM.sub fun hS=>?_;refine rG [999] ?_;intro hS;refine fv 10 16 ad rfl rfl (fun K hK=>?_) (fun K hK=>?_);rotate_left 1;focus refine zP [10,11,12,13,14,17,18,19] ?_;intro gM wN hM;refine rC ?_;refine nA ?_;intro wN hM;refine bW ?_;intro wN hM;refine rS ?_;intro wN hM
           rotate_left 1;focus go_simp;refine nA ?_;intro wN hM;refine hK.out _ _ hM.sub fun hS=>?_;refine rG [11,12,13,14,16,17,18,19] ?_;refine rN ?_;intro gM wN hM;refine rS ?_;intro wN hM;refine rS ?_;intro wN hM
         rotate_left 6;focus
          go_simp;refine An ?_;intro wN hM;refine hK.out _ _ hM.sub fun hS=>?_;refine rG [999] ?_;intro hS;refine MC 10 15 16 ad rfl rfl rfl (fun K hK=>?_) (fun K hK=>?_) (fun K hK=>?_);rotate_left 2;focus
           refine zP [999] ?_;intro gM wN hM;intro hS;refine fv 10 15 ad rfl rfl (fun K hK=>?_) (fun K hK=>?_);rotate_left 1;focus refine zP [10,11,12,13,14,17,18,19] ?_;intro gH wN hM;refine rC ?_;refine nA ?_;intro wN hM;refine bW ?_;intro wN hM;refine rS ?_;intro wN hM
           rotate_left 1;focus go_simp;refine nA ?_;intro wN hM;refine hK.out _ _ hM.sub fun hS=>?_;refine rG [11,12,13,14,15,17,18,19] ?_;refine rN ?_;intro gH wN hM;refine rS ?_;intro wN hM;refine rS ?_;intro wN hM
          rotate_left 3;focus
           refine zP [999] ?_;intro gH wN hM;intro hS;refine fv 10 16 ad rfl rfl (fun K hK=>?_) (fun K hK=>?_);rotate_left 1;focus refine zP [10,11,12,13,14,17,18,19] ?_;intro gM wN hM;refine rC ?_;refine nA ?_;intro wN hM;refine bW ?_;intro wN hM;refine rS ?_;intro wN hM
           rotate_left 1;focus go_simp;refine nA ?_;intro wN hM;refine hK.out _ _ hM.sub fun hS=>?_;refine rG [11,12,13,14,16,17,18,19] ?_;refine rN ?_;intro gM wN hM;refine rS ?_;intro wN hM;refine rS ?_;intro wN hM
          rotate_left 4;focus
           go_simp;refine nA ?_;intro wN hM;refine hK.out _ _ hM.sub fun hS=>?_;refine rG [11,12,13,14,999] ?_;intro hS;refine fv 15 16 ad rfl rfl (fun K hK=>?_) (fun K hK=>?_);rotate_left 1;focus refine zP [15,17,18,19] ?_;intro gM wN hM;refine rN ?_;intro gH wN hM;refine rS ?_;intro wN hM;refine rS ?_;intro wN hM
           rotate_left 1;focus refine zP [16,17,18,19] ?_;intro gH wN hM;refine rN ?_;intro gM wN hM;refine rS ?_;intro wN hM;refine rS ?_;intro wN hM
         all_goals(try clear hS)
         all_goals(try replace hM:=asC hM)
         all_goals exact kz.out gH gM wN hM.sub
        intro gH gM wN hM;go_wp2_with fail;by_cases h7:k%8=7;have k1:((k:Int)%8==7)=true:=by simp only[beq_iff_eq];omega
        have k2:((k:Int).tmod 8==7)=true:=by rw[eX ab];exact k1
        have k3:(k:Int)%8=7:=ab;have k4:(k:Int).tmod 8=7:=by rw[eX ab];exact k3
        refine TH ?_;intro hM;refine rC ?_;refine cB hM (HSL _).out fun wN hM=>?_;refine ll ?_;exact⟨⟨m+1,ab,ae,hM.sub⟩,kE⟩;have k1:((k:Int)%8==7)=false:=by simp only[fE];omega
        have k2:((k:Int).tmod 8==7)=false:=by rw[eX ab];exact k1
        have k3:¬(k:Int)%8=7:=ab;have k4:¬(k:Int).tmod 8=7:=by rw[eX ab];exact k3
        refine TH ?_;intro hM;go_wp2_with fail;exact⟨⟨m+1,ab,ae,hM.sub⟩,kE⟩
       have l1:¬(m:Int)<(Na.length:Int):=ab;go_wp2_with((refine aP ?_));exact⟨⟨i+1,ab,ae,HI.o.step hM.below⟩,kE⟩
     have j1:¬(i:Int)<2:=ab;go_wp2_with fail;exact⟨⟨k+1,ab,ab,ae,hI⟩,kE⟩
   have i1:(k:Int)<(n:Int):=ab;have i2:¬(k:Int)<40:=ab;go_wp2_with fail;go_ret;exact⟨rfl,hI.below⟩
  have i1:¬(k:Int)<(n:Int):=ab;go_wp2_with fail;go_ret;exact⟨rfl,hI.below⟩
end
section
open Go.WideShapes Go.ChangeShapes Go.Joins Go.Deep
section
variable{H:Type}{enc:TypeId×Value→H}{P:Program}{w:World}{base:Nat}{spare:Nat→Bool}{held:Bool}{r:Reach}{b0:Nat}{t:TypeId}{v:Value}{d:DataW H}{p:List MemPlace}
instance axk:Inhabited (qO×List Bool):=⟨(Yp,[])⟩
def avc {α:Type}{l:List α}(h:l.length=7):∃a b c d e f g,l=[a,b,c,d,e,f,g]:=by match l,h with|[a,b,c,d,e,f,g],_=>exact⟨a,b,c,d,e,f,g,rfl⟩
def afi {e te:TypeId}{f0 f1 f2 f3 f4 f5 f6:Field}(ht:P.underlying t=some (.slice e))(he:P.underlying e=some (.struct #[f0,f1,f2,f3,f4,f5,f6]))(xX:oneCellFields P #[f0,f1,f2,f3,f4,f5,f6]=true)(hC:P.cellsOf e=7)(h0:P.underlying f0.type=some (.int .i64))(h1:P.underlying f1.type=some (.int .i64))(h2:P.underlying f2.type=some (.int .i64))(h3:P.underlying f3.type=some (.int .i64))(h4:P.underlying f4.type=some (.int .i64))(h6:P.underlying f5.type=some (.slice te))(h7:P.underlying te=some .bool)(h8:P.cellsOf te=1)(h5:P.underlying f6.type=some .string)(hv:Value.okWide P w r b0 t v)(h:DataW.Trod enc P w base spare held t v d p):∃p n c F Ks,v=.slice p n c∧LI w w p n c F Ks:=by
 obtain⟨n,m,R,⟨q,c,rfl,hm,hR⟩,hy⟩:=aiI ht ab hv h;rw[hC]at hR;rcases dZ n with hn|hn;subst hn;exact⟨_,0,_,fun _=>Yp,fun _=>[],rfl,au _,ae,fun h=>absurd h ae,fun i hi=>absurd hi ae⟩;obtain⟨b,o,rfl,hb,fd⟩:=hR hn;obtain⟨F,hF⟩:=Gb (α:=qO×List Bool) (n:=n) (q:=fun i x=>R i=anw x.1∧yR w w (aF x.1.gj) x.2) (fun i hi=>by
  obtain⟨y,hy⟩:=hy i hi;obtain⟨hl,k,hf⟩:=aiJ he xX (by rw[hC];rfl) hy;obtain⟨a0,a1,a2,a3,a4,a5,a6,hRi⟩:=avc hl;rw[hRi]at hf;have one:∀(j:Nat)(f:Field)(u:Value),#[f0,f1,f2,f3,f4,f5,f6][j]?=some f→[a0,a1,a2,a3,a4,a5,a6][j]?=some u→P.underlying f.type=some (.int .i64)→∃x:Int,u=al x:=by intro j f u hj hju hu;obtain⟨u',y,AM,AL⟩:=hf j f hj;rw[hju]at AM;obtain rfl:=lM AM;obtain⟨x,e0,_,hw⟩:=DataW.trod_int hu AL;simp at e0;exact⟨x,e0⟩
  obtain⟨x0,rfl⟩:=one 0 f0 a0 rfl rfl h0;obtain⟨x1,rfl⟩:=one 1 f1 a1 rfl rfl h1;obtain⟨x2,rfl⟩:=one 2 f2 a2 rfl rfl h2;obtain⟨x3,rfl⟩:=one 3 f3 a3 rfl rfl h3;obtain⟨x4,rfl⟩:=one 4 f4 a4 rfl rfl h4;obtain⟨u5,y5,g5,k5⟩:=hf 5 f5 rfl;obtain⟨u6,y6,g6,k6⟩:=hf 6 f6 rfl;obtain rfl:a5=u5:=by simpa using g5
  obtain rfl:a6=u6:=by simpa using g6
  obtain⟨x6,e6,_⟩:=DataW.trod_string h5 k6;simp at e6;subst e6;obtain⟨ks,hks⟩:=Ng h6 h7 h8 k5;have awx:=hks;obtain⟨_,q5,c5,rfl,_⟩:=awx;exact⟨(⟨x0,x1,x2,x3,x4,⟨q5,ks.length,c5⟩,x6.data.toList⟩,ks),by rw[hRi],hks⟩)
 refine⟨_,n,c,fun i=>(F i).1,fun i=>(F i).2,rfl,au _,hm,fun _=>⟨b,o,rfl,hb,fun i hi j v hj=>?_⟩,fun i hi=>(hF i hi).2⟩;have hl:(R i).length=7:=by rw[(hF i hi).1];rfl
 have hj7:j<7:=by rcases dF j 7 with h|h;exact h;rw[cU (by simpa[kV,anw]using h)]at hj;cases hj
 rw[(fd i hi).2 j hj7,(hF i hi).1];exact hj
end
end
end Go.Proofs.YtlddafbgfkocjaaGreatDoor
