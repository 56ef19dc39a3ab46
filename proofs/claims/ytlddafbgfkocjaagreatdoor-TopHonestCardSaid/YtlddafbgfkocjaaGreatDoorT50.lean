/- A part of TopHonest. -/
import Derived.Test.YtlddafbgfkocjaaGreatDoorT48
import Derived.Test.YtlddafbgfkocjaaGreatDoorT49
namespace Go.Proofs.YtlddafbgfkocjaaGreatDoor
open Go.RowKit Go.Proofs.Tryz
set_option linter.all false
set_option maxRecDepth 1000000
set_option maxHeartbeats 400000000
def KR(h n:Int)(w:World)(h1:0<n)(h2:n≤1048576):Calls prog 81 #[al h,al n] w fun e w'=>∃r:Int,(0≤r∧r<n)∧e=.returned (al r)∧Below w.heap.size w w':=by
 have hM:=Fm.start w (fun _=>True) (fun W hb=>trivial);have i0:(n==0)=false:=aR;obtain⟨m,hm⟩:=aZ (h.tmod n);have m1:m<n:=by rw[←hm];exact gX h h1
 have m2:-n<m:=by rw[←hm];rcases Int.le_total 0 h with h3|h3;have:=qu n h3;omega;have h4:=gX (-h) h1;rw[Int.neg_tmod]at h4;omega
 have k1:IntKind.i64.wrap m=m:=cE;have k2:IntKind.i64.wrap (m+n)=m+n:=cE;have j1:0≤(m+n).tmod n:=qu n ab;have j2:(m+n).tmod n<n:=gX _ h1;obtain⟨r,hr⟩:=aZ ((m+n).tmod n);rw[hr]at j1 j2;have k3:IntKind.i64.wrap r=r:=cE;go_enter func81,ntmps81;go_wp2_with fail;go_ret;exact⟨r,⟨j1,j2⟩,rfl,hM.below⟩
def wSm(n:Nat)(h:n<18446744073709551616):W4:=⟨n,0,0,0,⟨⟨h,ae⟩,ae⟩⟩
def agV(n:Nat)(h:n<18446744073709551616)(w:World):dM 70 #[.int .u64 n] w (.agg (wSm n h).cs):=afS n w
def amU {r:Int}(h:0≤r∧r<8):∃k:Nat,k<18446744073709551616∧IntKind.i64.wrap (r+1)=(k:Int)∧IntKind.u64.wrap (k:Int)=(k:Int):=by refine⟨(r+1).toNat,ab,?_,?_⟩;all_goals grind[IntKind.wrap_i64,IntKind.wrap_u64]
def Qp(den src dst:Bs)(h:Int)(w:World):Calls prog 80 #[str den,str src,str dst,al h] w fun e w'=>∃n:W4,e=.returned (.agg (gF {vp with bM:=den,src:=src,dst:=dst,bK:=n}))∧Below w.heap.size w w':=by have hM:=Fm.start w (fun _=>True) (fun W hb=>trivial);go_enter func80,ntmps80;go_wp2_with(first|(refine aP ?_)|(refine bx ?_;intro wN hM)|(refine bw ?_;intro gN wN hM)|(go_at_call 81;go_loud(refine(KR h 8 _ ae ae).mono ?_;rintro e wN⟨r,r1,rfl,mR⟩;obtain⟨k,k3,k4,k5⟩:=amU r1;have hN:=hM.step mR;have hM:=hN;clear hN mR))|(go_at_call 70;go_loud(refine cB hM (agV k k3 _) fun wN hM=>?_)));refine ar ?_;exact⟨⟨_,rfl⟩,hM.below⟩
def jU:Ez:=(my [] [97,110,110] [120] (wSm 1000 ae)).1
def ac9(w:World)(hl:jU.length≤1000000):Calls prog 31 #[] w fun e w'=>∃v',e=.returned v'∧w'.ownsRow w.heap.size 94 2 v' jU.length (jU.flatMap eC)∧Below w.heap.size w w':=by have hM:=Fm.start w (fun W=>co W (.slice none 0 0) []) (fun W hb=>di.nil W);have HG:=ag hl;go_enter func31,ntmps31;go_wp2_with(first|((refine bU ?_);(refine qI hM (d:=some 1) ?_;intro g1 w1 hM))|(refine aP ?_)|(refine bx ?_;intro wN hM)|(go_at_call 70;refine cB hM (agV 1000 ae _) fun wN hM=>?_)|(go_at_call 69;refine cF hM (hM.st aX) (PS [] [97,110,110] [120] (wSm 1000 ae) eV _ (hM.get aX) WD.nil ae ae) fun s1 wN hM=>?_)|(go_at_call 10;refine(Qc jU _ _ (hM.get aX) HG.o).mono ?_;rintro e wN⟨v5,rfl,Az,tl⟩;have hN:=hM.ii tl Az;clear tl Az;have hM:=hN;clear hN));go_ret;exact Ju
def AJ:WD jU:=WD.nil.aqx _ _ _
def Qk:jU.length=2:=ad
def aoB:YN jU=jU:=ad
def YO:Bs:=CD 0 0 []
def QJ:Bs:=ahs 0 [] [] 0 0 [] 0 0 []
def aht:(dK YO).2=0:=ad
def ahr:(eM QJ).2=0:=ad
theorem Pf:YO.length≤100:=by decide+kernel
theorem Fs:QJ.length≤200:=by decide+kernel
def rk(key:Bs)(h:qh):Tx:={lA with kind:=3,id:=[107],key:=key,period:=1000000,header:=h}
def TU(key:Bs)(h:qh):Bs:=wg (rk key h) YO QJ
def aaY {key:Bs}{h:qh}(hk:key.length≤64)(hh:lH h=true):lW (rk key h)∧Ik (rk key h):=by
 obtain⟨a1,a2,a3,a4,a5⟩:=vi hh;constructor;·refine⟨?_,?_,?_,?_,?_,?_,?_,?_,?_,?_,?_,?_,?_⟩;all_goals first|exact(ae:(0:Nat)≤4000)|exact(ae:(1:Nat)≤4000)|exact(ae:(0:Int)≤0∧(0:Int)≤1099511627776)|(show key.length≤4000;omega)|(show h.chain.length≤4000;omega)
 ·refine⟨?_,?_,?_,?_,?_,?_,?_,?_⟩;all_goals first|exact(ae:(0:Int)≤0∧(0:Int)≤1099511627776)|exact(ae:(0:Int)≤3∧(3:Int)≤16)|exact(ae:(0:Int)≤1000000∧(1000000:Int)≤1099511627776)|(show 0≤h.ay∧h.ay≤_;omega)|(show 0≤h.time∧h.time≤_;omega)
def an1 {key:Bs}{h:qh}(hk:key.length≤64)(hh:lH h=true):(TU key h).length≤1000:=by obtain⟨a1,a2,a3,a4,a5⟩:=vi hh;have h1:=adF (x:=rk key h) (pb:=YO) (gb:=QJ);have h2:=Pf;have h3:=Fs;have e1:(rk key h).id.length=1:=rfl;have e2:(rk key h).over.length=0:=rfl;have e3:(rk key h).peer.length=0:=rfl;have e4:(rk key h).dj.length=0:=rfl;have e5:(rk key h).key.length=key.length:=rfl;have e6:(rk key h).header.chain.length=h.chain.length:=rfl;have e7:(rk key h).aA.source.length=0:=rfl;have e8:(rk key h).aA.sink.length=0:=rfl;have e9:(rk key h).aA.bj.bM.length=0:=rfl;have e10:(rk key h).aA.bj.src.length=0:=rfl;have e11:(rk key h).aA.bj.dst.length=0:=rfl;have e12:(rk key h).nK.length=0:=rfl;grind[TU]
def KH {HS:jL→Prop}{x:Tx}{pb gb:Bs}(hk:0≤x.kind∧x.kind≤16)(h4:x.kind≠4):jo HS (wg x pb gb):=by intro h1 h2;grind[akQ]
def ahu {HS:jL→Prop}{key:Bs}{h:qh}:jo HS (TU key h):=KH (x:=rk key h) (ae:(0:Int)≤3∧(3:Int)≤16) (ae:(3:Int)≠4)
def an0 {C:qi}(h:C.bh.length≤1)(hc:C.chain.length≤32)(hk:C.key.length≤64):(vh C).length≤400:=by have h1:=dW 112 C.period.toNat;have h2:=dW 102 (Wa C.frozen).toNat;have h3:=ry 115 96 (pW C.chain C.bh) (fun b hb=>RQ);grind[pW,vh,qf,cw]
def akP {T:bR}{d:Ez}{x:Tx}{L:List ez}{G:jN}{h t:Int}(hk:x.kind=3):Aq T d x L G h t=oq d x.id x.key x.period x.header:=by simp_all[Aq]
def akR {HS:jL→Prop}{T:bR}{d:Ez}{ht t:Int}{key:Bs}{h:qh}(hW:WD d)(DX:getD d kK=none)(hl:d.length<2000)(hk:key.length≤64)(hh:lH h=true)(hs:HS (mz h)):yW HS h.chain key (Gi T d ht t (TU key h)).1:=by
 obtain⟨h1,h2⟩:=aaY hk hh;have hr:=abX (x:=rk key h) (pb:=YO) (gb:=QJ) h1 h2 (by grind[Pf]) (by grind[Fs]) aht ahr;have hc:(dJ d [107]).2≠0:=by unfold dJ Be;rw[show getD d (fD 67 [107])=none from DX];decide+kernel
 obtain⟨a1,a2,a3,a4,a5⟩:=vi hh;have it:jt ⟨h.chain,key,1000000,false,[mz h]⟩=true:=by unfold jt;rw[dO,dU];refine⟨⟨hk,(ae:(1:Int)≤1000000),(ae:(1000000:Int)≤1099511627776),(ae:1≤1),(ae:1≤32)⟩,?_⟩;rw[zj];intro i hi;have:i=0:=ai;subst this;exact⟨hh,fun h0=>absurd h0 ae⟩
 have as7:nD d (fD 67 [107]) (vh (Eu key 1000000 h))=0:=by have hb:=an0 (C:=Eu key 1000000 h) (ae:1≤1) a2 hk;unfold nD;rw[if_neg (by rintro(h|h);exact absurd h ah;omega)];omega
 have hd:Aq T d (yK (fe (TU key h)).1 eV wB) (fe (TU key h)).1.proof.path (zh (fe (TU key h)).1.fx wB) ht t=oq d [107] key 1000000 h:=by unfold TU;rw[hr];exact akP (show(3:Int)=3 from rfl)
 unfold Gi;rw[if_pos (by grind[TU]),hd];unfold oq;rw[if_pos aq,if_neg hc,Nq it,if_pos rfl];unfold vz vw;rw[if_pos as7];refine⟨Eu key 1000000 h,?_,it,rfl,rfl,rfl,fun s hm=>?_⟩;show getD (jM d (fD 67 [107]) (vh (Eu key 1000000 h))) kK=_;unfold jM;rw[if_pos as7];exact Iz hW.1 _ _;rw[cG.1 hm];exact hs
def an2:getD jU kK=none:=ad
def abW {T:bR}{b:nL}(h:b.Ca=[]):iA T jU [b]=jU:=by unfold iA;simp_all[ss]
abbrev KE(a b:Nat):Array Value:=#[aG a,aG b]
section
variable(g a b:Nat)(w:World)(hB:aM w g 55 (KE a b))
include hB
def MY:dM 18 #[aG g,al 0] w (aG a):=by have hM:=Fm.start w (fun W=>aM W g 55 (KE a b)) (fun W hb=>hB.step hb);go_enter func18,ntmps18;go_wp2_with((refine aP ?_));go_ret;exact aK
def MX:dM 18 #[aG g,al 1] w (aG b):=by have hM:=Fm.start w (fun W=>aM W g 55 (KE a b)) (fun W hb=>hB.step hb);go_enter func18,ntmps18;go_wp2_with((refine aP ?_));go_ret;exact aK
end
abbrev GR(nm:Bs)(dg cg:Nat)(q:Bool)(p:Option Addr)(n c:Nat):Array Value:=#[str nm,aG dg,aG cg,.bool q,.slice p n c]
section
variable(g a b:Nat)(w:World)(hB:aM w g 55 (KE a b)){nm:Bs}{dg cg:Nat}{q:Bool}{p:Option Addr}{n c:Nat}
include hB
def Mb(hS:aM w a 61 (GR nm dg cg q p n c)):dM 8 #[aG g,al 0] w (aG cg):=by have hM:=Fm.pH w (I1:=fun W=>aM W g 55 (KE a b)) (I2:=fun W=>aM W a 61 (GR nm dg cg q p n c)) (fun W hb=>hB.step hb) (fun W hb=>hS.step hb);go_enter func8,ntmps8;go_wp2_with(first|(refine aP ?_)|(go_at_call 18;refine cB hM (MY g a b _ (hM.get aX)) fun wN hM=>?_));go_ret;exact aK
def Ma(hS:aM w b 61 (GR nm dg cg q p n c)):dM 8 #[aG g,al 1] w (aG cg):=by have hM:=Fm.pH w (I1:=fun W=>aM W g 55 (KE a b)) (I2:=fun W=>aM W b 61 (GR nm dg cg q p n c)) (fun W hb=>hB.step hb) (fun W hb=>hS.step hb);go_enter func8,ntmps8;go_wp2_with(first|(refine aP ?_)|(go_at_call 18;refine cB hM (MX g a b _ (hM.get aX)) fun wN hM=>?_));go_ret;exact aK
end
def Xq(c:Ch)(x:Bs)(c':Ch):Prop:=(kN c x≠0∧c'=c)∨(kN c x=0∧x.length≤6000∧c.ws.length<16∧∃wp wc,c'=Ij c x wp wc)
def avg {α:Type}(a b c:α)(l:List α):(a::b::c::l).Perm (c::a::b::l):=(List.Perm.cons a (List.Perm.swap c b l)).trans (List.Perm.swap c a (b::l))
section
variable{F:MF}{w0 w:World}{os:List Ob}{l:List MB}{rs:List MR}
def LL(c:Ch)(x:Bs)(hM:cJ (fun W=>F W∧dY c.ms W) w0 w os (sP c::l) (qB c::qD c::qC c::su c::rs)):Calls prog 83 #[aG c.g,str x] w fun e w'=>∃c':Ch,e=.returned (al (kN c x))∧(Xq c x c'∧c'.g=c.g)∧cJ (fun W=>F W∧dY c'.ms W) w0 w' os (sP c'::l) (qB c'::qD c'::qC c'::su c'::rs):=by refine(YM c x hM).mono fun e w' h=>?_;rcases h with⟨h1,⟨h2,h3⟩|⟨h2,h3,h4,wp,wc,h5⟩⟩;exact⟨c,h1,⟨.inl ⟨h2,rfl⟩,rfl⟩,h3⟩;exact⟨Ij c x wp wc,h1,⟨.inr ⟨h2,h3,h4,wp,wc,rfl⟩,rfl⟩,h5⟩
def LY(c:Ch)(x:Tx)(pb gb:Bs){J:World→Prop}(hJ:∀w w',J w→Below w.heap.size w w'→J w')(h:lW x)(hf:OR x)(hp:∀w,J w→dM 183 #[.agg (jF x.proof)] w (str pb))(Wk:pb.length≤16777215)(hg:∀w,J w→dM 184 #[.agg (ir x.fx)] w (str gb))(UM:gb.length≤16777215)(hFJ:∀W,F W→J W){sa dg n k:Nat}{nm:Bs}{q:Bool}{p:Option Addr}(hM:cJ (fun W=>F W∧dY c.ms W) w0 w os ((sa,61,GR nm dg c.g q p n k)::sP c::l) (qB c::qD c::qC c::su c::rs)):Calls prog 74 #[aG sa,.agg (dA x)] w fun e w'=>∃c':Ch,e=.returned (.bool (kN c (wg x pb gb)==0))∧(Xq c (wg x pb gb) c'∧c'.g=c.g)∧cJ (fun W=>F W∧dY c'.ms W) w0 w' os ((sa,61,GR nm dg c'.g q p n k)::sP c'::l) (qB c'::qD c'::qC c'::su c'::rs):=by have HT:=ag (fun(W:World)(hw:J W)=>acd J hJ x pb gb W hw h hf hp Wk hg UM);have HF:=ag hFJ;obtain⟨X,hX⟩:=aZ (wg x pb gb);rw[hX]at HT⊢;clear hJ h hf hp hg hFJ hX Wk UM;have HS:=fun(w:World)(l:List MB)=>ag (LL (F:=F) (w0:=w0) (w:=w) (os:=os) (l:=l) (rs:=rs) c X);obtain⟨er,UL⟩:=aZ (kN c X);simp only[UL]at HS⊢;go_enter func74,ntmps74;go_wp2_with(((refine db ?_);(refine iQ ?_;intro g3 w3 hM)));refine rB [6] [0,1,2,3,4,5,6,7,8] ?_;intro hM;refine rC ?_;refine cB hM (HT.o _ (HF.o _ (hM.get aX).here.1)) fun wN hM=>?_;refine rK ?_;exact SU
end
def ac8(v:ls):(wA v).length=3:=rfl
def amM(R:List ls):(R.flatMap wA).length=R.length*3:=jW ac8 R
def amN(R:List ls):∀u∈R.flatMap wA,u.oneCell'=true:=vm (fun x u hu=>(eK.1 (inferInstance:tE (sn x)).eq) u (by grind[sn])) R
def apv {R:List ls}{rp:Option Addr}{rc:Nat}{w:World}(h:di w (.slice rp R.length rc) wA 3 R)(h0:R=[]→rp=none∧rc=0):(R=[]∧rp=none∧rc=0)∨∃g o,rp=some (aD g o)∧0<R.length:=Ty
section
variable{F:MF}{w0 w:World}{os:List Ob}{l:List MB}{rs:List MR}
abbrev Ve(p:Option Addr)(k:Nat)(R:List ls):MR:=(.slice p R.length k,249,3,R.length,R.flatMap wA)
def Qo(c:Ch)(o:Ob)(t er:Int)(Z:Ch→Ob→List ls→Prop){sa dg k:Nat}{nm:Bs}{q:Bool}{p:Option Addr}{Rs:List ls}(hRs:Rs.length≤1000000)(hC:∀(w:World)(l:List MB)(rs:List MR),cJ (fun W=>F W∧dY c.ms W) w0 w (o::os) (sP c::l) (qB c::qD c::qC c::su c::rs)→Calls prog 32 #[aG c.g,al t] w fun e w'=>∃(rp:Option Addr)(rc:Nat)(R:List ls)(c':Ch)(o':Ob),e=.returned (.tuple #[.slice rp R.length rc,al er])∧(R=[]→rp=none∧rc=0)∧R.length≤16∧(Z c' o' R∧c'.g=c.g)∧Sep w0 (o'::os)∧cJ (fun W=>(F W∧dY c'.ms W)∧di W (.slice rp R.length rc) wA 3 R) w0 w' (o'::os) (sP c'::l) (qB c'::qD c'::qC c'::su c'::rs))(hM:cJ (fun W=>F W∧dY c.ms W) w0 w (o::os) ((sa,61,GR nm dg c.g q p Rs.length k)::sP c::l) (qB c::qD c::qC c::su c::Ve p k Rs::rs)):Calls prog 15 #[aG sa,al t] w fun e w'=>∃(p':Option Addr)(k':Nat)(R:List ls)(c':Ch)(o':Ob),e=.returned (.bool (er==0))∧R.length≤16∧(Z c' o' R∧c'.g=c.g)∧Sep w0 (o'::os)∧cJ (fun W=>F W∧dY c'.ms W) w0 w' (o'::os) ((sa,61,GR nm dg c'.g q p' (Rs++R).length k')::sP c'::l) (qB c'::qD c'::qC c'::su c'::Ve p' k' (Rs++R)::rs):=by have HC:=fun(w:World)(l:List MB)(rs:List MR)=>ag (hC w l rs);clear hC;go_enter func15,ntmps15;go_wp2_with(first|((refine pN ?_);(first|(refine adC hM _ ?_)|(refine adD hM (hM.get aX).here.2.range (amM R) (amN R) hEp ?_;intro ge2 ce wN hM)))|(refine aP ?_)|(refine bx ?_;intro wN hM)|(go_at_call 32;refine((HC _ _ _).out (Fm.perm hM (List.Perm.swap _ _ _) (cz _))).mono ?_;rintro e wN⟨rp,rc,R,c2,o2,rfl,hR0,Bv,hZ,nI,eI⟩;have hM:=eI;clear eI;rcases apv (hM.get aX).here.2 hR0 with⟨rfl,rfl,rfl⟩|⟨ge,oe,rfl,hEp⟩));go_ret;refine⟨p,k,[],c2,o2,rfl,Bv,hZ,nI,?_⟩;rw[hZ.2,cq];exact Tz;go_ret;refine⟨some (aD ge2 0),ce,R,c2,o2,rfl,Bv,hZ,nI,?_⟩;rw[hZ.2,aw];have e2:(Rs++R).flatMap wA=Rs.flatMap wA++R.flatMap wA:=cH;simp only[Ve,e2,aw];exact Tz
end
def AN {α:Type}(a b c:α)(l:List α):(a::b::c::l).Perm (b::c::a::l):=(List.Perm.swap b a (c::l)).trans (List.Perm.cons b (List.Perm.swap c a l))
section
variable{F:MF}{w0 w:World}{os:List Ob}{l:List MB}{rs:List MR}
def afK(c:Ch)(o:Ob)(er:Int)(x:Tx)(pb gb:Bs)(Z:Ch→Ob→List ls→Prop){J:World→Prop}(hJ:∀w w',J w→Below w.heap.size w w'→J w')(h:lW x)(hf:OR x)(hp:∀w,J w→dM 183 #[.agg (jF x.proof)] w (str pb))(Wk:pb.length≤16777215)(hg:∀w,J w→dM 184 #[.agg (ir x.fx)] w (str gb))(UM:gb.length≤16777215)(hFJ:∀W,F W→J W){sa dg k:Nat}{nm:Bs}{q:Bool}{p:Option Addr}{Rs:List ls}(hRs:Rs.length≤1000000)(he:kN c (wg x pb gb)=0)(hC:∀(c1:Ch),Xq c (wg x pb gb) c1→∀(w:World)(l:List MB)(rs:List MR),cJ (fun W=>F W∧dY c1.ms W) w0 w (o::os) (sP c1::l) (qB c1::qD c1::qC c1::su c1::rs)→Calls prog 32 #[aG c1.g,al 0] w fun e w'=>∃(rp:Option Addr)(rc:Nat)(R:List ls)(c':Ch)(o':Ob),e=.returned (.tuple #[.slice rp R.length rc,al er])∧(R=[]→rp=none∧rc=0)∧R.length≤16∧(Z c' o' R∧c'.g=c1.g)∧Sep w0 (o'::os)∧cJ (fun W=>(F W∧dY c'.ms W)∧di W (.slice rp R.length rc) wA 3 R) w0 w' (o'::os) (sP c'::l) (qB c'::qD c'::qC c'::su c'::rs))(hM:cJ (fun W=>F W∧dY c.ms W) w0 w (o::os) ((sa,61,GR nm dg c.g q p Rs.length k)::sP c::l) (qB c::qD c::qC c::su c::Ve p k Rs::rs)):Calls prog 33 #[aG sa,.agg (dA x)] w fun e w'=>∃(p':Option Addr)(k':Nat)(R:List ls)(c':Ch)(o':Ob),e=.returned (.bool (er==0))∧R.length≤16∧(Z c' o' R∧c'.g=c.g)∧Sep w0 (o'::os)∧cJ (fun W=>F W∧dY c'.ms W) w0 w' (o'::os) ((sa,61,GR nm dg c'.g q p' (Rs++R).length k')::sP c'::l) (qB c'::qD c'::qC c'::su c'::Ve p' k' (Rs++R)::rs):=by have HS:=fun(w:World)(l:List MB)(rs:List MR)=>ag (LY (F:=F) (w0:=w0) (w:=w) (os:=o::os) (l:=l) (rs:=rs) c x pb gb hJ h hf hp Wk hg UM hFJ (sa:=sa) (dg:=dg) (n:=Rs.length) (k:=k) (nm:=nm) (q:=q) (p:=p));clear hJ h hf hp hg hFJ Wk UM;have i0:(kN c (wg x pb gb)==0)=true:=oz;have HC:=fun(c1:Ch)(h1:Xq c (wg x pb gb) c1)(w:World)(l:List MB)(rs:List MR)=>ag (Qo (F:=F) (w0:=w0) (w:=w) (os:=os) (l:=l) (rs:=rs) c1 o 0 er Z (sa:=sa) (dg:=dg) (k:=k) (nm:=nm) (q:=q) (p:=p) hRs (hC c1 h1));clear hC he;generalize wg x pb gb=X at HS i0 HC;simp only[i0]at HS;go_enter func33,ntmps33;go_wp2_with(first|((refine db ?_);(refine iQ ?_;intro g3 w3 hM))|(refine aP ?_)|(go_at_call 74;refine((HS _ _ _).out (Fm.perm hM (AN _ _ _ _) (cz _))).mono ?_;rintro e wN⟨c2,rfl,Fl,eI⟩;have hM:=eI;clear eI)|(go_at_call 15;refine((HC c2 Fl.1 _ _ _).out hM).mono ?_;rintro e wN⟨p2,k2,R,c3,o3,rfl,Bv,hZ,nI,eI⟩;have hM:=eI;clear eI));go_ret;refine⟨p2,k2,R,c3,o3,rfl,Bv,⟨hZ.1,hZ.2.trans Fl.2⟩,nI,?_⟩;exact JP
end
def keyOf(nm:Bs):Bs:=[107,101,121,32]++nm
section
variable{F:MF}{w0 w:World}{os:List Ob}{l:List MB}{rs:List MR}
def Rt(T:bR)(o:Lo)(nm:Bs)(bs:List nL)(x:Log){n:Int}{j:Nat}{sa m k:Nat}{v2 p:Option Addr}{q:Bool}(ee:Sep w0 (qW o::os))(hM:cJ F w0 w (qW o::os) ((sa,61,#[str nm,aG o.g,.pointer v2,.bool q,.slice p m k])::l) rs)(hT:∀W,F W→be T W)(it:pD n j o.d)(n0:3≤n)(n1:n≤4096)(hj:j≤100000)(hr:pV o.d=(some x,bs.map pm,0))(hb:kP bs)(Pw:bs.length≤50000)(hnm:nm≠[])(Mn:nm.length≤32):Calls prog 14 #[aG sa] w fun e w'=>∃(c:Ch)(h:Nat),e=.returned (.bool true)∧(c.nm=nm∧c.key=keyOf nm∧c.lg=h∧c.ws=[]∧c.dead=false)∧lG T jU bs c∧Sep w0 (ey ⟨h,o.g,o.gm,o.v,o.cap,o.d,x⟩::os)∧cJ (fun W=>F W∧dY c.ms W) w0 w' (ey ⟨h,o.g,o.gm,o.v,o.cap,o.d,x⟩::os) ((sa,61,GR nm o.g c.g false p m k)::sP c::l) (qB c::qD c::qC c::su c::rs):=by
 have EY:(keyOf nm).length≤64:=by unfold keyOf;rw[aw];exact aR
 have i9:¬(9223372036854775807<4+List.length nm):=ab;have hke:keyOf nm=107::101::121::32::nm:=rfl;rw[hke]at EY⊢;have HO:=fun(F':MF)(hT':∀W,F' W→be T W)(gv:Value)(hg:∀W,F' W→co W gv jU)(w:World)(l:List MB)(rs:List MR)(hM:cJ F' w0 w (qW o::os) l rs)=>ag (aey (F:=F') (w0:=w0) (w:=w) (os:=os) (l:=l) (rs:=rs) T o nm (107::101::121::32::nm) gv jU jU bs x ee hM hT' hg aoB AJ (by simp[Qk]) it n0 n1 hj hr hb Pw hnm Mn EY);have HT:=ag hT;clear hT hr hb Pw it;go_enter func14,ntmps14;go_wp2_with fail;refine rB [14] [0,1,2,3,4,5,6,7,8,9,10,11,12,13,14,15,16,17,18,19] ?_;intro hM;refine rC ?_;refine(ac9 _ (by simp[Qk])).mono ?_;rintro e wN⟨v5,rfl,Az,tl⟩;obtain⟨p5,c5,rfl⟩:=Fa Az;have hN:=hM.ii tl Az;clear tl Az;have hM:=hN;clear hN;refine rK ?_;refine rT ?_;have hN:=cJ.Ax ee hM;have hM:=hN;clear hN;refine((HO (fun W=>F W∧W.ownsRow w0.heap.size 94 2 (.slice p5 jU.length c5) jU.length (jU.flatMap eC)) (fun W hW=>HT.o W hW.1) (.slice p5 jU.length c5) (fun W hW=>di.iz hW.2 rfl) _ _ _ hM).out).mono ?_;rintro e wN⟨c,h,rfl,⟨e1,e2,e3,e4,e5⟩,ES,nI,eI⟩;have hM:=eI;clear eI;refine rU ?_;go_wp2_with((refine bx ?_;intro wN hM));go_ret;refine⟨c,h,rfl,⟨e1,e2,e3,e4,e5⟩,ES,nI,?_⟩;exact cJ.mono (Fm.perm hM (List.Perm.swap _ _ _) (cz _)) fun W hW=>⟨hW.1.1,hW.2⟩
end
section
variable{F:MF}{w0 w:World}{os:List Ob}{l:List MB}{rs:List MR}
def aiO(o:Lo)(x:qO)(v0 v2:Value){sa cg n k:Nat}{nm:Bs}{q:Bool}{p:Option Addr}(ee:Sep w0 (ey o::os))(hM:cJ F w0 w (ey o::os) ((sa,61,GR nm o.g cg q p n k)::l) rs):Calls prog 45 #[v0,aG sa,v2,.agg (kV x)] w fun e w'=>∃r:Int,(0≤r∧r<64)∧e=.returned (.bool true)∧Sep w0 (ey ⟨o.h,o.g,o.gm,o.v,o.cap,yO o.d r,o.x⟩::os)∧cJ F w0 w' (ey ⟨o.h,o.g,o.gm,o.v,o.cap,yO o.d r,o.x⟩::os) ((sa,61,GR nm o.g cg true p n k)::l) rs:=by go_enter func45,ntmps45;go_wp2_with(((refine db ?_);(refine pO ?_;intro g7 w7 hM)));refine rB [7] [0,1,2,3,4,5,6,7] ?_;intro hM;refine rC ?_;refine(KR _ 64 _ ae ae).mono ?_;rintro e wN⟨r,r1,rfl,mR⟩;have hN:=hM.step mR;have hM:=hN;clear hN mR;refine rK ?_;refine rT ?_;refine(arX ee hM r).mono ?_;rintro e wN⟨rfl,nI,eI⟩;have hM:=eI;clear eI;refine rU ?_;go_wp2_with((refine bx ?_;intro wN hM));go_ret;refine⟨r,r1,rfl,nI,?_⟩;exact hM.less (List.Sublist.cons _ (aB _)) (aB _) (fun Q hQ=>hQ)
end
section
variable{F:MF}{w0 w:World}{os:List Ob}{l:List MB}{rs:List MR}
def acB(T:bR)(o:Lo)(x:qO)(v0 v2:Value)(ks:List Bool)(bs:List nL)(X:Log)(D:lT){n:Int}{j j2:Nat}{sa m k:Nat}{nm:Bs}{vc p:Option Addr}{q:Bool}(ee:Sep w0 (qW o::os))(hM:cJ F w0 w (qW o::os) ((sa,61,#[str nm,aG o.g,.pointer vc,.bool q,.slice p m k])::l) rs)(hT:∀W,F W→be T W)(hK:∀W,F W→Ww W o.g o.gm o.v (aF x.gj) ks)(aua:pD n j2 o.d)(hj2:j2≤100000)(Bb:o.cap≤1000000000)(hD:dH ks x.bS (min (max x.cut 0) 64).toNat o.d=D)(it:pD n j D)(n0:3≤n)(n1:n≤4096)(hj:j≤100000)(hr:pV D=(some X,bs.map pm,0))(hb:kP bs)(Pw:bs.length≤50000)(hnm:nm≠[])(Mn:nm.length≤32):Calls prog 46 #[v0,aG sa,v2,.agg (kV x)] w fun e w'=>∃(c:Ch)(h eU:Nat),e=.returned (.bool true)∧eU≤o.cap+100000∧(c.nm=nm∧c.key=keyOf nm∧c.lg=h∧c.ws=[]∧c.dead=false)∧lG T jU bs c∧Sep w0 (ey ⟨h,o.g,o.gm,.slice none 0 0,eU,D,X⟩::os)∧cJ (fun W=>F W∧dY c.ms W) w0 w' (ey ⟨h,o.g,o.gm,.slice none 0 0,eU,D,X⟩::os) ((sa,61,GR nm o.g c.g false p m k)::sP c::l) (qB c::qD c::qC c::su c::rs):=by have HO:=fun(cap:Nat)(w:World)(l:List MB)(rs:List MR)(hS:Sep w0 (qW ⟨o.h,o.g,o.gm,.slice none 0 0,cap,D,o.x⟩::os))(hM:cJ F w0 w (qW ⟨o.h,o.g,o.gm,.slice none 0 0,cap,D,o.x⟩::os) ((sa,61,#[str nm,aG o.g,.pointer vc,.bool q,.slice p m k])::l) rs)=>ag (Rt (F:=F) (w0:=w0) (w:=w) (os:=os) (l:=l) (rs:=rs) T ⟨o.h,o.g,o.gm,.slice none 0 0,cap,D,o.x⟩ nm bs X hS hM hT it n0 n1 hj hr hb Pw hnm Mn);have HC:=fun(w:World)(l:List MB)(rs:List MR)(hM:cJ F w0 w (qW o::os) l rs)=>ag (ama (F:=F) (w:=w) (l:=l) (rs:=rs) (ks:=ks) (bS:=x.bS) (cut:=x.cut) ee hM aua n0 hj2 Bb (hK w (cJ.here hM)));simp only[hD]at HC;clear hr hb hT hK it aua hD;go_enter func46,ntmps46;go_wp2_with(((refine db ?_);(refine pO ?_;intro g7 w7 hM)));refine rB [10] [0,1,2,3,4,5,6,7,8,9,10] ?_;intro hM;refine rT ?_;refine(HC _ _ _ hM).out.mono ?_;rintro e wN⟨rfl,ad1,nP,nI,eI⟩;have hM:=eI;clear eI;refine rU ?_;go_wp2_with((go_at_call 14;refine(HO _ _ _ _ nI (Fm.perm hM (List.Perm.swap _ _ _) (cz _))).out.mono ?_;rintro e wN⟨c,h,rfl,e1,ES,aj0,eI⟩;have hM:=eI;clear eI));go_ret;refine⟨c,h,ad1,rfl,nP,e1,ES,aj0,?_⟩;exact JP
end
section
variable{F:MF}{w0 w:World}{os:List Ob}{l:List MB}{rs:List MR}
def aiP(c:Ch)(o:Ob)(x:qO)(v0 v2:Value)(er:Int→Int)(Z:Int→Ch→Ob→List ls→Prop){sa dg k:Nat}{nm:Bs}{q:Bool}{p:Option Addr}{Rs:List ls}(hRs:Rs.length≤1000000)(ho:Bc c)(ht0:0≤kM c)(ht1:kM c≤1099511627776)(hC:∀r:Int,(0≤r∧r<4)→∀(w:World)(l:List MB)(rs:List MR),cJ (fun W=>F W∧dY c.ms W) w0 w (o::os) (sP c::l) (qB c::qD c::qC c::su c::rs)→Calls prog 32 #[aG c.g,al (kM c+r)] w fun e w'=>∃(rp:Option Addr)(rc:Nat)(R:List ls)(c':Ch)(o':Ob),e=.returned (.tuple #[.slice rp R.length rc,al (er r)])∧(R=[]→rp=none∧rc=0)∧R.length≤16∧(Z r c' o' R∧c'.g=c.g)∧Sep w0 (o'::os)∧cJ (fun W=>(F W∧dY c'.ms W)∧di W (.slice rp R.length rc) wA 3 R) w0 w' (o'::os) (sP c'::l) (qB c'::qD c'::qC c'::su c'::rs))(hM:cJ (fun W=>F W∧dY c.ms W) w0 w (o::os) ((sa,61,GR nm dg c.g q p Rs.length k)::sP c::l) (qB c::qD c::qC c::su c::Ve p k Rs::rs)):Calls prog 41 #[v0,aG sa,v2,.agg (kV x)] w fun e w'=>∃(r:Int)(p':Option Addr)(k':Nat)(R:List ls)(c':Ch)(o':Ob),e=.returned (.bool (er r==0))∧(0≤r∧r<4)∧R.length≤16∧(Z r c' o' R∧c'.g=c.g)∧Sep w0 (o'::os)∧cJ (fun W=>F W∧dY c'.ms W) w0 w' (o'::os) ((sa,61,GR nm dg c'.g q p' (Rs++R).length k')::sP c'::l) (qB c'::qD c'::qC c'::su c'::Ve p' k' (Rs++R)::rs):=by
 have Fr:=fun w hI=>Gl c w hI ho;have HC:=fun(r:Int)(h1:0≤r∧r<4)(w:World)(l:List MB)(rs:List MR)=>ag (Qo (F:=F) (w0:=w0) (w:=w) (os:=os) (l:=l) (rs:=rs) c o (kM c+r) (er r) (Z r) (sa:=sa) (dg:=dg) (k:=k) (nm:=nm) (q:=q) (p:=p) hRs (hC r h1));clear hC;generalize kM c=tm at HC Fr ht0 ht1;go_enter func41,ntmps41;go_wp2_with(((refine db ?_);(refine pO ?_;intro g7 w7 hM)));refine rB [10] [0,1,2,3,4,6,7,5,8,9,10,11] ?_;intro hM;refine rC ?_;refine cB hM (Fr _ (jS hM Aa aX eQ fw (hM.get aX).here.2)) fun wN hM=>?_;refine aN ?_;refine(KR _ 4 _ ae ae).mono ?_;rintro e wN⟨r,r1,rfl,mR⟩;have k4:IntKind.i64.wrap (tm+r)=tm+r:=by(exact cE)
 have hN:=hM.step mR;have hM:=hN;clear hN mR;refine rK ?_;refine rT ?_;refine((HC r r1 _ _ _).out (Fm.perm hM (AN _ _ _ _) (cz _))).mono ?_;rintro e wN⟨p2,k2,R,c2,o2,rfl,Bv,hZ,nI,eI⟩;have hM:=eI;clear eI;refine rU ?_;go_wp2_with fail;go_ret;refine⟨r,p2,k2,R,c2,o2,rfl,r1,Bv,hZ,nI,?_⟩;exact JP
end
section
variable{F:MF}{w0 w:World}{os:List Ob}{l:List MB}{rs:List MR}
def amm(c:Ch)(x:qO)(v0 v2:Value){sa dg n k:Nat}{nm:Bs}{q:Bool}{p:Option Addr}(hM:cJ (fun W=>F W∧dY c.ms W) w0 w os ((sa,61,GR nm dg c.g q p n k)::sP c::l) (qB c::qD c::qC c::su c::rs)):Calls prog 44 #[v0,aG sa,v2,.agg (kV x)] w fun e w'=>∃c':Ch,e=.returned (.bool (kN c x.tx==0))∧(Xq c x.tx c'∧c'.g=c.g)∧cJ (fun W=>F W∧dY c'.ms W) w0 w' os ((sa,61,GR nm dg c'.g q p n k)::sP c'::l) (qB c'::qD c'::qC c'::su c'::rs):=by have HS:=fun(w:World)(l:List MB)=>ag (LL (F:=F) (w0:=w0) (w:=w) (os:=os) (l:=l) (rs:=rs) c x.tx);obtain⟨er,UL⟩:=aZ (kN c x.tx);simp only[UL]at HS⊢;go_enter func44,ntmps44;go_wp2_with(((refine db ?_);(refine pO ?_;intro g7 w7 hM)));refine rB [6] [0,1,2,3,4,5,6,7,8] ?_;intro hM;exact SU
end
structure Sx where
  sa : Nat
  nm : Bs
  q : Bool
  p : Option Addr
  k : Nat
  Rs : List ls
  c : Ch
  o : Lo
structure eT (T : bR) (n : Int) (st : Nat) (HS : jL → Prop) (Inv : Ez → Prop) (x : Sx) (s : Sd) : Prop where
  AZ : lG T jU s.bs x.c
  ok : wJ T jU n (1600 * st) HS Inv s
  dev : x.o.d = s.D
  log : x.o.x = s.X
  lg : x.o.h = x.c.lg
  cap : x.o.cap ≤ 4000000 * (st + 1)
  ws : x.c.ws = s.waits
  nm : x.c.nm = x.nm
  nn : x.nm ≠ []
  nl : x.nm.length ≤ 32
  key : x.c.key = keyOf x.nm
  dead : x.c.dead = true ↔ s.going ≠ []
  XH : x.Rs.length ≤ 16 * st
  qJ : s.bs.length + s.going.length ≤ st
  n0 : 3 ≤ n
  n1 : n ≤ 4096
  aU : st ≤ 60
abbrev vI(F:MF)(w0 w:World)(x:Sx)(os:List Ob)(l:List MB)(rs:List MR):Prop:=cJ (fun W=>F W∧dY x.c.ms W) w0 w (ey x.o::os) ((x.sa,61,GR x.nm x.o.g x.c.g x.q x.p x.Rs.length x.k)::sP x.c::l) (qB x.c::qD x.c::qC x.c::su x.c::Ve x.p x.k x.Rs::rs)
structure pL (x : Sx) (s : Sd) (x' : Sx) (s' : Sd) : Prop where
  sa : x'.sa = x.sa
  nm : x'.nm = x.nm
  g : x'.o.g = x.o.g
  more : ∃ bs, s'.bs = s.bs ++ bs
section
variable{T:bR}{n:Int}{st:Nat}{HS HS':jL→Prop}{Inv Uv:Ez→Prop}{x:Sx}{s:Sd}
def eT.mono(h:eT T n st HS Inv x s)(k:∀q,HS q→HS' q)(ki:∀d,Inv d→Uv d):eT T n st HS' Uv x s:={h with ok:=h.ok.mono k ki}
def eT.le {st':Nat}(h:eT T n st HS Inv x s)(h1:st≤st')(h2:st'≤60):eT T n st' HS Inv x s:={h with ok:=h.ok.le ab,cap:=by have:=h.cap;omega,XH:=by have:=h.XH;omega,qJ:=by have:=h.qJ;omega,aU:=h2}
def eT.Pq(h:eT T n st HS Inv x s):Bc x.c:=h.AZ.ok h.ok.qJ.left AJ (by have:=h.qJ;have:=h.aU;omega)
def eT.len(h:eT T n st HS Inv x s):x.c.hs.length=s.bs.length:=h.AZ.len.2
def eT.EN(h:eT T n st HS Inv x s):x.c.es.length≤16*st:=by have:=h.AZ.EN;have:=h.qJ;omega
def pL.refl:pL x s x s:=⟨rfl,rfl,rfl,[],(cq _).symm⟩
def pL.trans {x' x'':Sx}{s' s'':Sd}(h:pL x s x' s')(k:pL x' s' x'' s''):pL x s x'' s'':=by obtain⟨a,ha⟩:=h.more;obtain⟨b,hb⟩:=k.more;exact⟨k.sa.trans h.sa,k.nm.trans h.nm,k.g.trans h.g,a++b,ai⟩
def Xq.is {c c':Ch}{X:Bs}(h:Xq c X c'):(c'=c∧kN c X≠0)∨(kN c X=0∧X.length≤6000∧c.ws.length<16∧∃wp wc,c'=Ij c X wp wc):=by rcases h with⟨h1,h2⟩|h;all_goals grind
def EH(c:Ch)(s:Sd)(X:Bs):Sd:=if kN c X=0 then{s with waits:=s.waits++[X]}else s
def eT.sub(h:eT T n st HS Inv x s){X:Bs}{c':Ch}(hS:Xq x.c X c')(hg:kN x.c X=0→jo HS X):eT T n st HS Inv {x with c:=c'} (EH x.c s X):=by rcases hS.is with⟨rfl,h0⟩|⟨h0,h1,h2,wp,wc,rfl⟩;unfold EH;simp_all;unfold EH;rw[if_pos h0];have hw:=h.ws;exact⟨h.AZ.sub X wp wc,h.ok.asp h1 ai (hg h0),h.dev,h.log,h.lg,h.cap,by show x.c.ws++[X]=s.waits++[X];grind,h.nm,h.nn,h.nl,h.key,h.dead,h.XH,h.qJ,h.n0,h.n1,h.aU⟩
def aja(X:Bs)(c':Ch):pL x s {x with c:=c'} (EH x.c s X):=by refine⟨rfl,rfl,rfl,[],?_⟩;grind[EH]
def aek(n:Int)(s:Sd)(t er:Int)(s':Sd):Prop:=(er=0∧s.going=[]∧s'.bs=s.bs++[oK s t]∧s'.waits=[]∧s'.going=[]∧s'.D.eS=s.D.eS)∨(er≠0∧s'.bs=s.bs∧(s.D.eS=true∨s.going≠[]∨(n-2)*64<((fC (s.bs.map pm)++cT (pm (oK s t))).length:Int)))
def aek.more {t er:Int}{s':Sd}(h:aek n s t er s'):∃bs,s'.bs=s.bs++bs:=by rcases h with⟨_,_,h,_⟩|⟨_,h,_⟩;all_goals simp_all
def anC(T:bR)(n:Int)(st:Nat)(HS:jL→Prop)(Inv:Ez→Prop)(x:Sx)(s:Sd)(t er:Int)(c':Ch)(o':Ob)(R:List ls):Prop:=∃(lo':Lo)(s':Sd),o'=ey lo'∧lo'.g=x.o.g∧aek n s t er s'∧∀q p k Rs,Rs.length≤16*(st+1)→eT T n (st+1) HS Inv ⟨x.sa,x.nm,q,p,k,Rs,c',lo'⟩ s'
end
section
variable{F:MF}{w0 w:World}{os:List Ob}{T:bR}{n:Int}{st:Nat}{HS:jL→Prop}{Inv:Ez→Prop}{x:Sx}{s:Sd}
def Qt(hx:eT T n st HS Inv x s)(iq:st≤59)(ee:Sep w0 (ey x.o::os))(hT:∀W,F W→be T W)(hI:∀(h t:Int)(L:List Bs)(d:Ez),WD d→Inv d→(∀s∈L,jo HS s)→Inv (ss T h t d L))(t:Int):∃er:Int,∀(w:World)(l:List MB)(rs:List MR),cJ (fun W=>F W∧dY x.c.ms W) w0 w (ey x.o::os) (sP x.c::l) (qB x.c::qD x.c::qC x.c::su x.c::rs)→Calls prog 32 #[aG x.c.g,al t] w fun e w'=>∃(rp:Option Addr)(rc:Nat)(R:List ls)(c':Ch)(o':Ob),e=.returned (.tuple #[.slice rp R.length rc,al er])∧(R=[]→rp=none∧rc=0)∧R.length≤16∧(anC T n st HS Inv x s t er c' o' R∧c'.g=x.c.g)∧Sep w0 (o'::os)∧cJ (fun W=>(F W∧dY c'.ms W)∧di W (.slice rp R.length rc) wA 3 R) w0 w' (o'::os) (sP c'::l) (qB c'::qD c'::qC c'::su c'::rs):=by
 rcases hdd:x.c.dead with _|_
 ·obtain⟨⟨X',D',er⟩,hR⟩:∃r,ri s.D s.X (pm (oK s t))=r:=⟨_,rfl⟩;have hlen:=hx.len;have Hg:=hx.AZ.time;have aun:=hx.qJ;have aej:=hx.aU;have hcut:=hx.ok.aqu ab t;have Zp:s.going=[]:=by rcases hq:s.going with _|⟨b,r⟩;rfl;have:=hx.dead.2 ai;grind
  have FA:=hx.ok.cut AJ hI ab t hR;obtain⟨sl,BT⟩:=hx.AZ.last;have eb:(⟨x.c.hs.length+1,max (min t 1099511627776) (kM x.c),x.c.ws⟩:nL)=oK s t:=by rw[hlen,Hg,hx.ws];rfl
  have eh:((x.c.hs.length:Int)+1)=(oK s t).ay:=ai;have et:max (min t 1099511627776) (kM x.c)=(oK s t).time:=ai;have ew:x.c.ws=(oK s t).Ca:=hx.ws;have auo:=hx.dev;have Uu:=hx.log;have Bb:=hx.cap;refine⟨er,fun w l rs hM=>?_⟩;refine(ahl T x.c x.o t sl (iA T jU s.bs) (n:=n) (j:=1600*st) (TT:=s.bs.map pm) (GG:=s.going.map pm) (X':=X') (D':=D') (er:=er) hdd hx.lg ee hM hT hx.Pq BT (by have:=hx.EN;omega) (by rw[auo,Uu];exact hx.ok.log) ab ab ai (by rw[auo,Uu,eh,et,ew];exact hR)).mono ?_;rintro e w'⟨rp,rc,R,v',eU,c',rfl,hR0,Bv,axK,hc',Ei,uo⟩;refine⟨rp,rc,R,c',ey ⟨x.c.lg,x.o.g,x.o.gm,v',eU,D',X'⟩,rfl,hR0,Bv,⟨?_,?_⟩,Ei,uo⟩
  ·rcases hc' with⟨gQ,rfl⟩|⟨rfl,s2,E,mp,mc,hp,hc,ep,ec,hEl,hEv,rfl⟩;rcases FA with⟨h1,_⟩|⟨rfl,_,h2,h3⟩|⟨_,h2⟩|⟨rfl,_,h2,h3⟩;omega;refine⟨_,⟨s.nm,s.key,s.bs,s.waits,[oK s t],D',X'⟩,rfl,rfl,.inr ⟨ae,rfl,.inl h3⟩,fun q p k Rs hRs=>?_⟩;exact⟨hx.AZ.dead _,h2,rfl,rfl,rfl,ai,hx.ws,hx.nm,hx.nn,hx.nl,hx.key,⟨fun _=>ae,fun _=>rfl⟩,hRs,ai,hx.n0,hx.n1,ab⟩;grind;refine⟨_,⟨s.nm,s.key,s.bs,s.waits,[],D',X'⟩,rfl,rfl,.inr ⟨ae,rfl,.inr (.inr h3)⟩,fun q p k Rs hRs=>?_⟩;exact⟨hx.AZ.dead _,h2,rfl,rfl,rfl,ai,hx.ws,hx.nm,hx.nn,hx.nl,hx.key,⟨fun h=>(by cases h),fun h=>absurd rfl h⟩,hRs,ai,hx.n0,hx.n1,ab⟩
   ·rcases FA with⟨_,_,h2,h3⟩|⟨h1,_⟩|⟨h1,_⟩|⟨h1,_⟩;·refine⟨_,⟨s.nm,s.key,s.bs++[oK s t],[],[],D',X'⟩,rfl,rfl,.inl ⟨rfl,Zp,rfl,rfl,rfl,h3⟩,fun q p k Rs hRs=>?_⟩;have hn:=hx.AZ.no.next (b:=oK s t) (s:=s2) (E:=E) (mp:=mp) (mc:=mc) (hp:=hp) (hc:=hc) (ep:=ep) (ec:=ec) hEl hEv;have en:xH (Gn x.c) T ⟨x.c.hs.length+1,max (min t 1099511627776) (kM x.c),x.c.ws⟩ s2 (ss T (x.c.hs.length+1) (max (min t 1099511627776) (kM x.c)) (iA T jU s.bs) x.c.ws) E mp mc hp hc ep ec=xH (Gn x.c) T (oK s t) s2 (ss T (oK s t).ay (oK s t).time (iA T jU s.bs) (oK s t).Ca) E mp mc hp hc ep ec:=ai;rw[en];exact⟨hn,h2,rfl,rfl,rfl,ai,rfl,hx.nm,hx.nn,hx.nl,hx.key,⟨fun h=>(by grind[xH,Gn]),fun h=>absurd rfl h⟩,hRs,ai,hx.n0,hx.n1,ab⟩
    all_goals omega
  rcases hc' with⟨_,rfl⟩|⟨_,s2,E,mp,mc,hp,hc,ep,ec,_,_,rfl⟩<;>rfl
 have Zp:=hx.dead.1 hdd;refine⟨13,fun w l rs hM=>?_⟩;refine(aew x.c t hdd hM).mono ?_;rintro e w'⟨rfl,uo⟩;refine⟨none,0,[],x.c,ey x.o,rfl,fun _=>⟨rfl,rfl⟩,aI _,⟨⟨x.o,s,rfl,rfl,.inr ⟨ae,rfl,.inr (.inl Zp)⟩,fun q p k Rs hRs=>?_⟩,rfl⟩,ee,cJ.mono uo fun W hW=>⟨hW,di.nil W⟩⟩;have h1:=hx.le (st':=st+1) ae ab;exact⟨h1.AZ,h1.ok,h1.dev,h1.log,h1.lg,h1.cap,h1.ws,h1.nm,h1.nn,h1.nl,h1.key,h1.dead,hRs,h1.qJ,h1.n0,h1.n1,h1.aU⟩
def ajb(hx:eT T n st HS Inv x s)(iq:st≤59)(ee:Sep w0 (ey x.o::os))(hT:∀W,F W→be T W)(hI:∀(h t:Int)(L:List Bs)(d:Ez),WD d→Inv d→(∀s∈L,jo HS s)→Inv (ss T h t d L))(t:Int){l:List MB}{rs:List MR}(hM:vI F w0 w x os l rs):Calls prog 15 #[aG x.sa,al t] w fun e w'=>∃(x':Sx)(s':Sd)(er:Int),e=.returned (.bool (er==0))∧aek n s t er s'∧eT T n (st+1) HS Inv x' s'∧pL x s x' s'∧Sep w0 (ey x'.o::os)∧vI F w0 w' x' os l rs:=by obtain⟨er,hC⟩:=Qt (F:=F) hx iq ee hT hI t;have aqt:=hx.XH;have aej:=hx.aU;refine(Qo x.c (ey x.o) t er (anC T n st HS Inv x s t er) ab hC hM).mono ?_;rintro e w'⟨p',k',R,c',o',rfl,Bv,⟨⟨lo',s',rfl,hg,hQ,ES⟩,hcg⟩,Ei,uo⟩;refine⟨⟨x.sa,x.nm,x.q,p',k',x.Rs++R,c',lo'⟩,s',er,rfl,hQ,ES _ _ _ _ ai,⟨rfl,rfl,hg,hQ.more⟩,Ei,?_⟩;grind
end
structure ZL (J : World → Prop) (x : Tx) (pb gb : Bs) : Prop where
  gj : ∀ w w', J w → Below w.heap.size w w' → J w'
  ok : lW x
  fit : OR x
  prf : ∀ w, J w → dM 183 #[.agg (jF x.proof)] w (str pb)
  aup : pb.length ≤ 16777215
  fx : ∀ w, J w → dM 184 #[.agg (ir x.fx)] w (str gb)
  auq : gb.length ≤ 16777215
structure aj8 (n : Int) (s : Sd) (X : Bs) : Prop where
  going : s.going = []
  waits : s.waits = []
  eS : s.D.eS = false
  len : X.length ≤ 6000
  room : ((fC (s.bs.map pm) ++ cT (pm (oK { s with waits := [X] } 0))).length : Int) ≤ (n - 2) * 64
section
variable{T:bR}{n:Int}{st:Nat}{HS HS':jL→Prop}{Inv Uv:Ez→Prop}{x:Sx}{s:Sd}
def eT.free(h:eT T n st HS Inv x s){X:Bs}(hc:aj8 n s X):kN x.c X=0∧EH x.c s X={s with waits:=[X]}:=by
 have hd:x.c.dead=false:=by rcases hq:x.c.dead with _|_;rfl;exact absurd hc.going (h.dead.1 hq)
 have hw:x.c.ws.length=0:=by rw[h.ws,hc.waits];rfl
 have hl:=hc.len;have h0:kN x.c X=0:=by unfold kN;grind
 refine⟨h0,?_⟩;unfold EH;rw[if_pos h0,hc.waits];rfl
structure Did(s:Sd)(X:Bs)(s':Sd):Prop where bs:s'.bs=s.bs++[oK {s with waits:=[X]} 0]going:s'.going=[]waits:s'.waits=[]eS:s'.D.eS=s.D.eS
end
section
variable{F:MF}{w0 w:World}{os:List Ob}{T:bR}{n:Int}{st:Nat}{HS:jL→Prop}{Inv:Ez→Prop}{x:Sx}{s:Sd}
def zx(hx:eT T n st HS Inv x s){J:World→Prop}{t:Tx}{pb gb:Bs}(hs:ZL J t pb gb)(hFJ:∀W,F W→J W)(hg:jo HS (wg t pb gb)){l:List MB}{rs:List MR}(hM:vI F w0 w x os l rs):Calls prog 74 #[aG x.sa,.agg (dA t)] w fun e w'=>∃(x':Sx)(s':Sd)(b:Bool),e=.returned (.bool b)∧eT T n st HS Inv x' s'∧pL x s x' s'∧x'.o=x.o∧vI F w0 w' x' os l rs:=by refine(LY (rs:=Ve x.p x.k x.Rs::rs) x.c t pb gb hs.gj hs.ok hs.fit hs.prf hs.aup hs.fx hs.auq hFJ hM).mono ?_;exact TA
def Je(hx:eT T n st HS Inv x s)(iq:st≤59)(ee:Sep w0 (ey x.o::os))(hT:∀W,F W→be T W)(hI:∀(h t:Int)(L:List Bs)(d:Ez),WD d→Inv d→(∀s∈L,jo HS s)→Inv (ss T h t d L)){J:World→Prop}{t:Tx}{pb gb:Bs}(hs:ZL J t pb gb)(hFJ:∀W,F W→J W)(hg:jo HS (wg t pb gb))(hc:aj8 n s (wg t pb gb)){l:List MB}{rs:List MR}(hM:vI F w0 w x os l rs):Calls prog 33 #[aG x.sa,.agg (dA t)] w fun e w'=>∃(x':Sx)(s':Sd),e=.returned (.bool true)∧Did s (wg t pb gb) s'∧eT T n (st+1) HS Inv x' s'∧pL x s x' s'∧Sep w0 (ey x'.o::os)∧vI F w0 w' x' os l rs:=by
 obtain⟨h0,anp⟩:=hx.free hc;have aqt:=hx.XH;have aej:=hx.aU;have hQ:∀{er:Int}{s':Sd},aek n {s with waits:=[wg t pb gb]} 0 er s'→er=0∧Did s (wg t pb gb) s':=by intro er s' h;rcases h with⟨h1,h2,h3,h4,h5,h6⟩|⟨h1,h2,h3|h3|h3⟩;exact⟨h1,h3,h5,h4,h6⟩;exact absurd hc.eS ai;exact absurd hc.going h3;have:=hc.room;grind
 refine(afK x.c (ey x.o) 0 t pb gb (anC T n st HS Inv x (EH x.c s (wg t pb gb)) 0 0) hs.gj hs.ok hs.fit hs.prf hs.aup hs.fx hs.auq hFJ ab h0 ?_ hM).mono ?_;intro c1 hS w l rs hM;have Xj:=hx.sub hS (fun _=>hg);obtain⟨er,hC⟩:=Qt (F:=F) Xj iq ee hT hI 0;refine(hC w l rs hM).mono ?_;rintro e w'⟨rp,rc,R,c',o',rfl,hR0,Bv,⟨⟨lo',s',ho',hgg,hq,ES⟩,hcg⟩,Ei,uo⟩;have h1:=hq;rw[anp]at h1;obtain⟨rfl,_⟩:=hQ h1;exact⟨rp,rc,R,c',o',rfl,hR0,Bv,⟨⟨lo',s',ho',hgg,hq,ES⟩,hcg⟩,Ei,uo⟩;rintro e w'⟨p',k',R,c',o',rfl,Bv,⟨⟨lo',s',rfl,hgg,hq,ES⟩,hcg⟩,Ei,uo⟩;rw[anp]at hq;obtain⟨_,hd⟩:=hQ hq;refine⟨⟨x.sa,x.nm,x.q,p',k',x.Rs++R,c',lo'⟩,s',rfl,hd,ES _ _ _ _ ai,⟨rfl,rfl,hgg,_,hd.bs⟩,Ei,?_⟩;grind
def amO(hx:eT T n st HS Inv x s)(v0 v2:Value){y:qO}(hg:jo HS y.tx){l:List MB}{rs:List MR}(hM:vI F w0 w x os l rs):Calls prog 44 #[v0,aG x.sa,v2,.agg (kV y)] w fun e w'=>∃(x':Sx)(s':Sd)(b:Bool),e=.returned (.bool b)∧eT T n st HS Inv x' s'∧pL x s x' s'∧x'.o=x.o∧vI F w0 w' x' os l rs:=by refine(amm (rs:=Ve x.p x.k x.Rs::rs) x.c y v0 v2 hM).mono ?_;exact TA
def ajc(hx:eT T n st HS Inv x s)(iq:st≤59)(ee:Sep w0 (ey x.o::os))(v0 v2:Value)(y:qO){l:List MB}{rs:List MR}(hM:vI F w0 w x os l rs):Calls prog 45 #[v0,aG x.sa,v2,.agg (kV y)] w fun e w'=>∃(x':Sx)(s':Sd),e=.returned (.bool true)∧eT T n (st+1) HS Inv x' s'∧pL x s x' s'∧Sep w0 (ey x'.o::os)∧vI F w0 w' x' os l rs:=by refine(aiO x.o y v0 v2 ee hM).mono ?_;rintro e w'⟨r,⟨r0,r1⟩,rfl,Ei,uo⟩;have h1:=hx.le (st':=st+1) ae ab;refine⟨{x with q:=true,o:=⟨x.o.h,x.o.g,x.o.gm,x.o.v,x.o.cap,yO x.o.d r,x.o.x⟩},{s with D:=yO s.D r},rfl,?_,⟨rfl,rfl,rfl,[],(cq _).symm⟩,Ei,uo⟩;exact⟨h1.AZ,(hx.ok.arm (k:=r) ab).le ab,by show yO x.o.d r=_;rw[hx.dev],h1.log,h1.lg,h1.cap,h1.ws,h1.nm,h1.nn,h1.nl,h1.key,h1.dead,h1.XH,h1.qJ,h1.n0,h1.n1,h1.aU⟩
def ada(hx:eT T n st HS Inv x s)(iq:st≤59)(ee:Sep w0 (ey x.o::os))(hT:∀W,F W→be T W)(hI:∀(h t:Int)(L:List Bs)(d:Ez),WD d→Inv d→(∀s∈L,jo HS s)→Inv (ss T h t d L))(v0 v2:Value)(y:qO){l:List MB}{rs:List MR}(hM:vI F w0 w x os l rs):Calls prog 41 #[v0,aG x.sa,v2,.agg (kV y)] w fun e w'=>∃(x':Sx)(s':Sd)(b:Bool),e=.returned (.bool b)∧eT T n (st+1) HS Inv x' s'∧pL x s x' s'∧Sep w0 (ey x'.o::os)∧vI F w0 w' x' os l rs:=by have aqt:=hx.XH;have aej:=hx.aU;have hT':=hx.ok.qJ.left.time;have hC:=fun r:Int=>Qt (F:=F) hx iq ee hT hI (kM x.c+r);refine(aiP x.c (ey x.o) y v0 v2 (fun r=>(hC r).choose) (fun r=>anC T n st HS Inv x s (kM x.c+r) (hC r).choose) ab hx.Pq (by rw[hx.AZ.time];omega) (by rw[hx.AZ.time];omega) (fun r _ w l rs hM=>(hC r).choose_spec w l rs hM) hM).mono ?_;rintro e w'⟨r,p',k',R,c',o',rfl,_,Bv,⟨⟨lo',s',rfl,hg,hQ,ES⟩,hcg⟩,Ei,uo⟩;refine⟨⟨x.sa,x.nm,x.q,p',k',x.Rs++R,c',lo'⟩,s',_,rfl,ES _ _ _ _ ai,⟨rfl,rfl,hg,hQ.more⟩,Ei,?_⟩;grind
def yR(w0 W:World)(kv:Value)(ks:List Bool):Prop:=ks.length≤maxLen∧∃p c,kv=.slice p ks.length c∧(0<ks.length→∃b o,p=some (aD b o)∧b<w0.heap.size∧∀i(h:i<ks.length),W.cell? (aD b (o+i))=some (.bool ks[i]))
def yR.is {w0 W:World}{kv:Value}{ks:List Bool}(h:yR w0 W kv ks){g gm:Nat}{v:Value}(hw:w0.heap.size≤W.heap.size)(h1:w0.heap.size≤g)(h2:w0.heap.size≤gm)(h3:∀b,v.ownBlock=some b→w0.heap.size≤b):Ww W g gm v kv ks:=by obtain⟨a,p,c,rfl,k⟩:=h;refine⟨a,p,c,rfl,fun h0=>?_⟩;obtain⟨b,o,rfl,hb,hc⟩:=k h0;refine⟨b,o,rfl,ab,fun w' v' ht i hi=>?_⟩;have e:=ht.block b ab ab ab (fun e=>ai);have:=hc i hi;simp only[World.cell?]at this⊢;grind
def adb(hx:eT T n st HS Inv x s)(iq:st≤59)(ee:Sep w0 (ey x.o::os))(hT:∀W,F W→be T W)(v0 v2:Value){y:qO}{ks:List Bool}(hK:∀W,F W→w0.heap.size≤W.heap.size∧yR w0 W (aF y.gj) ks){l:List MB}{rs:List MR}(hM:vI F w0 w x os l rs):Calls prog 46 #[v0,aG x.sa,v2,.agg (kV y)] w fun e w'=>∃(x':Sx)(s':Sd),e=.returned (.bool true)∧eT T n (st+1) HS Inv x' s'∧pL x s x' s'∧Sep w0 (ey x'.o::os)∧vI F w0 w' x' os l rs:=by obtain⟨nI,eI⟩:=cJ.drop ee hM;have hM3:cJ F w0 w (qW x.o::os) ((x.sa,61,#[str x.nm,aG x.o.g,aG x.c.g,.bool x.q,.slice x.p x.Rs.length x.k])::l) (Ve x.p x.k x.Rs::rs):=cJ.mono (eI.less (List.Sublist.cons_cons _ (List.Sublist.cons _ (aB _))) (List.Sublist.cons _ (List.Sublist.cons _ (List.Sublist.cons _ (List.Sublist.cons _ (aB _))))) (fun Q h=>h)) fun W h=>h.1;obtain⟨X',bs',hbs,arg,avt,hna⟩:=hx.ok.LH ks y.bS (cc:=(min (max y.cut 0) 64).toNat) ab;have Pb:=nI.Ar (qW x.o) (aV ..);have axL:=hx.qJ;have aej:=hx.aU;have Bb:=hx.cap;have Pw:bs'.length≤st:=ai;have awP:=arg.log.ok;refine(acB (rs:=Ve x.p x.k x.Rs::rs) T x.o y v0 v2 ks bs' X' (dH ks y.bS (min (max y.cut 0) 64).toNat s.D) (j:=1600*st+1) (j2:=1600*st) nI hM3 hT (fun W hF=>(hK W hF).2.is (hK W hF).1 (Pb _ (.inl rfl)) (Pb _ (.inr (.inl rfl))) (fun b hb=>Pb _ (.inr (.inr hb)))) (by rw[hx.dev];exact hx.ok.log.ok) ab ab (by rw[hx.dev]) awP hx.n0 hx.n1 ab avt arg.qJ.left ab hx.nn hx.nl).mono ?_;rintro e w'⟨c,h,eU,rfl,hc',⟨e1,e2,e3,e4,e5⟩,ES,aj0,hM4⟩;refine⟨⟨x.sa,x.nm,false,x.p,x.k,x.Rs,c,⟨h,x.o.g,x.o.gm,.slice none 0 0,eU,dH ks y.bS (min (max y.cut 0) 64).toNat s.D,X'⟩⟩,⟨s.nm,s.key,bs',[],[],dH ks y.bS (min (max y.cut 0) 64).toNat s.D,X'⟩,rfl,?_,⟨rfl,rfl,rfl,?_⟩,aj0,hM4⟩;exact⟨ES,arg.le ab,rfl,rfl,e3.symm,ai,e4,e1,hx.nn,hx.nl,e2,⟨fun k=>ai,fun k=>absurd rfl k⟩,by have:=hx.XH;grind,ai,hx.n0,hx.n1,ab⟩;·rcases hbs with rfl|rfl;all_goals simp
end
abbrev sxB(x:Sx)(l:List MB):List MB:=(x.sa,61,GR x.nm x.o.g x.c.g x.q x.p x.Rs.length x.k)::sP x.c::l
abbrev sxR(x:Sx)(rs:List MR):List MR:=qB x.c::qD x.c::qC x.c::su x.c::Ve x.p x.k x.Rs::rs
section
variable{F:MF}{w0 w:World}{os:List Ob}{x y:Sx}{l:List MB}{rs:List MR}
abbrev oZ(F:MF)(w0 w:World)(x y:Sx)(os:List Ob)(l:List MB)(rs:List MR):Prop:=vI (fun W=>F W∧dY y.c.ms W) w0 w x (ey y.o::os) (sxB y l) (sxR y rs)
def PM {α:Type}(a b c d:α)(l:List α):(a::b::c::d::l).Perm (c::d::a::b::l):=List.Perm.append_right l (List.perm_append_comm (l₁:=[a,b]) (l₂:=[c,d]))
def adU {α:Type}(a b c d e f g h i j:α)(l:List α):(a::b::c::d::e::f::g::h::i::j::l).Perm (f::g::h::i::j::a::b::c::d::e::l):=List.Perm.append_right l (List.perm_append_comm (l₁:=[a,b,c,d,e]) (l₂:=[f,g,h,i,j]))
def oZ.flip(hM:oZ F w0 w x y os l rs):oZ F w0 w y x os l rs:=cJ.mono (Fm.perm (cJ.ZG hM (List.Perm.swap _ _ _)) (PM _ _ _ _ _) (adU _ _ _ _ _ _ _ _ _ _ _)) fun W h=>⟨⟨h.1.1,h.2⟩,h.1.2⟩
def Sep.flip {o p:Ob}(h:Sep w0 (o::p::os)):Sep w0 (p::o::os):=h.ZG (List.Perm.swap _ _ _)
def oZ.peer(hM:oZ F w0 w x y os l rs):mQ y.c w:=jS (i:=3) (a1:=5) (a2:=6) (a3:=7) hM rfl rfl rfl rfl (cJ.here hM).1.2
def oZ.own(hM:oZ F w0 w x y os l rs):mQ x.c w:=jS (i:=1) (a1:=0) (a2:=1) (a3:=2) hM rfl rfl rfl rfl (cJ.here hM).2
end
def amV(w:World):dM 183 #[.agg (jF jO)] w (str YO):=zz 0 0 none 0 0 [] w (di.nil w) ae ae ae ah
def abI(w:World):dM 184 #[.agg (ir qo)] w (str QJ):=LN 0 [] [] 0 0 0 0 [] [] none none none none 0 0 0 0 0 0 0 0 w (di.nil w) (di.nil w) (di.nil w) (di.nil w) ae ae ae ae ah ah ah ah ae ae ae ae ae
def PN {x:Tx}(ho:lW x)(hn:OR x)(hp:x.proof=jO)(hg:x.fx=qo):ZL (fun _=>True) x YO QJ:=⟨fun _ _ _ _=>trivial,ho,hn,fun w _=>by rw[hp];exact amV w,by grind[Pf],fun w _=>by rw[hg];exact abI w,by grind[Fs]⟩
section
variable{T:bR}{d0:Ez}{bs:List nL}{c:Ch}{nm:Bs}
def Qw(hb:kP bs){k:Nat}(hk:k<bs.length)(nn:nm≠[])(nl:nm.length≤32):lH (oQ T nm d0 bs k)=true:=by have h1:=(hb k hk);have h2:=(zL h1.2.1).1;grind[oQ,lH]
def lG.hdr(h:lG T d0 bs c){k:Nat}(hk:k<bs.length):pT c ((k:Int)+1)=oQ T c.nm d0 bs k∧vu c ((k:Int)+1)=true:=by have hl:=h.len.2;constructor;unfold pT;rw[if_pos ab,show((k:Int)+1-1).toNat=k from ae,h.yy,aW (by rw[Gp];omega),adc];rfl;unfold vu;grind
def vM(hd:qh)(mc:ez):Tx:={lA with kind:=4,id:=[107],header:=hd,tC:=mc}
def abr(h:lG T d0 bs c)(hb:kP bs)(gQ:bs≠[])(nn:c.nm≠[]):vu c c.hs.length=true∧lW (AV c T [107])∧Ik (AV c T [107])∧(AV c T [107]).proof=jO∧(AV c T [107]).fx=qo∧(wg (AV c T [107]) YO QJ).length≤1000∧jo (MS T c.nm d0 bs) (wg (AV c T [107]) YO QJ):=by
 have hp:0<bs.length:=ea.2 gQ;obtain⟨e1,e2⟩:=h.hdr (k:=bs.length-1) ab;have hl:=h.len.2;have ek:((bs.length-1:Nat):Int)+1=(c.hs.length:Int):=ab;rw[ek]at e1 e2;have it:=Qw (T:=T) (d0:=d0) hb (k:=bs.length-1) ab nn h.nm;obtain⟨hd,hhd⟩:=aZ (oQ T c.nm d0 bs (bs.length-1));have iq:MS T c.nm d0 bs (mz hd):=⟨bs.length-1,ab,ai⟩;rw[hhd]at e1 it;obtain⟨mc,hmc⟩:=aZ (yz T c c.hs.length);have hU:AV c T [107]=vM hd mc:=by simp_all[AV,vM]
 obtain⟨a1,a2,a3,a4,a5⟩:=vi it;rw[hU];have o1:lW (vM hd mc):=by refine⟨?_,?_,?_,?_,?_,?_,?_,?_,?_,?_,?_,?_,?_⟩;all_goals first|exact(ae:(0:Nat)≤4000)|exact(ae:(1:Nat)≤4000)|exact(ae:(0:Int)≤0∧(0:Int)≤1099511627776)|(show hd.chain.length≤4000;omega)
 have o2:Ik (vM hd mc):=by refine⟨?_,?_,?_,?_,?_,?_,?_,?_⟩;all_goals first|exact(ae:(0:Int)≤0∧(0:Int)≤1099511627776)|exact(ae:(0:Int)≤4∧(4:Int)≤16)|(show 0≤hd.ay∧hd.ay≤_;omega)|(show 0≤hd.time∧hd.time≤_;omega)
 refine⟨e2,o1,o2,rfl,rfl,?_,?_⟩;have h1:=adF (x:=vM hd mc) (pb:=YO) (gb:=QJ);have h2:=Pf;have h3:=Fs;have q0:(vM hd mc).id.length=1:=rfl;have q1:(vM hd mc).over.length=0:=rfl;have q2:(vM hd mc).peer.length=0:=rfl;have q3:(vM hd mc).dj.length=0:=rfl;have q4:(vM hd mc).key.length=0:=rfl;have q5:(vM hd mc).header.chain.length=hd.chain.length:=rfl;have q6:(vM hd mc).aA.source.length=0:=rfl;have q7:(vM hd mc).aA.sink.length=0:=rfl;have q8:(vM hd mc).aA.bj.bM.length=0:=rfl;have q9:(vM hd mc).aA.bj.src.length=0:=rfl;have q10:(vM hd mc).aA.bj.dst.length=0:=rfl;have q11:(vM hd mc).nK.length=0:=rfl;omega;intro h1 h2;obtain⟨h3,h4⟩:=apW o1 o2.kind o2.period o2.hh o2.ht h1;exact⟨h3,by rw[h4];exact iq⟩
end
def adW(k:Int)(ch:Bs)(c:qX)(h:Int):Tx:={lA with kind:=k,aA:={AK with source:=ch,bj:=c,ay:=h}}
def Xr {k h:Int}{ch:Bs}{c:qX}(hk:0≤k∧k≤16)(h4:k≠4)(hc:ch.length≤100)(h1:c.bM.length≤100)(h2:c.src.length≤100)(h3:c.dst.length≤100)(hh:0≤h∧h≤1099511627776):lW (adW k ch c h)∧Ik (adW k ch c h)∧∀HS pb gb,jo HS (wg (adW k ch c h) pb gb):=by
 refine⟨?_,?_,fun HS pb gb=>KH hk h4⟩;·refine⟨?_,?_,?_,?_,?_,?_,?_,?_,?_,?_,?_,?_,?_⟩;all_goals first|exact(ae:(0:Nat)≤4000)|exact(ae:(0:Int)≤0∧(0:Int)≤1099511627776)|(show ch.length≤4000;omega)|(show c.bM.length≤4000;omega)|(show c.src.length≤4000;omega)|(show c.dst.length≤4000;omega)
 ·refine⟨hk,?_,?_,?_,?_,hh,?_,?_⟩;all_goals exact(ae:(0:Int)≤0∧(0:Int)≤1099511627776)
def Qv {T:bR}{nm key:Bs}{d0:Ez}{bs:List nL}{d:Ez}(hb:kP bs)(h:yW (MS T nm d0 bs) nm key d):1≤lh d [107]∧lh d [107]≤bs.length:=by
 obtain⟨C,hC⟩:=h;have e:=Yw hC;unfold lh;rw[e,if_pos rfl];have hl:=(zO hC.ok).1.2.2.2.1;have hm:nS C.bh∈C.bh:=by induction d<;>grind[nS,List.getLastD_cons,List.getLastD_mem_cons]
 obtain⟨k,hk,es⟩:=hC.st _ hm;rw[es];have h1:=(hb k hk).1;show 1≤(oQ T nm d0 bs k).ay∧(oQ T nm d0 bs k).ay≤_;grind[oQ]
structure Calm (k : Nat) (s : Sd) : Prop where
  going : s.going = []
  waits : s.waits = []
  eS : s.D.eS = false
  KQ : (fC (s.bs.map pm)).length ≤ 7000 * k
def agW(s:Sd)(t:Int){X:Bs}(hX:X.length≤6000):(cT (pm (oK {s with waits:=[X]} t))).length≤7000:=by have h1:=MO (pm (oK {s with waits:=[X]} t));grind[dW,oK,pm,yT,qf,lj,cw]
def apy(s:Sd)(t:Int)(h:s.waits=[]):(cT (pm (oK s t))).length≤7000:=by have h1:=MO (pm (oK s t));grind[dW,oK,pm,yT,qf,lj,cw]
section
variable{k:Nat}{s s':Sd}{X:Bs}
def Calm.can(h:Calm k s)(hk:k≤20)(hX:X.length≤6000):aj8 2500 s X:=by have h1:=agW s 0 hX;have h2:=h.KQ;refine⟨h.going,h.waits,h.eS,hX,?_⟩;grind
def Calm.did(h:Calm k s)(hX:X.length≤6000)(hd:Did s X s'):Calm (k+1) s':=by have h1:=agW s 0 hX;have h2:=h.KQ;refine⟨hd.going,hd.waits,hd.eS.trans h.eS,?_⟩;rw[hd.bs,cR,qU,wQ,aw];omega
def Calm.cut(h:Calm k s)(hk:k≤20){t er:Int}(hq:aek 2500 s t er s'):er=0∧Calm (k+1) s'∧s'.bs=s.bs++[oK s t]:=by have h1:=apy s t h.waits;have h2:=h.KQ;rcases hq with⟨k1,k2,k3,k4,k5,k6⟩|⟨k1,k2,k3|k3|k3⟩;refine⟨k1,⟨k5,k4,k6.trans h.eS,?_⟩,k3⟩;rw[k3,cR,qU,wQ,aw];omega;rw[h.eS]at k3;grind;exact absurd h.going k3;grind
end
section
variable{T:bR}{n:Int}{st:Nat}{HS HS':jL→Prop}{Inv Uv:Ez→Prop}{x y x':Sx}{s sx sy s':Sd}
def eT.inv(h:eT T n st HS Inv x s)(hg:s.going=[])(hc:Uv (iA T jU s.bs)):eT T n st HS Uv x s:={h with ok:={h.ok with Vj:=hc,aaP:=by rw[hg,cq];exact hc}}
abbrev Bp(T:bR)(y:Sx)(sy:Sd):jL→Prop:=MS T y.nm jU sy.bs
abbrev MZ(T:bR)(y:Sx)(sy:Sd):Ez→Prop:=yW (Bp T y sy) y.nm (keyOf y.nm)
structure Ek (T : bR) (a b : Nat) (x y : Sx) (sx sy : Sd) : Prop where
  hx : eT T 2500 a (Bp T y sy) (MZ T y sy) x sx
  hy : eT T 2500 b (Bp T x sx) (MZ T x sx) y sy
def Ps(h:pL x sx x' s'):∀q,Bp T x sx q→Bp T x' s' q:=by intro q hq;obtain⟨bs,e⟩:=h.more;unfold Bp at hq⊢;rw[h.nm,e];exact hq.more
def agX(h:pL x sx x' s'):∀d,MZ T x sx d→MZ T x' s' d:=by intro d hd;have h1:=yW.mono hd (Ps h);unfold MZ;rw[h.nm];omega
variable{a a' b:Nat}
def Ek.flip(h:Ek T a b x y sx sy):Ek T b a y x sy sx:=⟨h.hy,h.hx⟩
def Ek.left(h:Ek T a b x y sx sy)(h1:eT T 2500 a' (Bp T y sy) (MZ T y sy) x' s')(h2:pL x sx x' s'):Ek T a' b x' y s' sy:=⟨h1,h.hy.mono (Ps h2) (agX h2)⟩
def Ek.ari(h:Ek T a b x y sx sy):∀(h t:Int)(L:List Bs)(d:Ez),WD d→MZ T y sy d→(∀s∈L,jo (Bp T y sy) s)→MZ T y sy (ss T h t d L):=fun _ _ L d hW hI hg=>ai1 (apw h.hy.ok.qJ.left) L hW hI hg
def Ek.known(h:Ek T a b x y sx sy):0≤lh (iA T jU sx.bs) [107]∧lh (iA T jU sx.bs) [107]≤1000:=by have h1:=Qv h.hy.ok.qJ.left h.hx.ok.Vj;have h2:=h.hy.qJ;have h3:=h.hy.aU;omega
end
structure EI (t : Tx) : Prop where
  kind : 5 ≤ t.kind ∧ t.kind ≤ 16
  ok : lW t
  num : Ik t
  fx : t.fx = qo
  len : t.id.length + t.over.length + t.peer.length + t.dj.length + t.key.length + t.header.chain.length + t.aA.source.length + t.aA.sink.length + t.aA.bj.bM.length + t.aA.bj.src.length + t.aA.bj.dst.length + t.nK.length ≤ 100
def pa(t:Tx)(h:Int)(p:xI):Tx:={t with ay:=h,proof:=p}
def EI.set {t:Tx}(ht:EI t){h:Int}(hh:0≤h∧h≤1099511627776)(p:xI):lW (pa t h p)∧Ik (pa t h p)∧(∀HS pb gb,jo HS (wg (pa t h p) pb gb))∧∀pb gb:Bs,(wg (pa t h p) pb gb).length≤pb.length+gb.length+400:=by have k:=ht.kind;refine⟨⟨ht.ok.id,ht.ok.over,ht.ok.peer,ht.ok.dj,ht.ok.key,ht.ok.chain,ht.ok.source,ht.ok.sink,ht.ok.bM,ht.ok.src,ht.ok.dst,ht.ok.nK,ht.ok.seq⟩,⟨ht.num.kind,ht.num.period,ht.num.hh,ht.num.ht,ht.num.seq,ht.num.ph,ht.num.pt,hh⟩,fun HS pb gb=>KH ht.num.kind (by show t.kind≠4;omega),fun pb gb=>?_⟩;have h1:=adF (x:=pa t h p) (pb:=pb) (gb:=gb);have h2:(pa t h p).id.length+(pa t h p).over.length+(pa t h p).peer.length+(pa t h p).dj.length+(pa t h p).key.length+(pa t h p).header.chain.length+(pa t h p).aA.source.length+(pa t h p).aA.sink.length+(pa t h p).aA.bj.bM.length+(pa t h p).aA.bj.src.length+(pa t h p).aA.bj.dst.length+(pa t h p).nK.length≤100:=ht.len;omega
def akA {P:List ez}(hl:P.length≤11):(lj 112 (P.map (·.1))).length≤400:=by have h:=ry 112 32 (P.map (·.1)) (fun b hb=>by obtain⟨q,_,rfl⟩:=eu.1 hb;rw[q.2];decide);rw[fR]at h;omega
def agY {a m:Int}{P:List ez}(hl:P.length≤11):(CD a m P).length≤430:=by have h1:=dW 105 a.toNat;have h2:=dW 109 m.toNat;have h3:=akA hl;unfold CD qf;rw[aw,aw,cw];omega
def apz {t:Tx}(ht:EI t){h:Int}(hh:0≤h∧h≤1099511627776){p:xI}{P:List ez}(h1:0≤p.at_∧p.at_≤2000)(h2:0≤p.many∧p.many≤2000)(hl:P.length≤11):ZL (fun W=>lP W (aF p.path) P) (pa t h p) (CD p.at_ p.many P) QJ:=by obtain⟨k1,k2,k3,k4⟩:=ht.set hh p;refine⟨fun w w' k hb=>k.step hb,k1,k2.fit,fun w hw=>?_,?_,fun w _=>?_,?_⟩;exact zz p.at_ p.many p.path.p p.path.n p.path.c P w hw ab h1 h2 (by have:=akA hl;omega);have:=agY (a:=p.at_) (m:=p.many) hl;omega;show Calls _ _ #[.agg (ir t.fx)] w _;rw[ht.fx];exact abI w;have:=Fs;omega
section
variable{F:MF}{w0 w:World}{os:List Ob}{T:bR}{a b:Nat}{x y:Sx}{sx sy:Sd}{l:List MB}{rs:List MR}
def vI.gj {v:Value}{ty sz n:Nat}{xs:List Value}(ee:Sep w0 (ey x.o::os))(hM:cJ (fun W=>F W∧dY x.c.ms W) w0 w (ey x.o::os) l ((v,ty,sz,n,xs)::rs)):cJ (fun W=>(F W∧W.ownsRow w0.heap.size ty sz v n xs)∧dY x.c.ms W) w0 w (ey x.o::os) l rs:=cJ.mono (cJ.Ax ee hM) fun W h=>⟨⟨h.1.1,h.2⟩,h.1.2⟩
def abJ(q:Bool)(h:Ek T a b x y sx sy)(ha:a≤18)(hb:b≤20)(hc:Calm a sx){t:Tx}(ht:EI t)(key:Bs){g:Nat}(ee:Sep w0 (ey x.o::ey y.o::os))(hT:∀W,F W→be T W)(hM:oZ F w0 w x y os ((g,55,KE (cond q y.sa x.sa) (cond q x.sa y.sa))::l) rs):Calls prog 38 #[aG g,al (cond q 1 0),.agg (dA t),str key] w fun e w'=>∃(x':Sx)(s':Sd),e=.returned (.bool true)∧(Ek T (a+2) b x' y s' sy∧Calm (a+2) s'∧pL x sx x' s')∧Sep w0 (ey x'.o::ey y.o::os)∧oZ F w0 w' x' y os ((g,55,KE (cond q y.sa x.sa) (cond q x.sa y.sa))::l) rs:=by
 cases q<;>simp only[cond]at hM⊢;all_goals
  have gQ:sy.bs≠[]:=by have h1:=Qv h.hy.ok.qJ.left h.hx.ok.Vj;intro e;rw[e]at h1;simp only[dL]at h1;omega
  have nn:y.c.nm≠[]:=by rw[h.hy.nm];exact h.hy.nn
  obtain⟨u1,u2,u3,u4,u5,u6,u7⟩:=abr h.hy.AZ h.hy.ok.qJ.left gQ nn;rw[h.hy.nm]at u7;have HU:=ag (fun(w:World)(hI:mQ y.c w)(hT:be T w)=>Ru y.c w hI h.hy.Pq T hT [107]);obtain⟨U,hU⟩:=aZ (AV y.c T [107]);rw[hU]at HU u2 u3 u4 u5 u6 u7;rw[u1]at HU;have lJ:=fun(w:World)(l:List MB)=>ag (fun(hM:vI (fun W=>F W∧dY y.c.ms W) w0 w x (ey y.o::os) l (sxR y rs))=>Je h.hx ab ee (fun W hW=>hT W hW.1) h.ari (PN u2 u3.fit u4 u5) (fun W _=>trivial) u7 (hc.can ab ab) hM);have awR:=ag (fun(s2:Sd)(hd:Did sx (wg U YO QJ) s2)=>hc.did ab hd);have HT:=ag hT;have H:=ag h;have HTX:=ag ht;clear u1 u2 u3 u4 u5 u6 u7 hU hT gQ nn h ht;have hw1:IntKind.i64.wrap 1=1:=ah;have QW:IntKind.i64.wrap 0=0:=ah;go_enter func38,ntmps38;go_wp2_with(((refine db ?_);(refine EM hM (d:=some 6) ?_;intro g6 w6 hM)));refine rB [] [0,1,2,3,4,5,6,7,8,9,10,11,12,13,14] ?_;intro hM;go_wp2_with(first|((refine bU ?_);(refine qI hM (d:=some 11) ?_;intro g11 w11 hM))|(refine aP ?_)|(refine bx ?_;intro wN hM)|(refine SW ?_;intro wN hM)|(go_at_call 33;refine((lJ _ _).out (Fm.perm hM (PM _ _ _ _ _) (cz _))).mono ?_;rintro e wN⟨x2,s2,rfl,rF,uX,to2,Fl,eI⟩;have hM:=eI;clear eI lJ;have hsa:=to2.sa;unfold vI at hM;rw[hsa]at hM));have H2:=ag (H.o.left uX to2);have C2:=ag (awR.o s2 rF);obtain⟨sl2,akz⟩:=uX.AZ.last;have HK:=ag (fun(w:World)(hI:mQ x2.c w)=>zy x2.c w hI akz (BF AJ) [107] ah);have wj:=H2.o.known;obtain⟨kn,hk⟩:=aZ (lh (iA T jU s2.bs) [107]);rw[hk]at HK wj;have HA:=ag (fun(w:World)(hI:mQ y.c w)=>Pd y.c w hI kn);obtain⟨⟨D,dd⟩,hD⟩:∃r,vQ y.c kn=r:=⟨_,rfl⟩;have HR:=ag (fun(w:World)(hI:mQ y.c w)=>XZ hI kn);have Vi:=ag (Ya H.o.hy.Pq kn);rw[hD]at HA HR Vi;obtain⟨bI,hbI⟩:=aZ (Pe y.c kn);rw[hbI]at HA;have aaO:=ag (fun(w:World)(hv:co w (aF D) dd)(ht:be T w)=>Jb T dd key _ w hv Vi.o.1 ht Vi.o.2.1 (fun x hx=>Dz));obtain⟨mb,hmb⟩:=aZ (AG dd key);rw[hmb]at aaO;have mw:=fun(w:World)(l:List MB)(pr:xI)(P:List ez)(h1:0≤pr.at_∧pr.at_≤2000)(h2:0≤pr.many∧pr.many≤2000)(hl:P.length≤11)=>ag (fun(hM:vI (fun W=>(F W∧dY y.c.ms W)∧W.ownsRow w0.heap.size 43 32 (aF pr.path) P.length (P.flatMap hC)) w0 w x2 (ey y.o::os) l (sxR y rs))=>Je uX ab Fl (fun W hW=>HT.o W hW.1.1) H2.o.ari (apz (h:=kn) HTX.o ab h1 h2 hl) (fun W hW=>di.iz hW.2 rfl) ((HTX.o.set (h:=kn) ab pr).2.2.1 _ _ _) (C2.o.can ab (aC ((HTX.o.set (h:=kn) ab pr).2.2.2 _ _) TF)) hM);have are:=ag (fun(pr:xI)(P:List ez)(hl:P.length≤11)=>(aC ((HTX.o.set (h:=kn) ab pr).2.2.2 (CD pr.at_ pr.many P) QJ) TF:(wg (pa t kn pr) (CD pr.at_ pr.many P) QJ).length≤6000));unfold vI at mw;rw[hsa]at mw;clear hmb hbI hD hk akz HTX Vi;refine cB hM (HK.o _ (jS hM fg aX eQ fw (hM.get aX).here.2)) fun wN hM=>?_;go_wp2_with((refine bx ?_;intro wN hM));refine rB [11] [0,1,2,3,4,5,999] ?_;intro hM;intro hS;refine fv 6 10 ad rfl rfl (fun K hK=>?_) (fun K hK=>?_);rotate_left 1;focus refine zP [6,7,8,9,11,12] ?_;intro gN wN hM;refine rC ?_;refine cB hM (HA.o _ (jS hM (by exact Ct) yF Ct at7 (hM.get aX).here.1.2)) fun wN hM=>?_;refine bW ?_;intro wN hM
  rotate_left 1;focus go_simp;refine cB hM (HA.o _ (jS hM (by exact yF) yF Ct at7 (hM.get aX).here.1.2)) fun wN hM=>?_;refine hK.out _ _ hM.sub fun hS=>?_;refine rG [7,8,9,10,11,12] ?_;refine rN ?_;intro gN wN hM;refine rS ?_;intro wN hM
  all_goals go_wp2_with(first|(refine aP ?_)|(refine bx ?_;intro wN hM)|(go_at_call 33;refine((mw _ _ pr P hP.1 hP.2.1 hP.2.2.1).out (vI.gj Fl (Fm.perm hM (AN _ _ _ _) (cz _)))).mono ?_;rintro e wN⟨x3,s3,rfl,QU,hx3,to3,hS3,eI⟩;have hM:=eI;clear eI mw)|(go_at_call 78;refine(aaO.o _ (HR.o _ (jS hM (by exact Ct) yF Ct at7 (hM.get aX).here.1.2)) (HT.o _ (hM.get aX).here.1.1)).mono ?_;rintro e wN⟨pr,P,rfl,hP,mR⟩;have hN:=hM.ii mR hP.2.2.2;have hM:=hN;clear hN mR));go_ret;exact⟨x3,s3,rfl,⟨H2.o.left hx3 to3,C2.o.did (are.o pr P hP.2.2.1) QU,to2.trans to3⟩,hS3,cJ.mono (hM.less (List.Sublist.cons_cons _ (List.Sublist.cons_cons _ (List.Sublist.cons _ (List.Sublist.cons _ (List.Sublist.cons _ (aB _)))))) (aB _) (fun Q hQ=>hQ)) fun W h=>⟨h.1.1,h.2⟩⟩
end
section
variable{F:MF}{w0 w:World}{os:List Ob}{T:bR}{n:Int}{st:Nat}{HS:jL→Prop}{Inv:Ez→Prop}{x:Sx}{s:Sd}{l:List MB}{rs:List MR}
def abq (hx : eT T n st HS Inv x s) (wj : 0 ≤ lh (iA T jU s.bs) [107] ∧ lh (iA T jU s.bs) [107] ≤ 1000) (c : qX) (c1 : c.bM.length ≤ 100) (c2 : c.src.length ≤ 100) (c3 : c.dst.length ≤ 100) (hM : vI F w0 w x os l rs) :
    Calls prog 79 #[aG x.sa, .agg (gF c)] w fun e w' => ∃ (x' : Sx) (s' : Sd) (b : Bool), e = .returned (.bool b) ∧ (eT T n st HS Inv x' s' ∧ pL x s x' s' ∧ x'.o = x.o) ∧ vI F w0 w' x' os l rs := by
  obtain ⟨sl, BT⟩ := hx.AZ.last
  have HK := ag (fun (w : World) (hI : mQ x.c w) => zy x.c w hI BT (BF AJ) [107] ae)
  obtain ⟨kn, hk⟩ := aZ (lh (iA T jU s.bs) [107])
  rw [hk] at HK wj
  have k4 : IntKind.i64.wrap (kn + 20) = kn + 20 := cE
  have HS := fun (w : World) (l : List MB) => ag (fun (hM : vI F w0 w x os l rs) =>
    let k := Xr (k := 13) (h := kn + 20) (ch := [99]) (c := c) ae ae ae c1 c2 c3 ab
    zx hx (PN k.1 k.2.1.fit rfl rfl) (fun W _ => trivial) (k.2.2 HS _ _) hM)
  clear hk hx BT wj
  go_enter func79, ntmps79
  go_wp2_with (((refine db ?_); (refine iQ ?_; intro g3 w3 hM)))
  refine rB [10] [0, 1, 2, 3, 4, 5, 6, 7, 8, 9, 10, 11] ?_;intro hM
  refine rC ?_
  refine cB hM (HK.o _ (jS hM Aa aX eQ fw (hM.get aX).here.2)) fun wN hM => ?_
  refine rK ?_
  refine rR ?_
  refine rR ?_
  refine rT ?_
  refine ((HS _ _).out (Fm.perm hM (AN _ _ _ _) (cz _))).mono ?_
  rintro e wN ⟨x2, s2, b, rfl, h1, h2, h3, eI⟩
  have hM := eI
  clear eI
  refine rU ?_
  go_wp2_with fail
  exact SV
def afm(hx:eT T n st HS Inv x s)(wj:0≤lh (iA T jU s.bs) [107]∧lh (iA T jU s.bs) [107]≤1000)(v0 v2:Value)(y:qO)(hM:vI F w0 w x os l rs):Calls prog 39 #[v0,aG x.sa,v2,.agg (kV y)] w fun e w'=>∃(x':Sx)(s':Sd)(b:Bool),e=.returned (.bool b)∧(eT T n st HS Inv x' s'∧pL x s x' s'∧x'.o=x.o)∧vI F w0 w' x' os l rs:=by have HG:=fun(w:World)(l:List MB)(a:W4)=>ag (fun(hM:vI F w0 w x os l rs)=>abq hx wj {vp with bM:=[120],src:=[97,110,110],dst:=[98,111,98],bK:=a} (show 1≤100 from ae) (show 3≤100 from ae) (show 3≤100 from ae) hM);clear hx wj;go_enter func39,ntmps39;go_wp2_with(first|((refine db ?_);(refine pO ?_;intro g7 w7 hM))|(refine aP ?_)|(go_at_call 80;refine(Qp _ _ _ _ _).mono ?_;rintro e wN⟨am,rfl,mR⟩;have hN:=hM.step mR;have hM:=hN;clear hN mR)|(go_at_call 79;refine((HG _ _ am).out (Fm.perm hM (AN _ _ _ _) (cz _))).mono ?_;rintro e wN⟨x2,s2,b,rfl,h1,eI⟩;have hM:=eI;clear eI));exact JQ
def afn(hx:eT T n st HS Inv x s)(wj:0≤lh (iA T jU s.bs) [107]∧lh (iA T jU s.bs) [107]≤1000)(v0 v2:Value)(y:qO)(hM:vI F w0 w x os l rs):Calls prog 40 #[v0,aG x.sa,v2,.agg (kV y)] w fun e w'=>∃(x':Sx)(s':Sd)(b:Bool),e=.returned (.bool b)∧(eT T n st HS Inv x' s'∧pL x s x' s'∧x'.o=x.o)∧vI F w0 w' x' os l rs:=by have HG:=fun(w:World)(l:List MB)(a:W4)=>ag (fun(hM:vI F w0 w x os l rs)=>abq hx wj {vp with bM:=[99,47,120],src:=[98,111,98],dst:=[97,110,110],bK:=a} (show 3≤100 from ae) (show 3≤100 from ae) (show 3≤100 from ae) hM);clear hx wj;go_enter func40,ntmps40;go_wp2_with(first|((refine db ?_);(refine pO ?_;intro g7 w7 hM))|(refine aP ?_)|(go_at_call 80;refine(Qp _ _ _ _ _).mono ?_;rintro e wN⟨am,rfl,mR⟩;have hN:=hM.step mR;have hM:=hN;clear hN mR)|(go_at_call 79;refine((HG _ _ am).out (Fm.perm hM (AN _ _ _ _) (cz _))).mono ?_;rintro e wN⟨x2,s2,b,rfl,h1,eI⟩;have hM:=eI;clear eI));exact JQ
def afo (hx : eT T n st HS Inv x s) (v0 v2 : Value) (y : qO) (hM : vI F w0 w x os l rs) :
    Calls prog 47 #[v0, aG x.sa, v2, .agg (kV y)] w fun e w' => ∃ (x' : Sx) (s' : Sd) (b : Bool), e = .returned (.bool b) ∧ (eT T n st HS Inv x' s' ∧ pL x s x' s' ∧ x'.o = x.o) ∧ vI F w0 w' x' os l rs := by
  have HS := fun (w : World) (l : List MB) (a : W4) => ag (fun (hM : vI F w0 w x os l rs) =>
    let k := Xr (k := 1) (h := 0) (ch := []) (c := { vp with bM := [120], src := [], dst := [97, 110, 110], bK := a }) ae ae ae (show 1 ≤ 100 from ae) (show 0 ≤ 100 from ae) (show 3 ≤ 100 from ae) ae
    zx hx (PN k.1 k.2.1.fit rfl rfl) (fun W _ => trivial) (k.2.2 HS _ _) hM)
  clear hx
  go_enter func47, ntmps47
  go_wp2_with (first | ((refine db ?_); (refine pO ?_; intro g7 w7 hM)) | (refine aP ?_) | (go_at_call 80; refine (Qp _ _ _ _ _).mono ?_; rintro e wN ⟨am, rfl, mR⟩; have hN := hM.step mR; have hM := hN; clear hN mR) | (go_at_call 74; refine ((HS _ _ am).out (Fm.perm hM (AN _ _ _ _) (cz _))).mono ?_; rintro e wN ⟨x2, s2, b, rfl, h1, h2, h3, eI⟩; have hM := eI; clear eI))
  exact SV
def ZK {y:Sx}{sy:Sd}{st2:Nat}{QY:jL→Prop}{Inv2:Ez→Prop}(hx:eT T n st (MS T y.c.nm jU sy.bs) Inv x s)(hy:eT T n st2 QY Inv2 y sy)(gQ:sy.bs≠[])(hT:∀W,F W→be T W)(v0:Value)(pl:qO)(hM:oZ F w0 w x y os l rs):Calls prog 42 #[v0,aG x.sa,aG y.sa,.agg (kV pl)] w fun e w'=>∃(x':Sx)(s':Sd)(b:Bool),e=.returned (.bool b)∧(eT T n st (MS T y.c.nm jU sy.bs) Inv x' s'∧pL x s x' s'∧x'.o=x.o)∧oZ F w0 w' x' y os l rs:=by
 have nn:y.c.nm≠[]:=by rw[hy.nm];exact hy.nn
 obtain⟨u1,u2,u3,u4,u5,u6,u7⟩:=abr hy.AZ hy.ok.qJ.left gQ nn;have HU:=ag (fun(w:World)(hI:mQ y.c w)(hT:be T w)=>Ru y.c w hI hy.Pq T hT [107]);obtain⟨U,hU⟩:=aZ (AV y.c T [107]);rw[hU]at HU u2 u3 u4 u5 u6 u7;rw[u1]at HU;have HS:=fun(w:World)(l:List MB)=>ag (fun(hM:vI (fun W=>F W∧dY y.c.ms W) w0 w x (ey y.o::os) l (sxR y rs))=>zx hx (PN u2 u3.fit u4 u5) (fun W _=>trivial) u7 hM);have HT:=ag hT;clear hx hy hU u1 u2 u3 u4 u5 u6 u7 hT;go_enter func42,ntmps42;go_wp2_with(first|((refine db ?_);(refine pO ?_;intro g7 w7 hM))|((refine bU ?_);(refine qI hM (d:=some 9) ?_;intro g9 w9 hM))|(refine aP ?_)|(refine bx ?_;intro wN hM)|(refine SW ?_;intro wN hM)|(go_at_call 74;refine((HS _ _).out (Fm.perm hM (PM _ _ _ _ _) (cz _))).mono ?_;rintro e wN⟨x2,s2,b,rfl,h1,h2,h3,eI⟩;have hM:=eI;clear eI));go_ret;exact⟨x2,s2,b,rfl,⟨h1,h2,h3⟩,hM.less (List.Sublist.cons_cons _ (List.Sublist.cons_cons _ (List.Sublist.cons _ (List.Sublist.cons _ (aB _))))) (aB _) (fun Q hQ=>hQ)⟩
end
section
open Go.MuLone
def Yz(id over:Bs)(k:Int):Tx:={lA with kind:=k,id:=id,over:=over,dj:=over,peer:=id}
def am0 {i o:UInt8}{k:Int}(hk:5≤k∧k≤16):EI (Yz [i] [o] k):=by
 refine⟨hk,?_,?_,rfl,(ah:(4:Nat)≤100)⟩;·refine⟨?_,?_,?_,?_,?_,?_,?_,?_,?_,?_,?_,?_,?_⟩;all_goals first|exact(ah:(0:Nat)≤4000)|exact(ah:(1:Nat)≤4000)|exact(ah:(0:Int)≤0∧(0:Int)≤1099511627776)
 ·refine⟨⟨by show 0≤k;omega,hk.2⟩,?_,?_,?_,?_,?_,?_,?_⟩;all_goals exact(ah:(0:Int)≤0∧(0:Int)≤1099511627776)
def afV(k:Int)(w:World):dM 36 #[al k] w (.agg (dA (Yz [110] [107] k))):=by have hM:=Fm.bZ w;go_enter func36,ntmps36;go_wp2_with(first|((refine bU ?_);(refine jD ?_;intro g2 w2 hM))|(refine aP ?_)|(refine bx ?_;intro wN hM));refine ar ?_;exact aK
def afU(k:Int)(w:World):dM 37 #[al k] w (.agg (dA (Yz [99] [110] k))):=by have hM:=Fm.bZ w;go_enter func37,ntmps37;go_wp2_with(first|((refine bU ?_);(refine jD ?_;intro g2 w2 hM))|(refine aP ?_)|(refine bx ?_;intro wN hM));refine ar ?_;exact aK
def CT(F:MF)(w0:World)(T:bR)(xa ya g:Nat)(os:List Ob)(l:List MB)(rs:List MR)(x0 y0:Sx)(u0 v0:Sd)(a b:Nat)(w:World):Prop:=∃(x y:Sx)(sx sy:Sd),(x.sa=xa∧y.sa=ya)∧Ek T a b x y sx sy∧(Calm a sx∧Calm b sy)∧(pL x0 u0 x sx∧pL y0 v0 y sy)∧Sep w0 (ey x.o::ey y.o::os)∧oZ F w0 w x y os ((g,55,KE xa ya)::l) rs
section
variable{F:MF}{w0 w:World}{os:List Ob}{T:bR}{a b:Nat}{xa ya g:Nat}{l:List MB}{rs:List MR}{x0 y0:Sx}{u0 v0:Sd}
def CT.step(h:CT F w0 T xa ya g os l rs x0 y0 u0 v0 a b w){w':World}(hb:Below w.heap.size w w'):CT F w0 T xa ya g os l rs x0 y0 u0 v0 a b w':=by obtain⟨x,y,sx,sy,h1,h2,h3,h4,h5,h6⟩:=h;exact⟨x,y,sx,sy,h1,h2,h3,h4,h5,h6.step hb⟩
def CT.avz(h:CT F w0 T xa ya g os l rs x0 y0 u0 v0 a b w)(hT:∀W,F W→be T W)(ha:a≤18)(hb:b≤18){t:Tx}(ht:EI t)(key:Bs):Calls prog 38 #[aG g,al 0,.agg (dA t),str key] w fun e w'=>e=.returned (.bool true)∧CT F w0 T xa ya g os l rs x0 y0 u0 v0 (a+2) b w':=by obtain⟨x,y,sx,sy,⟨rfl,rfl⟩,h2,h3,h4,h5,h6⟩:=h;refine(abJ false h2 ha ab h3.1 ht key h5 hT h6).mono ?_;rintro e w'⟨x',s',rfl,⟨k1,k2,k3⟩,k4,k5⟩;exact⟨rfl,x',y,s',sy,⟨k3.sa,rfl⟩,k1,⟨k2,h3.2⟩,⟨h4.1.trans k3,h4.2⟩,k4,k5⟩
def CT.avy(h:CT F w0 T xa ya g os l rs x0 y0 u0 v0 a b w)(hT:∀W,F W→be T W)(ha:a≤18)(hb:b≤18){t:Tx}(ht:EI t)(key:Bs):Calls prog 38 #[aG g,al 1,.agg (dA t),str key] w fun e w'=>e=.returned (.bool true)∧CT F w0 T xa ya g os l rs x0 y0 u0 v0 a (b+2) w':=by obtain⟨x,y,sx,sy,⟨rfl,rfl⟩,h2,h3,h4,h5,h6⟩:=h;refine(abJ true h2.flip hb ab h3.2 ht key h5.flip hT h6.flip).mono ?_;rintro e w'⟨x',s',rfl,⟨k1,k2,k3⟩,k4,k5⟩;exact⟨rfl,x,x',sx,s',⟨rfl,k3.sa⟩,k1.flip,⟨h3.1,k2⟩,⟨h4.1,h4.2.trans k3⟩,k4.flip,k5.flip⟩
def CT.hand(h:CT F w0 T xa ya g os l rs x0 y0 u0 v0 a b w)(hT:∀W,F W→be T W)(ha:a≤18)(hb:b≤18){t:Tx}(ht:EI t)(key:Bs){i:Int}(hi:i=0∨i=1):Calls prog 38 #[aG g,al i,.agg (dA t),str key] w fun e w'=>e=.returned (.bool true)∧CT F w0 T xa ya g os l rs x0 y0 u0 v0 (a+if i=0 then 2 else 0) (b+if i=0 then 0 else 2) w':=by rcases hi with rfl|rfl;exact h.avz hT ha hb ht key;exact h.avy hT ha hb ht key
def ajl(h:CT F w0 T xa ya g os l rs x0 y0 u0 v0 2 2 w)(hT:∀W,F W→be T W):Calls prog 17 #[aG g] w fun e w'=>e=.returned (.bool true)∧CT F w0 T xa ya g os l rs x0 y0 u0 v0 10 10 w':=by have hE1:∀args w,(callFunc 36 args).run prog w=.ok (.enter 36 args) w:=run_callFunc_enter func36 ad rfl;have hE2:∀args w,(callFunc 37 args).run prog w=.ok (.enter 37 args) w:=run_callFunc_enter func37 ad rfl;have it:=fun(i o:UInt8)(k:Int)(hk:5≤k∧k≤16)=>ag (am0 (i:=i) (o:=o) hk);go_enter func17,ntmps17;go_wp2_with(first|(go_at_call 34;refine(Mw _ _ ah).mono ?_;rintro e wN⟨rfl,hb⟩;have h2:=h.step hb;clear h;have h:=h2;clear h2 hb)|(go_at_call 35;refine(Mx _ _ ah).mono ?_;rintro e wN⟨rfl,hb⟩;have h2:=h.step hb;clear h;have h:=h2;clear h2 hb)|(go_at_call 36;refine(afV _ _).mono ?_;rintro e wN⟨rfl,hb⟩;have h2:=h.step hb;clear h;have h:=h2;clear h2 hb)|(go_at_call 37;refine(afU _ _).mono ?_;rintro e wN⟨rfl,hb⟩;have h2:=h.step hb;clear h;have h:=h2;clear h2 hb)|(go_at_call 38;refine(h.hand hT ah ah (it _ _ _ ah).out _ ah).mono ?_;rintro e wN⟨rfl,h2⟩;clear h;have h:=h2;clear h2));go_ret;exact⟨rfl,h⟩
end
end
def apE(a b:Nat)(w:World):(Instr.index 53 (.agg (KE a b)) (al 0)).run prog w=.ok (aG a) w:=ad
def apD(a b:Nat)(w:World):(Instr.index 53 (.agg (KE a b)) (al 1)).run prog w=.ok (aG b) w:=ad
section
variable{F:MF}{w0 w:World}{os:List Ob}{T:bR}{b:Nat}{x y:Sx}{sx sy:Sd}{l:List MB}{rs:List MR}{QY:jL→Prop}{Inv2:Ez→Prop}
structure aal (T : bR) (x y : Sx) (sx sy : Sd) : Prop where
  AZ : eT T 2500 1 (Bp T y sy) (fun _ => True) x sx
  calm : Calm 1 sx
  map : iA T jU sx.bs = jU
  ne : sx.bs ≠ []
def arj(hy:eT T 2500 b QY Inv2 y sy)(gQ:sy.bs≠[]):vu y.c 1=true∧lH (pT y.c 1)=true∧(pT y.c 1).chain=y.nm∧Bp T y sy (mz (pT y.c 1)):=by have hl:0<sy.bs.length:=ea.2 gQ;have hh:=hy.AZ.hdr (k:=0) hl;have e:((0:Nat):Int)+1=1:=rfl;rw[e]at hh;obtain⟨h1,h2⟩:=hh;have nn:=hy.nn;have nl:=hy.nl;rw[←hy.nm]at nn nl;refine⟨h2,?_,?_,?_⟩;rw[h1];exact Qw hy.ok.qJ.left hl nn nl;rw[h1];exact hy.nm;rw[h1,hy.nm];exact⟨0,hl,rfl⟩
def OC(hx:aal T x y sx sy)(hy:eT T 2500 b QY Inv2 y sy)(gQ:sy.bs≠[])(ee:Sep w0 (ey x.o::ey y.o::os))(hT:∀W,F W→be T W)(hM:oZ F w0 w x y os l rs):Calls prog 33 #[aG x.sa,.agg (dA (rk (keyOf y.nm) (pT y.c 1)))] w fun e w'=>∃(x':Sx)(s':Sd),e=.returned (.bool true)∧(eT T 2500 2 (Bp T y sy) (MZ T y sy) x' s'∧Calm 2 s'∧pL x sx x' s')∧Sep w0 (ey x'.o::ey y.o::os)∧oZ F w0 w' x' y os l rs:=by
 obtain⟨h1,h2,h3,h4⟩:=arj hy gQ;have hk:(keyOf y.nm).length≤64:=by have:=hy.nl;unfold keyOf;rw[aw];simp only[bG,dL];omega
 obtain⟨o1,o2⟩:=aaY hk h2;have hX:=an1 hk h2;refine(Je hx.AZ ah ee (fun W hW=>hT W hW.1) (fun _ _ _ _ _ _ _=>trivial) (PN o1 o2.fit rfl rfl) (fun _ _=>trivial) (ahu (HS:=Bp T y sy) (key:=keyOf y.nm) (h:=pT y.c 1)) (hx.calm.can ah (aC hX ah)) hM).mono ?_;rintro e w'⟨x',s',rfl,hd,Zx,hto,PK,uo⟩;have hc':=hx.calm.did (aC hX ah) hd;refine⟨x',s',rfl,⟨Zx.inv hd.going ?_,hc',hto⟩,PK,uo⟩;rw[hd.bs,CS,hx.map];have Es:=akR (T:=T) (d:=jU) (ht:=(oK {sx with waits:=[wg (rk (keyOf y.nm) (pT y.c 1)) YO QJ]} 0).ay) (t:=(oK {sx with waits:=[wg (rk (keyOf y.nm) (pT y.c 1)) YO QJ]} 0).time) AJ an2 (by rw[Qk];decide) hk h2 h4;rw[h3]at Es;exact Es
def adj {g:Nat}(hx:aal T x y sx sy)(hy:aal T y x sy sx)(ee:Sep w0 (ey x.o::ey y.o::os))(hT:∀W,F W→be T W)(hM:oZ F w0 w x y os ((g,55,KE x.sa y.sa)::l) rs):Calls prog 16 #[aG g] w fun e w'=>e=.returned (.bool true)∧CT F w0 T x.sa y.sa g os l rs x y sx sy 2 2 w':=by
 have H1:=fun(w:World)(hI:mQ y.c w)(hT:be T w)=>yl y.c w hI hy.AZ.Pq T hT 1;have k1:=arj hy.AZ hy.ne;rw[k1.1]at H1;have H1:=ag H1;have lJ:=fun(w:World)(l:List MB)=>ag (fun(hM:oZ F w0 w x y os l rs)=>OC hx hy.AZ hy.ne ee hT hM);obtain⟨h1,hh1⟩:=aZ (pT y.c 1);obtain⟨m1,KD⟩:=aZ (yz T y.c 1);rw[hh1]at H1 lJ;rw[KD]at H1;have HT:=ag hT;have HX:=ag hx;have HY:=ag hy;have EY:¬9223372036854775807<4+y.nm.length:=by have:=hy.AZ.nl;omega
 have awT:¬9223372036854775807<4+x.nm.length:=by have:=hx.AZ.nl;omega
 have hw1:IntKind.i64.wrap 1=1:=ah;have QW:IntKind.i64.wrap 0=0:=ah;have hi0:=apE x.sa y.sa;have hi1:=apD x.sa y.sa;clear hT hx hy k1 hh1 KD;go_enter func16,ntmps16;go_wp2_with((refine aP ?_));refine dG 3 ?_;rw[bE];go_wp2_with(first|((refine bU ?_);first|(refine rM ?_;intro g7 w7 hM)|(refine uk ?_;intro g8 w8 hM))|(refine aP ?_)|(refine bx ?_;intro wN hM)|(go_at_call 11;refine cB hM (H1.o _ (jS hM (by exact rx) yF Ct at7 (hM.get aX).here.1.2) (HT.o _ (hM.get aX).here.1.1)) fun wN hM=>?_));refine fu [13] (fun W=>Fm _ _ _ W _ _ _) ad hM.drew (fun hS=>?_);replace hM:=hM.drew;refine dR 0 34 hS ?_;refine dR 1 35 hS ?_;refine dR 2 36 hS ?_;refine dR 3 37 hS ?_;refine dR 4 38 hS ?_;refine dR 5 39 hS ?_;refine dR 6 40 hS ?_;refine dR 7 41 hS ?_;refine dR 8 42 hS ?_;refine de 9 (some 43) hS ?_;refine dR 10 44 hS ?_;refine de 11 (some 45) hS ?_;refine bF 12 ad rfl (fun K hK=>?_);rw[if_pos aq];(refine aqT ?_);refine hK.out _ _ hM.sub fun hS=>?_;refine dC 13 ad aq rfl (fun K hK=>?_);go_simp;refine((lJ _ _).out (hM.less (List.Sublist.cons _ (List.Sublist.cons _ (aB _))) (aB _) (fun Q hQ=>hQ))).mono ?_;rintro e wN⟨x2,s2,rfl,⟨uX,nP,to2⟩,Fl,eI⟩;have hM:=eI;clear eI lJ;have hsa:=to2.sa;unfold oZ vI at hM;rw[hsa]at hM;refine hK.out _ _ (fun W=>Fm _ _ _ W _ _ _) hM fun hS=>?_;try simp only[]
 refine dR 14 48 hS ?_;refine dR 15 3 hS ?_;refine dB ad ?_;go_wp2_with fail;have H2:=fun(w:World)(hI:mQ x2.c w)(hT:be T w)=>yl x2.c w hI uX.Pq T hT 1;have anz:s2.bs≠[]:=by obtain⟨bs,e⟩:=to2.more;have:=HX.o.ne;rw[e];intro h;exact this (List.append_eq_nil_iff.1 h).1
 have k2:=arj uX anz;rw[k2.1]at H2;have H2:=ag H2;have hY2:aal T y x2 sy s2:=⟨HY.o.AZ.mono (Ps to2) (fun _ _=>trivial),HY.o.calm,HY.o.map,HY.o.ne⟩;have mw:=fun(w:World)(l:List MB)=>ag (fun(hM:oZ F w0 w y x2 os l rs)=>OC hY2 uX anz Fl.flip HT.o hM);obtain⟨h2,hh2⟩:=aZ (pT x2.c 1);obtain⟨m2,UY⟩:=aZ (yz T x2.c 1);rw[hh2]at H2 mw;rw[UY]at H2;unfold oZ vI sxB at mw;rw[hsa]at mw;have awT:¬9223372036854775807<4+x2.nm.length:=by have:=uX.nl;omega
 clear k2 hh2 UY hY2 anz;rw[bE];go_wp2_with(first|((refine bU ?_);first|(refine rM ?_;intro g7 w7 hM)|(refine uk ?_;intro g8 w8 hM))|(refine aP ?_)|(refine bx ?_;intro wN hM)|(go_at_call 11;refine cB hM (H2.o _ (jS hM fg aX eQ fw (hM.get aX).here.2) (HT.o _ (hM.get aX).here.1.1)) fun wN hM=>?_));refine rB [13] [0,1,2,3,4,5,6,7,8,9,10,11,12,13,14,15] ?_;intro hM;refine rR ?_;refine rT ?_;refine((mw _ _).out (cJ.mono (Fm.perm (cJ.ZG (hM.less (List.Sublist.cons _ (List.Sublist.cons _ (aB _))) (aB _) (fun Q hQ=>hQ)) (List.Perm.swap _ _ _)) (PM _ _ _ _ _) (adU _ _ _ _ _ _ _ _ _ _ _)) (fun W h=>⟨⟨h.1.1,h.2⟩,h.1.2⟩))).mono ?_;rintro e wN⟨y2,t2,rfl,⟨hy2,awU,ty2⟩,hS3,eI⟩;have hM:=cJ.mono (Fm.perm (cJ.ZG eI (List.Perm.swap _ _ _)) (PM _ _ _ _ _) (adU _ _ _ _ _ _ _ _ _ _ _)) (fun W h=>(⟨⟨h.1.1,h.2⟩,h.1.2⟩:(F W∧dY y2.c.ms W)∧dY x2.c.ms W));clear eI mw;refine rU ?_;refine iR ?_;go_wp2_with fail;go_ret;exact⟨rfl,x2,y2,s2,t2,⟨hsa,ty2.sa⟩,⟨uX.mono (Ps ty2) (agX ty2),hy2⟩,⟨nP,awU⟩,⟨to2,ty2⟩,hS3.flip,by unfold oZ vI;rw[hsa];exact hM⟩
end
def aam:Log:=⟨(0,0,0),[],false⟩
def zH(h g gm:Nat):Lo:=⟨h,g,gm,.slice none 0 0,0,Gz 2500,aam⟩
def aen(T:bR)(x:Sx)(s:Sd):Prop:=eT T 2500 0 (fun _=>False) (fun _=>True) x s∧Calm 0 s∧s.bs=[]
def aem(T:bR)(x:Sx)(s:Sd):Prop:=eT T 2500 1 (fun _=>False) (fun _=>True) x s∧Calm 1 s∧iA T jU s.bs=jU∧s.bs≠[]
def zR.part {D D':Nat→Prop}{F:MF}{W:World}(h:zR D' F W)(hD:∀b,D b→D' b):zR D F W:=fun V h1 h2=>h V h1 (fun b hb hd=>h2 b hb (fun h3=>hd (hD b h3)))
section
variable{F:MF}{w0 w:World}{os:List Ob}{T:bR}{x y:Sx}{s sx sy:Sd}{l:List MB}{rs:List MR}
def aem.fresh(h:aem T x sx):aal T x y sx sy:=⟨h.1.mono (fun _ k=>k.elim) (fun _ _=>trivial),h.2.1,h.2.2.1,h.2.2.2⟩
def RD(hS:Sep w0 os)(hM:cJ F w0 w os l rs):Calls prog 13 #[al 2500] w fun e w'=>∃(g gm:Nat),e=.returned (aG g)∧Sep w0 (qW (zH 0 g gm)::os)∧Fm (Mm w0) w0 none w' l rs (zR (Hf os) F::zR (Hf (qW (zH 0 g gm)::os)) F::zi (qW (zH 0 g gm))::os.map zi):=by refine(ae1 w 2500 ae ae).mono ?_;rintro e w'⟨rfl,hD,hb⟩;have h1:=cJ.born (o:=qW (zH 0 (w.heap.size+1) w.heap.size)) hS hM hb (fun b hd=>by refine⟨?_,?_⟩;rcases hd with rfl|rfl|hd;simp[zH];simp[zH];cases hd;exact(Po (zH 0 (w.heap.size+1) w.heap.size)).inb w' b ⟨_,hD⟩ hd) (fun W k1 k2=>⟨_,cD.loc (o:=zH 0 (w.heap.size+1) w.heap.size) hD k2⟩) (Po _);have iq:jh (Mm w0) w0 w' l rs (zR (Hf os) F):=(h1.2.fact _ (aV ..)).mono fun W k=>zR.part k (fun b hb=>by grind[Hf]);grind[Fm.eW]
def ajm {g gm sa:Nat}{nm:Bs}(hnm:nm≠[])(Mn:nm.length≤32)(ee:Sep w0 (qW (zH 0 g gm)::os))(hT:∀W,F W→be T W)(hM:cJ F w0 w (qW (zH 0 g gm)::os) ((sa,61,#[str nm,aG g,.pointer none,.bool false,.slice none 0 0])::l) rs):Calls prog 14 #[aG sa] w fun e w'=>∃(x:Sx)(s:Sd),e=.returned (.bool true)∧(aen T x s∧x.sa=sa∧x.nm=nm)∧Sep w0 (ey x.o::os)∧vI F w0 w' x os l rs:=by have hL:rj 2500 0 (Gz 2500) aam [] []:=rj.new ae ae;have QH:pV (Gz 2500)=(some aam,([]:List nL).map pm,0):=(Live.new ae ae).mf.open;refine(Rt (rs:=Ve none 0 []::rs) T (zH 0 g gm) nm [] aam (k:=0) (m:=0) (p:=none) ee (Fm.iN hM 249 3) hT (pD.new 2500) ae ae (aI _) QH (by simp[kP]) (aI _) hnm Mn).mono ?_;rintro e w'⟨c,h,rfl,⟨e1,e2,e3,e4,e5⟩,ES,nI,eI⟩;refine⟨⟨sa,nm,false,none,0,[],c,zH h g gm⟩,⟨nm,keyOf nm,[],[],[],Gz 2500,aam⟩,rfl,⟨⟨?_,⟨rfl,rfl,rfl,aI _⟩,rfl⟩,rfl,rfl⟩,nI,eI⟩;exact⟨ES,⟨(by simp[kP]),hL,aI _,(fun x hx=>ai),(fun x hx=>ai),trivial,trivial⟩,rfl,rfl,e3.symm,aI _,e4,e1,hnm,Mn,e2,⟨fun k=>ai,fun k=>absurd rfl k⟩,aI _,aI _,ae,ae,aI _⟩
def am1(h:aen T x s)(ee:Sep w0 (ey x.o::os))(hT:∀W,F W→be T W)(hM:vI F w0 w x os l rs):Calls prog 15 #[aG x.sa,al 0] w fun e w'=>∃(x':Sx)(s':Sd),e=.returned (.bool true)∧(aem T x' s'∧x'.sa=x.sa∧x'.nm=x.nm)∧Sep w0 (ey x'.o::os)∧vI F w0 w' x' os l rs:=by refine(ajb h.1 ae ee hT (fun _ _ _ _ _ _ _=>trivial) 0 hM).mono ?_;rintro e w'⟨x',s',er,rfl,hq,Zx,hto,PK,uo⟩;obtain⟨rfl,hc,hb⟩:=h.2.1.cut ae hq;have h3:=h.2.2;refine⟨x',s',rfl,⟨⟨Zx,hc,?_,?_⟩,hto.sa,hto.nm⟩,PK,uo⟩;rw[hb,h3];exact abW h.2.1.waits;grind
abbrev aj9(F:MF)(w0 w:World)(sa:Nat)(x:Sx)(os:List Ob)(l:List MB)(rs:List MR):Prop:=cJ (fun W=>F W∧dY x.c.ms W) w0 w (ey x.o::os) ((sa,61,GR x.nm x.o.g x.c.g x.q x.p x.Rs.length x.k)::sP x.c::l) (qB x.c::qD x.c::qC x.c::su x.c::Ve x.p x.k x.Rs::rs)
def RE {g gm sa:Nat}{nm:Bs}(hnm:nm≠[])(Mn:nm.length≤32)(ee:Sep w0 (qW (zH 0 g gm)::os))(hT:∀W,F W→be T W)(hM:cJ F w0 w (qW (zH 0 g gm)::os) ((sa,61,#[str nm,aG g,.pointer none,.bool false,.slice none 0 0])::l) rs):Calls prog 14 #[aG sa] w fun e w'=>∃(x:Sx)(s:Sd),e=.returned (.bool true)∧(aen T x s∧x.sa=sa)∧Sep w0 (ey x.o::os)∧aj9 F w0 w' sa x os l rs:=by refine(ajm hnm Mn ee hT hM).mono ?_;grind
def XL {sa:Nat}(h:aen T x s∧x.sa=sa)(ee:Sep w0 (ey x.o::os))(hT:∀W,F W→be T W)(hM:aj9 F w0 w sa x os l rs):Calls prog 15 #[aG sa,al 0] w fun e w'=>∃(x':Sx)(s':Sd),e=.returned (.bool true)∧(aem T x' s'∧x'.sa=sa)∧Sep w0 (ey x'.o::os)∧aj9 F w0 w' sa x' os l rs:=by obtain⟨h,rfl⟩:=h;refine(am1 h ee hT hM).mono ?_;grind
end
def abs(g:Nat)(k:Int)(w:World)(v:Value)(hv:v=if k=1 then .func (.func 39) #[aG g] #[]else if k=2 then .func (.func 40) #[aG g] #[]else if k=3 then .func (.func 41) #[aG g] #[]else if k=4 then .func (.func 42) #[aG g] #[]else if k=5 then .func (.func 43) #[aG g] #[]else if k=6 then .func (.func 44) #[aG g] #[]else if k=7 then .func (.func 45) #[aG g] #[]else if k=8 then .func (.func 46) #[aG g] #[]else if k=9 then .func (.func 47) #[aG g] #[]else .nilFunc):Calls prog 19 #[aG g,al k] w fun e w'=>e=.returned v∧w=w':=by
 by_cases h1:k=1;subst h1;obtain rfl:v=.func (.func 39) #[aG g] #[]:=aj;clear hv;refine oD ?_;go_ret;simp;by_cases h2:k=2;subst h2;obtain rfl:v=.func (.func 40) #[aG g] #[]:=aj;clear hv;refine oD ?_;go_ret;simp;by_cases h3:k=3;subst h3;obtain rfl:v=.func (.func 41) #[aG g] #[]:=aj;clear hv;refine oD ?_;go_ret;simp;by_cases h4:k=4;subst h4;obtain rfl:v=.func (.func 42) #[aG g] #[]:=aj;clear hv;refine oD ?_;go_ret;simp;by_cases h5:k=5;subst h5;obtain rfl:v=.func (.func 43) #[aG g] #[]:=aj;clear hv;refine oD ?_;go_ret;simp;by_cases h6:k=6;subst h6;obtain rfl:v=.func (.func 44) #[aG g] #[]:=aj;clear hv;refine oD ?_;go_ret;simp;by_cases h7:k=7;subst h7;obtain rfl:v=.func (.func 45) #[aG g] #[]:=aj;clear hv;refine oD ?_;go_ret;simp;by_cases h8:k=8;subst h8;obtain rfl:v=.func (.func 46) #[aG g] #[]:=aj;clear hv;refine oD ?_;go_ret;simp;by_cases h9:k=9;subst h9;obtain rfl:v=.func (.func 47) #[aG g] #[]:=aj;clear hv;refine oD ?_;go_ret;simp;obtain rfl:v=.nilFunc:=by rw[hv];simp[h1,h2,h3,h4,h5,h6,h7,h8,h9]
 clear hv;have e1:(k==1)=false:=fF;have e2:(k==2)=false:=mm;have e3:(k==3)=false:=kC;have e4:(k==4)=false:=by simpa using h4
 have e5:(k==5)=false:=xj;have e6:(k==6)=false:=by simpa using h6
 have e7:(k==7)=false:=by simpa using h7
 have e8:(k==8)=false:=by simpa using h8
 have e9:(k==9)=false:=by simpa using h9
 clear h1 h2 h3 h4 h5 h6 h7 h8 h9;refine oD ?_;go_ret;simp
instance:Bd prog 55 [] #[.pointer none,.pointer none]:=⟨ad⟩
instance(a b:Bs):Bd prog 56 [(0,str a),(1,str b)] #[str a,str b]:=⟨ad⟩
instance(a:Bs)(g:Option Addr):Bd prog 61 [(0,str a),(1,.pointer g)] #[str a,.pointer g,.pointer none,.bool false,.slice none 0 0]:=⟨ad⟩
section
variable{F:MF}{w0 w:World}{os:List Ob}{T:bR}{l:List MB}{rs:List MR}
def apG(w:World):(Instr.index 56 (.agg #[str [97],str [98]]) (al 0)).run prog w=.ok (str [97]) w:=ad
def apF(w:World):(Instr.index 56 (.agg #[str [97],str [98]]) (al 1)).run prog w=.ok (str [98]) w:=ad
def adk(ee:Sep w0 os)(hT:∀W,F W→be T W)(hM:cJ F w0 w os l rs):Calls prog 4 #[al 2500] w fun e w'=>∃(g xa ya:Nat)(x y:Sx)(sx sy:Sd),e=.returned (aG g)∧CT F w0 T xa ya g os l rs x y sx sy 10 10 w':=by have hi0:=apG;have hi1:=apF;have HT:=ag hT;go_enter func4,ntmps4;go_wp2_with(first|((refine db ?_);(refine EM hM (d:=some 13) ?_;intro g13 w13 hM))|(refine aP ?_));refine dG 3 ?_;rw[bE];go_wp2_with fail;refine rB [10] [0,1,2,3,7,8,4,5,6,9,10] ?_;intro hM;refine rC ?_;refine(RD ee hM).mono ?_;rintro e wN⟨d1,m1,rfl,PD,eI⟩;have hM:=eI;clear eI;refine mn ?_;intro a1 wN hM;refine rS ?_;intro wN hM;have eI:=hM.ajM (List.Sublist.cons _ (aB _));have hM:=eI;clear eI;go_wp2_with(first|(refine aP ?_)|(go_at_call 14;refine(RE ah ah PD HT.o hM).mono ?_;rintro e wN⟨x1,s1,rfl,Xj,WR,eI⟩;have hM:=eI;clear eI)|(go_at_call 15;refine(XL Xj WR HT.o hM).mono ?_;rintro e wN⟨y1,t1,rfl,hy1,hR1,eI⟩;have hM:=eI;clear eI));clear ee;have ee:=hR1;rw[bE];go_wp2_with fail;refine rB [10] [0,1,2,3,7,8,4,5,6,9,10] ?_;intro hM;refine rC ?_;refine(RD ee hM).mono ?_;rintro e wN⟨d2,m2,rfl,hD2,eI⟩;have hM:=eI;clear eI;refine mn ?_;intro a2 wN hM;refine rS ?_;intro wN hM;have eI:=hM.ajM (List.Sublist.cons _ (aB _));have hM:=eI;clear eI;go_wp2_with(first|(refine aP ?_)|(go_at_call 14;refine(RE ah ah hD2 (fun W hW=>HT.o W hW.1) hM).mono ?_;rintro e wN⟨x2,s2,rfl,uX,Fl,eI⟩;have hM:=eI;clear eI)|(go_at_call 15;refine(XL uX Fl (fun W hW=>HT.o W hW.1) hM).mono ?_;rintro e wN⟨y2,t2,rfl,hy2,hR2,eI⟩;have hM:=eI;clear eI));obtain⟨hy1,rfl⟩:=hy1;obtain⟨hy2,rfl⟩:=hy2;have eI:oZ F w0 _ y1 y2 os ((g13,55,KE y1.sa y2.sa)::l) rs:=oZ.flip hM;rw[bE];go_wp2_with(first|(go_at_call 16;refine(adj hy1.fresh hy2.fresh hR2.flip HT.o eI).mono ?_;rintro e wN⟨rfl,hP⟩)|(go_at_call 17;refine(ajl hP HT.o).mono ?_;rintro e wN⟨rfl,hP2⟩));go_ret;exact⟨g13,_,_,_,_,_,_,rfl,hP2⟩
end
end Go.Proofs.YtlddafbgfkocjaaGreatDoor
