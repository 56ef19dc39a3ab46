/- A part of TopHonest. -/
import Derived.Test.YtlddafbgfkocjaaGreatDoorT11
import Derived.Test.YtlddafbgfkocjaaGreatDoorT13
import Derived.Test.YtlddafbgfkocjaaGreatDoorT24
namespace Go.Proofs.YtlddafbgfkocjaaGreatDoor
open Go.RowKit Go.Proofs.Tryz
set_option linter.all false
set_option maxRecDepth 1000000
set_option maxHeartbeats 400000000
def vA p:Hid p=p:=propext ⟨fun h=>h.o,ag⟩
def gD {P f x y w R}c(h:Calls P f #[x,.int .u8 c,y] w R):Calls P f #[x,.int .u8 c,y] w R:=h
def UD {P f x y z w R}c(h:Calls P f #[x,.int .u8 c,y,z] w R):Calls P f #[x,.int .u8 c,y,z] w R:=h
section
variable{I:MF}{fs:List MF}{w0 w w':World}{row:Option Nat}{l l2:List MB}{rs:List MR}{R:Ending→World→Prop}
def Fm.agC(h:Fm I w0 row w l rs fs)(i:Nat){g t cs cs'}(hi:l[i]?=some (g,t,cs))(hb:aM w' g t cs')(hg:w.grownBy w' (some g)){v e sz n xs}(hr:w'.ownsRow w.heap.size e sz v n xs):Fm I w0 row w' (l.set i (g,t,cs')) ((v,e,sz,n,xs)::rs) fs:=by have h1:=h.oJ i hi hb hg;have eo:∀y∈l,y.1<w.heap.size:=fun y hy=>(h.mem.pC y hy).lt;refine⟨h1.mem.akn hr h.mem.grown.size (fun y hy=>?_) (fun x hx k hk=>((h.mem.rows x hx).lt k hk).2),h.wC,fun Q hQ=>(h.fact Q hQ).move hg.size (fun b _ eo h1 _=>hg.block b eo (fun e=>ai)) (fun x hx=>?_) (fun x hx b e=>?_)⟩;grind;grind;exact SD
def auH(hM:Fm I w0 row w l rs fs){s:Bs}(k:∀g w',Fm I w0 row w' ((g,247,#[str s,.bool false])::l) rs fs→R (.returned (aG g)) w'):Calls prog 108 #[str s] w R:=(sF s w).mono fun e w'⟨h1,h2⟩=>by subst h1;subst h2;exact k _ _ (hM.Ar _ _)
def Oe c aU r:∃t s' b',bq c aU r=(t,s',b'):=⟨_,_,_,rfl⟩
def Ri c aU r:∃t s' b',ei c aU r=(t,s',b'):=⟨_,_,_,rfl⟩
def Rj c many aU r:∃t s' b',sZ c many aU r=(t,s',b'):=⟨_,_,_,rfl⟩
def Cd(hM:Fm I w0 row w l rs fs){i g:Nat}{s:Bs}{b c aU}(hi:l[i]?=some (g,247,#[str s,.bool b]):=by first|exact aX|exact eQ|exact fw|exact rx|exact Bu|exact yF|exact Ct)(hs:s.length≤1000000:=by omega)(hc:0≤c∧c≤255:=by decide)(hm:0≤aU∧aU≤1000000:=by decide)(k:∀w' t s' b',Hid (bq c aU (s,b)=(t,s',b'))→t.length≤aU.toNat→s'.length≤s.length→Fm I w0 row w' (l.set i (g,247,#[str s',.bool b'])) rs fs→R (.returned (str t)) w'):Calls prog 161 #[aG g,.int .u8 c,al aU] w R:=by obtain⟨t,s',b',hr⟩:=Oe c aU (s,b);have h1:=fT hr hm.1;have h2:=kF hr;exact(kQ s b c aU g w (hM.mem.at_ hi) hc.1 hc.2 ab ab t s' b' hr).mono fun e w'⟨he,hb,hg⟩=>by subst he;exact k w' t s' b' (ag hr) ab h2 (hM.oJ i hi hb hg)
def DU(hM:Fm I w0 row w l rs fs){i g:Nat}{s:Bs}{b c aU}(hi:l[i]?=some (g,247,#[str s,.bool b]):=by first|exact aX|exact eQ|exact fw|exact rx|exact Bu|exact yF|exact Ct)(hs:s.length≤1000000:=by omega)(hc:0≤c∧c≤255:=by decide)(hm:0≤aU∧aU≤1099511627776:=by decide)(k:∀w' n s' b',Hid (ei c aU (s,b)=(n,s',b'))→0≤n→n≤aU→s'.length≤s.length→Fm I w0 row w' (l.set i (g,247,#[str s',.bool b'])) rs fs→R (.returned (al n)) w'):Calls prog 109 #[aG g,.int .u8 c,al aU] w R:=by obtain⟨n,s',b',hr⟩:=Ri c aU (s,b);have h1:=iV hr;have h2:=sQ hr;exact(sj s b c aU g w (hM.mem.at_ hi) hc.1 hc.2 ab ab n s' b' hr).mono fun e w'⟨he,hb,hg⟩=>by subst he;exact k w' n s' b' (ag hr) h1.1 ab h2 (hM.oJ i hi hb hg)
def Vy c aU(hm:0≤aU):∀(k)(s:Bs)(L:List Bs),pj c aU k s=some L→(∀x∈L,(x.length:Int)≤aU)∧4*L.length≤s.length:=by intro k;induction k with|zero=>simp[pj]|succ k ih=>intro s L h;by_cases h0:s=[];grind[pj];rcases hr:bq c aU (s,false)with⟨t,s',b'⟩;rcases b' with _|_;rw[KZ k h0 hr]at h;rcases hq:pj c aU k s' with _|L';grind;rw[hq]at h;injection h with h;subst h;have h1:=ih s' L' hq;have h2:=fT hr hm;have h3:=tQ hr;grind;grind[KY]
def CN {c many aU r r'}{L:List Bs}(h:sZ c many aU r=(L,r'))(hm:0≤aU)(hk:0≤many):(∀x∈L,(x.length:Int)≤aU)∧(L.length:Int)≤many:=by unfold sZ at h;rcases hr:bq c 16777215 r with⟨t,s1,b1⟩;rw[hr]at h;simp only[]at h;rcases hq:mG c aU t with _|L';grind;rw[hq]at h;simp only[]at h;split at h;grind;injection h with h1 h2;subst h1;exact⟨(Vy c aU hm _ _ _ hq).1,ab⟩
def adY(hM:Fm I w0 row w l rs fs){i g:Nat}{s:Bs}{b c many aU}(hi:l[i]?=some (g,247,#[str s,.bool b]):=by first|exact aX|exact eQ|exact fw|exact rx|exact Bu|exact yF|exact Ct)(hs:s.length≤1000000:=by omega)(hc:0≤c∧c≤255:=by decide)(hk:0≤many:=by decide)(hm:0≤aU∧aU≤1000000:=by decide)(k:∀w'(L:List Bs)s' b'(q)(cap),Hid (sZ c many aU (s,b)=(L,s',b'))→Hid (∀x∈L,x.length≤aU.toNat)→L.length≤many.toNat→s'.length≤s.length→Fm I w0 row w' (l.set i (g,247,#[str s',.bool b'])) ((.slice q L.length cap,9,1,L.length,L.map str)::rs) fs→R (.returned (.slice q L.length cap)) w'):Calls prog 110 #[aG g,.int .u8 c,al many,al aU] w R:=by obtain⟨L,s',b',hr⟩:=Rj c many aU (s,b);have h1:=CN hr hm.1 hk;have h2:=DR hr;exact(acr s b c many aU g w (hM.mem.at_ hi) hc.1 hc.2 ab ab L s' b' hr).mono fun e w'⟨v,he,ho,hb,hg⟩=>by subst he;obtain⟨q,cap,rfl⟩:=ho.len;exact k w' L s' b' q cap (ag hr) (ag fun x hx=>ai) ab h2 (hM.agC i hi hb hg ho)
def ajQ(hM:Fm I w0 row w l rs fs){i g:Nat}{s:Bs}{b}(hi:l[i]?=some (g,247,#[str s,.bool b]):=by first|exact aX|exact eQ|exact fw|exact rx|exact Bu|exact yF|exact Ct)(k:∀w' n,Hid (mV (s,b)=n)→Fm I w0 row w' l rs fs→R (.returned (al n)) w'):Calls prog 111 #[aG g] w R:=(Pm s b g w (hM.mem.at_ hi)).mono fun e w'⟨he,hw⟩=>by subst he;subst hw;exact k _ _ (ag rfl) hM
def adA(hM:Fm I w0 row w l rs fs){i g:Nat}{s:Bs}{b}(k0:∀w',Hid (mV (s,b)=0)→Fm I w0 row w' l rs fs→R (.returned (al 0)) w')(k1:∀w',Hid (mV (s,b)=10)→Fm I w0 row w' l rs fs→R (.returned (al 10)) w')(hi:l[i]?=some (g,247,#[str s,.bool b]):=by first|exact aX|exact eQ|exact fw|exact rx|exact Bu|exact yF|exact Ct):Calls prog 111 #[aG g] w R:=(Pm s b g w (hM.mem.at_ hi)).mono fun e w'⟨he,hw⟩=>SI
def arN(hM:Fm I w0 row w l rs fs){i g:Nat}{s:Bs}{b}(hi:l[i]?=some (g,247,#[str s,.bool b]):=by first|exact aX|exact eQ|exact fw|exact rx|exact Bu|exact yF|exact Ct)(k:∀w',Fm I w0 row w' l rs fs→R (.returned (.bool !b)) w'):Calls prog 163 #[aG g] w R:=(lD s b g w (hM.mem.at_ hi)).mono fun e w'⟨he,hw⟩=>by subst he;subst hw;exact k _ hM
end
structure aaB where
  at_ : Int
  many : Int
  path : List ez
structure Ml where
  many : Int
  left : Ez
  right : Ez
  a : aaB
  b : aaB
def zA:aaB:=⟨0,0,[]⟩
def OQ:Ml:=⟨0,[],[],zA,zA⟩
structure TxP where
  kind : Int
  id : Bs
  over : Bs
  peer : Bs
  dj : Bs
  key : Bs
  period : Int
  header : qh
  tC : ez
  aA : kY
  nK : Bs
  ay : Int
  proof : aaB
  fx : Ml
def aqB:TxP:=⟨0,[],[],[],[],[],0,ol,iP,AK,[],0,zA,OQ⟩
structure qi where
  chain : Bs
  key : Bs
  period : Int
  frozen : Bool
  bh : List jL
def zm:qi:=⟨[],[],0,false,[]⟩
def Mp(t:Bs):ez:=⟨Eg t,Zs t⟩
def dK (s : Bs) : aaB × Int :=
  let a := ei 105 2000 (s, false)
  let m := ei 109 2000 a.2
  let l := sZ 112 16 32 m.2
  if (∀ t ∈ l.1, t.length = 32) ∧ mV l.2 = 0 then (⟨a.1, m.1, l.1.map Mp⟩, 0) else (zA, 10)
def LR:List Bs→Ez|k::v::_=>[(k,v)]|_=>[]
def dS (r : Rd) : Ez × aaB × Bool × Rd :=
  let l := sZ 101 2 4000 r
  let t := bq 80 4000 l.2
  if (dK t.1).2 = 0 ∧ t.2.2 = false ∧ l.1.length ≠ 1 then (LR l.1, (dK t.1).1, true, t.2) else ([], zA, false, t.2)
def eM (s : Bs) : Ml × Int :=
  let m := ei 109 2000 (s, false)
  let x := dS m.2
  let y := dS x.2.2.2
  if x.2.2.1 = true ∧ y.2.2.1 = true ∧ mV y.2.2.2 = 0 then (⟨m.1, x.1, y.1, x.2.1, y.2.1⟩, 0) else (OQ, 10)
def lH(h:qh):Bool:=decide (h.chain≠[]∧h.chain.length≤32∧1≤h.ay∧0≤h.time∧max h.ay h.time≤1099511627776)
def eR (s : Bs) : qh × Int :=
  let c := bq 99 32 (s, false)
  let h := ei 104 1099511627776 c.2
  let t := ei 116 1099511627776 h.2
  let r := bq 114 32 t.2
  if r.1.length = 32 ∧ mV r.2 = 0 ∧ lH ⟨c.1, h.1, t.1, Mp r.1⟩ = true then (⟨c.1, h.1, t.1, Mp r.1⟩, 0) else (ol, 10)
def mz(h:qh):jL:=⟨h.ay,h.time,h.root⟩
def mW(c:Bs)(s:jL):qh:=⟨c,s.ay,s.time,s.root⟩
def jV(a b:jL):Bool:=decide (a.ay<b.ay)&&decide (a.time≤b.time)
def lB(c:Bs)(l:List jL):Bool:=decide (∀(i:Nat)(h:i<l.length),lH (mW c l[i])=true∧(∀h0:0<i,jV (l[i-1]' ab) l[i]=true))
def jt(c:qi):Bool:=decide (c.key.length≤64∧1≤c.period∧c.period≤1099511627776∧1≤c.bh.length∧c.bh.length≤32)&&lB c.chain c.bh
def gK (s : Bs) : qi × Int :=
  let c := bq 99 32 (s, false)
  let k := bq 107 64 c.2
  let p := ei 112 1099511627776 k.2
  let f := ei 102 1 p.2
  let l := sZ 115 32 200 f.2
  if (∀ t ∈ l.1, (eR t).2 = 0 ∧ (eR t).1.chain = c.1) ∧ mV l.2 = 0 ∧ jt ⟨c.1, k.1, p.1, f.1 == 1, l.1.map fun t => mz (eR t).1⟩ = true then
    (⟨c.1, k.1, p.1, f.1 == 1, l.1.map fun t => mz (eR t).1⟩, 0) else (zm, 10)
def fe (s : Bs) : TxP × Int :=
  let r1 := ei 75 16 (s, false)
  let r2 := bq 73 4000 r1.2
  let r3 := bq 79 4000 r2.2
  let r4 := bq 81 4000 r3.2
  let r5 := bq 82 4000 r4.2
  let r6 := bq 89 4000 r5.2
  let r7 := ei 69 1099511627776 r6.2
  let r8 := bq 99 4000 r7.2
  let r9 := ei 104 1099511627776 r8.2
  let r10 := ei 116 1099511627776 r9.2
  let r11 := bq 114 32 r10.2
  let r12 := bq 77 32 r11.2
  let r13 := ei 113 1099511627776 r12.2
  let r14 := bq 115 4000 r13.2
  let r15 := bq 107 4000 r14.2
  let r16 := bq 100 4000 r15.2
  let r17 := bq 97 32 r16.2
  let r18 := bq 102 4000 r17.2
  let r19 := bq 103 4000 r18.2
  let r20 := ei 117 1099511627776 r19.2
  let r21 := ei 118 1099511627776 r20.2
  let r22 := bq 65 4000 r21.2
  let r23 := ei 84 1099511627776 r22.2
  let r24 := bq 70 4000 r23.2
  let r25 := bq 71 4000 r24.2
  if (r11.1.length = 32 ∧ r12.1.length = 32 ∧ ru r17.1 = 0 ∧ (dK r24.1).2 = 0 ∧ (eM r25.1).2 = 0) ∧ mV r25.2 = 0 then
    (⟨r1.1, r2.1, r3.1, r4.1, r5.1, r6.1, r7.1, ⟨r8.1, r9.1, r10.1, Mp r11.1⟩, Mp r12.1, ⟨r13.1, r14.1, r15.1, ⟨r16.1, AQ r17.1, r18.1, r19.1⟩, r20.1, r21.1⟩, r22.1, r23.1, (dK r24.1).1, (eM r25.1).1⟩, 0)
  else (aqB, 10)
def zr(s:Bs):Int:=if s.length=32 then 0 else 10
def abZ s:zr s=0∨zr s=10:=by unfold zr;split<;>simp
def CE s:(zr s=0)=(s.length=32):=by unfold zr;split<;>simp_all
def ahw s:(zr s=10)=¬(s.length=32):=by unfold zr;split<;>simp_all
def Mq(s:Bs)w(h:s.length≤1000000):dM 212 #[str s] w (.tuple #[.agg (da (Mp s)),al (zr s)]):=Zt w s ab
def PT {α:Type}{p:α→Prop}{L:List α}{k}hk(h:∀t∈L.take k,p t)(h1:p L[k]):∀t∈L.take (k+1),p t:=by intro t ht;rw[aS hk]at ht;rcases cQ.1 ht with h2|h2;exact h t h2;rw[cG]at h2;subst h2;exact h1
def Ms {α:Type}(L:List α)(f:α→List Value)k hk:(L.take (k+1)).flatMap f=(L.take k).flatMap f++f L[k]:=by rw[aS hk,cH];simp
def qL {w:World}{B e sz n m c q xs}(h:w.ownsRow B e sz (.slice q m c) n xs)(h0:0<n):∃g,q=some (aD g 0):=by rcases h.2 with⟨h1,h2⟩|⟨g,cap,cur,h1,_⟩;omega;injection h1 with h1;exact⟨g,h1⟩
def ND(s:Bs)w(hs:s.length≤1000000):Calls prog 214 #[str s] w fun e w'=>∃q,e=.returned (.tuple #[.agg (jF ⟨(dK s).1.at_,(dK s).1.many,q⟩),al (dK s).2])∧dz w w' (fun _=>True) (fun W=>lP W (aF q) (dK s).1.path)∧Below w.heap.size w w':=by
 have hM:=Fm.bZ w;go_enter func214,ntmps214;go_wp2_with(((refine bU ?_);(refine jD ?_;intro g2 w2 hM)));go_step3;go_wp2_with(first|((refine bU ?_);(refine mr ?_;intro g5 w5 hM))|(refine aP ?_)|(refine bx ?_;intro wN hM)|(refine xi ?_;intro gR wN hM)|(go_at_call 109;(with_reducible refine gD 105 ?_);refine DU (c:=105) hM (k:=?_);intro w_a NE Wp Ws IB a1 a2 a3 hM;try simp only[ax]at hM)|(go_at_call 109;(with_reducible refine gD 109 ?_);refine DU (c:=109) hM (k:=?_);intro w_m ZN ZM ZP H_m m1 m2 m3 hM;try simp only[ax,az]at hM));go_step3;go_wp2_with((go_at_call 110;(with_reducible refine UD 112 ?_);refine adY (c:=112) hM (k:=?_);intro w_l jd QG QF q_l c_l UI B_l l1 l2 hM;try simp only[ax,az]at hM));replace hM:=hM.iN 43 32;have e0:jO.path=⟨none,0,0⟩:=rfl;rw[e0]at hM;go_loopw [21,6](fun iv ev wr=>∃(k:Nat)(q:Sl),k≤jd.length∧iv=al k∧ev=al 0∧q.n=k∧Hid (∀t∈jd.take k,t.length=32)∧Fm (fun _=>True) w none wr [(g5,76,jF ⟨NE,ZN,q⟩),(gR,247,#[str QG,.bool QF]),(g2,76,jF jO)] [(aF q,43,32,k,(jd.take k).flatMap fun t=>hC (Mp t)),(.slice q_l jd.length c_l,9,1,jd.length,jd.map str)] [])(fun iv _ _=>jd.length-(intOf iv).toNat);case atStart=>exact⟨0,⟨none,0,0⟩,aI _,rfl,rfl,rfl,ag ae,hM⟩
 case round=>
  obtain⟨k,q,hk,rfl,rfl,hq,HT,hM⟩:=hrel;by_cases h1:k<jd.length;have i1:(k:Int)<(jd.length:Int):=ab;have i3:(0:Int)≤(k:Int):=ab;obtain⟨g,hg⟩:=qL (hM.mem.ij eQ) ab;subst hg;obtain⟨t,ht⟩:=aZ (jd[k]);have pJ:(jd.map str)[k]?=some (str t):=Dd;have Ea:t.length≤32:=by have:=B_l.o t Dc;exact mo
  have Mu:=ag pJ;have Nt:=ag ht;clear pJ ht;go_wp2_with(first|((refine xq ?_);(refine UE hM Mu.o ?_))|(refine aP ?_)|(refine bx ?_;intro wN hM)|(refine bw ?_;intro gN wN hM)|(refine vg ?_;intro gN cN wN hM)|(go_at_call 212;refine cB hM (Mq _ _ ab) fun wN hM=>?_));rw[bX];refine ar ?_;have hE:dK s=(zA,10):=by simp only[vA]at*;simp only[dK, *];rw[if_neg];intro h;have h2:=h.1 t (by rw[←Nt];exact bH h1);simp_all[zr]
  rw[hE];exact nt;have hz:zr t=0:=uj;have h32:t.length=32:=by unfold zr at hz;split at hz<;>simp_all
  refine⟨⟨_,_,_,_,⟨k+1,ab,rfl,by rw[hz],⟨some (aD gN 0),k+1,cN⟩,rfl,ag (PT h1 HT.o (by rw[Nt.o];exact h32)),?_⟩,rfl,rfl,rfl,ae⟩,bC⟩;rw[Ms jd _ k h1,Nt.o];exact lm
  ·have e1:k=jd.length:=ab;subst e1;have i1:¬(jd.length:Int)<(jd.length:Int):=ab;have ko:∀t∈jd,t.length=32:=by have:=HT.o;rwa[ci]at this
   have HA:=ag ko;clear ko;go_wp2_with(first|(refine aP ?_)|(refine bx ?_;intro wN hM)|(go_at_call 111;refine ajQ hM (k:=?_);intro wN nE HE hM));all_goals rw[bX]
   all_goals refine ar ?_
   have hE:dK s=(zA,10):=by simp only[vA]at*;simp only[dK, *];rw[if_neg];intro h;simp_all
   rw[hE];exact nt;have hE:dK s=(⟨NE,ZN,jd.map Mp⟩,0):=by simp only[vA]at*;simp only[dK, *];rw[if_pos];exact⟨HA,uj⟩
   rw[hE];refine⟨q,rfl,?_,hM.below⟩;have h5:=hM.auO (J:=fun _=>True) aX;refine h5.mono (fun _ h=>h) (fun W h=>?_);rw[ci]at h;refine di.iz (B:=w.heap.size) (e:=43) (n:=jd.length) ?_ ae;rw[tJ];exact h
def VE s:(dK s).2=0∨(dK s).2=10:=by simp only[dK];split<;>simp
def xP {W:World}{B g n c m sz i e xs v}(h:W.ownsRow B e sz (.slice (some (aD g 0)) m c) n xs)(hv:xs[i]?=some v):W.cell? (aD g i)=some v:=by rcases h.2 with⟨h1,_⟩|⟨g',cap,cur,h1,_,hb,_,_,_,Bt⟩;cases h1;injection h1 with h1 _ _;injection h1 with h1;injection h1 with h1 _;subst h1;have eo:=(bf.1 hv).1;have hl:xs.length=n*sz:=h.1;rw[aM.cell hb,←dm];rw[←Bt,bO ab]at hv;exact hv
def awz {W g}{k v:Bs}(h:aM W g 94 #[str k,str v]):co W (.slice (some (aD g 0)) 1 1) [(k,v)]:=di.iz (B:=0) (e:=94) (n:=1) ⟨rfl,.inr ⟨g,1,_,rfl,aI _,h,au _,ah,rfl,rfl⟩⟩ rfl
instance(a b:Bs):Bd prog 94 [(0,str a),(1,str b)] #[str a,str b]:=⟨ad⟩
def Fm.ar7 {I J w0 w g' l rs fs}(h:Fm I w0 (some g') w l rs fs){i j g:Nat}{t t' cs cs'}(hi:l[i]?=some (g,t,cs))(hj:l[j]?=some (g',t',cs'))(hij:i≠j):dz w0 w J (fun W=>aM W g t cs):=by intro W hW tR _;have hm:=aT hi;have hb:=h.mem.pC _ hm;rcases h.mem.own _ hm with h1|h1;have hl:=hb.lt;unfold aM at hb⊢;rw[tR g h1 hl];exact hb;exfalso;injection h1 with h1;have hp:=gG.1 h.mem.apart;obtain⟨hi1,hi2⟩:=bf.1 hi;obtain⟨hj1,hj2⟩:=bf.1 hj;rcases Nat.lt_or_gt_of_ne hij with h2|h2;have:=hp i j hi1 hj1 h2;rw[hi2,hj2]at this;exact this h1;have:=hp j i hj1 hi1 h2;rw[hi2,hj2]at this;exact this h1.symm
def ZO(s:Bs)b g w(h:qk w g (s,b))(hs:s.length≤1000000):Calls prog 239 #[aG g] w fun e w'=>∃q u:Sl,e=.returned (.tuple #[aF q,.agg (jF ⟨(dS (s,b)).2.1.at_,(dS (s,b)).2.1.many,u⟩),.bool (dS (s,b)).2.2.1])∧dz w w' (fun _=>True) (fun W=>co W (aF q) (dS (s,b)).1∧lP W (aF u) (dS (s,b)).2.1.path)∧qk w' g (dS (s,b)).2.2.2∧w.grownBy w' (some g):=by
 have hM:=Fm.lC h (fun _=>True) (fun _ _=>trivial);go_enter func239,ntmps239;go_wp2_with(first|(refine aP ?_)|(refine bx ?_;intro wN hM)|(refine bw ?_;intro gN wN hM)|(go_at_call 110;(with_reducible refine UD 101 ?_);refine adY (c:=101) hM (k:=?_);intro w_l jd QG QF q_l c_l UI B_l l1 l2 hM;try simp only[ax,az]at hM)|(go_at_call 161;(with_reducible refine gD 80 ?_);refine Cd (c:=80) hM (k:=?_);intro w_t Iv Le Lf DT t1 t2 hM;try simp only[ax,az]at hM)|(go_at_call 214;refine cFE hM jh.EL (VE _) (ND _ _ ab) ?_ ?_<;>(intro sN wN hn hM))|(go_at_call 163;refine arN hM (k:=?_);intro wN hM));refine ar ?_;exact SZ;refine rB [2] [0,1,2,3] ?_;intro hM;refine rS ?_;intro wN hM;go_wp2_with fail;refine ar ?_;have h0:jd=[]:=by rcases jd with _|⟨x,jd⟩;rfl;exfalso;simp_all<;>omega
 subst h0;have hE:dS (s,b)=([],(dK Iv).1,true,Le,Lf):=Ta;rw[hE];exact⟨eV,sN,rfl,(hM.Ig aX).mono (fun _ _=>trivial) (fun W h=>⟨di.nil W,h⟩),hM.mem.at_ fw,hM.mem.grown⟩;refine ar ?_;have hE:dS (s,b)=([],zA,false,Le,Lf):=by
  have h9:jd.length=1:=by
   have h8:¬((jd.length:Int)=0):=by simpa using(aj:((jd.length:Int)==0)=false)
   omega
  simp only[vA]at*;simp only[dS,UI,DT];rw[if_neg (by intro h;exact h.2.2 h9)]
 rw[hE];exact⟨eV,eV,rfl,(fun W _ _ _=>⟨di.nil W,di.nil W⟩),hM.mem.at_ fw,hM.mem.grown⟩;obtain⟨x,y,h0⟩:∃x y,jd=[x,y]:=by rcases jd with _|⟨x,_|⟨y,_|⟨z,jd⟩⟩⟩;exfalso;simp_all;exfalso;simp_all;exact⟨x,y,rfl⟩;exfalso;simp_all<;>omega
 subst h0;obtain⟨gl,hg⟩:=qL (hM.mem.ij aX) ae;subst hg;replace hM:=hM.gj 0 aX;simp only[aQ]at hM;replace hM:=(hM.eW ((hM.st aX).mono fun W h=>xP (i:=1) (v:=str y) h rfl)).eW ((hM.st aX).mono fun W h=>xP (i:=0) (v:=str x) h rfl);refine rB [10] [0,1,2,3,4,5,6,8,7,9,10,11] ?_;intro hM;refine rN ?_;intro gN wN hM;refine rS ?_;intro wN hM;go_wp2_with fail;refine ar ?_;have hE:dS (s,b)=([(x,y)],(dK Iv).1,true,Le,Lf):=Ta;rw[hE];exact⟨⟨_,1,1⟩,sN,rfl,((hM.ar7 aX rx ah).mono (fun _ _=>trivial) (fun W h=>awz h)).and ((hM.Ig rx).mono (fun _ _=>trivial) (fun W h=>h)),hM.mem.at_ rx,hM.mem.grown⟩;refine ar ?_;exact SZ
def ar8 {I fs w0 w row l rs R}(hM:Fm I w0 row w l rs fs){i g:Nat}{s:Bs}{b}(hi:l[i]?=some (g,247,#[str s,.bool b]):=by first|exact aX|exact eQ|exact fw|exact rx|exact Bu|exact yF|exact Ct)(hs:s.length≤1000000:=by omega)(k:∀w'(L)(P)(v)s' b'(q u:Sl),Hid (dS (s,b)=(L,P,v,s',b'))→s'.length≤s.length→Fm I w0 row w' (l.set i (g,247,#[str s',.bool b'])) rs ((fun W=>co W (aF q) L∧lP W (aF u) P.path)::fs)→R (.returned (.tuple #[aF q,.agg (jF ⟨P.at_,P.many,u⟩),.bool v])) w'):Calls prog 239 #[aG g] w R:=by
 obtain⟨L,P,v,s',b',hr⟩:∃L P v s' b',dS (s,b)=(L,P,v,s',b'):=⟨_,_,_,_,_,rfl⟩;have hle:s'.length≤s.length:=by
  have h1:=@DR 101 2 4000 (s,b) _ _ rfl;have h2:=@kF 80 4000 (sZ 101 2 4000 (s,b)).2 _ _ rfl;have h3:(dS (s,b)).2.2.2=(bq 80 4000 (sZ 101 2 4000 (s,b)).2).2:=by simp only[dS];split<;>rfl
  rw[hr]at h3;simp only[]at h3;have h4:s'=(bq 80 4000 (sZ 101 2 4000 (s,b)).2).2.1:=by rw[←h3]
  rw[h4];exact aC h2 h1
 have h:=ZO s b g w (hM.mem.at_ hi) hs;rw[hr]at h;refine h.mono fun e w'⟨q,u,he,hg,hb,EX⟩=>?_;subst he;exact k w' L P v s' b' q u (ag hr) hle (hM.Qj i hi hb EX hg)
section
def DZ h w:dM 257 #[.agg (il h)] w (.bool (lH h)):=by
 have hM:=Fm.bZ w;go_enter func257,ntmps257;go_wp2_with(first|go_skip|(refine xT ?_ ?_;intro eF;(try rw[eF]);rotate_left;intro eF;(try rw[eF]);rotate_left)|(refine aP ?_)|(refine bw ?_;intro gN wN hM));all_goals go_ret
 all_goals refine io ?_
 all_goals simp_all[lH]
 all_goals omega
def aeB(c:Bs)s w:dM 258 #[str c,.agg (iB s)] w (.agg (il (mW c s))):=by have hM:=Fm.bZ w;go_enter func258,ntmps258;go_wp2_with(first|(refine aP ?_)|(refine bx ?_;intro wN hM)|(refine bw ?_;intro gN wN hM));refine ar ?_;exact aK
def Gr h w:dM 225 #[.agg (il h)] w (.agg (iB (mz h))):=by have hM:=Fm.bZ w;go_enter func225,ntmps225;go_wp2_with(first|(refine aP ?_)|(refine bx ?_;intro wN hM)|(refine bw ?_;intro gN wN hM));refine ar ?_;exact aK
def FM a b w:dM 259 #[.agg (iB a),.agg (iB b)] w (.bool (jV a b)):=by
 have hM:=Fm.bZ w;go_enter func259,ntmps259;go_wp2_with(first|go_skip|(refine xT ?_ ?_;intro eF;(try rw[eF]);rotate_left;intro eF;(try rw[eF]);rotate_left)|(refine aP ?_)|(refine bw ?_;intro gN wN hM));all_goals go_ret
 all_goals refine io ?_
 all_goals simp[jV, *]
def nS(L:List jL):jL:=L.getLastD lI
def di.nn {α f sz w p n c}{L:List α}(h:di w (.slice p n c) f sz L):n=L.length:=RR
def di.some_ {α f sz w p n c}{L:List α}(h:di w (.slice p n c) f sz L)(h0:0<L.length):∃g o,p=some (aD g o):=by rcases h.form with⟨h1,rfl⟩|⟨g,o,cap,h1,_⟩;simp at h0;injection h1 with h1;exact⟨g,o,h1⟩
attribute[local go_sem]aF in def akS L(q:Sl)w(hv:fV w (aF q) L)(hl:L.length≤1000000):dM 188 #[aF q] w (.agg (iB (nS L))):=by
 obtain⟨p,n,c⟩:=q;have hn:=hv.nn;simp only[]at hn;subst hn;have hM:=Fm.start w (fun W=>fV W (.slice p L.length c) L) (fun W hb=>hv.step hb);rcases dZ L.length with h0|h0
 ·have hL:L=[]:=cn h0;subst hL;go_enter func188,ntmps188;go_wp2_with(first|(refine aP ?_)|(refine bx ?_;intro wN hM)|(refine bw ?_;intro gN wN hM));all_goals refine ar ?_
  all_goals exact aK
 ·obtain⟨g,o,rfl⟩:=hv.some_ h0;have h1:L.length-1<L.length:=ab;have hs:nS L=L[L.length-1]:=by unfold nS;rw[List.getLastD_eq_getLast?,mS,aW h1];rfl
  replace hM:=hM.eW ((hM.st aX).mono fun W h=>(di.piece h qE h1:W.rangeAt g (o+(L.length-1)*34) (iB L[L.length-1]).toList));rw[hs];generalize L[L.length-1]=x at hM;have i1:(0:Int)≤(L.length:Int)-1:=ab;have i2:(L.length:Int)-1<L.length:=ab;go_enter func188,ntmps188;go_wp2_with(first|(refine aP ?_)|(refine bx ?_;intro wN hM)|(refine bw ?_;intro gN wN hM));all_goals refine ar ?_
  all_goals exact aK
def IP C L w(hv:fV w (aF C.bh) L)(hl:L.length≤1000000):dM 137 #[.agg (iY C)] w (.agg (iB (nS L))):=by have hM:=Fm.start w (fun W=>fV W (aF C.bh) L) (fun W hb=>hv.step hb);go_enter func137,ntmps137;go_wp2_with(first|(refine aP ?_)|(refine bx ?_;intro wN hM)|(refine bw ?_;intro gN wN hM)|(go_at_call 188;refine cB hM (akS _ _ _ (hM.get aX) hl) fun wN hM=>?_));refine ar ?_;exact aK
def Vo s:(eR s).2=0∨(eR s).2=10:=by simp only[eR];split<;>simp
def abY(s:Bs)w(hs:s.length≤1000000):dM 224 #[str s] w (.tuple #[.agg (il (eR s).1),al (eR s).2]):=by
 have hM:=Fm.bZ w;go_enter func224,ntmps224;go_wp2_with(first|go_skip|(refine aP ?_)|(refine bx ?_;intro wN hM)|(refine bw ?_;intro gN wN hM)|(refine xi ?_;intro gR wN hM)|(go_at_call 161;(with_reducible refine gD 99 ?_);refine Cd (c:=99) hM (k:=?_);intro w_c zl Mo Mr DY c1 c2 hM;try simp only[ax]at hM)|(go_at_call 109;(with_reducible refine gD 104 ?_);refine DU (c:=104) hM (k:=?_);intro w_h Mj UK UJ EV h1 h2 h3 hM;try simp only[ax,az]at hM)|(go_at_call 109;(with_reducible refine gD 116 ?_);refine DU (c:=116) hM (k:=?_);intro w_t Iv Le Lf DT t1 t2 t3 hM;try simp only[ax,az]at hM)|(go_at_call 161;(with_reducible refine gD 114 ?_);refine Cd (c:=114) hM (k:=?_);intro w_r IA US UT Kk r1 r2 hM;try simp only[ax,az]at hM)|(go_at_call 212;refine cE2 hM (abZ _) (Mq _ _ ab) ?_ ?_<;>(intro wN hn hM))|(go_at_call 111;refine adA hM ?_ ?_<;>(intro wN HE hM))|(go_at_call 257;refine yj hM (DZ _ _) fun wN bN hb hM=>?_;cases bN));all_goals refine ar ?_
 all_goals
  first|
   (
    have hE:eR s=(ol,10):=by simp only[vA]at*;simp only[eR, *];rw[if_neg (by simp_all[CE,ahw])]
    rw[hE];exact aK)|
   (
    have hE:eR s=(⟨zl,Mj,Iv,Mp IA⟩,0):=by simp only[vA]at*;simp only[eR, *];rw[if_pos (by simp_all[CE])]
    rw[hE];exact aK)
end
section
def oR(C:qi)(q:Sl):Nr:=⟨C.chain,C.key,C.period,C.frozen,q⟩
def ab0 {c L k}(hk:k<L.length)(h:lH (mW c L[k])=false):lB c L=false:=by unfold lB;rw[gZ];intro h2;have:=(h2 k hk).1;rw[h]at this;cases this
def YS {c L k}(hk:k<L.length)(h0:0<k)(h:jV (L[k-1]' ab) L[k]=false):lB c L=false:=by unfold lB;rw[gZ];intro h2;have:=(h2 k hk).2 h0;rw[h]at this;cases this
def as9(c:Bs)(L:List jL)(k:Nat):Prop:=∀(i:Nat)(h:i<L.length),i<k→lH (mW c L[i])=true∧(∀h0:0<i,jV (L[i-1]' ab) L[i]=true)
def YT {c L}(h:as9 c L L.length):lB c L=true:=by unfold lB;rw[dU];exact fun i hi=>h i hi hi
attribute[local go_sem]aF in def aa0 C L w(hv:fV w (aF C.bh) L)(hl:L.length≤1000000):dM 226 #[.agg (iY C)] w (.bool (jt ⟨C.chain,C.key,C.period,C.frozen,L⟩)):=by
 obtain⟨ch,key,oF,fr,⟨p,n,c⟩⟩:=C;have hn:=hv.nn;simp only[]at hn;subst hn;have hM:=Fm.start w (fun W=>fV W (.slice p L.length c) L) (fun W hb=>hv.step hb);obtain⟨A,hA⟩:=aZ (lB ch L);have hcl:jt ⟨ch,key,oF,fr,L⟩=(decide (key.length≤64∧1≤oF∧oF≤1099511627776∧1≤L.length∧L.length≤32)&&A):=by unfold jt;rw[hA]
 rw[hcl];have HA:=ag hA;clear hA hcl;by_cases hL:0<L.length
 ·obtain⟨g,o,rfl⟩:=hv.some_ hL;clear hv;go_enter func226,ntmps226;go_wp2_with((refine bw ?_;intro gN wN hM));go_step3;go_wp2_with(first|go_skip|(refine xT ?_ ?_;intro eF;(try rw[eF]);rotate_left;intro eF;(try rw[eF]);rotate_left)|(refine aP ?_));all_goals first|(rw[bX];go_ret;refine io ?_;simp_all;try omega)|skip
  go_step3;go_wp2_with((refine aP ?_));have hlen:L.length≤32∧key.length≤64∧1≤oF∧oF≤1099511627776:=by simp_all<;>omega
  go_loopw [35,3](fun iv ev wr=>∃(k:Nat),k≤L.length∧iv=al k∧ev=.bool true∧Hid (as9 ch L k)∧Fm (fun W=>fV W (.slice (some (aD g o)) L.length c) L) w none wr [(gN,32,iY ⟨ch,key,oF,fr,⟨some (aD g o),L.length,c⟩⟩)] [] [fun W=>fV W (.slice (some (aD g o)) L.length c) L])(fun iv _ _=>L.length-(intOf iv).toNat);case atStart=>exact⟨0,aI _,rfl,rfl,ag (fun i hi h0=>ab),hM⟩
  case round=>
   obtain⟨k,hk,rfl,rfl,HS,hM⟩:=hrel;by_cases h1:k<L.length;have i1:(k:Int)<(L.length:Int):=ab;have i3:(0:Int)≤(k:Int):=ab;replace hM:=hM.eW ((hM.st aX).mono fun W h=>fV.at_ h h1);obtain⟨x,hx⟩:=aZ (L[k]);rw[hx]at hM;have HX:=ag hx;clear hx;rcases hck:lH (mW ch x)with _|_;have hc:∀w,dM 257 #[.agg (il (mW ch x))] w (.bool false):=fun w=>RT;go_wp2_with(first|(refine aP ?_)|(refine bx ?_;intro wN hM)|(refine bw ?_;intro gN wN hM));refine Db ?_;intro hM;refine rC ?_;refine xn ?_;intro wN hM;refine aN ?_;refine cB hM (hc _) fun wN hM=>?_;refine ll ?_;rw[bX];go_ret;have hAf:A=false:=by rw[←HA.o];exact ab0 h1 Jj
   exact⟨by rw[hAf];simp,hM.below⟩;have hc:∀w,dM 257 #[.agg (il (mW ch x))] w (.bool true):=fun w=>RT;by_cases h0:k=0;subst h0;go_wp2_with(first|(refine aP ?_)|(refine bx ?_;intro wN hM)|(refine bw ?_;intro gN wN hM));refine Db ?_;intro hM;refine rC ?_;refine xn ?_;intro wN hM;refine aN ?_;refine cB hM (hc _) fun wN hM=>?_;refine ll ?_;exact⟨⟨1,ab,rfl,rfl,ag (fun i hi h2=>by
    have e:i=0:=by omega
    subst e;exact⟨Jj,fun h3=>absurd h3 ah⟩),hM.sub⟩,bC⟩
   have h2:k-1<L.length:=ab;replace hM:=hM.eW ((hM.st eQ).mono fun W h=>fV.at_ h h2);obtain⟨y,hy⟩:=aZ (L[k-1]);rw[hy]at hM;have HY:=ag hy;clear hy;have e1:((k:Int)==0)=false:=nr;have i4:(0:Int)≤(k:Int)-1:=ab;have i5:(k:Int)-1<(L.length:Int):=ab;have e3:((k:Int)-1).toNat=k-1:=ab;have i6:¬(k:Int)<1:=ab;have i7:(1:Int)≤(k:Int):=ab;have hwk:IntKind.i64.wrap ((k:Int)-1)=(k:Int)-1:=cE;rcases YR:jV y x with _|_;have hf:∀w,dM 259 #[.agg (iB y),.agg (iB x)] w (.bool false):=fun w=>RS;go_wp2_with(first|(refine aP ?_)|(refine bx ?_;intro wN hM)|(refine bw ?_;intro gN wN hM));refine Db ?_;intro hM;refine rC ?_;refine xn ?_;intro wN hM;refine aN ?_;refine cB hM (hc _) fun wN hM=>?_;refine aN ?_;refine cB hM (hf _) fun wN hM=>?_;refine ll ?_;rw[bX];go_ret;have hAf:A=false:=by rw[←HA.o];exact YS h1 ab (by rw[HX.o,HY.o];exact YR)
   exact⟨by rw[hAf];simp,hM.below⟩;have hf:∀w,dM 259 #[.agg (iB y),.agg (iB x)] w (.bool true):=fun w=>RS;go_wp2_with(first|(refine aP ?_)|(refine bx ?_;intro wN hM)|(refine bw ?_;intro gN wN hM));refine Db ?_;intro hM;refine rC ?_;refine xn ?_;intro wN hM;refine aN ?_;refine cB hM (hc _) fun wN hM=>?_;refine aN ?_;refine cB hM (hf _) fun wN hM=>?_;refine ll ?_;exact⟨⟨k+1,ab,ae,rfl,ag (fun i hi h4=>by
    rcases dF i k with h5|h5;exact HS.o i hi h5;have e:i=k:=by omega
    subst e;exact⟨Jj,fun _=>by rw[HX.o,HY.o];exact YR⟩),hM.sub⟩,bC⟩
   have e1:k=L.length:=ab;subst e1;have i1:¬(L.length:Int)<(L.length:Int):=ab;have hAt:A=true:=by rw[←HA.o];exact YT HS.o
   go_wp2_with fail;go_ret;exact⟨by rw[hAt];simp[hlen];omega,hM.below⟩
 ·go_enter func226,ntmps226;go_wp2_with((refine bw ?_;intro gN wN hM));go_step3;go_wp2_with(first|go_skip|(refine xT ?_ ?_;intro eF;(try rw[eF]);rotate_left;intro eF;(try rw[eF]);rotate_left)|(refine aP ?_));all_goals first|(rw[bX];go_ret;refine io ?_;simp_all;skip)|(exfalso;simp_all<;>omega)
def akT s w:(Instr.field 49 (.agg (iB s)) 1).run prog w=.ok (al s.time) w:=by obtain⟨h,t,r,hr⟩:=s;exact ad
def QK C L now w(hv:fV w (aF C.bh) L)(hl:L.length≤1000000)(h1:0≤C.period∧C.period≤1099511627776)(h2:0≤(nS L).time∧(nS L).time≤1099511627776):dM 306 #[.agg (iY C),al now] w (.bool (!C.frozen&&decide (now<(nS L).time+C.period))):=by have hM:=Fm.start w (fun W=>fV W (aF C.bh) L) (fun W hb=>hv.step hb);rcases hf:C.frozen with _|_;have hft:=fun w=>akT (nS L) w;have hwr:IntKind.i64.wrap ((nS L).time+C.period)=(nS L).time+C.period:=cE;go_enter func306,ntmps306;go_wp2_with((refine bw ?_;intro gN wN hM));refine rB [] [0,1,2,3,4,5,8,9,6,7,10,11,12,13] ?_;intro hM;refine rC ?_;refine cB hM (IP _ _ _ dp ab) fun wN hM=>?_;refine ll ?_;go_ret;exact⟨ae,hM.below⟩;go_enter func306,ntmps306;go_wp2_with((refine bw ?_;intro gN wN hM));refine rB [] [0,1,2,3,4,5,6,7,8,9,10,11,12,13] ?_;intro hM;go_wp2_with fail;go_ret;exact⟨ae,hM.below⟩
end
section
def Eu(key:Bs)(oF:Int)(h:qh):qi:=⟨h.chain,key,oF,false,[mz h]⟩
def nH(key:Bs)(oF:Int)(h:qh):qi×Int:=if jt (Eu key oF h)=true then(Eu key oF h,0)else(zm,1)
def auK {W g s}(h:aM W g 49 (iB s)):fV W (.slice (some (aD g 0)) 1 1) [s]:=di.iz (B:=0) (e:=49) (n:=1) ⟨by simp[qE],.inr ⟨g,1,_,rfl,aI _,h,au _,ah,by rw[Gs],by simp[sC];rw[aL (by rw[gJ,Gs];decide)]⟩⟩ rfl
def aeC {key oF h}(h1:jt ⟨h.chain,key,oF,false,[mz h]⟩=false):nH key oF h=(zm,1):=by unfold nH Eu;rw[if_neg (by rw[h1];exact Bool.noConfusion)]
def Nq {key oF h}(h1:jt ⟨h.chain,key,oF,false,[mz h]⟩=true):nH key oF h=(Eu key oF h,0):=if_pos h1
theorem an3(key:Bs)oF h w(hk:key.length≤1000000)(hc:h.chain.length≤1000000):Calls prog 273 #[str key,al oF,.agg (il h)] w fun e w'=>∃q,e=.returned (.tuple #[.agg (iY (oR (nH key oF h).1 q)),al (nH key oF h).2])∧dz w w' (fun _=>True) (fun W=>fV W (aF q) (nH key oF h).1.bh)∧Below w.heap.size w w':=by
 have hM:=Fm.bZ w;go_enter func273,ntmps273;go_wp2_with((refine bw ?_;intro gN wN hM));refine rB [9] [0,1,2,3,4,999] ?_;intro hM;intro hS;refine fv 5 8 ad rfl rfl (fun K hK=>?_) (fun K hK=>?_);rotate_left 1;focus refine zP [5,6,7,9] ?_;intro gN wN hM;refine rC ?_;refine cB hM (Gr _ _) fun wN hM=>?_;refine rK ?_;refine rN ?_;intro gN wN hM;refine rS ?_;intro wN hM
 rotate_left 1;focus
  go_simp;refine cB hM (Gr _ _) fun wN hM=>?_;refine hK.out _ _ hM.sub (fun hS=>?_);refine rG [999] ?_;intro hS;refine fv 6 8 ad rfl rfl (fun K hK=>?_) (fun K hK=>?_);rotate_left 1;focus refine zP [6,7,9] ?_;intro gN wN hM;refine rN ?_;intro gN wN hM;refine rS ?_;intro wN hM
  rotate_left 1;focus rw[if_pos aq];(refine Mi hM ?_;intro gN wN hM);refine hK.out _ _ hM.sub (fun hS=>?_);refine rG [7,8,9] ?_;refine rN ?_;intro gN wN hM;refine rS ?_;intro wN hM
 all_goals
  first|replace hM:=hM.oP (t:=49) 0 rfl|replace hM:=hM.oP (t:=49) 1 rfl
  simp only[aQ,dh]at hM;replace hM:=hM.eW ((hM.st aX).mono fun W h=>auK h);go_wp2_with(first|(refine aP ?_)|(refine bx ?_;intro wN hM)|(go_at_call 226;refine yj hM (aa0 ⟨h.chain,key,oF,false,⟨some (aD _ 0),1,1⟩⟩ _ _ (hM.get aX) ae) fun wN bN hb hM=>?_;cases bN));all_goals refine bu (frr hM) rfl ?_
 all_goals first|(rw[aeC aj];exact nt)|(rw[Nq aj];exact⟨⟨some (aD _ 0),1,1⟩,rfl,(hM.Ig aX).mono (fun _ _=>trivial) (fun W h=>h),hM.below⟩)
def AX(L:List jL)(h:Int):Nat:=L.findIdx fun s=>decide (h≤s.ay)
def UU(L:List jL)(h:Int):Bool:=match L[AX L h]? with|some s=>s.ay==h|none=>false
def an4 s h g w(hc:w.cell? (aD g 0)=some (al h)):dM 361 #[.agg (iB s),aG g] w (.bool (decide (h≤s.ay))):=by have hM:=Fm.start w _ (fun W hb=>fH hc hb);go_enter func361,ntmps361;go_wp2_with(first|(refine aP ?_)|(refine bw ?_;intro gN wN hM));go_ret;exact aK
attribute[local go_sem]aF in theorem Vp L h(q:Sl)g w(hc:w.cell? ⟨g,0,none⟩=some (.int .i64 h))(hv:fV w (.slice q.p q.n q.c) L)(hl:L.length≤1000000):Calls prog 360 #[.slice q.p q.n q.c,.func (.func 361) #[] #[.pointer (some ⟨g,0,none⟩)]] w fun e w'=>e=.returned (.int .i64 (if AX L h<L.length then(AX L h:Int)else-1))∧Below w.heap.size w w':=by
 obtain⟨p,n,c⟩:=q;have hn:=hv.nn;simp only[]at hn;subst hn;have hM:=Fm.pH w (fun W hb=>hv.step hb) (fun W hb=>fH hc hb);obtain⟨i,hi⟩:=aZ (AX L h);rw[hi];have HI:=ag hi;obtain⟨r,hr⟩:=aZ ((if i<L.length then(i:Int)else-1));rw[hr];have HR:=ag hr;clear hi hv hc hr;go_enter func360,ntmps360;go_wp2_with fail;go_loopw [8](fun iv wr=>∃(k:Nat),k≤L.length∧iv=.int .i64 k∧Hid (∀(j:Nat)(hj:j<L.length),j<k→L[j].ay<h)∧Fm (fun W=>fV W (.slice p L.length c) L∧W.cell? ⟨g,0,none⟩=some (.int .i64 h)) w none wr [] [] [fun W=>fV W (.slice p L.length c) L,fun W=>W.cell? ⟨g,0,none⟩=some (.int .i64 h)])(fun iv _=>L.length-(intOf iv).toNat);case atStart=>exact⟨0,aI _,rfl,ag (fun j hj h0=>by omega),hM⟩
 case round=>
  obtain⟨k,hk,rfl,HN,hM⟩:=hrel;by_cases h1:k<L.length
  ·have i1:(k:Int)<(L.length:Int):=by omega
   have i3:(0:Int)≤(k:Int):=by omega
   obtain⟨g',o,hp⟩:=(hM.get aX).some_ (by omega);subst hp;replace hM:=hM.eW ((hM.st aX).mono fun W h=>fV.at_ h h1);obtain⟨x,hx⟩:=aZ (L[k]);rw[hx]at hM;have HX:=ag hx;clear hx;go_wp2_with(first|(refine aP ?_)|(go_at_call 361;refine yj hM (an4 _ _ _ _ (hM.get fw)) ?_;clear hM;intro wN bN hb hM;cases bN))
   ·exact⟨⟨k+1,by omega,by simp,ag (fun j hj h4=>by
     rcases dF j k with h5|h5;·exact HN.out j hj h5
     ·have e:j=k:=by omega
      subst e;rw[HX.out];have h6:decide (h≤x.ay)=false:=by assumption
      rw[gZ]at h6;omega),hM.sub⟩,by simp[intOf];omega⟩
   ·go_ret;have hik:i=k:=by rw[←HI.out];unfold AX;rw[List.findIdx_eq h1];refine⟨by rw[HX.out];assumption,fun j hj=>?_⟩;have:=HN.out j (by omega) hj;simpa using this
    exact⟨by rw[←HR.out,hik,if_pos h1];rfl,hM.below⟩
  ·have e1:k=L.length:=by omega
   subst e1;have i1:¬(L.length:Int)<(L.length:Int):=by omega
   go_wp2_with fail;go_ret;have hik:i=L.length:=by rw[←HI.out];unfold AX;rw[List.findIdx_eq_length];intro x hx;obtain⟨j,hj,rfl⟩:=iW.1 hx;have:=HN.out j hj hj;simpa using this
   exact⟨by rw[←HR.out,hik,if_neg (by omega)];rfl,hM.below⟩
theorem Wc L h:AX L h≤L.length:=List.findIdx_le_length
attribute[local go_sem]aF in theorem agk C L h w(hv:fV w (aF C.bh) L)(hl:L.length≤1000000):dM 339 #[.agg (iY C),al h] w (.tuple #[al (AX L h),.bool (UU L h)]):=by
 obtain⟨ch,key,oF,fr,⟨p,n,c⟩⟩:=C;have hn:=hv.nn;simp only[]at hn;subst hn;have hM:=Fm.start w (fun W=>fV W (.slice p L.length c) L) (fun W hb=>hv.step hb);have hle:=Wc L h;have HIX:=ag (fun g w hc hv=>Vp L h ⟨p,L.length,c⟩ g w hc hv hl);obtain⟨i,hi⟩:=aZ (AX L h);rw[hi]at hle HIX⊢;by_cases h1:i<L.length
 ·obtain⟨x,hx⟩:=aZ (L[i]);have hB:UU L h=(x.ay==h):=by unfold UU;rw[hi,aW h1,hx]
  rw[hB];obtain⟨g',o,rfl⟩:=hv.some_ ab;have i1:(i:Int)<(L.length:Int):=ab;have i3:(0:Int)≤(i:Int):=ab;have i4:¬(i:Int)<0:=ab;replace hM:=hM.eW ((hM.st aX).mono fun W h=>(fV.at_ h h1 0 (al L[i].ay) rfl:W.cell? (aD g' (o+i*34))=some (al L[i].ay)));rw[hx]at hM;simp only[if_pos h1]at HIX;clear hB hx hi hv hle;go_enter func339,ntmps339;go_wp2_with(first|(refine aP ?_)|(refine bw ?_;intro gN wN hM)|(go_at_call 360;refine cB hM (HIX.o _ _ ((hM.mem.at_ aX).cell 0) (hM.get eQ)) fun wN hM=>?_));refine rB [] [0,1,2,3,4,5,6,7,8,9,10] ?_;intro hM;go_wp2_with fail;refine bu (ze rfl _ _ _) rfl ?_;exact aK
 ·have hB:UU L h=false:=by unfold UU;rw[hi,cU ab]
  rw[hB];have hil:i=L.length:=ab;subst hil;simp only[if_neg h1]at HIX;clear hB hi hv hle;go_enter func339,ntmps339;go_wp2_with(first|(refine aP ?_)|(refine bw ?_;intro gN wN hM)|(go_at_call 360;refine cB hM (HIX.o _ _ ((hM.mem.at_ aX).cell 0) (hM.get aX)) fun wN hM=>?_));refine bu (ze rfl _ _ _) rfl ?_;exact aK
def AR(L:List jL)(h:Int):jL×Bool:=if UU L h=true then(L[AX L h]?.getD lI,true)else(lI,false)
attribute[local go_sem]aF in theorem ahx C L h w(hv:fV w (aF C.bh) L)(hl:L.length≤1000000):dM 352 #[.agg (iY C),al h] w (.tuple #[.agg (iB (AR L h).1),.bool (AR L h).2]):=by
 have qK:=ag (fun w hv=>agk C L h w hv hl);obtain⟨ch,key,oF,fr,⟨p,n,c⟩⟩:=C;have hn:=hv.nn;simp only[]at hn;subst hn;have hM:=Fm.start w (fun W=>fV W (.slice p L.length c) L) (fun W hb=>hv.step hb);rcases hb:UU L h with _|_
 ·have hf:AR L h=(lI,false):=by unfold AR;rw[hb];rfl
  rw[hf];rw[hb]at qK;clear hb hf hv;go_enter func352,ntmps352;go_wp2_with(first|(refine aP ?_)|(refine bx ?_;intro wN hM)|(refine bw ?_;intro gN wN hM)|(go_at_call 339;refine cB hM (qK.o _ (hM.get aX)) fun wN hM=>?_));refine bu (frr hM) rfl ?_;exact aK
 ·have h1:AX L h<L.length:=by
   rcases dF (AX L h) L.length with h2|h2;·exact h2
   ·unfold UU at hb;rw[cU h2]at hb;cases hb
  obtain⟨i,hi⟩:=aZ (AX L h);rw[hi]at h1;obtain⟨x,hx⟩:=aZ (L[i]);have hf:AR L h=(x,true):=by unfold AR;rw[hb,hi,aW h1,hx];rfl
  rw[hf];rw[hb,hi]at qK;obtain⟨g',o,rfl⟩:=hv.some_ ab;have i1:(i:Int)<(L.length:Int):=ab;have i3:(0:Int)≤(i:Int):=ab;replace hM:=hM.eW ((hM.st aX).mono fun W h=>fV.at_ h h1);rw[hx]at hM;clear hb hf hv hx hi;go_enter func352,ntmps352;go_wp2_with(first|(refine aP ?_)|(refine bx ?_;intro wN hM)|(refine bw ?_;intro gN wN hM)|(go_at_call 339;refine cB hM (qK.o _ (hM.get eQ)) fun wN hM=>?_));refine bu (frr hM) rfl ?_;exact aK
end
end Go.Proofs.YtlddafbgfkocjaaGreatDoor
