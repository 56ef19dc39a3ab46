/- A part of TopHonest. -/
import Derived.BigQuiet
import Derived.Deep.QuietTactic
import Derived.Deep.RegionHeld3
import Derived.Test.YtlddafbgfkocjaaGreatDoorT02
import Derived.Test.YtlddafbgfkocjaaGreatDoorT05
namespace Go.Proofs.YtlddafbgfkocjaaGreatDoor
open Go.RowKit Go.Proofs.Tryz
set_option linter.all false
set_option maxRecDepth 1000000
set_option maxHeartbeats 400000000
def Ip(w:World)(g:Nat)(r:Rd):Prop:=aM w g 118 #[str r.1,.bool r.2]
def BU {w g s b}(h:Ip w g (s,b)):w.cell? (aD g 0)=some (str s)∧w.cell? (aD g 1)=some (.bool b)∧w.frozen? (aD g 0)=false∧w.frozen? (aD g 1)=false:=⟨aM.cell h 0,aM.cell h 1,aM.frozen h 0,aM.frozen h 1⟩
def abC {w g r}(h:Ip w g r)n:Ip (w.drewN n) g r:=h
def XB(w:World)n row:w.grownBy (w.drewN n) row:=⟨rfl,rfl,rfl,au _,fun _ _ _=>rfl⟩
def acJ c aU s b(h:s.length<4):bq c aU (s,b)=([],s,true):=by
 unfold bq;split;·rename_i h0;injection h0 with h1 h2;subst h1;simp only[bG]at h;omega
 ·rename_i h0;injection h0 with h1 h2;subst h1;rfl
def acI c aU a x y z s(h:¬(a.toNat:Int)=c):bq c aU (a::x::y::z::s,false)=([],a::x::y::z::s,true):=by unfold bq;simp only[];rw[if_neg (fun k=>h k.1)]
def afz c aU s:bq c aU (s,true)=([],s,true):=by
 unfold bq;split;·rename_i h;injection h with h1 h2;cases h2
 ·rename_i h;injection h with h1 h2;subst h1;rfl
theorem EF s b c aU g w(h:Ip w g (s,b))(c0:0≤c)(c1:c≤255)(hs:s.length≤140737488351232)(hm:aU≤9223372036854775807)t s' b'(hr:bq c aU (s,b)=(t,s',b')):Calls prog 49 #[aG g,.int .u8 c,al aU] w fun e w'=>e=.returned (str t)∧Ip w' g (s',b')∧w.grownBy w' (some g):=by
 have H:=ag h;obtain⟨d0,d1,f0,f1⟩:=BU h;have eo:=aM.lt h;clear h;cases b
 ·by_cases h4:s.length<4;·rw[acJ c aU s false h4]at hr;simp only[aY]at hr;obtain⟨rfl,rfl,rfl⟩:=hr;exact JX
  ·obtain⟨a,x,y,z,r,rfl⟩:∃a x y z r,s=a::x::y::z::r:=by match s,h4 with|a::x::y::z::r,_=>exact⟨a,x,y,z,r,rfl⟩|[],h=>simp at h|[_],h=>simp at h|[_,_],h=>simp at h|[_,_,_],h=>simp at h
   clear h4;have hx:(x.toNat:Int)<256:=by have:=x.toNat_lt;omega
   have hy:(y.toNat:Int)<256:=by have:=y.toNat_lt;omega
   have hz:(z.toNat:Int)<256:=by have:=z.toNat_lt;omega
   simp only[bG]at hs;by_cases hac:(a.toNat:Int)=c
   ·by_cases it:n3 x y z≤aU∧n3 x y z≤r.length;·have hN:(n3 x y z).toNat=x.toNat*65536+y.toNat*256+z.toNat:=Dx;have hn3:n3 x y z=x.toNat*65536+y.toNat*256+z.toNat:=Dx;have aug:=it.1;have ad3:=it.2;rw[hn3]at aug ad3;unfold bq at hr;simp only[]at hr;rw[if_pos ⟨hac,it⟩,hN]at hr;simp only[aY]at hr;obtain⟨rfl,rfl,rfl⟩:=hr;clear it hN hn3;subst hac;go_enter func49,ntmps49;go_wp2;go_quiet(fail);go_wp2;go_ret;simp only[Xy,abA];exact⟨rfl,aM.dq (abC H.o _) 0 _,jq (XB w _ _) (ja _ g 0 _)⟩
    ·have hn3:n3 x y z=x.toNat*65536+y.toNat*256+z.toNat:=Dx;have FA:aU<x.toNat*65536+y.toNat*256+z.toNat∨((x.toNat:Int)*65536+y.toNat*256+z.toNat≤aU∧(r.length:Int)<x.toNat*65536+y.toNat*256+z.toNat):=ab;unfold bq at hr;simp only[]at hr;rw[if_neg (fun k=>it k.2)]at hr;simp only[aY]at hr;obtain⟨rfl,rfl,rfl⟩:=hr;clear it hn3;subst hac;rcases FA with h1|⟨h1,h2⟩;all_goals go_enter func49,ntmps49;go_wp2;go_quiet(fail);go_wp2;go_ret;exact⟨rfl,aM.dq (abC H.o _) 1 _,jq (XB w _ _) (ja _ g 1 _)⟩
   ·rw[acI c aU a x y z r hac]at hr;simp only[aY]at hr;obtain⟨rfl,rfl,rfl⟩:=hr;have ayv:((a.toNat:Int)!=c)=true:=by simpa using hac
    exact JX
 ·rw[afz]at hr;simp only[aY]at hr;obtain⟨rfl,rfl,rfl⟩:=hr;exact JX
theorem Oq {c aU r t s'}(h:bq c aU r=(t,s',true)):t=[]:=Da
def aiS {c r n s'}(h:Bl c r=(n,s',true)):n=0:=by grind[Bl,Oq]
def agO {b t}(hl:(b::t).length≤8):(lw (val (b::t))=b::t)↔b≠0:=by constructor;intro h;exact Xo (bi (xO (b::t).length _ rfl) (dQ ae hl)) h;grind[aml]
def At s b c g w(h:Ip w g (s,b))(c0:0≤c)(c1:c≤255)(hs:s.length≤140737488351232)n s' b'(hr:Bl c (s,b)=(n,s',b')):Calls prog 86 #[.pointer (some ⟨g,0,none⟩),.int .u8 c] w fun e w'=>e=.returned (.int .u64 n)∧Ip w' g (s',b')∧w.grownBy w' (some g):=by
 obtain⟨⟨t,s1,b1⟩,ht⟩:∃q,bq c 8 (s,b)=q:=⟨_,rfl⟩;have hl:=fT ht ae;have Ht:=ag ht;have H:=ag h;rw[Bl,ht]at hr;have Hr:=ag hr;clear ht hr h;go_enter func86,ntmps86;go_wp2_with fail;refine(EF s b c 8 g _ H.out c0 c1 hs ae t s1 b1 Ht.out).mono ?_;rintro e w1⟨rfl,tB,AM⟩;have Hr1:=ag tB;clear tB;go_wp2_with fail;go_loop [6,7](fun a i=>∃k:Nat,k≤t.length∧i=.int .i64 k∧a=.int .u64 (val (t.take k):Nat))(fun _ i=>t.length-(intOf i).toNat);case atStart=>exact⟨0,aI _,rfl,rfl⟩
 case round=>
  obtain⟨k,hk,rfl,rfl⟩:=hrel;by_cases eo:k<t.length
  ·have hv:val (t.take k)<256^7:=bi (xO k _ aR) (dQ ae ab);have hvi:((val (t.take k):Nat):Int)≤72057594037927935:=ab;have If:t.take (k+1)=t.take k++[t[k]]:=ae;have ZR:=ag If;have Vh:(t[k].toNat:Int)<256:=Tf;clear hv If;go_wp2;go_round;case rel=>exact⟨k+1,ab,aq,by rw[ZR.out,xN];rfl⟩
   case measure=>exact bC
  ·obtain rfl:k=t.length:=ab;rw[ci];have hv8:val t<256^8:=bi (xO t.length _ rfl) (dQ ae ab);have Hv8:=ag hv8;clear hv8;obtain⟨d0,d1,f0,f1⟩:=BU Hr1.out;cases t with|nil=>have hr:=Hr.out;simp only[aY]at hr;obtain⟨rfl,rfl,rfl⟩:=hr;clear d0 d1 f0 f1;go_wp2_with fail;refine(xY 0 _ ae).mono ?_;rw[show lw 0=[]from wU 8];exact Tn|cons x t=>
    by_cases hx:x=0
    ·have hr:=Hr.out;simp only[]at hr;rw[if_pos hx]at hr;simp only[aY]at hr;obtain⟨rfl,rfl,rfl⟩:=hr;have gQ:(lw (val (x::t))!=x::t)=true:=by rw[bne_iff_ne];exact fun h=>(agO ab).1 h hx
     obtain⟨D,hD⟩:=aZ (lw (val (x::t)));rw[hD]at gQ;have anz:(D==x::t)=false:=Dl;have HD:=ag hD;clear hD hx d0 d1 f0 f1;go_wp2_with fail;refine(xY _ _ Hv8.out).mono ?_;rw[HD.out];rintro e w2⟨rfl,ft⟩;have PO:=ag (aM.step Hr1.out ft);have AL:=jq AM (pR ft (some g));obtain⟨d0,d1,f0,f1⟩:=BU PO.out;clear ft;go_wp2;go_ret;exact⟨rfl,aM.dq PO.out 1 _,jq AL (ja _ g 1 _)⟩
    ·have hr:=Hr.out;simp only[]at hr;rw[if_neg hx]at hr;simp only[aY]at hr;obtain⟨rfl,rfl,rfl⟩:=hr;have HD:=ag ((agO (b:=x) (t:=t) ab).2 hx);clear hx d0 d1 f0 f1;go_wp2_with fail;refine(xY _ _ Hv8.out).mono ?_;rw[HD.out];exact Tn
def Rz s b g w(h:Ip w g (s,b)):Calls prog 54 #[aG g] w fun e w'=>e=.returned (al (mV (s,b)))∧w=w':=by
 have H:=ag h;obtain⟨c0,c1,f0,f1⟩:=BU h;clear h;cases b;·cases s;all_goals go_enter func54,ntmps54;go_wp2;go_ret;simp[mV]
 go_enter func54,ntmps54;go_wp2;go_ret;simp[mV]
def Us s b c aU g w(h:Ip w g (s,b))(c0:0≤c)(c1:c≤255)(hs:s.length≤140737488351232)(hm:aU≤9223372036854775807)n s' b'(hr:ei c aU (s,b)=(n,s',b')):Calls prog 48 #[aG g,.int .u8 c,al aU] w fun e w'=>e=.returned (al n)∧Ip w' g (s',b')∧w.grownBy w' (some g):=by
 obtain⟨⟨m,s1,b1⟩,ht⟩:∃q,Bl c (s,b)=q:=⟨_,rfl⟩;have hl:=agN ht;have hl':(m:Int)≤18446744073709551615:=ab;have Ht:=ag ht;have H:=ag h;rw[ei,ht]at hr;simp only[]at hr;clear ht h hl;by_cases h1:aU<0∨aU<(m:Int)
 ·rw[if_pos h1]at hr;simp only[aY]at hr;obtain⟨rfl,rfl,rfl⟩:=hr;by_cases h2:aU<0;all_goals have h3:aU<0∨0≤aU:=ab;have h4:aU<0∨aU<(m:Int):=h1;clear h1;go_enter func48,ntmps48
  clear h3 h4;exact Tp;have h5:0≤aU:=ab;have h6:aU<(m:Int):=ab;clear h2 h3 h4;exact Tp
 rw[if_neg h1]at hr;simp only[aY]at hr;obtain⟨rfl,rfl,rfl⟩:=hr;have h0:0≤aU:=ab;have h2:(m:Int)≤aU:=ab;clear h1;cases b1;go_enter func48,ntmps48;go_wp2_with fail;refine(At s b c g _ H.o c0 c1 hs m s1 false Ht.o).mono ?_;exact To;obtain rfl:m=0:=aiS Ht.o;go_enter func48,ntmps48;go_wp2_with fail;refine(At s b c g _ H.o c0 c1 hs 0 s1 true Ht.o).mono ?_;exact To
def jT(e:En):Bz:=dN 115 e.1.toNat++(bA 111 e.2.1++(bA 113 e.2.2.1++bA 112 e.2.2.2))
def aqf {W w w' g x y z v}(hb:Below w.heap.size w w')(h:w.cell? (aD g 0)=some x∧w.cell? (aD g 1)=some y∧w.cell? (aD g 2)=some z∧w.cell? (aD g 3)=some v∧Hid (Below W.heap.size W w)):w'.cell? (aD g 0)=some x∧w'.cell? (aD g 1)=some y∧w'.cell? (aD g 2)=some z∧w'.cell? (aD g 3)=some v∧Hid (Below W.heap.size W w'):=by obtain⟨h0,h1,h2,h3,h4⟩:=h;have eo:=ia w _ h0;exact⟨(hb.cell (p:=(aD g 0)) eo).trans h0,(hb.cell (p:=(aD g 1)) eo).trans h1,(hb.cell (p:=(aD g 2)) eo).trans h2,(hb.cell (p:=(aD g 3)) eo).trans h3,ag (bP h4.o hb)⟩
def aiC n a b c X w(hX:jT (n,a,b,c)=X)(hn:n≤9223372036854775807)(fa:a.length≤16777215)(fb:b.length≤16777215)(fc:c.length≤16777215):dM 309 #[.agg #[al n,str a,str b,str c]] w (str X):=by have Nw:=dW 115 n.toNat;have ML:=cw 111 a;have Xe:=cw 113 b;have hl4:=cw 112 c;unfold jT at hX;obtain⟨P1,h1⟩:=aZ (dN 115 n.toNat);obtain⟨P2,h2⟩:=aZ (bA 111 a);obtain⟨P3,h3⟩:=aZ (bA 113 b);obtain⟨P4,h4⟩:=aZ (bA 112 c);rw[h1]at Nw hX;rw[h2]at ML hX;rw[h3]at Xe hX;rw[h4]at hl4 hX;have q1:¬9223372036854775807<P1.length+P2.length:=ab;have q2:¬9223372036854775807<P1.length+P2.length+P3.length:=ab;have q2':¬9223372036854775807<P1.length+(P2.length+P3.length):=ab;have q3:¬9223372036854775807<P1.length+(P2.length+P3.length)+P4.length:=ab;have H1:=ag h1;have H2:=ag h2;have H3:=ag h3;have H4:=ag h4;have HX:=ag hX;clear h1 h2 h3 h4 hX Nw ML Xe hl4;go_enter func309,ntmps309;go_wp2_with fail;have F0:=aM.new w 310 #[al n,str a,str b,str c];have hb0:=(aJ w.heap.size w).alloc (au _) (.cells #[al n,str a,str b,str c] 310);obtain⟨d0,d1,d2,d3,-⟩:=iF F0;clear F0;generalize w.alloc (.cells #[al n,str a,str b,str c] 310)=w1 at*;go_region_held3(fun w'=>w'.cell? (aD w.heap.size 0)=some (al n)∧w'.cell? (aD w.heap.size 1)=some (str a)∧w'.cell? (aD w.heap.size 2)=some (str b)∧w'.cell? (aD w.heap.size 3)=some (str c)∧Hid (Below w.heap.size w w'))(first|exact aqf pF ‹_›|exact aqf tl ‹_›|exact⟨d0,d1,d2,d3,ag hb0.drew⟩)(first|(go_at_call 94;refine(jc 115 n _ ae ae hn).mono ?_;rw[H1.o];rintro e w4⟨rfl,pF⟩)|(go_at_call_of 93(str a);refine(dP 111 a _ ae ae fa).mono ?_;rw[H2.o];rintro e w5⟨rfl,tl⟩)|(go_at_call_of 93(str b);refine(dP 113 b _ ae ae fb).mono ?_;rw[H3.o];rintro e w5⟨rfl,tl⟩)|(go_at_call_of 93(str c);refine(dP 112 c _ ae ae fc).mono ?_;rw[H4.o];rintro e w5⟨rfl,tl⟩));all_goals obtain⟨-,-,-,-,hR⟩:=‹_∧_∧_∧_∧Hid (Below _ _ _)›;go_wp2;go_ret;exact⟨by rw[←HX.o];rfl,hR.o⟩
def sS (s : Bz) : En × Int :=
  let q1 := ei 115 4 (s, false)
  let q2 := bq 111 32 q1.2
  let q3 := bq 113 32 q2.2
  let q4 := bq 112 32 q3.2
  if mV q4.2 = 0 ∧ tv (q1.1, q2.1, q3.1, q4.1) = true then ((q1.1, q2.1, q3.1, q4.1), 0) else (vR, 10)
def al7 r:mV r=0∨mV r=10:=by unfold mV;split<;>simp
def uu {w g g' t t' cs cs'}(h:aM w g t cs)(h':aM w g' t' cs')(ht:t≠t'):g≠g':=SQ
def Zu s x a b c er w(hr:sS s=((x,a,b,c),er))(hs:s.length≤140737488351232):Calls prog 299 #[str s] w fun e w'=>e=.returned (.tuple #[.agg #[.int .i64 x,str a,str b,str c],.int .i64 er])∧Below w.heap.size w w':=by
 obtain⟨⟨n,s1,b1⟩,h1⟩:∃q,ei 115 4 (s,false)=q:=⟨_,rfl⟩;obtain⟨⟨o,s2,b2⟩,h2⟩:∃q,bq 111 32 (s1,b1)=q:=⟨_,rfl⟩;obtain⟨⟨q,s3,b3⟩,h3⟩:∃q,bq 113 32 (s2,b2)=q:=⟨_,rfl⟩;obtain⟨⟨p,s4,b4⟩,h4⟩:∃q,bq 112 32 (s3,b3)=q:=⟨_,rfl⟩;have GJ:sS s=if mV (s4,b4)=0∧tv (n,o,q,p)=true then((n,o,q,p),0)else(vR,10):=by unfold sS;simp only[h1,h2,h3,h4]
 rw[GJ]at hr;clear GJ;have l1:s1.length≤s.length:=sQ h1;have l2:s2.length≤s1.length:=kF h2;have l3:s3.length≤s2.length:=kF h3;have fo:Fits o:=by unfold Fits;have:=fT h2 ah;omega
 have fq:Fits q:=by unfold Fits;have:=fT h3 ah;omega
 have fp:Fits p:=by unfold Fits;have:=fT h4 ah;omega
 have H1:=ag h1;have H2:=ag h2;have H3:=ag h3;have H4:=ag h4;clear h1 h2 h3 h4;obtain⟨v,hv⟩:=aZ (tv (n,o,q,p));obtain⟨f,hf⟩:=aZ (mV (s4,b4));have hff:=al7 (s4,b4);rw[hf]at hff;rw[hv,hf]at hr;have HV:=ag hv;have HE:=ag hf;have HR:=ag hr;clear hv hf hr;go_enter func299,ntmps299;go_wp2_with fail;refine(sF s _).mono ?_;rintro e w1⟨rfl,rfl⟩;have R1:=ag (wG s (w.alloc (.cells #[.int .i64 0,str [],str [],str []] 310)));have G1:=ag ((aM.new w 310 #[.int .i64 0,str [],str [],str []]).alloc (.cells #[str s,.bool false] 247));have eH:Below w.heap.size w ((w.alloc (.cells #[.int .i64 0,str [],str [],str []] 310)).alloc (.cells #[str s,.bool false] 247)):=((aJ _ w).alloc (au _) _).alloc ae _;generalize(w.alloc (.cells #[.int .i64 0,str [],str [],str []] 310)).alloc (.cells #[str s,.bool false] 247)=w1 at*;simp only[pz]at*;go_wp2_with fail;refine(sj s false 115 4 _ _ R1.out ah ah hs ah n s1 b1 H1.out).mono ?_;rintro e w2⟨rfl,vt,AL⟩;have R2:=ag vt;have G2:=ag (aM.grown G1.out AL ae);have ft:=eH.trans (eD AL eH.size ab);clear vt AL R1 G1 eH;go_wp2_with fail;have R3:=ag (aM.alloc R2.out (.cells #[.int .i64 n,str [],str [],str []] 310));have G3:=ag (G2.out.alloc (.cells #[.int .i64 n,str [],str [],str []] 310));have E3:=ag (aM.new w2 310 #[.int .i64 n,str [],str [],str []]);have AA:=ft.alloc ft.size (.cells #[.int .i64 n,str [],str [],str []] 310);have eo:w.heap.size+1<w2.heap.size:=aM.lt R2.out;clear R2 G2 ft;generalize w2.alloc (.cells #[.int .i64 n,str [],str [],str []] 310)=w3 at*;generalize w2.heap.size=gE at*;refine(kQ s1 b1 111 32 _ _ R3.out ah ah ab ah o s2 b2 H2.out).mono ?_;rintro e u3⟨rfl,hr,hu⟩;have R3':=ag hr;have G3':=ag (aM.grown G3.out hu ae);have E3':=ag (aM.grown E3.out hu (by simpa using uu E3.out R3.out ah));have atT:=AA.trans (eD hu AA.size ab);obtain⟨d0,d1,d2,d3,f0,f1,f2,f3⟩:=iF E3'.out;clear hr hu R3 G3 E3 AA;go_wp2_with fail;have R4:=ag (aM.kR R3'.out (p:=⟨gE,1,none⟩) (uu R3'.out E3'.out ah) (str o));have G4:=ag (aM.kR G3'.out (p:=⟨gE,1,none⟩) aR (str o));have E4:=ag (show aM (u3.setCell ⟨gE,1,none⟩ (str o)) gE 310 #[.int .i64 n,str o,str [],str []]from E3'.out.dq 1 (str o));have pF:=atT.setCell (p:=⟨gE,1,none⟩) aR (str o);clear d0 d1 d2 d3 f0 f1 f2 f3 R3' G3' E3' atT;generalize u3.setCell ⟨gE,1,none⟩ (str o)=w4 at*;refine(kQ s2 b2 113 32 _ _ R4.out ah ah ab ah q s3 b3 H3.out).mono ?_;rintro e u4⟨rfl,hr,hu⟩;have R4':=ag hr;have G4':=ag (aM.grown G4.out hu ae);have E4':=ag (aM.grown E4.out hu (by simpa using uu E4.out R4.out ah));have atS:=pF.trans (eD hu pF.size ab);obtain⟨d0,d1,d2,d3,f0,f1,f2,f3⟩:=iF E4'.out;clear hr hu R4 G4 E4 pF;go_wp2_with fail;have R5:=ag (aM.kR R4'.out (p:=⟨gE,2,none⟩) (uu R4'.out E4'.out ah) (str q));have G5:=ag (aM.kR G4'.out (p:=⟨gE,2,none⟩) aR (str q));have E5:=ag (show aM (u4.setCell ⟨gE,2,none⟩ (str q)) gE 310 #[.int .i64 n,str o,str q,str []]from E4'.out.dq 2 (str q));have tl:=atS.setCell (p:=⟨gE,2,none⟩) aR (str q);clear d0 d1 d2 d3 f0 f1 f2 f3 R4' G4' E4' atS;generalize u4.setCell ⟨gE,2,none⟩ (str q)=w5 at*;refine(kQ s3 b3 112 32 _ _ R5.out ah ah ab ah p s4 b4 H4.out).mono ?_;rintro e u5⟨rfl,hr,hu⟩;have R5':=ag hr;have G5':=ag (aM.grown G5.out hu ae);have E5':=ag (aM.grown E5.out hu (by simpa using uu E5.out R5.out ah));have atR:=tl.trans (eD hu tl.size ab);obtain⟨d0,d1,d2,d3,f0,f1,f2,f3⟩:=iF E5'.out;clear hr hu R5 G5 E5 tl;go_wp2_with fail;have R6:=ag (aM.kR R5'.out (p:=⟨gE,3,none⟩) (uu R5'.out E5'.out ah) (str p));have G6:=ag (aM.kR G5'.out (p:=⟨gE,3,none⟩) aR (str p));have E6:=ag (show aM (u5.setCell ⟨gE,3,none⟩ (str p)) gE 310 #[.int .i64 n,str o,str q,str p]from E5'.out.dq 3 (str p));have mR:=atR.setCell (p:=⟨gE,3,none⟩) aR (str p);clear d0 d1 d2 d3 f0 f1 f2 f3 R5' G5' E5' atR;generalize u5.setCell ⟨gE,3,none⟩ (str p)=w6 at*;obtain⟨d0,d1,d2,d3,f0,f1,f2,f3⟩:=iF E6.out;refine(Pm s4 b4 _ _ R6.out).mono ?_;rw[HE.out];rintro e wq⟨rfl,rfl⟩;have hr:=HR.out;clear HE H1 H2 H3 H4 HR;rcases hff with rfl|rfl
 ·go_wp2_with fail;refine(Xc n o q p v _ HV.out fo fq fp).mono ?_;rintro e w7⟨rfl,hb⟩;have G7:=ag (G6.out.step hb);have E7:=ag (E6.out.step hb);have hb7:=bP mR hb;clear d0 d1 d2 d3 f0 f1 f2 f3 hb G6 E6 R6 mR;cases v
  ·rw[if_neg ae]at hr;simp only[vR,aY]at hr;obtain⟨⟨rfl,rfl,rfl,rfl⟩,rfl⟩:=hr;obtain⟨e0,e1,e2,e3,g0,g1,g2,g3⟩:=iF G7.out;go_wp2;refine bu (bB rfl _ _ w.heap.size 310 #[.int .i64 0,str [],str [],str []] _ rfl ?_ underlying310 rfl Tryz.ow) rfl ⟨rfl,?_⟩;·exact(((G7.out.dq 0 _).dq 1 _).dq 2 _).dq 3 _
   ·exact(((hb7.setCell ae _).setCell ae _).setCell ae _).setCell ae _
  ·rw[if_pos ae]at hr;simp only[aY]at hr;obtain⟨⟨rfl,rfl,rfl,rfl⟩,rfl⟩:=hr;obtain⟨e0,e1,e2,e3,g0,g1,g2,g3⟩:=iF G7.out;obtain⟨d0,d1,d2,d3,-⟩:=iF E7.out;go_wp2;refine bu (bB rfl _ _ w.heap.size 310 #[.int .i64 n,str o,str q,str p] _ rfl ?_ underlying310 rfl Tryz.ow) rfl ⟨rfl,?_⟩;·exact(((G7.out.dq 0 _).dq 1 _).dq 2 _).dq 3 _
   ·exact(((hb7.setCell ae _).setCell ae _).setCell ae _).setCell ae _
 ·rw[if_neg ae]at hr;simp only[vR,aY]at hr;obtain⟨⟨rfl,rfl,rfl,rfl⟩,rfl⟩:=hr;obtain⟨e0,e1,e2,e3,g0,g1,g2,g3⟩:=iF G6.out;go_wp2;refine bu (bB rfl _ _ w.heap.size 310 #[.int .i64 0,str [],str [],str []] _ rfl ?_ underlying310 rfl Tryz.ow) rfl ⟨rfl,?_⟩;·exact(((G6.out.dq 0 _).dq 1 _).dq 2 _).dq 3 _
  ·exact(((mR.setCell ae _).setCell ae _).setCell ae _).setCell ae _
end Go.Proofs.YtlddafbgfkocjaaGreatDoor
