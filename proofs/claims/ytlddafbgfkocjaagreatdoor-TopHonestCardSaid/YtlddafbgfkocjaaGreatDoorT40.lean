/- A part of TopHonest. -/
import Derived.Test.YtlddafbgfkocjaaGreatDoorT12
import Derived.Test.YtlddafbgfkocjaaGreatDoorT25
import Derived.Test.YtlddafbgfkocjaaGreatDoorT35
namespace Go.Proofs.YtlddafbgfkocjaaGreatDoor
open Go.RowKit Go.Proofs.Tryz
set_option linter.all false
set_option maxRecDepth 1000000
set_option maxHeartbeats 400000000
instance axr(s:Bs):Bd prog 118 [(0,str s)] #[str s,.bool false]:=⟨ad⟩
def lenOf:Value→Nat|.slice _ n _=>n|_=>0
section
variable{I:MF}{fs:List MF}{w0 w w':World}{row:Option Nat}{l l2:List MB}{rs:List MR}{R:Ending→World→Prop}
def mM(hM:Fm I w0 row w l rs fs){i g:Nat}{s:Bs}{b c aU}(hi:l[i]?=some (g,118,#[str s,.bool b]):=by first|exact aX|exact eQ|exact fw|exact rx|exact Bu|exact yF|exact Ct)(hs:s.length≤1000000:=by omega)(hc:0≤c∧c≤255:=by decide)(hm:0≤aU∧aU≤20000000:=by decide)(k:∀w' t s' b',Hid (bq c aU (s,b)=(t,s',b'))→t.length≤aU.toNat→s'.length≤s.length→Fm I w0 row w' (l.set i (g,118,#[str s',.bool b'])) rs fs→R (.returned (str t)) w'):Calls prog 49 #[aG g,.int .u8 c,al aU] w R:=by obtain⟨t,s',b',hr⟩:=Oe c aU (s,b);have h1:=fT hr hm.1;have h2:=kF hr;exact(EF s b c aU g w (hM.mem.at_ hi) hc.1 hc.2 ab ab t s' b' hr).mono fun e w'⟨he,hb,hg⟩=>by subst he;exact k w' t s' b' (ag hr) ab h2 (hM.oJ i hi hb hg)
def yD(hM:Fm I w0 row w l rs fs){i g:Nat}{s:Bs}{b c aU}(hi:l[i]?=some (g,118,#[str s,.bool b]):=by first|exact aX|exact eQ|exact fw|exact rx|exact Bu|exact yF|exact Ct)(hs:s.length≤1000000:=by omega)(hc:0≤c∧c≤255:=by decide)(hm:0≤aU∧aU≤1099511627776:=by decide)(k:∀w' n s' b',Hid (ei c aU (s,b)=(n,s',b'))→0≤n→n≤aU→s'.length≤s.length→Fm I w0 row w' (l.set i (g,118,#[str s',.bool b'])) rs fs→R (.returned (al n)) w'):Calls prog 48 #[aG g,.int .u8 c,al aU] w R:=by obtain⟨n,s',b',hr⟩:=Ri c aU (s,b);have h1:=iV hr;have h2:=sQ hr;exact(Us s b c aU g w (hM.mem.at_ hi) hc.1 hc.2 ab ab n s' b' hr).mono fun e w'⟨he,hb,hg⟩=>by subst he;exact k w' n s' b' (ag hr) h1.1 ab h2 (hM.oJ i hi hb hg)
def adN(hM:Fm I w0 row w l rs fs){i g:Nat}{s:Bs}{b}(k0:∀w',Hid (mV (s,b)=0)→Fm I w0 row w' l rs fs→R (.returned (al 0)) w')(k1:∀w',Hid (mV (s,b)=10)→Fm I w0 row w' l rs fs→R (.returned (al 10)) w')(hi:l[i]?=some (g,118,#[str s,.bool b]):=by first|exact aX|exact eQ|exact fw|exact rx|exact Bu|exact yF|exact Ct):Calls prog 54 #[aG g] w R:=(Rz s b g w (hM.mem.at_ hi)).mono fun e w'⟨he,hw⟩=>SI
end
structure OX (c aU : Int) (t : Bs) (sk : Bs) (bk : Bool) (L : List Bs) (p : Option Addr) (cap : Nat) : Prop where
  MU : bk = false → mG c aU t = (mG c aU sk).map (L ++ ·)
  bad : bk = true → mG c aU t = none
  len : bk = false → 4 * L.length + sk.length ≤ t.length
  all : L.length ≤ t.length + 1
def OX.start c aU t b(hb:b=true→False):OX c aU t t b [] none 0:=⟨fun _=>by cases mG c aU t<;>simp,fun h=>(hb h).elim,fun _=>ae,ae⟩
def OX.next {c aU}{t sk x s':Bs}{b' L p p' cap eU}(h:OX c aU t sk false L p cap)(h0:sk≠[])(hr:bq c aU (sk,false)=(x,s',b')):OX c aU t s' b' (L++[x]) p' eU:=by have hl:=h.len rfl;have hlen:(L++[x]).length=L.length+1:=ae;have qZ:0<sk.length:=ea.2 h0;cases b' with|false=>have h3:=tQ hr;refine⟨fun _=>?_,fun e=>(Bool.noConfusion e),fun _=>ab,ab⟩;rw[h.MU rfl,FK h0 hr];cases mG c aU s'<;>simp|true=>refine⟨fun e=>(Bool.noConfusion e),fun _=>?_,fun e=>(Bool.noConfusion e),ab⟩;rw[h.MU rfl,QE h0 hr];rfl
def aiU c {m n}{s:Bs}{b}(hm:(s.length:Int)≤m)(hn:(s.length:Int)≤n):bq c m (s,b)=bq c n (s,b):=by
 unfold bq;split;·rename_i a x y z r h;injection h with h1 h2;subst h1;simp only[bG]at hm hn;by_cases k:(a.toNat:Int)=c∧n3 x y z≤r.length;rw[if_pos ⟨k.1,ab,k.2⟩,if_pos ⟨k.1,ab,k.2⟩];rw[if_neg (fun h=>k ⟨h.1,h.2.2⟩),if_neg (fun h=>k ⟨h.1,h.2.2⟩)]
 rfl
def amv {c m}{s t s':Bs}{b b'}(h:bq c m (s,b)=(t,s',b')):t.length≤s.length:=by
 unfold bq at h;split at h;·rename_i a x y z r h0;injection h0 with h1 h2;subst h1;split at h;injection h with h3 h4;rw[←h3,bo];simp only[bG];omega;injection h with h3 h4;rw[←h3];exact aI _
 injection h with h3 h4;rw[←h3];exact aI _
def ao2 {c many aU}{s t s1 s':Bs}{b b1 b'}{L:List Bs}(h1:bq c 16777215 (s,b)=(t,s1,b1))(h:sZ c many aU (s,b)=(L,s',b')):(mG c aU t=none→L=[]∧s'=s1∧b'=true)∧∀K,mG c aU t=some K→(many<(K.length:Int)→L=[]∧s'=s1∧b'=true)∧(¬many<(K.length:Int)→L=K∧s'=s1∧b'=b1):=by
 unfold sZ at h;rw[h1]at h;simp only[]at h;refine⟨fun e=>?_,fun K e=>⟨fun k=>?_,fun k=>?_⟩⟩;all_goals rw[e]at h
 exact JW;simp only[]at h;rw[if_pos k]at h;exact JW;simp only[]at h;rw[if_neg k]at h;exact JW
def Ut(s:Bs)b c many aU g w(h:Ip w g (s,b))(c0:0≤c)(c1:c≤255)(hs:s.length≤1000000)(hk:0≤many)(lQ:many≤1000000)(hm:0≤aU)(UY:aU≤1000000)(L:List Bs)(s':Bs)b'(hr:sZ c many aU (s,b)=(L,s',b')):Calls prog 56 #[.pointer (some ⟨g,0,none⟩),.int .u8 c,.int .i64 many,.int .i64 aU] w fun e w'=>∃p cap,e=.returned (.slice p L.length cap)∧w'.ownsRow w.heap.size 9 1 (.slice p L.length cap) L.length (L.map str)∧Ip w' g (s',b')∧w.grownBy w' (some g):=by
 have hM:=Fm.lC h (fun _=>True) (fun _ _=>trivial);have HR:=ag hr;have tU:0≤c∧c≤255:=⟨c0,c1⟩;have hmm:0≤aU∧aU≤20000000:=⟨hm,ab⟩;clear hr h;simp only[]at hM;go_enter func56,ntmps56;go_wp2_with(first|((refine db ?_);(refine EM hM (d:=some 16) ?_;clear hM;intro g16 w16 hM))|(refine aP ?_)|(go_at_call 49;refine mM hM (hc:=tU) (k:=?_);clear hM;intro wN t s1 b1 H1 l1 l2 hM;try simp only[ax]at hM));have h1:bq c 16777215 (s,b)=(t,s1,b1):=by rw[aiU c (m:=16777215) (n:=16777216) ab ab];exact H1.out
 have ht:t.length≤s.length:=amv h1;have eH:b1=true→t=[]:=fun e=>by subst e;exact Oq h1
 have HA:=ag (ao2 h1 HR.out);clear HR H1 h1;replace hM:=hM.iN 9 1;go_loopw [10](fun lv wr=>∃(sk:Bs)(bk:Bool)(K:List Bs)(p:Option Addr)(cp:Nat),lv=.slice p K.length cp∧Hid (OX c aU t sk bk K p cp)∧sk.length≤1000000∧K.length≤1000001∧Fm (fun _=>True) w (some g) wr [(g16,118,#[str sk,.bool bk]),(g,118,#[str s1,.bool b1])] [(.slice p K.length cp,9,1,K.length,K.map str)] [fun _=>True])(fun lv _=>t.length+2-lenOf lv);case atStart=>exact⟨t,false,[],none,0,rfl,ag (OX.start c aU t false Bool.noConfusion),ab,ae,hM⟩
 case round=>
  obtain⟨sk,bk,K,p,cp,rfl,HS,kZ,tD,hM⟩:=hrel;have Yu:∀wz,Fm (fun _=>True) w (some g) wz [(g16,118,#[str sk,.bool bk]),(g,118,#[str s1,.bool true])] [(.slice p K.length cp,9,1,K.length,K.map str)] [fun _=>True]→(L=[]∧s'=s1∧b'=true)→∃p cap,Ending.returned (Value.slice none 0 0)=.returned (.slice p L.length cap)∧wz.ownsRow w.heap.size 9 1 (.slice p L.length cap) L.length (L.map str)∧Ip wz g (s',b')∧w.grownBy wz (some g):=by rintro wz hz⟨rfl,rfl,rfl⟩;exact⟨none,0,rfl,dy _ _ _ _,hz.mem.at_ eQ,hz.mem.grown⟩
  rcases bk with _|_
  ·by_cases h0:sk=[]
   ·subst h0;have hK:mG c aU t=some K:=by rw[HS.out.MU rfl,QD];simp
    have hA:=HA.out.2 K hK;have HA2:=ag hA;clear hA HA hK;by_cases ZV:many<(K.length:Int);·go_wp2_with(first|(refine aP ?_)|(refine bx ?_;clear hM;intro wN hM));go_ret;exact Yu _ hM (HA2.out.1 ZV)
    ·have ayu:(K.length:Int)≤many:=ab;rcases b1 with _|_;·go_wp2_with((refine aP ?_));go_ret;obtain⟨rfl,rfl,rfl⟩:=HA2.out.2 ZV;exact⟨p,cp,rfl,hM.mem.ij aX,hM.mem.at_ eQ,hM.mem.grown⟩
     ·have hK0:L=[]∧s'=s1∧b'=true:=by obtain⟨e1,e2,e3⟩:=HA2.out.2 ZV;have ht0:=eH rfl;have hl0:=HS.out.len rfl;rw[ht0]at hl0;simp only[dL]at hl0;exact⟨by rw[e1];exact cn ab,e2,e3⟩
      have HK0:=ag hK0;clear hK0;go_wp2_with((refine aP ?_));go_ret;exact Yu _ hM HK0.out
   ·have i1:(sk==[])=false:=nw;have i2:(sk !=[])=true:=nw;have hlen:=HS.out.len rfl;have qZ:0<sk.length:=ea.2 h0;go_wp2_with(first|(refine aP ?_)|(refine bw ?_;clear hM;intro gN wN hM)|(refine vg ?_;clear hM;intro gN cN wN hM;try simp only[]at hM)|(go_at_call 49;refine mM hM (hc:=tU) (hm:=hmm) (k:=?_);clear hM;intro wN x s2 b2 H2 l3 l4 hM;try simp only[ax]at hM));refine⟨⟨s2,b2,K++[x],_,cN,ua,ag (HS.out.next h0 H2.out),ab,aR,?_⟩,?_⟩;·have e:(K++[x]).map str=K.map str++[str x]:=ae;rw[e,aw];exact lm
    ·simp only[lenOf];omega
  ·have HN:=ag (HA.out.1 (HS.out.bad rfl));go_wp2_with(first|(refine xT ?_ ?_;intro eF;(try rw[eF]);rotate_left;intro eF;(try rw[eF]);rotate_left)|(refine aP ?_)|(refine bx ?_;clear hM;intro wN hM));all_goals go_ret
   all_goals exact Yu _ hM HN.out
section
variable{I:MF}{fs:List MF}{w0 w w':World}{row:Option Nat}{l l2:List MB}{rs:List MR}{R:Ending→World→Prop}
def aee(hM:Fm I w0 row w l rs fs){i g:Nat}{s:Bs}{b c many aU}(hi:l[i]?=some (g,118,#[str s,.bool b]):=by first|exact aX|exact eQ|exact fw|exact rx|exact Bu|exact yF|exact Ct)(hs:s.length≤1000000:=by omega)(hc:0≤c∧c≤255:=by decide)(hk:0≤many∧many≤1000000:=by decide)(hm:0≤aU∧aU≤1000000:=by decide)(k:∀w'(L:List Bs)s' b'(q)(cap),Hid (sZ c many aU (s,b)=(L,s',b'))→Hid (∀x∈L,x.length≤aU.toNat)→L.length≤many.toNat→s'.length≤s.length→Fm I w0 row w' (l.set i (g,118,#[str s',.bool b'])) ((.slice q L.length cap,9,1,L.length,L.map str)::rs) fs→R (.returned (.slice q L.length cap)) w'):Calls prog 56 #[aG g,.int .u8 c,al many,al aU] w R:=by obtain⟨L,s',b',hr⟩:=Rj c many aU (s,b);have h1:=CN hr hm.1 hk.1;have h2:=DR hr;exact(Ut s b c many aU g w (hM.mem.at_ hi) hc.1 hc.2 ab hk.1 hk.2 hm.1 hm.2 L s' b' hr).mono fun e w'⟨q,cap,he,ho,hb,hg⟩=>by subst he;exact k w' L s' b' q cap (ag hr) (ag fun x hx=>by have:=h1.1 x hx;omega) ab h2 (hM.agC i hi hb hg ho)
end
def aiR(r:ez)(k:Nat)(c:UInt8):ez:=⟨r.1.set k c,ai⟩
theorem abB L k c:(eY L).set k (.int .u8 (c.toNat:Int))=eY (L.set k c):=by simp[eY]
theorem Yt r {k}(hk:k<32)c:iu (da r) k (.int .u8 (c.toNat:Int)) (da (aiR r k c)):=⟨by simp[da,aiR,abB],by grind[gS]⟩
theorem amu h {k}(hk:k<32)c:iu (il h) (3+k) (.int .u8 (c.toNat:Int)) (il {h with root:=aiR h.root k c}):=⟨by grind[il,aiR,abB],by grind[Xa]⟩
def acF(s:Bs)w(hs:s.length≤1000000):Calls prog 50 #[str s] w fun e w'=>∃r,e=.returned (.tuple #[.agg (da r),.bool (decide (s.length=32))])∧Below w.heap.size w w':=by
 have hM:=Fm.bZ w;by_cases h0:s.length=32
 ·have e1:decide (s.length=32)=true:=eL h0;rw[e1];have i1:((s.length:Int)!=32)=false:=by simp[h0]
  clear e1;go_enter func50,ntmps50;go_wp2_with(((refine bU ?_);first|(refine jD ?_;clear hM;intro g2 w2 hM)|(refine pM ?_;clear hM;intro g4 w4 hM)));go_loopw [5](fun iv wr=>∃(k:Nat)(r:ez),k≤32∧iv=.int .i64 k∧Fm (fun _=>True) w none wr [(g4,43,da r),(g2,43,da iP)] [] [])(fun iv _=>32-(intOf iv).toNat);case atStart=>exact⟨0,iP,ae,rfl,hM⟩
  case round=>
   obtain⟨k,r,hk,rfl,hM⟩:=hrel;by_cases h1:k<32;·have i3:(k:Int)<32:=ab;have i4:(k:Int)<s.length:=ab;have i5:k<s.length:=ab;have Ba:=Yt r h1 s[k];go_wp2_with((refine bx ?_;clear hM;intro wN hM));exact⟨⟨k+1,_,ab,ae,hM.sub⟩,bC⟩
   ·have e1:k=32:=ab;subst e1;go_wp2_with(first|(refine aP ?_)|(refine bx ?_;clear hM;intro wN hM));refine ar ?_;exact⟨r,rfl,hM.below⟩
 ·have e1:decide (s.length=32)=false:=cP h0;rw[e1];have i1:((s.length:Int)!=32)=true:=aR;clear e1;go_enter func50,ntmps50;go_wp2_with(first|(refine aP ?_)|(refine bx ?_;clear hM;intro wN hM)|(refine bw ?_;clear hM;intro gN wN hM));refine ar ?_;exact⟨iP,rfl,hM.below⟩
def asa:(prog.info? 3).map (fun i=>(i.zero,i.size,i.bytes))=some (some (al 0),1,8):=ad
instance axq:Iw prog 164 3 (al 0) 1 8:=⟨underlying164,asa,rfl,ae⟩
def fI(z:Int):List Value:=[al z]
def asc z:(fI z).length=1:=rfl
def RdI.at_ {W L g o c n}(h:di W (.slice (some (aD g o)) n c) fI 1 L){i}hi:W.cell? (aD g (o+i))=some (al L[i]):=by have:=di.piece h asc hi 0 _ rfl;grind
def avk(x:W4){q}(hq:q<4):∃n:Nat,fP x.cs q (.int .u64 n):=by rcases q with _|_|_|_|q;exact⟨_,⟨rfl⟩⟩;exact⟨_,⟨rfl⟩⟩;exact⟨_,⟨rfl⟩⟩;exact⟨_,⟨rfl⟩⟩;omega
def asb(x:W4){q}(hq:q<4){v}(h0:0≤v)(h1:v<18446744073709551616):∃y:W4,iu x.cs q (.int .u64 v) y.cs:=by obtain⟨n,rfl⟩:∃n:Nat,v=n:=⟨v.toNat,ab⟩;have hn:n<18446744073709551616:=ab;obtain⟨a,b,c,d,⟨ha,hb⟩,hc,hd⟩:=x;rcases q with _|_|_|_|q;exact⟨⟨n,b,c,d,⟨⟨hn,hb⟩,hc,hd⟩⟩,⟨rfl,aj⟩⟩;exact⟨⟨a,n,c,d,⟨⟨ha,hn⟩,hc,hd⟩⟩,⟨rfl,aj⟩⟩;exact⟨⟨a,b,n,d,⟨⟨ha,hb⟩,hn,hd⟩⟩,⟨rfl,aj⟩⟩;exact⟨⟨a,b,c,n,⟨⟨ha,hb⟩,hc,hn⟩⟩,⟨rfl,aj⟩⟩;omega
def aqj a b:0≤bits .or .u64 a b∧bits .or .u64 a b<18446744073709551616:=by show 0≤IntKind.u64.wrap _∧IntKind.u64.wrap _<_;grind[IntKind.wrap_u64]
def VG L p c w(h:di w (.slice p L.length c) fI 1 L)(h32:L.length=32)(hb:∀z∈L,0≤z∧z≤255):Calls prog 87 #[.slice p L.length c] w fun e w'=>∃x:W4,e=.returned (.tuple #[.agg x.cs,.bool true])∧Below w.heap.size w w':=by
 obtain⟨g,o,rfl⟩:=h.some_ ab;have hM:=Fm.start w (fun W=>di W (.slice (some ⟨g,o,none⟩) L.length c) fI 1 L) (fun W hb=>h.step hb);have HB:=ag hb;clear h hb;go_enter func87,ntmps87;go_wp2_with(((refine bU ?_);first|(refine jD ?_;clear hM;intro g2 w2 hM)|(refine pM ?_;clear hM;intro g4 w4 hM)));go_loopw [5](fun iv wr=>∃(k:Nat)(x:W4),k≤32∧iv=.int .i64 k∧Fm (fun W=>di W (.slice (some ⟨g,o,none⟩) L.length c) fI 1 L) w none wr [(g4,69,x.cs),(g2,69,oO.cs)] [] [fun W=>di W (.slice (some ⟨g,o,none⟩) L.length c) fI 1 L])(fun iv _=>32-(intOf iv).toNat);case atStart=>exact⟨0,oO,ae,rfl,hM⟩
 case round=>
  obtain⟨k,x,hk,rfl,hM⟩:=hrel;by_cases h1:k<32;·have i1:(k:Int)<(L.length:Int):=ab;have i2:(k:Int)<32:=ab;have i3:(0:Int)≤(k:Int):=ae;have h2:k<L.length:=ab;replace hM:=hM.eW ((hM.st aX).mono fun W h=>RdI.at_ h h2);have hz:=HB.out _ (bH h2);obtain⟨z,hzz⟩:=aZ (L[k]);rw[hzz]at hM hz;obtain⟨q,r,hq,hr,hkq⟩:∃q r:Nat,q<4∧r<8∧k=8*q+r:=⟨k/8,k%8,ab,ab,ab⟩;have d1:(k:Int)/8=(q:Int):=ab;have d2:(k:Int).tdiv 8=(q:Int):=aj;have d3:(k:Int)%8=(r:Int):=ab;have d4:(k:Int).tmod 8=(r:Int):=aj;have q4:(q:Int)<4:=ab;have d7:IntKind.i64.wrap (q:Int)=(q:Int):=cE;have d8:IntKind.i64.wrap (r:Int)=(r:Int):=cE;obtain⟨t,ht⟩:∃t:Nat,8*r=t:=⟨_,rfl⟩;have d5:IntKind.i64.wrap (8*(r:Int))=(t:Int):=cE;have d6:IntKind.u64.wrap (t:Int)=(t:Int):=Al;have t64:(t:Int)<64:=ab;obtain⟨n,hn⟩:=avk x hq;obtain⟨y,hy⟩:=asb x hq (aqj (n:Int) (IntKind.u64.wrap (IntKind.u64.wrap z*2^t))).1 (aqj _ _).2;have HKQ:=ag hkq;clear hkq hzz ht;go_wp2_with fail;refine rB [18] [0,1,2,3,4,5,6,7,8,9,10,11,12,13,14,15,16,17,18] ?_;intro hM;refine rS ?_;clear hM;intro wN hM;go_wp2_with fail;exact⟨⟨k+1,y,ab,ae,hM.sub⟩,bC⟩
  ·have e1:k=32:=ab;subst e1;have i1:¬(((32:Nat):Int)<(L.length:Int)):=ab;go_wp2_with(first|(refine aP ?_)|(refine bx ?_;clear hM;intro wN hM));refine ar ?_;exact⟨⟨x,rfl⟩,hM.below⟩
def Nh(s:Bs)w(hs:s.length≤1000000):Calls prog 51 #[str s] w fun e w'=>∃(x:W4),e=.returned (.tuple #[.agg x.cs,al (ru s)])∧Below w.heap.size w w':=by
 have hM:=Fm.bZ w;by_cases h0:s.length=32
 ·have e1:ru s=0:=if_pos h0;rw[e1];have i1:((s.length:Int)!=32)=false:=by simp[h0]
  clear e1;go_enter func51,ntmps51;go_wp2_with(((refine bU ?_);(refine jD ?_;intro g2 w2 hM)));replace hM:=hM.iN 3 1;go_loopw [5,4](fun iv lv wr=>∃(k:Nat)(L:List Int)(q:Sl),k≤32∧iv=al (31-(k:Int))∧lv=aF q∧q.n=k∧L.length=k∧Hid (∀z∈L,0≤z∧z≤255)∧Fm (fun _=>True) w none wr [(g2,69,oO.cs)] [(aF q,3,1,k,L.flatMap fI)] [])(fun iv _ _=>(intOf iv+1).toNat);case atStart=>exact⟨0,[],eV,ae,rfl,rfl,rfl,rfl,ag ae,hM⟩
  case round=>
   obtain⟨k,L,⟨qp,qn,qc⟩,hk,rfl,rfl,hq,hL,HB,hM⟩:=hrel;have hq:k=qn:=hq.symm;subst hq;by_cases h1:k<32;obtain⟨j,hj⟩:∃j:Nat,j+k=31:=⟨31-k,ab⟩;have e2:(31-(k:Int))=(j:Int):=ab;rw[e2];have i3:(0:Int)≤(j:Int):=ae;have i4:(j:Int)<s.length:=ab;have i5:j<s.length:=ab;have Vh:(s[j].toNat:Int)<256:=by have:=s[j].toNat_lt;omega
   go_wp2_with(first|(refine bw ?_;intro gN wN hM)|(refine vg ?_;intro gN cN wN hM;try simp only[]at hM));refine⟨⟨k+1,L++[(s[j].toNat:Int)],⟨_,k+1,_⟩,ab,by congr 1;omega,rfl,rfl,by simp[hL],ag ?_,?_⟩,kE⟩;intro z hz;rcases cQ.1 hz with h|h;exact HB.o z h;rw[cG]at h;omega;have e5:(L++[(s[j].toNat:Int)]).flatMap fI=L.flatMap fI++[al (s[j].toNat:Int)]:=by simp[fI]
   rw[e5];exact lm;have e1:k=32:=ab;subst e1;have i2:¬((0:Int)≤(31-((32:Nat):Int))):=ae;replace hM:=hM.gj 0 aX;simp only[aQ]at hM;replace hM:=hM.eW (Q:=fun W=>di W (.slice qp L.length qc) fI 1 L) ((hM.st aX).mono fun W h=>di.iz (B:=w.heap.size) (e:=3) (n:=L.length) (by rw[hL];omega) rfl);have HC:=ag (fun(W:World)(h:di W (.slice qp L.length qc) fI 1 L)=>(hL▸VG L qp qc W h hL HB.o:Calls prog 87 #[.slice qp 32 qc] W fun e w'=>∃x:W4,e=.returned (.tuple #[.agg x.cs,.bool true])∧Below W.heap.size W w'));go_wp2_with(first|(refine aP ?_)|(refine bx ?_;intro wN hM)|(refine bw ?_;intro gN wN hM)|(go_at_call 87;refine(HC.o _ (hM.get aX)).mono ?_;rintro e wN⟨x,rfl,hb⟩;replace hM:=hM.step hb;clear hb));refine ar ?_;exact⟨x,rfl,hM.below⟩
 have e1:ru s=10:=if_neg h0;rw[e1];have i1:((s.length:Int)!=32)=true:=aR;clear e1;go_enter func51,ntmps51;go_wp2_with(first|(refine aP ?_)|(refine bx ?_;intro wN hM)|(refine bw ?_;intro gN wN hM));refine ar ?_;exact⟨oO,rfl,hM.below⟩
structure Sl4 where
  l : Sl
  r : Sl
  a : Sl
  b : Sl
def OJ(u:Sl4)(G:Ml):MF:=fun W=>(co W (aF u.l) G.left∧lP W (aF u.a) G.a.path)∧co W (aF u.r) G.right∧lP W (aF u.b) G.b.path
theorem acb(s:Bs)w(hs:s.length≤1000000):Calls prog 215 #[str s] w fun e w'=>∃u,e=.returned (.tuple #[.agg (ir ⟨(eM s).1.many,u.l,u.r,⟨(eM s).1.a.at_,(eM s).1.a.many,u.a⟩,⟨(eM s).1.b.at_,(eM s).1.b.many,u.b⟩⟩),.int .i64 (eM s).2])∧dz w w' (fun _=>True) (OJ u (eM s).1)∧Below w.heap.size w w':=by
 have hM:=Fm.bZ w;go_enter func215,ntmps215;go_wp2_with(first|go_skip|(refine aP ?_)|(refine bx ?_;clear hM;intro wN hM)|(refine bw ?_;clear hM;intro gN wN hM)|(go_at_call 108;refine auH hM ?_;clear hM;intro gR wN hM)|(go_at_call 109;(with_reducible refine gD 109 ?_);refine DU (c:=109) hM (k:=?_);clear hM;intro w_m ZN ZM ZP H_m m1 m2 m3 hM;try simp only[ax]at hM)|(go_at_call 239;refine ar8 hM (k:=?_);clear hM;intro wN L_ P_ v_ s_ b_ q_ u_ HS hl hM;try simp only[ax,az]at hM)|(go_at_call 111;refine ajQ hM (k:=?_);clear hM;intro wN nE HE hM));all_goals refine bu (frr hM) rfl ?_
 ·have hE:eM s=(OQ,10):=by simp only[vA]at*;simp only[eM, *];rw[if_neg (by simp_all)]
  rw[hE];exact⟨⟨eV,eV,eV,eV⟩,rfl,(fun W _ _ _=>⟨⟨di.nil W,di.nil W⟩,di.nil W,di.nil W⟩),hM.below⟩
 ·rename_i L1 P1 v1 s1 b1 q1 u1 HS1 Nw w1 w2 w3 w4 w5 hv1 Gy w6 hn;have hE:eM s=(⟨ZN,L1,L_,P1,P_⟩,0):=by simp only[vA]at*;simp only[eM, *];rw[if_pos (by simp_all)]
  rw[hE];exact⟨⟨q1,q_,u1,u_⟩,rfl,(hM.Ig eQ).and (hM.Ig aX),hM.below⟩
 ·have hE:eM s=(OQ,10):=by simp only[vA]at*;simp only[eM, *];rw[if_neg (by simp_all)]
  rw[hE];exact⟨⟨eV,eV,eV,eV⟩,rfl,(fun W _ _ _=>⟨⟨di.nil W,di.nil W⟩,di.nil W,di.nil W⟩),hM.below⟩
 ·have hE:eM s=(OQ,10):=by simp only[vA]at*;simp only[eM, *];rw[if_neg (by simp_all)]
  rw[hE];exact⟨⟨eV,eV,eV,eV⟩,rfl,(fun W _ _ _=>⟨⟨di.nil W,di.nil W⟩,di.nil W,di.nil W⟩),hM.below⟩
def Ry {s Wp ZM QG:Bs}{NE ZN Ws ZP QF}{jd:List Bs}(H1:ei 105 2000 (s,false)=(NE,Wp,Ws))(H2:ei 109 2000 (Wp,Ws)=(ZN,ZM,ZP))(H3:sZ 112 16 32 (ZM,ZP)=(jd,QG,QF))(h:(dK s).2=0):(∀t∈jd,t.length=32)∧mV (QG,QF)=0:=by unfold dK at h;simp only[H1,H2,H3]at h;split at h;exact aj;cases h
def aku(m:Int)(x y:Ez×aaB×Bool×Rd):Ml×Int:=if x.2.2.1=true∧y.2.2.1=true∧mV y.2.2.2=0 then(⟨m,x.1,y.1,x.2.1,y.2.1⟩,0)else(OQ,10)
def aft s:eM s=aku (ei 109 2000 (s,false)).1 (dS (ei 109 2000 (s,false)).2) (dS (dS (ei 109 2000 (s,false)).2).2.2.2):=rfl
def CR {s ZM a_s Py c_s d_s bt dt:Bs}{ZN ZP a_b b_b c_b d_b}{a c:List Bs}(H1:ei 109 2000 (s,false)=(ZN,ZM,ZP))(H2:sZ 101 2 4000 (ZM,ZP)=(a,a_s,a_b))(H3:bq 80 4000 (a_s,a_b)=(bt,Py,b_b))(H4:sZ 101 2 4000 (Py,b_b)=(c,c_s,c_b))(H5:bq 80 4000 (c_s,c_b)=(dt,d_s,d_b))(h:(eM s).2=0):(a.length≠1∧(dK bt).2=0)∧(c.length≠1∧(dK dt).2=0)∧mV (d_s,d_b)=0:=by
 have a1:dS (ZM,ZP)=if(dK bt).2=0∧b_b=false∧a.length≠1 then(LR a,(dK bt).1,true,(Py,b_b))else([],zA,false,(Py,b_b)):=by unfold dS;simp only[H2,H3]
 have a2:dS (Py,b_b)=if(dK dt).2=0∧d_b=false∧c.length≠1 then(LR c,(dK dt).1,true,(d_s,d_b))else([],zA,false,(d_s,d_b)):=by unfold dS;simp only[H4,H5]
 obtain⟨p1,MD⟩:=aZ (dK bt);obtain⟨p2,Hh⟩:=aZ (dK dt);rw[MD]at a1⊢;rw[Hh]at a2⊢;obtain⟨r1,tB⟩:=aZ (dS (ZM,ZP));rw[tB]at a1;have k4:r1.2.2.2=(Py,b_b):=by rw[a1];split<;>rfl
 obtain⟨r2,vt⟩:=aZ (dS (Py,b_b));rw[vt]at a2;have k5:r2.2.2.2=(d_s,d_b):=by rw[a2];split<;>rfl
 rw[aft,H1,show((ZN,ZM,ZP):Int×Rd).2=(ZM,ZP)from rfl,tB,k4,vt]at h;unfold aku at h;rw[k5]at h;by_cases hc:r1.2.2.1=true∧r2.2.2.1=true∧mV (d_s,d_b)=0;obtain⟨k1,k2,k3⟩:=hc;refine⟨?_,?_,k3⟩;by_cases q:p1.2=0∧b_b=false∧a.length≠1;exact⟨q.2.2,q.1⟩;rw[a1,if_neg q]at k1;cases k1;by_cases q:p2.2=0∧d_b=false∧c.length≠1;exact⟨q.2.2,q.1⟩;rw[a2,if_neg q]at k2;cases k2;rw[if_neg hc]at h;exact absurd h ah
structure PB where
  x : xI
  b : Bool
theorem Jc(s:Bs)w(hs:s.length≤1000000):Calls prog 88 #[str s] w fun e w'=>∃r:PB,e=.returned (.tuple #[.agg (jF r.x),.bool r.b])∧((dK s).2=0→r.b=true)∧Below w.heap.size w w':=by
 have hM:=Fm.bZ w;go_enter func88,ntmps88;go_wp2_with(first|((with_reducible refine BC ?_);first|(refine qI hM (d:=some 2) ?_;intro g2 w2 hM)|(refine qI hM (d:=some 5) ?_;intro g5 w5 hM))|((with_reducible refine OI ?_);(refine EM hM (d:=some 12) ?_;intro g12 Nl hM))|(refine aP ?_)|(refine bx ?_;intro wN hM)|(go_at_call 48;(with_reducible refine gD 105 ?_);refine yD (c:=105) hM (k:=?_);intro w_a NE Wp Ws IB a1 a2 a3 hM;try simp only[ax]at hM)|(go_at_call 48;(with_reducible refine gD 109 ?_);refine yD (c:=109) hM (k:=?_);intro w_m ZN ZM ZP H_m m1 m2 m3 hM;try simp only[ax,az]at hM)|(go_at_call 56;(with_reducible refine UD 112 ?_);refine aee (c:=112) hM (k:=?_);intro w_l jd QG QF q_l c_l UI B_l l1 l2 hM;try simp only[ax,az]at hM)|(go_at_call 54;refine adN hM ?_ ?_<;>(intro wN HE hM)))
 ·replace hM:=hM.iN 43 32;have e0:jO.path=⟨none,0,0⟩:=rfl;have HI:=ag (Ry IB.o H_m.o UI.o);go_loopw [7](fun iv wr=>∃(k:Nat)(q:Sl)(hs:List ez),k≤jd.length∧iv=al k∧q.n=k∧hs.length=k∧Fm (fun _=>True) w none wr [(g5,76,jF ⟨NE,ZN,q⟩),(g12,118,#[str QG,.bool QF]),(g2,76,jF jO)] [(aF q,43,32,k,hs.flatMap hC),(.slice q_l jd.length c_l,9,1,jd.length,jd.map str)] [])(fun iv _=>jd.length-(intOf iv).toNat);case atStart=>exact⟨0,⟨none,0,0⟩,[],aI _,rfl,rfl,rfl,hM⟩
  case round=>
   obtain⟨k,⟨qp,qn,qc⟩,hs,hk,rfl,hq,hhs,hM⟩:=hrel;have hq:k=qn:=hq.symm;subst hq;by_cases h1:k<jd.length
   ·have i1:(k:Int)<(jd.length:Int):=ab;have i3:(0:Int)≤(k:Int):=ab;obtain⟨g,hg⟩:=qL (hM.mem.ij eQ) ab;subst hg;obtain⟨t,ht⟩:=aZ (jd[k]);have pJ:(jd.map str)[k]?=some (str t):=Dd;have Hg:t∈jd:=Dc;have Mu:=ag pJ;have HTM:=ag Hg;clear pJ ht Hg;by_cases h32:t.length=32
    ·have i4:((t.length:Int)!=32)=false:=by simp[h32]
     have HL:=ag h32;clear h32;go_wp2_with(first|((with_reducible refine ap2 ?_);(refine UE hM Mu.o ?_))|(refine bw ?_;intro g8 w8 hM));go_loopw [9](fun jv wr=>∃(j:Nat)(r:ez),j≤32∧jv=al j∧Fm (fun _=>True) w none wr [(g8,43,da r),(g5,76,jF ⟨NE,ZN,⟨qp,k,qc⟩⟩),(g12,118,#[str QG,.bool QF]),(g2,76,jF jO)] [(.slice qp k qc,43,32,k,hs.flatMap hC),(.slice (some (aD g 0)) jd.length c_l,9,1,jd.length,jd.map str)] [])(fun jv _=>32-(intOf jv).toNat);case atStart=>exact⟨0,iP,ab,rfl,hM⟩
     case round=>
      obtain⟨j,r,hj,rfl,hM⟩:=hrel;by_cases h2:j<32
      ·have j1:(j:Int)<32:=ab;have j2:(j:Int)<t.length:=by have:=HL.o;omega
       have j3:j<t.length:=ab;have Ba:=Yt r h2 t[j];go_wp2_with(first|((with_reducible refine ap2 ?_);(refine UE hM Mu.o ?_))|(refine bx ?_;intro wN hM));exact⟨⟨j+1,_,ab,ae,hM.sub⟩,bC⟩
      ·have e1:j=32:=ab;subst e1;go_wp2_with(first|(refine aP ?_)|(refine bx ?_;intro wN hM)|(refine bw ?_;intro gN wN hM)|(refine vg ?_;intro gN cN wN hM));refine⟨⟨k+1,ab,ae,⟨some (aD gN 0),k+1,cN⟩,rfl,hs++[r],by simp[hhs],?_⟩,kE⟩;have e9:[r].flatMap hC=(da r).toList:=by simp[hC,da]
       rw[cH,e9];exact lm
    ·have i4:((t.length:Int)!=32)=true:=aR;go_wp2_with(first|((with_reducible refine ap2 ?_);(refine UE hM Mu.o ?_))|(refine aP ?_)|(refine bx ?_;intro wN hM));refine bu (frr hM) rfl ?_;exact⟨⟨jO,false⟩,rfl,fun h=>absurd ((HI.o h).1 t HTM.o) h32,hM.below⟩
   ·have e1:k=jd.length:=ab;subst e1;have i1:¬(jd.length:Int)<(jd.length:Int):=ab;go_wp2_with(first|(refine aP ?_)|(refine bx ?_;intro wN hM));refine bu (frr hM) rfl ?_;exact⟨⟨_,true⟩,rfl,fun _=>rfl,hM.below⟩
 ·refine bu (frr hM) rfl ?_;exact⟨⟨jO,false⟩,rfl,(fun h=>by have:=(Ry IB.o H_m.o UI.o h).2;rw[HE.o]at this;cases this),hM.below⟩
def Up(s:Bs)w(hs:s.length≤1000000):Calls prog 52 #[str s] w fun e w'=>∃(x:xI)(n:Int),e=.returned (.tuple #[.agg (jF x),al n])∧((dK s).2=0→n=0)∧Below w.heap.size w w':=by have hM:=Fm.bZ w;go_enter func52,ntmps52;go_wp2_with(first|(refine aP ?_)|(refine bx ?_;intro wN hM)|(refine bw ?_;intro gN wN hM)|(go_at_call 88;refine(Jc _ _ ab).mono ?_;rintro e wN⟨⟨x,b⟩,rfl,hx,hb⟩;simp only[]at hx;replace hM:=hM.step hb;clear hb;have HX:=ag hx;clear hx;cases b));refine ar ?_;exact⟨_,10,rfl,fun h=>Bool.noConfusion (HX.o h),hM.below⟩;refine ar ?_;exact Am
def afu(s:Bs)w(hs:s.length≤1000000):Calls prog 53 #[str s] w fun e w'=>∃(x:xK)(n:Int),e=.returned (.tuple #[.agg (ir x),al n])∧((eM s).2=0→n=0)∧Below w.heap.size w w':=by
 have hM:=Fm.bZ w;go_enter func53,ntmps53;go_wp2_with(first|go_skip|(refine xT ?_ ?_;intro eF;(try rw[eF]);rotate_left;intro eF;(try rw[eF]);rotate_left)|((refine bU ?_);first|(refine jD ?_;intro g2 w2 hM)|(refine mr ?_;intro g5 w5 hM))|(refine aP ?_)|(refine bx ?_;intro wN hM)|(refine bw ?_;intro gN wN hM)|(go_at_call 48;(with_reducible refine gD 109 ?_);refine yD (c:=109) hM (k:=?_);intro w_m ZN ZM ZP H_m m1 m2 m3 hM;try simp only[ax]at hM)|(go_at_call 56;(first|((fail_if_success have:=HAa.o);refine aee hM (k:=?_);intro wN La sa ba qa ca HAa HBa GI ha2 hM)|(refine aee hM (k:=?_);intro wN Lc sc bc qc cc HAc HBc tV nP hM));try simp only[ax,az]at hM)|(go_at_call 49;(first|((fail_if_success have:=HTb.o);refine mM hM (k:=?_);intro wN tb sb bb HTb eH ft hM)|(refine mM hM (k:=?_);intro wN td sd bd HTd wk rF hM));try simp only[ax,az]at hM)|(go_at_call 54;refine adN hM ?_ ?_<;>(intro wN HE hM))|(go_at_call 88;(first|((fail_if_success have:=HXb.o);refine(Jc _ _ ab).mono ?_;rintro e wN⟨⟨xb,vb⟩,rfl,hx,hb⟩;simp only[]at hx;replace hM:=hM.step hb;clear hb;have HXb:=ag hx;clear hx;cases vb)|(refine(Jc _ _ ab).mono ?_;rintro e wN⟨⟨xd,vd⟩,rfl,hx,hb⟩;simp only[]at hx;replace hM:=hM.step hb;clear hb;have HXd:=ag hx;clear hx;cases vd))));refine ar ?_;exact JU;refine ar ?_;exact JU;refine ar ?_;exact JU;refine ar ?_;exact Tj;refine ar ?_;exact Tj;refine ar ?_;exact⟨_,10,rfl,(fun h=>by have q:=CR H_m.o HAa.o HTb.o HAc.o HTd.o h;exact Bool.noConfusion (HXd.o q.2.1.2)),hM.below⟩;skip;obtain⟨xa,ya,h0⟩:∃x y,La=[x,y]:=by rcases La with _|⟨x,_|⟨y,_|⟨z,l⟩⟩⟩;exfalso;simp_all;exfalso;simp_all;exact⟨x,y,rfl⟩;exfalso;simp_all<;>omega
 subst h0;obtain⟨ga,hg⟩:=qL (hM.mem.ij eQ) ae;subst hg;replace hM:=hM.gj 1 eQ;simp only[aQ,dh]at hM;replace hM:=(hM.eW ((hM.st aX).mono fun W h=>xP (i:=1) (v:=str ya) h rfl)).eW ((hM.st aX).mono fun W h=>xP (i:=0) (v:=str xa) h rfl);refine rB [9] [0,1,2,3,4,5,6,7,8,9] ?_;intro hM;refine rN ?_;intro gN wN hM;refine rS ?_;intro wN hM;go_wp2_with(first|(refine aP ?_)|(refine bx ?_;intro wN hM));skip;obtain⟨xc,yc,h0⟩:∃x y,Lc=[x,y]:=Ti;subst h0;obtain⟨gc,hg⟩:=qL (hM.mem.ij aX) ae;subst hg;replace hM:=hM.gj 0 aX;simp only[aQ]at hM;replace hM:=(hM.eW ((hM.st aX).mono fun W h=>xP (i:=1) (v:=str yc) h rfl)).eW ((hM.st aX).mono fun W h=>xP (i:=0) (v:=str xc) h rfl);refine rB [9] [0,1,2,3,4,5,6,7,8,9] ?_;intro hM;refine rN ?_;intro gN wN hM;refine rS ?_;intro wN hM;go_wp2_with(first|(refine aP ?_)|(refine bx ?_;intro wN hM));refine ar ?_;exact Am;skip;refine ar ?_;exact Am;skip;obtain⟨xc,yc,h0⟩:∃x y,Lc=[x,y]:=Ti;subst h0;obtain⟨gc,hg⟩:=qL (hM.mem.ij aX) ae;subst hg;replace hM:=hM.gj 0 aX;simp only[aQ]at hM;replace hM:=(hM.eW ((hM.st aX).mono fun W h=>xP (i:=1) (v:=str yc) h rfl)).eW ((hM.st aX).mono fun W h=>xP (i:=0) (v:=str xc) h rfl);refine rB [9] [0,1,2,3,4,5,6,7,8,9] ?_;intro hM;refine rN ?_;intro gN wN hM;refine rS ?_;intro wN hM;go_wp2_with(first|(refine aP ?_)|(refine bx ?_;intro wN hM));refine ar ?_;exact Am;skip;refine ar ?_;exact Am;refine ar ?_;exact⟨_,10,rfl,(fun h=>by have q:=CR H_m.o HAa.o HTb.o HAc.o HTd.o h;(have z:=q.2.2;rw[HE.o]at z;exact absurd z ah)),hM.below⟩
def ur(s:Bs):Bool:=DS s&&!hasB s 47
def My(s:Bs)w:dM 269 #[str s] w (.bool (ur s)):=by
 have hM:=Fm.bZ w;go_enter func269,ntmps269;go_wp2_with(first|(go_at_call 170;refine cDb hM (aaS _ _) fun wN bN hb hM=>?_;cases bN)|(go_at_call 304;refine cSb hM (ZI _ _ _) fun wN bN hb hM=>?_;cases bN));all_goals go_ret
 all_goals exact⟨by simp[ur, *],hM.below⟩
def Fw(n k:Int):Bool:=decide (k≤n)&&decide (n≤1099511627776)
def afk n k w:Calls prog 314 #[al n,al k] w fun e w'=>e=.returned (.bool (Fw n k))∧w=w':=by
 go_enter func314,ntmps314;go_wp2_with fail;all_goals go_ret
 all_goals refine⟨?_,rfl⟩
 all_goals simp[Fw, *]
 all_goals omega
noncomputable def OP(p:kY):Bool:=Fw p.seq 1&&(Fw p.ay 0&&(Fw p.time 0&&(!(p.ay==0&&p.time==0)&&(dV p.source&&(dV p.sink&&(tq p.bj.bM&&(!decide (p.bj.bK=oO)&&(ur p.bj.src&&ur p.bj.dst))))))))
noncomputable def fN(p:kY):Int:=if OP p=true then 0 else 1
def pX p:fN p=0∨fN p=1:=by unfold fN;split<;>simp
def pY p w(h1:p.source.length≤1000000)(h2:p.sink.length≤1000000)(h3:p.bj.bM.length≤1000000):dM 283 #[.agg (eE p)] w (al (fN p)):=by
 have hM:=Fm.bZ w;go_enter func283,ntmps283;go_wp2_with(first|go_skip|(refine xT ?_ ?_;intro eF;(try rw[eF]);rotate_left;intro eF;(try rw[eF]);rotate_left)|(refine aP ?_)|(refine bx ?_;intro wN hM)|(refine bw ?_;intro gN wN hM)|(go_at_call 272;refine yj hM (Gw _ _ ab) fun wN bN hb hM=>?_;cases bN)|(go_at_call 267;refine yj hM (wM _ _ ab) fun wN bN hb hM=>?_;cases bN)|(go_at_call 172;refine yj hM (Mg _ _) fun wN bN hb hM=>?_;cases bN)|(go_at_call 269;refine yj hM (My _ _) fun wN bN hb hM=>?_;cases bN)|(go_at_call 314;refine cSb hM (afk _ _ _) fun wN bN hb hM=>?_;cases bN));all_goals go_ret
 all_goals refine io ?_
 all_goals(simp[fN,OP, *];done)
def zn(p:kY)(h t:Int):Bool:=(p.ay !=0&&decide (p.ay≤h))||(p.time !=0&&decide (p.time≤t))
def Fb p h t w:dM 196 #[.agg (eE p),al h,al t] w (.bool (zn p h t)):=by
 have hM:=Fm.bZ w;have ayq:∀(x y z u:Int)w,(Instr.index 328 (.agg #[al x,al y,al z,al u]) (al 0)).run prog w=.ok (.agg #[al x,al y]) w:=fun x y z u w=>ad;have ayr:∀(x y z u:Int)w,(Instr.index 328 (.agg #[al x,al y,al z,al u]) (al 1)).run prog w=.ok (.agg #[al z,al u]) w:=fun x y z u w=>ad;rcases c1:(p.ay !=0)with _|_<;>by_cases c2:p.ay≤h<;>rcases c3:(p.time !=0)with _|_<;>by_cases c4:p.time≤t;all_goals
  go_enter func196,ntmps196;go_wp2_with((refine bw ?_;intro gN wN hM));go_step3;go_wp2_with(first|(refine aP ?_)|(refine bx ?_;intro wN hM)|(refine bw ?_;intro gN wN hM));go_step3;go_wp2_with((refine aP ?_));refine dG 3 ?_;rw[bE];go_wp2_with(first|go_skip|(refine aP ?_)|(refine bx ?_;intro wN hM)|(refine bw ?_;intro gN wN hM));all_goals try rw[bE]
  all_goals go_wp2_with(first|go_skip|(refine aP ?_)|(refine bx ?_;intro wN hM)|(refine bw ?_;intro gN wN hM))
  all_goals try rw[bE]
  all_goals go_wp2_with fail
  all_goals try rw[bX]
  all_goals go_ret
  all_goals refine io ?_
  all_goals simp[zn, *]
  all_goals omega
def wt(s:Bs):Int×Bool:=if s=[43]then(0,true)else match s with|[a,b]=>if a=45∧0<b.toNat then(b.toNat,true)else(0,false)|_=>(0,false)
def aeR(s:Bs)w:Calls prog 294 #[str s] w fun e w'=>e=.returned (.tuple #[al (wt s).1,.bool (wt s).2])∧w=w':=by
 rcases s with _|⟨a,_|⟨b,_|⟨c,t⟩⟩⟩;exact JN
 ·by_cases c1:a=43;subst c1;exact JN
  ·have c3:(a==43)=false:=by simpa using c1
   go_enter func294,ntmps294;go_wp2_with fail;all_goals refine xo ?_
   all_goals exact⟨by simp[wt, *],rfl⟩
 have hb:=b.toNat_lt;have ha:((a.toNat:Int)==45)=decide (a=45):=by rw[Bool.eq_iff_iff];simp only[beq_iff_eq,dU];constructor;intro h;apply qx.1;show a.toNat=45;omega;intro h;subst h;rfl
 by_cases c1:a=45;subst c1;by_cases c2:0<b.toNat;exact JO;exact JO;have ha2:((a.toNat:Int)==45)=false:=by rw[ha];simpa using c1
 exact JO;have hq:((t.length:Int)+1+1+1==2)=false:=nr;exact JN
def ave {I fs P ops rest tp ps af}{gd a w0 w Q row l rs d}(hM:Fm I w0 row w l rs fs){src dst e x}{g i n:Nat}(bs:Bs)(hs:P.underlying src=some (.slice e))(he:P.underlying e=some (.int .u8))(hd:P.underlying dst=some .string)(hx:a.eval x=.slice (some (aD g 0)) n n)(hi:l[i]?=some (g,e,(Lib.byteCells bs).toArray))(hn:bs.length=n)(hn2:n≤1000)(h:wpList P ops Q rest (a.put d (str bs)) w)(eF:Region.wanted (Oper.mk d (.convert src dst x) tp ps af gd) (yielded ops a.tmps)=true:=by rfl):wpList P ops Q (Oper.mk d (.convert src dst x) tp ps af gd::rest) a w:=wpList_want eF fun K hK=>by
 have hb:=hM.mem.at_ hi;have hl:(Lib.byteCells bs).length=n:=by simp[Lib.byteCells,hn]
 have eZ:w.ownsRow 0 e 1 (.slice (some (aD g 0)) n n) n (Lib.byteCells bs):=⟨by simpa using hl,.inr ⟨g,n,_,rfl,aI _,hb,au _,gz,by simp[hl],by rw[aL];simp[hl]⟩⟩;refine uq ?_ (hK _ _ h);unfold execOp;simp only[hx,dw,Eh hs he hd eZ,bT,gW]
def yN(e:Int):Bs:=[45,Id e]
def aeO n w(h0:0≤n)(h1:n≤255):dM 292 #[al n] w (str (yN n)):=by
 have hM:=Fm.bZ w;have hbt:((Id n).toNat:Int)=n:=Cm n h0 h1;go_enter func292,ntmps292;go_wp2_with(first|(refine bw ?_;intro gN wN hM;try simp only[cj,bJ]at hM)|(refine ave hM (yN n) underlying137 underlying5 underlying9 rfl (i:=0) (by simp[yN,Lib.byteCells,hbt]) rfl ah ?_));all_goals go_ret
 all_goals exact aK
end Go.Proofs.YtlddafbgfkocjaaGreatDoor
