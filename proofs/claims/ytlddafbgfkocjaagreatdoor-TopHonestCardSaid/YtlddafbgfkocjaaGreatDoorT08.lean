/- A part of TopHonest. -/
import Derived.Carry
import Derived.Laws.CopyOwn
import Derived.Laws.MakeOwn
import Derived.Lib.BufferRead
import Derived.Test.YtlddafbgfkocjaaGreatDoorT07
namespace Go.Proofs.YtlddafbgfkocjaaGreatDoor
open Go.RowKit Go.Proofs.Tryz
set_option linter.all false
set_option maxRecDepth 1000000
set_option maxHeartbeats 400000000
def vF(k:Int):List (Int×Bz)→Option Bz|[]=>none|p::l=>(vF k l).or (if p.1=k then some p.2 else none)
theorem CI {k}:∀(l),(∀p∈l,p.1≠k)→vF k l=none:=by intro l;induction l with|nil=>intro _;rfl|cons p l ih=>intro h;simp_all[vF]
def alC {k}:∀(l)(j)(hj),l[j].1=k→(∀p∈l.drop (j+1),p.1≠k)→vF k l=some l[j].2:=by intro l;induction l with|nil=>simp|cons p l ih=>intro j hj h1 h2;cases j with|zero=>simp only[vF];rw[CI l ai,if_pos ai];rfl|succ j=>grind[vF]
def dI(d:lT)(k:Int):Bz:=(vF k d.waits).getD (iL d k)
def rq(d:lT)(k:Int):Bz:=if d.on then(if vk d.n k then dI d k else[])else[]
def yX(d:lT)(k:Int):Int:=if d.on then(if vk d.n k then 0 else 1)else 14
def KJ w g gm v cap B d k(hd:cD w g gm v cap B d)(hk:(Lit.int .i64 k).wf=true)(hn:d.waits.length<4611686018427):Calls prog 99 #[.pointer (some ⟨g,0,none⟩),.int .i64 k] w fun e w'=>e=.returned (.tuple #[str (rq d k),.int .i64 (yX d k)])∧Below w.heap.size w w':=by
 obtain⟨-,-,c2,c3,-⟩:=kr hd;have HD:=ag hd;unfold rq yX;obtain⟨on,vE⟩:=aZ d.on;rw[vE]at c3⊢;clear hd vE;cases on;·go_enter func99,ntmps99;go_wp2_with fail;go_ret2;simp[aJ]
 ·obtain⟨u,hu⟩:=aZ (vk d.n k);rw[hu];have HU:=ag hu;clear hu;cases u;·go_enter func99,ntmps99;go_wp2_with fail;refine(AE _ g gm v cap B d k false HD.out HU.out).mono ?_;rintro e w1⟨rfl,rfl⟩;go_wp2_with fail;go_ret2;simp[aJ]
  ·unfold dI;obtain⟨l,hl⟩:=aZ d.waits;obtain⟨p,c,hv⟩:=HD.out.2.2.1.form;rw[hl]at hv hn⊢;subst hv;have HL:=ag hl;clear hl;have QW:IntKind.i64.wrap ((l.length:Int)-1)=(l.length:Int)-1:=oG _ ab;simp only[if_true];go_enter func99,ntmps99;go_wp2_with fail;refine(AE _ g gm _ cap B d k true HD.out HU.out).mono ?_;rintro e w1⟨rfl,rfl⟩;go_wp2_with fail;go_loop [6](fun i=>∃j:Nat,j≤l.length∧i=.int .i64 ((j:Int)-1)∧∀q∈l.drop j,q.1≠k)(fun i=>((intOf i)+1).toNat);case atStart=>exact⟨l.length,au _,rfl,ae⟩
   case round=>
    obtain⟨j,hj,rfl,DX⟩:=hrel;cases j with|zero=>have hz:((0:Nat):Int)-1=-1:=rfl;rw[hz];have ats:=CI l aj;have HN:=ag ats;clear DX ats QW hz;go_wp2_with fail;refine(aa9 _ g gm _ cap B d k HD.out hk).mono ?_;rw[HU.out];rintro e w2⟨rfl,ft⟩;go_wp2_with fail;go_ret2;exact⟨by rw[HN.out];rfl,ft⟩|succ m=>
     have hz:((m+1:Nat):Int)-1=(m:Int):=ae;rw[hz];rcases HD.out.2.2.1.read with⟨-,h2⟩|⟨gv,c',heq,-,hgv,-,-,fd⟩;·rw[HL.out]at h2;rw[h2]at hj;simp at hj
     ·rw[HL.out]at fd;obtain⟨e1,e2⟩:=fd m ab;injection heq with hp MD Hh;clear MD Hh;subst hp;rw[uF]at e1 e2;obtain⟨⟨x,t⟩,hx⟩:∃q,l[m]=q:=⟨_,rfl⟩;rw[hx]at e1 e2;simp only[]at e1 e2;have hw1:IntKind.i64.wrap ((m:Int)-1)=(m:Int)-1:=oG _ ab;by_cases hxk:x=k;·subst hxk;have qK:=alC l m ab (by rw[hx]) DX;rw[hx]at qK;have HA:=ag qK;clear qK DX hx fd QW;go_wp2_with fail;go_ret2;exact⟨by rw[HA.out];rfl,aJ _ _⟩
      ·have att:∀q∈l.drop m,q.1≠k:=by
        rw[fl ab];intro q hq;rcases aO.1 hq with rfl|hq;·rw[hx];omega
        ·exact DX q hq
       have HN:=ag att;clear DX att hx fd QW;go_wp2_with fail;go_round;case rel=>exact⟨m,ab,rfl,HN.out⟩
       case measure=>simp[intOf]
def yO(d:lT)(n:Int):lT:={d with eS:=true,left:=max n 0}
def aot w g gm v cap B d n(hd:cD w g gm v cap B d):Calls prog 84 #[aG g,al n] w fun e w'=>e=.returned (.tuple #[])∧cD w' g gm v cap B (yO d n)∧Touch g gm w v w' v:=by obtain⟨m,safe,waits,on,eS,left,steps⟩:=d;have HD:=ag hd;obtain⟨c0,c1,c2,c3,c4,c5,c6⟩:=kr hd;have q4:=hd.1.frozen 4;have q5:=hd.1.frozen 5;clear hd;simp only[]at c0 c1 c2 c3 c4 c5 c6;unfold yO;by_cases h0:0≤n;have hm:max n 0=n:=ab;rw[hm];go_enter func84,ntmps84;go_wp2_with fail;go_end0;obtain⟨UZ,t0⟩:=cD.set (i:=4) (u:=.bool true) (d':=⟨m,safe,waits,on,true,left,steps⟩) HD.o rfl rfl rfl;obtain⟨wk,t1⟩:=cD.set (i:=5) (u:=al (n)) (d':=⟨m,safe,waits,on,true,n,steps⟩) UZ rfl rfl rfl;exact⟨rfl,wk,t0.trans t1⟩;have hm:max n 0=0:=ab;rw[hm];go_enter func84,ntmps84;go_wp2_with fail;go_end0;obtain⟨UZ,t0⟩:=cD.set (i:=4) (u:=.bool true) (d':=⟨m,safe,waits,on,true,left,steps⟩) HD.o rfl rfl rfl;obtain⟨wk,t1⟩:=cD.set (i:=5) (u:=al (0)) (d':=⟨m,safe,waits,on,true,0,steps⟩) UZ rfl rfl rfl;exact⟨rfl,wk,t0.trans t1⟩
def Gz(n:Int):lT:=⟨n,fun _=>none,[],true,false,0,0⟩
def ae1 w n(h0:1≤n)(h1:n≤4096):Calls prog 13 #[al n] w fun e w'=>e=.returned (.pointer (some (aD (w.heap.size+1) 0)))∧cD w' (w.heap.size+1) w.heap.size (.slice none 0 0) 0 w.heap.size (Gz n)∧Below w.heap.size w w':=by have d1:decide (n<1)=false:=aR;have d2:decide (4096<n)=false:=aR;have hmm:=@run_makeMap prog;go_enter func13,ntmps13;go_wp2_with fail;go_ret;refine⟨rfl,⟨aM.jb ae _ _,(nB.new w).kept (row:=none) (pR ((aJ _ _).alloc (au _) _) none) ae,nQ.none _ _,ae,au _⟩,((aJ _ _).alloc (au _) _).alloc ae _⟩
def Ww(w:World)(g gm:Nat)(v kv:Value)(ks:List Bool):Prop:=ks.length≤maxLen∧∃p c,kv=.slice p ks.length c∧(0<ks.length→∃b o,p=some (aD b o)∧b<w.heap.size∧∀w' v',Touch g gm w v w' v'→∀i(h:i<ks.length),w'.cell? (aD b (o+i))=some (.bool ks[i]))
def UF(d:lT)(cc:Nat)(p:Int×Bz):Bz:=p.2.take cc++(iL d p.1).drop cc
def rH(ks:List Bool)(bS:Int)(cc:Nat)(d:lT)(i:Nat)(p:Int×Bz):lT:=if ks[i]?=some true then yw d p.1 (if(i:Int)=bS then UF d cc p else p.2)else d
def eN(ks:List Bool)(bS:Int)(cc:Nat)(d:lT)(l:List (Int×Bz)):Nat→lT|0=>d|i+1=>match l[i]? with|some p=>rH ks bS cc (eN ks bS cc d l i) i p|none=>eN ks bS cc d l i
def jn(d:lT):Prop:=∀k s,d.safe k=some s→s.length=64
theorem jn.iL {d}(h:jn d)k:(iL d k).length=64:=by unfold Go.Proofs.YtlddafbgfkocjaaGreatDoor.iL;rcases hs:d.safe k with _|s;rfl;exact h k s hs
def jn.gj {d}(h:jn d)k {s}(hs:s.length=64):jn (yw d k s):=by intro j u hu;unfold yw at hu;simp only[]at hu;split at hu;unfold ah6 Ua at hu;split at hu;cases hu;exact h j u (by simpa[*]using hu);unfold Ua at hu;split at hu;rw[←lM hu];exact hs;exact h j u hu
def oW(n:Int)(l:List (Int×Bz)):Prop:=∀p∈l,(Lit.int .i64 p.1).wf=true∧p.2.length=64∧vk n p.1=true
def alD ks bS cc d i p:(rH ks bS cc d i p).n=d.n∧(rH ks bS cc d i p).waits=d.waits∧(rH ks bS cc d i p).left=d.left∧(rH ks bS cc d i p).steps=d.steps:=by unfold rH;split;exact⟨rfl,rfl,rfl,rfl⟩;exact⟨rfl,rfl,rfl,rfl⟩
theorem Qa ks bS cc d l:∀i,(eN ks bS cc d l i).n=d.n∧(eN ks bS cc d l i).waits=d.waits∧(eN ks bS cc d l i).left=d.left∧(eN ks bS cc d l i).steps=d.steps:=by
 intro i;induction i with|zero=>exact⟨rfl,rfl,rfl,rfl⟩|succ i ih=>
  unfold eN;split;·obtain⟨a1,a2,a3,a4⟩:=alD ks bS cc (eN ks bS cc d l i) i (by assumption);exact⟨a1.trans ih.1,a2.trans ih.2.1,a3.trans ih.2.2.1,a4.trans ih.2.2.2⟩
  ·exact ih
def Ze {d}(h:jn d){cc}(hc:cc≤64){p}(hp:p.2.length=64):(UF d cc p).length=64:=by unfold UF;rw[aw,bo,bV,h.iL,hp];omega
def NY {ks bS cc d l}(h:jn d)(hc:cc≤64)(hw:oW d.n l):∀i,jn (eN ks bS cc d l i):=by
 intro i;induction i with|zero=>exact h|succ i ih=>
  unfold eN;split;·rename_i p hp;have Wk:=(hw p (aT hp)).2.1;unfold rH;split;refine ih.gj _ ?_;split;exact Ze ih hc Wk;exact Wk;exact ih
  exact ih
def NX {ks bS cc d l i p}(h:l[i]?=some p):eN ks bS cc d l (i+1)=rH ks bS cc (eN ks bS cc d l i) i p:=by rw[eN,h]
def Ko {w g x t u cs ds}(h:aM w g t cs)(k:aM w x u ds)(gQ:t≠u):g≠x:=by rintro rfl;unfold aM at h k;rw[h]at k;injection k with k;injection k with _ k _;exact gQ k
def cD.arI {w g gm x v cap B d cs}(hd:cD w g gm v cap B d)(hx:aM w x 222 cs)(hv:v.ownBlock≠some x)i u:cD (w.setCell (aD x i) u) g gm v cap B d:=by have hg:=ja w x i u;exact⟨hd.1.grown hg (by simpa using Ko hd.1 hx ah),hd.2.1.kept hg Sr,hd.2.2.1.grown hg (.inr hv),hd.2.2.2.1,hd.2.2.2.2⟩
def Touch.arJ {w w2 g gm x v v2}(h:Touch g gm w v w2 v2)(hx:w.heap.size≤x)i u:Touch g gm w v (w2.setCell (aD x i) u) v2:=⟨h.os,h.tape,h.output,by simpa[World.setCell]using h.size,fun k hk h1 h2 h3=>(iJ w2 (aD x i) u k aR).trans (h.block k hk h1 h2 h3),h.own⟩
def dH(ks:List Bool)(bS:Int)(cc:Nat)(d:lT):lT:={eN ks bS cc d d.waits d.waits.length with waits:=[],on:=true,eS:=false}
def ah9 w g gm v kv cap B d ks bS cut(hd:cD w g gm v cap B d)(hkv:Ww w g gm v kv ks)(hs:jn d)(hw:oW d.n d.waits)(hn0:d.n≠0)(hn:cap+d.waits.length<4611686018427):Calls prog 85 #[aG g,kv,al bS,al cut] w fun e w'=>e=.returned (.tuple #[])∧∃eU,eU≤cap+d.waits.length∧cD w' g gm (.slice none 0 0) eU B (dH ks bS (min (max cut 0) 64).toNat d)∧Touch g gm w v w' (.slice none 0 0):=by
 obtain⟨cc,tU,hcut⟩:∃cc:Nat,(min (max cut 0) 64).toNat=cc∧(cut<0∧cc=0∨cut=cc∨64<cut∧cc=64):=⟨_,rfl,ab⟩;have awb:cc≤64:=ab;rw[tU];clear tU;obtain⟨l,hl⟩:=aZ d.waits;unfold dH;rw[hl]at hw hn⊢;obtain⟨EY,kp,kc,rfl,akk⟩:=hkv;have ayk:ks.length<9223372036854775808:=by unfold maxLen at EY;omega
 have HKC:=ag akk;have HD:=ag hd;have HL:=ag hl;have HW:=ag hw;have HS:=ag hs;have hz:(d.n==0)=false:=by simpa using hn0
 obtain⟨c0,c1,c2,c3,c4,c5,c6⟩:=kr hd;obtain⟨p,c,hv⟩:=hd.2.2.1.form;rw[hl]at hv;subst hv;clear hd hl hw hs akk;rcases hcut with⟨hcut,tU⟩|rfl|⟨hcut,tU⟩;all_goals
  first|(have HCC:=ag tU;clear tU)|skip
  go_enter func85,ntmps85;go_wp2_with fail;try rw[show(0:Int)=(cc:Int)by have:=HCC.o;omega]
  try rw[show(64:Int)=(cc:Int)by have:=HCC.o;omega]
  go_loopw [27](fun i wr=>∃(j eU:Nat),j≤l.length∧i=al j∧eU≤cap+j∧cD wr g gm (.slice p l.length c) eU B (eN ks bS cc d l j)∧Touch g gm w (.slice p l.length c) wr (.slice p l.length c))(fun i _=>l.length-(intOf i).toNat);case atStart=>exact⟨0,cap,aI _,(by first|rfl|rw[HCC.o]),ab,HD.o,Touch.refl _ _ _ _⟩
  case round=>
   obtain⟨j,eU,hj,rfl,Bb,hd,ht⟩:=hrel;have hwt:(eN ks bS cc d l j).waits=l:=by rw[(Qa _ _ _ _ _ _).2.1,HL.o]
   by_cases eo:j<l.length
   ·have iq:eN ks bS cc d l (j+1)=rH ks bS cc (eN ks bS cc d l j) j l[j]:=NX (aW eo);obtain⟨kZ,lQ,tD⟩:=HW.o l[j] (bH eo);have hso:=NY (ks:=ks) (bS:=bS) HS.o awb HW.o j;rcases hd.2.2.1.read with⟨-,h2⟩|⟨gv,c',heq,-,hgv,-,-,fd⟩;rw[hwt]at h2;rw[h2]at eo;simp at eo
    ·rw[hwt]at fd;obtain⟨e1,e2⟩:=fd j eo;injection heq with hp MD Hh;clear MD Hh;subst hp;rw[uF]at e1 e2;obtain⟨⟨k,t⟩,hx⟩:∃q,l[j]=q:=⟨_,rfl⟩;rw[hx]at e1 e2 iq kZ lQ tD;simp only[]at e1 e2 kZ lQ tD;have QX:vk (eN ks bS cc d l j).n k=true:=by rw[(Qa _ _ _ _ _ _).1];exact tD
     have hzl:=hso.iL k;have wk:=hd.step ((aJ wr.heap.size wr).alloc (au _) (.cells #[al k,str t] 222));have t1:=ht.trans (Touch.nN (g:=g) (gm:=gm) (v:=.slice (some (aD gv 0)) l.length c) ((aJ wr.heap.size wr).alloc (au _) (.cells #[al k,str t] 222)));have nR:=ht.size;have X1:=ag (aM.new wr 222 #[al k,str t]);by_cases NU:j<ks.length
     ·obtain⟨b,o,hkp,hbw,hkc⟩:=HKC.o ab;subst hkp;have ajS:wr.cell? (aD b (o+j))=some (.bool ks[j]):=hkc wr _ ht j NU;have lt1:b<wr.heap.size:=bi hbw ht.size;obtain⟨u,hu⟩:=aZ (ks[j]);rw[hu]at ajS;cases u
      ·skip;have CJ:eN ks bS cc d l (j+1)=eN ks bS cc d l j:=by rw[iq];unfold rH;rw[aW NU,hu];rfl
       rw[←CJ]at wk;have lJ:=ag wk;have T1:=ag t1;clear iq CJ hd wk t1 ht hx hu fd hkc hso hzl c0 c1 c2 c3 c4 c5 c6 X1 QX;go_wp2_with fail;go_roundw;case rel=>exact⟨j+1,eU,ab,ip,ab,lJ.o,T1.o⟩
       case measure=>exact bC
      ·by_cases ap4:(j:Int)=bS
       ·subst ap4;have CJ:eN ks (j:Int) cc d l (j+1)=yw (eN ks (j:Int) cc d l j) k (UF (eN ks (j:Int) cc d l j) cc (k,t)):=by rw[iq];unfold rH;rw[aW NU,hu,if_pos rfl,if_pos rfl]
        unfold UF at CJ;obtain⟨z,UN⟩:=aZ (iL (eN ks (j:Int) cc d l j) k);simp only[]at CJ;rw[UN]at CJ hzl;obtain⟨X,hX⟩:=aZ (List.take cc t);obtain⟨Y,hY⟩:=aZ (List.take (64-cc) (List.drop cc z));have hci:(cc:Int)≤64:=ab;have hzY:z.drop cc=Y:=by rw[←hY,aL];rw[bV,hzl];omega
        have hXY:¬9223372036854775807<X.length+Y.length:=by rw[←hX,←hzY,bo,bV];omega
        have atu:(X++Y).length=64:=by rw[←hX,←hzY,aw,bo,bV];omega
        rw[hX,hzY]at CJ;have HXY:=ag atu;clear hzY atu;obtain⟨D,hD⟩:=aZ (eN ks (j:Int) cc d l j);rw[hD]at CJ wk UN QX;have QY:=ag CJ;have lJ:=ag wk;have T1:=ag t1;have HZ:=ag UN;have HH:=ag QX;clear iq CJ hd wk t1 ht hx hu fd hkc hso c0 c1 c2 c3 c4 c5 c6 hD UN QX;go_wp2_with fail;have hwx:=nR;have hgx:=hgv;generalize wr.alloc (.cells #[al k,str t] 222)=w1 at*;generalize wr.heap.size=x at*;refine eO 12 (fun w'=>w'.cell? (aD x 0)=some (al k)∧w'.cell? (aD x 1)=some (str t)) ad ⟨X1.o.cell 0,X1.o.cell 1⟩ (fun hS=>?_);refine ib 0 46 hS ?_;refine yG 1 47 rfl (by rintro _⟨k1,k2⟩;exact fj) hS ?_;refine ib 2 48 hS ?_;refine ib 3 49 hS ?_;refine ib 4 50 hS ?_;refine ib 5 51 hS ?_;refine yG 6 52 rfl (by rintro _⟨k1,k2⟩;exact fj) hS ?_;refine ib 8 54 hS ?_;refine du 7 ad rfl (fun K hK=>?_);go_simp;refine(aa9 _ g gm _ _ B _ k (lJ.o.drew 1) kZ).mono ?_;rw[HH.o];rintro e w2⟨rfl,ft⟩;have X2:=ag (X1.o.drew.step ft);have mw:=ag ((lJ.o.drew 1).step ft);have T2:=ag (T1.o.drew.trans (Touch.nN (g:=g) (gm:=gm) ft));rw[HZ.o];refine hK.out _ _ ⟨X2.o.cell 0,X2.o.cell 1⟩ (fun hS=>?_);try simp only[]
        refine ib 9 55 hS ?_;refine ib 10 56 hS ?_;refine ib 11 57 hS ?_;refine jC ad rfl ad (fun K hK=>?_);have q0:=X2.o.frozen 1;refine kD ?_;have QU:=cD.arI mw.o X2.o (by simp[Value.ownBlock];omega) 1 (str (X++Y));have t3:=Touch.arJ T2.o hwx 1 (str (X++Y));have X3:aM (w2.setCell (aD x 1) (str (X++Y))) x 222 #[al k,str (X++Y)]:=X2.o.dq 1 (str (X++Y));generalize w2.setCell (aD x 1) (str (X++Y))=w3 at*;have x0:w3.cell? (aD x 0)=some (al k):=X3.cell 0;have x1:w3.cell? (aD x 1)=some (str (X++Y)):=X3.cell 1;have HD4:=ag QU;have T4:=ag t3;clear QU t3 X3 hS hci hXY;go_wp2_with fail;refine(PY _ g gm _ eU B _ k (X++Y) HD4.o kZ (by rw[HXY.o];decide) gz).mono ?_;rintro e w4⟨rfl,hd5,t5⟩;have t6:=T4.o.trans t5;rw[←QY.o]at hd5;have HD5:=ag hd5;have HT6:=ag t6;clear HD4 T4 hd5 t5 t6 e1 e2 ajS x0 x1 mw T2 X2 lJ T1 X1;go_wp2;go_roundw;case rel=>exact⟨j+1,eU+1,ab,ip,ab,HD5.o,HT6.o⟩
        case measure=>exact bC
       ·have CJ:eN ks bS cc d l (j+1)=yw (eN ks bS cc d l j) k t:=by rw[iq];unfold rH;rw[aW NU,hu,if_pos rfl,if_neg ap4]
        have QY:=ag CJ;have lJ:=ag wk;have T1:=ag t1;clear iq CJ hd wk t1 ht hx hu fd hkc hso hzl c0 c1 c2 c3 c4 c5 c6 X1 QX;go_wp2_with fail;refine(PY _ g gm _ eU B _ k t lJ.o kZ gz gz).mono ?_;rintro e w2⟨rfl,QU,t3⟩;have t4:=T1.o.trans t3;rw[←QY.o]at QU;have Km:=ag QU;have HT4:=ag t4;clear lJ T1 QU t3 t4 e1 e2 ajS;go_wp2;go_roundw;case rel=>exact⟨j+1,eU+1,ab,ip,ab,Km.o,HT4.o⟩
        case measure=>exact bC
     ·have CJ:eN ks bS cc d l (j+1)=eN ks bS cc d l j:=by rw[iq];unfold rH;rw[cU ab];rfl
      rw[←CJ]at wk;have lJ:=ag wk;have T1:=ag t1;clear iq CJ hd wk t1 ht hx fd hso hzl c0 c1 c2 c3 c4 c5 c6 X1 QX;go_wp2_with fail;go_roundw;case rel=>exact⟨j+1,eU,ab,ip,ab,lJ.o,T1.o⟩
      case measure=>exact bC
   have hjl:j=l.length:=ab;subst hjl;obtain⟨-,-,e3,e4,e5,-⟩:=kr hd;have q2:=hd.1.frozen 2;have q3:=hd.1.frozen 3;have q4:=hd.1.frozen 4;have mw:=ag hd;have HT:=ag ht;clear hd ht c0 c1 c2 c3 c4 c5 c6;go_wp2;go_end0;have QU:=cD.PZ (v2:=.slice none 0 0) (L:=[]) ⟨mw.o.1,mw.o.2.1,nQ.none _ _,mw.o.2.2.2.1,mw.o.2.2.2.2⟩;have t3:=HT.o.trans (Touch.Fe (g:=g) (gm:=gm) (v:=.slice p l.length c) (ja wr g 2 (.slice none 0 0)) (.inl rfl));obtain⟨hd4,t4⟩:=cD.set (i:=3) (u:=.bool true) (d':={eN ks bS cc d l l.length with waits:=[],on:=true}) QU rfl rfl rfl;obtain⟨hd5,t5⟩:=cD.set (i:=4) (u:=.bool false) (d':={eN ks bS cc d l l.length with waits:=[],on:=true,eS:=false}) hd4 rfl rfl rfl;exact⟨rfl,eU,Bb,hd5,(t3.akh.trans t4).trans t5⟩
theorem Mf {d}(h:d.eS=false):oN d=true:=by grind[oN]
def Gf:∀(l)(d),(kG d l).n=d.n∧(kG d l).on=d.on∧(kG d l).eS=d.eS∧(kG d l).left=d.left∧(kG d l).steps=d.steps:=by intro l;induction l with|nil=>intro d;simp[kG]|cons p l ih=>intro d;simp_all[yw,kG]
def YB {n}:∀(l)(d),oW n l→jn d→jn (kG d l):=by intro l;induction l with|nil=>intro d _ h;exact h|cons p l ih=>intro d hw h;exact ih (yw d p.1 p.2) (fun q hq=>hw q ai) (h.gj _ (hw p ae).2.1)
def IU d k s j:iL (yw d k s) j=if j=k then s else iL d j:=by unfold iL yw;simp only[];by_cases hz:(s==vD)=true;rw[if_pos hz];unfold ah6 Ua;grind;rw[if_neg hz];unfold Ua;grind
theorem nj {d d'}(h:d'.safe=d.safe)j:iL d' j=iL d j:=by grind[iL]
def Vx j:∀(l)(d),iL (kG d l) j=(vF j l).getD (iL d j):=by intro l;induction l with|nil=>intro d;rfl|cons p l ih=>intro d;show iL (kG (yw d p.1 p.2) l) j=_;rw[ih,IU];simp only[vF];grind
def Wx {d k s}(h1:d.on=true)(h2:vk d.n k=true)(h3:s.length=64):nd d k s=mJ d k s:=by grind[nd]
theorem IV d:(oU d).safe=d.safe:=uf
theorem yp d:(oU d).waits=d.waits:=uf
theorem Pk d:(oU d).n=d.n:=uf
theorem Qb d:(oU d).on=d.on:=uf
def zqF d k s:(mJ d k s).safe=d.safe:=by grind[mJ,IV]
def Lu d k s:(mJ d k s).waits=d.waits++[(k,s)]:=rfl
def Lt d j:iL (Hx (oU d)) j=dI d j:=by have h:iL (Hx (oU d)) j=iL (kG (oU d) (oU d).waits) j:=nj rfl j;rw[h,Vx,yp,nj (IV d)];rfl
def Zf d j : dI (Hx (oU d)) j = dI d j := by
  conv => lhs; unfold dI
  rw [Lt]
  rfl
theorem acf {ks bS cc d l k}:∀i,(∀p∈l.take i,p.1≠k)→iL (eN ks bS cc d l i) k=iL d k:=by
 intro i;induction i with|zero=>intro _;rfl|succ i ih=>
  intro h;unfold eN;split;·rename_i p hp;have eo:i<l.length:=(bf.1 hp).1;have hpe:l[i]=p:=(bf.1 hp).2;have h0:∀q∈l.take i,q.1≠k:=fun q hq=>h q ai;have h1:p.1≠k:=h p (by grind[List.take_add_one]);unfold rH;split;rw[IU,if_neg (fun e=>h1 e.symm)];grind;grind
  grind[List.take_add_one]
def uL ks bS cc d k:iL (dH ks bS cc d) k=iL (eN ks bS cc d d.waits d.waits.length) k:=nj rfl k
def FY {ks bS cc}(tU:cc≤64){d l}(hp:l.Pairwise (fun a b=>a.1≠b.1))(hl:∀p∈l,p.2.length=64)(hs:jn d):∀i,i≤l.length→∀q,iL (eN ks bS cc d l i) q=iL d q∨∃p∈l,p.1=q∧∃c,c≤64∧iL (eN ks bS cc d l i) q=p.2.take c++(iL d q).drop c:=by
 intro i;induction i with|zero=>intro _ q;simp[eN]|succ i ih=>
  intro hi q;have eo:i<l.length:=ab;obtain⟨p,hpe⟩:∃p,l[i]?=some p:=⟨_,aW eo⟩;have hpm:p∈l:=aT hpe;rw[NX hpe];unfold rH;split;rw[IU];by_cases hq:q=p.1;subst hq;rw[if_pos rfl];refine .inr ⟨p,hpm,rfl,?_⟩;have DX:iL (eN ks bS cc d l i) p.1=iL d p.1:=by grind[acf,List.mem_iff_getElem,List.pairwise_iff_getElem]
  split;exact⟨cc,tU,by grind[UF]⟩;refine⟨64,au _,?_⟩;rw[aL ai,List.drop_eq_nil_of_le (by rw[hs.iL];simp),cq];rw[if_neg hq];exact ih ab q;exact ih ab q
def sX ks bS cc d q:dI (dH ks bS cc d) q=iL (dH ks bS cc d) q:=rfl
def pD(n:Int)(j:Nat)(d:lT):Prop:=d.n=n∧0≤d.left∧d.left≤100∧0≤d.steps∧d.steps≤j∧d.waits.length≤j∧oW n d.waits∧jn d
section
variable{n:Int}{j:Nat}{d:lT}
def pD.new n:pD n 0 (Gz n):=⟨rfl,ef _,by show(0:Int)≤100;simp,ef _,ef _,au _,JL,fun k s h=>by cases h⟩
def pD.ok(h:pD n j d)(hj:j≤1000000):OkD d:=by obtain⟨-,h2,h3,h4,h5,h6,-,-⟩:=h;exact⟨h2,ab,h4,ab,ab⟩
def pD.more(h:pD n j d):pD n (j+1) d:=by obtain⟨h1,h2,h3,h4,h5,h6,h7,h8⟩:=h;exact⟨h1,h2,h3,h4,ab,ab,h7,h8⟩
def Oi(h:pD n j d)(hg:oN d=true):pD n (j+1) (oU d):=by obtain⟨h1,h2,h3,h4,h5,h6,h7,h8⟩:=h;refine⟨(Pk d).trans h1,?_,?_,?_,?_,by grind[yp],by grind[yp],fun k s hk=>h8 k s (by grind[IV])⟩;all_goals grind[oU,oN]
def pD.off(h:pD n j d):pD n (j+1) {d with on:=false}:=by obtain⟨h1,h2,h3,h4,h5,h6,h7,h8⟩:=h;exact⟨h1,h2,h3,h4,ai,ai,h7,h8⟩
def pD.push(h:pD n (j+1) d){k s}(hl:d.waits.length≤j)(hk:vk n k=true)(hw:(Lit.int .i64 k).wf=true)(hs:s.length=64):pD n (j+1) {d with waits:=d.waits++[(k,s)]}:=by obtain⟨h1,h2,h3,h4,h5,h6,h7,h8⟩:=h;refine⟨h1,h2,h3,h4,h5,ai,?_,h8⟩;intro p hp;rcases cQ.1 hp with hp|hp;exact h7 p hp;grind
def pD.write(h:pD n j d){k s}(hw:(Lit.int .i64 k).wf=true):pD n (j+1) (nd d k s):=by
 unfold nd;split
 ·split
  ·rename_i hk;split;·rename_i hs;unfold mJ;rcases hg:oN d with _|_;exact(h.off).push (d:={d with on:=false}) h.2.2.2.2.2.1 (h.1▸hk) hw hs;have h2:=(Oi h hg).push (k:=k) (s:=s) (by rw[yp];exact h.2.2.2.2.2.1) (h.1▸hk) hw hs;rw[yp]at h2;grind
   exact h.more
  exact h.more
 exact h.more
def pD.flush(h:pD n j d):pD n (j+1) (ma d):=by
 unfold ma;split
 ·unfold ah7;split;·rename_i hg;obtain⟨h1,h2,h3,h4,h5,h6,h7,h8⟩:=Oi h hg;obtain⟨f1,f2,f3,f4,f5⟩:=Gf (oU d).waits (oU d);unfold Hx;exact⟨f1.trans h1,ai,ai,ai,ai,ae,(by intro p hp;grind),YB (n:=n) _ _ h7 h8⟩
  exact h.off
 exact h.more
def pD.arm(h:pD n j d){k}(hk:k≤100):pD n (j+1) (yO d k):=by obtain⟨h1,h2,h3,h4,h5,h6,h7,h8⟩:=h;exact⟨h1,Du,Du,h4,Du,Du,h7,h8⟩
def pD.LH(h:pD n j d)ks bS {cc}(tU:cc≤64):pD n (j+1) (dH ks bS cc d):=by obtain⟨h1,h2,h3,h4,h5,h6,h7,h8⟩:=h;obtain⟨a1,a2,a3,a4⟩:=Qa ks bS cc d d.waits d.waits.length;have hs:=NY (ks:=ks) (bS:=bS) h8 tU (h1▸h7) d.waits.length;exact⟨a1.trans h1,by show 0≤(eN ks bS cc d d.waits d.waits.length).left;omega,by show(eN ks bS cc d d.waits d.waits.length).left≤100;omega,by show 0≤(eN ks bS cc d d.waits d.waits.length).steps;omega,by show(eN ks bS cc d d.waits d.waits.length).steps≤_;omega,aI _,JL,hs⟩
end
end Go.Proofs.YtlddafbgfkocjaaGreatDoor
