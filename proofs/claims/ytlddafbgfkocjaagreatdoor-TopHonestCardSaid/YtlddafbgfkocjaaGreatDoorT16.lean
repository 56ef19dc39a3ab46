/- A part of TopHonest. -/
import Derived.Test.YtlddafbgfkocjaaGreatDoorT05
import Derived.Test.YtlddafbgfkocjaaGreatDoorT15
namespace Go.Proofs.YtlddafbgfkocjaaGreatDoor
open Go.RowKit Go.Proofs.Tryz
set_option linter.all false
set_option maxRecDepth 1000000
set_option maxHeartbeats 400000000
def Un(s:Bz)(j:Nat):Bz:=(s.drop (j*8)).take 8
def nU(s:Bz)(j:Nat):Nat:=val (Un s j)
def Cq(s:Bz):Prop:=s.length=64∧nU s 0≤1099511627776∧nU s 1≤1099511627776∧nU s 2≤1099511627776
instance(s:Bz):Decidable (Cq s):=by unfold Cq;infer_instance
def fQ(s:Bz):(Int×Int×Int)×Bool:=if Cq s∧jg (nU s 0) (nU s 1) (nU s 2)=s then((nU s 0,nU s 1,nU s 2),true)else((0,0,0),false)
theorem Oj {s}(h:s.length=64){j}(hj:j<3):(Un s j).length=8:=by simp[Un,h];omega
def amR s j:List.take ((j+1)*8-j*8) (List.drop (j*8) s)=Un s j:=by unfold Un;rw[show(j+1)*8-j*8=8 from ab]
def yE(s:Bz)(j:Nat):Array Value:=#[al (if 0<j then(nU s 0:Int)else 0),al (if 1<j then(nU s 1:Int)else 0),al (if 2<j then(nU s 2:Int)else 0)]
def ajf s {j}(hj:j<3):(yE s j).setIfInBounds j (al (nU s j:Int))=yE s (j+1):=by have h3:j=0∨j=1∨j=2:=ab;rcases h3 with rfl|rfl|rfl<;>simp[yE]
def aje s {j}(hj:j<3):(yE s j)[j]?=some (al 0):=by have h3:j=0∨j=1∨j=2:=ab;rcases h3 with rfl|rfl|rfl<;>simp[yE]
def oV:Array Value:=#[al 0,al 0,al 0]
def cells3 {w g t a b c}(h:aM w g t #[a,b,c]):w.cell? (aD g 0)=some a∧w.cell? (aD g 1)=some b∧w.cell? (aD g 2)=some c∧w.frozen? (aD g 0)=false∧w.frozen? (aD g 1)=false∧w.frozen? (aD g 2)=false:=⟨h.cell 0,h.cell 1,h.cell 2,h.frozen 0,h.frozen 1,h.frozen 2⟩
def RC s(hs:s.length≤140737488351232)w e0 b0 c0 ok(hu:fQ s=((e0,b0,c0),ok)):Calls prog 155 #[str s] w fun e w'=>e=.returned (.tuple #[.agg #[.int .i64 e0,.int .i64 b0,.int .i64 c0],.bool ok])∧Below w.heap.size w w':=by
 have HU:=ag hu;clear hu;go_enter func155,ntmps155;by_cases Va:s.length=64
 ·have ayz:(s.length==64)=true:=by simpa using Va
  have ayC:(s.length !=64)=false:=by simpa using Va
  go_wp2_with fail;go_step3;go_wp2_with fail;go_step3;obtain⟨gm,hgm⟩:=aZ w.heap.size;obtain⟨g,hg⟩:=aZ (w.heap.size+1);have hz:(w.alloc (.cells oV 181)).heap.size=w.heap.size+1:=by simp
  have X1:aM ((w.alloc (.cells oV 181)).alloc (.cells (yE s 0) 268)) g 268 (yE s 0):=aM.jb (by rw[hz];exact hg.symm) _ _;have Y1:aM ((w.alloc (.cells oV 181)).alloc (.cells (yE s 0) 268)) gm 181 oV:=(aM.jb hgm.symm _ _).alloc _;have B1:Below w.heap.size w ((w.alloc (.cells oV 181)).alloc (.cells (yE s 0) 268)):=((aJ _ _).alloc (au _) _).alloc (by simp) _;rw[hg,hgm];change Exit.then _ _ _ _ ((w.alloc (.cells oV 181)).alloc (.cells (yE s 0) 268));generalize(w.alloc (.cells oV 181)).alloc (.cells (yE s 0) 268)=w1 at X1 Y1 B1⊢;have hgB:w.heap.size≤g:=by omega
  have aus:w.heap.size≤gm:=by omega
  have gQ:g≠gm:=by omega
  have HX:=ag X1;have HY:=ag Y1;have HB:=ag B1;have HG:=ag (And.intro hgB (And.intro aus gQ));clear X1 Y1 B1 hz hgm hg hgB aus gQ;go_wp2_with fail;go_loopw [15,5](fun i r wr=>∃j:Nat,j≤3∧i=.int .i64 j∧r=.bool true∧(∀q,q<j→nU s q≤1099511627776)∧aM wr g 268 (yE s j)∧aM wr gm 181 oV∧Below w.heap.size w wr)(fun i _ _=>3-(intOf i).toNat);case atStart=>exact⟨0,aI _,rfl,rfl,fun q hq=>absurd hq (jQ _),HX.out,HY.out,HB.out⟩
  case round=>
   obtain⟨j,hj,rfl,rfl,hq,hx,hy,hb⟩:=hrel;have HQ:=ag hq;have HX:=ag hx;have HY:=ag hy;have HB:=ag hb;clear hq hx hy hb;by_cases eo:j<3
   ·have yY:(j:Int)<3:=by omega
    obtain⟨t,ht⟩:=aZ (Un s j);have htl:t.length=8:=by rw[←ht];exact Oj Va eo
    have kb:=ng (P:=prog) wr 9 137 5 ⟨t.toArray⟩ underlying9 underlying137 underlying5;have hct:=amR s j;rw[ht]at hct;go_wp2_with fail;have hw2:Below w.heap.size w (wr.alloc (Obj.cells (bytesRow ⟨t.toArray⟩ (grownCap wr 8 0 5)) 5 ((bytesRow ⟨t.toArray⟩ (grownCap wr 8 0 5)).size,(bytesRow ⟨t.toArray⟩ (grownCap wr 8 0 5)).size+1))).drew:=(HB.out.alloc HB.out.size _).drew;have uX:=(HX.out.alloc (Obj.cells (bytesRow ⟨t.toArray⟩ (grownCap wr 8 0 5)) 5 ((bytesRow ⟨t.toArray⟩ (grownCap wr 8 0 5)).size,(bytesRow ⟨t.toArray⟩ (grownCap wr 8 0 5)).size+1))).drew;have hy2:=(HY.out.alloc (Obj.cells (bytesRow ⟨t.toArray⟩ (grownCap wr 8 0 5)) 5 ((bytesRow ⟨t.toArray⟩ (grownCap wr 8 0 5)).size,(bytesRow ⟨t.toArray⟩ (grownCap wr 8 0 5)).size+1))).drew;have fd:∀k(hk:k<t.length),(wr.alloc (Obj.cells (bytesRow ⟨t.toArray⟩ (grownCap wr 8 0 5)) 5 ((bytesRow ⟨t.toArray⟩ (grownCap wr 8 0 5)).size,(bytesRow ⟨t.toArray⟩ (grownCap wr 8 0 5)).size+1))).drew.cell? ⟨wr.heap.size,k,none⟩=some (.int .u8 (t[k].toNat:Int)):=fun k hk=>Pv wr t (grownCap wr 8 0 5) k hk;have hws:((wr.alloc (Obj.cells (bytesRow ⟨t.toArray⟩ (grownCap wr 8 0 5)) 5 ((bytesRow ⟨t.toArray⟩ (grownCap wr 8 0 5)).size,(bytesRow ⟨t.toArray⟩ (grownCap wr 8 0 5)).size+1))).drew).heap.size=wr.heap.size+1:=by simp[World.drew]
    generalize(wr.alloc (Obj.cells (bytesRow ⟨t.toArray⟩ (grownCap wr 8 0 5)) 5 ((bytesRow ⟨t.toArray⟩ (grownCap wr 8 0 5)).size,(bytesRow ⟨t.toArray⟩ (grownCap wr 8 0 5)).size+1))).drew=wv at hw2 uX hy2 fd hws⊢;have pE:=ag hw2;have we:=ag uX;have HY2:=ag hy2;have HC:=ag fd;have HT:=ag ht;rw[show(Value.int .i64 8)=Value.int .i64 (t.length:Int)by rw[htl];rfl];clear hw2 uX hy2 fd hws kb hct ht;go_loop [27,7](fun i n=>∃k:Nat,k≤8∧i=.int .i64 k∧n=.int .u64 (val (t.take k):Nat))(fun i _=>8-(intOf i).toNat);case atStart=>exact⟨0,aI _,rfl,rfl⟩
    case round=>
     obtain⟨k,hk,rfl,rfl⟩:=hrel;by_cases hk8:k<8
     ·have hkt:k<t.length:=by omega
      have Vb:(k:Int)<8:=by omega
      have EY:(k:Int)<(t.length:Int):=by omega
      have hv:val (t.take k)<256^7:=bi (xO k _ (by simp;omega)) (dQ (by decide) (by omega));have hvi:((val (t.take k):Nat):Int)≤72057594037927935:=by have h7:(256:Nat)^7=72057594037927936:=rfl;omega
      have hor:=FJ (val (t.take k)) t[k] hv;have If:t.take (k+1)=t.take k++[t[k]]:=by rw[aS hkt]
      have ZR:=ag If;have Vh:(t[k].toNat:Int)<256:=by have:=t[k].toNat_lt;omega
      have hc:=HC.out k hkt;clear hv If;go_wp2_with fail;go_round;case rel=>exact⟨k+1,by omega,by go_num,by rw[ZR.out,xN];go_num⟩
      case measure=>simp[intOf];omega
     ·obtain rfl:k=t.length:=by omega
      rw[ci];have hvt:val t=nU s j:=by unfold nU;rw[HT.out]
      obtain⟨n,hn⟩:=aZ (val t);rw[hn];have QX:nU s j=n:=hvt.symm.trans hn;have HN:=ag QX;clear hvt hn QX;by_cases Bg:n≤1099511627776
      ·have hfi:(n:Int)≤1099511627776:=by omega
       have hc:=(we.out.cell j).trans (aje s eo);have hf:=we.out.frozen j;go_wp2_with fail;have hx3:=we.out.dq j (.int .i64 (n:Int));rw[←HN.out,ajf s eo,HN.out]at hx3;have hy3:aM (wv.setCell ⟨g,j,none⟩ (.int .i64 (n:Int))) gm 181 oV:=HY2.out.kR (p:=⟨g,j,none⟩) (fun e=>HG.out.2.2 e.symm) _;have AA:=pE.out.setCell (p:=⟨g,j,none⟩) HG.out.1 (.int .i64 (n:Int));go_roundw;case rel=>
        exact⟨j+1,by omega,by go_num,rfl,(fun q hq=>by
         rcases dF q j with h|h;·exact HQ.out q h
         ·obtain rfl:q=j:=by omega
          rw[HN.out];exact Bg),hx3,hy3,AA⟩
       case measure=>simp[intOf];omega
      ·have hfi:¬(n:Int)≤1099511627776:=by omega
       obtain⟨A,hA⟩:∃A:Int,(if 0<j then(nU s 0:Int)else 0)=A:=⟨_,rfl⟩;obtain⟨B,hB⟩:∃B:Int,(if 1<j then(nU s 1:Int)else 0)=B:=⟨_,rfl⟩;obtain⟨C,hC⟩:∃C:Int,(if 2<j then(nU s 2:Int)else 0)=C:=⟨_,rfl⟩;have pJ:yE s j=#[.int .i64 A,.int .i64 B,.int .i64 C]:=by unfold yE;rw[hA,hB,hC]
       have uX:=we.out;rw[pJ]at uX;obtain⟨k0,k1,k2,f0,f1,f2⟩:=cells3 uX;obtain⟨m0,m1,m2,v0,v1,v2⟩:=cells3 HY2.out;have hgv:g<wv.heap.size:=we.out.lt;have ayB:gm<wv.heap.size:=HY2.out.lt;have Vf:g≠wv.heap.size:=by omega
       have hg2:gm≠wv.heap.size:=by omega
       clear uX pJ hA hB hC;go_wp2_with fail;have hnf:fQ s=((0,0,0),false):=by
        unfold fQ Cq;rw[if_neg];rintro⟨⟨_,h0,h1,h2⟩,_⟩;have h3:j=0∨j=1∨j=2:=by omega
        have hnj:=HN.out;rcases h3 with rfl|rfl|rfl<;>omega
       rw[HU.out]at hnf;simp only[aY]at hnf;obtain⟨⟨rfl,rfl,rfl⟩,rfl⟩:=hnf;have pF:=((pE.out.setCell (p:=⟨gm,0,none⟩) HG.out.2.1 (.int .i64 0)).setCell (p:=⟨gm,1,none⟩) HG.out.2.1 (.int .i64 0)).setCell (p:=⟨gm,2,none⟩) HG.out.2.1 (.int .i64 0);refine bu (bB rfl _ _ gm 181 oV _ rfl ((((HY2.out.dq 0 _).dq 1 _).dq 2 _).alloc _) underlying181 rfl (by kernel_rfl)) rfl ?_;exact⟨rfl,pF.alloc pF.size _⟩
   ·obtain rfl:j=3:=by omega
    obtain⟨A,hA⟩:∃A:Int,(nU s 0:Int)=A:=⟨_,rfl⟩;obtain⟨B,hB⟩:∃B:Int,(nU s 1:Int)=B:=⟨_,rfl⟩;obtain⟨C,hC⟩:∃C:Int,(nU s 2:Int)=C:=⟨_,rfl⟩;have pJ:yE s 3=#[.int .i64 A,.int .i64 B,.int .i64 C]:=by rw[←hA,←hB,←hC];rfl
    have uX:=HX.out;rw[pJ]at uX;obtain⟨k0,k1,k2,f0,f1,f2⟩:=cells3 uX;have hgv:g<wr.heap.size:=HX.out.lt;have Vf:g≠wr.heap.size:=by omega
    clear uX pJ;obtain⟨p,hp⟩:=aZ (jg A B C);have HP:=ag hp;have Uw:=ag (And.intro hA (And.intro hB hC));clear hp hA hB hC;have hy:=HY.out;have hb:=HB.out;by_cases hps:p=s
    ·have e1:(p==s)=true:=by simpa using hps
     have e2:(p !=s)=false:=by simpa using hps
     go_wp2_with(go_at_call 133;refine(Qu A B C _).mono ?_;rw[HP.out];rintro e w2⟨rfl,ft⟩;have X9:=aM.step (aM.new wr 181 #[.int .i64 A,.int .i64 B,.int .i64 C]) ft;have Y9:=aM.step (hy.alloc _) ft;have B9:=bP (hb.alloc hb.size _) ft;obtain⟨n0,n1,n2,r0,r1,r2⟩:=cells3 X9;obtain⟨m0,m1,m2,v0,v1,v2⟩:=cells3 Y9);have huv:fQ s=((A,B,C),true):=by unfold fQ;rw[if_pos ⟨⟨Va,HQ.out 0 (by omega),HQ.out 1 (by omega),HQ.out 2 (by omega)⟩,by rw[Uw.out.1,Uw.out.2.1,Uw.out.2.2,HP.out];exact hps⟩,Uw.out.1,Uw.out.2.1,Uw.out.2.2]
     rw[HU.out]at huv;simp only[aY]at huv;obtain⟨⟨rfl,rfl,rfl⟩,rfl⟩:=huv;have pF:=((B9.setCell (p:=⟨gm,0,none⟩) HG.out.2.1 (.int .i64 e0)).setCell (p:=⟨gm,1,none⟩) HG.out.2.1 (.int .i64 b0)).setCell (p:=⟨gm,2,none⟩) HG.out.2.1 (.int .i64 c0);rw[bX];refine bu (bB rfl _ _ gm 181 #[.int .i64 e0,.int .i64 b0,.int .i64 c0] _ rfl (((Y9.dq 0 _).dq 1 _).dq 2 _) underlying181 rfl (by kernel_rfl)) rfl ?_;exact⟨rfl,pF⟩
    ·have e1:(p==s)=false:=by simpa using hps
     have e2:(p !=s)=true:=by simpa using hps
     go_wp2_with(go_at_call 133;refine(Qu A B C _).mono ?_;rw[HP.out];rintro e w2⟨rfl,ft⟩;have X9:=aM.step (aM.new wr 181 #[.int .i64 A,.int .i64 B,.int .i64 C]) ft;have Y9:=aM.step (hy.alloc _) ft;have B9:=bP (hb.alloc hb.size _) ft;obtain⟨n0,n1,n2,r0,r1,r2⟩:=cells3 X9;obtain⟨m0,m1,m2,v0,v1,v2⟩:=cells3 Y9);have huv:fQ s=((0,0,0),false):=by unfold fQ;rw[if_neg (fun h=>hps (by rw[←h.2,Uw.out.1,Uw.out.2.1,Uw.out.2.2,HP.out]))]
     rw[HU.out]at huv;simp only[aY]at huv;obtain⟨⟨rfl,rfl,rfl⟩,rfl⟩:=huv;have pF:=((B9.setCell (p:=⟨gm,0,none⟩) HG.out.2.1 (.int .i64 0)).setCell (p:=⟨gm,1,none⟩) HG.out.2.1 (.int .i64 0)).setCell (p:=⟨gm,2,none⟩) HG.out.2.1 (.int .i64 0);rw[bX];refine bu (bB rfl _ _ gm 181 oV _ rfl (((Y9.dq 0 _).dq 1 _).dq 2 _) underlying181 rfl (by kernel_rfl)) rfl ?_;exact⟨rfl,pF⟩
 ·have hnf:fQ s=((0,0,0),false):=by unfold fQ Cq;rw[if_neg (fun h=>Va h.1.1)]
  rw[HU.out]at hnf;simp only[aY]at hnf;obtain⟨⟨rfl,rfl,rfl⟩,rfl⟩:=hnf;have ayA:¬((s.length:Int)=64):=by omega
  go_wp2_with fail;go_step3;go_wp2_with fail;rw[bX];refine bu (bB rfl _ _ w.heap.size 181 oV _ rfl (aM.new _ _ _) underlying181 rfl (by kernel_rfl)) rfl ?_;exact⟨rfl,(aJ _ _).alloc (au _) _⟩
abbrev Mk:=Int×Int×Int
def MG(x y:Mk):Mk:=if x.1<y.1 then y else x
def afN a b(ha:a.length≤140737488351232)(hb:b.length≤140737488351232)w e0 b0 c0 e1 b1 c1 e2 b2 c2 ok1 ok2(hu:fQ a=((e0,b0,c0),ok1))(hv:fQ b=((e1,b1,c1),ok2))(hn:MG (e0,b0,c0) (e1,b1,c1)=(e2,b2,c2)):Calls prog 100 #[str a,str b] w fun e w'=>e=.returned (.agg #[.int .i64 e2,.int .i64 b2,.int .i64 c2])∧Below w.heap.size w w':=by
 have HU:=ag hu;have HV:=ag hv;have HN:=ag hn;clear hu hv hn;go_enter func100,ntmps100;go_wp2_with fail;refine(RC a ha _ e0 b0 c0 ok1 HU.out).mono ?_;rintro e w1⟨rfl,eH⟩;have Y1:=aM.step (aM.new w 181 oV) eH;have B1:=bP ((aJ w.heap.size w).alloc (au _) _) eH;clear eH;have s1:=B1.size;go_wp2_with fail;refine(RC b hb _ e1 b1 c1 ok2 HV.out).mono ?_;rintro e w2⟨rfl,ft⟩;have X2:=aM.step (aM.new w1 181 #[.int .i64 e0,.int .i64 b0,.int .i64 c0]) ft;have Y2:=aM.step (Y1.alloc _) ft;have B2:=bP (B1.alloc B1.size _) ft;have n1:=Y1.lt;have n2:=X2.lt;have n3:=Y2.lt;clear ft;have s2:=B2.size;obtain⟨n0,n1,n2,r0,r1,r2⟩:=cells3 X2;obtain⟨m0,m1,m2,v0,v1,v2⟩:=cells3 Y2;by_cases hgt:e1>e0
 ·have hr:MG (e0,b0,c0) (e1,b1,c1)=(e1,b1,c1):=by unfold MG;rw[if_pos hgt]
  rw[HN.out]at hr;simp only[aY]at hr;obtain⟨rfl,rfl,rfl⟩:=hr;go_wp2_with fail;have pF:=((B2.setCell (p:=⟨w.heap.size,0,none⟩) (au _) (.int .i64 e2)).setCell (p:=⟨w.heap.size,1,none⟩) (au _) (.int .i64 b2)).setCell (p:=⟨w.heap.size,2,none⟩) (au _) (.int .i64 c2);refine bu (mH rfl _ _ w.heap.size 181 #[.int .i64 e2,.int .i64 b2,.int .i64 c2] _ rfl ((((Y2.dq 0 _).dq 1 _).dq 2 _).alloc _) underlying181 rfl ad) rfl ?_;exact TB
 ·have hr:MG (e0,b0,c0) (e1,b1,c1)=(e0,b0,c0):=by unfold MG;rw[if_neg hgt]
  rw[HN.out]at hr;simp only[aY]at hr;obtain⟨rfl,rfl,rfl⟩:=hr;go_wp2_with fail;have pF:=((B2.setCell (p:=⟨w.heap.size,0,none⟩) (au _) (.int .i64 e2)).setCell (p:=⟨w.heap.size,1,none⟩) (au _) (.int .i64 b2)).setCell (p:=⟨w.heap.size,2,none⟩) (au _) (.int .i64 c2);refine bu (mH rfl _ _ w.heap.size 181 #[.int .i64 e2,.int .i64 b2,.int .i64 c2] _ rfl ((((Y2.dq 0 _).dq 1 _).dq 2 _).alloc _) underlying181 rfl ad) rfl ?_;exact TB
def GP(n k:Nat):Bz:=(List.range k).map fun i=>UInt8.ofNat (n/256^(k-1-i)%256)
theorem acA n k:(GP n k).length=k:=by simp[GP]
theorem aiL n k:GP n (k+1)=GP (n/256) k++[UInt8.ofNat (n%256)]:=by
 refine List.ext_getElem (by simp[GP]) fun i h1 h2=>?_;have hi:i<k+1:=by grind[GP]
 by_cases h:i<k;rw[np (by grind[GP])];simp only[GP,iG,List.getElem_range];rw[lz,←Nat.pow_succ',show(k-1-i).succ=k+1-1-i from ab];simp_all[GP]
theorem amf:∀(k n),val (GP n k)=n%256^k:=by intro k;induction k with|zero=>simp[GP,val,Nat.mod_one]|succ k ih=>grind[aiL,xN,UInt8.toNat_ofNat',Nat.mod_mul]
def aiK(n r:Nat):LJ (n:Int) r=UInt8.ofNat (n/256^r%256):=by
 unfold LJ Id;have h1:max (n:Int) 0=n:=ae;have h2:(2:Nat)^(8*r)=256^r:=by rw[Nat.pow_mul]
 grind
theorem vG e b c:(jg e b c).length=64:=aq
theorem ae5 e b c:(jg e b c).take 8=(rt (BR e b c) 3 0).take 8:=aq
def ae6 e b c:(jg e b c).take 8=(jg e b c).drop 56:=aq
theorem afj(e b c j:Nat)(hj:j<3):Un (jg e b c) j=GP (if j=0 then e else if j=1 then b else c) 8:=by
 refine jf fun i=>?_;by_cases hi:i<8;have hm:BR (e:Int) b c j=((if j=0 then e else if j=1 then b else c:Nat):Int):=by grind[BR]
 have h1:(rt (BR (e:Int) b c) 3 0)[j*8+i]?=some (Cg (BR (e:Int) b c) 3 0 (j*8+i)):=by grind[zt,KN]
 have h2:(GP (if j=0 then e else if j=1 then b else c) 8)[i]?=some (UInt8.ofNat ((if j=0 then e else if j=1 then b else c)/256^(8-1-i)%256)):=by grind[GP]
 rw[h2];unfold Un jg;rw[bO hi,ej,fm ai,bO ab,h1];unfold Cg;rw[if_pos ab,show(j*8+i)/8=j from ab,show(j*8+i)%8=i from ab,hm,aiK];grind[Oj,vG,acA]
def yu(e b c j:Nat)(hj:j<3)(he:e≤1099511627776)(hb:b≤1099511627776)(hc:c≤1099511627776):nU (jg e b c) j=if j=0 then e else if j=1 then b else c:=by grind[nU,afj,amf]
def xV(m:Mk):Prop:=0≤m.1∧m.1≤1099511627776∧0≤m.2.1∧m.2.1≤1099511627776∧0≤m.2.2∧m.2.2≤1099511627776
theorem Gc {m}(h:xV m):fQ (jg m.1 m.2.1 m.2.2)=(m,true):=by obtain⟨e,b,c⟩:=m;obtain⟨a1,a2,a3,a4,a5,a6⟩:=h;simp only[]at a1 a2 a3 a4 a5 a6;obtain⟨e,rfl⟩:=bD a1;obtain⟨b,rfl⟩:=bD a3;obtain⟨c,rfl⟩:=bD a5;have n0:=yu e b c 0 ae ab ab ab;have n1:=yu e b c 1 ae ab ab ab;have n2:=yu e b c 2 ae ab ab ab;simp only[if_true,if_false,(ae:(1:Nat)=0↔False),(ae:(2:Nat)=0↔False),(ae:(2:Nat)=1↔False)]at n0 n1 n2;unfold fQ Cq;simp only[n0,n1,n2];rw[if_pos ⟨⟨vG _ _ _,ab,ab,ab⟩,trivial⟩]
def ae7 {u}{m:Mk}(h:fQ u=(m,true)):u=jg m.1 m.2.1 m.2.2∧xV m:=by grind[fQ,Cq,xV]
def acq {u}{m:Mk}(h:fQ u=(m,false)):m=(0,0,0):=by grind[fQ]
def alS {m k}(hm:xV m)(hk:xV k)(h:(jg m.1 m.2.1 m.2.2).take 8=(jg k.1 k.2.1 k.2.2).take 8):m.1=k.1:=by obtain⟨e,b,c⟩:=m;obtain⟨e',b',c'⟩:=k;obtain⟨a1,a2,a3,a4,a5,a6⟩:=hm;obtain⟨b1,b2,b3,b4,b5,b6⟩:=hk;simp only[]at a1 a2 a3 a4 a5 a6 b1 b2 b3 b4 b5 b6 h⊢;obtain⟨e,rfl⟩:=bD a1;obtain⟨b,rfl⟩:=bD a3;obtain⟨c,rfl⟩:=bD a5;obtain⟨e',rfl⟩:=bD b1;obtain⟨b',rfl⟩:=bD b3;obtain⟨c',rfl⟩:=bD b5;have n0:=yu e b c 0 ae ab ab ab;have n1:=yu e' b' c' 0 ae ab ab ab;simp_all[nU,Un]
def pk(m:Mk):Bz:=jg m.1 m.2.1 m.2.2
def WM m:(pk m).length=64:=vG _ _ _
def AI m {i}(hi:i<8):(pk m)[i]?=(pk m)[56+i]?:=by have:=congrArg (fun l=>l[i]?) (ae6 m.1 m.2.1 m.2.2);grind[pk]
theorem agx {m k}(h:m.1=k.1){i}(hi:i<8):(pk m)[i]?=(pk k)[i]?:=by
 have e:∀q:Mk,(pk q)[i]?=some (Cg (BR q.1 q.2.1 q.2.2) 3 0 i):=by intro q;have h1:(pk q)[i]?=((pk q).take 8)[i]?:=(bO hi).symm;grind[pk,ae5,zt,KN]
 simp_all[Cg,BR]
def aij(i:Nat):Prop:=i<64∧(i<8∨56≤i)
def agy {m k}(h:m.1=k.1){i}(hi:aij i):(pk m)[i]?=(pk k)[i]?:=by rcases hi with⟨h1,h2|h2⟩;grind[agx];obtain⟨j,rfl⟩:∃j,i=56+j:=⟨i-56,ab⟩;rw[←AI m ab,←AI k ab];grind[agx]
def KM {m k}(hm:xV m)(hk:xV k)(h:∀i,i<8→(pk m)[i]?=(pk k)[i]?):m.1=k.1:=by refine alS hm hk (jf fun i=>?_);by_cases hi:i<8;rw[bO hi,bO hi];exact h i hi;grind
structure vH (S : Bz) (E : Int) : Prop where
  len : S.length = 64
  ex : ∃ (p k : Mk) (c : Nat), xV p ∧ xV k ∧ p.1 = E + 1 ∧ (k.1 < E ∨ (E = 0 ∧ k.1 = 0)) ∧ (∀ i, aij i → S[i]? = if i < c then (pk p)[i]? else (pk k)[i]?) ∧ ¬ ∀ i, aij i → S[i]? = (pk p)[i]?
def vH.of {k E}(hk:xV k)(h:k.1<E∨(E=0∧k.1=0))(h1:E+1≤1099511627776):vH (pk k) E:=by
 obtain⟨a1,a2,a3,a4,a5,a6⟩:=hk;have hp:xV (E+1,0,0):=by unfold xV;grind
 refine⟨WM k,(E+1,0,0),k,0,hp,⟨a1,a2,a3,a4,a5,a6⟩,rfl,h,fun i _=>aq,fun ko=>?_⟩;have:=KM (m:=k) ⟨a1,a2,a3,a4,a5,a6⟩ hp (fun i hi=>ko i ⟨ab,.inl hi⟩);omega
def vH.mark {S E}(h:vH S E)(h0:0≤E):(fQ S).1.1<E∨(E=0∧(fQ S).1.1=0):=by
 obtain⟨hl,p,k,c,hp,hk,p1,k1,hm,hn⟩:=h;rcases hu:fQ S with⟨u,ok⟩;rcases ok with _|_;rw[acq hu];grind;obtain⟨he,it⟩:=ae7 hu;have he':S=pk u:=he;have ajT:∀i,i<8→S[i]?=S[56+i]?:=fun i hi=>by rw[he'];exact AI u hi
 show u.1<E∨(E=0∧u.1=0);by_cases c1:c≤8;have:u.1=k.1:=KM it hk (fun i hi=>by rw[←he',ajT i hi,hm (56+i) ⟨ab,.inr ae⟩,if_neg ab,←AI k hi]);omega;by_cases c2:c≤56;exfalso;have:p.1=k.1:=KM hp hk (fun i hi=>by have h1:=ajT i hi;rw[hm i ⟨ab,.inl hi⟩,if_pos ab,hm (56+i) ⟨ab,.inr ae⟩,if_neg ab,←AI k hi]at h1;omega);omega;refine absurd (fun i hi=>?_) hn;rcases hi with⟨h1,h2|h2⟩;rw[hm i ⟨h1,.inl h2⟩,if_pos ab];obtain⟨j,rfl⟩:∃j,i=56+j:=⟨i-56,ab⟩;rw[←ajT j ab,hm j ⟨ab,.inl ab⟩,if_pos ab,AI p ab]
def vH.bS {S E}(h:vH S E){q}(hq:xV q)(q1:q.1=E+1)c2:(pk q).take c2++S.drop c2=pk q∨vH ((pk q).take c2++S.drop c2) E:=by
 obtain⟨hl,p,k,c,hp,hk,p1,k1,hm,hn⟩:=h;obtain⟨V,hV⟩:=aZ ((pk q).take c2++S.drop c2);have ql:=WM q;have qK:∀i,V[i]?=if i<c2 then(if i<64 then(pk q)[i]? else none)else S[i]?:=ai;have hqp:q.1=p.1:=ab;have hVl:V.length=64:=ai;rw[hV];have awh:∀i,aij i→V[i]?=if i<max c c2 then(pk p)[i]? else(pk k)[i]?:=by intro i hi;rw[qK i];by_cases h1:i<c2;rw[if_pos h1,if_pos hi.1,if_pos ab,agy hqp hi];grind
 by_cases ko:∀i,aij i→V[i]?=(pk p)[i]?;left;by_cases h5:c2≤56;exfalso;have awg:∀j,j<8→S[56+j]?=(pk p)[56+j]?:=fun j hj=>by have:=ko (56+j) ⟨ab,.inr ae⟩;grind
 by_cases h6:c≤56;have:p.1=k.1:=KM hp hk (fun i hi=>by have h1:=awg i hi;rw[hm (56+i) ⟨ab,.inr ae⟩,if_neg ab,←AI k hi,←AI p hi]at h1;grind);omega;grind;refine jf fun i=>?_;by_cases h6:i<64;by_cases h7:i<c2;grind;rw[ko i ⟨h6,.inr ab⟩,agy hqp ⟨h6,.inr ab⟩];grind;exact .inr ⟨hVl,p,k,max c c2,hp,hk,p1,k1,awh,ko⟩
end Go.Proofs.YtlddafbgfkocjaaGreatDoor
