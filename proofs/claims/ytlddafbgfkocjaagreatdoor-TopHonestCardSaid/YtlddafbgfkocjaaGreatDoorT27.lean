/- A part of TopHonest. -/
import Derived.Conc.MuLone
import Derived.Deep.WholeRow
import Derived.Lib.BufferWrite
import Derived.Test.YtlddafbgfkocjaaGreatDoorT06
import Derived.Test.YtlddafbgfkocjaaGreatDoorT13
import Derived.Test.YtlddafbgfkocjaaGreatDoorT16
namespace Go.Proofs.YtlddafbgfkocjaaGreatDoor
open Go.RowKit Go.Proofs.Tryz
set_option linter.all false
set_option maxRecDepth 1000000
set_option maxHeartbeats 400000000
structure Log where
  mark : Mk
  fin : Bz
  broken : Bool
def ju(w:World)(h g:Nat)(x:Log):Prop:=aM w h 195 #[aG g,al x.mark.1,al x.mark.2.1,al x.mark.2.2,str x.fin,.bool x.broken]
def GV {w h g x}(hx:ju w h g x):w.cell? (aD h 0)=some (aG g)∧w.cell? (aD h 1)=some (al x.mark.1)∧w.cell? (aD h 2)=some (al x.mark.2.1)∧w.cell? (aD h 3)=some (al x.mark.2.2)∧w.cell? (aD h 4)=some (str x.fin)∧w.cell? (aD h 5)=some (.bool x.broken):=⟨aM.cell hx 0,aM.cell hx 1,aM.cell hx 2,aM.cell hx 3,aM.cell hx 4,aM.cell hx 5⟩
def zW {P f args}{w:World}{n v}(h:Calls P f args (w.drewN n) fun e w'=>e=.returned v∧w.drewN n=w'):Calls P f args (w.drewN n) fun e w''=>e=.returned v∧∃m,w''=w.drewN m:=h.mono fun _ _⟨he,hm⟩=>⟨he,n,hm.symm⟩
def zG {B w w'}(h:Below B w w')n:Below B w (w'.drewN n):=⟨h.os,h.tape,h.output,h.size,h.block⟩
def kg(d:lT):Int:=(d.n-2)*64
def VL {T e B b bs w w'}(h:Lib.IsBuilder T e B b bs w)(hb:Below w.heap.size w w'):Lib.IsBuilder T e B b bs w':=by
 have one:∀p,Lib.BuilderAt T e B b p bs w→Lib.BuilderAt T e B b p bs w':=by rintro p⟨h1,v,h2,h3,h4⟩;have eo:b<w.heap.size:=tP ⟨h1,v,h2,h3,h4⟩;refine⟨h1,v,(hb.block b eo).trans h2,?_,h4⟩;exact jA h3 (row:=Option.none) ⟨hb.os,hb.tape,hb.output,hb.size,fun k hk _=>hb.block k hk⟩ ai
 exact h.elim (fun h=>.inl (one _ h)) (fun h=>.inr (one _ h))
def abH w g gm v cap B d(hd:cD w g gm v cap B d)(n0:0≤d.n)(n1:d.n≤4096):Calls prog 101 #[aG g] w fun e w'=>e=.returned (al (kg d))∧w=w':=by unfold kg;go_enter func101,ntmps101;go_wp2_with fail;refine(NW _ g gm v cap B d hd).mono ?_;rintro e w1⟨rfl,rfl⟩;exact DA
def Oz w h g gm v cap B d x(hx:ju w h g x)(hd:cD w g gm v cap B d)(n0:0≤d.n)(n1:d.n≤4096)(m0:-1000000≤x.mark.2.1)(m1:x.mark.2.1≤1000000):dM 125 #[aG h] w (al (kg d-x.mark.2.1)):=by
 obtain⟨c0,c1,c2,c3,c4,c5⟩:=GV hx;have hr0:-1000000≤kg d:=by unfold kg;omega
 have tB:kg d≤1000000:=by unfold kg;omega
 go_enter func125,ntmps125;go_wp2_with fail;go_quiet((go_at_call 101;exact zW (abH _ g gm v cap B d (hd.drew _) n0 n1)));go_wp2;go_ret;simp[zG,aJ]
def BA w h g x(hx:ju w h g x):Calls prog 123 #[aG h] w fun e w'=>e=.returned (.bool x.broken)∧w=w':=by obtain⟨c0,c1,c2,c3,c4,c5⟩:=GV hx;obtain⟨mark,fin,br⟩:=x;simp only[]at c1 c2 c3 c4 c5;cases br;all_goals go_enter func123,ntmps123;go_wp2_with fail;go_ret;simp
def ajg w g gm v cap B d k x b l(hd:cD w g gm v cap B d)(hk:(Lit.int .i64 k).wf=true)(hn:d.waits.length<4611686018427)(hx:aM w x 57 #[aG g])(hb:Lib.IsBuilder 186 5 b b (Lib.byteCells l) w)(hl:l.length+(rq d k).length≤140737488355328):Calls prog 102 #[al k,aG x,aG b] w fun e w'=>e=.returned (.bool (yX d k==0))∧Lib.IsBuilder 186 5 b b (Lib.byteCells (l++rq d k)) w'∧Below b w w':=by
 have cx:=hx.cell 0;have Pw:b<w.heap.size:=hb.elim tP tP;go_enter func102,ntmps102;go_wp2_with fail;refine(KJ _ g gm v cap B d k hd hk hn).mono ?_;rintro e w1⟨rfl,eH⟩;have bb1:=VL hb eH;have z1:=eH.size;go_wp2_with fail;refine(Et b b (Lib.byteCells l) ⟨(rq d k).toArray⟩ _ bb1 (by simpa[Lib.byteCells,ByteArray.size]using hl) ab).mono ?_;rintro e w2⟨rfl,bb2,ft⟩;have hsc:Lib.byteCells l++Lib.strCells ⟨(rq d k).toArray⟩=Lib.byteCells (l++rq d k):=by simp[Lib.byteCells,Lib.strCells]
 rw[hsc]at bb2;go_wp2_with fail;go_ret;exact⟨rfl,.inr bb2,(eH.mono ab).trans ft⟩
def FB(d:lT):Mk:=MG (fQ (rq d 0)).1 (fQ (rq d 1)).1
def yC(d:lT):Nat→Bz|0=>[]|k+1=>yC d k++rq d (2+k)
def GF(d:lT):Bz:=(yC d (((FB d).2.1.toNat+63)/64)).take (FB d).2.1.toNat
def pV(d:lT):Option Log×List Bz×Int:=if d.n≤2 then(none,[],1)else if d.on=false then(none,[],14)else if kg d<(FB d).2.1 then(none,[],10)else if(CC (GF d)).2=(GF d).length∧(((CC (GF d)).1.length:Nat):Int)=(FB d).2.2 then(some ⟨FB d,(GF d).drop ((GF d).length-(GF d).length%64),false⟩,(CC (GF d)).1,0)else(none,[],10)
def asq(w w':World)(g:Nat)(e:Ending):Option Log×List Bz×Int→Prop|(none,_,er)=>e=.returned (.tuple #[.pointer none,.slice none 0 0,al er])|(some x,rs,er)=>∃h v,e=.returned (.tuple #[aG h,v,al er])∧w.heap.size≤h∧ju w' h g x∧iS w' w.heap.size v rs
def ajh {k}:∀(l)(s),vF k l=some s→∃p∈l,p.2=s:=by intro l;induction l with|nil=>intro s h;cases h|cons p l ih=>intro s h;simp only[vF]at h;rcases hq:vF k l with _|t;rw[hq]at h;simp only[Option.none_or]at h;split at h;injection h with h;exact⟨p,ae,h⟩;cases h;rw[hq]at h;simp only[Option.some_or]at h;injection h with h;subst h;obtain⟨p',h1,h2⟩:=ih t hq;exact⟨p',by simp[h1],h2⟩
def Ed {d}(hs:jn d)(hw:oW d.n d.waits)k:(dI d k).length=64:=by unfold dI;rcases hq:vF k d.waits with _|s;exact hs.iL k;obtain⟨p,h1,h2⟩:=ajh _ _ hq;rw[←h2];exact(hw p h1).2.1
def LZ {d}(hs:jn d)(hw:oW d.n d.waits)k:(rq d k).length≤64:=by unfold rq;split;split;rw[Ed hs hw];exact au _;simp;simp
def XJ {d}(hs:jn d)(hw:oW d.n d.waits)(vE:d.on=true){k}(h0:0≤k)(h1:k<d.n):(rq d k).length=64∧yX d k=0:=by
 have hh:vk d.n k=true:=by simp[vk,h0,h1]
 unfold rq yX;rw[vE,hh];exact⟨Ed hs hw k,rfl⟩
def IL {s e b c ok}(h:fQ s=((e,b,c),ok)):(0≤e∧e≤1099511627776)∧(0≤b∧b≤1099511627776)∧(0≤c∧c≤1099511627776):=by
 unfold fQ at h;split at h;·rename_i hh;obtain⟨⟨h0,h1,h2,h3⟩,-⟩:=hh;exact TD
 exact TD
def afO {e0 b0 c0 e1 b1 c1 e b c}{P:Int→Int→Int→Prop}(h:MG (e0,b0,c0) (e1,b1,c1)=(e,b,c))(h0:P e0 b0 c0)(h1:P e1 b1 c1):P e b c:=by unfold MG at h;split at h;simp only[aY]at h;obtain⟨rfl,rfl,rfl⟩:=h;exact h1;simp only[aY]at h;obtain⟨rfl,rfl,rfl⟩:=h;exact h0
def aah {d}(hs:jn d)(hw:oW d.n d.waits)(vE:d.on=true):∀k:Nat,(k:Int)+2≤d.n→(yC d k).length=64*k:=by intro k;induction k with|zero=>intro _;rfl|succ k ih=>intro h;have h2:=(XJ hs hw vE (k:=2+(k:Int)) ab ab).1;simp only[yC,aw];rw[ih ab,h2];omega
def xZ {T e b w n bs}(h:Lib.IsBuilder T e b b bs w):Lib.IsBuilder T e b b bs (w.drewN n):=h
theorem al9 w g gm v cap B d(hd:cD w g gm v cap B d)(n0:0≤d.n)(n1:d.n≤4096)(hs:jn d)(hw:oW d.n d.waits)(hl:d.waits.length<4611686018427)r(hr:pV d=r):Calls prog 64 #[aG g] w fun e w'=>asq w w' g e r∧Below w.heap.size w w':=by
 have HR:=ag hr;have X1:=aM.new w 57 #[aG g];have B1:Below w.heap.size w (w.alloc (.cells #[aG g] 57)):=(aJ _ _).alloc (au _) _;have HD:=ag hd;have lJ:=ag (hd.step B1);have wb:=ag X1;have uv:=ag B1;clear hr hd X1 B1;go_enter func64,ntmps64;go_wp2_with fail;refine(NW _ g gm v cap B d lJ.o).mono ?_;rintro e w1⟨rfl,rfl⟩;by_cases h2:d.n≤2
 ·have GJ:pV d=(none,[],1):=by unfold pV;rw[if_pos h2]
  rw[HR.o]at GJ;subst GJ;go_wp2_with fail;go_ret3;exact⟨rfl,uv.o⟩
 obtain⟨on,vE⟩:=aZ d.on;cases on
 ·have GJ:pV d=(none,[],14):=by unfold pV;rw[if_neg h2,if_pos vE]
  rw[HR.o]at GJ;subst GJ;have he:yX d 0=14:=by unfold yX;rw[vE];rfl
  have HE:=ag he;clear he vE;go_wp2_with fail;refine(KJ _ g gm v cap B d 0 lJ.o rfl hl).mono ?_;rw[HE.o];rintro e w2⟨rfl,ft⟩;have pE:=ag (bP uv.o ft);clear ft;go_wp2_with fail;go_ret3;exact⟨rfl,pE.o⟩
 have he:yX d 0=0:=by unfold yX vk;rw[vE];exact aR
 have he1:yX d 1=0:=by unfold yX vk;rw[vE];exact aR
 have HE:=ag he;have HE1:=ag he1;have HON:=ag vE;clear he he1 vE;go_wp2_with fail;refine(KJ _ g gm v cap B d 0 lJ.o rfl hl).mono ?_;rw[HE.o];rintro e w2⟨rfl,ft⟩;have pE:=ag (bP uv.o ft);have we:=ag (wb.o.step ft);have cx2:=we.o.cell 0;have mw:=ag (lJ.o.step ft);clear ft;go_wp2_with fail;refine(KJ _ g gm v cap B d 1 mw.o rfl hl).mono ?_;rw[HE1.o];rintro e w3⟨rfl,AA⟩;have yV:=ag (bP pE.o AA);have Lr:=ag (we.o.step AA);have cx3:=Lr.o.cell 0;have Km:=ag (mw.o.step AA);clear AA cx2;obtain⟨⟨⟨e0,b0,c0⟩,k0⟩,hu0⟩:∃q,fQ (rq d 0)=q:=⟨_,rfl⟩;obtain⟨⟨⟨e1,b1,c1⟩,k1⟩,AM⟩:∃q,fQ (rq d 1)=q:=⟨_,rfl⟩;obtain⟨⟨me,mb,mc⟩,hm⟩:∃q,FB d=q:=⟨_,rfl⟩;have HM:=ag hm;unfold FB at hm;rw[hu0,AM]at hm;simp only[]at hm;have HU0:=ag hu0;have HU1:=ag AM;have HN:=ag hm;clear hu0 AM hm;go_wp2_with fail;refine(afN (rq d 0) (rq d 1) ?_ ?_ _ e0 b0 c0 e1 b1 c1 me mb mc k0 k1 HU0.o HU1.o HN.o).mono ?_;·have:=LZ hs hw 0;omega
 ·have:=LZ hs hw 1;omega
 rintro e w4⟨rfl,pF⟩;have Ff:=ag (bP yV.o pF);have Fd:=ag (Lr.o.step pF);have HD4:=ag (Km.o.step pF);clear pF cx3;go_wp2_with fail;obtain⟨w5,hw5⟩:=aZ (w4.alloc (.cells #[al me,al mb,al mc] 181));obtain⟨q,hq⟩:=aZ w4.heap.size;have m5:aM w5 q 181 #[al me,al mb,al mc]:=by rw[←hw5];exact aM.jb hq.symm _ _
 have x5:aM w5 w.heap.size 57 #[aG g]:=by rw[←hw5];exact Fd.o.alloc _
 have d5:cD w5 g gm v cap B d:=by rw[←hw5];exact HD4.o.step ((aJ _ _).alloc (au _) _)
 have b5:Below w.heap.size w w5:=by rw[←hw5];exact Ff.o.alloc Ff.o.size _
 have hwq:w.heap.size≤q:=by rw[←hq];exact Ff.o.size
 rw[hw5,hq];have Ra:(0≤me∧me≤1099511627776)∧(0≤mb∧mb≤1099511627776)∧(0≤mc∧mc≤1099511627776):=afO (P:=fun e b c=>(0≤e∧e≤1099511627776)∧(0≤b∧b≤1099511627776)∧(0≤c∧c≤1099511627776)) HN.o (IL HU0.o) (IL HU1.o);obtain⟨M,rfl⟩:∃M:Nat,mb=(M:Int):=⟨mb.toNat,ab⟩;have HRG:=ag Ra;have HM5:=ag m5;have QT:=ag x5;have HD5:=ag d5;have HB5:=ag b5;have cx5:w5.cell? (aD w.heap.size 0)=some (aG g):=x5.cell 0;have cm5:w5.cell? (aD q 1)=some (al (M:Int)):=m5.cell 1;clear hq hw5 m5 x5 d5 b5 Ra HU0 HU1 HN uv pE yV Ff wb we Lr Fd lJ mw Km HD4 HE HE1;obtain⟨rm,hrm⟩:=aZ (kg d);have ael:rm=(d.n-2)*64:=by rw[←hrm];rfl
 have Fz:∀n,Calls prog 101 #[aG g] (w5.drewN n) fun e w'=>e=.returned (al rm)∧w5.drewN n=w':=fun n=>by rw[←hrm];exact abH _ g gm v cap B d (HD5.o.drew _) n0 n1
 have HRO:=ag Fz;have HRM:=ag ael;clear Fz ael;by_cases hgt:rm<(M:Int)
 ·have GJ:pV d=(none,[],10):=by unfold pV;rw[if_neg ab,if_neg DB,if_pos (by rw[HM.o,hrm];exact hgt)]
  rw[HR.o]at GJ;subst GJ;go_quiet((go_at_call 101;exact zW (HRO.o _)));go_wp2_with fail;go_ret3;exact⟨rfl,zG HB5.o _⟩
 go_quiet((go_at_call 101;exact zW (HRO.o _)));go_wp2_with fail;obtain⟨b,hb⟩:=aZ w5.heap.size;have hfb:Lib.IsBuilder 186 5 b b (Lib.byteCells (yC d 0)) ((w5.drewN nq).alloc (.cells #[.pointer none,.slice none 0 0] 186)):=by rw[←hb];exact Lib.fresh_isBuilder _ _ (w5.drewN nq)
 have b6:Below w5.heap.size w5 ((w5.drewN nq).alloc (.cells #[.pointer none,.slice none 0 0] 186)):=(zG (aJ w5.heap.size w5) nq).alloc (au _) _;have hqb:q<b:=by rw[←hb];exact HM5.o.lt
 have hxb:w.heap.size<b:=by rw[←hb];exact QT.o.lt
 rw[hb];generalize(w5.drewN nq).alloc (.cells #[.pointer none,.slice none 0 0] 186)=w6 at hfb b6⊢;have HM6:=ag (HM5.o.step b6);have Pz:=ag (QT.o.step b6);have HD6:=ag (HD5.o.step b6);have HB6:=ag (bP HB5.o b6);have HF6:=ag hfb;have mR:b≤w6.heap.size:=by rw[←hb];exact b6.size
 have HQ:=ag (And.intro hwq (And.intro hqb (And.intro hxb mR)));clear hfb b6 hqb hxb hb mR hwq cx5 cm5;go_loopw [11](fun i wr=>∃k:Nat,i=al (2+(k:Int))∧(k=0∨64*((k:Int)-1)<(M:Int))∧Lib.IsBuilder 186 5 b b (Lib.byteCells (yC d k)) wr∧Below b w6 wr)(fun i _=>(M+3)-(intOf i).toNat);case atStart=>exact⟨0,rfl,.inl rfl,HF6.o,aJ _ _⟩
 case round=>
  obtain⟨k,rfl,hk,hf,Li⟩:=hrel;have hm:=aM.below HM6.o Li HQ.o.2.1;have hx:=aM.below Pz.o Li HQ.o.2.2.1;have hB:=HB6.o.trans (Li.mono (Nat.le_of_lt HQ.o.2.2.1));have HM7:=ag hm;have NT:=ag hx;have HB7:=ag hB;have HF7:=ag hf;have HK7:=ag Li;have ael:=HRM.o;have Ra:=HRG.o;have wj:(k:Int)+2≤d.n:=ab;have EY:=aah hs hw HON.o k wj;have hlen:∀n,Calls prog 104 #[aG b] (wr.drewN n) fun e w'=>e=.returned (al ((64*k:Nat):Int))∧wr.drewN n=w':=fun n=>by rw[←EY];exact(Ux b b (yC d k) _ (xZ HF7.o)).mono fun _ _ h=>⟨h.1,h.2.symm⟩
  have HL7:=ag hlen;have cm:wr.cell? (aD q 1)=some (al (M:Int)):=hm.cell 1;have HKN:=ag wj;have HKL:=ag EY;clear hm hx hB hf Li ael wj EY hlen;by_cases eo:((64*k:Nat):Int)<(M:Int)
  ·go_wp2_with fail;go_quiet((go_at_call 104;exact zW (HL7.o _)));go_wp2_with fail;have ael:=HRM.o;have aei:2+(k:Int)<d.n:=ab;obtain⟨EZ,hse⟩:=XJ hs hw HON.o (k:=2+(k:Int)) ab aei;have hwf:(Lit.int .i64 (2+(k:Int))).wf=true:=by rw[←jx (2+(k:Int)) ab ab];exact wf_wrap _ _
   refine(ajg _ g gm v cap B d (2+(k:Int)) w.heap.size b (yC d k) ((HD.o.step HB7.o).drew _) hwf hl NT.o (xZ HF7.o) (by rw[HKL.o,EZ];omega)).mono ?_;rw[hse];rintro e w8⟨rfl,hf8,Vh⟩;have HF8:=ag hf8;have HB8:=ag ((zG HK7.o _).trans Vh);clear hf8 Vh EZ hse ael;go_wp2_with fail;go_roundw;case rel=>exact⟨k+1,ip,.inr ab,HF8.o,HB8.o⟩
   case measure=>exact bC
  ·go_wp2_with fail;go_quiet((go_at_call 104;exact zW (HL7.o _)));go_wp2_with fail;have hML:M≤(yC d k).length:=by rw[HKL.o];omega
   have hf7:=xZ (n:=nq) HF7.o;have hb7:=zG HB7.o nq;have hk7:=zG HK7.o nq;have cm7:(wr.drewN nq).cell? (aD q 1)=some (al (M:Int)):=cm;generalize wr.drewN nq=w7 at hf7 hb7 hk7 cm7⊢;clear cm;refine eO 5 (fun w'=>w'.cell? (aD q 1)=some (al (M:Int))∧Hid (Below w.heap.size w w'∧Below b w6 w')) ad ⟨cm7,ag ⟨hb7.drew,hk7.drew⟩⟩ (fun hS=>?_);refine ib 1 54 hS ?_;refine yG 2 55 rfl (by rintro _⟨k1,-⟩;exact fj) hS ?_;refine du 0 ad rfl (fun K hK=>?_);go_simp;refine(Builder_String_any b b (yC d k) _ (xZ (n:=1) hf7) ?_).mono ?_;·exact aC HQ.o.2.2.2 hk7.size
   rintro e w8⟨rfl,Vh⟩;refine hK.out _ _ ⟨(Vh.cell (p:=(aD q 1)) HQ.o.2.1).trans hS.1,ag ⟨hS.2.o.1.trans (Vh.mono (Nat.le_of_lt HQ.o.2.2.1)),hS.2.o.2.trans Vh⟩⟩ (fun hS=>?_);refine ib 3 56 hS ?_;refine ib 4 12 hS ?_;refine ou ad ?_;have Uu:List.take M (yC d k)=GF d:=by unfold GF;rw[HM.o];simp only[fG];rw[show(M+63)/64=k from ab]
   obtain⟨L,hL⟩:=aZ (GF d);rw[Uu,hL];have Ol:L.length=M:=by rw[←hL,←Uu,bo];omega
   have hMs:M≤262144:=by have:=HRM.o;omega
   obtain⟨⟨rs,N⟩,hA⟩:∃q,CC L=q:=⟨_,rfl⟩;have HA:=ag hA;have HL:=ag hL;have HLl:=ag Ol;have HM8:=ag ((aM.below HM6.o hS.2.o.2 HQ.o.2.1));have Wt:=ag ((aM.below Pz.o hS.2.o.2 HQ.o.2.2.1));have HB8:=ag hS.2.o.1;clear hA hL Uu hML hf7 hb7 hk7 cm7 Vh hS;go_wp2_with fail;refine(anZ L _ (by rw[HLl.o];omega)).mono ?_;rw[HA.o];rintro e w9⟨vr,rfl,ho9,UR⟩;have HM9:=ag (HM8.o.step UR);have HX9:=ag (Wt.o.step UR);have Rm:=ag (bP HB8.o UR);have HO9:=ag ho9;clear ho9 UR;have cm2:w9.cell? (aD q 2)=some (al mc):=HM9.o.cell 2;obtain⟨pr,cr,hvr⟩:∃p c,vr=.slice p rs.length c:=by
    rcases HO9.o.read with⟨rfl,h0⟩|⟨g',eU,rfl,_⟩;·rw[show rs=[]from h0];exact ue
    ·exact ue
   subst hvr;by_cases hN:N=L.length
   ·have e1:((N:Int)==(L.length:Int))=true:=by rw[hN];simp
    have e2:((N:Int)!=(L.length:Int))=false:=by rw[hN];simp
    by_cases hC:((rs.length:Nat):Int)=mc
    ·have e3:(((rs.length:Nat):Int)==mc)=true:=DC;have e4:(((rs.length:Nat):Int)!=mc)=false:=DC;have GJ:pV d=(some ⟨(me,(M:Int),mc),L.drop (L.length-L.length%64),false⟩,rs,0):=by unfold pV;rw[if_neg ab,if_neg DB,if_neg (by rw[HM.o,hrm];exact rX),HM.o,HL.o,HA.o,if_pos ⟨hN,hC⟩]
     obtain⟨T,hT⟩:=aZ (M-M%64);have hTM:T≤M:=ab;have hwT:IntKind.i64.wrap ((M:Int)-(M:Int).tmod 64)=(T:Int):=by rw[show(M:Int).tmod 64=((M%64:Nat):Int)from rfl];rw[show(M:Int)-((M%64:Nat):Int)=(T:Int)from ab];exact oG _ ab
     have KT:L.drop (L.length-L.length%64)=List.take (M-T) (List.drop T L):=by rw[HLl.o,hT,aL (by rw[bV,HLl.o];exact au _)]
     rw[KT]at GJ;have HT:=ag hT;clear hT KT;have HO:=ag (HO9.o.aaM HB8.o.size);rw[HR.o]at GJ;subst GJ;go_wp2_with fail;refine eO 16 (fun w'=>w'.cell? (aD w.heap.size 0)=some (aG g)∧w'.cell? (aD q 0)=some (al me)∧w'.cell? (aD q 1)=some (al (M:Int))∧w'.cell? (aD q 2)=some (al mc)) ad ⟨HX9.o.cell 0,HM9.o.cell 0,HM9.o.cell 1,HM9.o.cell 2⟩ (fun hS=>?_);refine yG 0 73 rfl (by rintro _⟨k1,k2,k3,k4⟩;exact fj) hS ?_;refine yG 1 74 rfl (by rintro _⟨k1,k2,k3,k4⟩;exact fj) hS ?_;refine ib 2 75 hS ?_;refine ib 3 76 hS ?_;refine ib 4 77 hS ?_;refine ib 5 78 hS ?_;refine ib 6 79 hS ?_;refine ib 7 80 hS ?_;refine ib 8 81 hS ?_;refine ib 9 82 hS ?_;refine ib 10 83 hS ?_;refine ib 12 85 hS ?_;refine du 11 ad rfl (fun K hK=>?_);go_simp;refine hK.out _ _ ⟨(HX9.o.alloc _).drew.cell 0,(HM9.o.alloc _).drew.cell 0,(HM9.o.alloc _).drew.cell 1,(HM9.o.alloc _).drew.cell 2⟩ (fun hS=>?_);refine ib 13 2 hS ?_;refine ib 14 3 hS ?_;refine ib 15 4 hS ?_;refine ou ad ?_;go_wp2;go_ret3;exact⟨⟨w9.heap.size,_,rfl,Rm.o.size,(aM.new _ _ _).drew,(HO.o.alloc _).drew⟩,(Rm.o.alloc Rm.o.size _).drew⟩
    ·have e3:(((rs.length:Nat):Int)==mc)=false:=DC;have e4:(((rs.length:Nat):Int)!=mc)=true:=DC;have GJ:pV d=(none,[],10):=by unfold pV;rw[if_neg ab,if_neg DB,if_neg (by rw[HM.o,hrm];exact rX),HM.o,HL.o,HA.o,if_neg (fun h=>hC h.2)]
     exact TC
   ·have e1:((N:Int)==(L.length:Int))=false:=by simpa using fun h=>hN ab
    have e2:((N:Int)!=(L.length:Int))=true:=by simpa using fun h=>hN ab
    have GJ:pV d=(none,[],10):=by unfold pV;rw[if_neg ab,if_neg DB,if_neg (by rw[HM.o,hrm];exact rX),HM.o,HL.o,HA.o,if_neg (fun h=>hN h.1)]
    exact TC
def chunk(s:Bz):Bz:=s.take 64++vD.drop (Nat.min s.length 64)
theorem sW s:(chunk s).length=64:=by unfold chunk;rw[aw,bo,bV,IC];have:Nat.min s.length 64=min s.length 64:=rfl;omega
def UW(d:lT)(k:Nat):Prop:=0≤d.left∧d.left<9223372036854775808∧0≤d.steps∧d.steps+k<4611686018427387904∧d.waits.length+k<4611686018427
def UW.ok {d k}(h:UW d k):OkD d:=by unfold UW at h;unfold OkD;omega
def UW.write {d k}(h:UW d (k+1))at_ s:UW (nd d at_ s) k:=by
 unfold UW at h;have hk:UW d k:=by unfold UW;omega
 have hl:¬(oN d=true∧d.eS=true∧d.left=0):=by rintro⟨h1,h2,h3⟩;simp[oN,h2,h3]at h1
 unfold nd;split;split;split;unfold mJ oU;unfold UW;by_cases hg:oN d=true;by_cases ha:d.eS=true;have h0:d.left≠0:=fun e=>hl ⟨hg,ha,e⟩;simp only[hg,ha,if_true,aw,mh];omega;simp only[hg,if_true,ha,if_false,aw,mh,iK];omega;simp only[hg,if_false,aw,mh,iK];omega;exact hk;exact hk;exact hk
def mX:Nat→lT→Int→Bz→lT×Int|0,d,_,_=>(d,0)|k+1,d,at_,s=>if s=[]then(d,0)else if tu d at_ (chunk s)=0 then mX k (nd d at_ (chunk s)) (at_+1) (s.drop 64)else(nd d at_ (chunk s),tu d at_ (chunk s))
def aaj {P}w dT sT ty elem g tF aqW l cur t(hu:P.underlying dT=some (.slice elem))(hs:(P.info? elem).map (·.size)=some 1)(hg:w.heap[g]?=some (.cells cur t (0,0)))(hd:cur.size=tF):(Builtin.copy_ #[dT,sT] ty #[.slice (some (aD g 0)) tF aqW,str l]).run P w=.ok (goInt ((Nat.min l.length tF:Nat):Int)) (w.setRow g (Lib.byteCells (l.take tF)++cur.toList.drop (Nat.min l.length tF)).toArray):=by have hlen:(Lib.byteCells (l.take tF)).length=Nat.min l.length tF:=SK;have iq:=oL P g 0 t (Lib.byteCells (l.take tF)) 0 cur w hg (by rw[hlen,←hd];have:Nat.min l.length cur.size≤cur.size:=na _ _;omega) (Lib.byteCells_one _);have Bt:List.take (Nat.min l.length tF) (List.map (fun b:UInt8=>.int .u8 (b.toNat:Int)) l)=Lib.byteCells (l.take tF):=SJ;rw[hlen]at iq;simp only[im,cK,mD,bJ]at iq;exact SN
def aai {P ops o a w Q rest}(hg:o.guard=none)d x dT sT(QH:o.op=Op.call {callee:=Callee.builtin Builtin.copy,args:=#[d,x],argTypes:=#[dT,sT]}){dv xv r w'}(hd:a.eval d=dv)(hx:a.eval x=xv)(lu:(Builtin.copy_ #[dT,sT] o.type #[dv,xv]).run P w=.ok r w')(hK:wpList P ops Q rest (a.put o.dst r) w'):wpList P ops Q (o::rest) a w:=SM
def afP s:(Lib.byteCells (s.take 64)++(wK vD).toList.drop (Nat.min s.length 64)).toArray=wK (chunk s):=by simp[wK,chunk,Lib.byteCells,List.map_drop,cR]
def afQ(w:World)l ty:(Builtin.copy_ #[137,9] ty #[.slice (some (aD w.heap.size 0)) 64 64,str l]).run prog (w.alloc (.cells (wK vD) 227))=.ok (goInt ((Nat.min l.length 64:Nat):Int)) (w.alloc (.cells (wK (chunk l)) 227)):=by rw[aaj _ 137 9 ty 5 w.heap.size 64 64 l (wK vD) 227 underlying137 ad (mA w _) (by simp[wK,Lib.byteCells,IC]),World.setRow_alloc_new,afP]
def amS w h g gm v cap B d x s(k0 M:Nat)D er(hx:ju w h g x)(hd:cD w g gm v cap B d)(hM:x.mark.2.1=(M:Int))(hM1:M≤1000000)(hk:s.length≤64*k0)(kZ:k0≤1000000)(it:UW d k0)(hp:mX k0 d (2+((M/64:Nat):Int)) s=(D,er)):Calls prog 130 #[.pointer (some ⟨h,0,none⟩),str s] w fun e w'=>e=.returned (.int .i64 er)∧∃v',cD w' g gm v' cap B D∧Touch g gm w v w' v':=by
 obtain⟨c0,c1,c2,c3,c4,c5⟩:=GV hx;rw[hM]at c2;have HX:=ag hx;have HD:=ag hd;have HOK:=ag it;have HP:=ag hp;have hq:IntKind.i64.wrap ((M:Int).tdiv 64)=((M/64:Nat):Int):=by rw[show(M:Int).tdiv 64=((M/64:Nat):Int)from rfl];exact oG _ ab
 have hq2:(M:Int).tdiv 64=((M/64:Nat):Int):=rfl;obtain⟨Q,hQ⟩:=aZ (M/64);rw[hQ]at hq hq2 HP;have hQ1:Q≤1000000:=ab;clear hx hd it hp hQ;go_enter func130,ntmps130;go_wp2_with fail;clear hq hq2 c0 c1 c2 c3 c4 c5;go_loopw [1,5](fun sv av wr=>∃(k:Nat)(s':Bz)(d':lT)(v':Value)(at_:Int),k≤k0∧sv=str s'∧av=.int .i64 at_∧0≤at_∧at_+k≤2000010∧s'.length≤64*k∧UW d' k∧mX k d' at_ s'=(D,er)∧cD wr g gm v' cap B d'∧Touch g gm w v wr v')(fun sv _ _=>match sv with|.string b=>b.size|_=>0);case atStart=>exact⟨k0,s,d,v,_,au _,rfl,rfl,ab,ab,hk,HOK.out,HP.out,HD.out,Touch.refl _ _ _ _⟩
 case round=>
  obtain⟨k,s',d',v',at_,hkk,rfl,rfl,ha0,GI,EZ,it,hp,hd,ht⟩:=hrel;have lJ:=ag hd;have PG:=ag ht;have aut:=ag it;have HP1:=ag hp;have wb:=ag (HD.out.gj ht HX.out ah ah);clear hd ht it hp;by_cases qY:s'=[]
  ·subst qY;have hp:=HP1.out;have hpp:mX k d' at_ []=(d',0):=by cases k<;>simp[mX]
   rw[hpp]at hp;simp only[aY]at hp;obtain⟨rfl,rfl⟩:=hp;go_wp2_with fail;go_ret;exact⟨rfl,v',lJ.out,PG.out⟩
  ·have hl0:0<s'.length:=ea.2 qY;obtain⟨k,rfl⟩:∃j,k=j+1:=⟨k-1,ab⟩;have aiv:s'.length.min 64≤s'.length:=Nat.min_le_left _ _;have e2:(s'==[])=false:=Ds;have e3:(s' !=[])=true:=Ds;have ID:=fun ty=>afQ wr s' ty;go_wp2_with(refine aai rfl _ _ _ _ rfl rfl rfl (ID _) ?_);have OT:List.take (s'.length-s'.length.min 64) (List.drop (s'.length.min 64) s')=s'.drop 64:=by
    rw[aL Jz];rcases Nat.le_total s'.length 64 with hle|hle;·rw[show s'.length.min 64=s'.length from fS hle,df (au _),df hle]
    ·rw[show s'.length.min 64=64 from tM hle]
   rw[OT];have Ie:Below wr.heap.size wr (wr.alloc (.cells (wK (chunk s')) 227)):=(aJ _ _).alloc (au _) _;have nP:aM (wr.alloc (.cells (wK (chunk s')) 227)) wr.heap.size 227 (wK (chunk s')):=aM.new _ _ _;have rF:=lJ.out.step Ie;have uX:=wb.out.step Ie;have Ea:=PG.out.trans (Touch.nN (v:=v') Ie);obtain⟨nb,hnb⟩:=aZ wr.heap.size;rw[hnb]at nP⊢;generalize wr.alloc (.cells (wK (chunk s')) 227)=w2 at nP rF uX Ea⊢;have HC2:=ag nP;have mw:=ag rF;have we:=ag uX;have Nt:=ag Ea;have kcs:∀W,aM W nb 227 (wK (chunk s'))→(Go.convert 137 9 (.slice (some ⟨nb,0,none⟩) 64 64)).run prog W=.ok (str (chunk s')) W:=by intro W hW;have kc:=fZ (P:=prog) W 137 9 5 ⟨nb,0,none⟩ 64 (chunk s') underlying137 underlying5 underlying9 (Lib.bytes_of_row hW (aL (l:=Lib.byteCells (chunk s')) Ka));rw[sW]at kc;exact kc
   clear nP rF uX Ea Ie OT aiv ID hnb;refine eO 9 (fun w'=>w'.cell? ⟨h,0,none⟩=some (.pointer (some ⟨g,0,none⟩))) ad (we.out.cell 0) (fun hS=>?_);refine ib 0 26 hS ?_;refine ib 1 27 hS ?_;refine ib 2 28 hS ?_;refine yG 3 29 rfl (by rintro _ k1;exact fj) hS ?_;refine ib 4 30 hS ?_;refine ib 5 31 hS ?_;refine du 6 ad rfl (fun K hK=>?_);have kc:=kcs _ HC2.out.drew;refine gA ?_;refine du 7 ad rfl (fun K hK=>?_);go_simp;refine(Wv _ g gm v' cap B d' at_ (chunk s') (mw.out.drew 1) aut.out.ok).mono ?_;rintro e w5⟨rfl,v5,hd5,ht5⟩;refine hK.out _ _ (((mw.out.drew 1).gj ht5 we.out.drew ah ah).cell 0) (fun hS=>?_);refine ib 8 8 hS ?_;refine ou ad ?_;have HD5:=ag hd5;have HT5:=ag (Nt.out.drew.trans ht5);clear hS hd5 ht5 kc kcs;have hp:=HP1.out;by_cases hw:tu d' at_ (chunk s')=0
   ·rw[mX,if_neg qY,if_pos hw]at hp;have HP5:=ag hp;clear hp;rw[hw];go_wp2_with fail;go_roundw;case rel=>exact⟨k,_,_,v5,at_+1,ab,rfl,ip,ab,ab,xB,aut.out.write _ _,HP5.out,HD5.out,HT5.out⟩
    case measure=>simp[ByteArray.size,bV];omega
   ·rw[mX,if_neg qY,if_neg hw]at hp;simp only[aY]at hp;obtain⟨rfl,rfl⟩:=hp;have e5:(tu d' at_ (chunk s')==0)=false:=by simpa using hw
    have e6:(tu d' at_ (chunk s')!=0)=true:=by simpa using hw
    go_wp2_with fail;go_ret;exact⟨rfl,v5,HD5.out,HT5.out⟩
def OA w xb h g gm v cap B d x(hb:aM w xb 95 #[aG h])(hx:ju w h g x)(hd:cD w g gm v cap B d)(it:OkD d)(hw:Fv d.waits)(hn:cap+d.waits.length<4611686018427):Calls prog 126 #[aG xb] w fun e w'=>e=.returned (al (Ey d))∧∃v' eU,eU≤cap+d.waits.length∧cD w' g gm v' eU B (ma d)∧Touch g gm w v w' v':=by have k1:=hb.cell 0;have k2:w.cell? (aD h 0)=some (aG g):=aM.cell hx 0;go_enter func126,ntmps126;go_wp2_with fail;refine(ah8 w g gm v cap B d hd it hw hn).mono ?_;rintro e w1⟨rfl,hq⟩;go_wp2_with fail;go_ret;exact⟨rfl,hq⟩
def ade w xb sb h g gm v cap B d x s(k0 M:Nat)D er(hb:aM w xb 95 #[aG h])(hs:aM w sb 9 #[str s])(hx:ju w h g x)(hd:cD w g gm v cap B d)(hM:x.mark.2.1=(M:Int))(hM1:M≤1000000)(hk:s.length≤64*k0)(kZ:k0≤1000000)(it:UW d k0)(hp:mX k0 d (2+((M/64:Nat):Int)) s=(D,er)):Calls prog 129 #[aG xb,aG sb] w fun e w'=>e=.returned (al er)∧∃v',cD w' g gm v' cap B D∧Touch g gm w v w' v':=by have k1:=hb.cell 0;have k2:=hs.cell 0;go_enter func129,ntmps129;go_wp2_with fail;refine(amS w h g gm v cap B d x s k0 M D er hx hd hM hM1 hk kZ it hp).mono ?_;rintro e w1⟨rfl,v1,wk,ht1⟩;go_wp2_with fail;go_ret;exact⟨rfl,v1,wk,ht1⟩
def adf w xb mb h g gm v cap B d x e0 b0 c0(hb:aM w xb 95 #[aG h])(hm:aM w mb 181 #[al e0,al b0,al c0])(hx:ju w h g x)(hd:cD w g gm v cap B d)(it:OkD d):Calls prog 131 #[aG xb,aG mb] w fun e w'=>e=.returned (al (tu d (e0.tmod 2) (jg e0 b0 c0)))∧∃v',cD w' g gm v' cap B (nd d (e0.tmod 2) (jg e0 b0 c0))∧Touch g gm w v w' v':=by have HX:=ag (show aM w h _ _ from hx);have HB:=ag hb;have HM:=ag hm;have HD:=ag hd;have OK:=ag it;clear hx hb hm hd it;go_enter func131,ntmps131;go_wp2_with fail;refine eO 11 (fun w'=>w'.cell? (aD xb 0)=some (aG h)∧w'.cell? (aD h 0)=some (aG g)∧w'.cell? (aD mb 0)=some (al e0)∧w'.cell? (aD mb 1)=some (al b0)∧w'.cell? (aD mb 2)=some (al c0)) ad ⟨HB.o.cell 0,HX.o.cell 0,HM.o.cell 0,HM.o.cell 1,HM.o.cell 2⟩ (fun hS=>?_);refine yG 0 3 rfl DE hS ?_;refine ib 1 4 hS ?_;refine ib 2 5 hS ?_;refine yG 3 6 rfl DE hS ?_;refine ib 4 7 hS ?_;refine yG 5 8 rfl DE hS ?_;refine ib 6 9 hS ?_;refine yG 7 10 rfl DE hS ?_;refine du 8 ad rfl (fun K hK=>?_);go_simp;refine(Qu e0 b0 c0 _).mono ?_;rintro e1 w1⟨rfl,eH⟩;have wb:=ag (HX.o.drew.step eH);have uv:=ag (HB.o.drew.step eH);have Xw:=ag (HM.o.drew.step eH);have lJ:=ag ((HD.o.drew 1).step eH);have PG:=ag (Touch.trans (Touch.drew (Touch.refl g gm w v)) (Touch.nN (g:=g) (gm:=gm) (v:=v) eH));clear eH;refine hK.out _ _ ⟨uv.o.cell 0,wb.o.cell 0,Xw.o.cell 0,Xw.o.cell 1,Xw.o.cell 2⟩ (fun hS=>?_);refine du 9 ad rfl (fun K hK=>?_);go_simp;refine(Wv _ g gm v cap B d _ (jg e0 b0 c0) lJ.o OK.o).mono ?_;rintro e2 w2⟨rfl,v2,rF,Ea⟩;have we:=ag (lJ.o.gj Ea wb.o ae ae);have pE:=ag (lJ.o.gj Ea uv.o ae ae);have HM2:=ag (lJ.o.gj Ea Xw.o ae ae);refine hK.out _ _ ⟨pE.o.cell 0,we.o.cell 0,HM2.o.cell 0,HM2.o.cell 1,HM2.o.cell 2⟩ (fun hS=>?_);refine ib 10 2 hS ?_;refine ou ad ?_;go_wp2;go_ret;exact⟨rfl,v2,rF,PG.o.trans Ea⟩
def amT w h sb n(F:Nat→FuncId)(C:Nat→Array Value)(P:Nat→World→Prop)(R:Int→World→Prop)(hn:n≤100)(hc:∀i wr,i<n→P i wr→wr.cell? (aD sb i)=some (.func (.func (F i)) #[] (C i)))(uO:∀i wr,i<n→P i wr→Calls prog (F i) (C i) wr fun e w'=>∃er,e=.returned (al er)∧(er=0→P (i+1) w')∧(er≠0→R er w'∧(∃b,w'.cell? (aD h 5)=some (.bool b))∧w'.frozen? (aD h 5)=false))(hf:∀i wr,i<n→(callFunc (F i) (C i)).run prog wr=.ok (.enter (F i) (C i)) wr)(h0:P 0 w):Calls prog 128 #[aG h,.slice (some (aD sb 0)) n n] w fun e w'=>∃er,e=.returned (al er)∧((er=0∧P n w')∨(er≠0∧∃w2,R er w2∧w2.setCell (aD h 5) (.bool true)=w')):=by
 have HC:=ag hc;have HS:=ag uO;have H0:=ag h0;have HF:=ag hf;clear hc uO h0 hf;go_enter func128,ntmps128;go_wp2_with fail;go_loopw [10](fun i wr=>∃k:Nat,k≤n∧i=al k∧P k wr)(fun i _=>n-(intOf i).toNat);case atStart=>exact⟨0,aI _,rfl,H0.o⟩
 case round=>
  obtain⟨k,hk,rfl,hp⟩:=hrel;have HP:=ag hp;clear hp;by_cases eo:k<n
  ·have Vb:(k:Int)<(n:Int):=ab;have c1:=HC.o k wr eo HP.o;go_wp2_with fail;rw[HF.o k wr eo];rw[Oper.upon_enter];refine(HS.o k wr eo HP.o).mono ?_;rintro e w1⟨er,rfl,h1,h2⟩;have H1:=ag h1;have H2:=ag h2;clear h1 h2 c1;by_cases he:er=0
   ·subst he;go_wp2_with fail;go_roundw;case rel=>exact⟨k+1,ab,aq,H1.o ae⟩
    case measure=>exact bC
   obtain⟨hr,⟨b,hb⟩,hf⟩:=H2.o he;have HR:=ag hr;have e1:(er==0)=false:=oz;have e2:(er !=0)=true:=oz;clear hr;go_wp2_with fail;go_ret;exact⟨er,rfl,.inr ⟨he,w1,HR.o,rfl⟩⟩
  obtain rfl:k=n:=ab;go_wp2_with fail;go_ret;exact⟨0,rfl,.inl ⟨rfl,HP.o⟩⟩
section
open Go.MuLone
theorem ass args w:(callFunc 126 args).run prog w=.ok (.enter 126 args) w:=run_callFunc_enter func126 ad rfl args w
theorem asr args w:(callFunc 129 args).run prog w=.ok (.enter 129 args) w:=run_callFunc_enter func129 ad rfl args w
theorem ast args w:(callFunc 131 args).run prog w=.ok (.enter 131 args) w:=run_callFunc_enter func131 ad rfl args w
def BV:Nat→FuncId|0=>129|2=>131|_=>126
def Ej(xb sb mb:Nat):Nat→Array Value|0=>#[aG xb,aG sb]|2=>#[aG xb,aG mb]|_=>#[aG xb]
def adg xb sb mb i w(hi:i<4):(callFunc (BV i) (Ej xb sb mb i)).run prog w=.ok (.enter (BV i) (Ej xb sb mb i)) w:=by have h4:i=0∨i=1∨i=2∨i=3:=ab;grind[asr,ass,ast,BV]
def vj(d:lT)(k:Nat)(at_:Int)(s:Bz)(m:Mk):Nat→lT|0=>d|1=>(mX k d at_ s).1|2=>ma (mX k d at_ s).1|3=>nd (ma (mX k d at_ s).1) (m.1.tmod 2) (jg m.1 m.2.1 m.2.2)|_=>ma (nd (ma (mX k d at_ s).1) (m.1.tmod 2) (jg m.1 m.2.1 m.2.2))
def sD(d:lT)(k:Nat)(at_:Int)(s:Bz)(m:Mk):Nat→Int|0=>(mX k d at_ s).2|1=>Ey (vj d k at_ s m 1)|2=>tu (vj d k at_ s m 2) (m.1.tmod 2) (jg m.1 m.2.1 m.2.2)|_=>Ey (vj d k at_ s m 3)
def AtI(w:World)(g gm:Nat)(v:Value)(cap B:Nat)(d:lT)(k:Nat)(at_:Int)(s:Bz)(m:Mk)(i:Nat)(wr:World):Prop:=∃v' eU,eU≤cap+1000000*i∧cD wr g gm v' eU B (vj d k at_ s m i)∧Touch g gm w v wr v'
def afR w xb sb mb rb h g gm v cap B d x s m(k0 M:Nat)(hd:cD w g gm v cap B d)(hb:aM w xb 95 #[aG h])(hs:aM w sb 9 #[str s])(hm:aM w mb 181 #[al m.1,al m.2.1,al m.2.2])(hx:ju w h g x)(hr:aM w rb 129 #[.func (.func (BV 0)) #[] (Ej xb sb mb 0),.func (.func (BV 1)) #[] (Ej xb sb mb 1),.func (.func (BV 2)) #[] (Ej xb sb mb 2),.func (.func (BV 3)) #[] (Ej xb sb mb 3)])(hM:x.mark.2.1=(M:Int))(hM1:M≤1000000)(hk:s.length≤64*k0)(kZ:k0≤1000000)(it:UW d k0)(Bb:cap≤1000000000)(ok1:∀i,i≤3→OkD (vj d k0 (2+((M/64:Nat):Int)) s m i)∧Fv (vj d k0 (2+((M/64:Nat):Int)) s m i).waits∧(vj d k0 (2+((M/64:Nat):Int)) s m i).waits.length≤1000000):Calls prog 128 #[aG h,.slice (some (aD rb 0)) 4 4] w fun e w'=>∃er,e=.returned (al er)∧((er=0∧(∀j,j<4→sD d k0 (2+((M/64:Nat):Int)) s m j=0)∧AtI w g gm v cap B d k0 (2+((M/64:Nat):Int)) s m 4 w')∨(er≠0∧∃w2,(∃i,i<4∧(∀j,j<i→sD d k0 (2+((M/64:Nat):Int)) s m j=0)∧er=sD d k0 (2+((M/64:Nat):Int)) s m i∧AtI w g gm v cap B d k0 (2+((M/64:Nat):Int)) s m (i+1) w2)∧w2.setCell (aD h 5) (.bool true)=w')):=by
 refine amT w h rb 4 BV (Ej xb sb mb) (fun i wr=>(∀j,j<i→sD d k0 (2+((M/64:Nat):Int)) s m j=0)∧AtI w g gm v cap B d k0 (2+((M/64:Nat):Int)) s m i wr) (fun er w2=>∃i,i<4∧(∀j,j<i→sD d k0 (2+((M/64:Nat):Int)) s m j=0)∧er=sD d k0 (2+((M/64:Nat):Int)) s m i∧AtI w g gm v cap B d k0 (2+((M/64:Nat):Int)) s m (i+1) w2) ae ?_ ?_ (fun i wr hi=>adg xb sb mb i wr hi) ⟨fun j hj=>absurd hj (jQ j),v,cap,ae,hd,Touch.refl _ _ _ _⟩;rintro i wr hi⟨hz,v',eU,hc,hdi,ht⟩;have h1:=hd.gj ht hr ae ae;have h4:i=0∨i=1∨i=2∨i=3:=ab;rcases h4 with rfl|rfl|rfl|rfl;exact h1.cell 0;exact h1.cell 1;exact h1.cell 2;exact h1.cell 3;rintro i wr hi⟨hz,v',eU,hc,hdi,ht⟩;have yr:=hd.gj ht hb ae ae;have hs':=hd.gj ht hs ae ae;have hm':=hd.gj ht hm ae ae;have Zx:ju wr h g x:=hd.gj ht hx ae ae;obtain⟨o1,o2,o3⟩:=ok1 i ab;have fin:∀(er:Int)(w':World)(v2:Value)(c2:Nat),er=sD d k0 (2+((M/64:Nat):Int)) s m i→c2≤cap+1000000*(i+1)→cD w' g gm v2 c2 B (vj d k0 (2+((M/64:Nat):Int)) s m (i+1))→Touch g gm wr v' w' v2→∃er':Int,Ending.returned (al er)=.returned (al er')∧(er'=0→(∀j,j<i+1→sD d k0 (2+((M/64:Nat):Int)) s m j=0)∧AtI w g gm v cap B d k0 (2+((M/64:Nat):Int)) s m (i+1) w')∧(er'≠0→(∃j,j<4∧(∀j',j'<j→sD d k0 (2+((M/64:Nat):Int)) s m j'=0)∧er'=sD d k0 (2+((M/64:Nat):Int)) s m j∧AtI w g gm v cap B d k0 (2+((M/64:Nat):Int)) s m (j+1) w')∧(∃b,w'.cell? (aD h 5)=some (.bool b))∧w'.frozen? (aD h 5)=false):=by intro er w' v2 c2 he nP rF Ea;have uX:=hd.gj (ht.trans Ea) hx ae ae;exact⟨er,rfl,fun h0=>⟨fun j hj=>ai,v2,c2,nP,rF,ht.trans Ea⟩,fun _=>⟨⟨i,hi,hz,he,v2,c2,nP,rF,ht.trans Ea⟩,⟨_,uX.cell 5⟩,uX.frozen 5⟩⟩
 have h4:i=0∨i=1∨i=2∨i=3:=ab;rcases h4 with rfl|rfl|rfl|rfl;refine(ade wr xb sb h g gm v' eU B d x s k0 M _ _ yr hs' Zx hdi hM hM1 hk kZ it rfl).mono ?_;rintro e w'⟨rfl,v2,rF,Ea⟩;exact fin _ _ _ _ rfl ab rF Ea;refine(OA wr xb h g gm v' eU B _ x yr Zx hdi o1 o2 ab).mono ?_;rintro e w'⟨rfl,v2,c2,nP,rF,Ea⟩;grind[vj,sD];refine(adf wr xb mb h g gm v' eU B _ x m.1 m.2.1 m.2.2 yr hm' Zx hdi o1).mono ?_;rintro e w'⟨rfl,v2,rF,Ea⟩;exact fin _ _ _ _ rfl ab rF Ea;refine(OA wr xb h g gm v' eU B _ x yr Zx hdi o1 o2 ab).mono ?_;rintro e w'⟨rfl,v2,c2,nP,rF,Ea⟩;grind[vj,sD]
end
structure rJ (h g gm : Nat) (w : World) (v : Value) (w' : World) (v' : Value) : Prop where
  os : w'.os = w.os
  tape : w'.tape = w.tape
  output : w'.output = w.output
  size : w.heap.size ≤ w'.heap.size
  block : ∀ i, i < w.heap.size → i ≠ h → i ≠ g → i ≠ gm → v.ownBlock ≠ some i → w'.heap[i]? = w.heap[i]?
  own : ∀ i, v'.ownBlock = some i → v.ownBlock = some i ∨ w.heap.size ≤ i
def rJ.of {h g gm w w' v v'}(t:Touch g gm w v w' v'):rJ h g gm w v w' v':=⟨t.os,t.tape,t.output,t.size,fun i hi _ h1 h2 h3=>t.block i hi h1 h2 h3,t.own⟩
def rJ.set {h g gm w w' v v'}(t:rJ h g gm w v w' v')j u:rJ h g gm w v (w'.setCell (aD h j) u) v':=⟨t.os,t.tape,t.output,by simpa[World.setCell]using t.size,fun i hi h0 h1 h2 h3=>(iJ w' (aD h j) u i h0).trans (t.block i hi h0 h1 h2 h3),t.own⟩
def rJ.drew {h g gm w w' v v'}(t:rJ h g gm w v w' v'):rJ h g gm w v w'.drew v':=⟨t.os,t.tape,t.output,t.size,t.block,t.own⟩
def cD.PQ {w g gm h v cap B d cs}(hd:cD w g gm v cap B d)(hx:aM w h 195 cs)i u:cD (w.setCell (aD h i) u) g gm v cap B d:=by have hg:=ja w h i u;exact⟨hd.1.grown hg (by simpa using Ko hd.1 hx ae),hd.2.1.kept hg Sr,hd.2.2.1.grown hg (.inr (hd.2.2.1.ne hx ae)),hd.2.2.2.1,hd.2.2.2.2⟩
def VM w h g x rec(hx:ju w h g x)(hbr:x.broken=true):Calls prog 72 #[.pointer (some ⟨h,0,none⟩),str rec] w fun e w'=>e=.returned (.int .i64 13)∧Below w.heap.size w w':=by have Ie:Below w.heap.size w (w.alloc (.cells #[.pointer (some ⟨h,0,none⟩)] 95)):=(aJ _ _).alloc (au _) _;have HX:=ag (show ju (w.alloc (.cells #[.pointer (some ⟨h,0,none⟩)] 95)) h g x from aM.step hx Ie);have HB:=ag Ie;clear Ie hx;go_enter func72,ntmps72;go_wp2_with fail;refine(BA _ h g x HX.out).mono ?_;rw[hbr];rintro e w1⟨rfl,rfl⟩;go_wp2_with fail;go_ret;exact⟨rfl,HB.out⟩
def adh w h g gm v cap B d x rec(hx:ju w h g x)(hd:cD w g gm v cap B d)(hbr:x.broken=false)(hl:rec.length≤1048576)(n0:0≤d.n)(n1:d.n≤4096)(m0:-1000000≤x.mark.2.1)(m1:x.mark.2.1≤1000000)(hr:kg d-x.mark.2.1<((cT rec).length:Nat)):Calls prog 72 #[.pointer (some ⟨h,0,none⟩),str rec] w fun e w'=>e=.returned (.int .i64 15)∧Below w.heap.size w w':=by have Ie:Below w.heap.size w (w.alloc (.cells #[.pointer (some ⟨h,0,none⟩)] 95)):=(aJ _ _).alloc (au _) _;have HX:=ag (show ju (w.alloc (.cells #[.pointer (some ⟨h,0,none⟩)] 95)) h g x from aM.step hx Ie);have HS:=ag (aM.new w 95 #[.pointer (some ⟨h,0,none⟩)]);have HD:=ag (hd.step Ie);have HB:=ag Ie;clear Ie hx hd;go_enter func72,ntmps72;go_wp2_with fail;refine(BA _ h g x HX.out).mono ?_;rw[hbr];rintro e w1⟨rfl,rfl⟩;go_wp2_with fail;refine(VZ rec _ hl).mono ?_;rintro e w2⟨rfl,ft⟩;have we:=ag (show ju w2 h g x from aM.step HX.out ft);have mw:=ag (HD.out.step ft);have c2:=(HS.out.step ft).cell 0;have pE:=ag (bP HB.out ft);clear ft;go_wp2_with fail;refine(Oz _ h g gm v cap B d x we.out mw.out n0 n1 m0 m1).mono ?_;rintro e w3⟨rfl,AA⟩;have yV:=ag (bP pE.out AA);go_wp2_with fail;go_ret;exact⟨rfl,yV.out⟩
def fK(x:Log)(r:Bz):Mk:=(x.mark.1+1,x.mark.2.1+(r.length:Nat),x.mark.2.2+1)
def wh(x:Log)(r:Bz):Nat:=(x.fin++r).length/64+1
def tS(x:Log):Int:=2+((x.mark.2.1.toNat/64:Nat):Int)
def OO(f:Nat→Int):Nat:=if f 0≠0 then 0 else if f 1≠0 then 1 else if f 2≠0 then 2 else if f 3≠0 then 3 else 4
def akX {f i}(hi:i<4)(hz:∀j,j<i→f j=0)(h:f i≠0):OO f=i:=by unfold OO;grind
def aeF {f}(hz:∀j,j<4→f j=0):OO f=4:=by simp_all[OO]
def wo(d:lT)(x:Log)(r:Bz):Log×lT×Int:=if OO (sD d (wh x r) (tS x) (x.fin++r) (fK x r))<4 then({x with broken:=true},vj d (wh x r) (tS x) (x.fin++r) (fK x r) (OO (sD d (wh x r) (tS x) (x.fin++r) (fK x r))+1),sD d (wh x r) (tS x) (x.fin++r) (fK x r) (OO (sD d (wh x r) (tS x) (x.fin++r) (fK x r))))else(⟨fK x r,(x.fin++r).drop ((x.fin++r).length-(x.fin++r).length%64),false⟩,vj d (wh x r) (tS x) (x.fin++r) (fK x r) 4,0)
def ym {d x r i}(hi:i<4)(hz:∀j,j<i→sD d (wh x r) (tS x) (x.fin++r) (fK x r) j=0)(h:sD d (wh x r) (tS x) (x.fin++r) (fK x r) i≠0):wo d x r=({x with broken:=true},vj d (wh x r) (tS x) (x.fin++r) (fK x r) (i+1),sD d (wh x r) (tS x) (x.fin++r) (fK x r) i):=by unfold wo;rw[akX hi hz h,if_pos hi]
def Ll {d x r}(hz:∀j,j<4→sD d (wh x r) (tS x) (x.fin++r) (fK x r) j=0):wo d x r=(⟨fK x r,(x.fin++r).drop ((x.fin++r).length-(x.fin++r).length%64),false⟩,vj d (wh x r) (tS x) (x.fin++r) (fK x r) 4,0):=by simp_all[wo,aeF]
def ri(d:lT)(x:Log)(rec:Bz):Log×lT×Int:=if x.broken=true then(x,d,13)else if kg d-x.mark.2.1<((cT rec).length:Nat)then(x,d,15)else wo d x (cT rec)
section
variable{n:Int}{j:Nat}{d:lT}
def pD.le(h:pD n j d){i}(hi:j≤i):pD n i d:=by obtain⟨h1,h2,h3,h4,h5,h6,h7,h8⟩:=h;exact⟨h1,h2,h3,h4,ab,ab,h7,h8⟩
def pD.okN(h:pD n j d){k}(hj:j+k≤1000000):UW d k:=by obtain⟨-,h2,h3,h4,h5,h6,-,-⟩:=h;exact⟨h2,ab,h4,ab,ab⟩
def pD.waits(h:pD n j d):Fv d.waits:=fun p hp=>⟨(h.2.2.2.2.2.2.1 p hp).1,mN (h.2.2.2.2.2.2.1 p hp).2.1⟩
def Yg {k}(h0:0≤k)(h1:k≤1099511627776):(Lit.int .i64 k).wf=true:=by rw[←jx k ab ab];simp[wf_wrap]
def pD.avO:∀(k j:Nat)(d)(a:Int)(s),pD n j d→0≤a→a+k≤1099511627776→pD n (j+k) (mX k d a s).1:=by intro k;induction k with|zero=>intro j d a s h _ _;exact h|succ k ih=>intro j d a s h h0 h1;unfold mX;split;exact h.le ae;split;have h2:=ih (j+1) _ (a+1) (s.drop 64) (h.write (k:=a) (s:=chunk s) (Yg h0 ab)) ab ab;grind;exact(h.write (k:=a) (s:=chunk s) (Yg h0 ab)).le ae
theorem pD.vj(h:pD n j d){k:Nat}{a:Int}{s m}(h0:0≤a)(h1:a+k≤1099511627776)(hm:0≤m.1)i(hi:i≤4):pD n (j+k+4) (vj d k a s m i):=by have e1:=h.avO k j d a s h0 h1;have e2:=e1.flush;have e3:=e2.write (k:=m.1.tmod 2) (s:=jg m.1 m.2.1 m.2.2) (Yg (qu _ hm) ai);have e4:=e3.flush;have h5:i=0∨i=1∨i=2∨i=3∨i=4:=ab;rcases h5 with rfl|rfl|rfl|rfl|rfl;exact h.le ab;exact e1.le ae;exact e2.le ae;exact e3.le ae;exact e4.le ae
end
def fC:List Bz→Bz|[]=>[]|r::rs=>cT r++fC rs
theorem wQ rs r:fC (rs++[r])=fC rs++cT r:=by induction rs<;>simp_all[fC,cj,bz]
def aif:∀(rs),(∀r∈rs,r.length≤1048576)→CC (fC rs)=(rs,(fC rs).length):=by intro rs;induction rs with|nil=>intro _;rfl|cons r rs ih=>intro h;have h1:=VX (s:=fC (r::rs)) (b:=r) (n:=(cT r).length) (ahp r (fC rs) (h r ae));grind[fC]
def vS(L:Bz):Bz:=L.drop (L.length-L.length%64)
def acp L:(vS L).length=L.length%64:=by grind[vS]
def BP(S:Int→Bz)(L:Bz):Prop:=∀i,i<L.length→(S (2+((i/64:Nat):Int)))[i%64]?=L[i]?
def OS(S:Int→Bz):Mk:=MG (fQ (S 0)).1 (fQ (S 1)).1
structure aie (d : lT) (m : Mk) (rs : List Bz) : Prop where
  on : d.on = true
  n0 : 3 ≤ d.n
  n1 : d.n ≤ 4096
  safe : jn d
  wait : oW d.n d.waits
  mark : OS (dI d) = m
  bytes : m.2.1 = ((fC rs).length : Nat)
  count : m.2.2 = (rs.length : Nat)
  room : ((fC rs).length : Int) ≤ kg d
  log : BP (dI d) (fC rs)
  small : ∀ r ∈ rs, r.length ≤ 1048576
theorem Kt {n k}(h0:0≤k)(h1:k<n):vk n k=true:=by grind[vk]
def Qd {d k}(h:d.on=true)(hk:vk d.n k=true):rq d k=dI d k:=by grind[rq]
def alO {d}(vE:d.on=true)(hs:jn d)(hw:oW d.n d.waits):∀K:Nat,2+(K:Int)≤d.n→(yC d K).length=64*K∧∀i,i<64*K→(yC d K)[i]?=(dI d (2+((i/64:Nat):Int)))[i%64]?:=by intro K;induction K with|zero=>intro _;simp[yC]|succ K ih=>intro hn;obtain⟨h1,h2⟩:=ih ab;have h3:rq d (2+(K:Int))=dI d (2+(K:Int)):=Qd vE (Kt ab ab);have h4:=Ed hs hw (2+(K:Int));unfold yC;rw[h3];refine⟨ai,fun i hi=>?_⟩;by_cases eo:i<64*K;grind;rw[dX ab,h1,show i/64=K from ab,show i%64=i-64*K from ab]
def aie.GF {d m rs}(h:aie d m rs)(hm:FB d=m):GF d=fC rs:=by unfold Go.Proofs.YtlddafbgfkocjaaGreatDoor.GF;have hb:=h.bytes;have hr:=h.room;have h0:=h.n0;unfold kg at hr;rw[hm,hb,fG];obtain⟨h1,h2⟩:=alO h.on h.safe h.wait (((fC rs).length+63)/64) ab;refine jf fun i=>?_;by_cases hi:i<(fC rs).length;rw[bO hi,h2 i ab,h.log i hi];grind
def aie.open {d m rs}(h:aie d m rs):pV d=(some ⟨m,vS (fC rs),false⟩,rs,0):=by
 have h0:=h.n0;have hm:FB d=m:=by unfold FB;rw[Qd h.on (Kt ae ab),Qd h.on (Kt ae ab)];exact h.mark
 have hl:=h.GF hm;have ha:=aif rs h.small;unfold pV;rw[if_neg ab,if_neg (by rw[h.on];simp),hm,if_neg (by rw[h.bytes];have:=h.room;omega),hl,ha,if_pos ⟨rfl,h.count.symm⟩];rfl
def Xf:Nat→Int→Bz→List (Int×Bz)|0,_,_=>[]|i+1,a,s=>(a,chunk s)::Xf i (a+1) (s.drop 64)
theorem Cp:∀(i)(a)(s)(p),p∈Xf i a s→∃j,j<i∧p=(a+j,chunk (s.drop (64*j))):=by intro i;induction i with|zero=>intro a s p h;cases h|succ i ih=>intro a s p h;rcases aO.1 h with h|h;grind;obtain⟨j,hj,e⟩:=ih _ _ _ h;refine⟨j+1,ab,?_⟩;grind[List.drop_drop]
theorem Xg:∀(i)(a)(s),(Xf i a s).Pairwise (fun p q=>p.1≠q.1):=by intro i;induction i with|zero=>intro a s;simp[Xf]|succ i ih=>intro a s;refine .cons (fun q hq=>?_) (ih _ _);grind[Cp]
def amq:∀(i)(a)(s)(j:Nat),j<i→vF (a+j) (Xf i a s)=some (chunk (s.drop (64*j))):=by intro i;induction i with|zero=>simp|succ i ih=>intro a s j hj;unfold Xf;simp only[vF];rcases j with _|j;all_goals grind[CI,Cp,List.drop_drop]
theorem amr {i a s}{q:Int}(h:∀j:Nat,j<i→q≠a+j):vF q (Xf i a s)=none:=by grind[CI,Cp]
def afr:∀(k)(d)(a)(s),s.length≤64*k→d.on=true→(∀j:Nat,64*j<s.length→vk d.n (a+j)=true)→∃i,i≤(s.length+63)/64∧(mX k d a s).1.waits=d.waits++Xf i a s∧(mX k d a s).1.safe=d.safe∧(mX k d a s).1.n=d.n∧(mX k d a s).1.eS=d.eS∧(((mX k d a s).2=0∧i=(s.length+63)/64∧(mX k d a s).1.on=true)∨((mX k d a s).2=14∧d.eS=true∧(mX k d a s).1.on=false)):=by
 intro k;induction k with|zero=>simp[mX,Xf]|succ k ih=>
  intro d a s hs vE hh;unfold mX;by_cases he:s=[];simp_all[Xf]
  ·rw[if_neg he];have qZ:0<s.length:=ea.2 he;have hh0:vk d.n a=true:=ai;have hw:nd d a (chunk s)=mJ d a (chunk s):=Wx vE hh0 (sW s);have hE:tu d a (chunk s)=if oN d then 0 else 14:=by grind[tu,sW]
   rw[hE,hw];rcases hg:oN d with _|_
   ·rw[if_neg ae];have ha:d.eS=true:=by grind[Mf]
    refine⟨1,ab,?_,by rw[zqF],?_,?_,.inr ⟨rfl,ha,?_⟩⟩;rfl;all_goals grind[mJ]
   rw[if_pos ae];have hn:(mJ d a (chunk s)).n=d.n:=by grind[mJ,Pk]
   have ho:(mJ d a (chunk s)).on=true:=by grind[mJ,Qb]
   have har:(mJ d a (chunk s)).eS=d.eS:=by simp only[mJ,hg,if_true];exact uf
   obtain⟨i,h1,h2,h3,h4,h5,h6⟩:=ih (mJ d a (chunk s)) (a+1) (s.drop 64) ai ho (fun j hj=>by rw[hn,show a+1+(j:Int)=a+((j+1:Nat):Int)from ab];exact hh (j+1) ai);rw[bV]at h1 h6;refine⟨i+1,ab,?_,h3.trans (zqF _ _ _),h4.trans hn,h5.trans har,?_⟩;rw[h2,Lu,bz];rfl;grind
def abi s {o}(ho:o<s.length)(Va:o<64):(chunk s)[o]?=s[o]?:=by grind[chunk]
def On {d}(vE:d.on=true):(Ey d=0∧(ma d).waits=[]∧(ma d).on=true∧(ma d).n=d.n∧(ma d).eS=d.eS∧(∀q,dI (ma d) q=dI d q)∧(∀q,iL (ma d) q=dI d q))∨(Ey d=14∧d.eS=true∧(ma d).on=false∧(ma d).waits=d.waits∧(ma d).safe=d.safe∧(ma d).n=d.n):=by unfold Ey ma ah7;rw[vE];simp only[if_true];rcases hg:oN d with _|_;grind[Mf];left;simp only[if_true];have hf:=Gf (oU d).waits (oU d);refine⟨trivial,rfl,?_,?_,?_,fun q=>Zf d q,fun q=>Lt d q⟩;show(kG (oU d) (oU d).waits).on=true;grind[Qb];show(kG (oU d) (oU d).waits).n=d.n;grind[Pk];show(kG (oU d) (oU d).waits).eS=d.eS;exact uf
def acD {d k s}(vE:d.on=true)(hk:vk d.n k=true)(hs:s.length=64):(nd d k s).waits=d.waits++[(k,s)]∧(nd d k s).safe=d.safe∧(nd d k s).n=d.n∧(nd d k s).eS=d.eS∧((tu d k s=0∧(nd d k s).on=true)∨(tu d k s=14∧d.eS=true∧(nd d k s).on=false)):=by
 have hw:nd d k s=mJ d k s:=Wx vE hk hs;have hE:tu d k s=if oN d then 0 else 14:=by grind[tu]
 rw[hw,hE];refine⟨Lu _ _ _,zqF _ _ _,?_,?_,?_⟩;grind[mJ,Pk];rcases hg:oN d with _|_;grind[mJ];simp only[mJ,hg,if_true];exact uf;grind[Mf,mJ,Qb]
end Go.Proofs.YtlddafbgfkocjaaGreatDoor
