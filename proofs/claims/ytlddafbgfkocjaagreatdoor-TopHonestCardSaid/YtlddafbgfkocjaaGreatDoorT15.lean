/- A part of TopHonest. -/
import Derived.Deep.DeepCutAuto
import Derived.Test.YtlddafbgfkocjaaGreatDoorT03
import Derived.Test.YtlddafbgfkocjaaGreatDoorT08
namespace Go.Proofs.YtlddafbgfkocjaaGreatDoor
open Go.RowKit Go.Proofs.Tryz
set_option linter.all false
set_option maxRecDepth 1000000
set_option maxHeartbeats 400000000
def LJ(n:Int)(r:Nat):UInt8:=Id (max n 0/2^(8*r)%256)
def Cg(ns:Nat→Int)(i k p:Nat):UInt8:=if p/8<i∨(p/8=i∧7-p%8<k)then LJ (ns (p/8)) (7-p%8)else 0
def rt(ns:Nat→Int)(i k:Nat):Bz:=(List.range 64).map (Cg ns i k)
theorem zt ns i k:(rt ns i k).length=64:=aq
theorem KN ns i k {p}hp:(rt ns i k)[p]=Cg ns i k p:=by simp[rt]
def ajd ns {i k}(hi:i<3)(hk:k<8):(rt ns i k).set ((i+1)*8-1-k) (LJ (ns i) k)=rt ns i (k+1):=by refine List.ext_getElem (by simp[zt]) fun p h1 h2=>?_;rw[List.getElem_set,KN ns i (k+1) h2];have hp:p<64:=aj;by_cases e:(i+1)*8-1-k=p;rw[if_pos e];unfold Cg;grind;rw[if_neg e,KN];unfold Cg;grind
def afM ns i:rt ns i 8=rt ns (i+1) 0:=by unfold rt;refine qz fun p _=>?_;unfold Cg;grind
def amP n k:(if n<0 then 0 else n)/2^(8*k)%256=((LJ n k).toNat:Int):=by grind[LJ,Cm]
def wK(l:Bz):Array Value:=(Lib.byteCells l).toArray
def abG {l p}(hp:p<l.length):(wK l)[p]?=some (.int .u8 l[p].toNat):=by simp[wK,Lib.byteCells,hp]
def amQ {l}p c:(wK l).setIfInBounds p (.int .u8 c.toNat)=wK (l.set p c):=by simp[wK,Lib.byteCells,List.map_set]
def BR(e b c:Int):Nat→Int:=fun i=>if i=0 then e else if i=1 then b else c
def jg(e b c:Int):Bz:=(rt (BR e b c) 3 0).take 56++(rt (BR e b c) 3 0).take 8
def aag {P ops o a w Q rest}(hg:o.guard=none)x i t(QH:o.op=Op.index t x i){xv iv r}(hx:a.eval x=xv)(hi:a.eval i=iv)(lu:(Instr.index t xv iv).run P w=.ok r w)(hK:wpList P ops Q rest (a.put o.dst r) w):wpList P ops Q (o::rest) a w:=by refine uE hg fun K' hK'=>?_;unfold Oper.wp;simp[execOp,QH,hx,hi,lu,Result.andThen];exact hK' _ _ hK
theorem avu e b c w:(Instr.index 268 (.agg #[al e,al b,al c]) (al ((0:Nat):Int))).run prog w=.ok (al e) w:=ad
theorem avv e b c w:(Instr.index 268 (.agg #[al e,al b,al c]) (al ((1:Nat):Int))).run prog w=.ok (al b) w:=ad
theorem avw e b c w:(Instr.index 268 (.agg #[al e,al b,al c]) (al ((2:Nat):Int))).run prog w=.ok (al c) w:=ad
def awQ e b c {j:Nat}(hj:j<3)w:(Instr.index 268 (.agg #[al e,al b,al c]) (al (j:Int))).run prog w=.ok (al (BR e b c j)) w:=by grind[avu,avv,avw,BR]
def Qu e0 b0 c0 w:dM 133 #[.agg #[al e0,al b0,al c0]] w (str (jg e0 b0 c0)):=by
 go_enter func133,ntmps133;go_wp2_with fail;obtain⟨ns,hns⟩:=aZ (BR e0 b0 c0);have X0:aM ((w.alloc (.cells #[al e0,al b0,al c0] 181)).alloc (.cells (wK (rt ns 0 0)) 227)) (w.heap.size+1) 227 (wK (rt ns 0 0)):=aM.jb ae _ _;have B0:Below w.heap.size w ((w.alloc (.cells #[al e0,al b0,al c0] 181)).alloc (.cells (wK (rt ns 0 0)) 227)):=((aJ _ _).alloc (au _) _).alloc ae _;have hz:wK (rt ns 0 0)=((List.replicate 64 (0:Int)).map (Value.int .u8)).toArray:=aq;rw[hz]at X0 B0;change Code.wp _ _ _ _ ((w.alloc (.cells #[al e0,al b0,al c0] 181)).alloc (.cells ((List.replicate 64 (0:Int)).map (Value.int .u8)).toArray 227));generalize(w.alloc (.cells #[al e0,al b0,al c0] 181)).alloc (.cells ((List.replicate 64 (0:Int)).map (Value.int .u8)).toArray 227)=w1 at X0 B0⊢;rw[←hz]at X0;obtain⟨g,hg⟩:=aZ (w.heap.size+1);rw[hg]at X0⊢;have hgB:w.heap.size≤g:=ab;have YD:=ag X0;have KA:=ag B0;have HNS:=ag hns;clear X0 B0 hz hg hns;go_loopw [14](fun i wr=>∃j:Nat,j≤3∧i=al j∧aM wr g 227 (wK (rt ns j 0))∧Below w.heap.size w wr)(fun i _=>3-(intOf i).toNat);case atStart=>exact⟨0,aI _,rfl,YD.o,KA.o⟩
 case round=>
  obtain⟨j,hj,rfl,hx,hb⟩:=hrel;have HX:=ag hx;have HB:=ag hb;clear hx hb;by_cases eo:j<3
  ·have yY:(j:Int)<3:=ab
   ·have hix:=fun w=>awQ e0 b0 c0 eo w;rw[HNS.o]at hix;have HIX:=ag hix;clear hix;go_wp2_with(refine aag rfl _ _ _ rfl rfl rfl (HIX.o _) ?_);go_loopw [18](fun i wr=>∃k:Nat,k≤8∧i=al k∧aM wr g 227 (wK (rt ns j k))∧Below w.heap.size w wr)(fun i _=>8-(intOf i).toNat);case atStart=>exact⟨0,aI _,rfl,HX.o,HB.o⟩
    case round=>
     obtain⟨k,hk,rfl,hx,hb⟩:=hrel;by_cases hk8:k<8
     ·have Vb:(k:Int)<8:=ab;have hp:(j+1)*8-1-k<(rt ns j k).length:=by rw[zt];omega
      have hc:=(hx.cell ((j+1)*8-1-k)).trans (abG hp);have hf:=hx.frozen ((j+1)*8-1-k);have we:=ag hx;have pE:=ag hb;clear hx hb;have hv:=amP (ns j) k;go_wp2_with fail;clear hv;have hx3:=we.o.dq ((j+1)*8-1-k) (.int .u8 ((LJ (ns j) k).toNat:Int));rw[amQ,ajd ns eo hk8]at hx3;have Lr:=ag hx3;have yV:=ag (pE.o.setCell (p:=(aD g ((j+1)*8-1-k))) hgB (.int .u8 ((LJ (ns j) k).toNat:Int)));go_roundw;case rel=>exact⟨k+1,ab,aq,Lr.o,yV.o⟩
      case measure=>exact bC
     ·obtain rfl:k=8:=ab;rw[afM]at hx;have we:=ag hx;have pE:=ag hb;clear hx hb;go_wp2_with fail;go_roundw;case rel=>exact⟨j+1,ab,aq,we.o,pE.o⟩
      case measure=>exact bC
  obtain rfl:j=3:=ab;go_wp2_with fail;obtain⟨L,hL⟩:=aZ (rt ns 3 0);have Ol:L.length=64:=by rw[←hL];rfl
  rw[hL]at HX;have hn8:(Lib.byteCells (L.take 8)).length=Nat.min 8 8:=by simp[Lib.byteCells,Ol]
  have Bg:56+(Lib.byteCells (L.take 8)).length≤(Lib.byteCells L).length:=by rw[hn8];simp[Lib.byteCells,Ol]
  have aur:∀(j:Nat)(v:Value),(Lib.byteCells (L.take 8))[j]?=some v→wr.drew.cell? (((aD g 0):Addr).add j)=some v:=by
   intro q v hq;have hql:q<8:=by have:=(bf.1 hq).1;simp[Lib.byteCells]at this;omega
   have ha:((aD g 0):Addr).add q=(aD g q):=by unfold Addr.add;split<;>simp_all
   rw[ha];refine((aM.drew HX.o).cell q).trans ?_;rw[abG ab];rw[←hq];simp[Lib.byteCells,Ol,hql]
  refine eO 3 (fun _=>True) ad trivial (fun hS=>?_);refine ib 0 36 hS ?_;refine ib 1 37 hS ?_;refine du 2 ad rfl (fun K hK=>?_);refine step_copy_splice rfl (.tmp 36) (.tmp 37) 137 137 rfl 5 underlying137 ad (some (aD g 56)) (some (aD g 0)) 8 8 8 64 rfl rfl g 56 (Lib.byteCells L) 227 HX.o (Lib.byteCells (L.take 8)) hn8 (fun _=>⟨rfl,_,rfl,aur⟩) Bg (by intro v hv;unfold Lib.byteCells at hv;obtain⟨b,-,rfl⟩:=eu.1 hv;rfl) w.heap.size w HB.o.drew hgB ?_;intro w4 UX pF;have HG4:=UX;have Ff:=ag pF;clear UX pF;refine hK.out _ _ trivial (fun hS=>?_);refine ou ad ?_;have hsp:splice (Lib.byteCells L) 56 (Lib.byteCells (L.take 8))=Lib.byteCells (L.take 56++L.take 8):=by unfold splice Lib.byteCells;simp[Ol,xS]
  have Nk:L.take 56++L.take 8=jg e0 b0 c0:=by unfold jg;rw[HNS.o,hL]
  have Wk:(jg e0 b0 c0).length=64:=aq;rw[hsp,Nk]at HG4;have kc:=fZ (P:=prog) w4 137 9 5 (aD g 0) 64 (jg e0 b0 c0) underlying137 underlying5 underlying9 (Lib.bytes_of_row HG4.o (aL (l:=Lib.byteCells (jg e0 b0 c0)) Ka));rw[Wk]at kc;clear hS aur Bg hn8 hsp Nk hL HX Ol;go_wp2_with fail;go_ret;exact⟨rfl,Ff.o⟩
end Go.Proofs.YtlddafbgfkocjaaGreatDoor
