/- A part of TopHonest. -/
import Derived.Shelf.Strings.Builder1
import Derived.Shelf.Strings.BuilderF
import Derived.Shelf.Strings.BuilderK
import Derived.Test.YtlddafbgfkocjaaGreatDoorT01
namespace Go.Proofs.YtlddafbgfkocjaaGreatDoor
open Go.RowKit Go.Proofs.Tryz
set_option linter.all false
set_option maxRecDepth 1000000
set_option maxHeartbeats 400000000
def sizeBuilder:(prog.info? 186).map (·.size)=some 2:=ad
def liesBuilder:liesAt prog prog.depth 186 (2/prog.cellsOf 186) 0 186 1=true:=ad
def infoByte:(prog.info? 5).map (fun i=>(i.zero,i.size,i.bytes))=some (some (.int .u8 0),1,1):=ad
def TR b w(h0:w.cell? (aD b 0)=some (aG b)):Calls prog 156 #[aG b] w fun e w'=>e=.returned (.tuple #[])∧w'=w:=by obtain⟨j,hj,_⟩:=nY.1 sizeBuilder;go_enter func156,ntmps156;go_wp2;rw[Lib.run_neq_ptr_same w _ underlying184 hj];go_wp2;go_end0;simp
def Pu b w(h0:w.cell? (aD b 0)=some (.pointer none))(hsh:w.shape? b=some (186,2))(Gk:w.frozen? (aD b 0)=false):Calls prog 156 #[aG b] w fun e w'=>e=.returned (.tuple #[])∧w'=w.setCell (aD b 0) (aG b):=by obtain⟨j,hj,hjs⟩:=nY.1 sizeBuilder;go_enter func156,ntmps156;go_wp2;rw[Lib.run_to_unsafe w (aD b 0) underlying184 underlying292 hj ab hsh (Nat.zero_lt_succ 1)];simp only[Result.andThen];rw[qt];go_wp2;rw[kS func205 ad ad ad (e:=Extern.AbiNoEscape.same) ad];rw[Lib.run_noEscape];simp only[Result.andThen];rw[qt];go_wp2;rw[Lib.run_from_unsafe w (aD b 0) underlying292 underlying184 hj hsh liesBuilder];simp only[Result.andThen];rw[qt];go_wp2;go_end0;simp
def Vm B b bs w(h:Lib.IsBuilder 186 5 B b bs w):Calls prog 156 #[aG b] w fun e w'=>e=.returned (.tuple #[])∧(Lib.BuilderAt 186 5 B b (aG b) bs w'∧Below B w w'):=by rcases h with h|h;refine(Pu b w h.cell0 h.shape h.frozen0).mono ?_;rintro e w'⟨rfl,rfl⟩;exact⟨rfl,h.used _,(aJ B w).setCell (p:=(aD b 0)) h.1 _⟩;refine(TR b w h.cell0).mono ?_;grind[Below.refl]
def Et B b bs s w(h:Lib.IsBuilder 186 5 B b bs w)(hlen:bs.length+s.size≤140737488355328)(Nn:B≤w.heap.size):Calls prog 103 #[aG b,.string s] w fun e w'=>e=.returned (.tuple #[al s.size,.nilIface])∧(Lib.BuilderAt 186 5 B b (aG b) (bs++Lib.strCells s) w'∧Below B w w'):=by
 obtain⟨i0,hi,UN,yU,yk⟩:=el infoByte;go_enter func103,ntmps103;go_wp2_with fail;refine(Vm B b bs _ h).mono ?_;rintro e w1⟨rfl,h1,eH⟩;obtain⟨hB,v,Li,eZ,gQ⟩:=h1;have c0:w1.cell? (aD b 0)=some (aG b):=by rw[mY Li];rfl
 have c1:w1.cell? (aD b 1)=some v:=by rw[mY Li];rfl
 go_wp2_with(at_builtin;refine Lib.wpList_append_own_string _ rfl _ _ 137 9 rfl B 5 i0 underlying137 underlying9 hi UN yU yk _ _ _ rfl eZ s rfl ?c3 ?c4 ?c5 ?_);case c3=>exact gz
 case c4=>omega
 case c5=>have:=eH.size;omega
 intro v' w2 Ii pS _;have eo:b<w1.heap.size:=by rcases dF b w1.heap.size with h'|h';omega;simp[eJ h']at Li
 have ft:w2.heap[b]?=some (.cells #[aG b,v] 186 (0,0)):=by rw[pS.block b eo (fun e=>gQ e.symm)];omega
 have d0:w2.cell? (aD b 0)=some (aG b):=by rw[mY ft];rfl
 have d1:w2.cell? (aD b 1)=some v:=by rw[mY ft];rfl
 have f1:w2.frozen? (aD b 1)=false:=Lib.frozen_of_heap ft 1;obtain⟨ao,n',cap,rfl⟩:∃ao n' cap,v'=.slice ao n' cap:=by rcases Ii.2 with⟨hv,_⟩|⟨g,cap,cur,hv,_⟩;exact⟨_,_,_,hv⟩;exact⟨_,_,_,hv⟩
 go_wp2;go_ret2;refine⟨rfl,?_,?_⟩;exact Lib.BuilderAt.put (T:=186) (e:=5) hB ft (bs':=bs++Lib.strCells s) (by simpa[Lib.strCells_length]using Ii) ae;exact(eH.grown pS ab (fun k hk=>(eZ.lt k hk).1)).setCell (p:=(aD b 1)) hB _
section
open Go.Shelf
def yv:Go.Shelf.Ren:=⟨fun|169=>105|n=>n,fun|70=>184|9=>9|0=>0|72=>186|37=>137|127=>242|3=>3|5=>5|n=>n,fun|n=>n⟩
def uY : Go.Proofs.Lays.n169 prog yv := {
  mixed := by kernel_rfl
  f169 := func105.trans (congrArg some ad)
  t0 := underlying0
  a0 := isAgg0
  z0 := sizeOf0
  v0 := zeroValue0
  t3 := underlying3
  a3 := isAgg3
  z3 := sizeOf3
  v3 := zeroValue3
  t9 := underlying9
  a9 := isAgg9
  z9 := sizeOf9
  v9 := zeroValue9
  t37 := underlying137
  a37 := isAgg137
  z37 := sizeOf137
  v37 := zeroValue137
  t70 := underlying184
  a70 := isAgg184
  z70 := sizeOf184
  v70 := zeroValue184
  t72 := underlying186
  a72 := isAgg186
  z72 := sizeOf186
  v72 := zeroValue186
  t127 := underlying242
  a127 := isAgg242
  z127 := sizeOf242
  v127 := zeroValue242 }
def gC : Builder.Extra prog yv := {
  sizeBuilder := by kernel_rfl
  liesBuilder := by kernel_rfl
  t5 := underlying5
  a5 := isAgg5
  z5 := sizeOf5
  v5 := zeroValue5
  infoByte := by kernel_rfl
  cellsByte := by kernel_rfl
  sizeByte := by kernel_rfl
  neB5 := by decide }
def Builder_String_any B b l w(h:Lib.IsBuilder 186 5 B b (Lib.byteCells l) w)(Nn:B≤w.heap.size):Calls prog 105 #[aG b] w fun e w'=>e=.returned (.string ⟨l.toArray⟩)∧Below B w w':=Any.Builder_String_any uY gC B b l w h Nn
def Ux B b l w(h:Lib.IsBuilder 186 5 B b (Lib.byteCells l) w):Calls prog 104 #[aG b] w fun e w'=>e=.returned (al l.length)∧w'=w:=by
 have hl:(Lib.byteCells l).length=l.length:=Ka;have h2:∃p ao cap,w.heap[b]?=some (.cells #[p,.slice ao l.length cap] 186 (0,0)):=by rw[←hl];rcases h with h|h;all_goals obtain⟨hB,v,Li,eZ,gQ⟩:=h;rcases eZ.2 with⟨hv,qY⟩|⟨g,cap,cur,hv,_⟩;subst hv;exact⟨_,_,_,by rw[Li,qY]⟩;subst hv;exact⟨_,_,_,Li⟩
 obtain⟨p,ao,cap,Li⟩:=h2;have c1:w.cell? (aD b 1)=some (.slice ao l.length cap):=by rw[mY Li];rfl
 go_enter func104,ntmps104;exact DA
end
end Go.Proofs.YtlddafbgfkocjaaGreatDoor
