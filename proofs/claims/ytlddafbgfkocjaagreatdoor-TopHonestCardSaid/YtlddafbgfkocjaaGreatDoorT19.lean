/- A part of TopHonest. -/
import Derived.Test.YtlddafbgfkocjaaGreatDoorT04
import Derived.Test.YtlddafbgfkocjaaGreatDoorT09
namespace Go.Proofs.YtlddafbgfkocjaaGreatDoor
open Go.RowKit Go.Proofs.Tryz
set_option linter.all false
set_option maxRecDepth 1000000
set_option maxHeartbeats 400000000
def rr:(prog.info? 94).map (fun i=>(i.zero,i.size,i.bytes))=some (some (.agg #[.string ByteArray.empty,.string ByteArray.empty]),2,32):=ad
def aba:(prog.info? 43).map (fun i=>(i.zero,i.size,i.bytes))=some (some (.agg (da iP)),32,32):=ad
def AF:(prog.info? 49).map (fun i=>(i.zero,i.size,i.bytes))=some (some (.agg (iB lI)),34,48):=ad
def Wy x:∀u∈eC x,u.oneCell'=true:=by intro u hu;simp[eC]at hu;rcases hu with rfl|rfl<;>rfl
def PC x:∀u∈sC x,u.oneCell'=true:=fun u hu=>(eK.1 (alE x)) u (by grind[sC])
def vm {α:Type}{f:α→List Value}(hf:∀x,∀u∈f x,u.oneCell'=true)(L:List α):∀u∈L.flatMap f,u.oneCell'=true:=ai
def di.range {α f sz w}{L:List α}{g o cap n}(h:di w (.slice (some (aD g o)) n cap) f sz L):w.rangeAt g o (L.flatMap f):=by rcases h.2.2 with⟨h1,_⟩|⟨g',o',eU,h1,h2,h3,h4,h5⟩;all_goals grind
def QZ w v L(hv:co w v L)(hl:L.length≤1000000):Calls prog 26 #[v] w fun e w'=>∃v',e=.returned v'∧w'.ownsRow w.heap.size 94 2 v' L.length (L.flatMap eC)∧(v'=.slice none 0 0↔v=.slice none 0 0)∧Below w.heap.size w w':=by have hM:=Mem.start w;have heq:=fun(w:World)(a:Option Addr)(n c:Nat)=>pg (P:=prog) w 35 94 a n c 0 0 underlying35;rcases hv.form with⟨rfl,rfl⟩|⟨g,o,cap,rfl,tV,nP,hg⟩;go_enter func26,ntmps26;go_wp2_with fail;go_ret;simp[dy,aJ];have hr:=hv.range;have NZ:=jW uw L;have vE:=vm Wy L;obtain⟨news,Lv⟩:=aZ (L.flatMap eC);rw[Lv]at hr NZ vE⊢;have Cu:0+L.length≤maxLen:=ab;obtain⟨m,hm⟩:=aZ L.length;rw[hm]at NZ Cu hl hv⊢;have HF:=ag NZ;clear NZ hm hv Lv tV;go_enter func26,ntmps26;go_wp2_with(first|((refine uW hM rfl (some 5) rfl 35 94 rfl underlying35 rr ?_;intro g5 w5 hM))|(refine uV hM rfl (some 7) rfl _ _ 35 rfl 94 underlying35 rr rfl ae 0 rfl rfl rfl (hM.range hr ae) HF.o vE Cu ab ?_;intro v' w' eZ qY hN;have hM:=hN;clear hN;rw[cK,bJ]at eZ;have HO:=ag eZ;have HN:=ag qY;clear eZ qY));go_ret;exact⟨_,rfl,HO.o,⟨fun h=>absurd (HN.o.1 h).1 ae,fun h=>by cases h⟩,hM.below⟩
end Go.Proofs.YtlddafbgfkocjaaGreatDoor
