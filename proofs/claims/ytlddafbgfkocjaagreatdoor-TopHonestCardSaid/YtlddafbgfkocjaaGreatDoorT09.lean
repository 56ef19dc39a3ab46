/- A part of TopHonest. -/
import Derived.Laws.AppendOwn
import Derived.Test.YtlddafbgfkocjaaGreatDoorT01
namespace Go.Proofs.YtlddafbgfkocjaaGreatDoor
open Go.RowKit Go.Proofs.Tryz
set_option linter.all false
set_option maxRecDepth 1000000
set_option maxHeartbeats 400000000
def Tryz.agi:(prog.info? 9).map (fun i=>(i.zero,i.size,i.bytes))=some (some (.string ByteArray.empty),1,16):=ad
def iS(w:World)(B:Nat)(v:Value)(L:List Bz):Prop:=w.ownsRow B 9 1 v L.length (L.map str)
section
variable{w w':World}{B:Nat}{v:Value}{L:List Bz}
def iS.none w B:iS w B (.slice none 0 0) []:=dy _ _ _ _
def iS.drew(h:iS w B v L):iS w.drew B v L:=h
def iS.alloc(h:iS w B v L)o:iS (w.alloc o) B v L:=World.ownsRow.alloc h o
def iS.step(h:iS w B v L)(hb:Below w.heap.size w w'):iS w' B v L:=jA h (row:=Option.none) ⟨hb.os,hb.tape,hb.output,hb.size,fun k hk _=>hb.block k hk⟩ ai
def iS.grown {row}(h:iS w B v L)(hg:w.grownBy w' row)(gQ:v.ownBlock=Option.none∨v.ownBlock≠row):iS w' B v L:=jA h hg gQ
def iS.aaM {B'}(h:iS w B v L)(hB:B'≤B):iS w B' v L:=SR
def iS.push {b}(h:w.ownsRow B 9 1 v (L.length+1) (L.map str++[str b])):iS w B v (L++[b]):=by unfold iS;grind
def iS.read(h:iS w B v L):(v=.slice Option.none 0 0∧L=[])∨∃g cap,v=.slice (some ⟨g,0,Option.none⟩) L.length cap∧B≤g∧g<w.heap.size∧L.length≤cap∧cap≤maxLen∧(∀i(h),w.cell? ⟨g,i,Option.none⟩=some (str L[i])):=by rcases h.2 with⟨h1,h2⟩|⟨g,cap,cur,h1,h2,h3,h4,h5,h6,h7⟩;grind;refine .inr ⟨g,cap,h1,h2,(bL.1 h3).1,h4,h5,?_⟩;intro i hi;rw[sI w g i cur 9 (0,0) h3];have h8:(cur.toList.take (L.length*1))[i]?=(L.map str)[i]?:=ai;grind
def iS.fits(h:iS w B v L):L.length≤maxLen:=by rcases h.read with⟨_,rfl⟩|⟨g,cap,_,_,_,h1,h2,_⟩;all_goals grind
end
end Go.Proofs.YtlddafbgfkocjaaGreatDoor
