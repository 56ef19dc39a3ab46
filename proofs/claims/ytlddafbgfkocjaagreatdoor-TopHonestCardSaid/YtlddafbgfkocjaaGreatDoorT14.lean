/- A part of TopHonest. -/
import Derived.Deep.Slices
import Derived.Lib.SmallJoins
import Derived.OpenShut
import Derived.ProofKit
import Derived.SliceStrings
import Derived.Test.YtlddafbgfkocjaaGreatDoorT01
namespace Go.Proofs.YtlddafbgfkocjaaGreatDoor
open Go.RowKit Go.Proofs.Tryz
set_option linter.all false
set_option maxRecDepth 1000000
set_option maxHeartbeats 400000000
section
open Go.WideShapes Go.Joins Go.ChangeShapes Go.Deep
def ame a:str a.data.toList=.string a:=ae
section
variable{H:Type}{enc:TypeId×Value→H}{P:Program}{w:World}{base:Nat}{spare:Nat→Bool}{held:Bool}{r:Reach}{b0:Nat}{t:TypeId}{v:Value}{d:DataW H}{p:List MemPlace}
end
end
section
open Go.WideShapes Go.ChangeShapes Go.Joins Go.Deep
def ke(w:World)(v:Value)(L:List Bz):Prop:=∃p c,v=.slice p L.length c∧L.length≤maxLen∧(0<L.length→∃b o,p=some (aD b o)∧b<w.heap.size∧∀i(h:i<L.length),w.cell? (aD b (o+i))=some (str L[i]))
section
variable{H:Type}{enc:TypeId×Value→H}{P:Program}{w:World}{base:Nat}{spare:Nat→Bool}{held:Bool}{r:Reach}{b0:Nat}{t:TypeId}{v:Value}{d:DataW H}{p:List MemPlace}
end
end
section
open Go.WideShapes Go.ChangeShapes Go.Joins Go.Deep
def aqh(w:World)(v:Value)(C n:Nat)(R:Nat→List Value):Prop:=∃p c,v=.slice p n c∧n≤maxLen∧(0<n→∃b o,p=some (aD b o)∧b<w.heap.size∧∀i,i<n→(R i).length=C∧∀j,j<C→w.cell? (aD b (o+i*C+j))=(R i)[j]?)
section
variable{H:Type}{enc:TypeId×Value→H}{P:Program}{w:World}{base:Nat}{spare:Nat→Bool}{held:Bool}{r:Reach}{b0:Nat}{t:TypeId}{v:Value}{d:DataW H}{p:List MemPlace}
def Gb {α:Type} [Inhabited α]{n}{q:Nat→α→Prop}(h:∀i,i<n→∃x,q i x):∃f:Nat→α,∀i,i<n→q i (f i):=by refine⟨fun i=>if hi:i<n then Classical.choose (h i hi)else default,fun i hi=>?_⟩;simp only[hi,dif_pos];exact Classical.choose_spec (h i hi)
def EC {e fuel x}(ht:P.underlying t=some (.slice e))(hC:0<P.cellsOf e)(hf:DataW.trod enc P w base spare held fuel t [v]=some x):∃(n m:Nat)(R:Nat→List Value),aqh w v (P.cellsOf e) n R∧∀i,i<n→∃y,DataW.trod enc P w base spare held m e (R i)=some y:=by
 rcases open_slice ht hf with⟨iO,_⟩|⟨a',aeb,eU,m,n,D,Pl,iO,_,hl,hm,hz,_,hx⟩;obtain rfl:v=.slice none 0 0:=ai;exact⟨0,0,fun _=>[],⟨_,_,rfl,ae,fun h=>absurd h ae⟩,fun i hi=>absurd hi ae⟩;obtain rfl:v=.slice (some a') aeb eU:=ai;rcases dZ aeb with h0|h0;subst h0;exact⟨0,0,fun _=>[],⟨_,_,rfl,ae,fun h=>absurd h ae⟩,fun i hi=>absurd hi ae⟩;have hlen:aeb≤m:=ai;obtain⟨R,hR⟩:=Gb (α:=List Value) (n:=aeb) (q:=fun i cs'=>w.cells? base (a'.add (i*P.cellsOf e)) (P.cellsOf e)=some cs'∧DataW.trod enc P w base spare held n e cs'=some (D i,Pl i)) (fun i hi=>hx i ab);have fd:∀i,i<aeb→(R i).length=P.cellsOf e∧∀j,j<P.cellsOf e→w.cell? ((a'.add (i*P.cellsOf e)).add j)=(R i)[j]?:=fun i hi=>(World.cells?_some (hR i hi).1).2;obtain⟨b,o,spot⟩:=a';obtain⟨q1,q2⟩:=fd 0 h0;have Rl:=q2 0 hC;rw[uG]at Rl;obtain⟨u,hu⟩:∃u,(R 0)[0]?=some u:=⟨_,aW ab⟩;rw[hu]at Rl;have avd:spot=none:=by simpa[Addr.add]using World.cell?_spot Rl
 subst avd;refine⟨aeb,n,R,⟨_,eU,rfl,ab,fun _=>⟨b,o,rfl,?_,fun i hi=>⟨(fd i hi).1,fun j hj=>?_⟩⟩⟩,fun i hi=>⟨_,(hR i hi).2⟩⟩;rw[add_plain,add_plain]at Rl;exact ia w _ Rl;have:=(fd i hi).2 j hj;rw[add_plain,add_plain]at this;omega
def aiI {e}(ht:P.underlying t=some (.slice e))(hC:0<P.cellsOf e)(hv:Value.okWide P w r b0 t v)(h:DataW.Trod enc P w base spare held t v d p):∃(n m:Nat)(R:Nat→List Value),aqh w v (P.cellsOf e) n R∧∀i,i<n→∃y,DataW.trod enc P w base spare held m e (R i)=some y:=by obtain⟨a,len,cap,rfl⟩:=okWide_slice ht hv;obtain⟨fuel,hf⟩:=h;exact EC ht hC aj
def aiJ {fs fuel cs x}(ht:P.underlying t=some (.struct fs))(xX:oneCellFields P fs=true)(hC:P.cellsOf t=fs.size)(h:DataW.trod enc P w base spare held fuel t cs=some x):cs.length=fs.size∧∃n,∀(i:Nat)(f),fs[i]?=some f→∃u y,cs[i]?=some u∧DataW.trod enc P w base spare held n f.type [u]=some y:=by obtain⟨xs,n,_,rfl,hl,hlen,hf⟩:=DataW.trod_struct ht h;refine⟨ab,n,fun i f hi=>?_⟩;have hif:=hf i f hi;obtain⟨o1,k1⟩:=hone_of xX i f hi;grind[List.drop_eq_getElem_cons]
end
end
section
open Go.WideShapes Go.ChangeShapes Go.Joins Go.Deep
def ar3(w:World)(v:Value)(ks:List Bool):Prop:=ks.length≤maxLen∧∃p c,v=.slice p ks.length c∧(0<ks.length→∃b o,p=some (aD b o)∧b<w.heap.size∧∀i(h:i<ks.length),w.cell? (aD b (o+i))=some (.bool ks[i]))
section
variable{H:Type}{enc:TypeId×Value→H}{P:Program}{w:World}{base:Nat}{spare:Nat→Bool}{held:Bool}{r:Reach}{b0:Nat}{t:TypeId}{v:Value}{d:DataW H}{p:List MemPlace}
def Ng {e fuel x}(ht:P.underlying t=some (.slice e))(he:P.underlying e=some .bool)(hce:P.cellsOf e=1)(hf:DataW.trod enc P w base spare held fuel t [v]=some x):∃ks,ar3 w v ks:=by obtain⟨n,m,R,⟨q,c,rfl,hm,hR⟩,hy⟩:=EC ht ab hf;rw[hce]at hR;rcases dZ n with h0|h0;subst h0;exact⟨[],ae,_,_,rfl,fun h=>absurd h ae⟩;obtain⟨b,o,rfl,hb,fd⟩:=hR h0;obtain⟨F,hF⟩:=Gb (α:=Bool) (n:=n) (q:=fun i x=>R i=[.bool x]) (fun i hi=>by grind[DataW.trod_bool]);have hlen:((List.range n).map F).length=n:=ae;refine⟨(List.range n).map F,ab,some (aD b o),c,ae,fun _=>⟨b,o,rfl,hb,fun i hi=>?_⟩⟩;grind
end
end
end Go.Proofs.YtlddafbgfkocjaaGreatDoor
