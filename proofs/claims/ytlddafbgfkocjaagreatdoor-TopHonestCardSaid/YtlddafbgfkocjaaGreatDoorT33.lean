/- A part of TopHonest. -/
import Derived.Test.YtlddafbgfkocjaaGreatDoorT06
import Derived.Test.YtlddafbgfkocjaaGreatDoorT13
import Derived.Test.YtlddafbgfkocjaaGreatDoorT14
import Derived.Test.YtlddafbgfkocjaaGreatDoorT29
namespace Go.Proofs.YtlddafbgfkocjaaGreatDoor
open Go.RowKit Go.Proofs.Tryz
set_option linter.all false
set_option maxRecDepth 1000000
set_option maxHeartbeats 400000000
def lj(c:Int):List Bz→Bz|[]=>[]|s::l=>bA c s++lj c l
def qf(c:Int)(l:List Bz):Bz:=bA c (lj c l)
def ajo c l s:lj c (l++[s])=lj c l++bA c s:=by induction l<;>simp_all[lj]
def aap c:∀(l)(k),(lj c (l.take k)).length≤(lj c l).length:=by intro l;induction l with|nil=>simp|cons a l ih=>intro k;cases k with|zero=>simp[lj]|succ k=>grind[lj]
def adm c:∀(l)(k)(h:k<l.length),l[k].length+4≤(lj c l).length:=by intro l;induction l with|nil=>simp|cons a l ih=>grind[lj,cw]
def iS.reads {w B v L}(h:iS w B v L):ke w v L:=by rcases h.read with⟨rfl,rfl⟩|⟨g,cap,rfl,_,h2,h3,h4,h5⟩;exact⟨Option.none,0,rfl,ae,ae⟩;exact⟨_,cap,rfl,ab,fun _=>⟨g,0,rfl,h2,fun i hi=>ai⟩⟩
def aaq {T e B b bs w w'}(h:Lib.IsBuilder T e B b bs w)(hb:Below w.heap.size w w'):Lib.IsBuilder T e B b bs w':=by
 have one:∀p,Lib.BuilderAt T e B b p bs w→Lib.BuilderAt T e B b p bs w':=by rintro p hh;have eo:=hh.lt;obtain⟨h1,v,h2,h3,h4⟩:=hh;refine⟨h1,v,(hb.block b eo).trans h2,?_,h4⟩;exact jA h3 (row:=Option.none) ⟨hb.os,hb.tape,hb.output,hb.size,fun k hk _=>hb.block k hk⟩ ai
 rcases h with h|h;exact .inl (one _ h);exact .inr (one _ h)
def VN l:Lib.strCells ⟨l.toArray⟩=Lib.byteCells l:=aq
def zQ c v L w(hv:ke w v L)(c0:0≤c)(c1:c≤255)(hl:(lj c L).length≤16777215):dM 134 #[.int .u8 c,v] w (str (qf c L)):=by
 obtain⟨p,cp,rfl,atQ,akB⟩:=hv;unfold maxLen at atQ;have HC:=ag akB;clear akB;go_enter func134,ntmps134;go_wp2_with fail;go_loopw [10](fun i wr=>∃k:Nat,k≤L.length∧i=al k∧Lib.IsBuilder 186 5 w.heap.size w.heap.size (Lib.byteCells (lj c (L.take k))) wr∧Below w.heap.size w wr)(fun i _=>L.length-(intOf i).toNat);case atStart=>exact⟨0,aI _,rfl,Lib.fresh_isBuilder _ _ w,(aJ _ w).alloc (au _) _⟩
 case round=>
  obtain⟨k,hk,rfl,hbd,ni⟩:=hrel;have Hbd:=ag hbd;clear hbd;have nR:=ni.size;have htl:=aap c L k;by_cases eo:k<L.length
  ·obtain⟨b,o,rfl,hbw,fd⟩:=HC.o ab;have c1':wr.cell? (aD b (o+k))=some (str L[k]):=(ni.cell (p:=(aD b (o+k))) hbw).trans (fd k eo);have hml:=adm c L k eo;have aeg:=ag (show L.take (k+1)=L.take k++[L[k]]from aS eo);obtain⟨A,hA⟩:=aZ (L[k]);rw[hA]at c1' aeg hml;clear hA fd;go_wp2_with fail;refine(dP c A _ c0 c1 ab).mono ?_;rintro e w1⟨rfl,eH⟩;have wE:=bP ni eH;have awV:=ag (aaq Hbd.o eH);clear c1';go_wp2_with fail;refine(Et w.heap.size w.heap.size _ ⟨(bA c A).toArray⟩ _ awV.o (by simp only[Lib.byteCells,fR];have:=cw c A;simp[ByteArray.size]at*;omega) wE.size).mono ?_;rintro e w2⟨rfl,auv,ft⟩;have aaJ:=wE.trans ft;have awW:=ag auv;clear auv;go_wp2;go_roundw;case rel=>refine⟨k+1,ab,aq,?_,aaJ⟩;rw[aeg.o,ajo];have h3:=awW.o;rw[VN]at h3;exact .inr (by simpa[Lib.byteCells]using h3)
   case measure=>exact bC
  obtain rfl:k=L.length:=ab;have h3:=Hbd.o;rw[ci]at h3;have H3:=ag h3;clear h3;go_wp2_with fail;refine(Tryz.Builder_String_any _ _ _ _ H3.o ab).mono ?_;rintro e w1⟨rfl,eH⟩;have wE:=ni.trans eH;go_wp2_with fail;refine(dP c (lj c L) _ c0 c1 ab).mono ?_;rintro e w2⟨rfl,ft⟩;have aaJ:=bP wE ft;go_wp2;go_ret;exact⟨rfl,aaJ⟩
def abR c aU(c0:0≤c)(c1:c≤255):∀(L),(∀b∈L,(b.length:Int)≤aU)→(∀b∈L,b.length≤16777215)→mG c aU (lj c L)=some L:=by
 intro L;induction L with|nil=>intro _ _;rfl|cons a L ih=>
  intro h1 h2;have gQ:lj c (a::L)≠[]:=by simp[lj,bA,hd]
  have hb:=iM c aU a (lj c L) c0 c1 (h2 a ae) (h1 a ae);rw[FK gQ (s':=lj c L) (t:=a) hb,ih (fun b hb=>h1 b ai) (fun b hb=>h2 b ai)];rfl
def ag6 c many aU L rest(c0:0≤c)(c1:c≤255)(h1:∀b∈L,(b.length:Int)≤aU)(h2:∀b∈L,b.length≤16777215)(hl:(lj c L).length≤16777215)(hm:(L.length:Int)≤many):sZ c many aU (qf c L++rest,false)=(L,rest,false):=by unfold sZ qf;rw[iM c 16777215 _ rest c0 c1 hl ab];simp_all[abR]
end Go.Proofs.YtlddafbgfkocjaaGreatDoor
