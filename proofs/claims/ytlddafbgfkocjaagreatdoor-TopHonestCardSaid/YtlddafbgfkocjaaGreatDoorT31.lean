/- A part of TopHonest. -/
import Derived.BigRegion
import Derived.RegionTactic
import Derived.Test.YtlddafbgfkocjaaGreatDoorT04
import Derived.Test.YtlddafbgfkocjaaGreatDoorT12
import Derived.Test.YtlddafbgfkocjaaGreatDoorT29
namespace Go.Proofs.YtlddafbgfkocjaaGreatDoor
open Go.RowKit Go.Proofs.Tryz
set_option linter.all false
set_option maxRecDepth 1000000
set_option maxHeartbeats 400000000
def mj(s:Bz):Int×Int:=if mV (ei 110 1099511627776 (s,false)).2=0 then((ei 110 1099511627776 (s,false)).1,0)else(0,10)
def afa r:mV r=0∨mV r=10:=by grind[mV]
def TW s w(hs:s.length≤140737488351232):dM 313 #[str s] w (.tuple #[al (mj s).1,al (mj s).2]):=by
 obtain⟨⟨n,s1,b1⟩,ht⟩:∃q,ei 110 1099511627776 (s,false)=q:=⟨_,rfl⟩;have hr:mj s=if mV (s1,b1)=0 then(n,0)else(0,10):=by unfold mj;rw[ht]
 have Ht:=ag ht;clear ht;rcases afa (s1,b1)with he|he;all_goals rw[he]at hr;simp at hr;rw[hr];have He:=ag he;clear he hr;go_enter func313,ntmps313;go_wp2_with fail;refine(sF s _).mono ?_;rintro e w1⟨rfl,rfl⟩;have eH:=(aJ w.heap.size w).alloc (au _) (.cells #[str s,.bool false] 247);go_wp2_with fail;refine(sj s false 110 1099511627776 _ _ (wG s w) ae ae hs ae n s1 b1 Ht.o).mono ?_;rintro e w2⟨rfl,vt,AL⟩;have YI:=ag vt;have ft:=eH.trans (eD AL ae (au _));clear vt AL eH;go_wp2_with fail;refine(Pm s1 b1 _ _ YI.o).mono ?_;rw[He.o];rintro e w3⟨rfl,rfl⟩;go_wp2;go_ret2;exact⟨rfl,ft⟩
def Ce(e:En):Prop:=e.2.1.length≤1000000∧e.2.2.1.length≤1000000∧e.2.2.2.length≤1000000
def li {s:Bs}(h:s.length≤1000000):Fits s:=by grind[Fits]
def ahL(o p:Bs)w(h1:o.length≤1000000)(h2:p.length≤1000000):dM 308 #[str o,str p] w (.tuple #[.agg #[al (yB o p).1.1,str (yB o p).1.2.1,str (yB o p).1.2.2.1,str (yB o p).1.2.2.2],al (yB o p).2]):=al6 o p _ _ _ _ _ w rfl (li h1) (li h2)
def ala(o p:Bs)t w(h1:o.length≤1000000)(h2:p.length≤1000000)(h3:Ce t):dM 310 #[str o,str p,.agg #[al t.1,str t.2.1,str t.2.2.1,str t.2.2.2]] w (.tuple #[.agg #[al (EP o p t).1.1,str (EP o p t).1.2.1,str (EP o p t).1.2.2.1,str (EP o p t).1.2.2.2],al (EP o p t).2]):=aoI o p _ _ _ _ _ _ _ _ _ w rfl (li h1) (li h2) (li h3.1) (li h3.2.1) (li h3.2.2)
def alb x(id peer:Bs)t w(h1:id.length≤1000000)(h2:peer.length≤1000000)(h3:Ce t)(h4:Ce x):dM 312 #[.agg #[al x.1,str x.2.1,str x.2.2.1,str x.2.2.2],str id,str peer,.agg #[al t.1,str t.2.1,str t.2.2.1,str t.2.2.2]] w (.tuple #[.agg #[al (EQ x id peer t).1.1,str (EQ x id peer t).1.2.1,str (EQ x id peer t).1.2.2.1,str (EQ x id peer t).1.2.2.2],al (EQ x id peer t).2]):=aoJ _ _ _ _ _ _ _ _ _ _ _ _ _ _ _ w rfl (li h4.1) (li h4.2.1) (li h4.2.2) (li h1) (li h2) (li h3.1) (li h3.2.1) (li h3.2.2)
def Lm x(id:Bs)t w(h3:Ce t)(h4:Ce x):dM 311 #[.agg #[al x.1,str x.2.1,str x.2.2.1,str x.2.2.2],str id,.agg #[al t.1,str t.2.1,str t.2.2.1,str t.2.2.2]] w (.tuple #[.agg #[al (oS x id t).1.1,str (oS x id t).1.2.1,str (oS x id t).1.2.2.1,str (oS x id t).1.2.2.2],al (oS x id t).2]):=acu _ _ _ _ _ _ _ _ _ _ _ _ _ _ w rfl (li h4.1) (li h4.2.1) (li h4.2.2) (li h3.1) (li h3.2.1) (li h3.2.2)
def zT x w(h0:x.1≤1000000)(h1:Ce x):dM 309 #[.agg #[al x.1,str x.2.1,str x.2.2.1,str x.2.2.2]] w (str (jT x)):=aiC _ _ _ _ _ w rfl ab (by have:=h1.1;omega) (by have:=h1.2.1;omega) (by have:=h1.2.2;omega)
def ahA(s:Bs)w(h:s.length≤1000000):dM 299 #[str s] w (.tuple #[.agg #[al (sS s).1.1,str (sS s).1.2.1,str (sS s).1.2.2.1,str (sS s).1.2.2.2],al (sS s).2]):=Zu s _ _ _ _ _ w rfl ab
def MN c aU r(hm:0≤aU):((bq c aU r).1.length:Int)≤aU:=fT rfl hm
def ago c aU r(hm:0≤aU):(ei c aU r).1≤aU:=by grind[ei]
def ab5(s:Bs):(sS s).1.2.1.length≤32∧(sS s).1.2.2.1.length≤32∧(sS s).1.2.2.2.length≤32∧(sS s).1.1≤4:=by have h1:=ago 115 4 (s,false) ae;have h2:=MN 111 32 (ei 115 4 (s,false)).2 ae;have h3:=MN 113 32 (bq 111 32 (ei 115 4 (s,false)).2).2 ae;have h4:=MN 112 32 (bq 113 32 (bq 111 32 (ei 115 4 (s,false)).2).2).2 ae;grind[sS,vR]
end Go.Proofs.YtlddafbgfkocjaaGreatDoor
