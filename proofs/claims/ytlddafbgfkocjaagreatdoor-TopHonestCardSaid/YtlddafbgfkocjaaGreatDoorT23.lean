/- A part of TopHonest. -/
import Derived.Test.YtlddafbgfkocjaaGreatDoorT11
import Derived.Test.YtlddafbgfkocjaaGreatDoorT21
namespace Go.Proofs.YtlddafbgfkocjaaGreatDoor
open Go.RowKit Go.Proofs.Tryz
set_option linter.all false
set_option maxRecDepth 1000000
set_option maxHeartbeats 400000000
def qj h w:dM 95 #[.agg (da h)] w (str h.1):=Lk w h.1 h.2
def qV(h:qh):Bs:=bA 99 h.chain++(dN 104 h.ay.toNat++(dN 116 h.time.toNat++bA 114 h.root.1))
def aaZ h w(hc:h.chain.length≤16777215)(hh:h.ay≤9223372036854775807)(ht:h.time≤9223372036854775807):dM 60 #[.agg (il h)] w (str (qV h)):=by
 obtain⟨X,hX⟩:=aZ (bA 99 h.chain);obtain⟨Y,hY⟩:=aZ (dN 104 h.ay.toNat);obtain⟨Z,hZ⟩:=aZ (dN 116 h.time.toNat);obtain⟨R,hR⟩:=aZ (bA 114 h.root.1);have lX:X.length≤16777219:=by rw[←hX,cw];omega
 have lY:Y.length≤12:=by rw[←hY];exact dW _ _
 have lZ:Z.length≤12:=by rw[←hZ];exact dW _ _
 have lR:R.length≤36:=by rw[←hR,cw,h.root.2];omega
 have q1:¬9223372036854775807<X.length+Y.length:=ab;have q2:¬9223372036854775807<X.length+Y.length+Z.length:=ab;have q3:¬9223372036854775807<X.length+(Y.length+Z.length)+R.length:=ab;have as8:h.root.1.length≤16777215:=by have:=h.root.2;omega
 have HB:=ag (show qV h=X++(Y++(Z++R))by unfold qV;rw[hX,hY,hZ,hR]);have HX:=ag hX;have HY:=ag hY;have HZ:=ag hZ;have HR:=ag hR;clear hX hY hZ hR;have hM:=Fm.bZ w;go_enter func60,ntmps60;go_wp2_with(refine bw ?_;intro gN wN hM);refine rB [] [0,1,3,4,7,8,11,12,2,5,6,9,10,13,14,15,16] ?_;intro hM;refine rC ?_;refine(dP 99 h.chain _ ah ah hc).mono ?_;rw[HX.o];rintro e wr2⟨rfl,hb⟩;have hN:=hM.step hb;have hM:=hN;clear hN;refine aN ?_;refine(jc 104 h.ay _ ah ah hh).mono ?_;rw[HY.o];rintro e wr5⟨rfl,hb⟩;have hN:=hM.step hb;have hM:=hN;clear hN;refine aN ?_;refine(jc 116 h.time _ ah ah ht).mono ?_;rw[HZ.o];rintro e wr9⟨rfl,hb⟩;have hN:=hM.step hb;have hM:=hN;clear hN;refine aN ?_;refine(qj h.root _).mono ?_;rintro e avN⟨rfl,hb⟩;have hN:=hM.step hb;have hM:=hN;clear hN;refine aN ?_;refine(dP 114 h.root.1 _ ah ah as8).mono ?_;rw[HR.o];rintro e axP⟨rfl,hb⟩;have hN:=hM.step hb;have hM:=hN;clear hN;refine rK ?_;go_wp2;go_ret;exact⟨by rw[HB.o];rfl,hM.below⟩
end Go.Proofs.YtlddafbgfkocjaaGreatDoor
