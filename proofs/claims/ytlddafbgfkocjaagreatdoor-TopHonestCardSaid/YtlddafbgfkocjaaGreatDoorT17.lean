/- A part of TopHonest. -/
import Derived.Lib.AppendZeros
import Derived.Lib.Overlaps
import Derived.RangeFuncRecord
import Derived.Test.YtlddafbgfkocjaaGreatDoorT04
namespace Go.Proofs.YtlddafbgfkocjaaGreatDoor
open Go.RowKit Go.Proofs.Tryz
set_option linter.all false
set_option maxRecDepth 1000000
set_option maxHeartbeats 400000000
section
variable{P:Program}{w:World}
def FT(w:World)g cs:w.grownBy (w.setRow g cs) (some g):=⟨rfl,rfl,rfl,ae,fun k _ hk=>setRow_other w g k _ (fun e=>hk ai)⟩
def adG cur o cells:(cur.toList.take o++cells++cur.toList.drop (o+cells.length)).toArray=mT cur o cells.toArray:=by simp[mT]
def run_copy_cells dT sT ty e g o dn dc ga oa m c t cur cells i(ht:P.underlying dT=some (.slice e))(hi:P.info? e=some i)(hb:aM w g t cur)(hr:w.rangeAt ga oa cells)(hl:cells.length=Nat.min m dn*i.size)(Bg:o+cells.length≤cur.size)(h1:∀u∈cells,u.oneCell'=true):(Builtin.copy_ #[dT,sT] ty #[.slice (some (aD g o)) dn dc,.slice (some (aD ga oa)) m c]).run P w=.ok (goInt (Nat.min m dn)) (w.setRow g (mT cur o cells.toArray)):=by have hf:=run_firstCells_some (P:=P) w i.size (Nat.min m dn) (aD ga oa) m c cells hl (fun j u hj=>Jt);have iq:=oL P g o t cells 0 cur w hb ab h1;simp only[im]at iq;rw[adG]at iq;simp[Builtin.copy_,ie ht,sizeOf,typeInfo,hi,Builtin.lenOf,hf,iq]
def EB dT ty e g o n c t cur i z(ht:P.underlying dT=some (.slice e))(hi:P.info? e=some i)(hz:i.zero=some z)(hb:aM w g t cur)(hn:0<n)(Bg:o+n*z.cells.size≤cur.size)(h1:∀u∈(Builtin.zeroCells z.cells n).toList,u.oneCell'=true):(Builtin.clear_ #[dT] ty #[.slice (some (aD g o)) n c]).run P w=.ok (.tuple #[]) (w.setRow g (mT cur o (Builtin.zeroCells z.cells n))):=by have iq:=oL P g o t (Builtin.zeroCells z.cells n).toList 0 cur w hb (by grind[size_zeroCells]) h1;simp only[im]at iq;rw[adG]at iq;obtain⟨k,rfl⟩:∃k,n=k+1:=⟨n-1,ab⟩;simp[Builtin.clear_,ie ht,zeroValue,typeInfo,hi,hz];simp_all
def PL w t tn ty e i z kn(ht:P.underlying t=some (.slice e))(htn:P.underlying tn=some (.int kn))(hi:P.info? e=some i)(hz:i.zero=some z)b GN Xk m(tf:List Value)(hlo:tf.length=GN*i.size)(holds:∀j v,tf[j]?=some v→w.cell? (b.add j)=some v)(hm:0<m)(hs:0<i.size)(hg:Xk<GN+m)(Cu:((GN+m:Nat):Int)≤9223372036854775807)(Bg:Builtin.nextslicecap (GN+m) Xk*i.bytes≤281474976710656)(axp:m*i.bytes≤281474976710656):(Builtin.append_ #[t,tn] ty #[.slice (some b) GN Xk,al m]).run P w=.ok (.slice (some (aD w.heap.size 0)) (GN+m) (grownCap w (GN+m) Xk e)) (w.drew.alloc (.cells (tf.toArray++Builtin.zeroCells z.cells m++Builtin.zeroCells z.cells (grownCap w (GN+m) Xk e-(GN+m))) e)):=by
 have hn:¬(GN+m≤Xk):=ab;have hw:IntKind.i64.wrap (m:Int)=m:=by grind[IntKind.wrap_i64]
 have aq7:¬(9223372036854775807<((GN:Int)+(m:Int))):=ab;have awt:¬(281474976710656<Builtin.nextslicecap (GN+m) Xk*i.bytes):=ab;have awu:¬(281474976710656<(m:Int)*(i.bytes:Int)):=ab;have awv:¬((m:Int)<0):=ae;have hms:¬(m=0∨i.size=0):=ab;have YR:=run_firstCells_some (P:=P) w.drew i.size GN b GN Xk tf hlo aj;simp[Builtin.append_,ie ht,ie htn,sizeOf,typeInfo,zeroValue,hi,hz,Builtin.lenOf,asInt,asIntOf,hw,hn,awv,aq7,awt,awu,Question.forced,YR,newRow,grownCap];intro h0;exact absurd h0 (by have:=Nat.mul_pos hm hs;omega)
end
section
variable{P:Program}{ops:Array Oper}{rest:List Oper}{op:Oper}{a:Act}{w0 w:World}{K:Act→World→Prop}{Q:Exit→Act→World→Prop}{row:Option Nat}{l:List MB}{rs:List MR}
def yq(hM:Mem w0 row w l rs)d(hd:op.dst=d)x y dT sT(ho:op.op=.call {callee:=.builtin .copy,args:=#[x,y],argTypes:=#[dT,sT]})e(ht:P.underlying dT=some (.slice e)){z sz bytes}(pK:(P.info? e).map (fun i=>(i.zero,i.size,i.bytes))=some (some z,sz,bytes)){g o dn dc}(hx:a.eval x=.slice (some (aD g o)) dn dc){ga oa m c}(hy:a.eval y=.slice (some (aD ga oa)) m c)(j:Nat){t cs}(hj:l[j]?=some (g,t,cs))cells(hr:w.rangeAt ga oa cells)k(hk:Nat.min m dn=k)(hl:cells.length=k*sz)(Bg:o+cells.length≤cs.size)(h1:∀u∈cells,u.oneCell'=true)(h:∀w',Mem w0 row w' (l.set j (g,t,mT cs o cells.toArray)) rs→K (a.put d (goInt k)) w'):op.wp P a w K Q:=by subst hd hk;obtain⟨i,hi,yU,yk,Rc⟩:=el pK;have hb:=hM.at_ hj;have lu:=run_copy_cells (P:=P) (w:=w) dT sT op.type e g o dn dc ga oa m c t cs cells i ht hi hb hr ai Bg h1;exact SA
def Um(hM:Mem w0 row w l rs)d(hd:op.dst=d)x y t tn(ho:op.op=.call {callee:=.builtin .append,args:=#[x,y],argTypes:=#[t,tn]})e kn(ht:P.underlying t=some (.slice e))(htn:P.underlying tn=some (.int kn)){z sz bytes}(pK:(P.info? e).map (fun i=>(i.zero,i.size,i.bytes))=some (some z,sz,bytes))(hzc:z.cells.size=sz)(qZ:0<sz){g o n c}(hx:a.eval x=.slice (some (aD g o)) n c){m:Nat}(hy:a.eval y=al m)tf(hr:w.rangeAt g o tf)(hl:tf.length=n*sz)(hm:0<m)(hg:c<n+m)(Cu:n+m≤maxLen)(rI:(n+m)*bytes≤140737488355328)(h:∀g' c' ZF,n+m≤c'→c'≤maxLen→ZF.length=(c'-n)*sz→∀w',Mem w0 row w' ((g',e,(tf++ZF).toArray)::l) rs→K (a.put d (.slice (some (aD g' 0)) (n+m) c')) w'):op.wp P a w K Q:=by
 subst hd;obtain⟨i,hi,yU,yk,Rc⟩:=el pK;have aq7:((n+m:Nat):Int)≤9223372036854775807:=by unfold maxLen at Cu;omega
 have lu:=PL (P:=P) w t tn op.type e i z kn ht htn hi yU (aD g o) n c m tf ai (fun j u hj=>Jt) hm ab hg aq7 (by simp_all[growslice_fits]) ai;have vq:=grownCap_ge w (n+m) c e;have Es:=grownCap_le_maxLen w (n+m) c e Cu;generalize grownCap w (n+m) c e=c' at lu vq Es;have iO:tf.toArray++Builtin.zeroCells z.cells m++Builtin.zeroCells z.cells (c'-(n+m))=(tf++((Builtin.zeroCells z.cells m).toList++(Builtin.zeroCells z.cells (c'-(n+m))).toList)).toArray:=ae;rw[iO]at lu;unfold Oper.wp execOp;simp only[ho,resolve,invoke,builtin,dw,gW,bT,tL,ji,qG,hx,hy,lu];refine h w.heap.size c' _ vq Es ?_ _ (hM.drew.Ar e _);simp only[aw,gJ,wa,hzc];rw[←vV];grind
end
section
variable{P:Program}{ops:Array Oper}{rest:List Oper}{op:Oper}{a:Act}{w0 w:World}{Q:Exit→Act→World→Prop}{row:Option Nat}{l:List MB}{rs:List MR}
def ux(hM:Mem w0 row w l rs)(eF:Region.wanted op (yielded ops a.tmps)=true)d(hd:op.dst=d)x y dT sT(ho:op.op=.call {callee:=.builtin .copy,args:=#[x,y],argTypes:=#[dT,sT]})e(ht:P.underlying dT=some (.slice e)){z sz bytes}(pK:(P.info? e).map (fun i=>(i.zero,i.size,i.bytes))=some (some z,sz,bytes)){g o dn dc}(hx:a.eval x=.slice (some (aD g o)) dn dc){ga oa m c}(hy:a.eval y=.slice (some (aD ga oa)) m c)(j:Nat){t cs}(hj:l[j]?=some (g,t,cs))cells(hr:w.rangeAt ga oa cells)k(hk:Nat.min m dn=k)(hl:cells.length=k*sz)(Bg:o+cells.length≤cs.size)(h1:∀u∈cells,u.oneCell'=true)(h:∀w',Mem w0 row w' (l.set j (g,t,mT cs o cells.toArray)) rs→wpList P ops Q rest (a.put d (goInt k)) w'):wpList P ops Q (op::rest) a w:=wpList_want eF fun K hK=>yq hM d hd x y dT sT ho e ht pK hx hy j hj cells hr k hk hl Bg h1 (fun w' hm0=>hK _ _ (h w' hm0))
def AH(hM:Mem w0 row w l rs)(eF:Region.wanted op (yielded ops a.tmps)=true)d(hd:op.dst=d)x y t tn(ho:op.op=.call {callee:=.builtin .append,args:=#[x,y],argTypes:=#[t,tn]})e kn(ht:P.underlying t=some (.slice e))(htn:P.underlying tn=some (.int kn)){z sz bytes}(pK:(P.info? e).map (fun i=>(i.zero,i.size,i.bytes))=some (some z,sz,bytes))(hzc:z.cells.size=sz)(qZ:0<sz){g o n c}(hx:a.eval x=.slice (some (aD g o)) n c){m:Nat}(hy:a.eval y=al m)tf(hr:w.rangeAt g o tf)(hl:tf.length=n*sz)(hm:0<m)(hg:c<n+m)(Cu:n+m≤maxLen)(rI:(n+m)*bytes≤140737488355328)(h:∀g' c' ZF,n+m≤c'→c'≤maxLen→ZF.length=(c'-n)*sz→∀w',Mem w0 row w' ((g',e,(tf++ZF).toArray)::l) rs→wpList P ops Q rest (a.put d (.slice (some (aD g' 0)) (n+m) c')) w'):wpList P ops Q (op::rest) a w:=wpList_want eF fun K hK=>Um hM d hd x y t tn ho e kn ht htn pK hzc qZ hx hy tf hr hl hm hg Cu rI (fun g' c' r h1 h2 h3 w' h4=>hK _ _ (h g' c' r h1 h2 h3 w' h4))
end
def GO {P}{op:Oper}{a w w' K Q f}{xs:List Operand}{ts vs v}d(hd:op.dst=d)(ho:op.op=.call {callee:=.value (.func f),args:=xs.toArray,argTypes:=ts})(hx:xs.map a.eval=vs)(hr:(callFunc f vs.toArray).run P w=.ok (.value v) w')(h:K (a.put d v) w'):op.wp P a w K Q:=by subst hd hx;unfold Oper.wp execOp;simp only[ho,resolve,invoke,Deferred.ofValue,Act.eval,dw,gW,bT,Array.append_empty,Array.empty_append,tL,hr];exact h
def sV {w:World}{B B' e sz n v xs}(h:w.ownsRow B e sz v n xs)(hB:B'≤B):w.ownsRow B' e sz v n xs:=SR
def Yk {l:List Value}(h:l.all (·.oneCell')=true):l.toArray.all (·.oneCell')=true:=ai
def ownsRow_forms {w:World}{B e sz n v xs}(h:w.ownsRow B e sz v n xs):(v=.slice none 0 0∧n=0)∨∃g c,v=.slice (some (aD g 0)) n c:=by rcases h.2 with h1|⟨g,cap,cur,h1,_⟩;all_goals grind
def ownsRow_form {w:World}{B e sz n v xs}(h:w.ownsRow B e sz v n xs)(hn:n≠0):∃g c,v=.slice (some (aD g 0)) n c:=by rcases h.2 with⟨_,h1⟩|⟨g,cap,cur,h1,_⟩;all_goals grind
def alJ {α:Type}{A B:List α}{n m v}(h:A.length=n):(A++B).set (n+m) v=A++B.set m v:=ai
section
variable{w0 w:World}{row:Option Nat}{l:List MB}{rs:List MR}
def Mem.aow {e sz n g cap xs}(h:Mem w0 row w l ((.slice (some (aD g 0)) n cap,e,sz,n,xs)::rs)):∃cur,Mem w0 row w ((g,e,cur)::l) rs∧cur.size=cap*sz∧cur.toList.take (n*sz)=xs∧n≤cap∧cap≤maxLen:=by have hr:=h.rows _ (aV ..);rcases hr.2 with⟨h1,_⟩|⟨g',eU,cur,h1,h2,h3,h4,h5,h6,h7⟩;grind;cases h1;refine⟨cur,⟨h.grown,?_,?_,?_,fun x hx=>h.rows x (bQ _ hx),?_,(cf.1 h.oX).2,h.CB⟩,h6,h7,h4,h5⟩;intro x hx;rcases aO.1 hx with rfl|hx;exact h3;exact h.pC x hx;intro x hx;rcases aO.1 hx with rfl|hx;omega;exact h.own x hx;refine cf.2 ⟨fun y hy=>?_,h.apart⟩;have:=h.kR _ (aV ..) y hy;intro e;exact this (by show some g=some y.1;grind);intro x hx y hy;rcases aO.1 hy with rfl|hy;have:=(cf.1 h.oX).1 x hx;rcases this with h8|h8;cases h8;exact fun e=>h8 e.symm;exact h.kR x (bQ _ hx) y hy
end
section
variable{P:Program}{ops:Array Oper}{rest:List Oper}{op:Oper}{a:Act}{w0 w:World}{K:Act→World→Prop}{Q:Exit→Act→World→Prop}{row:Option Nat}{l:List MB}{rs:List MR}
def Xl {w:World}{B e sz n m cap g o xs ys}(h:w.ownsRow B e sz (.slice (some (aD g 0)) m cap) n xs)(hv:(xs.drop o).take ys.length=ys):w.rangeAt g o ys:=by intro j u hj;have eo:=(bf.1 hj).1;rw[←hv,bO eo,ej]at hj;have:=h.cells (g:=g) rfl (o+j) u hj;simp_all[Addr.add_mid]
def VB(hM:Mem w0 row w l rs)d(hd:op.dst=d)ty x(ho:op.op=.load ty x){g o}(hx:a.eval x=.pointer (some (aD g o)))(i:Nat){e sz n m cap xs}(hi:rs[i]?=some (.slice (some (aD g 0)) m cap,e,sz,n,xs)){vs}(hv:(xs.drop o).take vs.size=vs.toList){D}(hu:P.underlying ty=some D)(hD:D.isRow=true)(hs:(P.info? ty).map (·.size)=some vs.size)(h:K (a.put d (.agg vs)) w):op.wp P a w K Q:=by subst hd;exact uq (jr ho hx (run_loadAt_mid w g o ty vs.toList D (Xl (hM.ij hi) ab) hu hD ab)) gT
end
section
variable{P:Program}{ops:Array Oper}{rest:List Oper}{op:Oper}{a:Act}{w0 w:World}{Q:Exit→Act→World→Prop}{row:Option Nat}{l:List MB}{rs:List MR}
def vZ(hM:Mem w0 row w l rs)(eF:Region.wanted op (yielded ops a.tmps)=true)d(hd:op.dst=d)ty x(ho:op.op=.load ty x){g o}(hx:a.eval x=.pointer (some (aD g o)))(i:Nat){e sz n m cap xs}(hi:rs[i]?=some (.slice (some (aD g 0)) m cap,e,sz,n,xs)){vs}(hv:(xs.drop o).take vs.size=vs.toList){D}(hu:P.underlying ty=some D)(hD:D.isRow=true)(hs:(P.info? ty).map (·.size)=some vs.size)(h:wpList P ops Q rest (a.put d (.agg vs)) w):wpList P ops Q (op::rest) a w:=wpList_want eF fun K hK=>VB hM d hd ty x ho hx i hi hv hu hD hs (hK _ _ h)
end
def Ga {α:Type}{f sz}(hf:∀x,(f x).length=sz)(L:List α){i}h {vs:Array Value}(hv:f L[i]=vs.toList):((L.flatMap f).drop (i*sz)).take vs.size=vs.toList:=by grind[CP]
abbrev MF:=World→Prop
def jh(I:MF)(w0 w:World)(l:List MB)(rs:List MR)(Q:MF):Prop:=∀W:World,w.heap.size≤W.heap.size→(∀b,w0.heap.size≤b→b<w.heap.size→(∀x∈l,x.1≠b)→(∀x∈rs,x.1.ownBlock≠some b)→W.heap[b]?=w.heap[b]?)→I W→Q W
def dz(w w':World)(J Q:MF):Prop:=∀W:World,w'.heap.size≤W.heap.size→(∀b,w.heap.size≤b→b<w'.heap.size→W.heap[b]?=w'.heap[b]?)→J W→Q W
structure Fm (I : MF) (w0 : World) (row : Option Nat) (w : World) (l : List MB) (rs : List MR) (fs : List MF) : Prop where
  mem : Mem w0 row w l rs
  wC : ∀ W, w0.grownBy W row → I W
  fact : ∀ Q ∈ fs, jh I w0 w l rs Q
section
variable{I Q Q' J:MF}{w0 w w':World}{row:Option Nat}{l l':List MB}{rs uR:List MR}{fs fs':List MF}
def jh.move(h:jh I w0 w l rs Q)(hs:w.heap.size≤w'.heap.size)(ha:∀b,w0.heap.size≤b→b<w.heap.size→(∀x∈l,x.1≠b)→(∀x∈rs,x.1.ownBlock≠some b)→w'.heap[b]?=w.heap[b]?)(hl:∀x∈l',(∃y∈l,y.1=x.1)∨(∃y∈rs,y.1.ownBlock=some x.1)∨w.heap.size≤x.1)(hr:∀x∈uR,∀b,x.1.ownBlock=some b→(∃y∈l,y.1=b)∨(∃y∈rs,y.1.ownBlock=some b)∨w.heap.size≤b):jh I w0 w' l' uR Q:=by intro W hW tR hI;refine h W (aC hs hW) (fun b h0 h1 h2 h3=>(tR b h0 (bi h1 hs) ?_ ?_).trans (ha b h0 h1 h2 h3)) hI;all_goals grind
def jh.same(h:jh I w0 w l rs Q)(hs:w.heap.size≤w'.heap.size)(ha:∀b,w0.heap.size≤b→b<w.heap.size→(∀x∈l,x.1≠b)→(∀x∈rs,x.1.ownBlock≠some b)→w'.heap[b]?=w.heap[b]?):jh I w0 w' l rs Q:=h.move hs ha (fun x hx=>.inl ⟨x,hx,rfl⟩) (fun x hx b e=>.inr (.inl ⟨x,hx,e⟩))
def jh.mono(h:jh I w0 w l rs Q)(k:∀W,Q W→Q' W):jh I w0 w l rs Q':=fun W h1 h2 h3=>k W (h W h1 h2 h3)
def jh.and(h:jh I w0 w l rs Q)(k:jh I w0 w l rs Q'):jh I w0 w l rs (fun W=>Q W∧Q' W):=fun W h1 h2 h3=>⟨h W h1 h2 h3,k W h1 h2 h3⟩
def jh.inI(k:∀W,I W→Q W):jh I w0 w l rs Q:=fun W _ _ h=>k W h
def jh.EL:jh I w0 w l rs (fun _=>True):=fun _ _ _ _=>trivial
def Fm.start w I(hI:∀W,Below w.heap.size w W→I W):Fm I w none w [] [] [I]:=⟨Mem.start w,fun W hg=>hI W ⟨hg.os,hg.tape,hg.output,hg.size,fun i hi=>hg.block i hi ae⟩,fun Q hQ=>SE⟩
def Fm.bZ w:Fm (fun _=>True) w none w [] [] []:=⟨Mem.start w,fun _ _=>trivial,fun Q hQ=>ai⟩
def Fm.pH w {I1 I2}(h1:∀W,Below w.heap.size w W→I1 W)(h2:∀W,Below w.heap.size w W→I2 W):Fm (fun W=>I1 W∧I2 W) w none w [] [] [I1,I2]:=by have h:=Fm.start w (fun W=>I1 W∧I2 W) (fun W hb=>⟨h1 W hb,h2 W hb⟩);refine⟨h.mem,h.wC,fun Q hQ=>?_⟩;simp only[aO,kW,or_false]at hQ;rcases hQ with rfl|rfl;exact jh.inI fun _ h=>h.1;exact jh.inI fun _ h=>h.2
def Fm.kJ w {I1 I2 I3}(h1:∀W,Below w.heap.size w W→I1 W)(h2:∀W,Below w.heap.size w W→I2 W)(h3:∀W,Below w.heap.size w W→I3 W):Fm (fun W=>I1 W∧I2 W∧I3 W) w none w [] [] [I1,I2,I3]:=by have h:=Fm.start w (fun W=>I1 W∧I2 W∧I3 W) (fun W hb=>⟨h1 W hb,h2 W hb,h3 W hb⟩);refine⟨h.mem,h.wC,fun Q hQ=>?_⟩;simp only[aO,kW,or_false]at hQ;rcases hQ with rfl|rfl|rfl;exact jh.inI fun _ h=>h.1;exact jh.inI fun _ h=>h.2.1;exact jh.inI fun _ h=>h.2.2
def Fm.Ly w {I1 I2 I3 I4}(h1:∀W,Below w.heap.size w W→I1 W)(h2:∀W,Below w.heap.size w W→I2 W)(h3:∀W,Below w.heap.size w W→I3 W)(h4:∀W,Below w.heap.size w W→I4 W):Fm (fun W=>I1 W∧I2 W∧I3 W∧I4 W) w none w [] [] [I1,I2,I3,I4]:=by have h:=Fm.start w (fun W=>I1 W∧I2 W∧I3 W∧I4 W) (fun W hb=>⟨h1 W hb,h2 W hb,h3 W hb,h4 W hb⟩);refine⟨h.mem,h.wC,fun Q hQ=>?_⟩;simp only[aO,kW,or_false]at hQ;rcases hQ with rfl|rfl|rfl|rfl;exact jh.inI fun _ h=>h.1;exact jh.inI fun _ h=>h.2.1;exact jh.inI fun _ h=>h.2.2.1;exact jh.inI fun _ h=>h.2.2.2
def fH {w W g o v}(h:w.cell? (aD g o)=some v)(hb:Below w.heap.size w W):W.cell? (aD g o)=some v:=by have:=ia w _ h;rw[hb.cell (p:=(aD g o)) this];omega
def Fm.lC {w g t cs}(h:aM w g t cs)I(hI:∀W,w.grownBy W (some g)→I W):Fm I w (some g) w [(g,t,cs)] [] [I]:=⟨Mem.lC h,hI,fun Q hQ=>SE⟩
def Fm.below(h:Fm I w0 none w l rs fs):Below w0.heap.size w0 w:=h.mem.below
def Fm.get(h:Fm I w0 row w l rs fs){i:Nat}(hi:fs[i]?=some Q):Q w:=h.fact Q (aT hi) w (au _) (fun _ _ _ _ _=>rfl) (h.wC w h.mem.grown)
def Fm.st(h:Fm I w0 row w l rs fs){i:Nat}(hi:fs[i]?=some Q):jh I w0 w l rs Q:=h.fact Q (aT hi)
def Fm.Ar(h:Fm I w0 row w l rs fs)t cs:Fm I w0 row (w.alloc (.cells cs t)) ((w.heap.size,t,cs)::l) rs fs:=⟨h.mem.Ar t cs,h.wC,fun Q hQ=>(h.fact Q hQ).move ae (fun b _ hb _ _=>pq w _ b hb) (fun x hx=>ai) (fun x hx b e=>.inr (.inl ⟨x,hx,e⟩))⟩
def Fm.step(h:Fm I w0 row w l rs fs)(hb:Below w.heap.size w w'):Fm I w0 row w' l rs fs:=⟨h.mem.step hb,h.wC,fun Q hQ=>(h.fact Q hQ).same hb.size (fun b _ eo _ _=>hb.block b eo)⟩
def Fm.drewN(h:Fm I w0 row w l rs fs)n:Fm I w0 row (w.drewN n) l rs fs:=⟨h.mem.drewN n,h.wC,fun Q hQ=>(h.fact Q hQ).same (au _) (fun _ _ _ _ _=>rfl)⟩
def Fm.drew(h:Fm I w0 row w l rs fs):Fm I w0 row w.drew l rs fs:=h.drewN 1
def Fm.oJ(h:Fm I w0 row w l rs fs)(i:Nat){g t cs cs'}(hi:l[i]?=some (g,t,cs))(hb:aM w' g t cs')(hg:w.grownBy w' (some g)):Fm I w0 row w' (l.set i (g,t,cs')) rs fs:=⟨h.mem.oJ i hi hb hg,h.wC,fun Q hQ=>(h.fact Q hQ).move hg.size (fun b _ eo h1 _=>hg.block b eo (fun e=>ai)) (fun x hx=>ai) (fun x hx b e=>.inr (.inl ⟨x,hx,e⟩))⟩
def Fm.yM(h:Fm I w0 row w l rs fs)(i:Nat){v v' e sz n n' xs xs'}(hi:rs[i]?=some (v,e,sz,n,xs))(hr:w'.ownsRow w0.heap.size e sz v' n' xs')(hg:w.grownBy w' v.ownBlock)(hv:v'.ownBlock=v.ownBlock∨v'.ownBlock=none∨∃g,v'.ownBlock=some g∧w.heap.size≤g):Fm I w0 row w' l (rs.set i (v',e,sz,n',xs')) fs:=⟨h.mem.yM i hi hr hg hv,h.wC,fun Q hQ=>(h.fact Q hQ).move hg.size (fun b _ eo _ h2=>hg.block b eo (fun e=>h2 _ (aT hi) e.symm)) (fun x hx=>.inl ⟨x,hx,rfl⟩) (fun x hx b e=>ai)⟩
def Fm.ii(h:Fm I w0 row w l rs fs)(hb:Below w.heap.size w w'){v e sz n xs}(hr:w'.ownsRow w.heap.size e sz v n xs):Fm I w0 row w' l ((v,e,sz,n,xs)::rs) fs:=⟨h.mem.ii hb hr,h.wC,fun Q hQ=>(h.fact Q hQ).move hb.size (fun b _ eo _ _=>hb.block b eo) (fun x hx=>.inl ⟨x,hx,rfl⟩) (fun x hx b e=>SD)⟩
def Fm.iN(h:Fm I w0 row w l rs fs)e sz:Fm I w0 row w l ((.slice none 0 0,e,sz,0,[])::rs) fs:=⟨h.mem.iN e sz,h.wC,fun Q hQ=>(h.fact Q hQ).move (au _) (fun _ _ _ _ _=>rfl) (fun x hx=>.inl ⟨x,hx,rfl⟩) (fun x hx b e=>by rcases aO.1 hx with rfl|hx;cases e;grind)⟩
def Fm.less(h:Fm I w0 row w l rs fs)(hl:l'.Sublist l)(hr:uR.Sublist rs)(hf:∀Q∈fs',Q∈fs):Fm I w0 row w l' uR fs':=⟨h.mem.less hl hr,h.wC,fun Q hQ=>(h.fact Q (hf Q hQ)).move (au _) (fun _ _ _ _ _=>rfl) (fun x hx=>.inl ⟨x,hl.subset hx,rfl⟩) (fun x hx b e=>.inr (.inl ⟨x,hr.subset hx,e⟩))⟩
def Fm.ajM(h:Fm I w0 row w l rs fs)(hf:fs'.Sublist fs):Fm I w0 row w l rs fs':=h.less (aB _) (aB _) (fun _ hQ=>hf.subset hQ)
def Fm.vP(h:Fm I w0 row w l rs fs)(hb:Below w.heap.size w w')(hJ:jh I w0 w l rs J)(hg:dz w w' J Q):Fm I w0 row w' l rs (Q::fs):=by have h':=h.step hb;refine⟨h'.mem,h.wC,fun q hq=>?_⟩;rcases aO.1 hq with rfl|hq;intro W hW tR hI;refine hg W hW (fun b h0 h1=>tR b (aC h.mem.grown.size h0) h1 (fun x hx e=>?_) (fun x hx e=>?_)) (hJ W (aC hb.size hW) (fun b h0 h1 h2 h3=>(tR b h0 (bi h1 hb.size) h2 h3).trans (hb.block b h1)) hI);have:=(h.mem.pC x hx).lt;omega;have:=((h.mem.rows x hx).lt b e).2;omega;exact h'.fact q hq
def Fm.Qj(h:Fm I w0 row w l rs fs)(i:Nat){g t cs cs'}(hi:l[i]?=some (g,t,cs))(hb:aM w' g t cs')(hg:w.grownBy w' (some g))(hv:dz w w' (fun _=>True) Q):Fm I w0 row w' (l.set i (g,t,cs')) rs (Q::fs):=by
 have h':=h.oJ i hi hb hg;refine⟨h'.mem,h.wC,fun q hq=>?_⟩;rcases aO.1 hq with rfl|hq;intro W hW tR hI;refine hv W hW (fun b h0 h1=>tR b (aC h.mem.grown.size h0) h1 (fun x hx e=>?_) (fun x hx e=>?_)) trivial;have h2:x.1<w.heap.size:=by rcases qH hx with rfl|⟨j,hj,_,rfl⟩;exact(h.mem.pC _ (aT hi)).lt;exact(h.mem.pC _ (bH hj)).lt
 omega;have:=((h.mem.rows x hx).lt b e).2;omega;exact h'.fact q hq
theorem Fm.eW(h:Fm I w0 row w l rs fs)(hQ:jh I w0 w l rs Q):Fm I w0 row w l rs (Q::fs):=⟨h.mem,h.wC,fun q hq=>by rcases aO.1 hq with rfl|hq;omega;exact h.fact q hq⟩
def Fm.gj(h:Fm I w0 row w l rs fs)(i:Nat){v e sz n xs}(hi:rs[i]?=some (v,e,sz,n,xs)):Fm I w0 row w l (rs.eraseIdx i) ((fun W=>W.ownsRow w0.heap.size e sz v n xs)::fs):=by have eo:i<rs.length:=(bf.1 hi).1;have ail:rs[i]=(v,e,sz,n,xs):=(bf.1 hi).2;have anp:=List.eraseIdx_sublist rs i;have h':=h.less (aB l) anp (fun _ hq=>hq);have hr:=h.mem.ij hi;have TQ:=h.mem.kR _ (aT hi);have hp:=gG.1 h.mem.oX;refine h'.eW ?_;intro W hW tR hI;refine⟨hr.1,?_⟩;rcases hr.2 with h1|⟨g,cap,cur,h1,h2,h3,h4⟩;grind;refine .inr ⟨g,cap,cur,h1,h2,?_,h4⟩;rw[tR g h2 (bL.1 h3).1 (fun x hx e'=>TQ x hx (by rw[h1,e'];rfl)) (fun x hx e'=>?_)];omega;obtain⟨j,hj,gQ,rfl⟩:=(wm).1 hx;rcases Nat.lt_or_gt_of_ne gQ with yY|yY;have:=hp j i hj eo yY;rw[ail]at this;rcases this with h5|h5;grind;exact h5 (by rw[e',h1];rfl);have:=hp i j eo hj yY;rw[ail]at this;rcases this with h5|h5;have h6:v.ownBlock=none:=h5;rw[h1]at h6;cases h6;exact h5 (by rw[e',h1];rfl)
def Fm.oP(h:Fm I w0 none w l rs fs)(i:Nat){g t cs}(hi:l[i]?=some (g,t,cs)):Fm I w0 none w (l.eraseIdx i) rs ((fun W=>aM W g t cs)::fs):=by
 have eo:i<l.length:=(bf.1 hi).1;have ail:l[i]=(g,t,cs):=(bf.1 hi).2;have hm:=aT hi;have h':=h.less (List.eraseIdx_sublist l i) (aB rs) (fun _ hq=>hq);have hp:=gG.1 h.mem.apart;refine h'.eW ?_;intro W hW tR hI;have hb:=h.mem.pC _ hm;have hl:=hb.lt;unfold aM at hb⊢;have vq:w0.heap.size≤g:=by rcases h.mem.own _ hm with h1|h1;all_goals grind
 rw[tR g vq hl (fun x hx e=>?_) (fun x hx e=>h.mem.kR x hx _ hm e)];all_goals grind[List.mem_eraseIdx_iff_getElem]
def Fm.gives(h:Fm I w0 row w l rs fs)(hQ:jh I w0 w l rs Q):dz w0 w I Q:=fun W hW tR hI=>hQ W hW (fun b h0 h1 _ _=>tR b h0 h1) hI
def Fm.Ig(h:Fm I w0 row w l rs fs){i:Nat}(hi:fs[i]?=some Q):dz w0 w I Q:=h.gives (h.st hi)
def Fm.apX(h:Fm I w0 none w l rs fs){i g:Nat}{t cs}(hi:l[i]?=some (g,t,cs)):dz w0 w J (fun W=>aM W g t cs):=by intro W hW tR _;have hm:=aT hi;have hb:=h.mem.pC _ hm;rcases h.mem.own _ hm with h1|h1;have hl:=hb.lt;unfold aM at hb⊢;grind;grind
def Fm.auO(h:Fm I w0 row w l rs fs){i n sz:Nat}{e v xs}(hi:rs[i]?=some (v,e,sz,n,xs)):dz w0 w J (fun W=>W.ownsRow w0.heap.size e sz v n xs):=by intro W hW tR _;have hr:=h.mem.ij hi;refine⟨hr.1,?_⟩;rcases hr.2 with h1|⟨g,cap,cur,h1,h2,h3,h4⟩;grind;exact .inr ⟨g,cap,cur,h1,h2,ai,h4⟩
def dz.mono {J'}(h:dz w w' J Q)(hj:∀W,J' W→J W)(k:∀W,Q W→Q' W):dz w w' J' Q':=fun W h1 h2 h3=>k W (h W h1 h2 (hj W h3))
def dz.same w w' J:dz w w' J J:=fun _ _ _ h=>h
def dz.and(h:dz w w' J Q)(k:dz w w' J Q'):dz w w' J (fun W=>Q W∧Q' W):=fun W h1 h2 h3=>⟨h W h1 h2 h3,k W h1 h2 h3⟩
def dz.own {v e sz n xs}(h:w'.ownsRow w.heap.size e sz v n xs):dz w w' J (fun W=>W.ownsRow w.heap.size e sz v n xs):=by intro W hW tR _;refine⟨h.1,?_⟩;rcases h.2 with h1|⟨g,cap,cur,h1,h2,h3,h4⟩;grind;refine .inr ⟨g,cap,cur,h1,h2,?_,h4⟩;grind
end
section
structure Ob where
  D : Nat → Prop
  P : World → Prop
def Hf(os:List Ob)(b:Nat):Prop:=∃o∈os,o.D b
def Mm(w0:World):MF:=fun W=>∀b,b<w0.heap.size→W.heap[b]?=w0.heap[b]?
def zR(D:Nat→Prop)(Q:MF):MF:=fun W=>∀W':World,W.heap.size≤W'.heap.size→(∀b,b<W.heap.size→¬D b→W'.heap[b]?=W.heap[b]?)→Q W'
def zR.here {D Q W}(h:zR D Q W):Q W:=h W (au _) (fun _ _ _=>rfl)
def zR.mono {D Q Q' W}(h:zR D Q W)(k:∀V,Q V→Q' V):zR D Q' W:=fun V h1 h2=>k V (h V h1 h2)
def zR.and {D Q Q' W}(h:zR D Q W)(h':zR D Q' W):zR D (fun V=>Q V∧Q' V) W:=fun V h1 h2=>⟨h V h1 h2,h' V h1 h2⟩
def dz.rob {D w w' J Q}(h:dz w w' J Q)(hD:∀b,D b→b<w.heap.size):dz w w' (zR D J) (zR D Q):=by intro W hW tR hJ V h1 h2;refine h V (aC hW h1) (fun b hb yr=>?_) (hJ V h1 h2);rw[h2 b (bi yr hW) (fun hd=>absurd (hD b hd) ab)];exact tR b hb yr
open Classical in theorem Ja(D:Nat→Prop)(W w:World)(hs:w.heap.size≤W.heap.size):∃V:World,V.heap.size=W.heap.size∧∀b,V.heap[b]?=if D b∧b<w.heap.size then w.heap[b]? else W.heap[b]?:=by refine⟨{W with heap:=W.heap.mapIdx fun i o=>if D i then(w.heap[i]?).getD o else o},ae,fun b=>?_⟩;simp only[Array.getElem?_mapIdx];by_cases hb:b<W.heap.size;rw[fk hb];simp only[Option.map_some];by_cases hd:D b;rw[if_pos hd];by_cases hw:b<w.heap.size;rw[if_pos ⟨hd,hw⟩,fk hw];rfl;rw[if_neg (fun h=>hw h.2),eJ ab];rfl;rw[if_neg hd,if_neg (fun h=>hd h.1)];rw[if_neg (fun h=>by have:=h.2;omega),eJ (xs:=W.heap) ab];rfl
structure No (F : MF) (w0 w : World) (os : List Ob) (l : List MB) (rs : List MR) : Prop where
  mem : Mem w0 none w l rs
  lt : ∀ o ∈ os, ∀ b, o.D b → w0.heap.size ≤ b ∧ b < w.heap.size
  dl : ∀ o ∈ os, ∀ x ∈ l, ¬ o.D x.1
  dr : ∀ o ∈ os, ∀ x ∈ rs, ∀ b, x.1.ownBlock = some b → ¬ o.D b
  ap : os.Pairwise fun o p => ∀ b, o.D b → ¬ p.D b
  is : ∀ o ∈ os, ∀ W : World, w.heap.size ≤ W.heap.size → (∀ b, o.D b → W.heap[b]? = w.heap[b]?) → o.P W
  fact : ∀ W : World, w.heap.size ≤ W.heap.size → (∀ b, w0.heap.size ≤ b → b < w.heap.size → ¬ Hf os b → (∀ x ∈ l, x.1 ≠ b) → (∀ x ∈ rs, x.1.ownBlock ≠ some b) → W.heap[b]? = w.heap[b]?) → Mm w0 W → F W
section
variable{F F' Q:MF}{w0 w w':World}{os os':List Ob}{o o':Ob}{l l':List MB}{rs uR:List MR}{fs:List MF}
def No.start w(hF:∀W,Below w.heap.size w W→F W)(hI:∀W,Mm w W→F W):No F w w [] [] []:=⟨Mem.start w,ae,ae,ae,List.Pairwise.nil,ae,fun W _ _ h=>hI W h⟩
def No.off(h:No F w0 w os l rs){b}(hd:Hf os b):w0.heap.size≤b∧b<w.heap.size∧(∀x∈l,x.1≠b)∧(∀x∈rs,x.1.ownBlock≠some b):=by obtain⟨o,ho,hd⟩:=hd;have h1:=h.lt o ho b hd;refine⟨h1.1,h1.2,fun x hx e=>?_,fun x hx e=>h.dr o ho x hx b e hd⟩;subst e;exact h.dl o ho x hx hd
def No.aww(h:No F w0 w os l rs):jh (Mm w0) w0 w l rs (zR (Hf os) F):=by intro W hW tR hI V h1 h2;refine h.fact V (aC hW h1) (fun b h3 h4 h5 h6 h7=>(h2 b (bi h4 hW) h5).trans (tR b h3 h4 h6 h7)) (fun b hb=>?_);rw[h2 b (bi (bi hb h.mem.grown.size) hW) (fun hd=>by have:=(h.off hd).1;omega)];exact hI b hb
def No.oJ(h:No F w0 w (o::os) l rs)(h1:w'.os=w.os)(h2:w'.tape=w.tape)(h3:w'.output=w.output)(h4:w.heap.size≤w'.heap.size)(hb:∀b,b<w.heap.size→¬o.D b→w'.heap[b]?=w.heap[b]?)(hD:∀b,o'.D b→o.D b∨(w.heap.size≤b∧b<w'.heap.size))(hP:∀W,w'.heap.size≤W.heap.size→(∀b,o'.D b→W.heap[b]?=w'.heap[b]?)→o'.P W):No F w0 w' (o'::os) l rs:=by
 have ko:∀{p},p∈os→p∈o::os:=fun hp=>bQ _ hp;have ho:=aV (a:=o) (l:=os);have hap:=cf.1 h.ap;have aqg:∀b,¬o.D b→b<w.heap.size→w'.heap[b]?=w.heap[b]?:=fun b h5 h6=>hb b h6 h5;have eo:∀x∈l,x.1<w.heap.size:=fun x hx=>(h.mem.pC x hx).lt;have atX:∀x∈rs,∀b,x.1.ownBlock=some b→b<w.heap.size:=fun x hx b e=>((h.mem.rows x hx).lt b e).2;have Mn:∀x∈l,¬o'.D x.1:=fun x hx hd=>by rcases hD _ hd with h5|h5;exact h.dl o ho x hx h5;have:=eo x hx;omega
 have hnr:∀x∈rs,∀b,x.1.ownBlock=some b→¬o'.D b:=fun x hx b e hd=>by rcases hD _ hd with h5|h5;exact h.dr o ho x hx b e h5;have:=atX x hx b e;omega
 refine⟨⟨⟨by rw[h1];exact h.mem.grown.os,by rw[h2];exact h.mem.grown.tape,by rw[h3];exact h.mem.grown.output,aC h.mem.grown.size h4,fun i hi gQ=>?_⟩,fun x hx=>?_,h.mem.own,h.mem.apart,fun x hx=>?_,h.mem.kR,h.mem.oX,h.mem.CB⟩,?_,?_,?_,?_,?_,?_⟩;rw[hb i (bi hi h.mem.grown.size) (fun hd=>by have:=(h.lt o ho i hd).1;omega)];exact h.mem.grown.block i hi gQ;have h5:=h.mem.pC x hx;unfold aM at h5⊢;rw[hb x.1 (eo x hx) (h.dl o ho x hx)];exact h5;have h5:=h.mem.rows x hx;refine⟨h5.1,?_⟩;rcases h5.2 with h6|⟨g,cap,cur,h6,h7,h8,h9⟩;exact .inl h6;refine .inr ⟨g,cap,cur,h6,h7,?_,h9⟩;have hg:x.1.ownBlock=some g:=by rw[h6];rfl
 rw[hb g (atX x hx g hg) (h.dr o ho x hx g hg)];exact h8;intro p hp b hd;rcases aO.1 hp with rfl|hp;rcases hD b hd with h5|h5;exact⟨(h.lt o ho b h5).1,bi (h.lt o ho b h5).2 h4⟩;exact⟨aC h.mem.grown.size h5.1,h5.2⟩;exact⟨(h.lt p (ko hp) b hd).1,bi (h.lt p (ko hp) b hd).2 h4⟩;intro p hp x hx;rcases aO.1 hp with rfl|hp;exact Mn x hx;exact h.dl p (ko hp) x hx;intro p hp x hx b e;rcases aO.1 hp with rfl|hp;exact hnr x hx b e;exact h.dr p (ko hp) x hx b e;refine cf.2 ⟨fun p hp b hd Fj=>?_,hap.2⟩;rcases hD b hd with h5|h5;exact hap.1 p hp b h5 Fj;have:=(h.lt p (ko hp) b Fj).2;omega;intro p hp W hW tR;rcases aO.1 hp with rfl|hp;exact hP W hW tR;refine h.is p (ko hp) W (aC h4 hW) (fun b hd=>?_);rw[tR b hd,hb b (h.lt p (ko hp) b hd).2 (fun Fj=>hap.1 p hp b Fj hd)];intro W hW tR hI;refine h.fact W (aC h4 hW) (fun b h5 h6 h7 h8 h9=>?_) hI;have DX:¬o.D b:=fun hd=>h7 ⟨o,ho,hd⟩;rw[tR b h5 (bi h6 h4) ?_ h8 h9,hb b h6 DX];rintro⟨p,hp,hd⟩;rcases aO.1 hp with rfl|hp;rcases hD b hd with h5|h5;exact DX h5;omega;exact h7 ⟨p,ko hp,hd⟩
def Mem.perm {row}(h:Mem w0 row w l rs)(hl:l.Perm l')(hr:rs.Perm uR):Mem w0 row w l' uR:=⟨h.grown,fun x hx=>h.pC x (hl.symm.subset hx),fun x hx=>h.own x (hl.symm.subset hx),hl.pairwise h.apart (fun h1=>tX h1),fun x hx=>h.rows x (hr.symm.subset hx),fun x hx y hy=>h.kR x (hr.symm.subset hx) y (hl.symm.subset hy),hr.pairwise h.oX (fun{x y}h1=>by rcases h1 with h1|h1;by_cases h2:y.1.ownBlock=none;exact .inl h2;exact .inr (by rw[h1];exact h2);exact .inr (tX h1)),h.CB⟩
end
end
structure Ug (o : Ob) : Prop where
  inb : ∀ W b, o.P W → o.D b → b < W.heap.size
  pin : ∀ b, o.D b → ∃ c : Obj, ∀ W : World, W.heap[b]? = some c → ¬ o.P W
def zi(o:Ob):MF:=fun W=>∀W':World,W.heap.size≤W'.heap.size→(∀b,o.D b→W'.heap[b]?=W.heap[b]?)→o.P W'
def zi.here {o W}(h:zi o W):o.P W:=h W (au _) (fun _ _=>rfl)
structure Sep (w0 : World) (os : List Ob) : Prop where
  ok : ∀ o ∈ os, Ug o
  Ar : ∀ o ∈ os, ∀ b, o.D b → w0.heap.size ≤ b
  ap : os.Pairwise fun o p => ∀ b, o.D b → ¬ p.D b
abbrev cJ(F:MF)(w0 w:World)(os:List Ob)(l:List MB)(rs:List MR):Prop:=Fm (Mm w0) w0 none w l rs (zR (Hf os) F::os.map zi)
section
variable{F F':MF}{w0 w w':World}{os os':List Ob}{o o':Ob}{l l':List MB}{rs uR:List MR}{fs:List MF}
def No.loc(h:No F w0 w os l rs)(ho:o∈os):jh (Mm w0) w0 w l rs (zi o):=by intro W hW tR _ V h1 h2;refine h.is o ho V (aC hW h1) (fun b hd=>?_);obtain⟨k1,k2,k3,k4⟩:=h.off ⟨o,ho,hd⟩;grind
def No.toS(h:No F w0 w os l rs):cJ F w0 w os l rs:=⟨h.mem,fun W hg b hb=>hg.block b hb ae,fun q hq=>by rcases aO.1 hq with rfl|hq;exact h.aww;obtain⟨o,ho,rfl⟩:=eu.1 hq;exact h.loc ho⟩
def cJ.atY(hM:cJ F w0 w os l rs)(ho:o∈os):jh (Mm w0) w0 w l rs (zi o):=hM.fact _ (bQ _ (eu.2 ⟨o,ho,rfl⟩))
def cJ.is_(hM:cJ F w0 w os l rs)(ho:o∈os):zi o w:=(hM.atY ho) w (au _) (fun _ _ _ _ _=>rfl) (fun b hb=>hM.mem.grown.block b hb ae)
def cJ.lt(hS:Sep w0 os)(hM:cJ F w0 w os l rs){b}(hd:Hf os b):b<w.heap.size:=by obtain⟨o,ho,hd⟩:=hd;exact(hS.ok o ho).inb w b (hM.is_ ho).here hd
def cJ.off(hS:Sep w0 os)(hM:cJ F w0 w os l rs)(ho:o∈os){b}(hd:o.D b):(∀x∈l,x.1≠b)∧(∀x∈rs,x.1.ownBlock≠some b):=by
 have eo:=cJ.lt hS hM ⟨o,ho,hd⟩;have h0:=hS.Ar o ho b hd;obtain⟨c,hc⟩:=(hS.ok o ho).pin b hd;have key:¬((∃x∈l,x.1=b)∨∃x∈rs,x.1.ownBlock=some b):=by intro hx;have iq:=hM.atY ho (w.putObj b c) ae (fun i _ _ h3 h4=>by grind[World.putObj_heap_other]) (fun i hi=>by rw[World.putObj_heap_other ab];exact hM.mem.grown.block i hi ae);exact hc _ (World.putObj_heap_same eo) iq.here
 grind
def cJ.toO(hS:Sep w0 os)(hM:cJ F w0 w os l rs):No F w0 w os l rs:=by refine⟨hM.mem,fun o ho b hd=>⟨hS.Ar o ho b hd,cJ.lt hS hM ⟨o,ho,hd⟩⟩,fun o ho x hx hd=>(cJ.off hS hM ho hd).1 x hx rfl,fun o ho x hx b e hd=>(cJ.off hS hM ho hd).2 x hx e,hS.ap,fun o ho W h1 h2=>hM.is_ ho W h1 h2,fun W hW tR hI=>?_⟩;obtain⟨V,hV1,hV2⟩:=Ja (Hf os) W w hW;have iq:=hM.fact _ (aV ..) V ab (fun b h1 h2 h3 h4=>ai) (fun b hb=>by rw[hV2 b,if_neg (fun hd=>by obtain⟨o,ho,Fj⟩:=hd.1;have:=hS.Ar o ho b Fj;omega)];exact hI b hb);exact iq W ab (fun b hb hd=>ai)
def cJ.oJ(hS:Sep w0 (o::os))(hM:cJ F w0 w (o::os) l rs)(h1:w'.os=w.os)(h2:w'.tape=w.tape)(h3:w'.output=w.output)(h4:w.heap.size≤w'.heap.size)(hb:∀b,b<w.heap.size→¬o.D b→w'.heap[b]?=w.heap[b]?)(hD:∀b,o'.D b→o.D b∨(w.heap.size≤b∧b<w'.heap.size))(hP:zi o' w')(hO:Ug o'):Sep w0 (o'::os)∧cJ F w0 w' (o'::os) l rs:=by have hO':=cJ.toO hS hM;have hT:=hO'.oJ (o':=o') h1 h2 h3 h4 hb hD hP;exact⟨⟨fun p hp=>by rcases aO.1 hp with rfl|hp;omega;exact hS.ok p (bQ _ hp),fun p hp b hd=>(hT.lt p hp b hd).1,hT.ap⟩,hT.toS⟩
def cJ.born(hS:Sep w0 os)(hM:cJ F w0 w os l rs)(hb:Below w.heap.size w w')(hD:∀b,o.D b→w.heap.size≤b∧b<w'.heap.size)(hP:zi o w')(hO:Ug o):Sep w0 (o::os)∧cJ F w0 w' (o::os) l rs:=by
 have uo:=hM.step hb;have h0:=hM.mem.grown.size;have eo:=fun b=>cJ.lt (b:=b) hS hM;have PK:Sep w0 (o::os):=⟨fun p hp=>by rcases aO.1 hp with rfl|hp;omega;exact hS.ok p hp,fun p hp b hd=>by rcases aO.1 hp with rfl|hp;grind;exact hS.Ar p hp b hd,cf.2 ⟨fun p hp b hd Fj=>by have h1:=eo b ⟨p,hp,Fj⟩;grind,hS.ap⟩⟩;refine⟨PK,uo.mem,uo.wC,fun q hq=>?_⟩;have hold:=fun{Q:MF}(hQ:Q∈zR (Hf os) F::os.map zi)=>hM.fact Q hQ;rcases aO.1 hq with rfl|hq;·intro W hW tR hI V h1 h2;have nR:=hb.size;obtain⟨U,hU1,hU2⟩:=Ja (Hf os) V w ab;have iq:=hold (aV ..) U ab (fun b k1 k2 k3 k4=>by rw[hU2 b];split;rfl;·rename_i hd;rw[h2 b ab (fun h=>by obtain⟨p,hp,Fj⟩:=h;rcases aO.1 hp with rfl|hp;grind;exact hd ⟨⟨p,hp,Fj⟩,k2⟩),tR b k1 ab k3 k4,hb.block b k2]) (fun b k=>by rw[hU2 b,if_neg (fun h=>by obtain⟨p,hp,Fj⟩:=h.1;have:=hS.Ar p hp b Fj;omega),h2 b ab (fun h=>by obtain⟨p,hp,Fj⟩:=h;have:=PK.Ar p hp b Fj;omega)];exact hI b k);exact iq V ab (fun b k1 k2=>ai)
 obtain⟨p,hp,rfl⟩:=eu.1 hq;rcases aO.1 hp with rfl|hp;intro W hW tR hI V h1 h2;refine hP V ab (fun b hd=>?_);have h5:=hD b hd;rw[h2 b hd,tR b ab h5.2 (fun x hx e=>?_) (fun x hx e=>?_)];have:=(hM.mem.pC x hx).lt;omega;exact JJ;exact uo.fact _ (bQ _ (eu.2 ⟨p,hp,rfl⟩))
def cJ.ZG(hM:cJ F w0 w os l rs)(hp:os.Perm os'):cJ F w0 w os' l rs:=⟨hM.mem,hM.wC,fun q hq=>by rcases aO.1 hq with rfl|hq;refine(hM.fact _ (aV ..)).mono fun W h V h1 h2=>h V h1 fun b hb hd=>h2 b hb fun⟨o,ho,k⟩=>hd ⟨o,hp.symm.subset ho,k⟩;obtain⟨o,ho,rfl⟩:=eu.1 hq;exact hM.fact _ (bQ _ (eu.2 ⟨o,hp.symm.subset ho,rfl⟩))⟩
def Sep.ZG(hS:Sep w0 os)(hp:os.Perm os'):Sep w0 os':=⟨fun o ho=>hS.ok o (hp.symm.subset ho),fun o ho=>hS.Ar o (hp.symm.subset ho),hp.pairwise hS.ap (fun h1 b h2 h3=>h1 b h3 h2)⟩
theorem cJ.mono(hM:cJ F w0 w os l rs)(k:∀W,F W→F' W):cJ F' w0 w os l rs:=⟨hM.mem,hM.wC,fun q hq=>by rcases aO.1 hq with rfl|hq;exact(hM.fact _ (aV ..)).mono fun W h=>h.mono k;exact hM.fact _ (bQ _ hq)⟩
theorem cJ.here(hM:cJ F w0 w os l rs):F w:=(hM.get (i:=0) rfl).here
theorem cJ.vP(hS:Sep w0 os)(hM:cJ F w0 w os l rs)(hb:Below w.heap.size w w'){J Q}(hJ:∀W,F W→J W)(hg:dz w w' J Q):cJ (fun W=>F W∧Q W) w0 w' os l rs:=by have h1:=Fm.vP hM hb ((hM.st (i:=0) rfl).mono fun W hr=>zR.mono hr hJ) (hg.rob (fun b hd=>cJ.lt hS hM hd));refine⟨h1.mem,h1.wC,fun q hq=>?_⟩;exact RP
end
end Go.Proofs.YtlddafbgfkocjaaGreatDoor
