/- A part of TopHonest. -/
import Derived.Test.YtlddafbgfkocjaaGreatDoorT05
import Derived.Test.YtlddafbgfkocjaaGreatDoorT17
namespace Go.Proofs.YtlddafbgfkocjaaGreatDoor
open Go.RowKit Go.Proofs.Tryz
set_option linter.all false
set_option maxRecDepth 1000000
set_option maxHeartbeats 400000000
section
variable{P:Program}{ops:Array Oper}{rest:List Oper}{op:Oper}{a:Act}{w0 w:World}{K:Act→World→Prop}{Q:Exit→Act→World→Prop}{row:Option Nat}{l:List MB}{rs:List MR}
def YL(hM:Mem w0 row w l rs)d(hd:op.dst=d)src dst x(ho:op.op=.convert src dst x)(hs:P.underlying src=some .string)(hds:P.underlying dst=some (.slice 5))(he:P.underlying 5=some (.int .u8)){t:Bs}(hx:a.eval x=str t)(h:∀g c w',Mem w0 row w' l rs→w0.heap.size≤g→(∀y∈l,y.1≠g)→(∀k(hk),w'.cell? (aD g k)=some (.int .u8 (t[k].toNat:Int)))→K (a.put d (.slice (some (aD g 0)) t.length c)) w'):op.wp P a w K Q:=by subst hd;have lu:=ng (P:=P) w src dst 5 ⟨t.toArray⟩ hs hds he;have nR:(⟨t.toArray⟩:ByteArray).size=t.length:=aq;rw[nR]at lu;have fd:∀k(hk:k<t.length),(w.drew.alloc (.cells (bytesRow ⟨t.toArray⟩ (grownCap w t.length 0 5)) 5 ((bytesRow ⟨t.toArray⟩ (grownCap w t.length 0 5)).size,(bytesRow ⟨t.toArray⟩ (grownCap w t.length 0 5)).size+1))).cell? (aD w.heap.size k)=some (.int .u8 (t[k].toNat:Int)):=fun k hk=>Pv w.drew t (grownCap w t.length 0 5) k hk;have hb:Below w.heap.size w (w.drew.alloc (.cells (bytesRow ⟨t.toArray⟩ (grownCap w t.length 0 5)) 5 ((bytesRow ⟨t.toArray⟩ (grownCap w t.length 0 5)).size,(bytesRow ⟨t.toArray⟩ (grownCap w t.length 0 5)).size+1))):=((aJ _ _).drew).alloc (au _) _;refine uq ?_ (h w.heap.size (grownCap w t.length 0 5) _ (hM.step hb) hM.grown.size (fun y hy=>Nat.ne_of_lt (hM.pC y hy).lt) fd);exact CZ
end
section
variable{P:Program}{ops:Array Oper}{rest:List Oper}{op:Oper}{a:Act}{w0 w:World}{Q:Exit→Act→World→Prop}{row:Option Nat}{l:List MB}{rs:List MR}
def ta(hM:Mem w0 row w l rs)(eF:Region.wanted op (yielded ops a.tmps)=true)d(hd:op.dst=d)src dst x(ho:op.op=.convert src dst x)(hs:P.underlying src=some .string)(hds:P.underlying dst=some (.slice 5))(he:P.underlying 5=some (.int .u8)){t:Bs}(hx:a.eval x=str t)(h:∀g c w',Mem w0 row w' l rs→w0.heap.size≤g→(∀y∈l,y.1≠g)→(∀k(hk),w'.cell? (aD g k)=some (.int .u8 (t[k].toNat:Int)))→wpList P ops Q rest (a.put d (.slice (some (aD g 0)) t.length c)) w'):wpList P ops Q (op::rest) a w:=wpList_want eF fun K hK=>YL hM d hd src dst x ho hs hds he hx (fun g c w' h1 h2 h3 h4=>hK _ _ (h g c w' h1 h2 h3 h4))
end
class Sc(P:Program)(ty:TypeId):Prop where run:∀w,(isAgg ty).run P w=.ok false w
class S1(P:Program)(ty:TypeId):Prop where run:∀w,(sizeOf ty).run P w=.ok 1 w
class Rw (P : Program) (ty : TypeId) (n : outParam Nat) : Prop where
  un : ∃ D, P.underlying ty = some D ∧ D.isRow = true
  sz : (P.info? ty).map (·.size) = some n
class Zv(P:Program)(ty:TypeId)(z:outParam Value):Prop where run:∀w,(zeroValue ty).run P w=.ok z w
class Iw (P : Program) (t : TypeId) (e : outParam TypeId) (z : outParam Value) (sz bytes : outParam Nat) : Prop where
  un : P.underlying t = some (.slice e)
  inf : (P.info? e).map (fun i => (i.zero, i.size, i.bytes)) = some (some z, sz, bytes)
  zsz : z.cells.size = sz
  pos : 0 < sz
class Bd(P:Program)(t:TypeId)(ps:List (Nat×Value))(cs:outParam (Array Value)):Prop where eq:P.built t ps=some cs
class CL(l:List Value)(o:Nat)(v:outParam Value):Prop where at_:l[o]?=some v
instance CL.head(x:Value)(l:List Value):CL (x::l) 0 x:=⟨rfl⟩
instance CL.tail(x:Value)(l:List Value)(o:Nat)(v:Value) [h:CL l o v]:CL (x::l) (o+1) v:=⟨by rw[nJ];exact h.at_⟩
class fP(cs:Array Value)(o:Nat)(v:outParam Value):Prop where at_:cs[o]?=some v
instance fP.lit(l:List Value)(o:Nat)(v:Value) [h:CL l o v]:fP l.toArray o v:=⟨by simpa using h.at_⟩
class CM (l : List Value) (o : Nat) (v : Value) (l' : outParam (List Value)) : Prop where
  eq : l.set o v = l'
  lt : o < l.length
instance CM.head(x v:Value)(l:List Value):CM (x::l) 0 v (v::l):=⟨rfl,ae⟩
instance CM.tail(x:Value)(l:List Value)(o:Nat)(v:Value)(l':List Value) [h:CM l o v l']:CM (x::l) (o+1) v (x::l'):=⟨by rw[az,h.eq],by have:=h.lt;exact aR⟩
class iu (cs : Array Value) (o : Nat) (v : Value) (cs' : outParam (Array Value)) : Prop where
  eq : cs.setIfInBounds o v = cs'
  lt : o < cs.size
instance iu.lit(l:List Value)(o:Nat)(v:Value)(l':List Value) [h:CM l o v l']:iu l.toArray o v l'.toArray:=⟨by rw[cZ,h.eq],by simpa using h.lt⟩
class HJ (cs : Array Value) (o : Nat) (vs : Array Value) (cs' : outParam (Array Value)) : Prop where
  eq : mT cs o vs = cs'
  le : o + vs.size ≤ cs.size
class yo(cs:Array Value)(n:outParam Nat):Prop where eq:cs.size=n
class Ci(l:List Value)(n:outParam Nat):Prop where eq:l.length=n
instance Ci.nil:Ci [] 0:=⟨rfl⟩
instance Ci.cons(x:Value)(l:List Value)(n:Nat) [h:Ci l n]:Ci (x::l) (n+1):=⟨by rw[bG,h.eq]⟩
instance yo.lit(l:List Value)(n:Nat) [h:Ci l n]:yo l.toArray n:=⟨by rw[kj];exact h.eq⟩
class Uf(v:Value):Prop where eq:v.oneCell'=true
instance(k:IntKind)(n:Int):Uf (.int k n):=⟨rfl⟩
instance(s:ByteArray):Uf (.string s):=⟨rfl⟩
instance(b:Bool):Uf (.bool b):=⟨rfl⟩
instance(p:Option Addr):Uf (.pointer p):=⟨rfl⟩
instance(p:Option Addr)(n c:Nat):Uf (.slice p n c):=⟨rfl⟩
instance(f:Fn)(a c:Array Value):Uf (.func f a c):=⟨rfl⟩
class Ue(l:List Value):Prop where eq:l.all (·.oneCell')=true
instance:Ue []:=⟨rfl⟩
instance(x:Value)(l:List Value) [h:Uf x] [k:Ue l]:Ue (x::l):=⟨by rw[List.all_cons,h.eq,k.eq];rfl⟩
class tE(cs:Array Value):Prop where eq:cs.all (·.oneCell')=true
instance(l:List Value) [h:Ue l]:tE l.toArray:=⟨Yk h.eq⟩
class Cl(v:Value)(cs:outParam (Array Value)):Prop where eq:v.cells=cs
instance(cs:Array Value):Cl (.agg cs) cs:=⟨rfl⟩
instance(k:IntKind)(n:Int):Cl (.int k n) #[.int k n]:=⟨rfl⟩
instance(s:ByteArray):Cl (.string s) #[.string s]:=⟨rfl⟩
instance(b:Bool):Cl (.bool b) #[.bool b]:=⟨rfl⟩
instance(p:Option Addr):Cl (.pointer p) #[.pointer p]:=⟨rfl⟩
instance(p:Option Addr)(n c:Nat):Cl (.slice p n c) #[.slice p n c]:=⟨rfl⟩
instance(f:Fn)(a c:Array Value):Cl (.func f a c) #[.func f a c]:=⟨rfl⟩
class Cl1(v:Value):Prop where eq:v.cells=#[v]
instance(k:IntKind)(n:Int):Cl1 (.int k n):=⟨rfl⟩
instance(s:ByteArray):Cl1 (.string s):=⟨rfl⟩
instance(b:Bool):Cl1 (.bool b):=⟨rfl⟩
instance(p:Option Addr):Cl1 (.pointer p):=⟨rfl⟩
instance(p:Option Addr)(n c:Nat):Cl1 (.slice p n c):=⟨rfl⟩
instance(f:Fn)(a c:Array Value):Cl1 (.func f a c):=⟨rfl⟩
class WN(l:List MB)(i:Nat)(x:MB)(l':outParam (List MB)):Prop where eq:l.set i x=l'
instance WN.head(y x:MB)(l:List MB):WN (y::l) 0 x (x::l):=⟨rfl⟩
instance WN.tail(y x:MB)(l:List MB)(i:Nat)(l':List MB) [h:WN l i x l']:WN (y::l) (i+1) x (y::l'):=⟨by rw[az,h.eq]⟩
class WO(l:List MR)(i:Nat)(x:MR)(l':outParam (List MR)):Prop where eq:l.set i x=l'
instance WO.head(y x:MR)(l:List MR):WO (y::l) 0 x (x::l):=⟨rfl⟩
instance WO.tail(y x:MR)(l:List MR)(i:Nat)(l':List MR) [h:WO l i x l']:WO (y::l) (i+1) x (y::l'):=⟨by rw[az,h.eq]⟩
def Rh {α:Type}{l:List α}{i:Nat}{x}(h:l[i]?=some x:=by first|exact aX|exact eQ|exact fw|exact rx|exact Bu|exact yF|exact Ct|exact at7|exact at8|exact at9):l[i]?=some x:=h
def evv {a:Act}{x v}(h:a.eval x=v:=by first|exact@rfl _ (Value.int _ _)|exact@rfl _ (Value.string _)|exact@rfl _ (Value.agg _)|exact@rfl _ (Value.pointer _)|exact@rfl _ (Value.slice _ _ _)|exact@rfl _ (Value.bool _)|exact@rfl _ (Value.func _ _ _)|rfl):a.eval x=v:=h
inductive EvL(a:Act):List (Nat×Operand)→List (Nat×Value)→Prop|nil:EvL a [] []|cons {n:Nat}{x:Operand}{v:Value}{xs:List (Nat×Operand)}{vs:List (Nat×Value)}(h:EvL a xs vs)(e:a.eval x=v:=by exact evv):EvL a ((n,x)::xs) ((n,v)::vs)
def evl {a xs vs}(h:EvL a xs vs:=by first|exact .nil|exact .cons .nil|exact .cons (.cons .nil)|exact .cons (.cons (.cons .nil))|exact .cons (.cons (.cons (.cons .nil)))|exact .cons (.cons (.cons (.cons (.cons .nil))))):EvL a xs vs:=h
def EvL.eq {a xs vs}(h:EvL a xs vs):xs.map (fun q=>(q.1,a.eval q.2))=vs:=by induction h with|nil=>rfl|cons _ e ih=>rw[ji,ih,e]
inductive CsL(sz:Nat):List (Nat×Value)→List Value→Prop|nil:CsL sz [] []|cons {n:Nat}{v:Value}{c:Array Value}{r:List (Nat×Value)}{cs:List Value}(h:CsL sz r cs)(C:Cl v c:=by infer_instance)(S:yo c sz:=by infer_instance):CsL sz ((n,v)::r) (c.toList++cs)
def csl {sz r cs}(h:CsL sz r cs:=by first|exact .nil|exact .cons .nil|exact .cons (.cons .nil)|exact .cons (.cons (.cons .nil))|exact .cons (.cons (.cons (.cons .nil)))|exact .cons (.cons (.cons (.cons (.cons .nil))))):CsL sz r cs:=h
section
variable{I:MF}{fs:List MF}{P:Program}{ops:Array Oper}{rest:List Oper}{ps:String}{af:Array Edge}{gd:Option (Nat×Bool)}{a:Act}{w0 w:World}{K:Act→World→Prop}{Q:Exit→Act→World→Prop}{row:Option Nat}{l l2:List MB}{rs:List MR}{rs2:Nat→Nat→List MR}{d:Option Tmp}{x y:Operand}{n m c k g o i j gb ob q sz bytes cap:Nat}{tp ty e t tb:TypeId}{p:Addr}{v z:Value}{xs news:List Value}{cs cs2 vs:Array Value}(hM:Fm I w0 row w l rs fs)
include hM
def aqU [S:Sc P ty](hx:a.eval x=.pointer (some (aD g o)):=by rfl)(hi:l[i]?=some (g,t,cs):=by exact Rh)(hv:fP cs o v:=by infer_instance):(execOp a.eval (Oper.mk d (.load ty x) tp ps af gd)).run P w=.ok (.value v) w:=jr (op:=(Oper.mk d (.load ty x) tp ps af gd)) rfl hx (uA (P:=P) S.run (((hM.mem.at_ hi).cell o).trans hv.at_))
def ajW [S:Sc P ty](hx:a.eval x=.pointer (some p):=by rfl)(hj:fs[j]?=some (fun W=>W.cell? p=some v):=by exact Rh):(execOp a.eval (Oper.mk d (.load ty x) tp ps af gd)).run P w=.ok (.value v) w:=jr (op:=(Oper.mk d (.load ty x) tp ps af gd)) rfl hx (uA (P:=P) S.run (hM.get hj))
def aqa [S:Sc P ty](hx:a.eval x=.pointer (some (aD g o)):=by rfl)(hj:fs[j]?=some (fun W=>aM W g t cs):=by exact Rh)(hv:fP cs o v:=by infer_instance):(execOp a.eval (Oper.mk d (.load ty x) tp ps af gd)).run P w=.ok (.value v) w:=jr (op:=(Oper.mk d (.load ty x) tp ps af gd)) rfl hx (uA (P:=P) S.run ((aM.cell (hM.get hj:aM w g t cs) o).trans hv.at_))
def ajV [S:Rw P ty k](hx:a.eval x=.pointer (some (aD g o)):=by rfl)(hi:l[i]?=some (g,t,cs):=by exact Rh)(hv:Piece cs o vs:=by infer_instance)(hk:yo vs k:=by infer_instance):(execOp a.eval (Oper.mk d (.load ty x) tp ps af gd)).run P w=.ok (.value (.agg vs)) w:=by obtain⟨D,hu,hD⟩:=S.un;cases hk.eq;exact Bh (op:=(Oper.mk d (.load ty x) tp ps af gd)) hM.mem x rfl hx i hi hv.eq hu hD S.sz
def ajX [S:Rw P ty k](hx:a.eval x=aG g:=by rfl)(hi:l[i]?=some (g,t,cs):=by exact Rh)(hk:yo cs k:=by infer_instance):(execOp a.eval (Oper.mk d (.load ty x) tp ps af gd)).run P w=.ok (.value (.agg cs)) w:=by obtain⟨D,hu,hD⟩:=S.un;cases hk.eq;exact Od (op:=(Oper.mk d (.load ty x) tp ps af gd)) hM.mem x rfl hx i hi hu hD S.sz
def adI [S:Rw P ty k](hx:a.eval x=.pointer (some (aD g o)):=by rfl)(hj:fs[j]?=some (fun W=>W.rangeAt g o vs.toList):=by exact Rh)(hk:yo vs k:=by infer_instance):(execOp a.eval (Oper.mk d (.load ty x) tp ps af gd)).run P w=.ok (.value (.agg vs)) w:=by obtain⟨D,hu,hD⟩:=S.un;cases hk.eq;simpa using jr (P:=P) (op:=(Oper.mk d (.load ty x) tp ps af gd)) rfl hx (run_loadAt_mid w g o ty vs.toList D (hM.get hj) hu hD (by rw[S.sz];simp))
omit hM in theorem f_l(h:K (a.put d v) w)(hr:(execOp a.eval (Oper.mk d (.load ty x) tp ps af gd)).run P w=.ok (.value v) w:=by first|exact aqU hM|exact ajW hM|exact aqa hM|exact ajX hM|exact ajV hM|exact adI hM):Oper.wp P (Oper.mk d (.load ty x) tp ps af gd) a w K Q:=uq hr h
def auS [S:Sc P ty](hv:xs[o]?=some v)(h:K (a.put d v) w)(hx:a.eval x=.pointer (some (aD g o)):=by rfl)(hj:rs[j]?=some (.slice (some (aD g 0)) m cap,e,sz,n,xs):=by exact Rh):Oper.wp P (Oper.mk d (.load ty x) tp ps af gd) a w K Q:=LA hM.mem d rfl ty x rfl S.run hx j hj hv h
def UE [S:Sc P ty](hv:xs[o]?=some v)(h:wpList P ops Q rest (a.put d v) w)(hx:a.eval x=.pointer (some (aD g o)):=by rfl)(hj:rs[j]?=some (.slice (some (aD g 0)) m cap,e,sz,n,xs):=by exact Rh)(eF:Region.wanted (Oper.mk d (.load ty x) tp ps af gd) (yielded ops a.tmps)=true:=by rfl):wpList P ops Q ((Oper.mk d (.load ty x) tp ps af gd)::rest) a w:=wpList_want eF fun K hK=>auS hM hv (hK _ _ h) hx hj
def EO [S:Zv P t z] [C:Cl z cs](h:∀g w',Fm I w0 row w' ((g,t,cs)::l) rs fs→K (a.put d (aG g)) w'):Oper.wp P (Oper.mk d (.alloc t) tp ps af gd) a w K Q:=by cases C.eq;refine SH ?_;simp only[Instr.alloc,dw,S.run,bT,newVar,newRow,gW];rfl
def atw(h:∀g w',Fm I w0 row w' ((g,t,cs)::l) rs fs→K (a.put d (aG g)) w')(hx:a.eval x=v:=by exact evv)(C:Cl v cs:=by infer_instance):Oper.wp P (Oper.mk d (.box t x) tp ps af gd) a w K Q:=by subst hx;cases C.eq;refine SG ?_;simp only[Instr.box,dw,newVar,newRow,gW];rfl
def qI [S:Zv P t z] [C:Cl z cs](h:∀g w',Fm I w0 row w' ((g,t,cs)::l) rs fs→wpList P ops Q rest (a.put d (aG g)) w')(eF:Region.wanted (Oper.mk d (.alloc t) tp ps af gd) (yielded ops a.tmps)=true:=by rfl):wpList P ops Q (Oper.mk d (.alloc t) tp ps af gd::rest) a w:=wpList_want eF fun K hK=>EO hM fun g w' hm=>hK _ _ (h g w' hm)
def EM(h:∀g w',Fm I w0 row w' ((g,t,cs)::l) rs fs→wpList P ops Q rest (a.put d (aG g)) w')(hx:a.eval x=v:=by exact evv)(C:Cl v cs:=by infer_instance)(eF:Region.wanted (Oper.mk d (.box t x) tp ps af gd) (yielded ops a.tmps)=true:=by rfl):wpList P ops Q (Oper.mk d (.box t x) tp ps af gd::rest) a w:=wpList_want eF fun K hK=>atw hM (fun g w' hm=>hK _ _ (h g w' hm)) hx C
def Pg [S:S1 P ty](h:∀w',Fm I w0 row w' l2 rs fs→K (a.put d undef) w')(hx:a.eval x=.pointer (some (aD g o)):=by rfl)(hy:a.eval y=v:=by exact evv)(hi:l[i]?=some (g,t,cs):=by exact Rh)(hs:iu cs o v cs2:=by infer_instance)(hl:WN l i (g,t,cs2) l2:=by infer_instance)(hc:Cl1 v:=by infer_instance)(h1:Uf v:=by infer_instance):Oper.wp P (Oper.mk d (.store ty x y) tp ps af gd) a w K Q:=by
 have hb:=hM.mem.at_ hi;have fd:(w.cell? (aD g o)).isSome=true:=by rw[hb.cell,fk hs.lt];rfl
 have lu:(storeVar ty (aD g o) v).run P w=.ok () (w.setCell (aD g o) v):=by
  have:=run_storeCells_cells (P:=P) g o [v] 0 w (fun j hj=>by
   have:j=0:=by simpa using hj
   subst this;simpa using fd) (fun j hj=>by
   have:j=0:=by simpa using hj
   subst this;simpa using hb.frozen o) (fun u hu=>by
   have:u=v:=by simpa using hu
   subst this;exact h1.eq)
  simp only[im]at this;simp only[storeVar,dw,S.run,bT,hc.eq];simpa[World.setCells]using this
 have hN:=hM.oJ i hi (hb.dq o v) (ja w g o v);rw[hs.eq,hl.eq]at hN;unfold Oper.wp execOp;simp only[hx,hy,Instr.storeAt,Instr.sureAddr,dw,gW,bT,lu];exact h _ hN
def Lz [S:Rw P ty k](h:∀w',Fm I w0 row w' l2 rs fs→K (a.put d undef) w')(hx:a.eval x=.pointer (some (aD g o)):=by rfl)(hy:a.eval y=.agg vs:=by rfl)(hi:l[i]?=some (g,t,cs):=by exact Rh)(hs:HJ cs o vs cs2:=by infer_instance)(hl:WN l i (g,t,cs2) l2:=by infer_instance)(hk:yo vs k:=by infer_instance)(h1:tE vs:=by infer_instance):Oper.wp P (Oper.mk d (.store ty x y) tp ps af gd) a w K Q:=by have hb:=hM.mem.at_ hi;cases hk.eq;have hN:=hM.oJ i hi (cs':=mT cs o vs) (by simpa using aM.setCells vs.toList o w cs hb (by simpa using hs.le)) (DQ _ _ _);rw[hs.eq,hl.eq]at hN;exact wp_store_mid ty x y rfl g o vs hx hy (hb.there o vs.size hs.le) S.sz h1.eq (h _ hN)
def sO [S:Rw P ty k](h:∀w',Fm I w0 row w' l2 rs fs→K (a.put d undef) w')(hx:a.eval x=aG g:=by rfl)(hy:a.eval y=.agg vs:=by rfl)(hi:l[i]?=some (g,t,cs):=by exact Rh)(hl:WN l i (g,t,vs) l2:=by infer_instance)(hk:yo vs k:=by infer_instance)(lQ:yo cs k:=by infer_instance)(h1:tE vs:=by infer_instance):Oper.wp P (Oper.mk d (.store ty x y) tp ps af gd) a w K Q:=by
 have hb:=hM.mem.at_ hi;cases hk.eq;have hle:0+vs.size≤cs.size:=by rw[lQ.eq];omega
 have hN:=hM.oJ i hi (cs':=mT cs 0 vs) (by simpa using aM.setCells vs.toList 0 w cs hb (by simpa using hle)) (DQ _ _ _);rw[VQ lQ.eq.symm,hl.eq]at hN;exact wp_store_mid ty x y rfl g 0 vs hx hy (hb.there 0 vs.size hle) S.sz h1.eq (h _ hN)
omit hM in theorem CsL.size {r cl}(h:CsL sz r cl):cl=(r.map (·.2)).flatMap (·.cells.toList)∧∀v∈r.map (·.2),v.cells.size=sz:=by induction h with|nil=>simp|cons _ C S ih=>cases C.eq;exact⟨by rw[ji,ig,←ih.1],by simpa using⟨S.eq,by simpa using ih.2⟩⟩
def Mi {xl pl cl} [S:Iw P ty e z sz bytes](h:∀g w',Fm I w0 row w' ((g,e,cs)::l) rs fs→K (a.put d (.slice (some (aD g 0)) n n)) w')(hx:EvL a xl pl:=by exact evl)(hc:CsL sz pl cl:=by exact csl)(hp:((pl.map (·.2)).zipIdx 0).map (fun x=>(x.2,x.1))=pl:=by rfl)(hn:pl.length=n:=by rfl)(iO:cl.toArray=cs:=by(try simp only[cq,Array.toArray_toList,List.toList_toArray,cj,bJ]);all_goals rfl)(ER:n*sz≤1000000:=by decide)(h0:n≠0:=by decide):Oper.wp P (Oper.mk d (.buildSlice ty n xl.toArray) tp ps af gd) a w K Q:=by obtain⟨i,hi,h1,h2,h3⟩:=el S.inf;have nR:=hc.size;have qZ:=S.pos;subst iO;refine wp_buildSlice ty e n _ rfl cl.toArray i z S.un hi h1 (by rw[h2];omega) (by rw[h2];exact Nat.mul_ne_zero h0 ab) ?_ (h _ _ (hM.Ar e _));have hf:=abf (pl.map (·.2)) 0 ((Array.range (n*sz)).map (z.cells[·%z.cells.size]!)) nR.2 (by simp[hn]);rw[hp,←nR.1]at hf;rw[h2];simpa[hx.eq,hn,df]using hf
def YK [S:Iw P ty e z sz bytes](h:∀g cap w',Fm I w0 row w' l (rs2 g cap) fs→K (a.put d (.slice (some (aD g 0)) (n+m) cap)) w')(hs:a.eval y=v:=by exact evv)(hj:rs[j]?=some (v,e,sz,n,xs):=by exact Rh)(hx:a.eval x=.slice (some (aD gb 0)) m c:=by rfl)(hk:l[k]?=some (gb,tb,cs):=by exact Rh)(hq:yo cs q:=by infer_instance)(hl:q=m*sz:=by decide)(h1:tE cs:=by infer_instance)(hm:0<m:=by decide)(Cu:n+m≤maxLen:=by unfold maxLen;omega)(rI:(n+m)*bytes≤140737488355328:=by omega)(hr:∀g cap,WO rs j (.slice (some (aD g 0)) (n+m) cap,e,sz,n+m,xs++cs.toList) (rs2 g cap):=by intro _ _;infer_instance):Oper.wp P (Oper.mk d (.call {callee:=.builtin .append,args:=#[y,x],argTypes:=#[ty,ty]}) tp ps af gd) a w K Q:=by
 obtain⟨i,hi,yU,yk,Rc⟩:=el S.inf;have hb:=hM.mem.at_ hk;have hl':cs.size=m*sz:=by rw[hq.eq,hl]
 refine wp_append_lies w y x ty rfl w0.heap.size e i z sz bytes S.un hi yU yk Rc S.zsz S.pos v n xs hs (hM.mem.ij hj) (aD gb 0) m c cs.toList hx (by simpa using hl') (fun q u hu=>?_) (fun u hu=>(eK.1 h1.eq) u (by simpa using hu)) hm Cu rI hM.mem.grown.size w.heap.size rfl (fun g cap w' hr' hg hv _=>h g cap w' (by have:=hM.yM j hj hr' hg (by rcases hv with hv|hv;exact .inl (by rw[hv];rfl);exact .inr (.inr ⟨g,rfl,ab⟩));rwa[(hr g cap).eq]at this));rw[Addr.add_mid,cK,hb.cell];simpa using hu
def arM [S:Iw P ty e z sz bytes](Ra:w.rangeAt gb ob news)(hl:news.length=m*sz)(h1:∀u∈news,u.oneCell'=true)(hm:0<m)(h:∀g cap w',Fm I w0 row w' l (rs2 g cap) fs→K (a.put d (.slice (some (aD g 0)) (n+m) cap)) w')(hs:a.eval y=v:=by exact evv)(hj:rs[j]?=some (v,e,sz,n,xs):=by exact Rh)(hx:a.eval x=.slice (some (aD gb ob)) m c:=by rfl)(Cu:n+m≤maxLen:=by unfold maxLen;omega)(rI:(n+m)*bytes≤140737488355328:=by omega)(hr:∀g cap,WO rs j (.slice (some (aD g 0)) (n+m) cap,e,sz,n+m,xs++news) (rs2 g cap):=by intro _ _;infer_instance):Oper.wp P (Oper.mk d (.call {callee:=.builtin .append,args:=#[y,x],argTypes:=#[ty,ty]}) tp ps af gd) a w K Q:=by obtain⟨i,hi,yU,yk,Rc⟩:=el S.inf;exact wp_append_lies w y x ty rfl w0.heap.size e i z sz bytes S.un hi yU yk Rc S.zsz S.pos v n xs hs (hM.mem.ij hj) (aD gb ob) m c news hx hl (fun q u hu=>by rw[Addr.add_mid];exact Ra q u hu) h1 hm Cu rI hM.mem.grown.size w.heap.size rfl (fun g cap w' hr' hg hv _=>h g cap w' (by have:=hM.yM j hj hr' hg (by rcases hv with hv|hv;exact .inl (by rw[hv];rfl);exact .inr (.inr ⟨g,rfl,ab⟩));rwa[(hr g cap).eq]at this))
def adD [S:Iw P ty e z sz bytes](Ra:w.rangeAt gb ob news)(hl:news.length=m*sz)(h1:∀u∈news,u.oneCell'=true)(hm:0<m)(h:∀g cap w',Fm I w0 row w' l (rs2 g cap) fs→wpList P ops Q rest (a.put d (.slice (some (aD g 0)) (n+m) cap)) w')(hs:a.eval y=v:=by exact evv)(hj:rs[j]?=some (v,e,sz,n,xs):=by exact Rh)(hx:a.eval x=.slice (some (aD gb ob)) m c:=by rfl)(Cu:n+m≤maxLen:=by unfold maxLen;omega)(rI:(n+m)*bytes≤140737488355328:=by omega)(hr:∀g cap,WO rs j (.slice (some (aD g 0)) (n+m) cap,e,sz,n+m,xs++news) (rs2 g cap):=by intro _ _;infer_instance)(eF:Region.wanted (Oper.mk d (.call {callee:=.builtin .append,args:=#[y,x],argTypes:=#[ty,ty]}) tp ps af gd) (yielded ops a.tmps)=true:=by rfl):wpList P ops Q ((Oper.mk d (.call {callee:=.builtin .append,args:=#[y,x],argTypes:=#[ty,ty]}) tp ps af gd)::rest) a w:=wpList_want eF fun K hK=>arM hM Ra hl h1 hm (fun g cap w' hm=>hK _ _ (h g cap w' hm)) hs hj hx Cu rI hr
omit hM in theorem aqT {xl pl}(h:K (a.put d (.agg cs)) w)(hx:EvL a xl pl:=by exact evl)(B:Bd P ty pl cs:=by infer_instance):Oper.wp P (Oper.mk d (.build ty xl.toArray) tp ps af gd) a w K Q:=by cases hx.eq;exact Ef d rfl ty xl rfl B.eq h
end
theorem vL(h:ez):(eY h.1).length=32:=by grind[rz]
section
variable{x v:Value}{a l l' r vs vl:List Value}{o n m:Nat}{cs cs2:Array Value}
instance[c:CL l o v]:CL ([]++l) o v:=c
instance{b:List Value} [c:CL (a++(b++l)) o v]:CL ((a++b)++l) o v:=⟨by rw[bz];exact c.at_⟩
instance:CL ((x::a)++l) 0 x:=⟨rfl⟩
instance[c:CL (a++l) o v]:CL ((x::a)++l) (o+1) v:=⟨by simpa using c.at_⟩
instance{h:ez} [c:CL l o v]:CL (eY h.1++l) (o+32) v:=⟨by rw[dX xE,vL,lE];exact c.at_⟩
theorem fP.to {u} [c:CL l o u](e:u=v:=by rfl):fP l.toArray o v:=⟨by simpa using e▸c.at_⟩
instance[c:CM l o v l']:CM ([]++l) o v l':=c
instance{b:List Value} [c:CM (a++(b++l)) o v l']:CM ((a++b)++l) o v l':=⟨by rw[bz];exact c.eq,by rw[bz];exact c.lt⟩
instance:CM ((x::a)++l) 0 v ((v::a)++l):=⟨rfl,ae⟩
instance[c:CM (a++l) o v l']:CM ((x::a)++l) (o+1) v (x::l'):=⟨by rw[cj,az,c.eq],by have:=c.lt;grind⟩
instance{h:ez} [c:CM l o v l']:CM (eY h.1++l) (o+32) v (eY h.1++l'):=⟨by rw[gP _ _ xE,vL,lE,c.eq],by have:=c.lt;grind[vL]⟩
theorem iu.to [c:CM l o v l'](e:l'.toArray=cs:=by rfl):iu l.toArray o v cs:=⟨by rw[cZ,c.eq,e],by simpa using c.lt⟩
instance[c:Ci l n]:Ci ([]++l) n:=c
instance[c:Ci (a++l) n]:Ci ((x::a)++l) (n+1):=⟨by have:=c.eq;grind⟩
instance{h:ez} [c:Ci l n]:Ci (eY h.1++l) (n+32):=⟨by have:=c.eq;grind[vL]⟩
instance{h:ez}:Ci (eY h.1) 32:=⟨vL h⟩
theorem yo.to [c:Ci l m](e:m=n:=by rfl):yo l.toArray n:=⟨by simpa using e▸c.eq⟩
instance{h:ez}:Ue (eY h.1):=⟨kX.2 fun _ hv=>Fo _ _ hv⟩
instance[c:Ue a] [d:Ue l]:Ue (a++l):=⟨by rw[List.all_append,c.eq,d.eq];rfl⟩
theorem tE.to [c:Ue l]:tE l.toArray:=⟨Yk c.eq⟩
class zB (l : List Value) (n : Nat) (r : outParam (List Value)) : Prop where
  eq : l.drop n = r
  le : n ≤ l.length
instance:zB l 0 l:=⟨rfl,aI _⟩
instance[c:zB l n r]:zB ([]++l) n r:=c
instance{b:List Value} [c:zB (a++(b++l)) n r]:zB ((a++b)++l) n r:=⟨by rw[bz];exact c.eq,by rw[bz];exact c.le⟩
instance[c:zB l n r]:zB (x::l) (n+1) r:=⟨c.eq,Nat.succ_le_succ c.le⟩
instance[c:zB (a++l) n r]:zB ((x::a)++l) (n+1) r:=⟨c.eq,Nat.succ_le_succ c.le⟩
instance{h:ez} [c:zB l n r]:zB (eY h.1++l) (n+32) r:=⟨by rw[uH,←mB,qv (vL h),c.eq],by have:=c.le;grind[vL]⟩
instance{h:ez}:zB (eY h.1) 32 []:=⟨df (mN (vL h)),mN (vL h).symm⟩
theorem Piece.to [c:zB l o vl](e:vl=vs++r:=by rfl):Piece l.toArray o vs.toArray:=⟨by apply yi;simp[c.eq,e]⟩
class CQ (l : List Value) (o : Nat) (n : Nat) (vs : List Value) (l' : outParam (List Value)) : Prop where
  eq : l.take o ++ (vs ++ l.drop (o + n)) = l'
  le : o + n ≤ l.length
instance[c:zB l n r]:CQ l 0 n vs (vs++r):=⟨by simp[c.eq],by simpa using c.le⟩
instance[c:CQ l o n vs l']:CQ ([]++l) o n vs l':=c
instance{b:List Value} [c:CQ (a++(b++l)) o n vs l']:CQ ((a++b)++l) o n vs l':=⟨by rw[bz];exact c.eq,by rw[bz];exact c.le⟩
instance[c:CQ l o n vs l']:CQ (x::l) (o+1) n vs (x::l'):=⟨by rw[←c.eq,qT];rfl,by have:=c.le;grind⟩
instance[c:CQ (a++l) o n vs l']:CQ ((x::a)++l) (o+1) n vs (x::l'):=⟨by rw[←c.eq,qT];rfl,by have:=c.le;grind⟩
instance{h:ez} [c:CQ l o n vs l']:CQ (eY h.1++l) (o+32) n vs (eY h.1++l'):=⟨by rw[←c.eq,pw,aL xE,vL,lE,qT,tK,df xE,vL,lE,bz,bJ],by have:=c.le;grind[vL]⟩
instance{h:ez}:CQ (eY h.1) 0 32 vs vs:=⟨xE,xE⟩
theorem CQ.mT(c:CQ l o n vs l')(hn:vs.length=n):mT l.toArray o vs.toArray=l'.toArray:=by rw[←c.eq,←hn];rfl
theorem HJ.to [k:Ci vs n] [c:CQ l o n vs l'](e:l'.toArray=cs:=by rfl):HJ l.toArray o vs.toArray cs:=⟨by rw[c.mT k.eq,e],by simpa[k.eq]using c.le⟩
def bdc {f p ps}(h:Instr.fill f cs (p::ps)=some cs2):Instr.fill f cs (p::ps)=some cs2:=h
def bd0 {f}(e:l.toArray=cs:=by rfl):Instr.fill f l.toArray []=some cs:=by rw[←e];rfl
def bd1 {f k ps}(hf:f k=some (o,n):=by rfl)(hv:v.cells=vs.toArray:=by rfl)(z:Ci vs n:=by infer_instance)(c:CQ l o n vs l':=by infer_instance)(i:Instr.fill f l'.toArray ps=some cs):Instr.fill f l.toArray ((k,v)::ps)=some cs:=by
 have hs:vs.toArray.size=n:=by simpa using z.eq
 rw[VR f l.toArray k v ps o ai (by rw[hv,hs];simpa using c.le),hv,c.mT z.eq];omega
theorem Bd.to {P t f ps}(b:∀ps,P.built t ps=Instr.fill f l.toArray ps)(i:Instr.fill f l.toArray ps=some cs:=by(repeat((with_reducible refine bdc ?_);refine bd1 (i:=?_)));exact bd0):Bd P t ps cs:=⟨(b ps).trans i⟩
end
class Und(b:Bool):Prop where EL:True
instance(a:Bool):Und (!a):=⟨trivial⟩
instance{α:Type} [BEq α](a b:α):Und (a==b):=⟨trivial⟩
instance{α:Type} [BEq α](a b:α):Und (a !=b):=⟨trivial⟩
instance(p:Prop) [Decidable p]:Und (decide p):=⟨trivial⟩
section
variable{P:Program}{ops:Array Oper}{rest:List Oper}{tp:TypeId}{ps:String}{af:Array Edge}{gd:Option (Nat×Bool)}{a:Act}{w:World}{Q:Exit→Act→World→Prop}{d:Option Tmp}{ty:TypeId}{x y:Operand}{n:Nat}{xs:Array (Nat×Operand)}{cs:Array Operand}{ts:Array TypeId}
def ap2(h:wpList P ops Q (Oper.mk d (.load ty x) tp ps af gd::rest) a w):wpList P ops Q (Oper.mk d (.load ty x) tp ps af gd::rest) a w:=h
def ap8(h:wpList P ops Q (Oper.mk d (.store ty x y) tp ps af gd::rest) a w):wpList P ops Q (Oper.mk d (.store ty x y) tp ps af gd::rest) a w:=h
def BC(h:wpList P ops Q (Oper.mk d (.alloc ty) tp ps af gd::rest) a w):wpList P ops Q (Oper.mk d (.alloc ty) tp ps af gd::rest) a w:=h
def OI(h:wpList P ops Q (Oper.mk d (.box ty x) tp ps af gd::rest) a w):wpList P ops Q (Oper.mk d (.box ty x) tp ps af gd::rest) a w:=h
def ap6(h:wpList P ops Q (Oper.mk d (.buildSlice ty n xs) tp ps af gd::rest) a w):wpList P ops Q (Oper.mk d (.buildSlice ty n xs) tp ps af gd::rest) a w:=h
def ap7(h:wpList P ops Q (Oper.mk d (.build ty xs) tp ps af gd::rest) a w):wpList P ops Q (Oper.mk d (.build ty xs) tp ps af gd::rest) a w:=h
def akd(h:wpList P ops Q (Oper.mk d (.call {callee:=.builtin .append,args:=cs,argTypes:=ts}) tp ps af gd::rest) a w):wpList P ops Q (Oper.mk d (.call {callee:=.builtin .append,args:=cs,argTypes:=ts}) tp ps af gd::rest) a w:=h
def auP {op j k}(h:wpList P ops Q (Oper.mk d op tp ps af (some (j,k))::rest) a w):wpList P ops Q (Oper.mk d op tp ps af (some (j,k))::rest) a w:=h
def alT {op j k b}(_hv:((ops[j]?).bind (·.dst)).bind (a.tmps[·]?)=some (.bool b))(hu:Und b)(h1:b=true→wpList P ops Q (Oper.mk d op tp ps af (some (j,k))::rest) a w)(h2:b=false→wpList P ops Q (Oper.mk d op tp ps af (some (j,k))::rest) a w):wpList P ops Q (Oper.mk d op tp ps af (some (j,k))::rest) a w:=by cases b;exact h2 rfl;exact h1 rfl
end
section
variable{P:Program}{md:Region.Mode}{ops:Array Oper}{Q:Exit→Act→World→Prop}{S:World→Prop}{iE:List Nat}
def vf i j {oi oj n seen a w}(hr:Region.ready md ops seen=[i,j])(hoi:ops[i]?=some oi)(Kv:ops[j]?=some oj)(hj:iE.contains j=true)(h1:∀K,Shut (∀b v,S v→(S v→Ord P md ops Q S iE n (seen.setIfInBounds i true) b v)→K b v)→if Region.wanted oi (yielded ops a.tmps)=true then Oper.wp P oi a w K Q else K (a.put oi.dst undef) w)(h2:∀K,Shut (∀b v(S'),S' v→(S' v→Ord P md ops Q S' iE n (seen.setIfInBounds j true) b v)→K b v)→if Region.wanted oj (yielded ops a.tmps)=true then Oper.wp P oj a w K Q else K (a.put oj.dst undef) w):Ord P md ops Q S iE (n+1) seen a w:=by refine⟨fun h0=>absurd h0 ai,fun k hk=>?_⟩;rw[hr]at hk;rcases aO.1 hk with rfl|hk;exact Jy;obtain rfl:k=j:=ai;exact mZ Kv fun K hK=>h2 K (fun b v S' hS hW=>hK b v (.inl ⟨hj,Ky _ _ _ _ (hW hS)⟩))
end
section
variable{I:MF}{fs:List MF}{P:Program}{w0 w:World}{row:Option Nat}{l l':List MB}{rs uR:List MR}{fs':List MF}
def aqS {α:Type}{l l':List α}(h:l'.Sublist l:=by repeat(first|(with_reducible exact aB _)|(with_reducible refine List.Sublist.cons_cons _ ?_)|(with_reducible refine List.Sublist.cons _ ?_)|exact aB _)):l'.Sublist l:=h
def Fm.sub(h:Fm I w0 row w l rs fs)(hl:l'.Sublist l:=by exact aqS)(hr:uR.Sublist rs:=by exact aqS)(hf:fs'.Sublist fs:=by exact aqS):Fm I w0 row w l' uR fs':=h.less hl hr (fun _ hq=>hf.subset hq)
inductive RsL(P:Program)(l:List MB)(tmps:Array Value):List ResultVar→List Value→Prop|nil:RsL P l tmps [] []|tmp {u:Tmp}{r:List ResultVar}{vs:List Value}(h:RsL P l tmps r vs):RsL P l tmps (.tmp u::r) (tmps.getD u undef::vs)|cell {p:Tmp}{ty t:TypeId}{k g i:Nat}{cs:Array Value}{r:List ResultVar}{vs:List Value}(h:RsL P l tmps r vs) [S:Rw P ty k](hp:tmps.getD p undef=aG g:=by rfl)(hi:l[i]?=some (g,t,cs):=by exact Rh)(hk:yo cs k:=by infer_instance):RsL P l tmps (.cell p ty::r) (.agg cs::vs)
inductive Out:List Value→Value→Prop|one(v:Value):Out [v] v|many(a b:Value)(r:List Value):Out (a::b::r) (.tuple (a::b::r).toArray)
def anq(tmps:Array Value):ResultVar→Sem Value|.tmp t=>pure (tmps.getD t undef)|.cell a t=>do loadVar t (←asAddr (tmps.getD a undef))
def frr(hM:Fm I w0 row w l rs fs){fn tmps rl vs v}(h:fn.results=rl.toArray:=by rfl)(hr:RsL P l tmps rl vs:=by first|exact .cell .nil|exact .cell (.tmp .nil)|exact .cell (.cell .nil)|exact .cell (.tmp (.tmp .nil))|exact .cell (.cell (.tmp .nil))|exact .tmp (.cell (.tmp .nil))|exact .cell (.tmp (.tmp (.tmp .nil))))(ho:Out vs v:=by first|exact .one _|exact .many _ _ _):(results fn tmps).run P w=.ok v w:=by
 have hm:(rl.mapM (anq tmps)).run P w=.ok vs w:=by clear ho h;induction hr with|nil=>simp|tmp _ ih=>simp_all[anq]|@cell p ty t k g i cs r vs _ S hp hi hk ih=>obtain⟨D0,hu0,hD0⟩:=S.un;have hr0:=AO (P:=P) w g t ty cs (0,0) D0 (hM.mem.at_ hi) hu0 ai (by rw[S.sz,hk.eq]);have e:asAddr (aG g)=pure (aD g 0):=rfl;simp_all[anq]
 have h2:results fn tmps=(do let vs←rl.toArray.mapM (anq tmps);pure (if h:vs.size=1 then vs[0]else .tuple vs)):=by unfold results;rw[h];rfl
 rw[h2];cases ho<;>simp[hm]
end
section
variable{I J:MF}{fs:List MF}{P:Program}{f:FuncId}{args:Array Value}{w0 w:World}{row:Option Nat}{l:List MB}{rs:List MR}{R:Ending→World→Prop}{v:Value}{b:Bool}{n m:Int}{α:Type}{V:α→Value}{Q:α→MF}(hM:Fm I w0 row w l rs fs)
include hM
def cB(h:Calls P f args w fun e w'=>e=.returned v∧Below w.heap.size w w')(k:∀w',Fm I w0 row w' l rs fs→R (.returned v) w'):Calls P f args w R:=h.mono fun _ w'⟨h1,h2⟩=>by subst h1;exact k w' (hM.step h2)
def cS(h:Calls P f args w fun e w'=>e=.returned v∧w=w')(k:∀w',Fm I w0 row w' l rs fs→R (.returned v) w'):Calls P f args w R:=h.mono fun _ w'⟨h1,h2⟩=>by subst h1 h2;exact k _ hM
def yj(h:Calls P f args w fun e w'=>e=.returned (.bool b)∧Below w.heap.size w w')(k:∀w'(b'),b=b'→Fm I w0 row w' l rs fs→R (.returned (.bool b')) w'):Calls P f args w R:=h.mono fun _ w'⟨h1,h2⟩=>by subst h1;exact k w' b rfl (hM.step h2)
def cDb(h:Calls P f args w fun e w'=>e=.returned (.bool b)∧∃q,w'=w.drewN q)(k:∀w'(b'),b=b'→Fm I w0 row w' l rs fs→R (.returned (.bool b')) w'):Calls P f args w R:=h.mono fun _ w'⟨h1,q,h2⟩=>by subst h1 h2;exact k _ b rfl (hM.drewN q)
def cSb(h:Calls P f args w fun e w'=>e=.returned (.bool b)∧w=w')(k:∀w'(b'),b=b'→Fm I w0 row w' l rs fs→R (.returned (.bool b')) w'):Calls P f args w R:=h.mono fun _ w'⟨h1,h2⟩=>by subst h1 h2;exact k _ b rfl hM
def cBp(h:Calls P f args w fun e w'=>e=.returned (.tuple #[v,.bool b])∧Below w.heap.size w w')(k:∀w'(b'),b=b'→Fm I w0 row w' l rs fs→R (.returned (.tuple #[v,.bool b'])) w'):Calls P f args w R:=h.mono fun _ w'⟨h1,h2⟩=>by subst h1;exact k w' b rfl (hM.step h2)
def cN {F:Bs}{B}(hB:F.length≤B)(h:Calls P f args w fun e w'=>e=.returned (str F)∧Below w.heap.size w w')(k:∀(X)w',Hid (F=X)→X.length≤B→Fm I w0 row w' l rs fs→R (.returned (str X)) w'):Calls P f args w R:=h.mono fun _ w'⟨h1,h2⟩=>by subst h1;exact k F w' (ag rfl) hB (hM.step h2)
def cF(hJ:jh I w0 w l rs J)(h:Calls P f args w fun e w'=>∃s,e=.returned (V s)∧dz w w' J (Q s)∧Below w.heap.size w w')(k:∀s w',Fm I w0 row w' l rs (Q s::fs)→R (.returned (V s)) w'):Calls P f args w R:=h.mono fun _ w'⟨s,h1,h2,h3⟩=>by subst h1;exact k s w' (hM.vP h3 hJ h2)
def cE2(hn:n=0∨n=m)(h:Calls P f args w fun e w'=>e=.returned (.tuple #[v,al n])∧Below w.heap.size w w')(k0:∀w',Hid (n=0)→Fm I w0 row w' l rs fs→R (.returned (.tuple #[v,al 0])) w')(k1:∀w',Hid (n=m)→Fm I w0 row w' l rs fs→R (.returned (.tuple #[v,al m])) w'):Calls P f args w R:=h.mono fun _ w'⟨h1,h2⟩=>SF
def cE1(hn:n=0∨n=m)(h:Calls P f args w fun e w'=>e=.returned (al n)∧Below w.heap.size w w')(k0:∀w',Hid (n=0)→Fm I w0 row w' l rs fs→R (.returned (al 0)) w')(k1:∀w',Hid (n=m)→Fm I w0 row w' l rs fs→R (.returned (al m)) w'):Calls P f args w R:=h.mono fun _ w'⟨h1,h2⟩=>SF
def cFE(hJ:jh I w0 w l rs J)(hn:n=0∨n=m)(h:Calls P f args w fun e w'=>∃s,e=.returned (.tuple #[V s,al n])∧dz w w' J (Q s)∧Below w.heap.size w w')(k0:∀s w',Hid (n=0)→Fm I w0 row w' l rs (Q s::fs)→R (.returned (.tuple #[V s,al 0])) w')(k1:∀s w',Hid (n=m)→Fm I w0 row w' l rs (Q s::fs)→R (.returned (.tuple #[V s,al m])) w'):Calls P f args w R:=h.mono fun _ w'⟨s,h1,h2,h3⟩=>by subst h1;rcases hn with rfl|rfl;exact k0 s w' (ag rfl) (hM.vP h3 hJ h2);exact k1 s w' (ag rfl) (hM.vP h3 hJ h2)
end
section
variable{P:Program}{tp:TypeId}{ps:String}{af:Array Edge}{gd:Option (Nat×Bool)}{a:Act}{w:World}{K:Act→World→Prop}{Q:Exit→Act→World→Prop}{d:Option Tmp}{ty:TypeId}{x:Operand}{n:Nat}{xs:Array (Nat×Operand)}
def awj(h:Oper.wp P (Oper.mk d (.load ty x) tp ps af gd) a w K Q):Oper.wp P (Oper.mk d (.load ty x) tp ps af gd) a w K Q:=h
def awi(h:Oper.wp P (Oper.mk d (.build ty xs) tp ps af gd) a w K Q):Oper.wp P (Oper.mk d (.build ty xs) tp ps af gd) a w K Q:=h
def awl(h:Oper.wp P (Oper.mk d (.alloc ty) tp ps af gd) a w K Q):Oper.wp P (Oper.mk d (.alloc ty) tp ps af gd) a w K Q:=h
def awm(h:Oper.wp P (Oper.mk d (.box ty x) tp ps af gd) a w K Q):Oper.wp P (Oper.mk d (.box ty x) tp ps af gd) a w K Q:=h
def awk(h:Oper.wp P (Oper.mk d (.buildSlice ty n xs) tp ps af gd) a w K Q):Oper.wp P (Oper.mk d (.buildSlice ty n xs) tp ps af gd) a w K Q:=h
end
def f_r {G K:Prop}(k:K)(h:Hid K→G:=by
 intro kz;first|((with_reducible refine awj ?_);refine f_l ?_)|((with_reducible refine awi ?_);refine aqT ?_)
 exact kz.o):G:=h (ag k)
def f_n {G K:Prop}(k:K)(h:Hid K→G:=by
 intro kz;first|((with_reducible refine awl ?_);refine EO hM ?_)|((with_reducible refine awm ?_);refine atw hM ?_)|((with_reducible refine awk ?_);refine Mi hM ?_)
 exact kz.o):G:=h (ag k)
section
variable{X K:Act→World→Prop}(hK:∀a w,X a w→K a w)
include hK
def ap9 {a}{A:World→Prop}(h:∀w,A w→X a w):∀w,A w→K a w:=fun w q=>hK _ _ (h w q)
def auQ {a:Nat→Act}{A:Nat→World→Prop}(h:∀g w,A g w→X (a g) w):∀g w,A g w→K (a g) w:=fun g w q=>hK _ _ (h g w q)
def auR {a:Nat→Nat→Act}{A:Nat→Nat→World→Prop}(h:∀g c w,A g c w→X (a g c) w):∀g c w,A g c w→K (a g c) w:=fun g c w q=>hK _ _ (h g c w q)
end
section
variable{G K K1 K2:Prop}
def xT(k1:K1)(k2:K2)(h:Hid K1→Hid K2→G:=by intro kz1 kz2;((with_reducible refine auP ?_);refine alT (by simp only[dx,List.getElem?_cons_zero,nJ,Option.bind_some];with_reducible rfl) (by infer_instance) ?_ ?_;(exact kz1.o);(exact kz2.o))):G:=h (ag k1) (ag k2)
variable(k:K)
include k
def aP(h:Hid K→G:=by
 intro kz;with_reducible first|refine ap2 ?_|refine ap7 ?_
 refine wpList_want aq ?_;intro K hK;refine f_r ?_;exact hK _ _ kz.o):G:=h (ag k)
def bx(h:Hid K→G:=by
 intro kz;with_reducible refine ap8 ?_
 refine wpList_want aq ?_;intro K hK;first|refine Pg hM ?_|refine sO hM ?_|refine Lz hM ?_
 refine ap9 hK ?_;exact kz.o):G:=h (ag k)
def bw(h:Hid K→G:=by
 intro kz;with_reducible first|refine BC ?_|refine OI ?_|refine ap6 ?_
 refine wpList_want aq ?_;intro K hK;refine f_n ?_;refine auQ hK ?_;exact kz.o):G:=h (ag k)
def vg(h:Hid K→G:=by
 intro kz;with_reducible refine akd ?_
 refine wpList_want aq ?_;intro K hK;refine YK hM ?_;refine auR hK ?_;exact kz.o):G:=h (ag k)
end
def MC {P md ops Q S iE}i j m {oi oj om n seen a w}(hr:Region.ready md ops seen=[i,j,m])(hoi:ops[i]?=some oi)(Kv:ops[j]?=some oj)(hom:ops[m]?=some om)(h1:∀K,Shut (∀b v,S v→(S v→Ord P md ops Q S iE n (seen.setIfInBounds i true) b v)→K b v)→if Region.wanted oi (yielded ops a.tmps)=true then Oper.wp P oi a w K Q else K (a.put oi.dst undef) w)(h2:∀K,Shut (∀b v,S v→(S v→Ord P md ops Q S iE n (seen.setIfInBounds j true) b v)→K b v)→if Region.wanted oj (yielded ops a.tmps)=true then Oper.wp P oj a w K Q else K (a.put oj.dst undef) w)(h3:∀K,Shut (∀b v,S v→(S v→Ord P md ops Q S iE n (seen.setIfInBounds m true) b v)→K b v)→if Region.wanted om (yielded ops a.tmps)=true then Oper.wp P om a w K Q else K (a.put om.dst undef) w):Ord P md ops Q S iE (n+1) seen a w:=by refine⟨fun h0=>absurd h0 ai,fun k hk=>?_⟩;rw[hr]at hk;rcases aO.1 hk with rfl|hk;exact Jy;rcases aO.1 hk with rfl|hk;exact SS;obtain rfl:k=m:=ai;exact mZ hom fun K hK=>h3 K (fun b v hS hW=>hK b v (.inr ⟨hS,hW hS⟩))
structure Kw(F R:Nat→Nat→World→Prop):Prop where out:∀g1 g2 w,F g1 g2 w→R g1 g2 w
def akg F R(G:Prop)(h:Kw F R→G)(k:∀g1 g2 w,F g1 g2 w→R g1 g2 w):G:=h ⟨k⟩
def Fm.swap {I w0 w row a b l rs fs}(h:Fm I w0 row w (a::b::l) rs fs):Fm I w0 row w (b::a::l) rs fs:=by have hm:∀x,x∈b::a::l→x∈a::b::l:=ai;have hm':∀x,x∈a::b::l→x∈b::a::l:=ai;have hp:=h.mem.apart;simp only[cf,aO,pA]at hp;refine⟨⟨h.mem.grown,fun x hx=>h.mem.pC x (hm x hx),fun x hx=>h.mem.own x (hm x hx),?_,h.mem.rows,fun x hx y hy=>h.mem.kR x hx y (hm y hy),h.mem.oX,h.mem.CB⟩,h.wC,fun Q hQ=>?_⟩;simp only[cf,aO,pA];grind;intro W h1 h2 h3;exact h.fact Q hQ W h1 (fun c c0 c1 c2 c3=>h2 c c0 c1 (fun x hx=>c2 x (hm x hx)) c3) h3
def amw a b:bits .or .u32 a b=bits .or .u32 b a:=by show IntKind.u32.wrap (((BitVec.ofInt 32 a|||BitVec.ofInt 32 b).toNat:Nat):Int)=IntKind.u32.wrap (((BitVec.ofInt 32 b|||BitVec.ofInt 32 a).toNat:Nat):Int);grind
def acK x w:Calls prog 204 #[.int .u32 x,.int .u64 7] w fun e w'=>e=.returned (.int .u32 (uB 33554432 128 x))∧w=w':=by have hk:IntKind.u64.wrap (32-7)=25:=ad;exact oE
def ZW x w:Calls prog 204 #[.int .u32 x,.int .u64 18] w fun e w'=>e=.returned (.int .u32 (uB 16384 262144 x))∧w=w':=by have hk:IntKind.u64.wrap (32-18)=14:=ad;exact oE
def aac x w:Calls prog 204 #[.int .u32 x,.int .u64 17] w fun e w'=>e=.returned (.int .u32 (uB 32768 131072 x))∧w=w':=by have hk:IntKind.u64.wrap (32-17)=15:=ad;exact oE
def ZZ x w:Calls prog 204 #[.int .u32 x,.int .u64 19] w fun e w'=>e=.returned (.int .u32 (uB 8192 524288 x))∧w=w':=by have hk:IntKind.u64.wrap (32-19)=13:=ad;exact oE
def acL x w:Calls prog 204 #[.int .u32 x,.int .u64 6] w fun e w'=>e=.returned (.int .u32 (uB 67108864 64 x))∧w=w':=by have hk:IntKind.u64.wrap (32-6)=26:=ad;exact oE
def ZY x w:Calls prog 204 #[.int .u32 x,.int .u64 11] w fun e w'=>e=.returned (.int .u32 (uB 2097152 2048 x))∧w=w':=by have hk:IntKind.u64.wrap (32-11)=21:=ad;exact oE
def aaa x w:Calls prog 204 #[.int .u32 x,.int .u64 25] w fun e w'=>e=.returned (.int .u32 (uB 128 33554432 x))∧w=w':=by have hk:IntKind.u64.wrap (32-25)=7:=ad;exact oE
def acM x w:Calls prog 204 #[.int .u32 x,.int .u64 2] w fun e w'=>e=.returned (.int .u32 (uB 1073741824 4 x))∧w=w':=by have hk:IntKind.u64.wrap (32-2)=30:=ad;exact oE
def aab x w:Calls prog 204 #[.int .u32 x,.int .u64 13] w fun e w'=>e=.returned (.int .u32 (uB 524288 8192 x))∧w=w':=by have hk:IntKind.u64.wrap (32-13)=19:=ad;exact oE
def ZX x w:Calls prog 204 #[.int .u32 x,.int .u64 22] w fun e w'=>e=.returned (.int .u32 (uB 1024 4194304 x))∧w=w':=by have hk:IntKind.u64.wrap (32-22)=10:=ad;exact oE
end Go.Proofs.YtlddafbgfkocjaaGreatDoor
