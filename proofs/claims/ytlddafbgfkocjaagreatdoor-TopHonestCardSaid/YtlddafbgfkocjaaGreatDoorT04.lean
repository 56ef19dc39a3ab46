/- A part of TopHonest. -/
import Derived.Deep.MidRow
import Derived.Great.Walk
import Derived.Laws.StructEq
import Derived.Laws.Tables
import Derived.Lib.Bytealg
import Derived.Test.YtlddafbgfkocjaaGreatDoorT03
namespace Go.Proofs.YtlddafbgfkocjaaGreatDoor
open Go.RowKit Go.Proofs.Tryz
set_option linter.all false
set_option maxRecDepth 1000000
set_option maxHeartbeats 400000000
def mT(cs:Array Value)(o:Nat)(vs:Array Value):Array Value:=(cs.toList.take o++(vs.toList++cs.toList.drop (o+vs.size))).toArray
theorem iI {cs vs o}(h:o+vs.size≤cs.size):(mT cs o vs).size=cs.size:=by grind[mT]
theorem aga(L:List Value)o v r(h:o<L.length):(L.set o v).take (o+1)++(r++(L.set o v).drop (o+1+r.length))=L.take o++(v::r++L.drop (o+(v::r).length)):=by rw[List.drop_set_of_lt ab,List.take_set,aS h,gP _ _ ai];simp only[bo,bG];rw[show o-min o L.length=0 from ab];grind
def aM.setCells {g t}:∀(vs)(o)(w)(cs),aM w g t cs→o+vs.length≤cs.size→aM (w.setCells g o vs) g t (mT cs o vs.toArray):=by
 intro vs;induction vs with|nil=>
  intro o w cs h hl;have e:mT cs o #[]=cs:=by unfold mT;simp
  rw[show([]:List Value).toArray=#[]from rfl,e];exact h|cons v r ih=>
  intro o w cs h hl;simp only[bG]at hl;have h1:=ih (o+1) _ _ (h.dq o v) ai;have e:mT (cs.setIfInBounds o v) (o+1) r.toArray=mT cs o (v::r).toArray:=by unfold mT;have:=aga cs.toList o v r ai;grind
  rw[e]at h1;exact h1
def DQ {g}:∀(vs)(o)(w:World),w.grownBy (w.setCells g o vs) (some g):=by intro vs;induction vs with|nil=>intro o w;exact⟨rfl,rfl,rfl,au _,fun _ _ _=>rfl⟩|cons v r ih=>intro o w;exact jq (ja w g o v) (ih (o+1) _)
def aM.there {w g t cs}(h:aM w g t cs)o n(hl:o+n≤cs.size):w.there g o n:=fun j hj=>by rw[h.cell,fk ab];exact⟨rfl,h.frozen _⟩
def aM.range {w g t cs}(h:aM w g t cs){o vs}(hv:cs.extract o (o+vs.size)=vs):w.rangeAt g o vs.toList:=by have:=World.rangeAt_of_block h o vs.size;grind
def VQ {cs vs}(h:vs.size=cs.size):mT cs 0 vs=vs:=by grind[mT]
section
variable{P:Program}{ops:Array Oper}{rest:List Oper}{op:Oper}{a:Act}{w:World}{Q:Exit→Act→World→Prop}
end
def anJ off:∀(l:List Value)(k)(a),off+k+l.length≤a.size→(l.zipIdx k).foldl (fun a(x:Value×Nat)=>a.setIfInBounds (off+x.2) x.1) a=mT a (off+k) l.toArray:=by intro l;induction l with|nil=>simp[mT]|cons v l ih=>grind[List.zipIdx_cons,mT,aga]
def VR place z i v ps off(hp:place i=some (off,v.cells.size))(hz:off+v.cells.size≤z.size):Instr.fill place z ((i,v)::ps)=Instr.fill place (mT z off v.cells) ps:=by have hc:¬((decide (v.cells.size≠v.cells.size)||decide (off+v.cells.size>z.size))=true):=ai;simp only[Instr.fill,hp];rw[if_neg hc,←Array.foldl_toList,Array.toList_zipIdx];simp_all[anJ]
abbrev MB:=Nat×TypeId×Array Value
abbrev MR:=Value×TypeId×Nat×Nat×List Value
structure Mem (w0 : World) (row : Option Nat) (w : World) (l : List MB) (rs : List MR) : Prop where
  grown : w0.grownBy w row
  pC : ∀ x ∈ l, aM w x.1 x.2.1 x.2.2
  own : ∀ x ∈ l, w0.heap.size ≤ x.1 ∨ some x.1 = row
  apart : l.Pairwise fun x y => x.1 ≠ y.1
  rows : ∀ x ∈ rs, w.ownsRow w0.heap.size x.2.1 x.2.2.1 x.1 x.2.2.2.1 x.2.2.2.2
  kR : ∀ x ∈ rs, ∀ y ∈ l, x.1.ownBlock ≠ some y.1
  oX : rs.Pairwise fun x y => x.1.ownBlock = none ∨ x.1.ownBlock ≠ y.1.ownBlock
  CB : ∀ g, row = some g → g < w0.heap.size
def abl(w:World)row:w.grownBy w row:=⟨rfl,rfl,rfl,au _,fun _ _ _=>rfl⟩
def akr {α:Type}{R}{l:List α}(h:l.Pairwise R)i v(hi:i<l.length)(h1:∀j(hj),j<i→R l[j] v)(h2:∀j(hj),i<j→R v l[j]):(l.set i v).Pairwise R:=by grind[List.pairwise_iff_getElem]
def qH {α:Type}{l:List α}{i v x}(h:x∈l.set i v):x=v∨∃j,∃hj,j≠i∧x=l[j]:=by grind[List.mem_iff_getElem]
section
variable{w0 w w':World}{row:Option Nat}{l:List MB}{rs:List MR}
def Mem.start w:Mem w none w [] []:=⟨abl _ _,ae,ae,List.Pairwise.nil,ae,ae,List.Pairwise.nil,ae⟩
def Mem.lC {w g t cs}(h:aM w g t cs):Mem w (some g) w [(g,t,cs)] []:=⟨abl _ _,ai,ae,List.pairwise_singleton _ _,ae,ae,List.Pairwise.nil,fun g' e=>by injection e with e;subst e;exact h.lt⟩
def Mem.below(h:Mem w0 none w l rs):Below w0.heap.size w0 w:=⟨h.grown.os,h.grown.tape,h.grown.output,h.grown.size,fun i hi=>h.grown.block i hi ae⟩
def Mem.at_(h:Mem w0 row w l rs){i g:Nat}{t cs}(hi:l[i]?=some (g,t,cs)):aM w g t cs:=h.pC _ (aT hi)
def Mem.ij(h:Mem w0 row w l rs){i:Nat}{v e sz n xs}(hi:rs[i]?=some (v,e,sz,n,xs)):w.ownsRow w0.heap.size e sz v n xs:=h.rows _ (aT hi)
def Mem.Ar(h:Mem w0 row w l rs)t cs:Mem w0 row (w.alloc (.cells cs t)) ((w.heap.size,t,cs)::l) rs:=by refine⟨zg h.grown _,?_,?_,?_,fun x hx=>(h.rows x hx).alloc _,?_,h.oX,h.CB⟩;intro x hx;rcases aO.1 hx with rfl|hx;exact aM.new w t cs;exact(h.pC x hx).alloc _;intro x hx;rcases aO.1 hx with rfl|hx;exact .inl h.grown.size;exact h.own x hx;refine cf.2 ⟨fun x hx=>?_,h.apart⟩;have:=(h.pC x hx).lt;omega;intro x hx y hy;rcases aO.1 hy with rfl|hy;intro e;have:=((h.rows x hx).lt _ e).2;omega;exact h.kR x hx y hy
def Mem.step(h:Mem w0 row w l rs)(hb:Below w.heap.size w w'):Mem w0 row w' l rs:=⟨jq h.grown (pR hb _),fun x hx=>(h.pC x hx).step hb,h.own,h.apart,fun x hx=>(h.rows x hx).kept (row:=none) ⟨hb.os,hb.tape,hb.output,hb.size,fun k hk _=>hb.block k hk⟩ ai,h.kR,h.oX,h.CB⟩
def Mem.drewN(h:Mem w0 row w l rs)n:Mem w0 row (w.drewN n) l rs:=⟨⟨h.grown.os,h.grown.tape,h.grown.output,h.grown.size,h.grown.block⟩,h.pC,h.own,h.apart,h.rows,h.kR,h.oX,h.CB⟩
def Mem.drew(h:Mem w0 row w l rs):Mem w0 row w.drew l rs:=h.drewN 1
def Mem.oJ(h:Mem w0 row w l rs)(i:Nat){g t cs cs'}(hi:l[i]?=some (g,t,cs))(hb:aM w' g t cs')(hg:w.grownBy w' (some g)):Mem w0 row w' (l.set i (g,t,cs')) rs:=by have Ui:=aT hi;have eo:i<l.length:=(bf.1 hi).1;have ail:l[i]=(g,t,cs):=(bf.1 hi).2;have ho:=h.own _ Ui;have hp:=gG.1 h.apart;have TQ:∀j(hj:j<l.length),j≠i→l[j].1≠g:=ai;refine⟨⟨hg.os.trans h.grown.os,hg.tape.trans h.grown.tape,hg.output.trans h.grown.output,aC h.grown.size hg.size,fun k hk gQ=>?_⟩,?_,?_,?_,?_,?_,h.oX,h.CB⟩;refine(hg.block k (bi hk h.grown.size) ?_).trans (h.grown.block k hk gQ);grind;intro x hx;rcases qH hx with rfl|⟨j,hj,gQ,rfl⟩;omega;exact(h.pC _ (bH hj)).grown hg ai;intro x hx;rcases qH hx with rfl|⟨j,hj,gQ,rfl⟩;omega;exact h.own _ (bH hj);refine akr h.apart i _ eo (fun j hj yY=>TQ j hj ab) (fun j hj hij=>fun e=>TQ j hj ab e.symm);intro x hx;exact(h.rows x hx).kept hg (.inr (h.kR x hx _ Ui));intro x hx y hy;rcases qH hy with rfl|⟨j,hj,gQ,rfl⟩;exact h.kR x hx (g,t,cs) Ui;exact h.kR x hx _ (bH hj)
def Mem.yM(h:Mem w0 row w l rs)(i:Nat){v v' e sz n n' xs xs'}(hi:rs[i]?=some (v,e,sz,n,xs))(hr:w'.ownsRow w0.heap.size e sz v' n' xs')(hg:w.grownBy w' v.ownBlock)(hv:v'.ownBlock=v.ownBlock∨v'.ownBlock=none∨∃g,v'.ownBlock=some g∧w.heap.size≤g):Mem w0 row w' l (rs.set i (v',e,sz,n',xs')):=by
 have Ui:=aT hi;have eo:i<rs.length:=(bf.1 hi).1;have ail:rs[i]=(v,e,sz,n,xs):=(bf.1 hi).2;have hp:=gG.1 h.oX;have adL:∀j(hj:j<rs.length),j≠i→rs[j].1.ownBlock=none∨rs[j].1.ownBlock≠v.ownBlock:=ai;have Pb:∀u:Value,(∃k,u.ownBlock=some k∧k<w.heap.size∧u.ownBlock≠v.ownBlock)→v'.ownBlock≠u.ownBlock:=ai;refine⟨⟨hg.os.trans h.grown.os,hg.tape.trans h.grown.tape,hg.output.trans h.grown.output,aC h.grown.size hg.size,fun k hk gQ=>?_⟩,?_,h.own,h.apart,?_,?_,?_,h.CB⟩;refine(hg.block k (bi hk h.grown.size) ?_).trans (h.grown.block k hk gQ);intro e;have:=((h.rows _ Ui).lt k e.symm).1;omega;intro x hx;exact(h.pC x hx).grown hg (fun e=>h.kR _ Ui x hx e.symm);intro x hx;rcases qH hx with rfl|⟨j,hj,gQ,rfl⟩;omega;exact(h.rows _ (bH hj)).kept hg (adL j hj gQ);intro x hx y hy;rcases qH hx with rfl|⟨j,hj,gQ,rfl⟩;have h1:=h.kR _ Ui y hy;have h2:=(h.pC y hy).lt;grind;exact h.kR _ (bH hj) y hy;refine akr h.oX i _ eo (fun j hj yY=>?_) (fun j hj hij=>?_);rcases adL j hj ab with h1|h1;grind;cases h2:rs[j].1.ownBlock with|none=>simp|some k=>exact .inr fun e=>Pb rs[j].1 ⟨k,h2,((h.rows _ (bH hj)).lt k h2).2,h1⟩ ai
 show v'.ownBlock=none∨_;rcases adL j hj ab with h1|h1;grind;cases h2:rs[j].1.ownBlock with|none=>grind|some k=>rw[←h2];exact .inr (Pb rs[j].1 ⟨k,h2,((h.rows _ (bH hj)).lt k h2).2,h1⟩)
def Mem.akn(h:Mem w0 row w l rs){v e sz n xs B}(hr:w.ownsRow B e sz v n xs)(hB:w0.heap.size≤B)(hl:∀y∈l,y.1<B)(hs:∀x∈rs,∀k,x.1.ownBlock=some k→k<B):Mem w0 row w l ((v,e,sz,n,xs)::rs):=by have vq:∀k,v.ownBlock=some k→B≤k:=fun k hk=>(hr.lt k hk).1;refine⟨h.grown,h.pC,h.own,h.apart,?_,?_,?_,h.CB⟩;intro x hx;rcases aO.1 hx with rfl|hx;refine⟨hr.1,?_⟩;rcases hr.2 with h1|⟨g,cap,cur,h1,h2,h3⟩;grind;exact .inr ⟨g,cap,cur,h1,aC hB h2,h3⟩;exact h.rows x hx;intro x hx y hy;rcases aO.1 hx with rfl|hx;grind;exact h.kR x hx y hy;refine cf.2 ⟨fun x hx=>?_,h.oX⟩;cases h1:v.ownBlock with|none=>simp|some k=>grind
def Mem.ii(h:Mem w0 row w l rs)(hb:Below w.heap.size w w'){v e sz n xs}(hr:w'.ownsRow w.heap.size e sz v n xs):Mem w0 row w' l ((v,e,sz,n,xs)::rs):=(h.step hb).akn hr h.grown.size (fun y hy=>(h.pC y hy).lt) (fun x hx k hk=>((h.rows x hx).lt k hk).2)
def Mem.agG(h:Mem w0 row w l rs)(hb:Below w.heap.size w w'){g t cs}(hB:aM w' g t cs)(hg:w.heap.size≤g):Mem w0 row w' ((g,t,cs)::l) rs:=by have h':=h.step hb;refine⟨h'.grown,?_,?_,cf.2 ⟨fun x hx=>?_,h'.apart⟩,h'.rows,?_,h'.oX,h'.CB⟩;intro x hx;rcases aO.1 hx with rfl|hx;omega;exact h'.pC x hx;intro x hx;rcases aO.1 hx with rfl|hx;exact .inl (aC h.grown.size hg);exact h'.own x hx;have:=(h.pC x hx).lt;omega;intro x hx y hy;rcases aO.1 hy with rfl|hy;intro e;have:=((h.rows x hx).lt _ e).2;omega;exact h'.kR x hx y hy
def Mem.iN(h:Mem w0 row w l rs)e sz:Mem w0 row w l ((.slice none 0 0,e,sz,0,[])::rs):=by refine⟨h.grown,h.pC,h.own,h.apart,?_,?_,cf.2 ⟨fun x hx=>.inl rfl,h.oX⟩,h.CB⟩;intro x hx;rcases aO.1 hx with rfl|hx;simp[dy];exact h.rows x hx;intro x hx y hy;rcases aO.1 hx with rfl|hx;simp[Value.ownBlock];exact h.kR x hx y hy
def Mem.wC(h:Mem w0 row w l rs){p v}(hc:w0.cell? p=some v)(gQ:some p.block≠row):w.cell? p=some v:=h.grown.cell hc gQ
def Mem.less(h:Mem w0 row w l rs){l' uR}(hl:l'.Sublist l)(hr:uR.Sublist rs):Mem w0 row w l' uR:=⟨h.grown,fun x hx=>h.pC x (hl.subset hx),fun x hx=>h.own x (hl.subset hx),h.apart.sublist hl,fun x hx=>h.rows x (hr.subset hx),fun x hx y hy=>h.kR x (hr.subset hx) y (hl.subset hy),h.oX.sublist hr,h.CB⟩
end
def wpList_want {P ops rest op a w Q}(eF:Region.wanted op (yielded ops a.tmps)=true)(h:∀K,(∀a w,wpList P ops Q rest a w→K a w)→op.wp P a w K Q):wpList P ops Q (op::rest) a w:=wpList_step fun K hK=>ai
def wL(cs:Array Value):cs.extract 0 (0+cs.size)=cs:=ae
section
variable{P:Program}{ops:Array Oper}{rest:List Oper}{op:Oper}{a:Act}{w0 w:World}{K:Act→World→Prop}{Q:Exit→Act→World→Prop}{row:Option Nat}{l:List MB}{rs:List MR}
def uq {w' v}(lu:(execOp a.eval op).run P w=.ok (.value v) w')(h:K (a.put op.dst v) w'):op.wp P a w K Q:=by unfold Oper.wp;rw[lu,qt];exact h
def aX {α:Type}{x}{l:List α}:(x::l)[0]?=some x:=rfl
def eQ {α:Type}{a x}{l:List α}:(a::x::l)[1]?=some x:=rfl
def fw {α:Type}{a b x}{l:List α}:(a::b::x::l)[2]?=some x:=rfl
def rx {α:Type}{a b c x}{l:List α}:(a::b::c::x::l)[3]?=some x:=rfl
def Bu {α:Type}{a b c d x}{l:List α}:(a::b::c::d::x::l)[4]?=some x:=rfl
def yF {α:Type}{a b c d e x}{l:List α}:(a::b::c::d::e::x::l)[5]?=some x:=rfl
def Ct {α:Type}{a b c d e f x}{l:List α}:(a::b::c::d::e::f::x::l)[6]?=some x:=rfl
def at7 {α:Type}{a b c d e f g x}{l:List α}:(a::b::c::d::e::f::g::x::l)[7]?=some x:=rfl
def at8 {α:Type}{a b c d e f g h x}{l:List α}:(a::b::c::d::e::f::g::h::x::l)[8]?=some x:=rfl
def at9 {α:Type}{a b c d e f g h i x}{l:List α}:(a::b::c::d::e::f::g::h::i::x::l)[9]?=some x:=rfl
def ZE(hM:Mem w0 row w l rs)d(hd:op.dst=d)t(ho:op.op=.alloc t){z}(hz:∀w,(zeroValue t).run P w=.ok z w)(h:∀g w',Mem w0 row w' ((g,t,z.cells)::l) rs→K (a.put d (aG g)) w'):op.wp P a w K Q:=by subst hd;refine SH ?_;simp only[ho,Instr.alloc,dw,hz,bT,newVar,newRow,gW];rfl
def afg(hM:Mem w0 row w l rs)d(hd:op.dst=d)t x(ho:op.op=.box t x){v}(hx:a.eval x=v)(h:∀g w',Mem w0 row w' ((g,t,v.cells)::l) rs→K (a.put d (aG g)) w'):op.wp P a w K Q:=by subst hd hx;refine SG ?_;simp only[ho,Instr.box,dw,newVar,newRow,gW];rfl
def uA {w ty p v}(hA:∀w,(isAgg ty).run P w=.ok false w)(hc:w.cell? p=some v):(Instr.loadAt ty (.pointer (some p))).run P w=.ok v w:=by simp only[Instr.loadAt,Instr.sureAddr,dw,gW,bT,loadVar,hA];simp_all
def jr {w ty x p v}(ho:op.op=.load ty x)(hx:a.eval x=.pointer (some p))(hr:(Instr.loadAt ty (.pointer (some p))).run P w=.ok v w):(execOp a.eval op).run P w=.ok (.value v) w:=CZ
def acx(hM:Mem w0 row w l rs)d(hd:op.dst=d)ty x(ho:op.op=.load ty x)(hA:∀w,(isAgg ty).run P w=.ok false w){g o}(hx:a.eval x=.pointer (some (aD g o)))(i:Nat){t cs}(hi:l[i]?=some (g,t,cs)){v}(hv:cs[o]?=some v)(h:K (a.put d v) w):op.wp P a w K Q:=by subst hd;exact uq (jr ho hx (uA (P:=P) hA (((hM.at_ hi).cell o).trans hv))) h
def acy(hM:Mem w0 row w l rs)d(hd:op.dst=d)ty x(ho:op.op=.load ty x)(hA:∀w,(isAgg ty).run P w=.ok false w){p}(hx:a.eval x=.pointer (some p)){v}(hc:w0.cell? p=some v)(gQ:some p.block≠row)(h:K (a.put d v) w):op.wp P a w K Q:=by subst hd;exact uq (jr ho hx (uA (P:=P) hA (hM.wC hc gQ))) h
def ZB(hM:Mem w0 row w l rs)d(hd:op.dst=d)ty x(ho:op.op=.load ty x){g o}(hx:a.eval x=.pointer (some (aD g o)))(i:Nat){t cs}(hi:l[i]?=some (g,t,cs)){vs}(hv:cs.extract o (o+vs.size)=vs){D}(hu:P.underlying ty=some D)(hD:D.isRow=true)(hs:(P.info? ty).map (·.size)=some vs.size)(h:K (a.put d (.agg vs)) w):op.wp P a w K Q:=by subst hd;exact uq (jr ho hx (run_loadAt_mid w g o ty vs.toList D ((hM.at_ hi).range hv) hu hD ab)) gT
def ZC(hM:Mem w0 row w l rs)d(hd:op.dst=d)ty x(ho:op.op=.load ty x){g}(hx:a.eval x=aG g)(i:Nat){t cs}(hi:l[i]?=some (g,t,cs)){D}(hu:P.underlying ty=some D)(hD:D.isRow=true)(hs:(P.info? ty).map (·.size)=some cs.size)(h:K (a.put d (.agg cs)) w):op.wp P a w K Q:=ZB hM d hd ty x ho hx i hi (wL cs) hu hD hs h
def ZD(hM:Mem w0 row w l rs)d(hd:op.dst=d)ty x(ho:op.op=.load ty x){g o}(hx:a.eval x=.pointer (some (aD g o))){vs}(hv:w0.rangeAt g o vs.toList)(gQ:some g≠row){D}(hu:P.underlying ty=some D)(hD:D.isRow=true)(hs:(P.info? ty).map (·.size)=some vs.size)(h:K (a.put d (.agg vs)) w):op.wp P a w K Q:=by subst hd;exact uq (jr ho hx (run_loadAt_mid w g o ty vs.toList D (fun j v hj=>hM.wC (hv j v hj) gQ) hu hD ab)) gT
def Rq(hM:Mem w0 row w l rs)ty x y(ho:op.op=.store ty x y)(hS:∀w,(sizeOf ty).run P w=.ok 1 w){g o}(hx:a.eval x=.pointer (some (aD g o))){v}(hy:a.eval y=v)(hc:v.cells=#[v])(i:Nat){t cs}(hi:l[i]?=some (g,t,cs))(hl:o<cs.size)(h1:v.oneCell'=true)(h:∀w',Mem w0 row w' (l.set i (g,t,cs.setIfInBounds o v)) rs→K (a.put op.dst undef) w'):op.wp P a w K Q:=by
 have hb:=hM.at_ hi;have fd:(w.cell? (aD g o)).isSome=true:=by rw[hb.cell,fk hl];rfl
 have lu:(storeVar ty (aD g o) v).run P w=.ok () (w.setCell (aD g o) v):=by
  have:=run_storeCells_cells (P:=P) g o [v] 0 w (fun j hj=>ai) (fun j hj=>by
   have:j=0:=by grind
   subst this;simpa using hb.frozen o) (fun u hu=>ai)
  simp only[im]at this;simp only[storeVar,dw,hS,bT,hc];exact aj
 unfold Oper.wp execOp;simp only[ho,hx,hy,Instr.storeAt,Instr.sureAddr,dw,gW,bT,lu];exact h _ (hM.oJ i hi (hb.dq o v) (ja w g o v))
def FZ(hM:Mem w0 row w l rs)ty x y(ho:op.op=.store ty x y){g o}(hx:a.eval x=.pointer (some (aD g o))){vs}(hy:a.eval y=.agg vs)(i:Nat){t cs}(hi:l[i]?=some (g,t,cs))(hl:o+vs.size≤cs.size)(hs:(P.info? ty).map (·.size)=some vs.size)(h1:vs.all (·.oneCell')=true)(h:∀w',Mem w0 row w' (l.set i (g,t,mT cs o vs)) rs→K (a.put op.dst undef) w'):op.wp P a w K Q:=by have hb:=hM.at_ hi;exact wp_store_mid ty x y ho g o vs hx hy (hb.there o vs.size hl) hs h1 (h _ (hM.oJ i hi (by simpa using aM.setCells vs.toList o w cs hb ab) (DQ _ _ _)))
def acw(hM:Mem w0 row w l rs)ty x y(ho:op.op=.store ty x y){g}(hx:a.eval x=aG g){vs}(hy:a.eval y=.agg vs)(i:Nat){t cs}(hi:l[i]?=some (g,t,cs))(hl:vs.size=cs.size)(hs:(P.info? ty).map (·.size)=some vs.size)(h1:vs.all (·.oneCell')=true)(h:∀w',Mem w0 row w' (l.set i (g,t,vs)) rs→K (a.put op.dst undef) w'):op.wp P a w K Q:=FZ hM ty x y ho hx hy i hi ab hs h1 (by rw[VQ hl];exact h)
end
section
variable{P:Program}{ops:Array Oper}{rest:List Oper}{op:Oper}{a:Act}{w0 w:World}{Q:Exit→Act→World→Prop}{row:Option Nat}{l:List MB}{rs:List MR}
def th(hM:Mem w0 row w l rs)(eF:Region.wanted op (yielded ops a.tmps)=true)d(hd:op.dst=d)t(ho:op.op=.alloc t){z}(hz:∀w,(zeroValue t).run P w=.ok z w)(h:∀g w',Mem w0 row w' ((g,t,z.cells)::l) rs→wpList P ops Q rest (a.put d (aG g)) w'):wpList P ops Q (op::rest) a w:=wpList_want eF fun K hK=>ZE hM d hd t ho hz (fun g w' hm=>hK _ _ (h g w' hm))
def GC(hM:Mem w0 row w l rs)(eF:Region.wanted op (yielded ops a.tmps)=true)d(hd:op.dst=d)t x(ho:op.op=.box t x){v}(hx:a.eval x=v)(h:∀g w',Mem w0 row w' ((g,t,v.cells)::l) rs→wpList P ops Q rest (a.put d (aG g)) w'):wpList P ops Q (op::rest) a w:=wpList_want eF fun K hK=>afg hM d hd t x ho hx (fun g w' hm=>hK _ _ (h g w' hm))
def mK(hM:Mem w0 row w l rs)(eF:Region.wanted op (yielded ops a.tmps)=true)d(hd:op.dst=d)ty x(ho:op.op=.load ty x)(hA:∀w,(isAgg ty).run P w=.ok false w){g o}(hx:a.eval x=.pointer (some (aD g o)))(i:Nat){t cs}(hi:l[i]?=some (g,t,cs)){v}(hv:cs[o]?=some v)(h:wpList P ops Q rest (a.put d v) w):wpList P ops Q (op::rest) a w:=wpList_want eF fun K hK=>acx hM d hd ty x ho hA hx i hi hv (hK _ _ h)
def ld(hM:Mem w0 row w l rs)(eF:Region.wanted op (yielded ops a.tmps)=true)d(hd:op.dst=d)ty x(ho:op.op=.load ty x)(hA:∀w,(isAgg ty).run P w=.ok false w){p}(hx:a.eval x=.pointer (some p)){v}(hc:w0.cell? p=some v)(gQ:some p.block≠row)(h:wpList P ops Q rest (a.put d v) w):wpList P ops Q (op::rest) a w:=wpList_want eF fun K hK=>acy hM d hd ty x ho hA hx hc gQ (hK _ _ h)
def tj(hM:Mem w0 row w l rs)(eF:Region.wanted op (yielded ops a.tmps)=true)d(hd:op.dst=d)ty x(ho:op.op=.load ty x){g}(hx:a.eval x=aG g)(i:Nat){t cs}(hi:l[i]?=some (g,t,cs)){D}(hu:P.underlying ty=some D)(hD:D.isRow=true)(hs:(P.info? ty).map (·.size)=some cs.size)(h:wpList P ops Q rest (a.put d (.agg cs)) w):wpList P ops Q (op::rest) a w:=wpList_want eF fun K hK=>ZC hM d hd ty x ho hx i hi hu hD hs (hK _ _ h)
def fY(hM:Mem w0 row w l rs)(eF:Region.wanted op (yielded ops a.tmps)=true)d(hd:op.dst=d)ty x(ho:op.op=.load ty x){g o}(hx:a.eval x=.pointer (some (aD g o))){vs}(hv:w0.rangeAt g o vs.toList)(gQ:some g≠row){D}(hu:P.underlying ty=some D)(hD:D.isRow=true)(hs:(P.info? ty).map (·.size)=some vs.size)(h:wpList P ops Q rest (a.put d (.agg vs)) w):wpList P ops Q (op::rest) a w:=wpList_want eF fun K hK=>ZD hM d hd ty x ho hx hv gQ hu hD hs (hK _ _ h)
def sE(hM:Mem w0 row w l rs)(eF:Region.wanted op (yielded ops a.tmps)=true)ty x y(ho:op.op=.store ty x y)(hS:∀w,(sizeOf ty).run P w=.ok 1 w){g o}(hx:a.eval x=.pointer (some (aD g o))){v}(hy:a.eval y=v)(hc:v.cells=#[v])(i:Nat){t cs}(hi:l[i]?=some (g,t,cs))(hl:o<cs.size)(h1:v.oneCell'=true)(h:∀w',Mem w0 row w' (l.set i (g,t,cs.setIfInBounds o v)) rs→wpList P ops Q rest (a.put op.dst undef) w'):wpList P ops Q (op::rest) a w:=wpList_want eF fun K hK=>Rq hM ty x y ho hS hx hy hc i hi hl h1 (fun w' hm=>hK _ _ (h w' hm))
def mL(hM:Mem w0 row w l rs)(eF:Region.wanted op (yielded ops a.tmps)=true)ty x y(ho:op.op=.store ty x y){g}(hx:a.eval x=aG g){vs}(hy:a.eval y=.agg vs)(i:Nat){t cs}(hi:l[i]?=some (g,t,cs))(hl:vs.size=cs.size)(hs:(P.info? ty).map (·.size)=some vs.size)(h1:vs.all (·.oneCell')=true)(h:∀w',Mem w0 row w' (l.set i (g,t,vs)) rs→wpList P ops Q rest (a.put op.dst undef) w'):wpList P ops Q (op::rest) a w:=wpList_want eF fun K hK=>acw hM ty x y ho hx hy i hi hl hs h1 (fun w' hm=>hK _ _ (h w' hm))
end
def abf {sz}:∀(vs:List Value)(k)(z),(∀v∈vs,v.cells.size=sz)→(k+vs.length)*sz≤z.size→Instr.fill (fun i=>some (i*sz,sz)) z ((vs.zipIdx k).map fun x=>(x.2,x.1))=some (z.toList.take (k*sz)++(vs.flatMap (·.cells.toList)++z.toList.drop ((k+vs.length)*sz))).toArray:=by
 intro vs;induction vs with|nil=>intro k z _ hz;simp[Instr.fill]|cons v r ih=>
  intro k z hv hz;have h1:v.cells.size=sz:=hv v (aV ..);have hz':(k+1+r.length)*sz≤z.size:=ai;have hle:k*sz+sz≤z.size:=ai;rw[zJ,ji,VR _ z k v _ (k*sz) ai ab,ih (k+1) _ (fun x hx=>hv x (bQ _ hx)) (by grind[iI])];congr 2;have Nw:(z.toList.take (k*sz)).length=k*sz:=ai;have ML:(z.toList.take (k*sz)++v.cells.toList).length=(k+1)*sz:=ai;have e:(mT z (k*sz) v.cells).toList=(z.toList.take (k*sz)++v.cells.toList)++z.toList.drop ((k+1)*sz):=by grind[mT]
  rw[e,qw ML,ig,bG];simp only[bz];congr 3;rw[show k+(r.length+1)=k+1+r.length from ab];have hd:(k+1+r.length)*sz=(k+1)*sz+r.length*sz:=ai;rw[hd,←bz,←mB,qv ML,mB]
section
variable{P:Program}{ops:Array Oper}{rest:List Oper}{op:Oper}{a:Act}{w0 w:World}{K:Act→World→Prop}{Q:Exit→Act→World→Prop}{row:Option Nat}{l:List MB}{rs:List MR}
def By(hM:Mem w0 row w l rs)d(hd:op.dst=d)t e len parts(ho:op.op=.buildSlice t len parts)(hu:P.underlying t=some (.slice e)){z sz bytes}(pK:(P.info? e).map (fun i=>(i.zero,i.size,i.bytes))=some (some z,sz,bytes))(vs:List Value)(hvs:(parts.map fun(i,x)=>(i,a.eval x)).toList=(vs.zipIdx 0).map fun x=>(x.2,x.1))(hlen:vs.length=len)(nR:∀v∈vs,v.cells.size=sz)(ER:len*sz≤1000000)(qZ:0<len*sz)(h:∀g w',Mem w0 row w' ((g,e,(vs.flatMap (·.cells.toList)).toArray)::l) rs→K (a.put d (.slice (some (aD g 0)) len len)) w'):op.wp P a w K Q:=by subst hd;obtain⟨i,hi,h1,h2,h3⟩:=el pK;refine wp_buildSlice t e len parts ho (vs.flatMap (·.cells.toList)).toArray i z hu hi h1 ai ai ?_ (h _ _ (hM.Ar _ _));simp_all[abf]
def GL(hM:Mem w0 row w l rs)d(hd:op.dst=d)t e x0(ho:op.op=.buildSlice t 1 #[(0,x0)])(hu:P.underlying t=some (.slice e)){z sz bytes}(pK:(P.info? e).map (fun i=>(i.zero,i.size,i.bytes))=some (some z,sz,bytes)){v0}(hx0:a.eval x0=v0)(hs0:v0.cells.size=sz)(ER:1*sz≤1000000)(qZ:0<1*sz)(h:∀g w',Mem w0 row w' ((g,e,v0.cells)::l) rs→K (a.put d (.slice (some (aD g 0)) 1 1)) w'):op.wp P a w K Q:=By hM d hd t e 1 _ ho hu pK [v0] ai rfl ai ER qZ (fun g w' hm=>h g w' uj)
def IE(hM:Mem w0 row w l rs)d(hd:op.dst=d)s x t(ho:op.op=.call {callee:=.builtin .append,args:=#[s,x],argTypes:=#[t,t]})e {z sz bytes}(ht:P.underlying t=some (.slice e))(pK:(P.info? e).map (fun i=>(i.zero,i.size,i.bytes))=some (some z,sz,bytes))(hz:z.cells.size=sz)(qZ:0<sz)(j:Nat){v n xs}(hj:rs[j]?=some (v,e,sz,n,xs))(hs:a.eval s=v){gb m c}(hx:a.eval x=.slice (some (aD gb 0)) m c)(k:Nat){tb news}(hk:l[k]?=some (gb,tb,news))(hl:news.size=m*sz)(h1:news.all (·.oneCell')=true)(hm:0<m)(Cu:n+m≤maxLen)(rI:(n+m)*bytes≤140737488355328)(h:∀g cap w',Mem w0 row w' l (rs.set j (.slice (some (aD g 0)) (n+m) cap,e,sz,n+m,xs++news.toList))→K (a.put d (.slice (some (aD g 0)) (n+m) cap)) w'):op.wp P a w K Q:=by subst hd;obtain⟨i,hi,yU,yk,Rc⟩:=el pK;have hb:=hM.at_ hk;refine wp_append_lies w s x t ho w0.heap.size e i z sz bytes ht hi yU yk Rc hz qZ v n xs hs (hM.ij hj) (aD gb 0) m c news.toList hx ab (fun q u hu=>?_) (fun u hu=>(eK.1 h1) u ai) hm Cu rI hM.grown.size w.heap.size rfl (fun g cap w' hr hg hv _=>h g cap w' (hM.yM j hj hr hg (by rcases hv with hv|hv;exact .inl (by rw[hv];rfl);exact .inr (.inr ⟨g,rfl,ab⟩))));rw[Addr.add_mid,cK,hb.cell];grind
def LA(hM:Mem w0 row w l rs)d(hd:op.dst=d)ty x(ho:op.op=.load ty x)(hA:∀w,(isAgg ty).run P w=.ok false w){g o}(hx:a.eval x=.pointer (some (aD g o)))(i:Nat){e sz n cap m xs}(hi:rs[i]?=some (.slice (some (aD g 0)) m cap,e,sz,n,xs)){v}(hv:xs[o]?=some v)(h:K (a.put d v) w):op.wp P a w K Q:=by subst hd;have hc:=(hM.ij hi).cells (g:=g) rfl o v hv;rw[Addr.add_mid,cK]at hc;exact uq (jr ho hx (uA (P:=P) hA hc)) h
def Ef d(hd:op.dst=d)t(ps:List (Nat×Operand))(ho:op.op=.build t ps.toArray){cs}(hb:P.built t (ps.map fun x=>(x.1,a.eval x.2))=some cs)(h:K (a.put d (.agg cs)) w):op.wp P a w K Q:=by subst hd;have yr:P.built t (ps.toArray.map fun(i,x)=>(i,a.eval x)).toList=some cs:=ai;exact wp_build t ps.toArray ho ai (by rw[yr];exact h)
end
section
variable{P:Program}{ops:Array Oper}{rest:List Oper}{op:Oper}{a:Act}{w0 w:World}{Q:Exit→Act→World→Prop}{row:Option Nat}{l:List MB}{rs:List MR}
def Cx(hM:Mem w0 row w l rs)(eF:Region.wanted op (yielded ops a.tmps)=true)d(hd:op.dst=d)ty x(ho:op.op=.load ty x)(hA:∀w,(isAgg ty).run P w=.ok false w){g o}(hx:a.eval x=.pointer (some (aD g o)))(i:Nat){e sz n cap m xs}(hi:rs[i]?=some (.slice (some (aD g 0)) m cap,e,sz,n,xs)){v}(hv:xs[o]?=some v)(h:wpList P ops Q rest (a.put d v) w):wpList P ops Q (op::rest) a w:=wpList_want eF fun K hK=>LA hM d hd ty x ho hA hx i hi hv (hK _ _ h)
def Kr(hM:Mem w0 row w l rs)(eF:Region.wanted op (yielded ops a.tmps)=true)d(hd:op.dst=d)t e x0(ho:op.op=.buildSlice t 1 #[(0,x0)])(hu:P.underlying t=some (.slice e)){z sz bytes}(pK:(P.info? e).map (fun i=>(i.zero,i.size,i.bytes))=some (some z,sz,bytes)){v0}(hx0:a.eval x0=v0)(hs0:v0.cells.size=sz)(ER:1*sz≤1000000)(qZ:0<1*sz)(h:∀g w',Mem w0 row w' ((g,e,v0.cells)::l) rs→wpList P ops Q rest (a.put d (.slice (some (aD g 0)) 1 1)) w'):wpList P ops Q (op::rest) a w:=wpList_want eF fun K hK=>GL hM d hd t e x0 ho hu pK hx0 hs0 ER qZ (fun g w' hm=>hK _ _ (h g w' hm))
end
abbrev xU:=Lib.compareBytes
abbrev Ni:=List UInt8×List UInt8
theorem GA : ∀ a, xU a a = 0
  | [] => rfl
  | a :: l => by
    show Lib.compareBytes (a :: l) (a :: l) = 0
    unfold Lib.compareBytes
    have h : ¬ a < a := by simp []
    simp only [if_neg h]
    exact GA l
theorem IX : ∀ a b, xU a b = -1 ∨ xU a b = 0 ∨ xU a b = 1
  | [], [] => .inr (.inl rfl)
  | [], _ :: _ => .inl rfl
  | _ :: _, [] => .inr (.inr rfl)
  | a :: l, b :: m => by
    show Lib.compareBytes (a :: l) (b :: m) = -1 ∨ _
    unfold xU Lib.compareBytes
    split
    · exact .inl rfl
    · split
      · exact .inr (.inr rfl)
      · exact IX l m
theorem Yi : ∀ {a b}, xU a b = 0 → a = b
  | [], [], _ => rfl
  | [], _ :: _, h => Dp
  | _ :: _, [], h => Dp
  | a :: l, b :: m, h => by
    unfold xU Lib.compareBytes at h
    split at h
    · cases h
    · split at h
      · cases h
      · rename_i h1 h2
        have e : a = b := by
          rw [pi] at h1 h2
          exact UInt8.toNat.inj ab
        rw [e, Yi h]
theorem WG : ∀ a b, xU b a = - xU a b
  | [], [] => rfl
  | [], _ :: _ => rfl
  | _ :: _, [] => rfl
  | a :: l, b :: m => by
    unfold xU Lib.compareBytes
    by_cases h1 : a < b
    · have h2 : ¬ b < a := by rw [pi] at *; omega
      rw [if_pos h1, if_neg h2, if_pos h1]; rfl
    · by_cases h2 : b < a
      · simp only [if_neg h1, if_pos h2]
      · simp only [if_neg h1, if_neg h2]
        exact WG l m
theorem zU : ∀ {a b c}, xU a b = -1 → xU b c = -1 → xU a c = -1
  | [], [], _, h, _ => ab
  | [], _ :: _, [], _, h => Dp
  | [], _ :: _, _ :: _, _, _ => rfl
  | _ :: _, [], _, h, _ => Dp
  | _ :: _, _ :: _, [], _, h => aj
  | a :: l, b :: m, c :: k, h1, h2 => by
    unfold xU Lib.compareBytes at h1 h2 ⊢
    simp only [pi] at h1 h2 ⊢
    by_cases x1 : a.toNat < b.toNat
    · omega
    · rw [if_neg x1] at h1
      by_cases x3 : b.toNat < a.toNat
      · omega
      · rw [if_neg x3] at h1
        by_cases x2 : b.toNat < c.toNat
        · rw [if_pos ab]
        · rw [if_neg x2] at h2
          by_cases x4 : c.toNat < b.toNat
          · omega
          · rw [if_neg x4] at h2
            rw [if_neg ab, if_neg ab]
            exact zU h1 h2
def Ec(a b:List UInt8):Bool:=decide (xU a b<0)
theorem yP {a b}:Ec a b=true↔xU a b=-1:=by unfold Ec;have:=IX a b;grind
def iC(d:List Ni):Prop:=∀i j(hi:i<d.length)(hj:j<d.length),i<j→Ec d[i].1 d[j].1=true
def sU(d:List Ni)(k:List UInt8):Nat:=(d.takeWhile fun x=>Ec x.1 k).length
def AG(d:List Ni)(k:List UInt8):Bool:=(d[sU d k]?.map (·.1))==some k
def getD(d:List Ni)(k:List UInt8):Option (List UInt8):=if AG d k=true then d[sU d k]?.map (·.2)else none
def Bf(d:List Ni)(k v:List UInt8):List Ni:=if AG d k=true then d.set (sU d k) (k,v)else d.take (sU d k)++(k,v)::d.drop (sU d k)
def nD(d:List Ni)(k v:List UInt8):Int:=if 400<k.length∨4000<v.length then 11 else if AG d k=true then 0 else if 2000≤d.length then 15 else 0
def rh(d:List Ni)(k:List UInt8):List Ni:=if AG d k=true then d.eraseIdx (sU d k)else d
def WB d k:sU d k≤d.length:=(List.takeWhile_sublist _).length_le
theorem WF {d k i}(h:i<sU d k)hi:Ec d[i].1 k=true:=by unfold sU at h;have h1:=List.takeWhile_prefix (p:=fun x:Ni=>Ec x.1 k) (l:=d);have h2:(d.takeWhile fun x=>Ec x.1 k)[i]=d[i]:=List.IsPrefix.getElem h1 h;have h3:(d.takeWhile fun x=>Ec x.1 k)[i]∈d.takeWhile fun x=>Ec x.1 k:=bH h;have h4:=List.all_takeWhile (p:=fun x:Ni=>Ec x.1 k) (l:=d);grind
theorem abd {d k}h:Ec d[sU d k].1 k=false:=by
 induction d with|nil=>grind|cons x d ih=>
  unfold sU at h⊢;rcases hx:Ec x.1 k with _|_;·simp_all
  ·simp only[List.takeWhile_cons,hx,if_true,bG]at h⊢;grind[sU]
theorem WE {d k}(hr:iC d){i}(h:sU d k≤i)hi:Ec d[i].1 k=false:=by
 have h0:=abd (d:=d) (k:=k) ab;rcases qR h with e|e;·grind
 ·have h1:=hr _ i ab hi e;grind[zU,yP]
def akl {d k}(hr:iC d){n}(hn:n≤d.length)(h1:∀i(hi),i<n→Ec d[i].1 k=true)(h2:∀i(hi),n≤i→Ec d[i].1 k=false):n=sU d k:=by
 rcases Nat.lt_trichotomy n (sU d k)with h|h|h;·have ha:=WB d k;have:=WF h ab;grind
 ·omega
 ·have:=WE hr (au (sU d k)) ab;grind
theorem wu {d k}:AG d k=true↔∃h,d[sU d k].1=k:=by grind[AG]
def arL {a b}(h1:Ec a b=false)(h2:a≠b):Ec b a=true:=by grind[yP,WG,IX,Yi]
theorem alN a:Ec a a=false:=by simp[Ec,GA]
def IW {d}:iC d↔d.Pairwise fun x y=>Ec x.1 y.1=true:=by simp[gG,iC]
def alL {d:List Ni}{k x}(h:x∈d.take (sU d k)):Ec x.1 k=true:=by grind[List.mem_iff_getElem,WF]
def alM {d k}(hr:iC d){x}(h:x∈d.drop (sU d k)):Ec x.1 k=false:=by grind[List.mem_iff_getElem,WE]
def aco {d k}(hr:iC d)(hn:AG d k=false){x}(h:x∈d.drop (sU d k)):Ec k x.1=true:=by
 have h0:=alM hr h;refine arL h0 fun e=>?_;obtain⟨i,hi,rfl⟩:=iW.1 h;rw[bV]at hi;rw[List.getElem_drop]at e;rcases dZ i with hz|hp;·grind[wu]
 ·have h1:=hr (sU d k) (sU d k+i) ab ab ab;grind[abd]
def iC.put {d}(hr:iC d)k v:iC (Bf d k v):=by
 unfold Bf;rcases h:AG d k with _|_
 ·rw[if_neg ae];rw[IW]at hr⊢;have hp:=hr;rw[←jI (sU d k) d,List.pairwise_append]at hp;rw[List.pairwise_append];refine⟨hp.1,cf.2 ⟨fun y hy=>aco (IW.2 hr) h hy,hp.2.1⟩,fun x hx y hy=>?_⟩;rcases aO.1 hy with rfl|hy;·exact alL hx
  grind
 ·rw[if_pos rfl];obtain⟨h1,h2⟩:=wu.1 h;have hk:∀i(hi:i<d.length),((d.set (sU d k) (k,v))[i]' ai).1=d[i].1:=ai;intro i j hi hj hij;rw[jP]at hi hj;rw[hk i hi,hk j hj];exact hr i j hi hj hij
def iC.drop {d}(hr:iC d)k:iC (rh d k):=by
 unfold rh;split;·rw[IW]at hr⊢;grind
 omega
def iC.nil:iC []:=by intro i j hi;simp
def zN {d}(hr:iC d){k v}:getD d k=some v↔(k,v)∈d:=by
 unfold getD;constructor;·grind[wu]
 ·intro h;obtain⟨i,hi,e⟩:=iW.1 h;have qK:i=sU d k:=by
   refine akl hr ab (fun j hj yY=>?_) (fun j hj hij=>?_);·have:=hr j i hj hi yY;grind
   ·rcases qR hij with e1|e1;·grind[alN]
    ·have h1:=hr i j hi hj e1;grind[zU,yP,GA]
  subst qK;simp_all[wu]
def Iz {d}(hr:iC d)k v:getD (Bf d k v) k=some v:=by rw[zN (hr.put k v)];grind[Bf,wu,List.mem_iff_getElem]
def Ud {d}(hr:iC d){k k' v}(gQ:k'≠k):getD (Bf d k v) k'=getD d k':=by
 have key:∀u,getD (Bf d k v) k'=some u↔getD d k'=some u:=by
  intro u;rw[zN (hr.put k v),zN hr];unfold Bf;split;·grind[wu,List.mem_iff_getElem]
  grind[List.take_append_drop]
 grind[getD]
def PE {d}(hr:iC d){k k'}(gQ:k'≠k):getD (rh d k) k'=getD d k':=by
 have key:∀u,getD (rh d k) k'=some u↔getD d k'=some u:=by
  intro u;rw[zN (hr.drop k),zN hr];unfold rh;split;·grind[wu,List.mem_iff_getElem,List.mem_eraseIdx_iff_getElem]
  rfl
 grind[getD]
theorem acn d k v:(Bf d k v).length=if AG d k=true then d.length else d.length+1:=by grind[Bf]
abbrev Bs:=List UInt8
abbrev ez:={l:Bz//l.length=32}
def iP:ez:=⟨List.replicate 32 0,ae⟩
def da(h:ez):Array Value:=(eY h.1).toArray
theorem rz l:(eY l).length=l.length:=by simp[eY]
theorem gS h:(da h).size=32:=by grind[da,rz]
theorem Fo L:∀v∈eY L,v.oneCell'=true:=JF
def Nd h:(da h).all (·.oneCell')=true:=all_oneCell_toArray (Fo _)
class Piece(cs:Array Value)(o:Nat)(vs:outParam (Array Value)):Prop where eq:cs.extract o (o+vs.size)=vs
def abQ l(b:List Value):(l++b).toArray.extract l.length (l.length+b.toArray.size)=b.toArray:=ae
structure qh where
  chain : Bs
  ay : Int
  time : Int
  root : ez
def il(h:qh):Array Value:=(([str h.chain,al h.ay,al h.time]:List Value)++eY h.root.1).toArray
theorem Xa h:(il h).size=35:=by grind[il,rz]
instance(h:qh):Piece (il h) 3 (da h.root):=⟨abQ [str h.chain,al h.ay,al h.time] _⟩
def ol:qh:=⟨[],0,0,iP⟩
structure jL where
  ay : Int
  time : Int
  root : ez
def iB(s:jL):Array Value:=(([al s.ay,al s.time]:List Value)++eY s.root.1).toArray
def Gs h:(iB h).size=34:=by grind[iB,rz]
def alE h:(iB h).all (·.oneCell')=true:=all_oneCell_toArray (by intro v hv;rcases cQ.1 hv with hv|hv;simp at hv;rcases hv with rfl|rfl<;>rfl;grind[Fo])
def akm h:(iB h)[0]?=some (al h.ay):=aq
def adH h:(iB h)[1]?=some (al h.time):=aq
instance(h:jL):Piece (iB h) 2 (da h.root):=⟨abQ [al h.ay,al h.time] _⟩
def lI:jL:=⟨0,0,iP⟩
structure qX where
  bM : Bs
  bK : W4
  src : Bs
  dst : Bs
structure kY where
  seq : Int
  source : Bs
  sink : Bs
  bj : qX
  ay : Int
  time : Int
def gF(c:qX):Array Value:=#[str c.bM,.int .u64 c.bK.a,.int .u64 c.bK.b,.int .u64 c.bK.c,.int .u64 c.bK.d,str c.src,str c.dst]
def eE(p:kY):Array Value:=#[al p.seq,str p.source,str p.sink,str p.bj.bM,.int .u64 p.bj.bK.a,.int .u64 p.bj.bK.b,.int .u64 p.bj.bK.c,.int .u64 p.bj.bK.d,str p.bj.src,str p.bj.dst,al p.ay,al p.time]
def zF(w:World)(v:Value)(sz n:Nat)(xs:List Value):Prop:=xs.length=n*sz∧n≤maxLen∧((v=.slice none 0 0∧n=0)∨∃g o cap,v=.slice (some (aD g o)) n cap∧n≤cap∧cap≤maxLen∧g<w.heap.size∧w.rangeAt g o xs)
section
variable{w w':World}{v:Value}{sz n:Nat}{xs:List Value}
def fJ {g o}(h:w.rangeAt g o xs)(hb:Below w.heap.size w w'):w'.rangeAt g o xs:=fun j u hj=>by have h1:=h j u hj;have:=ia w _ h1;rw[hb.cell (p:=(aD g (o+j))) this];omega
def zF.step(h:zF w v sz n xs)(hb:Below w.heap.size w w'):zF w' v sz n xs:=by refine⟨h.1,h.2.1,?_⟩;rcases h.2.2 with h1|⟨g,o,cap,h1,h2,h3,h4,h5⟩;grind;exact .inr ⟨g,o,cap,h1,h2,h3,bi h4 hb.size,fJ h5 hb⟩
def zF.nil w sz:zF w (.slice none 0 0) sz 0 []:=⟨ae,ae,.inl ⟨rfl,rfl⟩⟩
def zF.iz {B e}(h:w.ownsRow B e sz v n xs):zF w v sz n xs:=by
 refine⟨h.1,?_,?_⟩;·rcases h.2 with⟨_,h1⟩|⟨g,cap,cur,_,_,_,h4,h5,_⟩;all_goals omega
 rcases h.2 with h1|⟨g,cap,cur,h1,h2,h3,h4,h5,h6,h7⟩;grind;refine .inr ⟨g,0,cap,h1,h4,h5,(bL.1 h3).1,fun j u hj=>?_⟩;have:=h.cells (g:=g) (by rw[h1];rfl) j u hj;grind[Addr.add_mid]
def zF.piece {g o cap}(h:zF w (.slice (some (aD g o)) n cap) sz n xs){ys}i(hy:(xs.drop (i*sz)).take ys.length=ys):w.rangeAt g (o+i*sz) ys:=by rcases h.2.2 with⟨h1,_⟩|⟨g',o',eU,h1,h2,h3,h4,h5⟩;grind;cases h1;intro j u hj;have eo:=(bf.1 hj).1;have:xs[i*sz+j]?=some u:=ai;have:=h5 _ _ this;grind
end
def jG cs:(Value.agg cs).cells=cs:=rfl
section
variable{P:Program}{op:Oper}{a:Act}{w0 w:World}{row:Option Nat}{l:List MB}{rs:List MR}{ty:TypeId}
def afh(hM:Mem w0 row w l rs)x(ho:op.op=.load ty x)(hA:∀w,(isAgg ty).run P w=.ok false w){g o}(hx:a.eval x=.pointer (some (aD g o)))(i:Nat){t cs}(hi:l[i]?=some (g,t,cs)){v}(hv:cs[o]?=some v):(execOp a.eval op).run P w=.ok (.value v) w:=jr ho hx (uA (P:=P) hA (((hM.at_ hi).cell o).trans hv))
def tW(hM:Mem w0 row w l rs)x(ho:op.op=.load ty x)(hA:∀w,(isAgg ty).run P w=.ok false w){p}(hx:a.eval x=.pointer (some p)){v}(hc:w0.cell? p=some v)(gQ:some p.block≠row):(execOp a.eval op).run P w=.ok (.value v) w:=jr ho hx (uA (P:=P) hA (hM.wC hc gQ))
def Bh(hM:Mem w0 row w l rs)x(ho:op.op=.load ty x){g o}(hx:a.eval x=.pointer (some (aD g o)))(i:Nat){t cs}(hi:l[i]?=some (g,t,cs)){vs}(hv:cs.extract o (o+vs.size)=vs){D}(hu:P.underlying ty=some D)(hD:D.isRow=true)(hs:(P.info? ty).map (·.size)=some vs.size):(execOp a.eval op).run P w=.ok (.value (.agg vs)) w:=by have:=jr (P:=P) ho hx (run_loadAt_mid w g o ty vs.toList D ((hM.at_ hi).range hv) hu hD ab);omega
def Od(hM:Mem w0 row w l rs)x(ho:op.op=.load ty x){g}(hx:a.eval x=aG g)(i:Nat){t cs}(hi:l[i]?=some (g,t,cs)){D}(hu:P.underlying ty=some D)(hD:D.isRow=true)(hs:(P.info? ty).map (·.size)=some cs.size):(execOp a.eval op).run P w=.ok (.value (.agg cs)) w:=Bh hM x ho hx i hi (wL cs) hu hD hs
def GM(hM:Mem w0 row w l rs)x(ho:op.op=.load ty x){g o}(hx:a.eval x=.pointer (some (aD g o))){vs}(hv:w0.rangeAt g o vs.toList)(gQ:some g≠row){D}(hu:P.underlying ty=some D)(hD:D.isRow=true)(hs:(P.info? ty).map (·.size)=some vs.size):(execOp a.eval op).run P w=.ok (.value (.agg vs)) w:=by have:=jr (P:=P) ho hx (run_loadAt_mid w g o ty vs.toList D (fun j v hj=>hM.wC (hv j v hj) gQ) hu hD ab);omega
end
section
variable{α:Type}{f:α→List Value}{sz:Nat}
theorem jW(hf:∀x,(f x).length=sz):∀L:List α,(L.flatMap f).length=L.length*sz|[]=>ae|x::L=>by rw[ig,aw,hf,jW hf L,bG,Nat.succ_mul,uH]
theorem uz(hf:∀x,(f x).length=sz):∀(L:List α)(k:Nat),(L.flatMap f).drop (k*sz)=(L.drop k).flatMap f|L,0=>ae|[],k+1=>ae|x::L,k+1=>by rw[ig,nh,←uz hf L k,Nat.succ_mul,uH,←mB,qv (hf x)]
theorem uy(hf:∀x,(f x).length=sz):∀(L:List α)(k:Nat),(L.flatMap f).take (k*sz)=(L.take k).flatMap f|L,0=>ae|[],k+1=>ae|x::L,k+1=>by rw[ig,qA,ig,←uy hf L k,Nat.succ_mul,uH,←hf x,List.take_length_add_append]
theorem CP(hf:∀x,(f x).length=sz)(L:List α){i:Nat}(h:i<L.length):((L.flatMap f).drop (i*sz)).take (f L[i]).length=f L[i]:=by grind[uz,List.drop_eq_getElem_cons]
def di(w:World)(v:Value)(f:α→List Value)(sz:Nat)(L:List α):Prop:=zF w v sz L.length (L.flatMap f)
variable{w w':World}{v:Value}{L:List α}
theorem di.step(h:di w v f sz L)(hb:Below w.heap.size w w'):di w' v f sz L:=zF.step h hb
theorem di.nil(w:World):di w (.slice none 0 0) f sz ([]:List α):=zF.nil w sz
theorem di.len(h:di w v f sz L):L.length≤maxLen:=h.2.1
theorem di.form(h:di w v f sz L):(v=.slice none 0 0∧L=[])∨∃g o cap,v=.slice (some ⟨g,o,none⟩) L.length cap∧L.length≤cap∧cap≤maxLen∧g<w.heap.size:=by rcases h.2.2 with⟨h1,h2⟩|⟨g,o,cap,h1,h2,h3,h4,h5⟩;all_goals grind
theorem di.iz {B:Nat}{e:TypeId}{n:Nat}(h:w.ownsRow B e sz v n (L.flatMap f))(hn:n=L.length):di w v f sz L:=by subst hn;exact zF.iz h
theorem di.piece {g o cap n:Nat}(h:di w (.slice (some ⟨g,o,none⟩) n cap) f sz L)(hf:∀x,(f x).length=sz){i:Nat}(hi:i<L.length):w.rangeAt g (o+i*sz) (f L[i]):=by
 have hn:n=L.length:=by rcases h.2.2 with⟨h1,_⟩|⟨g',o',eU,h1,_⟩;all_goals grind
 subst hn;exact zF.piece h i (CP hf L hi)
theorem di.cut {g o cap n:Nat}(h:di w (.slice (some ⟨g,o,none⟩) n cap) f sz L)(hf:∀x,(f x).length=sz){k:Nat}(hk:k≤L.length):di w (.slice (some ⟨g,o,none⟩) k cap) f sz (L.take k)∧di w (.slice (some ⟨g,o+k*sz,none⟩) (L.length-k) (cap-k)) f sz (L.drop k):=by
 have hl:=jW hf L;have eo:(L.take k).length=k:=ai;have hld:(L.drop k).length=L.length-k:=ae;rcases h.2.2 with⟨h1,_⟩|⟨g',o',eU,h1,h2,h3,h4,h5⟩;·grind
 ·cases h1;have hm:=h.2.1;refine⟨⟨by rw[jW hf],ab,.inr ⟨g,o,cap,ai,ab,h3,h4,fun j u hj=>h5 j u ?_⟩⟩,⟨by rw[jW hf],ab,.inr ⟨g,o+k*sz,cap-k,ae,ab,ab,h4,fun j u hj=>?_⟩⟩⟩;·rw[←uy hf]at hj;grind
  ·rw[←uz hf,ej]at hj;have:=h5 _ u hj;grind
end
def hC(h:ez):List Value:=eY h.1
theorem zb(h:ez):(hC h).length=32:=by grind[hC,rz]
theorem asJ(h:ez):(hC h).toArray=da h:=rfl
abbrev lP(w:World)(v:Value)(L:List ez):Prop:=di w v hC 32 L
theorem lP.at_ {w:World}{L:List ez}{g o cap n:Nat}(h:lP w (.slice (some ⟨g,o,none⟩) n cap) L){i:Nat}(hi:i<L.length):w.rangeAt g (o+i*32) (da L[i]).toList:=di.piece h zb hi
def sC(s:jL):List Value:=(iB s).toList
theorem qE(s:jL):(sC s).length=34:=by simp[sC,Gs]
abbrev fV(w:World)(v:Value)(L:List jL):Prop:=di w v sC 34 L
theorem fV.at_ {w:World}{L:List jL}{g o cap n:Nat}(h:fV w (.slice (some ⟨g,o,none⟩) n cap) L){i:Nat}(hi:i<L.length):w.rangeAt g (o+i*34) (iB L[i]).toList:=di.piece h qE hi
def eC(x:Ni):List Value:=[str x.1,str x.2]
theorem uw(x:Ni):(eC x).length=2:=rfl
abbrev co(w:World)(v:Value)(L:Ez):Prop:=di w v eC 2 L
theorem co.at_ {w:World}{L:Ez}{g o cap n:Nat}(h:co w (.slice (some ⟨g,o,none⟩) n cap) L){i:Nat}(hi:i<L.length):w.cell? ⟨g,o+i*2,none⟩=some (str L[i].1)∧w.cell? ⟨g,o+i*2+1,none⟩=some (str L[i].2):=by have:=di.piece h uw hi;exact⟨this 0 _ rfl,this 1 _ rfl⟩
def adT(w:World)(v:Value)(d:Ez):Prop:=∃s,v=.agg #[s]∧co w s d
theorem adT.step {w w':World}{v:Value}{d:Ez}(h:adT w v d)(hb:Below w.heap.size w w'):adT w' v d:=by obtain⟨s,h1,h2⟩:=h;exact⟨s,h1,h2.step hb⟩
section
variable{P:Program}{ops:Array Oper}{rest:List Oper}{op:Oper}{a:Act}{w0 w:World}{K:Act→World→Prop}{Q:Exit→Act→World→Prop}{row:Option Nat}{l:List MB}{rs:List MR}
def Uk(hM:Mem w0 row w l rs)d(hd:op.dst=d)t e(ho:op.op=.buildSlice t 0 #[])(hu:P.underlying t=some (.slice e)){z sz bytes}(pK:(P.info? e).map (fun i=>(i.zero,i.size,i.bytes))=some (some z,sz,bytes))(h:∀g w',Mem w0 row w' l ((.slice (some (aD g 0)) 0 0,e,sz,0,[])::rs)→K (a.put d (.slice (some (aD g 0)) 0 0)) w'):op.wp P a w K Q:=by subst hd;obtain⟨i,hi,h1,h2,h3⟩:=el pK;have hb:Below w.heap.size w (w.alloc (.cells #[] e)):=(aJ _ _).alloc (au _) _;have eZ:(w.alloc (.cells #[] e)).ownsRow w.heap.size e sz (.slice (some (aD w.heap.size 0)) 0 0) 0 []:=⟨ae,.inr ⟨w.heap.size,0,#[],rfl,au _,mA w _,au _,aI _,ae,ae⟩⟩;refine uq (w':=w.alloc (.cells #[] e)) (v:=.slice (some (aD w.heap.size 0)) 0 0) ?_ (h _ _ (hM.ii hb eZ));unfold execOp;simp only[ho];simp[Instr.buildSlice,ie hu,sizeOf,typeInfo,hi,newRow,Instr.fill,go_sem]
def Ul(hM:Mem w0 row w l rs)d(hd:op.dst=d)s x t(ho:op.op=.call {callee:=.builtin .append,args:=#[s,x],argTypes:=#[t,t]})e {z sz bytes}(ht:P.underlying t=some (.slice e))(pK:(P.info? e).map (fun i=>(i.zero,i.size,i.bytes))=some (some z,sz,bytes))(hz:z.cells.size=sz)(qZ:0<sz)(j:Nat){v n xs}(hj:rs[j]?=some (v,e,sz,n,xs))(hs:a.eval s=v){gb ob m c}(hx:a.eval x=.slice (some (aD gb ob)) m c){news}(hr:w.rangeAt gb ob news)(hl:news.length=m*sz)(h1:∀u∈news,u.oneCell'=true)(Cu:n+m≤maxLen)(rI:(n+m)*bytes≤140737488355328)(h:∀v' w',w'.ownsRow w0.heap.size e sz v' (n+m) (xs++news)→(v'=.slice none 0 0↔v=.slice none 0 0∧m=0)→Mem w0 row w' l []→K (a.put d v') w'):op.wp P a w K Q:=by subst hd;obtain⟨i,hi,yU,yk,Rc⟩:=el pK;have Ui:=aT hj;refine wp_append_own (w:=w) s x t ho w0.heap.size e i z sz bytes ht hi yU yk Rc hz qZ v n xs hs (hM.ij hj) (aD gb ob) m c news hx hl (fun q u hu=>by rw[Addr.add_mid];exact hr q u hu) h1 Cu rI hM.grown.size (fun v' w' hr hg hv=>h v' w' hr hv ⟨⟨hg.os.trans hM.grown.os,hg.tape.trans hM.grown.tape,hg.output.trans hM.grown.output,aC hM.grown.size hg.size,fun k hk gQ=>?_⟩,fun y hy=>(hM.pC y hy).grown hg (fun e=>hM.kR _ Ui y hy e.symm),hM.own,hM.apart,ae,ae,List.Pairwise.nil,hM.CB⟩);refine(hg.block k (bi hk hM.grown.size) ?_).trans (hM.grown.block k hk gQ);intro e;have:=((hM.ij hj).lt k e.symm).1;omega
end
section
variable{P:Program}{ops:Array Oper}{rest:List Oper}{op:Oper}{a:Act}{w0 w:World}{Q:Exit→Act→World→Prop}{row:Option Nat}{l:List MB}{rs:List MR}
def uW(hM:Mem w0 row w l rs)(eF:Region.wanted op (yielded ops a.tmps)=true)d(hd:op.dst=d)t e(ho:op.op=.buildSlice t 0 #[])(hu:P.underlying t=some (.slice e)){z sz bytes}(pK:(P.info? e).map (fun i=>(i.zero,i.size,i.bytes))=some (some z,sz,bytes))(h:∀g w',Mem w0 row w' l ((.slice (some (aD g 0)) 0 0,e,sz,0,[])::rs)→wpList P ops Q rest (a.put d (.slice (some (aD g 0)) 0 0)) w'):wpList P ops Q (op::rest) a w:=wpList_want eF fun K hK=>Uk hM d hd t e ho hu pK (fun g w' hm0=>hK _ _ (h g w' hm0))
def uV(hM:Mem w0 row w l rs)(eF:Region.wanted op (yielded ops a.tmps)=true)d(hd:op.dst=d)s x t(ho:op.op=.call {callee:=.builtin .append,args:=#[s,x],argTypes:=#[t,t]})e {z sz bytes}(ht:P.underlying t=some (.slice e))(pK:(P.info? e).map (fun i=>(i.zero,i.size,i.bytes))=some (some z,sz,bytes))(hz:z.cells.size=sz)(qZ:0<sz)(j:Nat){v n xs}(hj:rs[j]?=some (v,e,sz,n,xs))(hs:a.eval s=v){gb ob m c}(hx:a.eval x=.slice (some (aD gb ob)) m c){news}(hr:w.rangeAt gb ob news)(hl:news.length=m*sz)(h1:∀u∈news,u.oneCell'=true)(Cu:n+m≤maxLen)(rI:(n+m)*bytes≤140737488355328)(h:∀v' w',w'.ownsRow w0.heap.size e sz v' (n+m) (xs++news)→(v'=.slice none 0 0↔v=.slice none 0 0∧m=0)→Mem w0 row w' l []→wpList P ops Q rest (a.put d v') w'):wpList P ops Q (op::rest) a w:=wpList_want eF fun K hK=>Ul hM d hd s x t ho e ht pK hz qZ j hj hs hx hr hl h1 Cu rI (fun v' w' hm0 KD UY=>hK _ _ (h v' w' hm0 KD UY))
end
def Mem.range {w0 w row l rs}(h:Mem w0 row w l rs){g o cs}(hr:w0.rangeAt g o cs)(gQ:some g≠row):w.rangeAt g o cs:=fun j v hv=>h.wC (hr j v hv) gQ
structure Sl where
  p : Option Addr
  n : Nat
  c : Nat
abbrev aF(s:Sl):Value:=.slice (s.p) s.n s.c
def eV:Sl:=⟨none,0,0⟩
@[reducible]def ahk(x:qh):List Value:=([str x.chain,al x.ay,al x.time]:List Value)++(eY x.root.1)
@[reducible]def axc(x:jL):List Value:=([al x.ay,al x.time]:List Value)++(eY x.root.1)
def apM x:iB x=(axc x).toArray:=rfl
def vp:qX:=⟨[],oO,[],[]⟩
@[reducible]def axM(x:qX):List Value:=([str x.bM,.int .u64 x.bK.a,.int .u64 x.bK.b,.int .u64 x.bK.c,.int .u64 x.bK.d,str x.src,str x.dst]:List Value)
def aoN x:(gF x)[0]?=some (str x.bM):=rfl
def aoP x:(gF x)[5]?=some (str x.src):=rfl
def aoM x:(gF x)[6]?=some (str x.dst):=rfl
def AK:kY:=⟨0,[],[],vp,0,0⟩
@[reducible]def ayK(x:kY):List Value:=([al x.seq,str x.source,str x.sink,str x.bj.bM,.int .u64 x.bj.bK.a,.int .u64 x.bj.bK.b,.int .u64 x.bj.bK.c,.int .u64 x.bj.bK.d,str x.bj.src,str x.bj.dst,al x.ay,al x.time]:List Value)
def arZ x:(eE x)[0]?=some (al x.seq):=rfl
def ar2 x:(eE x)[1]?=some (str x.source):=rfl
def ar1 x:(eE x)[2]?=some (str x.sink):=rfl
def aoR x:(eE x)[10]?=some (al x.ay):=rfl
def aoO x:(eE x)[11]?=some (al x.time):=rfl
structure xI where
  at_ : Int
  many : Int
  path : Sl
def jO:xI:=⟨0,0,eV⟩
@[reducible]def aw8(x:xI):List Value:=([al x.at_,al x.many,aF x.path]:List Value)
def jF(x:xI):Array Value:=(aw8 x).toArray
structure xK where
  many : Int
  left : Sl
  right : Sl
  a : xI
  b : xI
def qo:xK:=⟨0,eV,eV,jO,jO⟩
@[reducible]def axa(x:xK):List Value:=([al x.many,aF x.left,aF x.right,al x.a.at_,al x.a.many,aF x.a.path,al x.b.at_,al x.b.many,aF x.b.path]:List Value)
def ir(x:xK):Array Value:=(axa x).toArray
structure Tx where
  kind : Int
  id : Bs
  over : Bs
  peer : Bs
  dj : Bs
  key : Bs
  period : Int
  header : qh
  tC : ez
  aA : kY
  nK : Bs
  ay : Int
  proof : xI
  fx : xK
def lA:Tx:=⟨0,[],[],[],[],[],0,ol,iP,AK,[],0,jO,qo⟩
@[reducible]def LM(x:Tx):List Value:=([al x.kind,str x.id,str x.over,str x.peer,str x.dj,str x.key,al x.period,str x.header.chain,al x.header.ay,al x.header.time]:List Value)++(eY x.header.root.1++(eY x.tC.1++(([al x.aA.seq,str x.aA.source,str x.aA.sink,str x.aA.bj.bM,.int .u64 x.aA.bj.bK.a,.int .u64 x.aA.bj.bK.b,.int .u64 x.aA.bj.bK.c,.int .u64 x.aA.bj.bK.d,str x.aA.bj.src,str x.aA.bj.dst,al x.aA.ay,al x.aA.time,str x.nK,al x.ay,al x.proof.at_,al x.proof.many,aF x.proof.path,al x.fx.many,aF x.fx.left,aF x.fx.right,al x.fx.a.at_,al x.fx.a.many,aF x.fx.a.path,al x.fx.b.at_,al x.fx.b.many,aF x.fx.b.path]:List Value))))
def dA(x:Tx):Array Value:=(LM x).toArray
structure Nr where
  chain : Bs
  key : Bs
  period : Int
  frozen : Bool
  bh : Sl
def yL:Nr:=⟨[],[],0,false,eV⟩
@[reducible]def axb(x:Nr):List Value:=([str x.chain,str x.key,al x.period,.bool x.frozen,aF x.bh]:List Value)
def iY(x:Nr):Array Value:=(axb x).toArray
structure Blo where
  ay : Int
  time : Int
  Ca : Sl
def KB:Blo:=⟨0,0,eV⟩
@[reducible]def aw9(x:Blo):List Value:=([al x.ay,al x.time,aF x.Ca]:List Value)
def um(x:Blo):Array Value:=(aw9 x).toArray
structure oM where
  ay : Int
  kind : Int
  aA : kY
  nK : Bs
def Aw:oM:=⟨0,0,AK,[]⟩
@[reducible]def yJ(x:oM):List Value:=([al x.ay,al x.kind,al x.aA.seq,str x.aA.source,str x.aA.sink,str x.aA.bj.bM,.int .u64 x.aA.bj.bK.a,.int .u64 x.aA.bj.bK.b,.int .u64 x.aA.bj.bK.c,.int .u64 x.aA.bj.bK.d,str x.aA.bj.src,str x.aA.bj.dst,al x.aA.ay,al x.aA.time,str x.nK]:List Value)
def iw(x:oM):Array Value:=(yJ x).toArray
structure ls where
  err : Int
  seq : Int
  nK : Bs
def ic:ls:=⟨0,0,[]⟩
@[reducible]def wA(x:ls):List Value:=([al x.err,al x.seq,str x.nK]:List Value)
def sn(x:ls):Array Value:=(wA x).toArray
structure Led where
  d : Sl
  ay : Int
  time : Int
def Yo:Led:=⟨eV,0,0⟩
@[reducible]def axd(x:Led):List Value:=([aF x.d,al x.ay,al x.time]:List Value)
def mt(x:Led):Array Value:=(axd x).toArray
structure Vd where
  left : Bool
  k : Int
  other : Int
def KC:Vd:=⟨false,0,0⟩
@[reducible]def GY(x:Vd):List Value:=([.bool x.left,al x.k,al x.other]:List Value)
def zv(x:Vd):Array Value:=(GY x).toArray
def ag3 x:zv x=(GY x).toArray:=rfl
def XT x:(zv x).size=3:=rfl
structure qO where
  kind : Int
  side : Int
  n : Int
  bS : Int
  cut : Int
  gj : Sl
  tx : Bs
def Yp:qO:=⟨0,0,0,0,0,eV,[]⟩
@[reducible]def anw(x:qO):List Value:=([al x.kind,al x.side,al x.n,al x.bS,al x.cut,aF x.gj,str x.tx]:List Value)
def kV(x:qO):Array Value:=(anw x).toArray
section
variable{P:Program}(w:World)
def FC(d:Nat)(elem:TypeId)(n:Nat)(xs ys:Array Value):List Nat→Sem Bool|[]=>pure true|i::is=>do let a←part elem xs (i*n)let b←part elem ys (i*n)let r←Op.equalIn d elem a b if(!r)=true then pure false else FC d elem n xs ys is
def run_equalIn_array d t elem len n xs ys (ht : P.underlying t = some (.array len elem)) (hs : ∀ w, (sizeOf elem).run P w = .ok n w) :
    (Op.equalIn (d + 1) t (.agg xs) (.agg ys)).run P w = (FC d elem n xs ys (List.range' 0 len)).run P w := by
  simp only [Op.equalIn, dw, ie ht, bT, hs]
  rw [Std.Legacy.Range.forIn_eq_forIn_range']
  simp only [Std.Legacy.Range.size, Nat.sub_zero, lE, Nat.div_one]
  generalize List.range' 0 len = fs
  induction fs generalizing w with
  | nil => rfl
  | cons f fs ih =>
    simp only [List.forIn_cons, FC, dw]
    generalize (part elem xs (f * n)).run P w = r1
    cases r1 with
    | ok a w1 =>
      simp only [bT]
      generalize (part elem ys (f * n)).run P w1 = r2
      cases r2 with
      | ok b w2 =>
        simp only [bT]
        generalize (Op.equalIn d elem a b).run P w2 = r3
        cases r3 with
        | ok r w3 =>
          simp_all
        | halt x w3 => rfl
      | halt x w2 => rfl
    | halt x w1 => rfl
def PF d elem k(he:P.underlying elem=some (.int k))(hA:∀w,(isAgg elem).run P w=.ok false w)(X Y:List Int):∀(m i),i+m=X.length→X.length=Y.length→(FC (d+1) elem 1 (X.map (Value.int k)).toArray (Y.map (Value.int k)).toArray (List.range' i m)).run P w=.ok (decide (X.drop i=Y.drop i)) w:=by
 intro m;induction m with|zero=>simp_all[FC]|succ m ih=>
  intro i h1 h2;have hx:i<X.length:=ab;have hy:i<Y.length:=ab;have hpx:(part elem (X.map (Value.int k)).toArray i).run P w=.ok (.int k X[i]) w:=by simp[part,hA,aW hx]
  have hpy:(part elem (Y.map (Value.int k)).toArray i).run P w=.ok (.int k Y[i]) w:=by simp[part,hA,aW hy]
  rw[List.range'_succ];simp only[FC,dw,pu,hpx,hpy,bT,lN w d elem k k _ _ he];rw[fl hx,fl hy];by_cases he':X[i]=Y[i];rw[if_neg ai,ih (i+1) ab h2];congr 1;grind;rw[if_pos ai];grind[Sem.run_pure,List.cons.inj]
def Cv d t elem len k(ht:P.underlying t=some (.array len elem))(he:P.underlying elem=some (.int k))(hs:∀w,(sizeOf elem).run P w=.ok 1 w)(hA:∀w,(isAgg elem).run P w=.ok false w)(X Y:List Int)(hx:X.length=len)(hy:Y.length=len):(Op.equalIn (d+2) t (.agg (X.map (Value.int k)).toArray) (.agg (Y.map (Value.int k)).toArray)).run P w=.ok (decide (X=Y)) w:=by rw[run_equalIn_array w (d+1) t elem len 1 _ _ ht hs,PF w d elem k he hA X Y len 0 ab ab];rfl
end
def agz l:eY l=(l.map fun b=>(b.toNat:Int)).map (Value.int .u8):=by simp[eY]
instance:DecidableEq W4:=fun x y=>decidable_of_iff (x.a=y.a∧x.b=y.b∧x.c=y.c∧x.d=y.d) Dq
def Fu d a b w:(Op.equalIn (d+2) 43 (.agg (da a)) (.agg (da b))).run prog w=.ok (decide (a=b)) w:=by unfold da;rw[agz,agz,Cv w d 43 5 32 .u8 underlying43 underlying5 sizeOf5 isAgg5 _ _ ai ai];congr 1;apply pv.2;grind[List.map_inj_right,UInt8.toNat.inj]
def agA d(a b:W4)w:(Op.equalIn (d+2) 69 (.agg a.cs) (.agg b.cs)).run prog w=.ok (decide (a=b)) w:=by have h:=Cv (P:=prog) w d 69 67 4 .u64 underlying69 underlying67 sizeOf67 isAgg67 [(a.a:Int),a.b,a.c,a.d] [(b.a:Int),b.b,b.c,b.d] rfl rfl;rw[show a.cs=(List.map (Value.int .u64) [(a.a:Int),a.b,a.c,a.d]).toArray from rfl,show b.cs=(List.map (Value.int .u64) [(b.a:Int),b.b,b.c,b.d]).toArray from rfl,h];refine congrArg (fun q=>Result.ok q w) (pv.2 ?_);constructor;intro e;have e1:=tk e;have e2:=tk e1.2;have e3:=tk e2.2;have e4:=tk e3.2;cases a;cases b;grind;grind
def FU {P:Program}{t fs}(h:P.underlying t=some (.struct fs)):P.fieldsOf t=fs:=by unfold Program.fieldsOf;grind
def Ee {t cs o v}(hA:∀w,(isAgg t).run prog w=.ok false w)(hv:cs[o]?=some v)w:(part t cs o).run prog w=.ok v w:=by unfold part;simp_all
def ajU {t cs vs o n}(hA:∀w,(isAgg t).run prog w=.ok true w)(hS:∀w,(sizeOf t).run prog w=.ok n w)(hv:cs.extract o (o+n)=vs)w:(part t cs o).run prog w=.ok (.agg vs) w:=by unfold part;simp_all
def aik a:(iB a).extract 2 (2+32)=da a.root:=by grind[iB,da,gS]
instance:DecidableEq jL:=fun x y=>decidable_of_iff (x.ay=y.ay∧x.time=y.time∧x.root=y.root) Dq
def arv d a b w:(Op.equalIn (d+3) 49 (.agg (iB a)) (.agg (iB b))).run prog w=.ok (decide (a=b)) w:=by
 have hf:=underlying49;have hF:=FU hf;rw[qS w (d+2) 49 _ _ aq ad,hF];simp only[Op.eqFields,if_pos (show "Height" ≠ "_" from ae),if_pos (show "Time" ≠ "_" from ae),if_pos (show "Root" ≠ "_" from ae),dw,Ee isAgg3 (akm _),bT,lN w _ 3 .i64 .i64 _ _ underlying3];have hE:a=b↔a.ay=b.ay∧a.time=b.time∧a.root=b.root:=Jw;by_cases e1:a.ay=b.ay
 ·by_cases e2:a.time=b.time;·by_cases e3:a.root=b.root;all_goals simp_all[Ee,adH,ajU,aik,lN,Fu]
  simp_all[Ee,adH,lN]
 simp_all
end Go.Proofs.YtlddafbgfkocjaaGreatDoor
