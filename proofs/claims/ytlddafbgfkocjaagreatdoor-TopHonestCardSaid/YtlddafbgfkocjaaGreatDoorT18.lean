/- A part of TopHonest. -/
import Derived.BigFrameIn
import Derived.LoopIn
import Derived.LoopNIn
import Derived.OrdersIn
import Derived.OwnWalkIn
import Derived.RangeFuncBound
import Derived.RangeFuncCalls
import Derived.RangeFuncLeaves
import Derived.RangeFuncNested
import Derived.Shelf.Abstract
import Derived.Shelf.RegionOpen
import Derived.TacticsInMore
import Derived.Test.YtlddafbgfkocjaaGreatDoorT02
namespace Go.Proofs.YtlddafbgfkocjaaGreatDoor
open Go.RowKit Go.Proofs.Tryz
set_option linter.all false
set_option maxRecDepth 1000000
set_option maxHeartbeats 400000000
section
open Go.Shelf
def Ab {β:Type}(D b:Nat)(J:β→World→Prop):Prop:=∀s A B r,J s A→A.grownBy B (some r)→(r=b∨D≤r)→J s B
def aum {α:Type}(F:Fence)(n:Nat)(P:Program)(g:Nat)(lb:Array Value)(b:Nat)(enc:α→Value)(Kp:World→World→Prop)(L:List α)(w:World):Prop:=∀(l:Nat)(J Jx:List α→World→Prop)(W:World),Below w.heap.size w W→(∀s A B,J s A→A.grownBy B (some b)→J s B)→(∀s A B,Jx s A→A.grownBy B (some b)→Jx s B)→(∀pre x W1,J pre W1→pre++[x]<+:L→YieldAt F (n-1) P l #[enc x] W1 fun e W'=>(e=.returned (.bool true)∧J (pre++[x]) W'∧Kp W1 W')∨(e=.returned (.bool false)∧Jx (pre++[x]) W'))→J [] W→CallsIn F n P g (#[.func (.yield l) #[] #[]]++lb) W fun e W'=>(∃v,e=.returned v)∧(J L W'∨(∃pre,pre<+:L∧Jx pre W'))
def Ab.put {β D b J}(h:Ab D b J){s:β}{W l}o(hl:D≤l)(hs:J s W):J s (W.putObj l o):=h s W _ l hs (grownBy_putObj' W l o) (.inr hl)
def ai9 {F:Fence}{n:Nat}{P:Program}{α:Type}{g:Operand}{ps:Array Tmp}{assign body:Code}{Q:Exit→Act→World→Prop}{a:Act}{w:World}(hro:F.round=none)(h1:1≤n){gf:Nat}{lb:Array Value}(hg:a.eval g=.func (.func gf) #[] lb)(hFg:F.fn gf)(eg:∀args w,(callFunc gf args).run P w=.ok (.enter gf args) w){b:Nat}{enc:α→Value}{Kp:World→World→Prop}{L:List α}(arc:aum F (n-1) P gf lb b enc Kp L w)(hb:b<w.heap.size)(hKt:∀{A B C:World},Kp A B→Kp B C→Kp A C)(hKb:∀(W:World)(l:Nat)(o:Obj),w.heap.size≤l→Kp W (W.putObj l o))(hps:ps.size=1)(I:List α→World→Prop)(Ix:Code→List α→World→Prop)(hI:Ab w.heap.size b I)(hIx:∀c,Ab w.heap.size b (Ix c))(h0:∀W,Below w.heap.size w W→I [] W)(anx:α→Act)(aph:∀(l:Nat)(x:α)(W:World)(K:Act→World→Prop),K (anx x) W→assign.wpIn (F.inRound l) (n-1-1) P (Exit.then K (fun _ _ _=>False)) {tmps:=(ps.zip #[enc x]).foldl (fun t(p,v)=>t.setIfInBounds p v) a.tmps,defers:=[]} W)(aj1:∀(l:Nat)(pre:List α)(x:α)(W:World),I pre W→pre++[x]<+:L→body.wpIn (F.inRound l) (n-1-1) P (ownPostG w.heap.size Kp I Ix (pre++[x]) W) (anx x) W)(aj2:∀(D:Nat)(W:World),w.heap.size≤D→I L W→W.heap[D]?=some (.deferred (some []))→Q .normal {a with defers:={target:=.collected D,args:=#[]}::a.defers} W)(avs:∀(D:Nat)(c:Code)(pre:List α)(W:World),w.heap.size≤D→pre<+:L→Ix c pre W→W.heap[D]?=some (.deferred (some []))→c.wpIn F n P Q {a with defers:={target:=.collected D,args:=#[]}::a.defers} W):(Code.rangeFunc g ps assign body).wpIn F n P Q a w:=by
 refine wpIn_rangeFunc ?_;intro fn Ny;rw[hro];obtain⟨rc,hrc⟩:∃rc:LoopState→Option Code→Loop,rc=fun st pe=>{state:=st,pending:=pe,fn,tmps:=a.tmps,params:=ps,assign,body,defers:=w.heap.size}:=⟨_,rfl⟩;obtain⟨W1,hW1⟩:∃W1,(w.alloc (.deferred (some []))).alloc (.loop (rc .ready none))=W1:=⟨_,rfl⟩;have LB:W1.heap[w.heap.size+1]?=some (.loop (rc .ready none)):=by grind[World.alloc_heap_new,World.size_alloc]
 have MI:W1.heap[w.heap.size]?=some (.deferred (some [])):=by grind[Below.heap_alloc,World.alloc_heap_new]
 have eH:Below w.heap.size w W1:=by rw[←hW1];exact((Below.refl _ w).alloc (Nat.le_refl _) _).alloc (by simp) _
 have kept:∀{A B:World}{i:Nat}{o:Obj},A.grownBy B (some b)→w.heap.size≤i→A.heap[i]?=some o→B.heap[i]?=some o:=fun{A B i o}h hi ho=>(h.block i (Array.getElem?_eq_some_iff.1 ho).1 (by grind)).trans ho;refine⟨w.heap.size+1,[{target:=.collected w.heap.size,args:=#[]}],W1,{target:=.fn (.func gf) lb,args:=#[.func (.yield (w.heap.size+1)) #[] #[]]},W1,gf,#[.func (.yield (w.heap.size+1)) #[] #[]]++lb,W1,?_,?_,?_,?_,fun _=>h1,?_⟩;·grind[run_enterLoop_outer]
 ·simp only[resolve,hg];simp[go_sem]
 ·intro f' hf';simp[Target.leads]at hf';grind
 ·simp[invoke,go_sem,eg]
 ·refine(arc (w.heap.size+1) (fun pre W=>I pre W∧W.heap[w.heap.size+1]?=some (.loop (rc .ready none))∧W.heap[w.heap.size]?=some (.deferred (some []))) (fun pre W=>∃c,Ix c pre W∧W.heap[w.heap.size+1]?=some (.loop (rc .done (some c)))∧W.heap[w.heap.size]?=some (.deferred (some []))) W1 eH (fun s A B hs hg'=>⟨hI s A B b hs.1 hg' (.inl rfl),kept hg' (by simp) hs.2.1,kept hg' (by simp) hs.2.2⟩) (fun s A B hs hg'=>by obtain⟨c,hc,hl,hk⟩:=hs;exact⟨c,hIx c s A B b hc hg' (.inl rfl),kept hg' (by simp) hl,kept hg' (by simp) hk⟩) ?_ ⟨h0 _ eH,LB,MI⟩).mono ?_
  ·rintro pre x W⟨hi,hl,hk⟩hpx;have eo:w.heap.size+1<W.heap.size:=(Array.getElem?_eq_some_iff.1 hl).1;have hy:=run_yield (P:=P) (args:=#[enc x]) hl (by grind);rw[hrc]at hy;refine⟨fn,_,assign,body,hy,roundIn_of_wpIn Ny (aph _ x W _ ⟨_,run_beginRound hl (by grind),?_⟩)⟩;have ML:(W.putObj (w.heap.size+1) (.loop {rc .ready none with state:=.busy})).heap[w.heap.size+1]?=some (.loop {rc .ready none with state:=.busy}):=World.putObj_heap_same eo;have lQ:(W.putObj (w.heap.size+1) (.loop {rc .ready none with state:=.busy})).heap[w.heap.size]?=some (.deferred (some [])):=(World.putObj_heap_other (by simp)).trans hk;have hw2:Kp W (W.putObj (w.heap.size+1) (.loop {rc .ready none with state:=.busy})):=hKb _ _ _ (by simp);refine wpIn_mono (aj1 _ pre x _ (hI.put _ (by simp) hi) hpx) ?_;have fin:∀(jump:Option Code)(W3:World),KeepsFrom w.heap.size (W.putObj (w.heap.size+1) (.loop {rc .ready none with state:=.busy})) W3→(Instr.endRound (w.heap.size+1) jump).run P W3=.ok (.bool jump.isNone) (W3.putObj (w.heap.size+1) (.loop (rc (if jump.isNone then .ready else .done) jump)))∧(W3.putObj (w.heap.size+1) (.loop (rc (if jump.isNone then .ready else .done) jump))).heap[w.heap.size+1]?=some (.loop (rc (if jump.isNone then .ready else .done) jump))∧(W3.putObj (w.heap.size+1) (.loop (rc (if jump.isNone then .ready else .done) jump))).heap[w.heap.size]?=some (.deferred (some [])):=fun jump W3 tD=>by have Xe:=tD.same _ _ (by simp) ML rfl;have:=run_endRound (P:=P) jump Xe;rw[hrc]at this⊢;exact⟨this,World.putObj_heap_same (Array.getElem?_eq_some_iff.1 Xe).1,(World.putObj_heap_other (by simp)).trans (tD.same _ _ (Nat.le_refl _) lQ rfl)⟩
   rintro e a3 W3 hp;cases e with|normal=>obtain⟨tD,awO,hi3⟩:=hp;obtain⟨hr,hl4,WQ⟩:=fin none W3 tD;exact⟨_,_,hr,.inl ⟨rfl,⟨hI.put _ (by simp) hi3,hl4,WQ⟩,hKt (hKt hw2 awO) (hKb _ _ _ (by simp))⟩⟩|ret=>obtain⟨tD,hi3⟩:=hp;obtain⟨hr,hl4,WQ⟩:=fin (some .ret) W3 tD;exact⟨_,_,hr,.inr ⟨rfl,.ret,(hIx _).put _ (by simp) hi3,hl4,WQ⟩⟩|exit id=>obtain⟨tD,hi3⟩:=hp;obtain⟨hr,hl4,WQ⟩:=fin (some (.exit id)) W3 tD;exact⟨_,_,hr,.inr ⟨rfl,.exit id,(hIx _).put _ (by simp) hi3,hl4,WQ⟩⟩|goto t=>obtain⟨tD,hi3⟩:=hp;obtain⟨hr,hl4,WQ⟩:=fin (some (.goto t)) W3 tD;exact⟨_,_,hr,.inr ⟨rfl,.goto t,(hIx _).put _ (by simp) hi3,hl4,WQ⟩⟩|panic ch=>assumption|outgrown=>assumption
  ·rintro e W2⟨⟨v,rfl⟩,(⟨hi,hl,hk⟩|⟨pre,hSp,c,hi,hl,hk⟩)⟩;·exact⟨none,_,by have:=run_endLoop (P:=P) hl (by grind);rw[hrc]at this;omega,aj2 _ _ (Nat.le_refl _) (hI.put _ (by simp) hi) ((World.putObj_heap_other (by simp)).trans hk)⟩
   ·exact⟨some c,_,by have:=run_endLoop (P:=P) hl (by grind);rw[hrc]at this;omega,avs _ c pre _ (Nat.le_refl _) hSp ((hIx c).put _ (by simp) hi) ((World.putObj_heap_other (by simp)).trans hk)⟩
end
def vK(r:Option Nat):Fence:={Fence.wide with round:=r}
section
variable{r:Option Nat}{n:Nat}{P:Program}{o:Oper}{a:Act}{w:World}{K:Act→World→Prop}{Q:Exit→Act→World→Prop}{ops:Array Oper}{L:List Oper}
def LW(o:Oper):Prop:=∀c,o.op≠.defer c
def adS:List Oper→Bool|[]=>true|o::L=>(match o.op with|.defer _=>false|_=>true)&&adS L
def fU : ∀ {L : List Oper}, adS L = true → ∀ o ∈ L, LW o
  | [], _, o, ho => by cases ho
  | x :: L, h, o, ho => by
    unfold adS at h
    rw [Bool.and_eq_true] at h
    rcases List.mem_cons.1 ho with rfl | ho
    · intro c e
      rw [e] at h
      exact absurd h.1 (by simp)
    · exact fU h.2 o ho
theorem Yv (hd : LW o) (h : o.wp P a w K Q) : o.wpIn (vK r) n P a w K Q := by
  refine ⟨fun _ _ => trivial, ?_⟩
  show o.uponIn (vK r) n P a K Q ((o.semAt r a.eval).run P w)
  rw [Oper.semAt_eq r _ _ hd]
  unfold Oper.wp at h
  generalize (execOp a.eval o).run P w = z at h ⊢
  cases z with
  | ok nx w' =>
    cases nx with
    | value v => exact h
    | skip => exact h
    | enter f args => exact ⟨fun hd => (by cases hd), (jK (n := n - 1)).2 h⟩
    | row rw args => exact ⟨fun hd => (by cases hd), fun c cs hr => by
        obtain ⟨v, w2, q, s⟩ := h c cs
        exact ⟨v, w2, q, stepsIn_wide.2 s⟩⟩
    | _ => first|exact h|exact h.elim
  | halt hh w' =>
    cases hh <;> exact h
def agP(hq:¬LetsOut Q)(hd:∀o∈L,LW o)(h:wpList P ops Q L a w):wpListIn (vK r) n P ops Q L a w:=by
 induction L generalizing a w with|nil=>exact h|cons o L ih=>
  unfold wpList at h;unfold wpListIn;split at h;·rename_i hw;rw[if_pos hw];grind[Yv,Oper.wp_mono]
  ·rename_i hw;rw[if_neg hw];exact⟨fun _ _=>trivial,ih (fun o ho=>hd o ai) h⟩
def Qr(r:Option Nat)(n:Nat)(P:Program)(ops:Array Oper)(Q:Exit→Act→World→Prop)(M:List Oper):Exit→Act→World→Prop|.normal,a,w=>wpListIn (vK r) n P ops Q M a w|e,a,w=>Q e a w
theorem amH {M}(hq:¬LetsOut Q)(hd:∀o∈L,LW o)(h:wpList P ops (Qr r n P ops Q M) L a w):wpListIn (vK r) n P ops Q (L++M) a w:=by
 induction L generalizing a w with|nil=>exact h|cons o L ih=>
  unfold wpList at h;show wpListIn (vK r) n P ops Q (o::(L++M)) a w;unfold wpListIn;split at h;·rename_i hw;rw[if_pos hw];rcases h with h|h;have h1:=Yv (r:=r) (n:=n) (hd o ae) (EK (fun a w k=>ih (fun o ho=>hd o ai) k) h);exact aj;exact absurd h.2 (fun⟨a,w,k⟩=>hq ⟨a,w,k⟩)
  ·rename_i hw;rw[if_neg hw];exact⟨fun _ _=>trivial,ih (fun o ho=>hd o ai) h⟩
def XF k(hq:¬LetsOut Q)(hd:∀o∈L,LW o)(h:wpList P ops (Qr r n P ops Q (L.drop k)) (L.take k) a w):wpListIn (vK r) n P ops Q L a w:=by grind[amH,List.take_append_drop]
def asn {md}(hq:¬LetsOut Q)(hd:∀(i:Nat)(o),ops[i]?=some o→LW o):∀(fuel)(listed)(a)(w),wpAny P md ops Q fuel listed a w→wpAnyIn (vK r) n P md ops Q fuel listed a w:=by
 intro fuel;induction fuel with|zero=>intro listed a w h;exact h|succ fuel ih=>
  rintro listed a w⟨h0,h1⟩;refine⟨h0,fun i hi=>?_⟩;have h2:=h1 i hi;unfold wpOp at h2;unfold wpOpIn;rcases hx:ops[i]? with _|o;grind
  ·rw[hx]at h2;simp only[]at h2⊢;split at h2;·rename_i hw;rw[if_pos hw];grind[Yv,Oper.wp_mono]
   ·rename_i hw;rw[if_neg hw];exact⟨fun _ _=>trivial,ih _ _ _ h2⟩
def iZ {id}(hq:¬LetsOut Q)(hd:∀o∈L,LW o)(h:wpList P L.toArray Q L a w):(Code.region id L.toArray false).wpIn (vK r) n P Q a w:=va (agP hq hd h)
def LV iE {id}S(hm:P.follows .mixedOrders=true)(hq:¬LetsOut Q)(hd:∀o∈L,LW o)(hS:S w.drew)(h:S w.drew→Ord P .any L.toArray Q S iE L.length (Array.replicate L.length false) a w.drew):(Code.region id L.toArray true).wpIn (vK r) n P Q a w:=wpIn_region_any hm (asn hq (fun i o ho=>hd o ai) _ _ _ _ (by simpa using Ky _ _ _ _ (h hS)))
end
end Go.Proofs.YtlddafbgfkocjaaGreatDoor
