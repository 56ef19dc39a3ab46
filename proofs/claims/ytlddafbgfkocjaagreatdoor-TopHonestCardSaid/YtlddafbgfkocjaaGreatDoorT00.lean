/- A part of TopHonest. -/
import Derived.Handy
import Derived.Lib.Hide
import Derived.Test.YtlddafbgfkocjaaGreatDoorRows
import Derived.WalkKit
import Derived.WalkLawsBesides
import Derived.WalkSpells
namespace Go.RowKit
theorem Hid.o {p:Prop}(h:Hid p):p:=h.out
end Go.RowKit
namespace Go.Proofs.YtlddafbgfkocjaaGreatDoor
open Go.RowKit Go.Proofs.Tryz
set_option linter.all false
set_option maxRecDepth 1000000
set_option maxHeartbeats 400000000
abbrev Bz:=List UInt8
abbrev Ez:=List (Bz×Bz)
abbrev dM(n:FuncId)(a:Array Value)(w:World)(v:Value):Prop:=Calls prog n a w fun e w'=>e=.returned v∧Below w.heap.size w w'
abbrev al(n:Int):Value:=.int .i64 n
abbrev aD(g o:Nat):Addr:=⟨g,o,none⟩
abbrev aG(g:Nat):Value:=.pointer (some ⟨g,0,none⟩)
def ag {p:Prop}(h:p):Hid p:=h
def aZ {α:Sort _}(a:α):∃x,a=x:=⟨_,rfl⟩
def bu:=@bodyPost_ret
def au:=@Nat.le_refl
def aw:=@List.length_append
def aB:=@List.Sublist.refl
def aC:=@Nat.le_trans
def ax:=@List.set_cons_zero
def aJ:=@Below.refl
def az:=@List.set_cons_succ
def aI:=@Nat.zero_le
def bE:=@rounds_succ
def aO:=@List.mem_cons
def aY:=@Prod.mk.injEq
def zI:=@IntKind.wrap_i64
def bo:=@List.length_take
def aL:=@List.take_of_length_le
def aV:=@List.mem_cons_self
def aT:=@List.mem_of_getElem?
def bH:=@List.getElem_mem
def bz:=@List.append_assoc
def bG:=@List.length_cons
def bi:=@Nat.lt_of_lt_of_le
def bV:=@List.length_drop
def aQ:=@List.eraseIdx_cons_zero
def aW:=@List.getElem?_eq_getElem
def bJ:=@List.nil_append
def cK:=@Nat.zero_add
def aS:=@List.take_succ_eq_append_getElem
def bX:=@Exit.noGoto_ret
def cz:=@List.Perm.refl
def bT:=@Result.andThen_ok
def bf:=@List.getElem?_eq_some_iff
def cq:=@List.append_nil
def dw:=@Sem.run_bind
def bQ:=@List.mem_cons_of_mem
def ci:=@List.take_length
def cj:=@List.cons_append
def cG:=@List.mem_singleton
def bL:=@Array.getElem?_eq_some_iff
def dF:=@Nat.lt_or_ge
def cP:=@decide_eq_false
def cQ:=@List.mem_append
def cR:=@List.map_append
def el:=@info_parts
def cf:=@List.pairwise_cons
def dy:=@World.ownsRow_nil
def bD:=@Int.eq_ofNat_of_zero_le
def cZ:=@List.setIfInBounds_toArray
def eu:=@List.mem_map
def ef:=@Int.le_refl
def dG:=@wp_loop_rounds
def dO:=@Bool.and_eq_true
def dL:=@List.length_nil
def fE:=@beq_eq_false_iff_ne
def bO:=@List.getElem?_take_of_lt
def ff:=@setRow_heap
def cH:=@List.flatMap_append
def fy:=@wpIn_seq_k
def dU:=@decide_eq_true_eq
def dm:=@Array.getElem?_toList
def cU:=@List.getElem?_eq_none
def df:=@List.drop_of_length_le
def Av:=@Prod.mk.inj
def eL:=@decide_eq_true
def iW:=@List.mem_iff_getElem
def gW:=@Sem.run_pure
def dx:=@List.getElem?_toArray
def dh:=@List.eraseIdx_cons_succ
def fG:=@Int.toNat_natCast
def dZ:=@Nat.eq_zero_or_pos
def ea:=@List.length_pos_iff
def mZ:=@wpOp_step
def ly:=@List.getElem_cons_zero
def cn:=@List.eq_nil_of_length_eq_zero
def ze:=@results_tmp2
def fS:=@Nat.min_eq_left
def ej:=@List.getElem?_drop
def nZ:=@List.getElem_cons_succ
def dQ:=@Nat.pow_le_pow_right
def im:=@Nat.add_zero
def fR:=@List.length_map
def jx:=@wrap_small
def lM:=@Option.some.inj
def ie:=@run_underlying
def ji:=@List.map_cons
def kh:=@List.getElem?_map
def fl:=@List.drop_eq_getElem_cons
def tX:=@Ne.symm
def je:=@Decidable.em
def jy:=@ready_mono
def Cz:=@List.getElem_toArray
def jI:=@List.take_append_drop
def dX:=@List.getElem?_append_right
def jK:=@callsIn_wide
def qQ:=@UInt8.toNat_ofNat'
def fZ:=@run_convert_bytes_back
def eJ:=@Array.getElem?_eq_none
def iG:=@List.getElem_map
def mB:=@List.drop_drop
def gJ:=@Array.length_toList
def ig:=@List.flatMap_cons
def gG:=@List.pairwise_iff_getElem
def iH:=@wpList_store_row
def gX:=@Int.tmod_lt_of_pos
def nW:=@wpIn_wide
def gP:=@List.set_append_right
def fk:=@Array.getElem?_eq_getElem
def mA:=@heap_alloc_new
def iJ:=@Below.heap_setCell
def mN:=@Nat.le_of_eq
def jP:=@List.length_set
def jf:=@List.ext_getElem?
def fm:=@List.getElem?_append_left
def kX:=@List.all_eq_true
def iK:=@Bool.false_eq_true
def lF:=@Bool.true_and
def qd:=@mem_ready
def nX:=@Nat.pow_succ
def jB:=@BitVec.toNat_ofInt
def Iu:=@IntKind.wrap_u64
def jQ:=@Nat.not_lt_zero
def zK:=@IntKind.wrap_u32
def eX:=@Int.tmod_eq_emod_of_nonneg
def jR:=@wpIn_cond_false
def qe:=@wpIn_skip
def pq:=@Below.heap_alloc
def gZ:=@decide_eq_false_iff_not
def pu:=@Nat.mul_one
def qG:=@List.map_nil
def eK:=@Array.all_eq_true_iff_forall_mem
def jA:=@World.ownsRow.kept
def qw:=@List.take_left'
def mC:=@List.take_take
def lN:=@run_equalIn_int
def kW:=@List.not_mem_nil
def ia:=@World.block_lt_of_cell?
def kj:=@List.size_toArray
def mD:=@List.take_zero
def lO:=@wpList_load_row
def pz:=@World.size_alloc
def mE:=@Bool.false_and
def qb:=@wpOp_mono
def mF:=@wpIn_cond_true
def sI:=@cell_of_row
def kS:=@run_callFunc_extern
def mY:=@Lib.cell_of_heap
def jH:=@List.eq_nil_or_concat
def uE:=@wpList_plain
def uF:=@Nat.mul_comm
def oG:=@IntWalk.i64_in
def sK:=@of_decide_eq_true
def rf:=@List.drop_take
def lE:=@Nat.add_sub_cancel
def tk:=@List.cons.inj
def jJ:=@List.length_replicate
def na:=@Nat.min_le_right
def kT:=@Bool.or_eq_true_iff
def yi:=@Array.ext'
def EK:=@Oper.wp_mono
def kl:=@Array.replicate_succ
def km:=@Array.replicate_zero
def mi:=@List.push_toArray
def kU:=@List.append_toArray
def js:=@List.flatMap_singleton
def mO:=@Nat.mul_le_mul_right
def uC:=@Addr.add_lit
def ng:=@run_bytes_of_string
def mh:=@List.length_singleton
def qt:=@Oper.upon_value
def re:=@List.drop_zero
def uD:=@cell_one_new
def vV:=@Nat.add_mul
def qu:=@Int.tmod_nonneg
def tL:=@List.map_toArray
def wa:=@size_zeroCells
def pv:=@decide_eq_decide
def oL:=@run_storeCells_at
def xS:=@List.map_take
def tM:=@Nat.min_eq_right
def pw:=@List.take_append
def iT:=@List.take_append_of_le_length
def iU:=@List.drop_append_of_le_length
def qz:=@List.map_congr_left
def py:=@List.all_toArray
def nO:=@Bool.true_eq_false
def qv:=@List.drop_left'
def uG:=@Nat.zero_mul
def pA:=@forall_eq_or_imp
def vW:=@getD_set_ne
def ky:=@Array.setIfInBounds_comm
def mP:=@Region.noSelect_spec
def pB:=@Region.free_spec
def lz:=@Nat.div_div_eq_div_mul
def qx:=@UInt8.toNat_inj
def rg:=@UInt8.toNat_lt
def lS:=@Nat.two_pow_add_eq_or_of_lt
def nh:=@List.drop_succ_cons
def uH:=@Nat.add_comm
def vX:=@results_tmp
def vY:=@cell_of_one
def uI:=@results_none
def zJ:=@List.zipIdx_cons
def AO:=@run_loadVar_row
def nY:=@Option.map_eq_some_iff
def mu:=@Array.toList_setIfInBounds
def mS:=@List.getLast?_eq_getElem?
def tI:=@List.perm_middle
def pf:=@List.concat_eq_append
def sJ:=@wpList_append_own
def tJ:=@List.flatMap_map
def qy:=@bne_eq_false_iff_eq
def pG:=@World.cell?_alloc_lt
def pg:=@Lib.run_eql_slice_nil
def qR:=@Nat.eq_or_lt_of_le
def tK:=@List.drop_append
def pi:=@UInt8.lt_iff_toNat_lt
def wm:=@List.mem_eraseIdx_iff_getElem
def qS:=@run_equalIn_struct
def nJ:=@List.getElem?_cons_succ
def sM:=@List.getElem?_set
def tN:=@Option.getD_some
def tO:=@List.any_eq_true
def np:=@List.getElem_append_left
def qT:=@Nat.add_right_comm
def uZ:=@List.range_succ
def AP:=@List.foldl_cons
def va:=@wpIn_region_lit
def qA:=@List.take_succ_cons
def qU:=@List.map_singleton
def tP:=@Lib.BuilderAt.lt
def ab {G:Prop}(h:G:=by omega):G:=h
def ad {G:Prop}(h:G:=by kernel_rfl):G:=h
def ae {G:Prop}(h:G:=by simp):G:=h
def aH {G:Prop}(h:G:=by exact⟨_,rfl,hM.Ig aX,hM.below⟩):G:=h
def aE {G K:Prop}(k:K)(h:Hid K→G:=by intro kz;refine hK.out _ _ hM.sub (fun hS=>?_);exact kz.o):G:=h (Lib.hid k)
def ar {G K:Prop}(k:K)(h:Hid K→G:=by intro kz;refine bu (frr hM) rfl ?_;exact kz.o):G:=h (Lib.hid k)
def ah {G:Prop}(h:G:=by decide):G:=h
def aj {G:Prop}(h:G:=by assumption):G:=h
def tZ {G K:Prop}(k:K)(h:Hid K→G:=by intro kz;refine cF hM (J:=Lb _ _ s d _ ca cb _ _ n n) (((hM.st rx).and ((hM.st fw).and (hM.st eQ))).and ((hM.st aX).mono fun W h=>⟨h.cell 0,h.cell 1⟩)) (Mh true false d s _ ca cb _ _ n n _ ⟨⟨hM.get rx,hM.get fw,hM.get eQ⟩,(hM.get aX).cell 0,(hM.get aX).cell 1⟩ hW) ?_;exact kz.o):G:=h (Lib.hid k)
def rY {G K:Prop}(k:K)(h:Hid K→G:=by intro kz;refine ib 0 182 hS ?_;refine ib 1 183 hS ?_;refine ib 2 184 hS ?_;refine ib 3 185 hS ?_;refine ib 4 186 hS ?_;refine yG 5 187 rfl (by rintro _ k1;go_simp;all_goals with_reducible rfl) hS ?_;refine ib 6 188 hS ?_;refine ib 7 189 hS ?_;exact kz.o):G:=h (Lib.hid k)
def ai {G:Prop}(h:G:=by grind):G:=h
def aK {G:Prop}(h:G:=by exact⟨rfl,hM.below⟩):G:=h
def dD {G K:Prop}(k:K)(h:Hid K→G:=by intro kz;refine hK.out _ _ (fun W=>Fm _ _ _ W _ _ _) hM (fun hS=>?_);exact kz.o):G:=h (Lib.hid k)
theorem aq {G:Prop}(h:G:=by rfl):G:=h
def aN {G K:Prop}(k:K)(h:Hid K→G:=by intro kz;refine rK ?_;refine rC ?_;exact kz.o):G:=h (Lib.hid k)
def jm {G:Prop}(h:G:=by clear hv;go_enter func216,ntmps216;go_wp2;go_ret;exact⟨rfl,rfl⟩):G:=h
def bU {G K:Prop}(k:K)(h:Hid K→G:=by
 intro kz;with_reducible refine BC ?_
 exact kz.o):G:=h (Lib.hid k)
def bC {G:Prop}(h:G:=by simp[intOf];omega):G:=h
def dE {G:Prop}(h:G:=by rw[cw];omega):G:=h
def aR {G:Prop}(h:G:=by simp;omega):G:=h
def dp {G:Prop}(h:G:=by exact hM.get aX):G:=h
def db {G K:Prop}(k:K)(h:Hid K→G:=by
 intro kz;with_reducible refine OI ?_
 exact kz.o):G:=h (Lib.hid k)
def fj {G:Prop}(h:G:=by go_simp;all_goals with_reducible rfl):G:=h
def bW {G K:Prop}(k:K)(h:Hid K→G:=by intro kz;refine rK ?_;refine rS ?_;exact kz.o):G:=h (Lib.hid k)
def gB {G:Prop}(h:G:=by rintro⟨a,w,h⟩;exact h):G:=h
def cE {G:Prop}(h:G:=by rw[zI];omega):G:=h
def gA {G K:Prop}(k:K)(h:Hid K→G:=by intro kz;go_simp;refine hK.out _ _ hS (fun hS=>?_);exact kz.o):G:=h (Lib.hid k)
def oE {G:Prop}(h:G:=by go_enter func204,ntmps204;go_wp2_with fail;go_ret;simp[uB,amw]):G:=h
def oA {G:Prop}(h:G:=by go_enter func234,ntmps234;go_wp2_with fail;go_ret;exact⟨rfl,rfl⟩):G:=h
def nz {G K:Prop}(k:K)(h:Hid K→G:=by intro kz;refine(HB.o _ (HV.o.step hM.below) (HT.step hM.below)).mono ?_;exact kz.o):G:=h (Lib.hid k)
def nt {G:Prop}(h:G:=by exact⟨eV,rfl,(fun W _ _ _=>di.nil W),hM.below⟩):G:=h
def ny {G:Prop}(h:G:=by rintro e w1⟨rfl,hb⟩;go_wp2;go_ret;exact⟨rfl,hb⟩):G:=h
def JS {G:Prop}(h:G:=by
 have hE:eM s=(OQ,10):=by simp only[vA]at*;simp only[eM, *];rw[if_neg (by simp_all)]
 rw[hE];exact⟨⟨eV,eV,eV,eV⟩,rfl,(fun W _ _ _=>⟨⟨di.nil W,di.nil W⟩,di.nil W,di.nil W⟩),hM.below⟩):G:=h
def sf {G:Prop}(h:G:=by simp[go_sem]):G:=h
def gz {G:Prop}(h:G:=by unfold maxLen;omega):G:=h
def JE {G:Prop}(h:G:=by have hs:=HOi.o.dq i (.int .u8 ((FD Y i).toNat:Int));rw[Ym,WU Y h1]at hs;have hv:=HV2.o;rw[HVV.o]at hv;simp only[Nat.reducePow,Nat.reduceSub]at hv;rw[hv]at hs;exact hs):G:=h
def xy {G K:Prop}(k:K)(h:Hid K→G:=by intro kz;refine hK.out _ _ (fun W=>Mem _ _ W _ _) hM (fun hS=>?_);exact kz.o):G:=h (Lib.hid k)
def ul {G:Prop}(h:G:=by rintro⟨a,w,h⟩;(obtain⟨⟨v,h⟩,_⟩:=h;cases h)):G:=h
def fF {G:Prop}(h:G:=by simpa using h1):G:=h
def SU {G:Prop}(h:G:=by refine rT ?_;refine((HS _ _).out (Fm.perm hM (avg _ _ _ _) (cz _))).mono ?_;rintro e wN⟨c2,rfl,Fl,eI⟩;have hM:=eI;clear eI;refine rU ?_;go_wp2_with fail;go_ret;refine⟨c2,rfl,Fl,?_⟩;rw[Fl.2];exact Fm.perm (hM.less (List.Sublist.cons_cons _ (List.Sublist.cons _ (aB _))) (aB _) (fun Q hQ=>hQ)) (List.Perm.swap _ _ _) (cz _)):G:=h
def xr {G K:Prop}(k:K)(h:Hid K→G:=by intro kz;go_at_call 339;refine cB hM (qK.o _ (by first|exact hM.get eQ|exact hM.get fw)) ?_;exact kz.o):G:=h (Lib.hid k)
def gU {G:Prop}(h:G:=by exact hM.st aX):G:=h
def Te {G:Prop}(h:G:=by simp only[aY]at hr;obtain⟨rfl,rfl,rfl⟩:=hr;go_enter func109,ntmps109;go_wp2_with fail;refine(Oo s b c g _ H.o c0 c1 hs m s1 b1 Ht.o).mono ?_;rintro e w1⟨rfl,tB,AM⟩;go_wp2_with fail;refine(sH s1 b1 g _ tB).mono ?_;rintro e w2⟨rfl,vt,AL⟩;go_wp2;go_ret;exact⟨rfl,vt,jq AM AL⟩):G:=h
def lr {G K:Prop}(k:K)(h:Hid K→G:=by intro kz;go_at_call 216;refine cS hM (HC.o _) ?_;exact kz.o):G:=h (Lib.hid k)
def JU {G:Prop}(h:G:=by exact⟨_,10,rfl,(fun h=>by have q:=CR H_m.o HAa.o HTb.o HAc.o HTd.o h;(exfalso;have q1:=q.1.1;have q2:=q.2.1.1;simp_all<;>omega)),hM.below⟩):G:=h
def gT {G:Prop}(h:G:=by simpa using h):G:=h
def Jh {G K:Prop}(k:K)(h:Hid K→G:=by intro kz;go_simp;refine(anT T d s q _ _ _ _ ⟨(hM.get aX).here.1.2 _ (aT HL.o),(hM.get aX).here.2,HT.o _ (hM.get aX).here.1.1⟩ HW.o HB.o.1.2.2.2 HB.o.2).mono ?_;exact kz.o):G:=h (Lib.hid k)
def fh {G:Prop}(h:G:=by exact aX):G:=h
def JQ {G:Prop}(h:G:=by go_ret;exact⟨x2,s2,b,rfl,h1,hM.less (List.Sublist.cons_cons _ (List.Sublist.cons_cons _ (List.Sublist.cons _ (aB _)))) (aB _) (fun Q hQ=>hQ)⟩):G:=h
def nv {G:Prop}(h:G:=by show a.length≤_;omega):G:=h
def nu {G:Prop}(h:G:=by show b.length≤_;omega):G:=h
def oy {G:Prop}(h:G:=by exact⟨eV,rfl,akC,hM.below⟩):G:=h
def DL {G:Prop}(h:G:=by rw[Zk.o,HB.o,←bz,HMM.o];have hN:=hM.sub (l':=[(g1,69,_)]);simpa[Lib.byteCells]using hN):G:=h
def fg {G:Prop}(h:G:=by exact eQ):G:=h
def Tp {G:Prop}(h:G:=by go_wp2_with fail;refine(At s b c g _ H.o c0 c1 hs m s1 b1 Ht.o).mono ?_;rintro e w1⟨rfl,tB,AM⟩;obtain⟨d0,d1,f0,f1⟩:=BU tB;have WV:=ag tB;clear tB;go_wp2;go_ret;exact⟨rfl,aM.dq WV.o 1 _,jq AM (ja _ g 1 _)⟩):G:=h
def Kg {G:Prop}(h:G:=by clear hP h;go_enter func228,ntmps228;go_wp2_with fail;go_step3;go_wp2_with fail;rw[bX];go_ret;exact⟨_,_,_,rfl,dy _ _ _ _,hM.below⟩):G:=h
def kE {G:Prop}(h:G:=by simp[intOf]<;>omega):G:=h
def Ao {G:Prop}(h:G:=by have:=Av hC;exact⟨this.1,(Av this.2).1,(Av this.2).2⟩):G:=h
def JO {G:Prop}(h:G:=by
 go_enter func294,ntmps294;go_wp2_with fail;all_goals refine bu (ze rfl _ _ _) rfl ?_
 all_goals(exact⟨by simp[wt, *],rfl⟩)):G:=h
def jE {G:Prop}(h:G:=by grind[iM]):G:=h
def JC {G K:Prop}(k:K)(h:Hid K→G:=by intro kz;go_simp;refine(xW _ ge T m (ks++(zs++L8)) HM.o hS.2.2.1 HPT.o (by rw[HML.o];simp only[aw];rw[HL8.o,HKL.o,HZL.o];omega)).mono ?_;exact kz.o):G:=h (Lib.hid k)
def nA {G K:Prop}(k:K)(h:Hid K→G:=by intro kz;refine cB hM (HHD _ (hM.get aX)).out ?_;exact kz.o):G:=h (Lib.hid k)
def oC {G K:Prop}(k:K)(h:Hid K→G:=by intro kz;simp only[Act.put,cZ,List.set,Cz,ly,nZ];exact kz.o):G:=h (Lib.hid k)
def SN {G:Prop}(h:G:=by
 have nR:(ByteArray.mk l.toArray).size=l.length:=by simp[ByteArray.size]
 cases hq:P.info? elem with|none=>simp[hq]at hs|some i=>simp[str,Builtin.copy_,ie hu,Builtin.lenOf,Builtin.firstCells,sizeOf,typeInfo,hq,nR];rw[Bt,iq];simp[Result.andThen]):G:=h
def JN {G:Prop}(h:G:=by
 go_enter func294,ntmps294;go_wp2_with fail;all_goals refine bu (ze rfl _ _ _) rfl ?_
 all_goals exact⟨by simp[wt],rfl⟩):G:=h
def Ad {G K:Prop}(k:K)(h:Hid K→G:=by intro kz;go_at_call 217;refine cF hM (hM.st aX) (jj d s _ _ _ _ (hM.get aX)) ?_;exact kz.o):G:=h (Lib.hid k)
def xC {G K:Prop}(k:K)(h:Hid K→G:=by intro kz;refine dR 9 9 hS ?_;refine dR 10 19 hS ?_;refine dR 11 20 hS ?_;exact kz.o):G:=h (Lib.hid k)
def iQ {G K:Prop}(k:K)(h:Hid K→G:=by intro kz;refine EM hM (d:=some 3) ?_;exact kz.o):G:=h (Lib.hid k)
def Tl {G K:Prop}(k:K)(h:Hid K→G:=by intro kz;refine rL ?_;refine Ki (UH (u:=al ((k:Int)-1)) ?_ (hy:=by intro _ _;go_simp));refine rL ?_;refine Ki (UH (u:=.pointer (some (aD g (o+(k-1)*34)))) ?_ (hy:=by intro _ _;go_simp));refine rL ?_;refine Ki (UH (u:=.bool false) ?_ (hy:=by intro _ _;go_simp;done));exact kz.o):G:=h (Lib.hid k)
def Dj {G:Prop}(h:G:=by intro q u hq;match q,hq with|0,hq=>cases hq;exact this.1|1,hq=>cases hq;exact this.2):G:=h
def Th {G:Prop}(h:G:=by go_enter func161,ntmps161;go_wp2_with fail;refine(abz a r g _ H.o).mono ?_;rintro e w1⟨rfl,rfl⟩;go_wp2_with fail;refine(sH (a::r) false g _ H.o).mono ?_;rintro e w1⟨rfl,hr,hu⟩;go_wp2;go_ret;exact⟨rfl,hr,hu⟩):G:=h
def JP {G:Prop}(h:G:=by exact hM.less (List.Sublist.cons_cons _ (List.Sublist.cons_cons _ (List.Sublist.cons _ (aB _)))) (aB _) (fun Q hQ=>hQ)):G:=h
def se {G:Prop}(h:G:=by go_grown):G:=h
def oB {G:Prop}(h:G:=by rw[yt];omega):G:=h
def SZ {G:Prop}(h:G:=by
 have hE:dS (s,b)=([],zA,false,Le,Lf):=by simp only[vA]at*;simp only[dS, *];rw[if_neg (by simp_all)]
 rw[hE];exact⟨eV,eV,rfl,(fun W _ _ _=>⟨di.nil W,di.nil W⟩),hM.mem.at_ fw,hM.mem.grown⟩):G:=h
def SJ {G:Prop}(h:G:=by
 unfold Lib.byteCells;rw[←xS];congr 1;rcases Nat.le_total l.length tF with h|h;·rw[show Nat.min l.length tF=l.length from fS h,aL (au _),aL h]
 ·rw[show Nat.min l.length tF=tF from tM h]):G:=h
def rP {G:Prop}(h:G:=by exact⟨_,rfl,(hM.Ig aX),hM.below⟩):G:=h
def Jk {G K:Prop}(k:K)(h:Hid K→G:=by intro kz;go_wp2_with fail;refine rB [] [0,1,2,999,3,4,5,6,7,8,9,10,11,12,13,14,15,16,17,18,19,20,999,21,22,23,24,25,26,27,28,29,30,31,32,33] ?_;exact kz.o):G:=h (Lib.hid k)
def kC {G:Prop}(h:G:=by simpa using h3):G:=h
def DM {G:Prop}(h:G:=by have h7:(256:Nat)^7=72057594037927936:=rfl;omega):G:=h
def jD {G K:Prop}(k:K)(h:Hid K→G:=by intro kz;refine qI hM (d:=some 2) ?_;exact kz.o):G:=h (Lib.hid k)
def Jf {G:Prop}(h:G:=by go_ret;refine⟨?_,hM.below⟩;rw[HR.o,if_neg (by intro k;simp only[dO,dU]at k eF;omega)];rfl):G:=h
def xx {G:Prop}(h:G:=by rintro _⟨k1,k2,k3⟩;go_simp;rfl):G:=h
def Ag {G K:Prop}(k:K)(h:Hid K→G:=by intro kz;refine GC hM rfl (some 3) rfl 37 _ rfl (v:=.agg _) rfl ?_;exact kz.o):G:=h (Lib.hid k)
def SI {G:Prop}(h:G:=by
 subst he;subst hw;by_cases h:b=true∨s≠[];·have:mV (s,b)=10:=if_pos h;rw[this];exact k1 _ (ag this) hM
 ·have:mV (s,b)=0:=if_neg h;rw[this];exact k0 _ (ag this) hM):G:=h
def lm {G:Prop}(h:G:=by exact hM.sub (hr:=aB _)):G:=h
def Jm {G K:Prop}(k:K)(h:Hid K→G:=by intro kz;go_at_call 270;refine cF hM ((hM.st eQ).and (hM.st aX)) (BI _ _ _ _ _ _ _ ic _ (hM.get eQ) (hM.get aX)) ?_;exact kz.o):G:=h (Lib.hid k)
def jl {G:Prop}(h:G:=by rw[hv];simp):G:=h
def Af {G K:Prop}(k:K)(h:Hid K→G:=by intro kz;refine th hM rfl (some 6) rfl 37 rfl zeroValue37 ?_;exact kz.o):G:=h (Lib.hid k)
def xF {G:Prop}(h:G:=by go_wp2_with fail;go_ret;exact⟨rfl,0,rfl⟩):G:=h
def Ae {G:Prop}(h:G:=by rintro _⟨k1,k2,k3,k4⟩;go_simp;rfl):G:=h
def De {G K:Prop}(k:K)(h:Hid K→G:=by intro kz;go_at_call 217;refine cF hM (hM.st aX) (jj _ _ _ _ _ _ (hM.get aX)) ?_;exact kz.o):G:=h (Lib.hid k)
def nr {G:Prop}(h:G:=by rw[fE];omega):G:=h
def kD {G K:Prop}(k:K)(h:Hid K→G:=by intro kz;go_simp;refine hK.out _ _ ?_;exact kz.o):G:=h (Lib.hid k)
def RX {G:Prop}(h:G:=by
 have hm:t∈jd:=by rw[←Nt.o];exact bH h1
 simp only[vA]at*;simp only[gK,DY,Gu,H_p,Gt,UI];rw[if_neg];intro h;have h2:=h.1 t hm;simp_all):G:=h
def DI {G K:Prop}(k:K)(h:Hid K→G:=by intro kz;rw[bE];go_wp2_with fail;refine rB [13] [0,1,2,3,4,5,6,7,8,9,10,11,12,13,14] ?_;exact kz.o):G:=h (Lib.hid k)
def ll {G K:Prop}(k:K)(h:Hid K→G:=by intro kz;refine rK ?_;go_wp2_with fail;exact kz.o):G:=h (Lib.hid k)
def JM {G:Prop}(h:G:=by cases n with|zero=>exact⟨hn,hQ⟩|succ n=>exact⟨fun _=>hQ,by rw[hn];simp⟩):G:=h
def JX {G:Prop}(h:G:=by go_enter func49,ntmps49;go_wp2;go_ret;exact⟨rfl,aM.dq H.o 1 _,ja w g 1 _⟩):G:=h
def RJ {G:Prop}(h:G:=by go_wp2_with((refine bw ?_;intro gN wN hM));go_ret;exact⟨(_,_),rfl,((hM.apX eQ).and (hM.apX aX)).mono (fun _ h=>h) (fun _ h=>anK h),hM.below⟩):G:=h
def Tn {G:Prop}(h:G:=by rintro e w2⟨rfl,ft⟩;have PO:=ag (aM.step Hr1.o ft);have AL:=jq AM (pR ft (some g));clear ft;go_wp2;go_ret;exact⟨rfl,PO.o,AL⟩):G:=h
def mm {G:Prop}(h:G:=by simpa using h2):G:=h
def Ak {G K:Prop}(k:K)(h:Hid K→G:=by intro kz;(with_reducible refine BC (d:=some 8) ?_);refine bw ?_;exact kz.o):G:=h (Lib.hid k)
def zZ {G K:Prop}(k:K)(h:Hid K→G:=by intro kz;go_at_call 25;refine cB hM (rD c _ (hM.get aX)) ?_;exact kz.o):G:=h (Lib.hid k)
def rX {G:Prop}(h:G:=by simp only[];omega):G:=h
def Ai {G:Prop}(h:G:=by intro e;injection e with e;omega):G:=h
def iR {G K:Prop}(k:K)(h:Hid K→G:=by intro kz;go_wp2_with fail;rw[bE];exact kz.o):G:=h (Lib.hid k)
def SV {G:Prop}(h:G:=by go_ret;exact⟨x2,s2,b,rfl,⟨h1,h2,h3⟩,hM.less (List.Sublist.cons_cons _ (List.Sublist.cons_cons _ (List.Sublist.cons _ (aB _)))) (aB _) (fun Q hQ=>hQ)⟩):G:=h
def SA {G:Prop}(h:G:=by unfold Oper.wp execOp;simp only[ho,resolve,invoke,builtin,dw,gW,bT,tL,ji,qG,hx,hy,lu];exact h _ (hM.oJ j hj (ff _ _ _ _ _ _ hb) (FT _ _ _))):G:=h
def tY {G K:Prop}(k:K)(h:Hid K→G:=by intro kz;refine cF hM jh.EL (ahe _ _ _) ?_;exact kz.o):G:=h (Lib.hid k)
def Ah {G K:Prop}(k:K)(h:Hid K→G:=by intro kz;refine Zo rfl _ _ _ _ rfl rfl rfl (HCP.o _) ?_;exact kz.o):G:=h (Lib.hid k)
def Sm {G:Prop}(h:G:=by go_enter func211,ntmps211;go_wp2_with(first|(refine aP ?_)|(refine bx ?_;intro wN hM));go_end0;exact⟨⟨_,rfl⟩,hM.mem.at_ aX,hM.mem.grown⟩):G:=h
def RP {G:Prop}(h:G:=by
 rcases aO.1 hq with rfl|hq;·exact((h1.st (i:=1) rfl).and (h1.st (i:=0) rfl)).mono fun W hr=>zR.and hr.1 hr.2
 ·exact h1.fact _ (bQ _ (bQ _ hq))):G:=h
def mr {G K:Prop}(k:K)(h:Hid K→G:=by intro kz;refine qI hM (d:=some 5) ?_;exact kz.o):G:=h (Lib.hid k)
def nw {G:Prop}(h:G:=by simpa using h0):G:=h
def io {G K:Prop}(k:K)(h:Hid K→G:=by intro kz;refine⟨?_,hM.below⟩;exact kz.o):G:=h (Lib.hid k)
def JW {G:Prop}(h:G:=by injection h with h2 h3;injection h3 with h3 h4;exact⟨h2.symm,h3.symm,h4.symm⟩):G:=h
def rV {G:Prop}(h:G:=by rw[HV.o];exact hc):G:=h
def RN {G:Prop}(h:G:=by
 have hp':tmps[p]?.getD undef=.pointer (some (aD g 0)):=by simp_all
 simp[results,h,hp',asAddr,AO w g t ty cs (0,0) d hg hu hd hi]):G:=h
def Ti {G:Prop}(h:G:=by
 rcases Lc with _|⟨x,_|⟨y,_|⟨z,l⟩⟩⟩;·exfalso;simp_all
 ·exfalso;simp_all
 ·exact⟨x,y,rfl⟩
 ·exfalso;simp_all<;>omega):G:=h
def DE {G:Prop}(h:G:=by rintro _⟨k1,k2,k3,k4,k5⟩;go_simp;rfl):G:=h
def xD {G K:Prop}(k:K)(h:Hid K→G:=by intro kz;refine(HA.o _ (HV.o.step hM.below)).mono ?_;exact kz.o):G:=h (Lib.hid k)
def Kh {G:Prop}(h:G:=by subst ha;exact wT i _ hi hd hs hf hr iq hQ nC hy hS h):G:=h
def oz {G:Prop}(h:G:=by simpa using he):G:=h
def xt {G:Prop}(h:G:=by show c.length≤_;omega):G:=h
def SM {G:Prop}(h:G:=by refine uE hg fun K' hK'=>?_;unfold Oper.wp;simp[execOp,QH,resolve,invoke,builtin,hd,hx,lu,Result.andThen];exact hK' _ _ hK):G:=h
def Df {G K:Prop}(k:K)(h:Hid K→G:=by intro kz;refine cF hM (hM.st aX) (Mv _ _ _ _ _ _ _ (hM.get aX) hW) ?_;exact kz.o):G:=h (Lib.hid k)
def ud {G K:Prop}(k:K)(h:Hid K→G:=by intro kz;refine rB [] [0,1,2,3,4,5,6,7,8,9,10] ?_;exact kz.o):G:=h (Lib.hid k)
def Tj {G:Prop}(h:G:=by exact⟨_,10,rfl,(fun h=>by have q:=CR H_m.o HAa.o HTb.o HAc.o HTd.o h;exact Bool.noConfusion (HXb.o q.1.2)),hM.below⟩):G:=h
def uh {G:Prop}(h:G:=by show min _ _=_;omega):G:=h
def Db {G K:Prop}(k:K)(h:Hid K→G:=by intro kz;refine rB [] [0,1,2,3,4,5,6,7,8,9,10,11,12,13,14,15,16,17,18,19] ?_;exact kz.o):G:=h (Lib.hid k)
def Jy {G:Prop}(h:G:=by exact mZ hoi fun K hK=>h1 K (fun b v hS hW=>hK b v (.inr ⟨hS,hW hS⟩))):G:=h
def ub {G:Prop}(h:G:=by rw[bo];omega):G:=h
def af9 {G K:Prop}(k:K)(h:Hid K→G:=by intro kz;go_enter func72,ntmps72;go_wp2_with fail;refine(BA _ h g x HX.o).mono ?_;rw[hbr];exact kz.o):G:=h (Lib.hid k)
def To {G:Prop}(h:G:=by rintro e w1⟨rfl,tB,AM⟩;obtain⟨d0,d1,f0,f1⟩:=BU tB;have WV:=ag tB;clear tB;go_wp2;go_ret;exact⟨rfl,WV.o,AM⟩):G:=h
def SR {G:Prop}(h:G:=by
 refine⟨h.1,?_⟩;rcases h.2 with h1|⟨g,cap,cur,h1,h2,h3⟩;·grind
 ·exact .inr ⟨g,cap,cur,h1,aC hB h2,h3⟩):G:=h
def Dh {G K:Prop}(k:K)(h:Hid K→G:=by intro kz;refine cF hM (hM.st eQ) (jj d s _ _ _ _ (hM.get eQ)) ?_;exact kz.o):G:=h (Lib.hid k)
def oD {G K:Prop}(k:K)(h:Hid K→G:=by intro kz;go_enter func19,ntmps19;go_wp2;exact kz.o):G:=h (Lib.hid k)
def Ac {G:Prop}(h:G:=by show x.id.length≤_;omega):G:=h
def DJ {G:Prop}(h:G:=by exact⟨8,_,_,_,au _,rfl,rfl,by simpa using hM⟩):G:=h
def Di {G:Prop}(h:G:=by rcases hk with hk|hk<;>(rw[hk];simp)):G:=h
def ui {G:Prop}(h:G:=by exact Yk rfl):G:=h
def ug {G:Prop}(h:G:=by have:=HN.o;omega):G:=h
def ip {G:Prop}(h:G:=by go_num):G:=h
def xm {G:Prop}(h:G:=by simp[Value.oneCell']):G:=h
def SF {G:Prop}(h:G:=by
 subst h1;rcases hn with rfl|rfl;·exact k0 w' (ag rfl) (hM.step h2)
 ·exact k1 w' (ag rfl) (hM.step h2)):G:=h
def rZ {G K:Prop}(k:K)(h:Hid K→G:=by intro kz;refine hK.out _ _ WR (fun hS=>?_);exact kz.o):G:=h (Lib.hid k)
def Am {G:Prop}(h:G:=by exact⟨_,0,rfl,fun _=>rfl,hM.below⟩):G:=h
def lq {G K:Prop}(k:K)(h:Hid K→G:=by intro kz;go_enter func167,ntmps167;exact kz.o):G:=h (Lib.hid k)
def Tm {G K:Prop}(k:K)(h:Hid K→G:=by intro kz;refine de 0 (some 50) hS ?_;refine dR 1 51 hS ?_;refine de 2 (some 52) hS ?_;refine dR 3 53 hS ?_;refine dR 4 54 hS ?_;refine de 5 (some 55) hS ?_;exact kz.o):G:=h (Lib.hid k)
def Do {G K:Prop}(k:K)(h:Hid K→G:=by intro kz;refine(QZ _ _ d (HV.o.step hM.below) HL.o).mono ?_;exact kz.o):G:=h (Lib.hid k)
def pN {G K:Prop}(k:K)(h:Hid K→G:=by
 intro kz;with_reducible refine akd ?_
 exact kz.o):G:=h (Lib.hid k)
def DN {G:Prop}(h:G:=by rw[ZR.o,xN];simpa using hN):G:=h
def CX {G:Prop}(h:G:=by simp only[aw,bG,dL,cK]at hM⊢;exact hM.sub):G:=h
def Aj {G:Prop}(h:G:=by simpa using EA.o):G:=h
def Ji {G K:Prop}(k:K)(h:Hid K→G:=by intro kz;refine dR 4 8 hS ?_;refine dR 5 13 hS ?_;refine dR 6 14 hS ?_;refine dR 7 15 hS ?_;exact kz.o):G:=h (Lib.hid k)
def JF {G:Prop}(h:G:=by intro v hv;unfold eY at hv;obtain⟨c,-,rfl⟩:=eu.1 hv;rfl):G:=h
def rQ {G:Prop}(h:G:=by simpa using wj):G:=h
def SQ {G:Prop}(h:G:=by rintro rfl;unfold aM at h h';rw[h]at h';injection h' with h';injection h' with _ h4 _;exact ht h4):G:=h
def Tk {G:Prop}(h:G:=by
 split at k;·rename_i q;injection k with k1 k2;subst k1;exact⟨q.1,q.2.1,q.2.2,rfl⟩
 ·injection k with k1 k2;cases k2):G:=h
def TA {G:Prop}(h:G:=by rintro e w'⟨c',rfl,⟨hS,hcg⟩,uo⟩;exact⟨{x with c:=c'},_,_,rfl,hx.sub hS (fun _=>hg),aja _ _,rfl,uo⟩):G:=h
def Dk {G:Prop}(h:G:=by rw[iI]<;>simp<;>omega):G:=h
def Dw {G K:Prop}(k:K)(h:Hid K→G:=by intro kz;(with_reducible refine OI (d:=some 2) ?_);refine bw ?_;exact kz.o):G:=h (Lib.hid k)
def JV {G K:Prop}(k:K)(h:Hid K→G:=by intro kz;go_at_call 49;(with_reducible refine gD 99 ?_);refine mM (c:=99) hM (k:=?_);exact kz.o):G:=h (Lib.hid k)
def DF {G:Prop}(h:G:=by exact⟨_,rfl,HSD.o,rfl,hg.o,hM.below⟩):G:=h
def rW {G:Prop}(h:G:=by rw[hk];simp):G:=h
def mn {G K:Prop}(k:K)(h:Hid K→G:=by intro kz;refine rK ?_;refine rN ?_;exact kz.o):G:=h (Lib.hid k)
def xA {G:Prop}(h:G:=by simp[nF,eY,Y8.l,H.1]):G:=h
def TE {G:Prop}(h:G:=by go_wp2_with fail;go_ret;rw[HRR.o,HG.o];exact⟨v7,aji,rfl,by have:=HCA.o;omega,HD9.o,HX9.o,HT9.o⟩):G:=h
def Dt {G:Prop}(h:G:=by unfold tS;rw[h.mf.bytes,fG]):G:=h
def si {G:Prop}(h:G:=by cases e;omega):G:=h
def RY {G:Prop}(h:G:=by simp only[vA]at*;simp only[gK,DY,Gu,H_p,Gt,UI];rw[if_neg (by intro h;simp_all)]):G:=h
def Ty {G:Prop}(h:G:=by
 by_cases hE:R=[];·grind
 ·have hp:0<R.length:=ea.2 hE;obtain⟨g,o,h⟩:=h.some_ hp;grind):G:=h
def SL {G:Prop}(h:G:=by rw[HR.o];show(ByteArray.mk (r.drop k).toArray).size<(ByteArray.mk r.toArray).size;simp[ByteArray.size];omega):G:=h
def Dp {G:Prop}(h:G:=by simp[xU,Lib.compareBytes]at h):G:=h
def pM {G K:Prop}(k:K)(h:Hid K→G:=by intro kz;refine qI hM (d:=some 4) ?_;exact kz.o):G:=h (Lib.hid k)
def pO {G K:Prop}(k:K)(h:Hid K→G:=by intro kz;refine EM hM (d:=some 7) ?_;exact kz.o):G:=h (Lib.hid k)
def SG {G K:Prop}(k:K)(h:Hid K→G:=by intro kz;refine uq (w':=w.alloc (.cells (a.eval x).cells t)) (v:=.pointer (some (aD w.heap.size 0))) ?_ (h _ _ (hM.Ar t _));unfold execOp;exact kz.o):G:=h (Lib.hid k)
def JI {G:Prop}(h:G:=by exact((((MM.o.dq 0 _).dq 1 _).dq 2 _).dq 3 _)):G:=h
def Dz {G:Prop}(h:G:=by have:=Vi.o.2.2 x hx;omega):G:=h
def So {G:Prop}(h:G:=by exact⟨eV,⟨eV,eV,eV,eV⟩,rfl,(fun W _ _ _=>⟨di.nil W,alA W⟩),hM.below⟩):G:=h
def Sa {G K:Prop}(k:K)(h:Hid K→G:=by intro kz;refine Ki ?_;refine UH (u:=.bool true) ?_ (hy:=by intro _ _;go_simp;exact H0.o);refine rL ?_;refine rC ?_;refine cB hM (HF1.o _) ?_;exact kz.o):G:=h (Lib.hid k)
def xz {G:Prop}(h:G:=by simp[nF,Y8.l]):G:=h
def Jg {G K:Prop}(k:K)(h:Hid K→G:=by intro kz;go_at_call 167;refine cDo hM HX.o fw aX yF HWk.o HPO.o HDo.o ?_;exact kz.o):G:=h (Lib.hid k)
def RW {G:Prop}(h:G:=by go_ret;have HV2:qf 115 D=V:=HV.o;exact⟨by rw[HX.o,HY.o,HZ.o,HU.o,HV2];rfl,hM.below⟩):G:=h
def Ts {G:Prop}(h:G:=by
 split;·rename_i hw;rw[if_pos hw]at h;exact EK hk h
 ·rename_i hw;rw[if_neg hw]at h;exact hk _ _ h):G:=h
def zY {G K:Prop}(k:K)(h:Hid K→G:=by intro kz;refine cF hM jh.EL (ahd _ _ _) ?_;exact kz.o):G:=h (Lib.hid k)
def RR {G:Prop}(h:G:=by
 rcases h.form with⟨h1,rfl⟩|⟨g,o,cap,h1,_⟩;·injection h1
 ·injection h1):G:=h
def SW {G K:Prop}(k:K)(h:Hid K→G:=by intro kz;go_at_call 76;refine cB hM (HU.o _ (jS hM (by exact Bu) yF Ct at7 (hM.get aX).here.1.2) (HT.o _ (hM.get aX).here.1.1)) ?_;exact kz.o):G:=h (Lib.hid k)
def mo {G:Prop}(h:G:=by simpa using this):G:=h
def xu {G:Prop}(h:G:=by simpa using hk):G:=h
def SH {G K:Prop}(k:K)(h:Hid K→G:=by intro kz;refine uq (w':=w.alloc (.cells z.cells t)) (v:=.pointer (some (aD w.heap.size 0))) ?_ (h _ _ (hM.Ar t _));unfold execOp;exact kz.o):G:=h (Lib.hid k)
def RM {G K:Prop}(k:K)(h:Hid K→G:=by intro kz;go_wp2_with fail;go_step3;go_wp2_with fail;exact kz.o):G:=h (Lib.hid k)
def RV {G K:Prop}(k:K)(h:Hid K→G:=by intro kz;go_at_call 60;refine cB hM (aaZ _ _ (by show ch.length≤_;omega) (by show x.ay≤_;omega) (by show x.time≤_;omega)) ?_;exact kz.o):G:=h (Lib.hid k)
def Dm {G:Prop}(h:G:=by exact⟨_,rfl,dy _ _ _ _,hM.below⟩):G:=h
def wY {G K:Prop}(k:K)(h:Hid K→G:=by intro kz;refine cB hM (Pa true _ _ _) ?_;exact kz.o):G:=h (Lib.hid k)
def Ta {G:Prop}(h:G:=by simp only[vA]at*;simp only[dS, *];rw[if_pos (by simp_all)];rfl):G:=h
def Sk {G:Prop}(h:G:=by unfold Im;rw[h.o,if_pos rfl,show(C,(0:Int)).1=C from rfl,h2.o];grind):G:=h
def RO {G:Prop}(h:G:=by rw[hE];exact⟨eV,rfl,(fun W _ _ _=>⟨none,0,rfl,aI _,fun h=>by cases h⟩),hM.below⟩):G:=h
def Dv {G K:Prop}(k:K)(h:Hid K→G:=by intro kz;go_simp;refine(HL.o _ (HT.step hM.below)).mono ?_;exact kz.o):G:=h (Lib.hid k)
def rM {G K:Prop}(k:K)(h:Hid K→G:=by intro kz;refine qI hM (d:=some 7) ?_;exact kz.o):G:=h (Lib.hid k)
def rO {G K:Prop}(k:K)(h:Hid K→G:=by intro kz;refine EM hM (d:=some 2) ?_;exact kz.o):G:=h (Lib.hid k)
def SY {G K:Prop}(k:K)(h:Hid K→G:=by intro kz;refine⟨⟨some (aD g26 0),1,1⟩,x1,[(a1,b1)],P1,ag ⟨au 1,by intro x hx;cases cG.1 hx;exact Rv.o⟩,HP1,?_⟩;exact kz.o):G:=h (Lib.hid k)
def SX {G K:Prop}(k:K)(h:Hid K→G:=by intro kz;refine⟨⟨some (aD g40 0),1,1⟩,x2,[(a2,b2)],P2,ag ⟨au 1,by intro x hx;cases cG.1 hx;exact Xs.o⟩,HP2,?_⟩;exact kz.o):G:=h (Lib.hid k)
def JZ {G:Prop}(h:G:=by exact .cons _ (.cons _ (.refl _))):G:=h
def Dq {G:Prop}(h:G:=by cases x;cases y;simp):G:=h
def Dc {G:Prop}(h:G:=by rw[←ht];exact bH h1):G:=h
def xG {G K:Prop}(k:K)(h:Hid K→G:=by intro kz;go_at_call 228;refine(HT _).mono ?_;exact kz.o):G:=h (Lib.hid k)
def JT {G:Prop}(h:G:=by obtain⟨p',cp,h1,h2,h3⟩:=h;grind):G:=h
def Jo {G:Prop}(h:G:=by show x.dj.length≤_;omega):G:=h
def Tg {G:Prop}(h:G:=by simp only[aY]at hr;obtain⟨rfl,rfl,rfl⟩:=hr;go_wp2;go_ret;exact⟨rfl,Hr1.o,AM⟩):G:=h
def Da {G:Prop}(h:G:=by unfold bq at h;grind):G:=h
def JH {G:Prop}(h:G:=by rw[nR,WW.o]):G:=h
def An {G K:Prop}(k:K)(h:Hid K→G:=by intro kz;refine cB hM (HCY.o _ (hM.get aX)) ?_;exact kz.o):G:=h (Lib.hid k)
def Dy {G:Prop}(h:G:=by grind[IntKind.wrap_u32]):G:=h
def DK {G:Prop}(h:G:=by simp[zX];omega):G:=h
def xE {G:Prop}(h:G:=by simp[vL]):G:=h
def TF {G:Prop}(h:G:=by have:=agY (a:=pr.at_) (m:=pr.many) hl;have:=Fs;omega):G:=h
def xn {G K:Prop}(k:K)(h:Hid K→G:=by intro kz;refine cB hM (aeB _ _ _) ?_;exact kz.o):G:=h (Lib.hid k)
def Tc {G:Prop}(h:G:=by
 rcases hb with rfl|rfl;·exact(bL.1 h.1).1
 ·exact(bL.1 h.2).1):G:=h
def Tr {G:Prop}(h:G:=by rintro e w2⟨rfl,ft⟩;go_wp2;go_ret;exact⟨rfl,eH.trans (ft.mono eH.size)⟩):G:=h
def DG {G:Prop}(h:G:=by have:=aw6.o;omega):G:=h
def DH {G:Prop}(h:G:=by have:=aw5.o;omega):G:=h
def Dg {G K:Prop}(k:K)(h:Hid K→G:=by intro kz;refine rB [10,11] [0,1,2,3,5,4,6,7,8,9,10,11] ?_;exact kz.o):G:=h (Lib.hid k)
def Jt {G:Prop}(h:G:=by rw[Addr.add_mid];exact hr j u hj):G:=h
def Ke {G:Prop}(h:G:=by rw[h2];exact Bool.noConfusion):G:=h
def TH {G K:Prop}(k:K)(h:Hid K→G:=by intro kz;refine rB [] [0,1,2,3,4,5,6,7,8,9,10,11,12,13,14,15,16,17,18,19,20,21,22,23,24,25,26,27,28,29,30,31,32,33,34,35,36] ?_;exact kz.o):G:=h (Lib.hid k)
def Dd {G:Prop}(h:G:=by rw[kh,aW h1,ht];rfl):G:=h
def Du {G:Prop}(h:G:=by simp only[yO];omega):G:=h
def Tv {G:Prop}(h:G:=by rw[cG.1 hq,←HX.o];exact⟨⟨P,hP.1,hP.2.1,hP.2.2.1,h.2⟩,wV.zero W _⟩):G:=h
def Tb {G:Prop}(h:G:=by
 rcases hb with rfl|rfl;·rw[h.1]at e;grind
 ·rw[h.2]at e;grind):G:=h
def ST {G:Prop}(h:G:=by subst ha;exact Qn i _ hi hd hs hf hr iq hQ nC hy hS h):G:=h
def CW {G:Prop}(h:G:=by have:=hW.2.1;omega):G:=h
def wZ {G:Prop}(h:G:=by rw[if_neg (by simp[h])]):G:=h
def Kd {G:Prop}(h:G:=by rw[E1.o];exact hM.mem.at_ aX):G:=h
def Jn {G:Prop}(h:G:=by show x.over.length≤_;omega):G:=h
def xB {G:Prop}(h:G:=by rw[bV];omega):G:=h
def SC {G:Prop}(h:G:=by
 repeat' split
 all_goals first|exact ik _|exact Qi (pP hK hc)):G:=h
def Dn {G:Prop}(h:G:=by(simp only[];done)):G:=h
def CY {G:Prop}(h:G:=by rw[HN.o,HNo.o]):G:=h
def xi {G K:Prop}(k:K)(h:Hid K→G:=by intro kz;go_at_call 108;refine auH hM ?_;exact kz.o):G:=h (Lib.hid k)
def xo {G K:Prop}(k:K)(h:Hid K→G:=by intro kz;refine bu (ze rfl _ _ _) rfl ?_;exact kz.o):G:=h (Lib.hid k)
def xj {G:Prop}(h:G:=by simpa using h5):G:=h
def RT {G:Prop}(h:G:=by have:=DZ (mW ch x) w;rw[hck]at this;exact this):G:=h
def SD {G:Prop}(h:G:=by
 rcases aO.1 hx with rfl|hx;·exact .inr (.inr (hr.lt b e).1)
 grind):G:=h
def SO {G:Prop}(h:G:=by intro j hj;rw[Addr.add_mid,cK,h.cell j,dx,Cb hj]):G:=h
def TI {G:Prop}(h:G:=by repeat(first|exact aB _|refine List.Sublist.cons _ ?_)):G:=h
def Sq {G:Prop}(h:G:=by rw[if_pos hw];unfold Oper.wp;rw[lu];subst hd;exact hK):G:=h
def Js {G K:Prop}(k:K)(h:Hid K→G:=by intro kz;go_at_call 138;refine(HF.o _ (HV.o.step hM.below)).mono ?_;exact kz.o):G:=h (Lib.hid k)
def Jp {G K:Prop}(k:K)(h:Hid K→G:=by intro kz;refine cB hM (zT (n1,a1,b1,c1) _ ln ⟨la,lb,lc⟩) ?_;exact kz.o):G:=h (Lib.hid k)
def uk {G K:Prop}(k:K)(h:Hid K→G:=by intro kz;refine qI hM (d:=some 8) ?_;exact kz.o):G:=h (Lib.hid k)
def Jr {G:Prop}(h:G:=by simpa[Value.ownBlock]using he):G:=h
def DB {G:Prop}(h:G:=by rw[HON.o];simp):G:=h
def SS {G:Prop}(h:G:=by exact mZ Kv fun K hK=>h2 K (fun b v hS hW=>hK b v (.inr ⟨hS,hW hS⟩))):G:=h
def TC {G:Prop}(h:G:=by rw[HR.o]at GJ;subst GJ;go_wp2_with fail;go_ret3;exact⟨rfl,Rm.o⟩):G:=h
def DO {G:Prop}(h:G:=by simpa using tX gQ):G:=h
def Ju {G:Prop}(h:G:=by exact⟨_,rfl,hM.mem.ij aX,hM.below⟩):G:=h
def JJ {G:Prop}(h:G:=by have:=((hM.mem.rows x hx).lt b e).2;omega):G:=h
def Tz {G:Prop}(h:G:=by exact cJ.mono (Fm.perm hM (List.Perm.swap _ _ _) (cz _)) fun W hW=>hW.1):G:=h
def RU {G:Prop}(h:G:=by have:=hM.mem.ij aX;rw[←Ns]at this;exact this):G:=h
def Td {G:Prop}(h:G:=by have:=ft.size;have:=aM.lt HR.o;simp at*;omega):G:=h
def uj {G:Prop}(h:G:=by simp_all):G:=h
def RL {G:Prop}(h:G:=by match i,hi with|0,_=>exact h.cell 0|1,_=>exact h.cell 1):G:=h
def Sw {G:Prop}(h:G:=by unfold World.shape?;rw[show w.heap[gx]?=_ from hx]):G:=h
def Sg {G:Prop}(h:G:=by unfold uT;rw[h.o];simp only[];rw[h2.o];rfl):G:=h
def Tq {G:Prop}(h:G:=by exact⟨rfl,(aJ _ _).alloc (au _) _⟩):G:=h
def Al {G:Prop}(h:G:=by rw[Iu];omega):G:=h
def Sy {G:Prop}(h:G:=by intro u hu;simp at hu;rcases hu with rfl|rfl<;>rfl):G:=h
def Sv {G:Prop}(h:G:=by unfold World.shape?;rw[show w.heap[g]?=_ from hg]):G:=h
def JD {G:Prop}(h:G:=by simpa using HNL.o.symm):G:=h
def JB {G:Prop}(h:G:=by rw[HGR.o];exact au _):G:=h
def JG {G:Prop}(h:G:=by rw[WW.o];exact au _):G:=h
def TK {G:Prop}(h:G:=by exact mZ ho fun K hK=>h K (fun b v hS hW=>hK b v ⟨.inr hS,hW hS⟩)):G:=h
def Sz {G:Prop}(h:G:=by have:=GB.o;have:=HK.o;have:=wF.o;omega):G:=h
def Jv {G K:Prop}(k:K)(h:Hid K→G:=by intro kz;(with_reducible refine BC (d:=some 3) ?_);refine bw ?_;exact kz.o):G:=h (Lib.hid k)
def JR {G K:Prop}(k:K)(h:Hid K→G:=by intro kz;(with_reducible refine OI (d:=some 1) ?_);refine bw ?_;exact kz.o):G:=h (Lib.hid k)
def RQ {G:Prop}(h:G:=by obtain⟨s,hs,rfl⟩:=eu.1 hb;grind[Yf,mW]):G:=h
def SK {G:Prop}(h:G:=by rw[Lib.byteCells_length,bo];exact Nat.min_comm _ _):G:=h
def Si {G:Prop}(h:G:=by subst h1;exact k r.1 r.2 w' (ag rfl) (hM.step h2)):G:=h
def JY {G:Prop}(h:G:=by exact .cons _ (.refl _)):G:=h
def Tf {G:Prop}(h:G:=by have:=t[k].toNat_lt;omega):G:=h
def RS {G:Prop}(h:G:=by have:=FM y x w;rw[YR]at this;exact this):G:=h
def Tt {G:Prop}(h:G:=by rw[hv]at h3;exact(show W.rangeAt g (o+i*15) (iw v).toList from h3)):G:=h
def Jl {G:Prop}(h:G:=by exact⟨sN,rfl,hM.Ig aX,hM.below⟩):G:=h
def DA {G:Prop}(h:G:=by go_wp2_with fail;go_ret;simp):G:=h
def CZ {G:Prop}(h:G:=by unfold execOp;simp_all):G:=h
def Sj {G K:Prop}(k:K)(h:Hid K→G:=by intro kz;go_at_call 217;refine cF hM ((hM.st aX).mono fun W k=>k.1) (jj d s _ _ _ _ (hM.get aX).1) ?_;exact kz.o):G:=h (Lib.hid k)
def SP {G:Prop}(h:G:=by exact(((((Hk.o.step eH).dq 0 _).dq 1 _).dq 2 _).dq 3 _)):G:=h
def Tu {G:Prop}(h:G:=by exact⟨z,z,z,z,z,z,h.source,h.sink,h.bM,h.src,h.dst,z,h.seq⟩):G:=h
def SE {G:Prop}(h:G:=by rw[cG]at hQ;subst hQ;exact jh.inI fun _ h=>h):G:=h
def Ss {G K:Prop}(k:K)(h:Hid K→G:=by intro kz;go_wp2_with fail;refine dG 1 ?_;rw[bE];go_wp2_with fail;exact kz.o):G:=h (Lib.hid k)
def TJ {G:Prop}(h:G:=by cases f with|zero=>simp at hmf;omega|succ f=>rfl):G:=h
def ue {G:Prop}(h:G:=by exact⟨_,_,rfl⟩):G:=h
def SB {G:Prop}(h:G:=by obtain⟨s,rfl⟩:=slD h2.rd;exact⟨s,h1,h2.gives,h3⟩):G:=h
def Ds {G:Prop}(h:G:=by simpa using qY):G:=h
def Jq {G:Prop}(h:G:=by rw[IR];omega):G:=h
def Tw {G:Prop}(h:G:=by exact .cons _ (.cons _ (.cons _ (.refl _)))):G:=h
def Sn {G:Prop}(h:G:=by go_ret;exact⟨t,s1,b1,H1.o,rfl,hM.mem.at_ aX,hM.mem.grown⟩):G:=h
def Dx {G:Prop}(h:G:=by unfold n3;omega):G:=h
def Dl {G:Prop}(h:G:=by simpa using gQ):G:=h
def xq {G K:Prop}(k:K)(h:Hid K→G:=by
 intro kz;with_reducible refine ap2 ?_
 exact kz.o):G:=h (Lib.hid k)
def uf {G:Prop}(h:G:=by grind[oU]):G:=h
def Sp {G:Prop}(h:G:=by simpa using fun e=>(hd.2.1.ne hd.1) e.symm):G:=h
def Sf {G:Prop}(h:G:=by subst h1;exact k n w' (ag rfl) (hM.step h2)):G:=h
def JK {G:Prop}(h:G:=by simp[getObj,Sem.run,h1]):G:=h
def Aa {G:Prop}(h:G:=by exact fw):G:=h
def Kc {G:Prop}(h:G:=by rw[hn];exact h.mf.n0):G:=h
def Kb {G:Prop}(h:G:=by rw[hn];exact h.mf.n1):G:=h
def Jz {G:Prop}(h:G:=by rw[bV];exact au _):G:=h
def TB {G:Prop}(h:G:=by exact⟨rfl,pF.alloc pF.size _⟩):G:=h
def af8 {G:Prop}(h:G:=by grind[Below.heap_alloc,World.alloc_heap_new]):G:=h
def af7 {G:Prop}(h:G:=by grind[World.alloc_heap_new,World.size_alloc]):G:=h
def Su {G:Prop}(h:G:=by have:=(cf.1 hM.apart).1 _ (aV ..);exact absurd (lM h) this):G:=h
def Sb {G:Prop}(h:G:=by rw[h.o];exact if_neg (by intro h3;simp at h1;exact h1 h3.1)):G:=h
def ua {G:Prop}(h:G:=by rw[aw];rfl):G:=h
def Sr {G:Prop}(h:G:=by simpa using fun e=>(hd.2.1.ne hx) e.symm):G:=h
def Kf {G:Prop}(h:G:=by repeat(exact aB _)):G:=h
def DP {G:Prop}(h:G:=by rw[aS hkt]):G:=h
def JL {G:Prop}(h:G:=by intro p hp;cases hp):G:=h
def Jj {G:Prop}(h:G:=by rw[HX.o];exact hck):G:=h
def JA {G:Prop}(h:G:=by show 1*Z≤_;omega):G:=h
def RZ {G:Prop}(h:G:=by first|exact hM.get eQ|exact hM.get fw):G:=h
def Sh {G:Prop}(h:G:=by intro k;rw[HV.o]at k;exact hc k.2.1):G:=h
def Jw {G:Prop}(h:G:=by cases a;cases b;simp):G:=h
def TG {G:Prop}(h:G:=by exact⟨_,rfl,HSD.o,rfl,fun HS=>af0 HS,hM.below⟩):G:=h
def Se {G:Prop}(h:G:=by rw[h.o];exact if_neg (by intro h3;rw[h2]at h3;cases h3.2)):G:=h
def TD {G:Prop}(h:G:=by simp only[aY]at h;obtain⟨⟨rfl,rfl,rfl⟩,-⟩:=h;omega):G:=h
def Ka {G:Prop}(h:G:=by simp[Lib.byteCells]):G:=h
def Dr {G:Prop}(h:G:=by rw[hl];omega):G:=h
def DC {G:Prop}(h:G:=by simpa using hC):G:=h
def xw {G K:Prop}(k:K)(h:Hid K→G:=by intro kz;refine qI hM (d:=some 6) ?_;exact kz.o):G:=h (Lib.hid k)
def xp {G K:Prop}(k:K)(h:Hid K→G:=by intro kz;refine EM hM (d:=some 1) ?_;exact kz.o):G:=h (Lib.hid k)
end Go.Proofs.YtlddafbgfkocjaaGreatDoor
