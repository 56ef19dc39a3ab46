/- TopHonest holds of the given program. No conditions. -/
import Derived.Below
import Derived.ChangeOld
import Derived.LaidMore
import Derived.Lay
import Derived.Lib.LaidU8
import Derived.Stop.Joined
import Derived.Test.YtlddafbgfkocjaaGreatDoorCards
import Derived.Test.YtlddafbgfkocjaaGreatDoorT10
import Derived.Test.YtlddafbgfkocjaaGreatDoorT52
set_option linter.all false
set_option maxRecDepth 1000000
set_option maxHeartbeats 400000000
namespace Go.Proofs.YtlddafbgfkocjaaGreatDoor.topHonestLaw
open Go.ChangeShapes Go.WideShapes Go.ChangeAt Go.RowKit
theorem own:ownKnob Tryz.prog.godebug=none:=by kernel_rfl
theorem laidOut:laidOutB Tryz.prog=true:=by kernel_rfl
theorem XO {W:World}{nm:String}{g t e n:Nat}{zs:List Int}(hg:Tryz.prog.globalNamed nm=some g)(ht:(Tryz.prog.globals[g]?).map (·.type)=some t)(hu:Tryz.prog.underlying t=some (.array n e))(he:Tryz.prog.underlying e=some (.int .u32))(hc:Tryz.prog.cellsOf e=1)(hn:Tryz.prog.cellsOf t=n)(h:Lib.VarReads Tryz.prog W nm (Lib.tabData .u32 zs)):∀i:Nat,i<zs.length→W.cell? ⟨g,i,none⟩=some (.int .u32 (nth zs i)):=by intro i hi;obtain⟨g',t',cs,fuel,p,h1,h2,hv,hd⟩:=h;obtain rfl:=Option.some.inj (hg.symm.trans h1);obtain rfl:=Option.some.inj (ht.symm.trans h2);have iO:=Lib.cells_of_tab hu he hc hn hd;rw[World.var?_cell hg hv i,←Array.getElem?_toList,iO,List.getElem?_map,List.getElem?_eq_getElem hi];simp[nth,hi]
theorem apN {W:World}(h:laidMetH Tryz.prog Rows.topHonestRow.laid W):be qs W:=by rw[MakeChecks.laidMetH_plain _ _ _ (by kernel_rfl)]at h;have h1:Lib.VarReads Tryz.prog W "twinspan/hash.factors" (Lib.tabData .u32 qs.ks):=(show Rows.laid_twinspan_hash_factors=Lib.tabData .u32 qs.ks by kernel_rfl)▸Lib.laidMet.reads h (.tail _ (.head _));have h2:Lib.VarReads Tryz.prog W "twinspan/hash.begin" (Lib.tabData .u32 qs.bg.l):=(show Rows.laid_twinspan_hash_begin=Lib.tabData .u32 qs.bg.l by kernel_rfl)▸Lib.laidMet.reads h (.tail _ (.tail _ (.head _)));exact⟨by kernel_rfl,XO (by kernel_rfl) (by kernel_rfl) Tryz.underlying290 Tryz.underlying176 (by kernel_rfl) (by kernel_rfl) h1,XO (by kernel_rfl) (by kernel_rfl) Tryz.underlying238 Tryz.underlying176 (by kernel_rfl) (by kernel_rfl) h2⟩
theorem lifted(os:Os)(started:os.Started)(H:Type)(enc:TypeId×Value→H):ReturnsInHanded {} Tryz.checked os 3 .any (fun w args=>(Rows.topHonestSpec.pre enc Tryz.prog Tryz.f3 Rows.topHonestRow.domain false w args∧laidMetH Tryz.prog Rows.topHonestRow.laid w)∧sizedMet enc Tryz.prog Tryz.f3 (OpenSpec.ofChange Rows.topHonestSpec) false w args) (Rows.topHonestSpec.post enc Tryz.prog Tryz.f3 false true false false):=by
 refine returnsInHanded_of_change_and (C:=Tryz.checked) (X:=fun w _=>laidMetH Tryz.prog Rows.topHonestRow.laid w) (fun _ _ _ hh h=>h.of_heap hh) own started (by kernel_rfl) Tryz.func3 (ChangeSpec.witness_shaped (enc:=enc) (C:=Tryz.checked) (os:=os) (X:=fun w _=>laidMetH Tryz.prog Rows.topHonestRow.laid w) false (World.laidAll Tryz.prog os Rows.topHonestRow.laid) #[.slice none 0 0] 8 (World.laidAll_os _ _ _) (World.shaped_of_ZipB (by kernel_rfl) (by kernel_rfl)) (by kernel_rfl) (by kernel_rfl) (by kernel_rfl) (by rw[MakeChecks.laidMetH_plain _ _ _ (by kernel_rfl)];exact laidMet_laidAll _ (by kernel_rfl) (by kernel_rfl))) ?_;intro W base args ds gs before aqv hW _ _ hL _;have aaz:∀(j:Nat)t v,Tryz.f3.params[j]?=some t→args[j]?=some v→Value.okWide Tryz.prog W .any base t v:=aqv;have hW':=hW;obtain⟨p,q,hA0,hV,rfl,Gk,hnd⟩:=hW;have hA:DataW.TrodAll enc Tryz.prog W 0 (fun _=>true) true Tryz.f3.params.toList args.toList ds p:=hA0;rw[Tryz.params3]at hA aaz;obtain⟨v0,d0,rfl,rfl,h0⟩:=trodAll_one hA;obtain⟨rfl,rfl⟩:=trodVars_none hV;have k0:=h0;have lt0:∀x∈p,x.block<W.heap.size:=by obtain⟨m,hm⟩:=k0;exact DataW.trod_lt m _ _ _ hm
 obtain⟨p1,n1,c1,F1,Ks1,rfl,hO⟩:=afi Tryz.underlying22 Tryz.underlying28 (by kernel_rfl) (by kernel_rfl) Tryz.underlying3 Tryz.underlying3 Tryz.underlying3 Tryz.underlying3 Tryz.underlying3 Tryz.underlying26 Tryz.underlying4 (by kernel_rfl) Tryz.underlying9 (aaz 0 22 v0 rfl rfl) h0;clear hA0 aqv;simp only[List.append_nil]at hW';have hw:=VO p1 n1 c1 F1 Ks1 W (apN hL) hO;refine hw.mono fun e W'⟨he,bel⟩=>?_;subst he;exact⟨_,rfl,_,_,_,[],_,[],hW',trodAll_mk1 (shut_bool Tryz.underlying4 _),trodAll_mk1 (Below.trod laidOut (by kernel_rfl) (of_decide_eq_true (by kernel_rfl)) k0 bel lt0),rfl,bel.frame _,fun h=>by cases h⟩
theorem over:Rows.topHonestRow.holds Tryz.pinned (OpenSpec.ofChange Rows.topHonestSpec):=OpenClaim.holds_of_wide 3 Tryz.f3 rfl rfl rfl rfl rfl rfl rfl ⟨rfl,rfl,rfl,rfl,rfl⟩ rfl rfl rfl rfl rfl named Tryz.func3 closed inst wrapper (fun os started H enc _=>lifted os started H enc)
theorem proved:Rows.TopHonestCardSaid:=Claim7.holds_tied_plain_at .later [] [.data,.data,.data,.pinned] true (true,"fd0344e6ccc51edae4efb6e7321fd9ce834f82c9ca1a0836f63434ce26927967") false over (fun _ h=>by cases h) asD (fun _ h=>by cases h) topHonest_row_tie rfl ⟨rfl,rfl⟩ mainIs rfl (fun f fn hf Ny=>by
 obtain rfl:f=3:=Option.some.inj (named.symm.trans hf)|>.symm;obtain rfl:fn=Tryz.f3:=(Option.some.inj (Tryz.func3.symm.trans Ny)).symm;exact⟨looks,fun j t ht=>by
  rw[Tryz.params3]at ht;have hm:t∈[22]:=by simpa using Array.mem_of_getElem? ht
  exact(show Tryz.prog.wantsStandIn t=false by simpa using List.all_eq_true.1 avB t hm)⟩) goes
#print axioms proved
end Go.Proofs.YtlddafbgfkocjaaGreatDoor.topHonestLaw
