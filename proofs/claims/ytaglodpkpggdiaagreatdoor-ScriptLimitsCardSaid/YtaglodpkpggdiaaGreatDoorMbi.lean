/-
  The statement ScriptLimits: whatever is handed in, the law returns true; the tables that the row lists hold what the program text lays.
-/
import Derived.Test.YtaglodpkpggdiaaGreatDoorMam
import Derived.Test.YtaglodpkpggdiaaGreatDoorMan
import Derived.Test.YtaglodpkpggdiaaGreatDoorMbh
import Derived.ProofKit
import Derived.LaidMore
import Derived.OpenShut
import Derived.Stop.Joined
import Derived.SevenTiedAt
import Derived.Test.YtaglodpkpggdiaaGreatDoorTie
import Derived.Test.YtaglodpkpggdiaaGreatDoorCards
set_option linter.unusedSimpArgs false
set_option linter.unusedVariables false
set_option maxRecDepth 100000
namespace Go.Proofs.YtaglodpkpggdiaaGreatDoor
open Go Go.Gm Go.ChangeShapes Go.WideShapes
namespace lawScriptLimits
theorem follows : Tryz.prog.follows .mixedOrders = true := by kernel_rfl
theorem ownKnobs : ownKnob Tryz.prog.godebug = none := by kernel_rfl
theorem laidOutP : laidOutB Tryz.prog = true := by kernel_rfl
theorem reads : uu Tryz.prog Tryz.f5.params.toList (fun x : Int × Int × Unit => [PV.int IntKind.i64 x.1,PV.int IntKind.i64 x.2.1]) (fun _ => True) := by
 have h := uu.cons qfv (uu.cons qfv (uu.nil (P := Tryz.prog)))
 have e : Tryz.f5.params.toList = [3,3] := by rw [Tryz.params5]
 rw [e]
 exact h.weaken
theorem door_met (os : Os) (args : Array Value) : laidMetH Tryz.prog Rows.scriptLimitsRow.laid ((World.doorLaid Tryz.prog 400 os).forCall (fun _ _ => 0) ⟨#[],args,[]⟩).memory :=
 laidMetH_of_parts3 (fuel := 8) (laidMet_of_run' 8 (by kernel_rfl) (by kernel_rfl)) (by kernel_rfl) (by kernel_rfl)
theorem tab_eq : (Rows.laid_internal_strconv_uint64pow10 : DataW Unit) = Lib.tabData .u64 Lib.pow10Tab := by kernel_rfl
theorem laid_tab {W : World} (h : laidMetH Tryz.prog Rows.scriptLimitsRow.laid W) : Lib.TabIs Tryz.prog W q67 .u64 Lib.pow10Tab := by
 rw [MakeChecks.laidMetH_plain _ _ _ (by kernel_rfl)] at h
 obtain ⟨ps,⟨_,_,_,_,_,_,_,_,_,_,⟨_,_,_,_,_,_,_,_,_,_,⟨g,t,cs,f,p,q,hg,ht,hv,hd,_,_⟩,_⟩,_⟩,_⟩ := h
 obtain rfl := Option.some.inj (q9r.symm.trans hg)
 obtain rfl := Option.some.inj ((show (Tryz.prog.globals[0]?).map (·.type) = some 305 by kernel_rfl).symm.trans ht)
 unfold Lib.TabIs
 rw [tab_eq] at hd
 have hv' : W.var? Tryz.prog q67 = _ := hv
 rw [hv',← Lib.cells_of_tab Tryz.underlying305 Tryz.underlying231 (by kernel_rfl) (by kernel_rfl) hd]
theorem lifted (os : Os) (started : os.Started) (H : Type) (enc : TypeId × Value → H) :
  ReturnsInHanded {} Tryz.checked os 5 .any (fun w args => (Rows.scriptLimitsSpec.pre enc Tryz.prog Tryz.f5 [] false w args ∧ laidMetH Tryz.prog Rows.scriptLimitsRow.laid w) ∧ sizedMet enc Tryz.prog Tryz.f5 (OpenSpec.ofChange Rows.scriptLimitsSpec) false w args)
   (Rows.scriptLimitsSpec.post enc Tryz.prog Tryz.f5 false true false false) := by
 refine returnsInHanded_of_change_and (C := Tryz.checked) (X := fun w _ => laidMetH Tryz.prog Rows.scriptLimitsRow.laid w) (fun _ _ _ hh h => h.of_heap hh) ownKnobs started (by kernel_rfl) Tryz.func5
  (ChangeSpec.witness_shaped (enc := enc) (C := Tryz.checked) (os := os) (X := fun w _ => laidMetH Tryz.prog Rows.scriptLimitsRow.laid w) false (World.doorLaid Tryz.prog 400 os) #[.int .i64 0,.int .i64 0] 8 rfl (World.shaped_of_RefB (by kernel_rfl) (by kernel_rfl)) (by kernel_rfl) (by kernel_rfl) (by kernel_rfl) (door_met os _)) ?_
 intro W base args ds gs before hval hW _ _ hL _
 refine z19 (G := G) (S := S) follows zva z5f z5t laidOutP (tb := 4) rfl Tryz.underlying4 rfl (by decide +kernel) ?_ reads ?_ hval hW ⟨laid_tab hL,zby (laid_tab hL)⟩
 ·intro H ds hd
  match ds,hd with
  | [d0,d1],_ => rfl
 ·intro b hb
  exact ⟨[],qjs (qzh b.1 b.2.1)⟩
theorem cell1 : (Rows.scriptLimitsRow.inPlace == Tryz.prog.inPlace 5) = true := by kernel_rfl
theorem cell2 : (Rows.scriptLimitsRow.unfollowed == Tryz.prog.unfollowed 5) = true := by kernel_rfl
theorem cell3 : (Rows.scriptLimitsRow.recurses == Tryz.prog.recurses 5) = true := by kernel_rfl
theorem cell4 : (Rows.scriptLimitsRow.named == Tryz.prog.varsNamed 5) = true := by kernel_rfl
theorem closed : joinedFacts Tryz.prog 5 Tryz.f5 Rows.scriptLimitsSpec Rows.scriptLimitsRow = true := qpl cell1 cell2 cell3 cell4 (by kernel_rfl)
theorem row_holds : Rows.ScriptLimitsSaid :=
 OpenClaim.holds_of_wide 5 Tryz.f5 rfl rfl rfl rfl rfl rfl rfl ⟨rfl,rfl,rfl,rfl,rfl⟩ rfl rfl rfl rfl rfl (by kernel_rfl) Tryz.func5 closed
  (of_decide_eq_true (by kernel_rfl)) (by unfold Func.isWrapper; first | (rw [if_pos (by decide +kernel)]; kernel_rfl) | (rw [if_neg (by decide +kernel)]; exact ⟨rfl,rfl⟩))
  (fun os started H enc _ => lifted os started H enc)
theorem no_go : Tryz.prog.funcs.any Func.goes = false := by kernel_rfl
theorem proved : Rows.ScriptLimitsCardSaid :=
 Claim7.holds_tied_plain_at .later [] [.data,.data,.data] true (true, "e3a77a696877712b36cf2919243be5970ec171be254ac1322f29e5a803a07b73") false
  row_holds (fun _ h => by cases h) (by kernel_rfl) (fun _ h => by cases h) scriptLimits_row_tie rfl ⟨rfl,rfl⟩ (by kernel_rfl) rfl
  (fun f fn hf hfn => by
   obtain rfl : f = 5 := Option.some.inj ((show Tryz.prog.funcNamed Tryz.f5.name = some 5 by kernel_rfl).symm.trans hf) |>.symm
   obtain rfl : fn = Tryz.f5 := (Option.some.inj (Tryz.func5.symm.trans hfn)).symm
   exact ⟨by kernel_rfl,fun j t ht => by
    rw [Tryz.params5] at ht
    have hm : t ∈ [3,3] := by simpa using Array.mem_of_getElem? ht
    have hall : ([3,3].all fun u => !Tryz.prog.wantsStandIn u) = true := by kernel_rfl
    exact (show Tryz.prog.wantsStandIn t = false by simpa using List.all_eq_true.1 hall t hm)⟩)
  (qlh no_go _).symm
end lawScriptLimits
end Go.Proofs.YtaglodpkpggdiaaGreatDoor
