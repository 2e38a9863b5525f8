/-
  The statement EditorVars: whatever is handed in, the law returns true; the tables that the row lists hold what the program text lays.
-/
import Derived.Test.YtllckneefjgafaaGreatDoorVaj
import Derived.Test.YtllckneefjgafaaGreatDoorVak
import Derived.Test.YtllckneefjgafaaGreatDoorVao
import Derived.ProofKit
import Derived.LaidMore
import Derived.OpenShut
import Derived.Stop.Joined
import Derived.SevenTiedAt
import Derived.Test.YtllckneefjgafaaGreatDoorTie
import Derived.Test.YtllckneefjgafaaGreatDoorCards
set_option linter.unusedSimpArgs false
set_option linter.unusedVariables false
set_option maxRecDepth 100000
namespace Go.Proofs.YtllckneefjgafaaGreatDoor
open Go Go.Gm Go.ChangeShapes Go.WideShapes
namespace lawEditorVars
theorem follows : Tryz.prog.follows .mixedOrders = true := by kernel_rfl
theorem ownKnobs : ownKnob Tryz.prog.godebug = none := by kernel_rfl
theorem laidOutP : laidOutB Tryz.prog = true := by kernel_rfl
theorem reads : kz Tryz.prog Tryz.f3.params.toList (fun x : Bytes × Bytes × T.Op × Unit => [PV.str x.1,PV.str x.2.1,PV.agg (T.Op.enc x.2.2.1)]) (fun _ => True) := by
 have h := kz.cons qc0 (kz.cons qc0 (kz.cons qim (kz.nil (P := Tryz.prog))))
 have e : Tryz.f3.params.toList = [9,9,25] := by rw [Tryz.params3]
 rw [e]
 exact h.weaken
theorem door_met (os : Os) (args : Array Value) : laidMetH Tryz.prog Rows.editorVarsRow.laid ((World.doorLaid Tryz.prog 400 os).forCall (fun _ _ => 0) ⟨#[],args,[]⟩).memory :=
 laidMetH_of_parts3 (fuel := 8) (laidMet_of_run' 8 (by kernel_rfl) (by kernel_rfl)) (by kernel_rfl) (by kernel_rfl)
theorem tab_eq : (Rows.laid_internal_strconv_uint64pow10 : DataW Unit) = Lib.tabData .u64 Lib.pow10Tab := by kernel_rfl
theorem laid_tab {W : World} (h : laidMetH Tryz.prog Rows.editorVarsRow.laid W) : Lib.TabIs Tryz.prog W q48 .u64 Lib.pow10Tab := by
 rw [MakeChecks.laidMetH_plain _ _ _ (by kernel_rfl)] at h
 obtain ⟨ps,⟨_,_,_,_,_,_,_,_,_,_,⟨_,_,_,_,_,_,_,_,_,_,⟨g,t,cs,f,p,q,hg,ht,hv,hd,_,_⟩,_⟩,_⟩,_⟩ := h
 obtain rfl := Option.some.inj (q66.symm.trans hg)
 obtain rfl := Option.some.inj ((show (Tryz.prog.globals[1]?).map (·.type) = some 458 by kernel_rfl).symm.trans ht)
 unfold Lib.TabIs
 rw [tab_eq] at hd
 have hv' : W.var? Tryz.prog q48 = _ := hv
 rw [hv',← Lib.cells_of_tab Tryz.underlying458 Tryz.underlying360 (by kernel_rfl) (by kernel_rfl) hd]
theorem lifted (os : Os) (started : os.Started) (H : Type) (enc : TypeId × Value → H) :
  ReturnsInHanded {} Tryz.checked os 3 .any (fun w args => (Rows.editorVarsSpec.pre enc Tryz.prog Tryz.f3 [] false w args ∧ laidMetH Tryz.prog Rows.editorVarsRow.laid w) ∧ sizedMet enc Tryz.prog Tryz.f3 (OpenSpec.ofChange Rows.editorVarsSpec) false w args)
   (Rows.editorVarsSpec.post enc Tryz.prog Tryz.f3 false true false false) := by
 refine returnsInHanded_of_change_and (C := Tryz.checked) (X := fun w _ => laidMetH Tryz.prog Rows.editorVarsRow.laid w) (fun _ _ _ hh h => h.of_heap hh) ownKnobs started (by kernel_rfl) Tryz.func3
  (ChangeSpec.witness_shaped (enc := enc) (C := Tryz.checked) (os := os) (X := fun w _ => laidMetH Tryz.prog Rows.editorVarsRow.laid w) false (World.doorLaid Tryz.prog 400 os) #[.string ⟨#[]⟩,.string ⟨#[]⟩,Value.agg #[.int .i64 0,.string ⟨#[]⟩,.string ⟨#[]⟩,.int .i64 0,.bool false,.slice none 0 0,.slice none 0 0]] 8 rfl (World.shaped_of_RefB (by kernel_rfl) (by kernel_rfl)) (by kernel_rfl) (by kernel_rfl) (by kernel_rfl) (door_met os _)) ?_
 intro W base args ds gs before hval hW _ _ hL _
 refine zf6 (G := G) (S := S) follows qjg zj7 qdl laidOutP (tb := 4) rfl Tryz.underlying4 rfl (by decide +kernel) ?_ reads ?_ hval hW ⟨laid_tab hL,qx2 (laid_tab hL)⟩
 ·intro H ds hd
  match ds,hd with
  | [d0,d1,d2],_ => rfl
 ·intro b hb
  exact ⟨[],zkx (zh1 b.1 b.2.1 b.2.2.1)⟩
theorem cell1 : (Rows.editorVarsRow.inPlace == Tryz.prog.inPlace 3) = true := by kernel_rfl
theorem cell2 : (Rows.editorVarsRow.unfollowed == Tryz.prog.unfollowed 3) = true := by kernel_rfl
theorem cell3 : (Rows.editorVarsRow.recurses == Tryz.prog.recurses 3) = true := by kernel_rfl
theorem cell4 : (Rows.editorVarsRow.named == Tryz.prog.varsNamed 3) = true := by kernel_rfl
theorem closed : joinedFacts Tryz.prog 3 Tryz.f3 Rows.editorVarsSpec Rows.editorVarsRow = true := qv2 cell1 cell2 cell3 cell4 (by kernel_rfl)
theorem row_holds : Rows.EditorVarsSaid :=
 OpenClaim.holds_of_wide 3 Tryz.f3 rfl rfl rfl rfl rfl rfl rfl ⟨rfl,rfl,rfl,rfl,rfl⟩ rfl rfl rfl rfl rfl (by kernel_rfl) Tryz.func3 closed
  (of_decide_eq_true (by kernel_rfl)) (by unfold Func.isWrapper; first | (rw [if_pos (by decide +kernel)]; kernel_rfl) | (rw [if_neg (by decide +kernel)]; exact ⟨rfl,rfl⟩))
  (fun os started H enc _ => lifted os started H enc)
theorem no_go : Tryz.prog.funcs.any Func.goes = false := by kernel_rfl
theorem proved : Rows.EditorVarsCardSaid :=
 Claim7.holds_tied_plain_at .later [] [.data,.data,.data] true (true, "76d548e9ed13c237e344a48146da0094f7dd67c65a65fc58ced2c350e528f81d") false
  row_holds (fun _ h => by cases h) (by kernel_rfl) (fun _ h => by cases h) editorVars_row_tie rfl ⟨rfl,rfl⟩ (by kernel_rfl) rfl
  (fun f fn hf hfn => by
   obtain rfl : f = 3 := Option.some.inj ((show Tryz.prog.funcNamed Tryz.f3.name = some 3 by kernel_rfl).symm.trans hf) |>.symm
   obtain rfl : fn = Tryz.f3 := (Option.some.inj (Tryz.func3.symm.trans hfn)).symm
   exact ⟨by kernel_rfl,fun j t ht => by
    rw [Tryz.params3] at ht
    have hm : t ∈ [9,9,25] := by simpa using Array.mem_of_getElem? ht
    have hall : ([9,9,25].all fun u => !Tryz.prog.wantsStandIn u) = true := by kernel_rfl
    exact (show Tryz.prog.wantsStandIn t = false by simpa using List.all_eq_true.1 hall t hm)⟩)
  (qf4 no_go _).symm
end lawEditorVars
end Go.Proofs.YtllckneefjgafaaGreatDoor
