/-
  The statement ScriptLine: whatever is handed in, the law returns true; the tables that the row lists hold what the program text lays.
-/
import Derived.Test.YtaglodpkpggdiaaGreatDoorLam
import Derived.Test.YtaglodpkpggdiaaGreatDoorLan
import Derived.Test.YtaglodpkpggdiaaGreatDoorLbh
import Derived.ProofKit
import Derived.LaidMore
import Derived.OpenShut
import Derived.Stop.Joined
import Derived.SevenTiedAt
import Derived.Test.YtaglodpkpggdiaaGreatDoorTie
import Derived.Test.YtaglodpkpggdiaaGreatDoorCards
set_option linter.unusedSimpArgs false
set_option linter.unusedVariables false
set_option maxRecDepth 100000
namespace Go.Proofs.YtaglodpkpggdiaaGreatDoor
open Go Go.Gm Go.ChangeShapes Go.WideShapes
namespace lawScriptLine
theorem follows : Tryz.prog.follows .mixedOrders = true := by kernel_rfl
theorem ownKnobs : ownKnob Tryz.prog.godebug = none := by kernel_rfl
theorem laidOutP : laidOutB Tryz.prog = true := by kernel_rfl
theorem reads : q1e Tryz.prog Tryz.f4.params.toList (fun x : (Sl T.Op) × Int × Unit => [PV.sl x.1.nil (szc 7 x.1.l) (List.map T.Op.enc x.1.l),PV.int IntKind.i64 x.2.1]) (fun x => (zw T.Op.ok) x.1 ∧ inI x.2.1 ∧ True) := by
 have h := q1e.cons x3c (q1e.cons zym (q1e.nil (P := Tryz.prog)))
 have e : Tryz.f4.params.toList = [23,3] := by rw [Tryz.params4]
 rw [e]
 exact h
theorem door_met (os : Os) (args : Array Value) : laidMetH Tryz.prog Rows.scriptLineRow.laid ((World.doorLaid Tryz.prog 400 os).forCall (fun _ _ => 0) ⟨#[],args,[]⟩).memory :=
 laidMetH_of_parts3 (fuel := 8) (laidMet_of_run' 8 (by kernel_rfl) (by kernel_rfl)) (by kernel_rfl) (by kernel_rfl)
theorem tab_eq : (Rows.laid_internal_strconv_uint64pow10 : DataW Unit) = Lib.tabData .u64 Lib.pow10Tab := by kernel_rfl
theorem laid_tab {W : World} (h : laidMetH Tryz.prog Rows.scriptLineRow.laid W) : Lib.TabIs Tryz.prog W q6n .u64 Lib.pow10Tab := by
 rw [MakeChecks.laidMetH_plain _ _ _ (by kernel_rfl)] at h
 obtain ⟨ps,⟨_,_,_,_,_,_,_,_,_,_,⟨_,_,_,_,_,_,_,_,_,_,⟨g,t,cs,f,p,q,hg,ht,hv,hd,_,_⟩,_⟩,_⟩,_⟩ := h
 obtain rfl := Option.some.inj (qa5.symm.trans hg)
 obtain rfl := Option.some.inj ((show (Tryz.prog.globals[0]?).map (·.type) = some 305 by kernel_rfl).symm.trans ht)
 unfold Lib.TabIs
 rw [tab_eq] at hd
 have hv' : W.var? Tryz.prog q6n = _ := hv
 rw [hv',← Lib.cells_of_tab Tryz.underlying305 Tryz.underlying231 (by kernel_rfl) (by kernel_rfl) hd]
theorem lifted (os : Os) (started : os.Started) (H : Type) (enc : TypeId × Value → H) :
  ReturnsInHanded {} Tryz.checked os 4 .any (fun w args => (Rows.scriptLineSpec.pre enc Tryz.prog Tryz.f4 [] false w args ∧ laidMetH Tryz.prog Rows.scriptLineRow.laid w) ∧ sizedMet enc Tryz.prog Tryz.f4 (OpenSpec.ofChange Rows.scriptLineSpec) false w args)
   (Rows.scriptLineSpec.post enc Tryz.prog Tryz.f4 false true false false) := by
 refine returnsInHanded_of_change_and (C := Tryz.checked) (X := fun w _ => laidMetH Tryz.prog Rows.scriptLineRow.laid w) (fun _ _ _ hh h => h.of_heap hh) ownKnobs started (by kernel_rfl) Tryz.func4
  (ChangeSpec.witness_shaped (enc := enc) (C := Tryz.checked) (os := os) (X := fun w _ => laidMetH Tryz.prog Rows.scriptLineRow.laid w) false (World.doorLaid Tryz.prog 400 os) #[.slice none 0 0,.int .i64 0] 8 rfl (World.shaped_of_RefB (by kernel_rfl) (by kernel_rfl)) (by kernel_rfl) (by kernel_rfl) (by kernel_rfl) (door_met os _)) ?_
 intro W base args ds gs before hval hW _ _ hL _
 refine zzt (G := G) (S := S) follows x2j zks zzn laidOutP (tb := 4) rfl Tryz.underlying4 rfl (by decide +kernel) ?_ reads ?_ hval hW ⟨laid_tab hL,z2p (laid_tab hL)⟩
 ·intro H ds hd
  match ds,hd with
  | [d0,d1],_ => rfl
 ·intro b hb
  exact ⟨[],zf6 (zw5 b.1 b.2.1 hb.1 hb.2.1)⟩
theorem cell1 : (Rows.scriptLineRow.inPlace == Tryz.prog.inPlace 4) = true := by kernel_rfl
theorem cell2 : (Rows.scriptLineRow.unfollowed == Tryz.prog.unfollowed 4) = true := by kernel_rfl
theorem cell3 : (Rows.scriptLineRow.recurses == Tryz.prog.recurses 4) = true := by kernel_rfl
theorem cell4 : (Rows.scriptLineRow.named == Tryz.prog.varsNamed 4) = true := by kernel_rfl
theorem closed : joinedFacts Tryz.prog 4 Tryz.f4 Rows.scriptLineSpec Rows.scriptLineRow = true := zrf cell1 cell2 cell3 cell4 (by kernel_rfl)
theorem row_holds : Rows.ScriptLineSaid :=
 OpenClaim.holds_of_wide 4 Tryz.f4 rfl rfl rfl rfl rfl rfl rfl ⟨rfl,rfl,rfl,rfl,rfl⟩ rfl rfl rfl rfl rfl (by kernel_rfl) Tryz.func4 closed
  (of_decide_eq_true (by kernel_rfl)) (by unfold Func.isWrapper; first | (rw [if_pos (by decide +kernel)]; kernel_rfl) | (rw [if_neg (by decide +kernel)]; exact ⟨rfl,rfl⟩))
  (fun os started H enc _ => lifted os started H enc)
theorem no_go : Tryz.prog.funcs.any Func.goes = false := by kernel_rfl
theorem proved : Rows.ScriptLineCardSaid :=
 Claim7.holds_tied_plain_at .later [] [.data,.data,.data] true (true, "e3a77a696877712b36cf2919243be5970ec171be254ac1322f29e5a803a07b73") false
  row_holds (fun _ h => by cases h) (by kernel_rfl) (fun _ h => by cases h) scriptLine_row_tie rfl ⟨rfl,rfl⟩ (by kernel_rfl) rfl
  (fun f fn hf hfn => by
   obtain rfl : f = 4 := Option.some.inj ((show Tryz.prog.funcNamed Tryz.f4.name = some 4 by kernel_rfl).symm.trans hf) |>.symm
   obtain rfl : fn = Tryz.f4 := (Option.some.inj (Tryz.func4.symm.trans hfn)).symm
   exact ⟨by kernel_rfl,fun j t ht => by
    rw [Tryz.params4] at ht
    have hm : t ∈ [23,3] := by simpa using Array.mem_of_getElem? ht
    have hall : ([23,3].all fun u => !Tryz.prog.wantsStandIn u) = true := by kernel_rfl
    exact (show Tryz.prog.wantsStandIn t = false by simpa using List.all_eq_true.1 hall t hm)⟩)
  (qlx no_go _).symm
end lawScriptLine
end Go.Proofs.YtaglodpkpggdiaaGreatDoor
