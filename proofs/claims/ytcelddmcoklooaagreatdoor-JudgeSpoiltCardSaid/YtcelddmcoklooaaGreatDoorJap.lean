/-
  The statement JudgeSpoilt: whatever is handed in, the law returns true; the tables that the row lists hold what the program text lays.
-/
import Derived.Test.YtcelddmcoklooaaGreatDoorJak
import Derived.Test.YtcelddmcoklooaaGreatDoorJal
import Derived.Test.YtcelddmcoklooaaGreatDoorJao
import Derived.ProofKit
import Derived.LaidMore
import Derived.OpenShut
import Derived.Stop.Joined
import Derived.SevenTiedAt
import Derived.Test.YtcelddmcoklooaaGreatDoorTie
import Derived.Test.YtcelddmcoklooaaGreatDoorCards
set_option linter.unusedSimpArgs false
set_option linter.unusedVariables false
set_option maxRecDepth 100000
namespace Go.Proofs.YtcelddmcoklooaaGreatDoor
open Go Go.Gm Go.ChangeShapes Go.WideShapes
namespace lawJudgeSpoilt
theorem follows : Tryz.prog.follows .mixedOrders = true := by kernel_rfl
theorem ownKnobs : ownKnob Tryz.prog.godebug = none := by kernel_rfl
theorem laidOutP : laidOutB Tryz.prog = true := by kernel_rfl
theorem reads : wh Tryz.prog Tryz.f3.params.toList (fun x : Bytes × Bytes × Int × UInt8 × Unit => [PV.str x.1,PV.str x.2.1,PV.int IntKind.i64 x.2.2.1,PV.int IntKind.u8 (x.2.2.2.1.toNat : Int)]) (fun _ => True) := by
 have h := wh.cons qb5 (wh.cons qb5 (wh.cons qsq (wh.cons qks (wh.nil (P := Tryz.prog)))))
 have e : Tryz.f3.params.toList = [9,9,3,5] := by rw [Tryz.params3]
 rw [e]
 exact h.weaken
theorem door_met (os : Os) (args : Array Value) : laidMetH Tryz.prog Rows.judgeSpoiltRow.laid ((World.doorLaid Tryz.prog 400 os).forCall (fun _ _ => 0) ⟨#[],args,[]⟩).memory :=
 laidMetH_of_parts3 (fuel := 8) (laidMet_of_run' 8 (by kernel_rfl) (by kernel_rfl)) (by kernel_rfl) (by kernel_rfl)
theorem tab_eq : (Rows.laid_internal_strconv_uint64pow10 : DataW Unit) = Lib.tabData .u64 Lib.pow10Tab := by kernel_rfl
theorem laid_tab {W : World} (h : laidMetH Tryz.prog Rows.judgeSpoiltRow.laid W) : Lib.TabIs Tryz.prog W q6a .u64 Lib.pow10Tab := by
 rw [MakeChecks.laidMetH_plain _ _ _ (by kernel_rfl)] at h
 obtain ⟨ps,⟨_,_,_,_,_,_,_,_,_,_,⟨_,_,_,_,_,_,_,_,_,_,⟨g,t,cs,f,p,q,hg,ht,hv,hd,_,_⟩,_⟩,_⟩,_⟩ := h
 obtain rfl := Option.some.inj (qax.symm.trans hg)
 obtain rfl := Option.some.inj ((show (Tryz.prog.globals[1]?).map (·.type) = some 502 by kernel_rfl).symm.trans ht)
 unfold Lib.TabIs
 rw [tab_eq] at hd
 have hv' : W.var? Tryz.prog q6a = _ := hv
 rw [hv',← Lib.cells_of_tab Tryz.underlying502 Tryz.underlying299 (by kernel_rfl) (by kernel_rfl) hd]
theorem lifted (os : Os) (started : os.Started) (H : Type) (enc : TypeId × Value → H) :
  ReturnsInHanded {} Tryz.checked os 3 .any (fun w args => (Rows.judgeSpoiltSpec.pre enc Tryz.prog Tryz.f3 [] false w args ∧ laidMetH Tryz.prog Rows.judgeSpoiltRow.laid w) ∧ sizedMet enc Tryz.prog Tryz.f3 (OpenSpec.ofChange Rows.judgeSpoiltSpec) false w args)
   (Rows.judgeSpoiltSpec.post enc Tryz.prog Tryz.f3 false true false false) := by
 refine returnsInHanded_of_change_and (C := Tryz.checked) (X := fun w _ => laidMetH Tryz.prog Rows.judgeSpoiltRow.laid w) (fun _ _ _ hh h => h.of_heap hh) ownKnobs started (by kernel_rfl) Tryz.func3
  (ChangeSpec.witness_shaped (enc := enc) (C := Tryz.checked) (os := os) (X := fun w _ => laidMetH Tryz.prog Rows.judgeSpoiltRow.laid w) false (World.doorLaid Tryz.prog 400 os) #[.string ⟨#[]⟩,.string ⟨#[]⟩,.int .i64 0,.int .u8 0] 8 rfl (World.shaped_of_RefB (by kernel_rfl) (by kernel_rfl)) (by kernel_rfl) (by kernel_rfl) (by kernel_rfl) (door_met os _)) ?_
 intro W base args ds gs before hval hW _ _ hL _
 refine qzd (G := G) (S := S) follows x77 qsa zm6 laidOutP (tb := 4) rfl Tryz.underlying4 rfl (by decide +kernel) ?_ reads ?_ hval hW ⟨laid_tab hL,qiu (laid_tab hL)⟩
 ·intro H ds hd
  match ds,hd with
  | [d0,d1,d2,d3],_ => rfl
 ·intro b hb
  exact ⟨[],zt4 (zt3 b.1 b.2.1 b.2.2.1 b.2.2.2.1)⟩
theorem cell1 : (Rows.judgeSpoiltRow.inPlace == Tryz.prog.inPlace 3) = true := by kernel_rfl
theorem cell2 : (Rows.judgeSpoiltRow.unfollowed == Tryz.prog.unfollowed 3) = true := by kernel_rfl
theorem cell3 : (Rows.judgeSpoiltRow.recurses == Tryz.prog.recurses 3) = true := by kernel_rfl
theorem cell4 : (Rows.judgeSpoiltRow.named == Tryz.prog.varsNamed 3) = true := by kernel_rfl
theorem closed : joinedFacts Tryz.prog 3 Tryz.f3 Rows.judgeSpoiltSpec Rows.judgeSpoiltRow = true := zez cell1 cell2 cell3 cell4 (by kernel_rfl)
theorem row_holds : Rows.JudgeSpoiltSaid :=
 OpenClaim.holds_of_wide 3 Tryz.f3 rfl rfl rfl rfl rfl rfl rfl ⟨rfl,rfl,rfl,rfl,rfl⟩ rfl rfl rfl rfl rfl (by kernel_rfl) Tryz.func3 closed
  (of_decide_eq_true (by kernel_rfl)) (by unfold Func.isWrapper; first | (rw [if_pos (by decide +kernel)]; kernel_rfl) | (rw [if_neg (by decide +kernel)]; exact ⟨rfl,rfl⟩))
  (fun os started H enc _ => lifted os started H enc)
theorem no_go : Tryz.prog.funcs.any Func.goes = false := by kernel_rfl
theorem proved : Rows.JudgeSpoiltCardSaid :=
 Claim7.holds_tied_plain_at .later [] [.data,.data,.data] true (true, "c78cff824aa360e582149da3a78d8e0e4ad1e02409b459adf0b846d05ea2e6bd") false
  row_holds (fun _ h => by cases h) (by kernel_rfl) (fun _ h => by cases h) judgeSpoilt_row_tie rfl ⟨rfl,rfl⟩ (by kernel_rfl) rfl
  (fun f fn hf hfn => by
   obtain rfl : f = 3 := Option.some.inj ((show Tryz.prog.funcNamed Tryz.f3.name = some 3 by kernel_rfl).symm.trans hf) |>.symm
   obtain rfl : fn = Tryz.f3 := (Option.some.inj (Tryz.func3.symm.trans hfn)).symm
   exact ⟨by kernel_rfl,fun j t ht => by
    rw [Tryz.params3] at ht
    have hm : t ∈ [9,9,3,5] := by simpa using Array.mem_of_getElem? ht
    have hall : ([9,9,3,5].all fun u => !Tryz.prog.wantsStandIn u) = true := by kernel_rfl
    exact (show Tryz.prog.wantsStandIn t = false by simpa using List.all_eq_true.1 hall t hm)⟩)
  (qh3 no_go _).symm
end lawJudgeSpoilt
end Go.Proofs.YtcelddmcoklooaaGreatDoor
