/-
  The machine of this program: what it knows of calls that it does not run.
-/
import Derived.Test.YtdhgdeelagmbpaaGp
import Derived.Shelf.SlIterI.Nil
import Derived.Shelf.SortM.Plain
import Derived.Shelf.SortM.SortNone
set_option linter.unusedSimpArgs false
set_option linter.unusedVariables false
namespace Go.Proofs.Ytdhgdeelagmbpaa
open Go Go.Gm Go.RowKit Go.Maps Go.Sort Go.Shelf
def keysA_ren : Go.Shelf.Ren := ⟨fun | 7 => 33 | 10 => 46 | n => n, fun | 23 => 59 | 26 => 3 | 27 => 64 | 28 => 65 | 33 => 69 | n => n, fun n => n⟩
theorem keysA : SlLaysZI.n7 Try.prog keysA_ren where
  mixed := by kernel_rfl
  f7 := ⟨Try.f33.name, by kernel_rfl, Try.func33.trans (congrArg some (by kernel_rfl))⟩
  f10 := ⟨Try.f46.name, by kernel_rfl, Try.func46.trans (congrArg some (by kernel_rfl))⟩
  t0 := Try.underlying0
  a0 := Try.isAgg0
  z0 := Try.sizeOf0
  v0 := Try.zeroValue0
  t4 := Try.underlying4
  a4 := Try.isAgg4
  z4 := Try.sizeOf4
  v4 := Try.zeroValue4
  t23 := Try.underlying59
  a23 := Try.isAgg59
  z23 := Try.sizeOf59
  v23 := Try.zeroValue59
  t26 := Try.underlying3
  a26 := Try.isAgg3
  z26 := Try.sizeOf3
  v26 := Try.zeroValue3
  t27 := Try.underlying64
  a27 := Try.isAgg64
  z27 := Try.sizeOf64
  v27 := Try.zeroValue64
  t28 := Try.underlying65
  a28 := Try.isAgg65
  z28 := Try.sizeOf65
  v28 := Try.zeroValue65
  t33 := Try.underlying69
  a33 := Try.isAgg69
  z33 := Try.sizeOf69
  v33 := Try.zeroValue69
def sortedA_ren : Go.Shelf.Ren := ⟨fun | 6 => 32 | 8 => 44 | 9 => 45 | 11 => 47 | 12 => 48 | 13 => 49 | 14 => 50 | 15 => 51 | 16 => 52 | 17 => 53 | 18 => 54 | 19 => 55 | 20 => 56 | 21 => 57 | 22 => 58 | 23 => 59 | 24 => 60 | 25 => 61 | 26 => 62 | 27 => 63 | 28 => 64 | 29 => 65 | 30 => 66 | 31 => 67 | n => n, fun | 24 => 29 | 26 => 3 | 28 => 65 | 33 => 69 | 37 => 62 | 39 => 80 | 40 => 81 | 45 => 46 | 48 => 87 | 50 => 89 | 51 => 90 | 55 => 94 | 57 => 96 | 58 => 97 | n => n, fun n => n⟩
theorem sortedA : SlLaysZI.n6 Try.prog sortedA_ren where
  mixed := by kernel_rfl
  f6 := ⟨Try.f32.name, by kernel_rfl, Try.func32.trans (congrArg some (by kernel_rfl))⟩
  f8 := ⟨Try.f44.name, by kernel_rfl, Try.func44.trans (congrArg some (by kernel_rfl))⟩
  f11 := ⟨Try.f47.name, by kernel_rfl, Try.func47.trans (congrArg some (by kernel_rfl))⟩
  t0 := Try.underlying0
  a0 := Try.isAgg0
  z0 := Try.sizeOf0
  v0 := Try.zeroValue0
  t24 := Try.underlying29
  a24 := Try.isAgg29
  z24 := Try.sizeOf29
  v24 := Try.zeroValue29
  t26 := Try.underlying3
  a26 := Try.isAgg3
  z26 := Try.sizeOf3
  v26 := Try.zeroValue3
  t28 := Try.underlying65
  a28 := Try.isAgg65
  z28 := Try.sizeOf65
  v28 := Try.zeroValue65
  i26 := by kernel_rfl
def sortA_ren : Go.Shelf.Ren := ⟨fun | 5 => 45 | 7 => 48 | 8 => 49 | 10 => 50 | 11 => 51 | 12 => 52 | 13 => 53 | 14 => 54 | 15 => 55 | 16 => 56 | 17 => 57 | 18 => 58 | 19 => 59 | 20 => 60 | 30 => 61 | 31 => 62 | 32 => 63 | 33 => 64 | 34 => 65 | 35 => 66 | 40 => 67 | n => n, fun | 22 => 29 | 23 => 29 | 25 => 3 | 32 => 62 | 35 => 80 | 36 => 81 | 41 => 46 | 44 => 87 | 46 => 89 | 53 => 90 | 57 => 94 | 63 => 96 | 64 => 97 | n => n, fun n => n⟩
theorem sortA : SlLaysM.n5 Try.prog sortA_ren where
  mixed := by kernel_rfl
  f5 := ⟨Try.f45.name, by kernel_rfl, Try.func45.trans (congrArg some (by kernel_rfl))⟩
  f7 := ⟨Try.f48.name, by kernel_rfl, Try.func48.trans (congrArg some (by kernel_rfl))⟩
  f8 := Try.func49.trans (congrArg some (by kernel_rfl))
  f10 := ⟨Try.f50.name, by kernel_rfl, Try.func50.trans (congrArg some (by kernel_rfl))⟩
  f11 := ⟨Try.f51.name, by kernel_rfl, Try.func51.trans (congrArg some (by kernel_rfl))⟩
  f12 := ⟨Try.f52.name, by kernel_rfl, Try.func52.trans (congrArg some (by kernel_rfl))⟩
  f13 := ⟨Try.f53.name, by kernel_rfl, Try.func53.trans (congrArg some (by kernel_rfl))⟩
  f14 := ⟨Try.f54.name, by kernel_rfl, Try.func54.trans (congrArg some (by kernel_rfl))⟩
  f15 := ⟨Try.f55.name, by kernel_rfl, Try.func55.trans (congrArg some (by kernel_rfl))⟩
  f16 := ⟨Try.f56.name, by kernel_rfl, Try.func56.trans (congrArg some (by kernel_rfl))⟩
  f17 := ⟨Try.f57.name, by kernel_rfl, Try.func57.trans (congrArg some (by kernel_rfl))⟩
  f18 := ⟨Try.f58.name, by kernel_rfl, Try.func58.trans (congrArg some (by kernel_rfl))⟩
  f19 := Try.func59.trans (congrArg some (by kernel_rfl))
  f20 := Try.func60.trans (congrArg some (by kernel_rfl))
  f30 := ⟨Try.f61.name, by kernel_rfl, Try.func61.trans (congrArg some (by kernel_rfl))⟩
  f31 := Try.func62.trans (congrArg some (by kernel_rfl))
  f32 := Try.func63.trans (congrArg some (by kernel_rfl))
  f33 := ⟨Try.f64.name, by kernel_rfl, Try.func64.trans (congrArg some (by kernel_rfl))⟩
  f34 := ⟨Try.f65.name, by kernel_rfl, Try.func65.trans (congrArg some (by kernel_rfl))⟩
  f35 := ⟨Try.f66.name, by kernel_rfl, Try.func66.trans (congrArg some (by kernel_rfl))⟩
  f40 := ⟨Try.f67.name, by kernel_rfl, Try.func67.trans (congrArg some (by kernel_rfl))⟩
  t0 := Try.underlying0
  a0 := Try.isAgg0
  z0 := Try.sizeOf0
  v0 := Try.zeroValue0
  t3 := Try.underlying3
  a3 := Try.isAgg3
  z3 := Try.sizeOf3
  v3 := Try.zeroValue3
  t4 := Try.underlying4
  a4 := Try.isAgg4
  z4 := Try.sizeOf4
  v4 := Try.zeroValue4
  t5 := Try.underlying5
  a5 := Try.isAgg5
  z5 := Try.sizeOf5
  v5 := Try.zeroValue5
  t9 := Try.underlying9
  a9 := Try.isAgg9
  z9 := Try.sizeOf9
  v9 := Try.zeroValue9
  t22 := Try.underlying29
  a22 := Try.isAgg29
  z22 := Try.sizeOf29
  v22 := Try.zeroValue29
  t23 := Try.underlying29
  a23 := Try.isAgg29
  z23 := Try.sizeOf29
  v23 := Try.zeroValue29
  t25 := Try.underlying3
  a25 := Try.isAgg3
  z25 := Try.sizeOf3
  v25 := Try.zeroValue3
  t32 := Try.underlying62
  a32 := Try.isAgg62
  z32 := Try.sizeOf62
  v32 := Try.zeroValue62
  t35 := Try.underlying80
  a35 := Try.isAgg80
  z35 := Try.sizeOf80
  v35 := Try.zeroValue80
  t36 := Try.underlying81
  a36 := Try.isAgg81
  z36 := Try.sizeOf81
  v36 := Try.zeroValue81
  t41 := Try.underlying46
  a41 := Try.isAgg46
  z41 := Try.sizeOf46
  v41 := Try.zeroValue46
  t44 := Try.underlying87
  a44 := Try.isAgg87
  z44 := Try.sizeOf87
  v44 := Try.zeroValue87
  t46 := Try.underlying89
  a46 := Try.isAgg89
  z46 := Try.sizeOf89
  v46 := Try.zeroValue89
  t53 := Try.underlying90
  a53 := Try.isAgg90
  z53 := Try.sizeOf90
  v53 := Try.zeroValue90
  t57 := Try.underlying94
  a57 := Try.isAgg94
  z57 := Try.sizeOf94
  v57 := Try.zeroValue94
  t63 := Try.underlying96
  a63 := Try.isAgg96
  z63 := Try.sizeOf96
  v63 := Try.zeroValue96
  t64 := Try.underlying97
  a64 := Try.isAgg97
  z64 := Try.sizeOf97
  v64 := Try.zeroValue97
theorem sortsA (m : Nat) : AnyZI.SortsIn Try.prog sortedA_ren Fence.wide m :=
  ⟨fun blk off cap ss W hH hblk hsz => callsIn_wide.2 (AnyM.slices_Sort_int sortA blk off cap ss W hH hblk hsz), fun p cap W => callsIn_wide.2 (AnyM.slices_Sort_int_none sortA p cap W)⟩

theorem sortedCall (l b nn : Nat) (D0 : DataW Unit) (w : World) (hl : l < w.heap.size) (hc : w.cell? ⟨l, 0, none⟩ = some (.map (some b))) (hown : w.ownsMap Try.prog 3 (fun _ => some (.nil, [])) b nn D0) (hmax : Maps.size D0 ≤ maxLen) (hbytes : Maps.size D0 * 8 ≤ 140737488355328) :
    Calls Try.prog 32 #[.func (.func 46) #[] #[.pointer (some ⟨l, 0, none⟩)]] w fun e w' => ∃ (v : Value) (ss : List Int), e = .returned v ∧ ss.Perm (intKeys D0) ∧
      w'.ownsRow w.heap.size 3 1 v ss.length ((ss.mergeSort (fun x y => decide (x ≤ y))).map encZ) ∧ (v = .slice none 0 0 ↔ ss = []) ∧ Below w.heap.size w w' := by
  have hseq : SeqGives Fence.wide 2 Try.prog 46 #[.pointer (some ⟨l, 0, none⟩)] encZ (fun ss => ss.Perm (intKeys D0)) (Maps.size D0) w :=
    AnyZI.keys_gives (ρ := keysA_ren) { keysA with } Fence.wide _ trivial rfl (by omega) l b nn D0 w hl hc hown
  have cS := AnyZI.sorted_in sortedA Fence.wide 5 trivial trivial trivial trivial rfl (by omega) (sortsA _) (enters_of Try.func45 (by kernel_rfl) rfl) 46 #[.pointer (some ⟨l, 0, none⟩)] trivial (enters_of Try.func46 (by kernel_rfl) rfl) _ _ hmax hbytes _ hseq
  exact (callsIn_wide (n := 5)).1 cS

def S : Special := ⟨fun f => if f = 32 then some (spSorted 46) else none⟩
theorem S_ok : SpecialOK Try.prog S := fun f g h args H r H' hg => by
  simp only [S] at h
  split at h
  · rename_i hf
    subst hf
    cases h
    exact spSorted_ok (kt := 3) Try.underlying3 ⟨_, Try.func32, by kernel_rfl, by kernel_rfl⟩ sortedCall hg
  · cases h
noncomputable abbrev O : Oracle := omega G S
theorem sortedKeys_ok {m : MapII} {r : List Int} (h : sortedKeys m = some r) :
    O.call 32 [.clo 46 [] [.ptr 0 0]] [(0, .box [.map 1]), (1, .map (List.map entE m.es) m.clock)] = some (.row 2 r.length 0 r.length, [(0, .box [.map 1]), (1, .map (List.map entE m.es) m.clock), (2, .row r.isEmpty (szc 1 r) (List.map intE r))]) :=
  (omega_special (S := S) (g := spSorted 46) rfl _ _).trans (spSorted_typed h 46)
end Go.Proofs.Ytdhgdeelagmbpaa
