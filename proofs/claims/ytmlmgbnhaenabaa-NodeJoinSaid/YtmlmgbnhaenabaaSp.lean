/-
  The machine of this program: what it knows of calls that it does not run.
-/
import Derived.Test.YtmlmgbnhaenabaaGp
import Derived.Shelf.SlIterI.Nil
import Derived.Shelf.SortM.Plain
import Derived.Shelf.SortM.SortNone
set_option linter.unusedSimpArgs false
set_option linter.unusedVariables false
namespace Go.Proofs.Ytmlmgbnhaenabaa
open Go Go.Gm Go.RowKit Go.Maps Go.Sort Go.Shelf
def keysA_ren : Go.Shelf.Ren := ⟨fun | 7 => 35 | 10 => 46 | n => n, fun | 23 => 57 | 26 => 3 | 27 => 60 | 28 => 61 | 33 => 72 | n => n, fun n => n⟩
theorem keysA : SlLaysZI.n7 Try.prog keysA_ren where
  mixed := by kernel_rfl
  f7 := ⟨Try.f35.name, by kernel_rfl, Try.func35.trans (congrArg some (by kernel_rfl))⟩
  f10 := ⟨Try.f46.name, by kernel_rfl, Try.func46.trans (congrArg some (by kernel_rfl))⟩
  t0 := Try.underlying0
  a0 := Try.isAgg0
  z0 := Try.sizeOf0
  v0 := Try.zeroValue0
  t4 := Try.underlying4
  a4 := Try.isAgg4
  z4 := Try.sizeOf4
  v4 := Try.zeroValue4
  t23 := Try.underlying57
  a23 := Try.isAgg57
  z23 := Try.sizeOf57
  v23 := Try.zeroValue57
  t26 := Try.underlying3
  a26 := Try.isAgg3
  z26 := Try.sizeOf3
  v26 := Try.zeroValue3
  t27 := Try.underlying60
  a27 := Try.isAgg60
  z27 := Try.sizeOf60
  v27 := Try.zeroValue60
  t28 := Try.underlying61
  a28 := Try.isAgg61
  z28 := Try.sizeOf61
  v28 := Try.zeroValue61
  t33 := Try.underlying72
  a33 := Try.isAgg72
  z33 := Try.sizeOf72
  v33 := Try.zeroValue72
def sortedA_ren : Go.Shelf.Ren := ⟨fun | 6 => 34 | 8 => 44 | 9 => 45 | 11 => 53 | 12 => 54 | 13 => 55 | 14 => 60 | 15 => 61 | 16 => 62 | 17 => 63 | 18 => 64 | 19 => 65 | 20 => 66 | 21 => 67 | 22 => 68 | 23 => 69 | 24 => 70 | 25 => 73 | 26 => 74 | 27 => 75 | 28 => 76 | 29 => 77 | 30 => 78 | 31 => 81 | n => n, fun | 24 => 46 | 26 => 3 | 28 => 61 | 33 => 72 | 37 => 54 | 39 => 86 | 40 => 87 | 45 => 91 | 48 => 94 | 50 => 96 | 51 => 99 | 55 => 103 | 57 => 107 | 58 => 108 | n => n, fun n => n⟩
theorem sortedA : SlLaysZI.n6 Try.prog sortedA_ren where
  mixed := by kernel_rfl
  f6 := ⟨Try.f34.name, by kernel_rfl, Try.func34.trans (congrArg some (by kernel_rfl))⟩
  f8 := ⟨Try.f44.name, by kernel_rfl, Try.func44.trans (congrArg some (by kernel_rfl))⟩
  f11 := ⟨Try.f53.name, by kernel_rfl, Try.func53.trans (congrArg some (by kernel_rfl))⟩
  t0 := Try.underlying0
  a0 := Try.isAgg0
  z0 := Try.sizeOf0
  v0 := Try.zeroValue0
  t24 := Try.underlying46
  a24 := Try.isAgg46
  z24 := Try.sizeOf46
  v24 := Try.zeroValue46
  t26 := Try.underlying3
  a26 := Try.isAgg3
  z26 := Try.sizeOf3
  v26 := Try.zeroValue3
  t28 := Try.underlying61
  a28 := Try.isAgg61
  z28 := Try.sizeOf61
  v28 := Try.zeroValue61
  i26 := by kernel_rfl
def sortA_ren : Go.Shelf.Ren := ⟨fun | 5 => 45 | 7 => 54 | 8 => 55 | 10 => 60 | 11 => 61 | 12 => 62 | 13 => 63 | 14 => 64 | 15 => 65 | 16 => 66 | 17 => 67 | 18 => 68 | 19 => 69 | 20 => 70 | 30 => 73 | 31 => 74 | 32 => 75 | 33 => 76 | 34 => 77 | 35 => 78 | 40 => 81 | n => n, fun | 22 => 46 | 23 => 46 | 25 => 3 | 32 => 54 | 35 => 86 | 36 => 87 | 41 => 91 | 44 => 94 | 46 => 96 | 53 => 99 | 57 => 103 | 63 => 107 | 64 => 108 | n => n, fun n => n⟩
theorem sortA : SlLaysM.n5 Try.prog sortA_ren where
  mixed := by kernel_rfl
  f5 := ⟨Try.f45.name, by kernel_rfl, Try.func45.trans (congrArg some (by kernel_rfl))⟩
  f7 := ⟨Try.f54.name, by kernel_rfl, Try.func54.trans (congrArg some (by kernel_rfl))⟩
  f8 := Try.func55.trans (congrArg some (by kernel_rfl))
  f10 := ⟨Try.f60.name, by kernel_rfl, Try.func60.trans (congrArg some (by kernel_rfl))⟩
  f11 := ⟨Try.f61.name, by kernel_rfl, Try.func61.trans (congrArg some (by kernel_rfl))⟩
  f12 := ⟨Try.f62.name, by kernel_rfl, Try.func62.trans (congrArg some (by kernel_rfl))⟩
  f13 := ⟨Try.f63.name, by kernel_rfl, Try.func63.trans (congrArg some (by kernel_rfl))⟩
  f14 := ⟨Try.f64.name, by kernel_rfl, Try.func64.trans (congrArg some (by kernel_rfl))⟩
  f15 := ⟨Try.f65.name, by kernel_rfl, Try.func65.trans (congrArg some (by kernel_rfl))⟩
  f16 := ⟨Try.f66.name, by kernel_rfl, Try.func66.trans (congrArg some (by kernel_rfl))⟩
  f17 := ⟨Try.f67.name, by kernel_rfl, Try.func67.trans (congrArg some (by kernel_rfl))⟩
  f18 := ⟨Try.f68.name, by kernel_rfl, Try.func68.trans (congrArg some (by kernel_rfl))⟩
  f19 := Try.func69.trans (congrArg some (by kernel_rfl))
  f20 := Try.func70.trans (congrArg some (by kernel_rfl))
  f30 := ⟨Try.f73.name, by kernel_rfl, Try.func73.trans (congrArg some (by kernel_rfl))⟩
  f31 := Try.func74.trans (congrArg some (by kernel_rfl))
  f32 := Try.func75.trans (congrArg some (by kernel_rfl))
  f33 := ⟨Try.f76.name, by kernel_rfl, Try.func76.trans (congrArg some (by kernel_rfl))⟩
  f34 := ⟨Try.f77.name, by kernel_rfl, Try.func77.trans (congrArg some (by kernel_rfl))⟩
  f35 := ⟨Try.f78.name, by kernel_rfl, Try.func78.trans (congrArg some (by kernel_rfl))⟩
  f40 := ⟨Try.f81.name, by kernel_rfl, Try.func81.trans (congrArg some (by kernel_rfl))⟩
  t0 := Try.underlying0
  a0 := Try.isAgg0
  z0 := Try.sizeOf0
  v0 := Try.zeroValue0
  t3 := Try.underlying3
  a3 := Try.isAgg3
  z3 := Try.sizeOf3
  v3 := Try.zeroValue3
  t4 := Try.underlying4
  a4 := Try.isAgg4
  z4 := Try.sizeOf4
  v4 := Try.zeroValue4
  t5 := Try.underlying5
  a5 := Try.isAgg5
  z5 := Try.sizeOf5
  v5 := Try.zeroValue5
  t9 := Try.underlying9
  a9 := Try.isAgg9
  z9 := Try.sizeOf9
  v9 := Try.zeroValue9
  t22 := Try.underlying46
  a22 := Try.isAgg46
  z22 := Try.sizeOf46
  v22 := Try.zeroValue46
  t23 := Try.underlying46
  a23 := Try.isAgg46
  z23 := Try.sizeOf46
  v23 := Try.zeroValue46
  t25 := Try.underlying3
  a25 := Try.isAgg3
  z25 := Try.sizeOf3
  v25 := Try.zeroValue3
  t32 := Try.underlying54
  a32 := Try.isAgg54
  z32 := Try.sizeOf54
  v32 := Try.zeroValue54
  t35 := Try.underlying86
  a35 := Try.isAgg86
  z35 := Try.sizeOf86
  v35 := Try.zeroValue86
  t36 := Try.underlying87
  a36 := Try.isAgg87
  z36 := Try.sizeOf87
  v36 := Try.zeroValue87
  t41 := Try.underlying91
  a41 := Try.isAgg91
  z41 := Try.sizeOf91
  v41 := Try.zeroValue91
  t44 := Try.underlying94
  a44 := Try.isAgg94
  z44 := Try.sizeOf94
  v44 := Try.zeroValue94
  t46 := Try.underlying96
  a46 := Try.isAgg96
  z46 := Try.sizeOf96
  v46 := Try.zeroValue96
  t53 := Try.underlying99
  a53 := Try.isAgg99
  z53 := Try.sizeOf99
  v53 := Try.zeroValue99
  t57 := Try.underlying103
  a57 := Try.isAgg103
  z57 := Try.sizeOf103
  v57 := Try.zeroValue103
  t63 := Try.underlying107
  a63 := Try.isAgg107
  z63 := Try.sizeOf107
  v63 := Try.zeroValue107
  t64 := Try.underlying108
  a64 := Try.isAgg108
  z64 := Try.sizeOf108
  v64 := Try.zeroValue108
theorem sortsA (m : Nat) : AnyZI.SortsIn Try.prog sortedA_ren Fence.wide m :=
  ⟨fun blk off cap ss W hH hblk hsz => callsIn_wide.2 (AnyM.slices_Sort_int sortA blk off cap ss W hH hblk hsz), fun p cap W => callsIn_wide.2 (AnyM.slices_Sort_int_none sortA p cap W)⟩

theorem sortedCall (l b nn : Nat) (D0 : DataW Unit) (w : World) (hl : l < w.heap.size) (hc : w.cell? ⟨l, 0, none⟩ = some (.map (some b))) (hown : w.ownsMap Try.prog 3 (fun _ => some (.nil, [])) b nn D0) (hmax : Maps.size D0 ≤ maxLen) (hbytes : Maps.size D0 * 8 ≤ 140737488355328) :
    Calls Try.prog 34 #[.func (.func 46) #[] #[.pointer (some ⟨l, 0, none⟩)]] w fun e w' => ∃ (v : Value) (ss : List Int), e = .returned v ∧ ss.Perm (intKeys D0) ∧
      w'.ownsRow w.heap.size 3 1 v ss.length ((ss.mergeSort (fun x y => decide (x ≤ y))).map encZ) ∧ (v = .slice none 0 0 ↔ ss = []) ∧ Below w.heap.size w w' := by
  have hseq : SeqGives Fence.wide 2 Try.prog 46 #[.pointer (some ⟨l, 0, none⟩)] encZ (fun ss => ss.Perm (intKeys D0)) (Maps.size D0) w :=
    AnyZI.keys_gives (ρ := keysA_ren) { keysA with } Fence.wide _ trivial rfl (by omega) l b nn D0 w hl hc hown
  have cS := AnyZI.sorted_in sortedA Fence.wide 5 trivial trivial trivial trivial rfl (by omega) (sortsA _) (enters_of Try.func45 (by kernel_rfl) rfl) 46 #[.pointer (some ⟨l, 0, none⟩)] trivial (enters_of Try.func46 (by kernel_rfl) rfl) _ _ hmax hbytes _ hseq
  exact (callsIn_wide (n := 5)).1 cS

def S : Special := ⟨fun f => if f = 34 then some (spSorted 46) else none⟩
theorem S_ok : SpecialOK Try.prog S := fun f g h args H r H' hg => by
  simp only [S] at h
  split at h
  · rename_i hf
    subst hf
    cases h
    exact spSorted_ok (kt := 3) Try.underlying3 ⟨_, Try.func34, by kernel_rfl, by kernel_rfl⟩ sortedCall hg
  · cases h
noncomputable abbrev O : Oracle := omega G S
theorem sortedKeys_ok {m : MapII} {r : List Int} (h : sortedKeys m = some r) :
    O.call 34 [.clo 46 [] [.ptr 0 0]] [(0, .box [.map 1]), (1, .map (List.map entE m.es) m.clock)] = some (.row 2 r.length 0 r.length, [(0, .box [.map 1]), (1, .map (List.map entE m.es) m.clock), (2, .row r.isEmpty (szc 1 r) (List.map intE r))]) :=
  (omega_special (S := S) (g := spSorted 46) rfl _ _).trans (spSorted_typed h 46)
end Go.Proofs.Ytmlmgbnhaenabaa
