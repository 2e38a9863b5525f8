/-
  The machine of this program: what it knows of calls that it does not run.
-/
import Derived.Test.YtmlmgbnhaenabaaGreatGp
import Derived.Shelf.SlIterI.Nil
import Derived.Shelf.SortM.Plain
import Derived.Shelf.SortM.SortNone
set_option linter.unusedSimpArgs false
set_option linter.unusedVariables false
namespace Go.Proofs.YtmlmgbnhaenabaaGreat
open Go Go.Gm Go.RowKit Go.Maps Go.Sort Go.Shelf
def keysA_ren : Go.Shelf.Ren := ⟨fun | 7 => 24 | 10 => 39 | n => n, fun | 23 => 46 | 26 => 3 | 27 => 49 | 28 => 50 | 33 => 63 | n => n, fun n => n⟩
theorem keysA : SlLaysZI.n7 Tryz.prog keysA_ren where
  mixed := by kernel_rfl
  f7 := ⟨Tryz.f24.name, by kernel_rfl, Tryz.func24.trans (congrArg some (by kernel_rfl))⟩
  f10 := ⟨Tryz.f39.name, by kernel_rfl, Tryz.func39.trans (congrArg some (by kernel_rfl))⟩
  t0 := Tryz.underlying0
  a0 := Tryz.isAgg0
  z0 := Tryz.sizeOf0
  v0 := Tryz.zeroValue0
  t4 := Tryz.underlying4
  a4 := Tryz.isAgg4
  z4 := Tryz.sizeOf4
  v4 := Tryz.zeroValue4
  t23 := Tryz.underlying46
  a23 := Tryz.isAgg46
  z23 := Tryz.sizeOf46
  v23 := Tryz.zeroValue46
  t26 := Tryz.underlying3
  a26 := Tryz.isAgg3
  z26 := Tryz.sizeOf3
  v26 := Tryz.zeroValue3
  t27 := Tryz.underlying49
  a27 := Tryz.isAgg49
  z27 := Tryz.sizeOf49
  v27 := Tryz.zeroValue49
  t28 := Tryz.underlying50
  a28 := Tryz.isAgg50
  z28 := Tryz.sizeOf50
  v28 := Tryz.zeroValue50
  t33 := Tryz.underlying63
  a33 := Tryz.isAgg63
  z33 := Tryz.sizeOf63
  v33 := Tryz.zeroValue63
def sortedA_ren : Go.Shelf.Ren := ⟨fun | 6 => 23 | 8 => 37 | 9 => 38 | 11 => 51 | 12 => 52 | 13 => 53 | 14 => 61 | 15 => 62 | 16 => 63 | 17 => 64 | 18 => 65 | 19 => 66 | 20 => 67 | 21 => 68 | 22 => 69 | 23 => 70 | 24 => 71 | 25 => 81 | 26 => 82 | 27 => 83 | 28 => 84 | 29 => 85 | 30 => 86 | 31 => 93 | n => n, fun | 24 => 28 | 26 => 3 | 28 => 50 | 33 => 63 | 37 => 77 | 39 => 84 | 40 => 85 | 45 => 90 | 48 => 93 | 50 => 95 | 51 => 101 | 55 => 105 | 57 => 110 | 58 => 111 | n => n, fun n => n⟩
theorem sortedA : SlLaysZI.n6 Tryz.prog sortedA_ren where
  mixed := by kernel_rfl
  f6 := ⟨Tryz.f23.name, by kernel_rfl, Tryz.func23.trans (congrArg some (by kernel_rfl))⟩
  f8 := ⟨Tryz.f37.name, by kernel_rfl, Tryz.func37.trans (congrArg some (by kernel_rfl))⟩
  f11 := ⟨Tryz.f51.name, by kernel_rfl, Tryz.func51.trans (congrArg some (by kernel_rfl))⟩
  t0 := Tryz.underlying0
  a0 := Tryz.isAgg0
  z0 := Tryz.sizeOf0
  v0 := Tryz.zeroValue0
  t24 := Tryz.underlying28
  a24 := Tryz.isAgg28
  z24 := Tryz.sizeOf28
  v24 := Tryz.zeroValue28
  t26 := Tryz.underlying3
  a26 := Tryz.isAgg3
  z26 := Tryz.sizeOf3
  v26 := Tryz.zeroValue3
  t28 := Tryz.underlying50
  a28 := Tryz.isAgg50
  z28 := Tryz.sizeOf50
  v28 := Tryz.zeroValue50
  i26 := by kernel_rfl
def sortA_ren : Go.Shelf.Ren := ⟨fun | 5 => 38 | 7 => 52 | 8 => 53 | 10 => 61 | 11 => 62 | 12 => 63 | 13 => 64 | 14 => 65 | 15 => 66 | 16 => 67 | 17 => 68 | 18 => 69 | 19 => 70 | 20 => 71 | 30 => 81 | 31 => 82 | 32 => 83 | 33 => 84 | 34 => 85 | 35 => 86 | 40 => 93 | n => n, fun | 22 => 28 | 23 => 28 | 25 => 3 | 32 => 77 | 35 => 84 | 36 => 85 | 41 => 90 | 44 => 93 | 46 => 95 | 53 => 101 | 57 => 105 | 63 => 110 | 64 => 111 | n => n, fun n => n⟩
theorem sortA : SlLaysM.n5 Tryz.prog sortA_ren where
  mixed := by kernel_rfl
  f5 := ⟨Tryz.f38.name, by kernel_rfl, Tryz.func38.trans (congrArg some (by kernel_rfl))⟩
  f7 := ⟨Tryz.f52.name, by kernel_rfl, Tryz.func52.trans (congrArg some (by kernel_rfl))⟩
  f8 := Tryz.func53.trans (congrArg some (by kernel_rfl))
  f10 := ⟨Tryz.f61.name, by kernel_rfl, Tryz.func61.trans (congrArg some (by kernel_rfl))⟩
  f11 := ⟨Tryz.f62.name, by kernel_rfl, Tryz.func62.trans (congrArg some (by kernel_rfl))⟩
  f12 := ⟨Tryz.f63.name, by kernel_rfl, Tryz.func63.trans (congrArg some (by kernel_rfl))⟩
  f13 := ⟨Tryz.f64.name, by kernel_rfl, Tryz.func64.trans (congrArg some (by kernel_rfl))⟩
  f14 := ⟨Tryz.f65.name, by kernel_rfl, Tryz.func65.trans (congrArg some (by kernel_rfl))⟩
  f15 := ⟨Tryz.f66.name, by kernel_rfl, Tryz.func66.trans (congrArg some (by kernel_rfl))⟩
  f16 := ⟨Tryz.f67.name, by kernel_rfl, Tryz.func67.trans (congrArg some (by kernel_rfl))⟩
  f17 := ⟨Tryz.f68.name, by kernel_rfl, Tryz.func68.trans (congrArg some (by kernel_rfl))⟩
  f18 := ⟨Tryz.f69.name, by kernel_rfl, Tryz.func69.trans (congrArg some (by kernel_rfl))⟩
  f19 := Tryz.func70.trans (congrArg some (by kernel_rfl))
  f20 := Tryz.func71.trans (congrArg some (by kernel_rfl))
  f30 := ⟨Tryz.f81.name, by kernel_rfl, Tryz.func81.trans (congrArg some (by kernel_rfl))⟩
  f31 := Tryz.func82.trans (congrArg some (by kernel_rfl))
  f32 := Tryz.func83.trans (congrArg some (by kernel_rfl))
  f33 := ⟨Tryz.f84.name, by kernel_rfl, Tryz.func84.trans (congrArg some (by kernel_rfl))⟩
  f34 := ⟨Tryz.f85.name, by kernel_rfl, Tryz.func85.trans (congrArg some (by kernel_rfl))⟩
  f35 := ⟨Tryz.f86.name, by kernel_rfl, Tryz.func86.trans (congrArg some (by kernel_rfl))⟩
  f40 := ⟨Tryz.f93.name, by kernel_rfl, Tryz.func93.trans (congrArg some (by kernel_rfl))⟩
  t0 := Tryz.underlying0
  a0 := Tryz.isAgg0
  z0 := Tryz.sizeOf0
  v0 := Tryz.zeroValue0
  t3 := Tryz.underlying3
  a3 := Tryz.isAgg3
  z3 := Tryz.sizeOf3
  v3 := Tryz.zeroValue3
  t4 := Tryz.underlying4
  a4 := Tryz.isAgg4
  z4 := Tryz.sizeOf4
  v4 := Tryz.zeroValue4
  t5 := Tryz.underlying5
  a5 := Tryz.isAgg5
  z5 := Tryz.sizeOf5
  v5 := Tryz.zeroValue5
  t9 := Tryz.underlying9
  a9 := Tryz.isAgg9
  z9 := Tryz.sizeOf9
  v9 := Tryz.zeroValue9
  t22 := Tryz.underlying28
  a22 := Tryz.isAgg28
  z22 := Tryz.sizeOf28
  v22 := Tryz.zeroValue28
  t23 := Tryz.underlying28
  a23 := Tryz.isAgg28
  z23 := Tryz.sizeOf28
  v23 := Tryz.zeroValue28
  t25 := Tryz.underlying3
  a25 := Tryz.isAgg3
  z25 := Tryz.sizeOf3
  v25 := Tryz.zeroValue3
  t32 := Tryz.underlying77
  a32 := Tryz.isAgg77
  z32 := Tryz.sizeOf77
  v32 := Tryz.zeroValue77
  t35 := Tryz.underlying84
  a35 := Tryz.isAgg84
  z35 := Tryz.sizeOf84
  v35 := Tryz.zeroValue84
  t36 := Tryz.underlying85
  a36 := Tryz.isAgg85
  z36 := Tryz.sizeOf85
  v36 := Tryz.zeroValue85
  t41 := Tryz.underlying90
  a41 := Tryz.isAgg90
  z41 := Tryz.sizeOf90
  v41 := Tryz.zeroValue90
  t44 := Tryz.underlying93
  a44 := Tryz.isAgg93
  z44 := Tryz.sizeOf93
  v44 := Tryz.zeroValue93
  t46 := Tryz.underlying95
  a46 := Tryz.isAgg95
  z46 := Tryz.sizeOf95
  v46 := Tryz.zeroValue95
  t53 := Tryz.underlying101
  a53 := Tryz.isAgg101
  z53 := Tryz.sizeOf101
  v53 := Tryz.zeroValue101
  t57 := Tryz.underlying105
  a57 := Tryz.isAgg105
  z57 := Tryz.sizeOf105
  v57 := Tryz.zeroValue105
  t63 := Tryz.underlying110
  a63 := Tryz.isAgg110
  z63 := Tryz.sizeOf110
  v63 := Tryz.zeroValue110
  t64 := Tryz.underlying111
  a64 := Tryz.isAgg111
  z64 := Tryz.sizeOf111
  v64 := Tryz.zeroValue111
theorem sortsA (m : Nat) : AnyZI.SortsIn Tryz.prog sortedA_ren Fence.wide m :=
  ⟨fun blk off cap ss W hH hblk hsz => callsIn_wide.2 (AnyM.slices_Sort_int sortA blk off cap ss W hH hblk hsz), fun p cap W => callsIn_wide.2 (AnyM.slices_Sort_int_none sortA p cap W)⟩

theorem sortedCall (l b nn : Nat) (D0 : DataW Unit) (w : World) (hl : l < w.heap.size) (hc : w.cell? ⟨l, 0, none⟩ = some (.map (some b))) (hown : w.ownsMap Tryz.prog 3 (fun _ => some (.nil, [])) b nn D0) (hmax : Maps.size D0 ≤ maxLen) (hbytes : Maps.size D0 * 8 ≤ 140737488355328) :
    Calls Tryz.prog 23 #[.func (.func 39) #[] #[.pointer (some ⟨l, 0, none⟩)]] w fun e w' => ∃ (v : Value) (ss : List Int), e = .returned v ∧ ss.Perm (intKeys D0) ∧
      w'.ownsRow w.heap.size 3 1 v ss.length ((ss.mergeSort (fun x y => decide (x ≤ y))).map encZ) ∧ (v = .slice none 0 0 ↔ ss = []) ∧ Below w.heap.size w w' := by
  have hseq : SeqGives Fence.wide 2 Tryz.prog 39 #[.pointer (some ⟨l, 0, none⟩)] encZ (fun ss => ss.Perm (intKeys D0)) (Maps.size D0) w :=
    AnyZI.keys_gives (ρ := keysA_ren) { keysA with } Fence.wide _ trivial rfl (by omega) l b nn D0 w hl hc hown
  have cS := AnyZI.sorted_in sortedA Fence.wide 5 trivial trivial trivial trivial rfl (by omega) (sortsA _) (enters_of Tryz.func38 (by kernel_rfl) rfl) 39 #[.pointer (some ⟨l, 0, none⟩)] trivial (enters_of Tryz.func39 (by kernel_rfl) rfl) _ _ hmax hbytes _ hseq
  exact (callsIn_wide (n := 5)).1 cS

def S : Special := ⟨fun f => if f = 23 then some (spSorted 39) else none⟩
theorem S_ok : SpecialOK Tryz.prog S := fun f g h args H r H' hg => by
  simp only [S] at h
  split at h
  · rename_i hf
    subst hf
    cases h
    exact spSorted_ok (kt := 3) Tryz.underlying3 ⟨_, Tryz.func23, by kernel_rfl, by kernel_rfl⟩ sortedCall hg
  · cases h
noncomputable abbrev O : Oracle := omega G S
theorem sortedKeys_ok {m : MapII} {r : List Int} (h : sortedKeys m = some r) :
    O.call 23 [.clo 39 [] [.ptr 0 0]] [(0, .box [.map 1]), (1, .map (List.map entE m.es) m.clock)] = some (.row 2 r.length 0 r.length, [(0, .box [.map 1]), (1, .map (List.map entE m.es) m.clock), (2, .row r.isEmpty (szc 1 r) (List.map intE r))]) :=
  (omega_special (S := S) (g := spSorted 39) rfl _ _).trans (spSorted_typed h 39)
end Go.Proofs.YtmlmgbnhaenabaaGreat
