/-
  The machine of this program: what it knows of calls that it does not run.
-/
import Derived.Test.YtkbgphcebakcnaaGreatEae
import Derived.Shelf.SlIterI.Nil
import Derived.Shelf.SortM.Plain
import Derived.Shelf.SortM.SortNone
set_option linter.unusedSimpArgs false
set_option linter.unusedVariables false
namespace Go.Proofs.YtkbgphcebakcnaaGreat
open Go Go.Gm Go.RowKit Go.Maps Go.Sort Go.Shelf
def qj3 : Go.Shelf.Ren := ⟨fun | 7 => 66 | 10 => 87 | n => n,fun | 23 => 110 | 26 => 3 | 27 => 124 | 28 => 125 | 33 => 129 | n => n,fun n => n⟩
theorem qt8 : SlLaysZI.n7 Tryz.prog qj3 where
 mixed := by kernel_rfl
 f7 := ⟨Tryz.f66.name,by kernel_rfl,Tryz.func66.trans (congrArg some (by kernel_rfl))⟩
 f10 := ⟨Tryz.f87.name,by kernel_rfl,Tryz.func87.trans (congrArg some (by kernel_rfl))⟩
 t0 := Tryz.underlying0
 a0 := Tryz.isAgg0
 z0 := Tryz.sizeOf0
 v0 := Tryz.zeroValue0
 t4 := Tryz.underlying4
 a4 := Tryz.isAgg4
 z4 := Tryz.sizeOf4
 v4 := Tryz.zeroValue4
 t23 := Tryz.underlying110
 a23 := Tryz.isAgg110
 z23 := Tryz.sizeOf110
 v23 := Tryz.zeroValue110
 t26 := Tryz.underlying3
 a26 := Tryz.isAgg3
 z26 := Tryz.sizeOf3
 v26 := Tryz.zeroValue3
 t27 := Tryz.underlying124
 a27 := Tryz.isAgg124
 z27 := Tryz.sizeOf124
 v27 := Tryz.zeroValue124
 t28 := Tryz.underlying125
 a28 := Tryz.isAgg125
 z28 := Tryz.sizeOf125
 v28 := Tryz.zeroValue125
 t33 := Tryz.underlying129
 a33 := Tryz.isAgg129
 z33 := Tryz.sizeOf129
 v33 := Tryz.zeroValue129
def qjw : Go.Shelf.Ren := ⟨fun | 6 => 65 | 8 => 85 | 9 => 86 | 11 => 107 | 12 => 108 | 13 => 109 | 14 => 124 | 15 => 125 | 16 => 126 | 17 => 127 | 18 => 128 | 19 => 129 | 20 => 130 | 21 => 131 | 22 => 132 | 23 => 133 | 24 => 134 | 25 => 149 | 26 => 150 | 27 => 151 | 28 => 152 | 29 => 153 | 30 => 77 | 31 => 168 | n => n,fun | 24 => 96 | 26 => 3 | 28 => 125 | 33 => 129 | 37 => 51 | 39 => 208 | 40 => 209 | 45 => 111 | 48 => 174 | 50 => 177 | 51 => 235 | 55 => 239 | 57 => 251 | 58 => 93 | n => n,fun n => n⟩
theorem z4n : SlLaysZI.n6 Tryz.prog qjw where
 mixed := by kernel_rfl
 f6 := ⟨Tryz.f65.name,by kernel_rfl,Tryz.func65.trans (congrArg some (by kernel_rfl))⟩
 f8 := ⟨Tryz.f85.name,by kernel_rfl,Tryz.func85.trans (congrArg some (by kernel_rfl))⟩
 f11 := ⟨Tryz.f107.name,by kernel_rfl,Tryz.func107.trans (congrArg some (by kernel_rfl))⟩
 t0 := Tryz.underlying0
 a0 := Tryz.isAgg0
 z0 := Tryz.sizeOf0
 v0 := Tryz.zeroValue0
 t24 := Tryz.underlying96
 a24 := Tryz.isAgg96
 z24 := Tryz.sizeOf96
 v24 := Tryz.zeroValue96
 t26 := Tryz.underlying3
 a26 := Tryz.isAgg3
 z26 := Tryz.sizeOf3
 v26 := Tryz.zeroValue3
 t28 := Tryz.underlying125
 a28 := Tryz.isAgg125
 z28 := Tryz.sizeOf125
 v28 := Tryz.zeroValue125
 i26 := by kernel_rfl
def zkg : Go.Shelf.Ren := ⟨fun | 5 => 86 | 7 => 108 | 8 => 109 | 10 => 124 | 11 => 125 | 12 => 126 | 13 => 127 | 14 => 128 | 15 => 129 | 16 => 130 | 17 => 131 | 18 => 132 | 19 => 133 | 20 => 134 | 30 => 149 | 31 => 150 | 32 => 151 | 33 => 152 | 34 => 153 | 35 => 77 | 40 => 168 | n => n,fun | 22 => 96 | 23 => 96 | 25 => 3 | 32 => 51 | 35 => 208 | 36 => 209 | 41 => 111 | 44 => 174 | 46 => 177 | 53 => 235 | 57 => 239 | 63 => 251 | 64 => 93 | n => n,fun n => n⟩
theorem qfq : SlLaysM.n5 Tryz.prog zkg where
 mixed := by kernel_rfl
 f5 := ⟨Tryz.f86.name,by kernel_rfl,Tryz.func86.trans (congrArg some (by kernel_rfl))⟩
 f7 := ⟨Tryz.f108.name,by kernel_rfl,Tryz.func108.trans (congrArg some (by kernel_rfl))⟩
 f8 := Tryz.func109.trans (congrArg some (by kernel_rfl))
 f10 := ⟨Tryz.f124.name,by kernel_rfl,Tryz.func124.trans (congrArg some (by kernel_rfl))⟩
 f11 := ⟨Tryz.f125.name,by kernel_rfl,Tryz.func125.trans (congrArg some (by kernel_rfl))⟩
 f12 := ⟨Tryz.f126.name,by kernel_rfl,Tryz.func126.trans (congrArg some (by kernel_rfl))⟩
 f13 := ⟨Tryz.f127.name,by kernel_rfl,Tryz.func127.trans (congrArg some (by kernel_rfl))⟩
 f14 := ⟨Tryz.f128.name,by kernel_rfl,Tryz.func128.trans (congrArg some (by kernel_rfl))⟩
 f15 := ⟨Tryz.f129.name,by kernel_rfl,Tryz.func129.trans (congrArg some (by kernel_rfl))⟩
 f16 := ⟨Tryz.f130.name,by kernel_rfl,Tryz.func130.trans (congrArg some (by kernel_rfl))⟩
 f17 := ⟨Tryz.f131.name,by kernel_rfl,Tryz.func131.trans (congrArg some (by kernel_rfl))⟩
 f18 := ⟨Tryz.f132.name,by kernel_rfl,Tryz.func132.trans (congrArg some (by kernel_rfl))⟩
 f19 := Tryz.func133.trans (congrArg some (by kernel_rfl))
 f20 := Tryz.func134.trans (congrArg some (by kernel_rfl))
 f30 := ⟨Tryz.f149.name,by kernel_rfl,Tryz.func149.trans (congrArg some (by kernel_rfl))⟩
 f31 := Tryz.func150.trans (congrArg some (by kernel_rfl))
 f32 := Tryz.func151.trans (congrArg some (by kernel_rfl))
 f33 := ⟨Tryz.f152.name,by kernel_rfl,Tryz.func152.trans (congrArg some (by kernel_rfl))⟩
 f34 := ⟨Tryz.f153.name,by kernel_rfl,Tryz.func153.trans (congrArg some (by kernel_rfl))⟩
 f35 := ⟨Tryz.f77.name,by kernel_rfl,Tryz.func77.trans (congrArg some (by kernel_rfl))⟩
 f40 := ⟨Tryz.f168.name,by kernel_rfl,Tryz.func168.trans (congrArg some (by kernel_rfl))⟩
 t0 := Tryz.underlying0
 a0 := Tryz.isAgg0
 z0 := Tryz.sizeOf0
 v0 := Tryz.zeroValue0
 t3 := Tryz.underlying3
 a3 := Tryz.isAgg3
 z3 := Tryz.sizeOf3
 v3 := Tryz.zeroValue3
 t4 := Tryz.underlying4
 a4 := Tryz.isAgg4
 z4 := Tryz.sizeOf4
 v4 := Tryz.zeroValue4
 t5 := Tryz.underlying5
 a5 := Tryz.isAgg5
 z5 := Tryz.sizeOf5
 v5 := Tryz.zeroValue5
 t9 := Tryz.underlying9
 a9 := Tryz.isAgg9
 z9 := Tryz.sizeOf9
 v9 := Tryz.zeroValue9
 t22 := Tryz.underlying96
 a22 := Tryz.isAgg96
 z22 := Tryz.sizeOf96
 v22 := Tryz.zeroValue96
 t23 := Tryz.underlying96
 a23 := Tryz.isAgg96
 z23 := Tryz.sizeOf96
 v23 := Tryz.zeroValue96
 t25 := Tryz.underlying3
 a25 := Tryz.isAgg3
 z25 := Tryz.sizeOf3
 v25 := Tryz.zeroValue3
 t32 := Tryz.underlying51
 a32 := Tryz.isAgg51
 z32 := Tryz.sizeOf51
 v32 := Tryz.zeroValue51
 t35 := Tryz.underlying208
 a35 := Tryz.isAgg208
 z35 := Tryz.sizeOf208
 v35 := Tryz.zeroValue208
 t36 := Tryz.underlying209
 a36 := Tryz.isAgg209
 z36 := Tryz.sizeOf209
 v36 := Tryz.zeroValue209
 t41 := Tryz.underlying111
 a41 := Tryz.isAgg111
 z41 := Tryz.sizeOf111
 v41 := Tryz.zeroValue111
 t44 := Tryz.underlying174
 a44 := Tryz.isAgg174
 z44 := Tryz.sizeOf174
 v44 := Tryz.zeroValue174
 t46 := Tryz.underlying177
 a46 := Tryz.isAgg177
 z46 := Tryz.sizeOf177
 v46 := Tryz.zeroValue177
 t53 := Tryz.underlying235
 a53 := Tryz.isAgg235
 z53 := Tryz.sizeOf235
 v53 := Tryz.zeroValue235
 t57 := Tryz.underlying239
 a57 := Tryz.isAgg239
 z57 := Tryz.sizeOf239
 v57 := Tryz.zeroValue239
 t63 := Tryz.underlying251
 a63 := Tryz.isAgg251
 z63 := Tryz.sizeOf251
 v63 := Tryz.zeroValue251
 t64 := Tryz.underlying93
 a64 := Tryz.isAgg93
 z64 := Tryz.sizeOf93
 v64 := Tryz.zeroValue93
theorem ze3 (m : Nat) : AnyZI.SortsIn Tryz.prog qjw Fence.wide m :=
 ⟨fun blk off cap ss W hH hblk hsz => callsIn_wide.2 (AnyM.slices_Sort_int qfq blk off cap ss W hH hblk hsz),fun p cap W => callsIn_wide.2 (AnyM.slices_Sort_int_none qfq p cap W)⟩
theorem qp7 (l b nn : Nat) (D0 : DataW Unit) (w : World) (hl : l < w.heap.size) (hc : w.cell? ⟨l,0,none⟩ = some (.map (some b))) (hown : w.ownsMap Tryz.prog 3 (fun _ => some (.nil,[])) b nn D0) (hmax : Maps.size D0 ≤ maxLen) (hbytes : Maps.size D0 * 8 ≤ 140737488355328) :
  Calls Tryz.prog 65 #[.func (.func 87) #[] #[.pointer (some ⟨l,0,none⟩)]] w fun e w' => ∃ (v : Value) (ss : List Int),e = .returned v ∧ ss.Perm (intKeys D0) ∧
   w'.ownsRow w.heap.size 3 1 v ss.length ((ss.mergeSort (fun x y => decide (x ≤ y))).map encZ) ∧ (v = .slice none 0 0 ↔ ss = []) ∧ Below w.heap.size w w' := by
 have hseq : SeqGives Fence.wide 2 Tryz.prog 87 #[.pointer (some ⟨l,0,none⟩)] encZ (fun ss => ss.Perm (intKeys D0)) (Maps.size D0) w :=
  AnyZI.keys_gives (ρ := qj3) { qt8 with } Fence.wide _ trivial rfl (by omega) l b nn D0 w hl hc hown
 have cS := AnyZI.sorted_in z4n Fence.wide 5 trivial trivial trivial trivial rfl (by omega) (ze3 _) (enters_of Tryz.func86 (by kernel_rfl) rfl) 87 #[.pointer (some ⟨l,0,none⟩)] trivial (enters_of Tryz.func87 (by kernel_rfl) rfl) _ _ hmax hbytes _ hseq
 exact (callsIn_wide (n := 5)).1 cS
def spS (args : List AV) (H : Heap) : Option (AV × Heap) := q8p 87 args H
def S : Special := ⟨fun f => if f = 65 then some spS else none⟩
theorem qn3 : q9m Tryz.prog S := fun f g h args H r H' hg => by
 simp only [S] at h
 split at h
 ·rename_i hf
  subst hf
  cases h
  unfold spS at hg
  exact zc8 (kt := 3) Tryz.underlying3 ⟨_,Tryz.func65,by kernel_rfl,by kernel_rfl⟩ qp7 hg
 ·cases h
noncomputable abbrev O : qz := omega G S
theorem qkt {m : ze} {r : List Int} (h : q7t m = some r) :
  O.call 65 [.clo 87 [] [.ptr 0 0]] [(0,.box [.map 1]),(1,.map (List.map zx m.es) m.clock)] = some (.row 2 r.length 0 r.length,[(0,.box [.map 1]),(1,.map (List.map zx m.es) m.clock),(2,.row r.isEmpty (szc 1 r) (List.map qh r))]) :=
 (zbx (S := S) (g := spS) rfl _ _).trans (by unfold spS; rw [qwr h 87])
end Go.Proofs.YtkbgphcebakcnaaGreat
