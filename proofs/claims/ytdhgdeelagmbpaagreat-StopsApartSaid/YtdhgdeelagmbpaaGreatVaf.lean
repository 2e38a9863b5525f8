/-
  The machine of this program: what it knows of calls that it does not run.
-/
import Derived.Test.YtdhgdeelagmbpaaGreatVae
import Derived.Shelf.SlIterI.Nil
import Derived.Shelf.SortM.Plain
import Derived.Shelf.SortM.SortNone
set_option linter.unusedSimpArgs false
set_option linter.unusedVariables false
namespace Go.Proofs.YtdhgdeelagmbpaaGreat
open Go Go.Gm Go.RowKit Go.Maps Go.Sort Go.Shelf
def ql9 : Go.Shelf.Ren := ⟨fun | 7 => 29 | 10 => 51 | n => n,fun | 23 => 64 | 26 => 3 | 27 => 69 | 28 => 70 | 33 => 74 | n => n,fun n => n⟩
theorem qrm : SlLaysZI.n7 Tryz.prog ql9 where
 mixed := by kernel_rfl
 f7 := ⟨Tryz.f29.name,by kernel_rfl,Tryz.func29.trans (congrArg some (by kernel_rfl))⟩
 f10 := ⟨Tryz.f51.name,by kernel_rfl,Tryz.func51.trans (congrArg some (by kernel_rfl))⟩
 t0 := Tryz.underlying0
 a0 := Tryz.isAgg0
 z0 := Tryz.sizeOf0
 v0 := Tryz.zeroValue0
 t4 := Tryz.underlying4
 a4 := Tryz.isAgg4
 z4 := Tryz.sizeOf4
 v4 := Tryz.zeroValue4
 t23 := Tryz.underlying64
 a23 := Tryz.isAgg64
 z23 := Tryz.sizeOf64
 v23 := Tryz.zeroValue64
 t26 := Tryz.underlying3
 a26 := Tryz.isAgg3
 z26 := Tryz.sizeOf3
 v26 := Tryz.zeroValue3
 t27 := Tryz.underlying69
 a27 := Tryz.isAgg69
 z27 := Tryz.sizeOf69
 v27 := Tryz.zeroValue69
 t28 := Tryz.underlying70
 a28 := Tryz.isAgg70
 z28 := Tryz.sizeOf70
 v28 := Tryz.zeroValue70
 t33 := Tryz.underlying74
 a33 := Tryz.isAgg74
 z33 := Tryz.sizeOf74
 v33 := Tryz.zeroValue74
def qn5 : Go.Shelf.Ren := ⟨fun | 6 => 28 | 8 => 49 | 9 => 50 | 11 => 68 | 12 => 69 | 13 => 70 | 14 => 82 | 15 => 83 | 16 => 84 | 17 => 85 | 18 => 86 | 19 => 87 | 20 => 88 | 21 => 89 | 22 => 90 | 23 => 91 | 24 => 92 | 25 => 105 | 26 => 106 | 27 => 107 | 28 => 108 | 29 => 109 | 30 => 110 | 31 => 126 | n => n,fun | 24 => 43 | 26 => 3 | 28 => 70 | 33 => 74 | 37 => 66 | 39 => 143 | 40 => 144 | 45 => 61 | 48 => 150 | 50 => 152 | 51 => 174 | 55 => 178 | 57 => 196 | 58 => 197 | n => n,fun n => n⟩
theorem zau : SlLaysZI.n6 Tryz.prog qn5 where
 mixed := by kernel_rfl
 f6 := ⟨Tryz.f28.name,by kernel_rfl,Tryz.func28.trans (congrArg some (by kernel_rfl))⟩
 f8 := ⟨Tryz.f49.name,by kernel_rfl,Tryz.func49.trans (congrArg some (by kernel_rfl))⟩
 f11 := ⟨Tryz.f68.name,by kernel_rfl,Tryz.func68.trans (congrArg some (by kernel_rfl))⟩
 t0 := Tryz.underlying0
 a0 := Tryz.isAgg0
 z0 := Tryz.sizeOf0
 v0 := Tryz.zeroValue0
 t24 := Tryz.underlying43
 a24 := Tryz.isAgg43
 z24 := Tryz.sizeOf43
 v24 := Tryz.zeroValue43
 t26 := Tryz.underlying3
 a26 := Tryz.isAgg3
 z26 := Tryz.sizeOf3
 v26 := Tryz.zeroValue3
 t28 := Tryz.underlying70
 a28 := Tryz.isAgg70
 z28 := Tryz.sizeOf70
 v28 := Tryz.zeroValue70
 i26 := by kernel_rfl
def z9s : Go.Shelf.Ren := ⟨fun | 5 => 50 | 7 => 69 | 8 => 70 | 10 => 82 | 11 => 83 | 12 => 84 | 13 => 85 | 14 => 86 | 15 => 87 | 16 => 88 | 17 => 89 | 18 => 90 | 19 => 91 | 20 => 92 | 30 => 105 | 31 => 106 | 32 => 107 | 33 => 108 | 34 => 109 | 35 => 110 | 40 => 126 | n => n,fun | 22 => 43 | 23 => 43 | 25 => 3 | 32 => 66 | 35 => 143 | 36 => 144 | 41 => 61 | 44 => 150 | 46 => 152 | 53 => 174 | 57 => 178 | 63 => 196 | 64 => 197 | n => n,fun n => n⟩
theorem qph : SlLaysM.n5 Tryz.prog z9s where
 mixed := by kernel_rfl
 f5 := ⟨Tryz.f50.name,by kernel_rfl,Tryz.func50.trans (congrArg some (by kernel_rfl))⟩
 f7 := ⟨Tryz.f69.name,by kernel_rfl,Tryz.func69.trans (congrArg some (by kernel_rfl))⟩
 f8 := Tryz.func70.trans (congrArg some (by kernel_rfl))
 f10 := ⟨Tryz.f82.name,by kernel_rfl,Tryz.func82.trans (congrArg some (by kernel_rfl))⟩
 f11 := ⟨Tryz.f83.name,by kernel_rfl,Tryz.func83.trans (congrArg some (by kernel_rfl))⟩
 f12 := ⟨Tryz.f84.name,by kernel_rfl,Tryz.func84.trans (congrArg some (by kernel_rfl))⟩
 f13 := ⟨Tryz.f85.name,by kernel_rfl,Tryz.func85.trans (congrArg some (by kernel_rfl))⟩
 f14 := ⟨Tryz.f86.name,by kernel_rfl,Tryz.func86.trans (congrArg some (by kernel_rfl))⟩
 f15 := ⟨Tryz.f87.name,by kernel_rfl,Tryz.func87.trans (congrArg some (by kernel_rfl))⟩
 f16 := ⟨Tryz.f88.name,by kernel_rfl,Tryz.func88.trans (congrArg some (by kernel_rfl))⟩
 f17 := ⟨Tryz.f89.name,by kernel_rfl,Tryz.func89.trans (congrArg some (by kernel_rfl))⟩
 f18 := ⟨Tryz.f90.name,by kernel_rfl,Tryz.func90.trans (congrArg some (by kernel_rfl))⟩
 f19 := Tryz.func91.trans (congrArg some (by kernel_rfl))
 f20 := Tryz.func92.trans (congrArg some (by kernel_rfl))
 f30 := ⟨Tryz.f105.name,by kernel_rfl,Tryz.func105.trans (congrArg some (by kernel_rfl))⟩
 f31 := Tryz.func106.trans (congrArg some (by kernel_rfl))
 f32 := Tryz.func107.trans (congrArg some (by kernel_rfl))
 f33 := ⟨Tryz.f108.name,by kernel_rfl,Tryz.func108.trans (congrArg some (by kernel_rfl))⟩
 f34 := ⟨Tryz.f109.name,by kernel_rfl,Tryz.func109.trans (congrArg some (by kernel_rfl))⟩
 f35 := ⟨Tryz.f110.name,by kernel_rfl,Tryz.func110.trans (congrArg some (by kernel_rfl))⟩
 f40 := ⟨Tryz.f126.name,by kernel_rfl,Tryz.func126.trans (congrArg some (by kernel_rfl))⟩
 t0 := Tryz.underlying0
 a0 := Tryz.isAgg0
 z0 := Tryz.sizeOf0
 v0 := Tryz.zeroValue0
 t3 := Tryz.underlying3
 a3 := Tryz.isAgg3
 z3 := Tryz.sizeOf3
 v3 := Tryz.zeroValue3
 t4 := Tryz.underlying4
 a4 := Tryz.isAgg4
 z4 := Tryz.sizeOf4
 v4 := Tryz.zeroValue4
 t5 := Tryz.underlying5
 a5 := Tryz.isAgg5
 z5 := Tryz.sizeOf5
 v5 := Tryz.zeroValue5
 t9 := Tryz.underlying9
 a9 := Tryz.isAgg9
 z9 := Tryz.sizeOf9
 v9 := Tryz.zeroValue9
 t22 := Tryz.underlying43
 a22 := Tryz.isAgg43
 z22 := Tryz.sizeOf43
 v22 := Tryz.zeroValue43
 t23 := Tryz.underlying43
 a23 := Tryz.isAgg43
 z23 := Tryz.sizeOf43
 v23 := Tryz.zeroValue43
 t25 := Tryz.underlying3
 a25 := Tryz.isAgg3
 z25 := Tryz.sizeOf3
 v25 := Tryz.zeroValue3
 t32 := Tryz.underlying66
 a32 := Tryz.isAgg66
 z32 := Tryz.sizeOf66
 v32 := Tryz.zeroValue66
 t35 := Tryz.underlying143
 a35 := Tryz.isAgg143
 z35 := Tryz.sizeOf143
 v35 := Tryz.zeroValue143
 t36 := Tryz.underlying144
 a36 := Tryz.isAgg144
 z36 := Tryz.sizeOf144
 v36 := Tryz.zeroValue144
 t41 := Tryz.underlying61
 a41 := Tryz.isAgg61
 z41 := Tryz.sizeOf61
 v41 := Tryz.zeroValue61
 t44 := Tryz.underlying150
 a44 := Tryz.isAgg150
 z44 := Tryz.sizeOf150
 v44 := Tryz.zeroValue150
 t46 := Tryz.underlying152
 a46 := Tryz.isAgg152
 z46 := Tryz.sizeOf152
 v46 := Tryz.zeroValue152
 t53 := Tryz.underlying174
 a53 := Tryz.isAgg174
 z53 := Tryz.sizeOf174
 v53 := Tryz.zeroValue174
 t57 := Tryz.underlying178
 a57 := Tryz.isAgg178
 z57 := Tryz.sizeOf178
 v57 := Tryz.zeroValue178
 t63 := Tryz.underlying196
 a63 := Tryz.isAgg196
 z63 := Tryz.sizeOf196
 v63 := Tryz.zeroValue196
 t64 := Tryz.underlying197
 a64 := Tryz.isAgg197
 z64 := Tryz.sizeOf197
 v64 := Tryz.zeroValue197
theorem z6m (m : Nat) : AnyZI.SortsIn Tryz.prog qn5 Fence.wide m :=
 ⟨fun blk off cap ss W hH hblk hsz => callsIn_wide.2 (AnyM.slices_Sort_int qph blk off cap ss W hH hblk hsz),fun p cap W => callsIn_wide.2 (AnyM.slices_Sort_int_none qph p cap W)⟩
theorem qtz (l b nn : Nat) (D0 : DataW Unit) (w : World) (hl : l < w.heap.size) (hc : w.cell? ⟨l,0,none⟩ = some (.map (some b))) (hown : w.ownsMap Tryz.prog 3 (fun _ => some (.nil,[])) b nn D0) (hmax : Maps.size D0 ≤ maxLen) (hbytes : Maps.size D0 * 8 ≤ 140737488355328) :
  Calls Tryz.prog 28 #[.func (.func 51) #[] #[.pointer (some ⟨l,0,none⟩)]] w fun e w' => ∃ (v : Value) (ss : List Int),e = .returned v ∧ ss.Perm (intKeys D0) ∧
   w'.ownsRow w.heap.size 3 1 v ss.length ((ss.mergeSort (fun x y => decide (x ≤ y))).map encZ) ∧ (v = .slice none 0 0 ↔ ss = []) ∧ Below w.heap.size w w' := by
 have hseq : SeqGives Fence.wide 2 Tryz.prog 51 #[.pointer (some ⟨l,0,none⟩)] encZ (fun ss => ss.Perm (intKeys D0)) (Maps.size D0) w :=
  AnyZI.keys_gives (ρ := ql9) { qrm with } Fence.wide _ trivial rfl (by omega) l b nn D0 w hl hc hown
 have cS := AnyZI.sorted_in zau Fence.wide 5 trivial trivial trivial trivial rfl (by omega) (z6m _) (enters_of Tryz.func50 (by kernel_rfl) rfl) 51 #[.pointer (some ⟨l,0,none⟩)] trivial (enters_of Tryz.func51 (by kernel_rfl) rfl) _ _ hmax hbytes _ hseq
 exact (callsIn_wide (n := 5)).1 cS
def S : Special := ⟨fun f => if f = 28 then some (qfx 51) else none⟩
theorem qxs : qds Tryz.prog S := fun f g h args H r H' hg => by
 simp only [S] at h
 split at h
 ·rename_i hf
  subst hf
  cases h
  exact zpr (kt := 3) Tryz.underlying3 ⟨_,Tryz.func28,by kernel_rfl,by kernel_rfl⟩ qtz hg
 ·cases h
noncomputable abbrev O : zk := omega G S
end Go.Proofs.YtdhgdeelagmbpaaGreat
