/-
  The machine of this program: what it knows of calls that it does not run.
-/
import Derived.Test.YtaglodpkpggdiaaGreatDoorMae
import Derived.Shelf.SlIterI.Nil
import Derived.Shelf.SortM.Plain
import Derived.Shelf.SortM.SortNone
import Derived.Shelf.Lays
import Derived.Shelf.Strings.Builder1
import Derived.Shelf.Strings.BuilderX
import Derived.Shelf.LaysM
import Derived.Shelf.Strconv.Itoa3
import Derived.Test.YtaglodpkpggdiaaGreatDoorMaf
set_option linter.unusedSimpArgs false
set_option linter.unusedVariables false
namespace Go.Proofs.YtaglodpkpggdiaaGreatDoor
open Go Go.Gm Go.RowKit Go.Maps Go.Sort Go.Shelf
def q67 : String := ((Rows.scriptBackRow.laid[2]?).map (fun x => x.1)).getD default
theorem q9r : Tryz.prog.globalNamed q67 = some 0 := by kernel_rfl
instance globs : Globs where
 ok w := Go.Lib.TabIs Tryz.prog w q67 .u64 Go.Lib.pow10Tab
 on b := b = 0
 frame := fun {w w'} h hk => by
  unfold Go.Lib.TabIs World.var? at h ⊢
  rw [q9r] at h ⊢
  simp only [Option.bind_some] at h ⊢
  rw [hk 0 rfl]
  exact h
theorem zby {W : World} (h : Go.Lib.TabIs Tryz.prog W q67 .u64 Go.Lib.pow10Tab) : ∀ b,b = 0 → b < W.heap.size := by
 rintro b rfl
 unfold Go.Lib.TabIs World.var? at h
 rw [q9r] at h
 simp only [Option.bind_some] at h
 rcases Nat.lt_or_ge 0 W.heap.size with h1 | h1
 ·exact h1
 ·rw [Array.getElem?_eq_none h1] at h
  cases h
def qcr : Go.Shelf.Ren := ⟨fun | 7 => 219 | 10 => 261 | n => n,fun | 23 => 316 | 26 => 3 | 27 => 325 | 28 => 326 | 33 => 307 | n => n,fun n => n⟩
theorem qsj : SlLaysZI.n7 Tryz.prog qcr where
 mixed := by kernel_rfl
 f7 := ⟨Tryz.f219.name,by kernel_rfl,Tryz.func219.trans (congrArg some (by kernel_rfl))⟩
 f10 := ⟨Tryz.f261.name,by kernel_rfl,Tryz.func261.trans (congrArg some (by kernel_rfl))⟩
 t0 := Tryz.underlying0
 a0 := Tryz.isAgg0
 z0 := Tryz.sizeOf0
 v0 := Tryz.zeroValue0
 t4 := Tryz.underlying4
 a4 := Tryz.isAgg4
 z4 := Tryz.sizeOf4
 v4 := Tryz.zeroValue4
 t23 := Tryz.underlying316
 a23 := Tryz.isAgg316
 z23 := Tryz.sizeOf316
 v23 := Tryz.zeroValue316
 t26 := Tryz.underlying3
 a26 := Tryz.isAgg3
 z26 := Tryz.sizeOf3
 v26 := Tryz.zeroValue3
 t27 := Tryz.underlying325
 a27 := Tryz.isAgg325
 z27 := Tryz.sizeOf325
 v27 := Tryz.zeroValue325
 t28 := Tryz.underlying326
 a28 := Tryz.isAgg326
 z28 := Tryz.sizeOf326
 v28 := Tryz.zeroValue326
 t33 := Tryz.underlying307
 a33 := Tryz.isAgg307
 z33 := Tryz.sizeOf307
 v33 := Tryz.zeroValue307
def qi4 : Go.Shelf.Ren := ⟨fun | 7 => 241 | 10 => 284 | n => n,fun | 3 => 296 | 23 => 172 | 26 => 3 | 27 => 325 | 28 => 326 | 33 => 307 | n => n,fun n => n⟩
theorem qjz : SlLaysZI.n7 Tryz.prog qi4 where
 mixed := by kernel_rfl
 f7 := ⟨Tryz.f241.name,by kernel_rfl,Tryz.func241.trans (congrArg some (by kernel_rfl))⟩
 f10 := ⟨Tryz.f284.name,by kernel_rfl,Tryz.func284.trans (congrArg some (by kernel_rfl))⟩
 t0 := Tryz.underlying0
 a0 := Tryz.isAgg0
 z0 := Tryz.sizeOf0
 v0 := Tryz.zeroValue0
 t4 := Tryz.underlying4
 a4 := Tryz.isAgg4
 z4 := Tryz.sizeOf4
 v4 := Tryz.zeroValue4
 t23 := Tryz.underlying172
 a23 := Tryz.isAgg172
 z23 := Tryz.sizeOf172
 v23 := Tryz.zeroValue172
 t26 := Tryz.underlying3
 a26 := Tryz.isAgg3
 z26 := Tryz.sizeOf3
 v26 := Tryz.zeroValue3
 t27 := Tryz.underlying325
 a27 := Tryz.isAgg325
 z27 := Tryz.sizeOf325
 v27 := Tryz.zeroValue325
 t28 := Tryz.underlying326
 a28 := Tryz.isAgg326
 z28 := Tryz.sizeOf326
 v28 := Tryz.zeroValue326
 t33 := Tryz.underlying307
 a33 := Tryz.isAgg307
 z33 := Tryz.sizeOf307
 v33 := Tryz.zeroValue307
def qh6 : Go.Shelf.Ren := ⟨fun | 6 => 218 | 8 => 259 | 9 => 260 | 11 => 292 | 12 => 293 | 13 => 294 | 14 => 315 | 15 => 316 | 16 => 317 | 17 => 318 | 18 => 319 | 19 => 320 | 20 => 321 | 21 => 322 | 22 => 323 | 23 => 324 | 24 => 194 | 25 => 341 | 26 => 342 | 27 => 343 | 28 => 344 | 29 => 345 | 30 => 202 | 31 => 366 | n => n,fun | 24 => 124 | 26 => 3 | 28 => 326 | 33 => 307 | 37 => 68 | 39 => 433 | 40 => 434 | 45 => 126 | 48 => 37 | 50 => 231 | 51 => 464 | 55 => 468 | 57 => 486 | 58 => 266 | n => n,fun n => n⟩
theorem qdm : SlLaysZI.n6 Tryz.prog qh6 where
 mixed := by kernel_rfl
 f6 := ⟨Tryz.f218.name,by kernel_rfl,Tryz.func218.trans (congrArg some (by kernel_rfl))⟩
 f8 := ⟨Tryz.f259.name,by kernel_rfl,Tryz.func259.trans (congrArg some (by kernel_rfl))⟩
 f11 := ⟨Tryz.f292.name,by kernel_rfl,Tryz.func292.trans (congrArg some (by kernel_rfl))⟩
 t0 := Tryz.underlying0
 a0 := Tryz.isAgg0
 z0 := Tryz.sizeOf0
 v0 := Tryz.zeroValue0
 t24 := Tryz.underlying124
 a24 := Tryz.isAgg124
 z24 := Tryz.sizeOf124
 v24 := Tryz.zeroValue124
 t26 := Tryz.underlying3
 a26 := Tryz.isAgg3
 z26 := Tryz.sizeOf3
 v26 := Tryz.zeroValue3
 t28 := Tryz.underlying326
 a28 := Tryz.isAgg326
 z28 := Tryz.sizeOf326
 v28 := Tryz.zeroValue326
 i26 := by kernel_rfl
def z6w : Go.Shelf.Ren := ⟨fun | 5 => 260 | 7 => 293 | 8 => 294 | 10 => 315 | 11 => 316 | 12 => 317 | 13 => 318 | 14 => 319 | 15 => 320 | 16 => 321 | 17 => 322 | 18 => 323 | 19 => 324 | 20 => 194 | 30 => 341 | 31 => 342 | 32 => 343 | 33 => 344 | 34 => 345 | 35 => 202 | 40 => 366 | n => n,fun | 22 => 124 | 23 => 124 | 25 => 3 | 32 => 68 | 35 => 433 | 36 => 434 | 41 => 126 | 44 => 37 | 46 => 231 | 53 => 464 | 57 => 468 | 63 => 486 | 64 => 266 | n => n,fun n => n⟩
theorem qhh : SlLaysM.n5 Tryz.prog z6w where
 mixed := by kernel_rfl
 f5 := ⟨Tryz.f260.name,by kernel_rfl,Tryz.func260.trans (congrArg some (by kernel_rfl))⟩
 f7 := ⟨Tryz.f293.name,by kernel_rfl,Tryz.func293.trans (congrArg some (by kernel_rfl))⟩
 f8 := Tryz.func294.trans (congrArg some (by kernel_rfl))
 f10 := ⟨Tryz.f315.name,by kernel_rfl,Tryz.func315.trans (congrArg some (by kernel_rfl))⟩
 f11 := ⟨Tryz.f316.name,by kernel_rfl,Tryz.func316.trans (congrArg some (by kernel_rfl))⟩
 f12 := ⟨Tryz.f317.name,by kernel_rfl,Tryz.func317.trans (congrArg some (by kernel_rfl))⟩
 f13 := ⟨Tryz.f318.name,by kernel_rfl,Tryz.func318.trans (congrArg some (by kernel_rfl))⟩
 f14 := ⟨Tryz.f319.name,by kernel_rfl,Tryz.func319.trans (congrArg some (by kernel_rfl))⟩
 f15 := ⟨Tryz.f320.name,by kernel_rfl,Tryz.func320.trans (congrArg some (by kernel_rfl))⟩
 f16 := ⟨Tryz.f321.name,by kernel_rfl,Tryz.func321.trans (congrArg some (by kernel_rfl))⟩
 f17 := ⟨Tryz.f322.name,by kernel_rfl,Tryz.func322.trans (congrArg some (by kernel_rfl))⟩
 f18 := ⟨Tryz.f323.name,by kernel_rfl,Tryz.func323.trans (congrArg some (by kernel_rfl))⟩
 f19 := Tryz.func324.trans (congrArg some (by kernel_rfl))
 f20 := Tryz.func194.trans (congrArg some (by kernel_rfl))
 f30 := ⟨Tryz.f341.name,by kernel_rfl,Tryz.func341.trans (congrArg some (by kernel_rfl))⟩
 f31 := Tryz.func342.trans (congrArg some (by kernel_rfl))
 f32 := Tryz.func343.trans (congrArg some (by kernel_rfl))
 f33 := ⟨Tryz.f344.name,by kernel_rfl,Tryz.func344.trans (congrArg some (by kernel_rfl))⟩
 f34 := ⟨Tryz.f345.name,by kernel_rfl,Tryz.func345.trans (congrArg some (by kernel_rfl))⟩
 f35 := ⟨Tryz.f202.name,by kernel_rfl,Tryz.func202.trans (congrArg some (by kernel_rfl))⟩
 f40 := ⟨Tryz.f366.name,by kernel_rfl,Tryz.func366.trans (congrArg some (by kernel_rfl))⟩
 t0 := Tryz.underlying0
 a0 := Tryz.isAgg0
 z0 := Tryz.sizeOf0
 v0 := Tryz.zeroValue0
 t3 := Tryz.underlying3
 a3 := Tryz.isAgg3
 z3 := Tryz.sizeOf3
 v3 := Tryz.zeroValue3
 t4 := Tryz.underlying4
 a4 := Tryz.isAgg4
 z4 := Tryz.sizeOf4
 v4 := Tryz.zeroValue4
 t5 := Tryz.underlying5
 a5 := Tryz.isAgg5
 z5 := Tryz.sizeOf5
 v5 := Tryz.zeroValue5
 t9 := Tryz.underlying9
 a9 := Tryz.isAgg9
 z9 := Tryz.sizeOf9
 v9 := Tryz.zeroValue9
 t22 := Tryz.underlying124
 a22 := Tryz.isAgg124
 z22 := Tryz.sizeOf124
 v22 := Tryz.zeroValue124
 t23 := Tryz.underlying124
 a23 := Tryz.isAgg124
 z23 := Tryz.sizeOf124
 v23 := Tryz.zeroValue124
 t25 := Tryz.underlying3
 a25 := Tryz.isAgg3
 z25 := Tryz.sizeOf3
 v25 := Tryz.zeroValue3
 t32 := Tryz.underlying68
 a32 := Tryz.isAgg68
 z32 := Tryz.sizeOf68
 v32 := Tryz.zeroValue68
 t35 := Tryz.underlying433
 a35 := Tryz.isAgg433
 z35 := Tryz.sizeOf433
 v35 := Tryz.zeroValue433
 t36 := Tryz.underlying434
 a36 := Tryz.isAgg434
 z36 := Tryz.sizeOf434
 v36 := Tryz.zeroValue434
 t41 := Tryz.underlying126
 a41 := Tryz.isAgg126
 z41 := Tryz.sizeOf126
 v41 := Tryz.zeroValue126
 t44 := Tryz.underlying37
 a44 := Tryz.isAgg37
 z44 := Tryz.sizeOf37
 v44 := Tryz.zeroValue37
 t46 := Tryz.underlying231
 a46 := Tryz.isAgg231
 z46 := Tryz.sizeOf231
 v46 := Tryz.zeroValue231
 t53 := Tryz.underlying464
 a53 := Tryz.isAgg464
 z53 := Tryz.sizeOf464
 v53 := Tryz.zeroValue464
 t57 := Tryz.underlying468
 a57 := Tryz.isAgg468
 z57 := Tryz.sizeOf468
 v57 := Tryz.zeroValue468
 t63 := Tryz.underlying486
 a63 := Tryz.isAgg486
 z63 := Tryz.sizeOf486
 v63 := Tryz.zeroValue486
 t64 := Tryz.underlying266
 a64 := Tryz.isAgg266
 z64 := Tryz.sizeOf266
 v64 := Tryz.zeroValue266
theorem qcg (m : Nat) : AnyZI.SortsIn Tryz.prog qh6 Fence.wide m :=
 ⟨fun blk off cap ss W hH hblk hsz => callsIn_wide.2 (AnyM.slices_Sort_int qhh blk off cap ss W hH hblk hsz),fun p cap W => callsIn_wide.2 (AnyM.slices_Sort_int_none qhh p cap W)⟩
theorem qwo (l b nn : Nat) (D0 : DataW Unit) (w : World) (hl : l < w.heap.size) (hc : w.cell? ⟨l,0,none⟩ = some (.map (some b))) (hown : w.ownsMap Tryz.prog 3 (fun _ => some (.nil,[])) b nn D0) (hmax : Maps.size D0 ≤ maxLen) (hbytes : Maps.size D0 * 8 ≤ 140737488355328) :
  Calls Tryz.prog 218 #[.func (.func 261) #[] #[.pointer (some ⟨l,0,none⟩)]] w fun e w' => ∃ (v : Value) (ss : List Int),e = .returned v ∧ ss.Perm (intKeys D0) ∧
   w'.ownsRow w.heap.size 3 1 v ss.length ((ss.mergeSort (fun x y => decide (x ≤ y))).map encZ) ∧ (v = .slice none 0 0 ↔ ss = []) ∧ Below w.heap.size w w' := by
 have hseq : SeqGives Fence.wide 2 Tryz.prog 261 #[.pointer (some ⟨l,0,none⟩)] encZ (fun ss => ss.Perm (intKeys D0)) (Maps.size D0) w :=
  AnyZI.keys_gives (ρ := qcr) { qsj with } Fence.wide _ trivial rfl (by omega) l b nn D0 w hl hc hown
 have cS := AnyZI.sorted_in qdm Fence.wide 5 trivial trivial trivial trivial rfl (by omega) (qcg _) (enters_of Tryz.func260 (by kernel_rfl) rfl) 261 #[.pointer (some ⟨l,0,none⟩)] trivial (enters_of Tryz.func261 (by kernel_rfl) rfl) _ _ hmax hbytes _ hseq
 exact (callsIn_wide (n := 5)).1 cS
theorem zu0 (l b nn : Nat) (D0 : DataW Unit) (w : World) (hl : l < w.heap.size) (hc : w.cell? ⟨l,0,none⟩ = some (.map (some b))) (hown : w.ownsMap Tryz.prog 3 (fun _ => some (.nil,[])) b nn D0) (hmax : Maps.size D0 ≤ maxLen) (hbytes : Maps.size D0 * 8 ≤ 140737488355328) :
  Calls Tryz.prog 218 #[.func (.func 284) #[] #[.pointer (some ⟨l,0,none⟩)]] w fun e w' => ∃ (v : Value) (ss : List Int),e = .returned v ∧ ss.Perm (intKeys D0) ∧
   w'.ownsRow w.heap.size 3 1 v ss.length ((ss.mergeSort (fun x y => decide (x ≤ y))).map encZ) ∧ (v = .slice none 0 0 ↔ ss = []) ∧ Below w.heap.size w w' := by
 have hseq : SeqGives Fence.wide 2 Tryz.prog 284 #[.pointer (some ⟨l,0,none⟩)] encZ (fun ss => ss.Perm (intKeys D0)) (Maps.size D0) w :=
  AnyZI.keys_gives (ρ := qi4) { qjz with } Fence.wide _ trivial rfl (by omega) l b nn D0 w hl hc hown
 have cS := AnyZI.sorted_in qdm Fence.wide 5 trivial trivial trivial trivial rfl (by omega) (qcg _) (enters_of Tryz.func260 (by kernel_rfl) rfl) 284 #[.pointer (some ⟨l,0,none⟩)] trivial (enters_of Tryz.func284 (by kernel_rfl) rfl) _ _ hmax hbytes _ hseq
 exact (callsIn_wide (n := 5)).1 cS
def spS (args : List AV) (H : Heap) : Option (AV × Heap) := match q86 261 args H with | some r => some r | none => q86 284 args H
theorem qo5 {args : List AV} {H : Heap} {r : AV} {H' : Heap} (hg : spS args H = some (r,H')) : enters Tryz.prog 218 ∧ q1a Tryz.prog 218 args H r H' := by
 unfold spS at hg
 split at hg
 ·rename_i q hq
  cases hg
  exact qbr (kt := 3) Tryz.underlying3 ⟨_,Tryz.func218,by kernel_rfl,by kernel_rfl⟩ qwo hq
 ·
  exact qbr (kt := 3) Tryz.underlying3 ⟨_,Tryz.func218,by kernel_rfl,by kernel_rfl⟩ zu0 hg
def zgh : Go.Shelf.Ren := ⟨fun | 129 => 194 | 171 => 32 | 243 => 59 | 246 => 89 | 283 => 132 | 284 => 133 | 285 => 134 | 286 => 135 | 317 => 193 | 318 => 195 | 319 => 196 | 320 => 197 | 337 => 243 | 338 => 244 | n => n,fun | 37 => 24 | 46 => 68 | 51 => 37 | 53 => 231 | 171 => 230 | 173 => 234 | 212 => 305 | 213 => 306 | 232 => 405 | 233 => 406 | n => n,fun | 17 => 0 | 18 => 1 | 19 => 2 | n => n⟩
theorem zys : LaysM.n171 Tryz.prog zgh where
 mixed := by kernel_rfl
 f129 := Tryz.func194.trans (congrArg some (by kernel_rfl))
 f171 := Tryz.func32.trans (congrArg some (by kernel_rfl))
 f243 := Tryz.func59.trans (congrArg some (by kernel_rfl))
 f246 := Tryz.func89.trans (congrArg some (by kernel_rfl))
 f283 := Tryz.func132.trans (congrArg some (by kernel_rfl))
 f284 := Tryz.func133.trans (congrArg some (by kernel_rfl))
 f285 := Tryz.func134.trans (congrArg some (by kernel_rfl))
 f286 := Tryz.func135.trans (congrArg some (by kernel_rfl))
 f317 := Tryz.func193.trans (congrArg some (by kernel_rfl))
 f318 := Tryz.func195.trans (congrArg some (by kernel_rfl))
 f319 := Tryz.func196.trans (congrArg some (by kernel_rfl))
 f320 := Tryz.func197.trans (congrArg some (by kernel_rfl))
 f337 := Tryz.func243.trans (congrArg some (by kernel_rfl))
 f338 := Tryz.func244.trans (congrArg some (by kernel_rfl))
 t0 := Tryz.underlying0
 a0 := Tryz.isAgg0
 z0 := Tryz.sizeOf0
 v0 := Tryz.zeroValue0
 t2 := Tryz.underlying2
 a2 := Tryz.isAgg2
 z2 := Tryz.sizeOf2
 v2 := Tryz.zeroValue2
 t3 := Tryz.underlying3
 a3 := Tryz.isAgg3
 z3 := Tryz.sizeOf3
 v3 := Tryz.zeroValue3
 t4 := Tryz.underlying4
 a4 := Tryz.isAgg4
 z4 := Tryz.sizeOf4
 v4 := Tryz.zeroValue4
 t5 := Tryz.underlying5
 a5 := Tryz.isAgg5
 z5 := Tryz.sizeOf5
 v5 := Tryz.zeroValue5
 t9 := Tryz.underlying9
 a9 := Tryz.isAgg9
 z9 := Tryz.sizeOf9
 v9 := Tryz.zeroValue9
 t20 := Tryz.underlying20
 a20 := Tryz.isAgg20
 z20 := Tryz.sizeOf20
 v20 := Tryz.zeroValue20
 t37 := Tryz.underlying24
 a37 := Tryz.isAgg24
 z37 := Tryz.sizeOf24
 v37 := Tryz.zeroValue24
 t46 := Tryz.underlying68
 a46 := Tryz.isAgg68
 z46 := Tryz.sizeOf68
 v46 := Tryz.zeroValue68
 t51 := Tryz.underlying37
 a51 := Tryz.isAgg37
 z51 := Tryz.sizeOf37
 v51 := Tryz.zeroValue37
 t53 := Tryz.underlying231
 a53 := Tryz.isAgg231
 z53 := Tryz.sizeOf231
 v53 := Tryz.zeroValue231
 t171 := Tryz.underlying230
 a171 := Tryz.isAgg230
 z171 := Tryz.sizeOf230
 v171 := Tryz.zeroValue230
 t173 := Tryz.underlying234
 a173 := Tryz.isAgg234
 z173 := Tryz.sizeOf234
 v173 := Tryz.zeroValue234
 t212 := Tryz.underlying305
 a212 := Tryz.isAgg305
 z212 := Tryz.sizeOf305
 v212 := Tryz.zeroValue305
 t213 := Tryz.underlying306
 a213 := Tryz.isAgg306
 z213 := Tryz.sizeOf306
 t232 := Tryz.underlying405
 a232 := Tryz.isAgg405
 z232 := Tryz.sizeOf405
 v232 := Tryz.zeroValue405
 t233 := Tryz.underlying406
 a233 := Tryz.isAgg406
 z233 := Tryz.sizeOf406
 v233 := Tryz.zeroValue406
 g17 := by kernel_rfl
 g18 := by kernel_rfl
 g19 := by kernel_rfl
 i0 := by kernel_rfl
 i2 := by kernel_rfl
 i3 := by kernel_rfl
 i4 := by kernel_rfl
 i5 := by kernel_rfl
 i9 := by kernel_rfl
 i20 := by kernel_rfl
 i37 := by kernel_rfl
 i46 := by kernel_rfl
 i51 := by kernel_rfl
 i53 := by kernel_rfl
 i171 := by kernel_rfl
 i173 := by kernel_rfl
 i212 := by kernel_rfl
 i232 := by kernel_rfl
 i233 := by kernel_rfl
 m17 := by kernel_rfl
 m18 := by kernel_rfl
 m19 := by kernel_rfl
def qge : Go.Shelf.Ren := ⟨fun | 240 => 86 | 276 => 129 | n => n,fun | 37 => 24 | 70 => 74 | 72 => 76 | 164 => 217 | n => n,fun n => n⟩
theorem qgx : Lays.n240 Tryz.prog qge where
 mixed := by kernel_rfl
 f240 := Tryz.func86.trans (congrArg some (by kernel_rfl))
 f276 := Tryz.func129.trans (congrArg some (by kernel_rfl))
 t0 := Tryz.underlying0
 a0 := Tryz.isAgg0
 z0 := Tryz.sizeOf0
 v0 := Tryz.zeroValue0
 t4 := Tryz.underlying4
 a4 := Tryz.isAgg4
 z4 := Tryz.sizeOf4
 v4 := Tryz.zeroValue4
 t9 := Tryz.underlying9
 a9 := Tryz.isAgg9
 z9 := Tryz.sizeOf9
 v9 := Tryz.zeroValue9
 t20 := Tryz.underlying20
 a20 := Tryz.isAgg20
 z20 := Tryz.sizeOf20
 v20 := Tryz.zeroValue20
 t70 := Tryz.underlying74
 a70 := Tryz.isAgg74
 z70 := Tryz.sizeOf74
 v70 := Tryz.zeroValue74
 t72 := Tryz.underlying76
 a72 := Tryz.isAgg76
 z72 := Tryz.sizeOf76
 v72 := Tryz.zeroValue76
 t164 := Tryz.underlying217
 a164 := Tryz.isAgg217
 z164 := Tryz.sizeOf217
 v164 := Tryz.zeroValue217
theorem qhv : Builder.X72 Tryz.prog qge := ⟨by kernel_rfl,by kernel_rfl⟩
theorem zr0 {args : List AV} {H : Heap} {r : AV} {H' : Heap} (hg : q8o 76 args H = some (r,H')) : enters Tryz.prog 86 ∧ q1a Tryz.prog 86 args H r H' :=
 qie ⟨_,Tryz.func86,by kernel_rfl,by kernel_rfl⟩ (fun b w h => Any.Builder_copyCheck_used qgx qhv b w h) (fun b w h1 h2 h3 => Any.Builder_copyCheck_fresh qgx qhv b w h1 h2 h3) hg
theorem zpz {args : List AV} {H : Heap} {r : AV} {H' : Heap} (hg : q5g args H = some (r,H')) : enters Tryz.prog 32 ∧ q1a Tryz.prog 32 args H r H' :=
 zli ⟨_,Tryz.func32,by kernel_rfl,by kernel_rfl⟩ (fun n h0 h1 w hw => Any.strconv_Itoa zys n h0 h1 w hw) hg
def S : Special := ⟨fun f => if f = 218 then some spS else if f = 86 then some (q8o 76) else if f = 32 then some q5g else none⟩
theorem z5t : q8s Tryz.prog S := fun f g h args H r H' hg => by
 simp only [S] at h
 split at h
 ·rename_i hf
  subst hf
  cases h
  exact qo5 hg
 split at h
 ·rename_i hf
  subst hf
  cases h
  exact zr0 hg
 split at h
 ·rename_i hf
  subst hf
  cases h
  exact zpz hg
 cases h
noncomputable abbrev O : qy := omega G S
theorem z1z {n : Int} {r : Bytes} (h : q7o n = some r) : O.call 32 [v_i n] [] = some (v_s r,[]) := by
 unfold q7o at h
 split at h
 ·rename_i hc
  cases h
  exact (zib (S := S) (g := q5g) (by simp [S]) _ _).trans (by unfold q5g v_i v_s; simp [hc])
 ·cases h
end Go.Proofs.YtaglodpkpggdiaaGreatDoor
