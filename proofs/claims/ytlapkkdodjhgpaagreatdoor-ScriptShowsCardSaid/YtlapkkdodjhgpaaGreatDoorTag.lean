/-
  The machine of this program: what it knows of calls that it does not run.
-/
import Derived.Test.YtlapkkdodjhgpaaGreatDoorTae
import Derived.Shelf.SlIterI.Nil
import Derived.Shelf.SortM.Plain
import Derived.Shelf.SortM.SortNone
import Derived.Shelf.Lays
import Derived.Shelf.Strings.Builder1
import Derived.Shelf.Strings.BuilderX
import Derived.Shelf.LaysM
import Derived.Shelf.Strconv.Itoa3
import Derived.Test.YtlapkkdodjhgpaaGreatDoorTaf
set_option linter.unusedSimpArgs false
set_option linter.unusedVariables false
namespace Go.Proofs.YtlapkkdodjhgpaaGreatDoor
open Go Go.Gm Go.RowKit Go.Maps Go.Sort Go.Shelf
def q5l : String := ((Rows.scriptShowsRow.laid[2]?).map (fun x => x.1)).getD default
theorem q7h : Tryz.prog.globalNamed q5l = some 0 := by kernel_rfl
instance globs : Globs where
 ok w := Go.Lib.TabIs Tryz.prog w q5l .u64 Go.Lib.pow10Tab
 on b := b = 0
 frame := fun {w w'} h hk => by
  unfold Go.Lib.TabIs World.var? at h ⊢
  rw [q7h] at h ⊢
  simp only [Option.bind_some] at h ⊢
  rw [hk 0 rfl]
  exact h
theorem z3h {W : World} (h : Go.Lib.TabIs Tryz.prog W q5l .u64 Go.Lib.pow10Tab) : ∀ b,b = 0 → b < W.heap.size := by
 rintro b rfl
 unfold Go.Lib.TabIs World.var? at h
 rw [q7h] at h
 simp only [Option.bind_some] at h
 rcases Nat.lt_or_ge 0 W.heap.size with h1 | h1
 ·exact h1
 ·rw [Array.getElem?_eq_none h1] at h
  cases h
def qau : Go.Shelf.Ren := ⟨fun | 7 => 216 | 10 => 258 | n => n,fun | 23 => 313 | 26 => 3 | 27 => 322 | 28 => 323 | 33 => 80 | n => n,fun n => n⟩
theorem zci : SlLaysZI.n7 Tryz.prog qau where
 mixed := by kernel_rfl
 f7 := ⟨Tryz.f216.name,by kernel_rfl,Tryz.func216.trans (congrArg some (by kernel_rfl))⟩
 f10 := ⟨Tryz.f258.name,by kernel_rfl,Tryz.func258.trans (congrArg some (by kernel_rfl))⟩
 t0 := Tryz.underlying0
 a0 := Tryz.isAgg0
 z0 := Tryz.sizeOf0
 v0 := Tryz.zeroValue0
 t4 := Tryz.underlying4
 a4 := Tryz.isAgg4
 z4 := Tryz.sizeOf4
 v4 := Tryz.zeroValue4
 t23 := Tryz.underlying313
 a23 := Tryz.isAgg313
 z23 := Tryz.sizeOf313
 v23 := Tryz.zeroValue313
 t26 := Tryz.underlying3
 a26 := Tryz.isAgg3
 z26 := Tryz.sizeOf3
 v26 := Tryz.zeroValue3
 t27 := Tryz.underlying322
 a27 := Tryz.isAgg322
 z27 := Tryz.sizeOf322
 v27 := Tryz.zeroValue322
 t28 := Tryz.underlying323
 a28 := Tryz.isAgg323
 z28 := Tryz.sizeOf323
 v28 := Tryz.zeroValue323
 t33 := Tryz.underlying80
 a33 := Tryz.isAgg80
 z33 := Tryz.sizeOf80
 v33 := Tryz.zeroValue80
def qax : Go.Shelf.Ren := ⟨fun | 7 => 238 | 10 => 281 | n => n,fun | 3 => 293 | 23 => 166 | 26 => 3 | 27 => 322 | 28 => 323 | 33 => 80 | n => n,fun n => n⟩
theorem zgu : SlLaysZI.n7 Tryz.prog qax where
 mixed := by kernel_rfl
 f7 := ⟨Tryz.f238.name,by kernel_rfl,Tryz.func238.trans (congrArg some (by kernel_rfl))⟩
 f10 := ⟨Tryz.f281.name,by kernel_rfl,Tryz.func281.trans (congrArg some (by kernel_rfl))⟩
 t0 := Tryz.underlying0
 a0 := Tryz.isAgg0
 z0 := Tryz.sizeOf0
 v0 := Tryz.zeroValue0
 t4 := Tryz.underlying4
 a4 := Tryz.isAgg4
 z4 := Tryz.sizeOf4
 v4 := Tryz.zeroValue4
 t23 := Tryz.underlying166
 a23 := Tryz.isAgg166
 z23 := Tryz.sizeOf166
 v23 := Tryz.zeroValue166
 t26 := Tryz.underlying3
 a26 := Tryz.isAgg3
 z26 := Tryz.sizeOf3
 v26 := Tryz.zeroValue3
 t27 := Tryz.underlying322
 a27 := Tryz.isAgg322
 z27 := Tryz.sizeOf322
 v27 := Tryz.zeroValue322
 t28 := Tryz.underlying323
 a28 := Tryz.isAgg323
 z28 := Tryz.sizeOf323
 v28 := Tryz.zeroValue323
 t33 := Tryz.underlying80
 a33 := Tryz.isAgg80
 z33 := Tryz.sizeOf80
 v33 := Tryz.zeroValue80
def qbk : Go.Shelf.Ren := ⟨fun | 6 => 215 | 8 => 256 | 9 => 257 | 11 => 289 | 12 => 290 | 13 => 291 | 14 => 312 | 15 => 313 | 16 => 314 | 17 => 315 | 18 => 316 | 19 => 317 | 20 => 318 | 21 => 319 | 22 => 320 | 23 => 321 | 24 => 191 | 25 => 338 | 26 => 339 | 27 => 340 | 28 => 341 | 29 => 342 | 30 => 199 | 31 => 363 | n => n,fun | 24 => 118 | 26 => 3 | 28 => 323 | 33 => 80 | 37 => 304 | 39 => 430 | 40 => 431 | 45 => 158 | 48 => 47 | 50 => 225 | 51 => 461 | 55 => 465 | 57 => 483 | 58 => 262 | n => n,fun n => n⟩
theorem qa3 : SlLaysZI.n6 Tryz.prog qbk where
 mixed := by kernel_rfl
 f6 := ⟨Tryz.f215.name,by kernel_rfl,Tryz.func215.trans (congrArg some (by kernel_rfl))⟩
 f8 := ⟨Tryz.f256.name,by kernel_rfl,Tryz.func256.trans (congrArg some (by kernel_rfl))⟩
 f11 := ⟨Tryz.f289.name,by kernel_rfl,Tryz.func289.trans (congrArg some (by kernel_rfl))⟩
 t0 := Tryz.underlying0
 a0 := Tryz.isAgg0
 z0 := Tryz.sizeOf0
 v0 := Tryz.zeroValue0
 t24 := Tryz.underlying118
 a24 := Tryz.isAgg118
 z24 := Tryz.sizeOf118
 v24 := Tryz.zeroValue118
 t26 := Tryz.underlying3
 a26 := Tryz.isAgg3
 z26 := Tryz.sizeOf3
 v26 := Tryz.zeroValue3
 t28 := Tryz.underlying323
 a28 := Tryz.isAgg323
 z28 := Tryz.sizeOf323
 v28 := Tryz.zeroValue323
 i26 := by kernel_rfl
def znr : Go.Shelf.Ren := ⟨fun | 5 => 257 | 7 => 290 | 8 => 291 | 10 => 312 | 11 => 313 | 12 => 314 | 13 => 315 | 14 => 316 | 15 => 317 | 16 => 318 | 17 => 319 | 18 => 320 | 19 => 321 | 20 => 191 | 30 => 338 | 31 => 339 | 32 => 340 | 33 => 341 | 34 => 342 | 35 => 199 | 40 => 363 | n => n,fun | 22 => 118 | 23 => 118 | 25 => 3 | 32 => 304 | 35 => 430 | 36 => 431 | 41 => 158 | 44 => 47 | 46 => 225 | 53 => 461 | 57 => 465 | 63 => 483 | 64 => 262 | n => n,fun n => n⟩
theorem qbe : SlLaysM.n5 Tryz.prog znr where
 mixed := by kernel_rfl
 f5 := ⟨Tryz.f257.name,by kernel_rfl,Tryz.func257.trans (congrArg some (by kernel_rfl))⟩
 f7 := ⟨Tryz.f290.name,by kernel_rfl,Tryz.func290.trans (congrArg some (by kernel_rfl))⟩
 f8 := Tryz.func291.trans (congrArg some (by kernel_rfl))
 f10 := ⟨Tryz.f312.name,by kernel_rfl,Tryz.func312.trans (congrArg some (by kernel_rfl))⟩
 f11 := ⟨Tryz.f313.name,by kernel_rfl,Tryz.func313.trans (congrArg some (by kernel_rfl))⟩
 f12 := ⟨Tryz.f314.name,by kernel_rfl,Tryz.func314.trans (congrArg some (by kernel_rfl))⟩
 f13 := ⟨Tryz.f315.name,by kernel_rfl,Tryz.func315.trans (congrArg some (by kernel_rfl))⟩
 f14 := ⟨Tryz.f316.name,by kernel_rfl,Tryz.func316.trans (congrArg some (by kernel_rfl))⟩
 f15 := ⟨Tryz.f317.name,by kernel_rfl,Tryz.func317.trans (congrArg some (by kernel_rfl))⟩
 f16 := ⟨Tryz.f318.name,by kernel_rfl,Tryz.func318.trans (congrArg some (by kernel_rfl))⟩
 f17 := ⟨Tryz.f319.name,by kernel_rfl,Tryz.func319.trans (congrArg some (by kernel_rfl))⟩
 f18 := ⟨Tryz.f320.name,by kernel_rfl,Tryz.func320.trans (congrArg some (by kernel_rfl))⟩
 f19 := Tryz.func321.trans (congrArg some (by kernel_rfl))
 f20 := Tryz.func191.trans (congrArg some (by kernel_rfl))
 f30 := ⟨Tryz.f338.name,by kernel_rfl,Tryz.func338.trans (congrArg some (by kernel_rfl))⟩
 f31 := Tryz.func339.trans (congrArg some (by kernel_rfl))
 f32 := Tryz.func340.trans (congrArg some (by kernel_rfl))
 f33 := ⟨Tryz.f341.name,by kernel_rfl,Tryz.func341.trans (congrArg some (by kernel_rfl))⟩
 f34 := ⟨Tryz.f342.name,by kernel_rfl,Tryz.func342.trans (congrArg some (by kernel_rfl))⟩
 f35 := ⟨Tryz.f199.name,by kernel_rfl,Tryz.func199.trans (congrArg some (by kernel_rfl))⟩
 f40 := ⟨Tryz.f363.name,by kernel_rfl,Tryz.func363.trans (congrArg some (by kernel_rfl))⟩
 t0 := Tryz.underlying0
 a0 := Tryz.isAgg0
 z0 := Tryz.sizeOf0
 v0 := Tryz.zeroValue0
 t3 := Tryz.underlying3
 a3 := Tryz.isAgg3
 z3 := Tryz.sizeOf3
 v3 := Tryz.zeroValue3
 t4 := Tryz.underlying4
 a4 := Tryz.isAgg4
 z4 := Tryz.sizeOf4
 v4 := Tryz.zeroValue4
 t5 := Tryz.underlying5
 a5 := Tryz.isAgg5
 z5 := Tryz.sizeOf5
 v5 := Tryz.zeroValue5
 t9 := Tryz.underlying9
 a9 := Tryz.isAgg9
 z9 := Tryz.sizeOf9
 v9 := Tryz.zeroValue9
 t22 := Tryz.underlying118
 a22 := Tryz.isAgg118
 z22 := Tryz.sizeOf118
 v22 := Tryz.zeroValue118
 t23 := Tryz.underlying118
 a23 := Tryz.isAgg118
 z23 := Tryz.sizeOf118
 v23 := Tryz.zeroValue118
 t25 := Tryz.underlying3
 a25 := Tryz.isAgg3
 z25 := Tryz.sizeOf3
 v25 := Tryz.zeroValue3
 t32 := Tryz.underlying304
 a32 := Tryz.isAgg304
 z32 := Tryz.sizeOf304
 v32 := Tryz.zeroValue304
 t35 := Tryz.underlying430
 a35 := Tryz.isAgg430
 z35 := Tryz.sizeOf430
 v35 := Tryz.zeroValue430
 t36 := Tryz.underlying431
 a36 := Tryz.isAgg431
 z36 := Tryz.sizeOf431
 v36 := Tryz.zeroValue431
 t41 := Tryz.underlying158
 a41 := Tryz.isAgg158
 z41 := Tryz.sizeOf158
 v41 := Tryz.zeroValue158
 t44 := Tryz.underlying47
 a44 := Tryz.isAgg47
 z44 := Tryz.sizeOf47
 v44 := Tryz.zeroValue47
 t46 := Tryz.underlying225
 a46 := Tryz.isAgg225
 z46 := Tryz.sizeOf225
 v46 := Tryz.zeroValue225
 t53 := Tryz.underlying461
 a53 := Tryz.isAgg461
 z53 := Tryz.sizeOf461
 v53 := Tryz.zeroValue461
 t57 := Tryz.underlying465
 a57 := Tryz.isAgg465
 z57 := Tryz.sizeOf465
 v57 := Tryz.zeroValue465
 t63 := Tryz.underlying483
 a63 := Tryz.isAgg483
 z63 := Tryz.sizeOf483
 v63 := Tryz.zeroValue483
 t64 := Tryz.underlying262
 a64 := Tryz.isAgg262
 z64 := Tryz.sizeOf262
 v64 := Tryz.zeroValue262
theorem qa0 (m : Nat) : AnyZI.SortsIn Tryz.prog qbk Fence.wide m :=
 ⟨fun blk off cap ss W hH hblk hsz => callsIn_wide.2 (AnyM.slices_Sort_int qbe blk off cap ss W hH hblk hsz),fun p cap W => callsIn_wide.2 (AnyM.slices_Sort_int_none qbe p cap W)⟩
theorem z4w (l b nn : Nat) (D0 : DataW Unit) (w : World) (hl : l < w.heap.size) (hc : w.cell? ⟨l,0,none⟩ = some (.map (some b))) (hown : w.ownsMap Tryz.prog 3 (fun _ => some (.nil,[])) b nn D0) (hmax : Maps.size D0 ≤ maxLen) (hbytes : Maps.size D0 * 8 ≤ 140737488355328) :
  Calls Tryz.prog 215 #[.func (.func 258) #[] #[.pointer (some ⟨l,0,none⟩)]] w fun e w' => ∃ (v : Value) (ss : List Int),e = .returned v ∧ ss.Perm (intKeys D0) ∧
   w'.ownsRow w.heap.size 3 1 v ss.length ((ss.mergeSort (fun x y => decide (x ≤ y))).map encZ) ∧ (v = .slice none 0 0 ↔ ss = []) ∧ Below w.heap.size w w' := by
 have hseq : SeqGives Fence.wide 2 Tryz.prog 258 #[.pointer (some ⟨l,0,none⟩)] encZ (fun ss => ss.Perm (intKeys D0)) (Maps.size D0) w :=
  AnyZI.keys_gives (ρ := qau) { zci with } Fence.wide _ trivial rfl (by omega) l b nn D0 w hl hc hown
 have cS := AnyZI.sorted_in qa3 Fence.wide 5 trivial trivial trivial trivial rfl (by omega) (qa0 _) (enters_of Tryz.func257 (by kernel_rfl) rfl) 258 #[.pointer (some ⟨l,0,none⟩)] trivial (enters_of Tryz.func258 (by kernel_rfl) rfl) _ _ hmax hbytes _ hseq
 exact (callsIn_wide (n := 5)).1 cS
theorem zmo (l b nn : Nat) (D0 : DataW Unit) (w : World) (hl : l < w.heap.size) (hc : w.cell? ⟨l,0,none⟩ = some (.map (some b))) (hown : w.ownsMap Tryz.prog 3 (fun _ => some (.nil,[])) b nn D0) (hmax : Maps.size D0 ≤ maxLen) (hbytes : Maps.size D0 * 8 ≤ 140737488355328) :
  Calls Tryz.prog 215 #[.func (.func 281) #[] #[.pointer (some ⟨l,0,none⟩)]] w fun e w' => ∃ (v : Value) (ss : List Int),e = .returned v ∧ ss.Perm (intKeys D0) ∧
   w'.ownsRow w.heap.size 3 1 v ss.length ((ss.mergeSort (fun x y => decide (x ≤ y))).map encZ) ∧ (v = .slice none 0 0 ↔ ss = []) ∧ Below w.heap.size w w' := by
 have hseq : SeqGives Fence.wide 2 Tryz.prog 281 #[.pointer (some ⟨l,0,none⟩)] encZ (fun ss => ss.Perm (intKeys D0)) (Maps.size D0) w :=
  AnyZI.keys_gives (ρ := qax) { zgu with } Fence.wide _ trivial rfl (by omega) l b nn D0 w hl hc hown
 have cS := AnyZI.sorted_in qa3 Fence.wide 5 trivial trivial trivial trivial rfl (by omega) (qa0 _) (enters_of Tryz.func257 (by kernel_rfl) rfl) 281 #[.pointer (some ⟨l,0,none⟩)] trivial (enters_of Tryz.func281 (by kernel_rfl) rfl) _ _ hmax hbytes _ hseq
 exact (callsIn_wide (n := 5)).1 cS
def spS (args : List AV) (H : Heap) : Option (AV × Heap) := match q5t 258 args H with | some r => some r | none => q5t 281 args H
theorem qod {args : List AV} {H : Heap} {r : AV} {H' : Heap} (hg : spS args H = some (r,H')) : enters Tryz.prog 215 ∧ q09 Tryz.prog 215 args H r H' := by
 unfold spS at hg
 split at hg
 ·rename_i q hq
  cases hg
  exact qbh (kt := 3) Tryz.underlying3 ⟨_,Tryz.func215,by kernel_rfl,by kernel_rfl⟩ z4w hq
 ·
  exact qbh (kt := 3) Tryz.underlying3 ⟨_,Tryz.func215,by kernel_rfl,by kernel_rfl⟩ zmo hg
def qgo : Go.Shelf.Ren := ⟨fun | 129 => 191 | 171 => 25 | 243 => 56 | 246 => 86 | 283 => 129 | 284 => 130 | 285 => 131 | 286 => 132 | 317 => 190 | 318 => 192 | 319 => 193 | 320 => 194 | 337 => 240 | 338 => 241 | n => n,fun | 37 => 26 | 46 => 304 | 51 => 47 | 53 => 225 | 171 => 224 | 173 => 228 | 212 => 302 | 213 => 303 | 232 => 402 | 233 => 403 | n => n,fun | 17 => 0 | 18 => 1 | 19 => 2 | n => n⟩
theorem zh1 : LaysM.n171 Tryz.prog qgo where
 mixed := by kernel_rfl
 f129 := Tryz.func191.trans (congrArg some (by kernel_rfl))
 f171 := Tryz.func25.trans (congrArg some (by kernel_rfl))
 f243 := Tryz.func56.trans (congrArg some (by kernel_rfl))
 f246 := Tryz.func86.trans (congrArg some (by kernel_rfl))
 f283 := Tryz.func129.trans (congrArg some (by kernel_rfl))
 f284 := Tryz.func130.trans (congrArg some (by kernel_rfl))
 f285 := Tryz.func131.trans (congrArg some (by kernel_rfl))
 f286 := Tryz.func132.trans (congrArg some (by kernel_rfl))
 f317 := Tryz.func190.trans (congrArg some (by kernel_rfl))
 f318 := Tryz.func192.trans (congrArg some (by kernel_rfl))
 f319 := Tryz.func193.trans (congrArg some (by kernel_rfl))
 f320 := Tryz.func194.trans (congrArg some (by kernel_rfl))
 f337 := Tryz.func240.trans (congrArg some (by kernel_rfl))
 f338 := Tryz.func241.trans (congrArg some (by kernel_rfl))
 t0 := Tryz.underlying0
 a0 := Tryz.isAgg0
 z0 := Tryz.sizeOf0
 v0 := Tryz.zeroValue0
 t2 := Tryz.underlying2
 a2 := Tryz.isAgg2
 z2 := Tryz.sizeOf2
 v2 := Tryz.zeroValue2
 t3 := Tryz.underlying3
 a3 := Tryz.isAgg3
 z3 := Tryz.sizeOf3
 v3 := Tryz.zeroValue3
 t4 := Tryz.underlying4
 a4 := Tryz.isAgg4
 z4 := Tryz.sizeOf4
 v4 := Tryz.zeroValue4
 t5 := Tryz.underlying5
 a5 := Tryz.isAgg5
 z5 := Tryz.sizeOf5
 v5 := Tryz.zeroValue5
 t9 := Tryz.underlying9
 a9 := Tryz.isAgg9
 z9 := Tryz.sizeOf9
 v9 := Tryz.zeroValue9
 t20 := Tryz.underlying20
 a20 := Tryz.isAgg20
 z20 := Tryz.sizeOf20
 v20 := Tryz.zeroValue20
 t37 := Tryz.underlying26
 a37 := Tryz.isAgg26
 z37 := Tryz.sizeOf26
 v37 := Tryz.zeroValue26
 t46 := Tryz.underlying304
 a46 := Tryz.isAgg304
 z46 := Tryz.sizeOf304
 v46 := Tryz.zeroValue304
 t51 := Tryz.underlying47
 a51 := Tryz.isAgg47
 z51 := Tryz.sizeOf47
 v51 := Tryz.zeroValue47
 t53 := Tryz.underlying225
 a53 := Tryz.isAgg225
 z53 := Tryz.sizeOf225
 v53 := Tryz.zeroValue225
 t171 := Tryz.underlying224
 a171 := Tryz.isAgg224
 z171 := Tryz.sizeOf224
 v171 := Tryz.zeroValue224
 t173 := Tryz.underlying228
 a173 := Tryz.isAgg228
 z173 := Tryz.sizeOf228
 v173 := Tryz.zeroValue228
 t212 := Tryz.underlying302
 a212 := Tryz.isAgg302
 z212 := Tryz.sizeOf302
 v212 := Tryz.zeroValue302
 t213 := Tryz.underlying303
 a213 := Tryz.isAgg303
 z213 := Tryz.sizeOf303
 t232 := Tryz.underlying402
 a232 := Tryz.isAgg402
 z232 := Tryz.sizeOf402
 v232 := Tryz.zeroValue402
 t233 := Tryz.underlying403
 a233 := Tryz.isAgg403
 z233 := Tryz.sizeOf403
 v233 := Tryz.zeroValue403
 g17 := by kernel_rfl
 g18 := by kernel_rfl
 g19 := by kernel_rfl
 i0 := by kernel_rfl
 i2 := by kernel_rfl
 i3 := by kernel_rfl
 i4 := by kernel_rfl
 i5 := by kernel_rfl
 i9 := by kernel_rfl
 i20 := by kernel_rfl
 i37 := by kernel_rfl
 i46 := by kernel_rfl
 i51 := by kernel_rfl
 i53 := by kernel_rfl
 i171 := by kernel_rfl
 i173 := by kernel_rfl
 i212 := by kernel_rfl
 i232 := by kernel_rfl
 i233 := by kernel_rfl
 m17 := by kernel_rfl
 m18 := by kernel_rfl
 m19 := by kernel_rfl
def q9w : Go.Shelf.Ren := ⟨fun | 240 => 81 | 276 => 126 | n => n,fun | 37 => 26 | 70 => 57 | 72 => 59 | 164 => 211 | n => n,fun n => n⟩
theorem qcc : Lays.n240 Tryz.prog q9w where
 mixed := by kernel_rfl
 f240 := Tryz.func81.trans (congrArg some (by kernel_rfl))
 f276 := Tryz.func126.trans (congrArg some (by kernel_rfl))
 t0 := Tryz.underlying0
 a0 := Tryz.isAgg0
 z0 := Tryz.sizeOf0
 v0 := Tryz.zeroValue0
 t4 := Tryz.underlying4
 a4 := Tryz.isAgg4
 z4 := Tryz.sizeOf4
 v4 := Tryz.zeroValue4
 t9 := Tryz.underlying9
 a9 := Tryz.isAgg9
 z9 := Tryz.sizeOf9
 v9 := Tryz.zeroValue9
 t20 := Tryz.underlying20
 a20 := Tryz.isAgg20
 z20 := Tryz.sizeOf20
 v20 := Tryz.zeroValue20
 t70 := Tryz.underlying57
 a70 := Tryz.isAgg57
 z70 := Tryz.sizeOf57
 v70 := Tryz.zeroValue57
 t72 := Tryz.underlying59
 a72 := Tryz.isAgg59
 z72 := Tryz.sizeOf59
 v72 := Tryz.zeroValue59
 t164 := Tryz.underlying211
 a164 := Tryz.isAgg211
 z164 := Tryz.sizeOf211
 v164 := Tryz.zeroValue211
theorem qcm : Builder.X72 Tryz.prog q9w := ⟨by kernel_rfl,by kernel_rfl⟩
theorem zqq {args : List AV} {H : Heap} {r : AV} {H' : Heap} (hg : q7a 59 args H = some (r,H')) : enters Tryz.prog 81 ∧ q09 Tryz.prog 81 args H r H' :=
 zti ⟨_,Tryz.func81,by kernel_rfl,by kernel_rfl⟩ (fun b w h => Any.Builder_copyCheck_used qcc qcm b w h) (fun b w h1 h2 h3 => Any.Builder_copyCheck_fresh qcc qcm b w h1 h2 h3) hg
theorem zfe {args : List AV} {H : Heap} {r : AV} {H' : Heap} (hg : q3x args H = some (r,H')) : enters Tryz.prog 25 ∧ q09 Tryz.prog 25 args H r H' :=
 zdv ⟨_,Tryz.func25,by kernel_rfl,by kernel_rfl⟩ (fun n h0 h1 w hw => Any.strconv_Itoa zh1 n h0 h1 w hw) hg
def S : Special := ⟨fun f => if f = 215 then some spS else if f = 81 then some (q7a 59) else if f = 25 then some q3x else none⟩
theorem zu7 : q6a Tryz.prog S := fun f g h args H r H' hg => by
 simp only [S] at h
 split at h
 ·rename_i hf
  subst hf
  cases h
  exact qod hg
 split at h
 ·rename_i hf
  subst hf
  cases h
  exact zqq hg
 split at h
 ·rename_i hf
  subst hf
  cases h
  exact zfe hg
 cases h
noncomputable abbrev O : qx := omega G S
theorem z4j {n : Int} {r : Bytes} (h : q64 n = some r) : O.call 25 [v_i n] [] = some (v_s r,[]) := by
 unfold q64 at h
 split at h
 ·rename_i hc
  cases h
  exact (qh5 (S := S) (g := q3x) (by simp [S]) _ _).trans (by unfold q3x v_i v_s; simp [hc])
 ·cases h
end Go.Proofs.YtlapkkdodjhgpaaGreatDoor
