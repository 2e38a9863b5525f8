/-
  The machine of this program: what it knows of calls that it does not run.
-/
import Derived.Test.YtljbbncgpbgboaaGreatDoorCae
import Derived.Shelf.SlIterI.Nil
import Derived.Shelf.SortM.Plain
import Derived.Shelf.SortM.SortNone
import Derived.Shelf.Lays
import Derived.Shelf.Strings.Builder1
import Derived.Shelf.Strings.BuilderX
import Derived.Shelf.LaysM
import Derived.Shelf.Strconv.Itoa3
set_option linter.unusedSimpArgs false
set_option linter.unusedVariables false
namespace Go.Proofs.YtljbbncgpbgboaaGreatDoor
open Go Go.Gm Go.RowKit Go.Maps Go.Sort Go.Shelf
def q2d : String := ((Rows.scriptCrcRow.laid[2]?).map (fun x => x.1)).getD default
theorem q5c : Tryz.prog.globalNamed q2d = some 0 := by kernel_rfl
instance globs : Globs where
 ok w := Go.Lib.TabIs Tryz.prog w q2d .u64 Go.Lib.pow10Tab
 on b := b = 0
 frame := fun {w w'} h hk => by
  unfold Go.Lib.TabIs World.var? at h ⊢
  rw [q5c] at h ⊢
  simp only [Option.bind_some] at h ⊢
  rw [hk 0 rfl]
  exact h
theorem qo1 {W : World} (h : Go.Lib.TabIs Tryz.prog W q2d .u64 Go.Lib.pow10Tab) : ∀ b,b = 0 → b < W.heap.size := by
 rintro b rfl
 unfold Go.Lib.TabIs World.var? at h
 rw [q5c] at h
 simp only [Option.bind_some] at h
 rcases Nat.lt_or_ge 0 W.heap.size with h1 | h1
 ·exact h1
 ·rw [Array.getElem?_eq_none h1] at h
  cases h
def q63 : Go.Shelf.Ren := ⟨fun | 7 => 196 | 10 => 241 | n => n,fun | 23 => 297 | 26 => 3 | 27 => 306 | 28 => 307 | 33 => 291 | n => n,fun n => n⟩
theorem qya : SlLaysZI.n7 Tryz.prog q63 where
 mixed := by kernel_rfl
 f7 := ⟨Tryz.f196.name,by kernel_rfl,Tryz.func196.trans (congrArg some (by kernel_rfl))⟩
 f10 := ⟨Tryz.f241.name,by kernel_rfl,Tryz.func241.trans (congrArg some (by kernel_rfl))⟩
 t0 := Tryz.underlying0
 a0 := Tryz.isAgg0
 z0 := Tryz.sizeOf0
 v0 := Tryz.zeroValue0
 t4 := Tryz.underlying4
 a4 := Tryz.isAgg4
 z4 := Tryz.sizeOf4
 v4 := Tryz.zeroValue4
 t23 := Tryz.underlying297
 a23 := Tryz.isAgg297
 z23 := Tryz.sizeOf297
 v23 := Tryz.zeroValue297
 t26 := Tryz.underlying3
 a26 := Tryz.isAgg3
 z26 := Tryz.sizeOf3
 v26 := Tryz.zeroValue3
 t27 := Tryz.underlying306
 a27 := Tryz.isAgg306
 z27 := Tryz.sizeOf306
 v27 := Tryz.zeroValue306
 t28 := Tryz.underlying307
 a28 := Tryz.isAgg307
 z28 := Tryz.sizeOf307
 v28 := Tryz.zeroValue307
 t33 := Tryz.underlying291
 a33 := Tryz.isAgg291
 z33 := Tryz.sizeOf291
 v33 := Tryz.zeroValue291
def q8h : Go.Shelf.Ren := ⟨fun | 7 => 218 | 10 => 264 | n => n,fun | 3 => 275 | 23 => 152 | 26 => 3 | 27 => 306 | 28 => 307 | 33 => 291 | n => n,fun n => n⟩
theorem qvp : SlLaysZI.n7 Tryz.prog q8h where
 mixed := by kernel_rfl
 f7 := ⟨Tryz.f218.name,by kernel_rfl,Tryz.func218.trans (congrArg some (by kernel_rfl))⟩
 f10 := ⟨Tryz.f264.name,by kernel_rfl,Tryz.func264.trans (congrArg some (by kernel_rfl))⟩
 t0 := Tryz.underlying0
 a0 := Tryz.isAgg0
 z0 := Tryz.sizeOf0
 v0 := Tryz.zeroValue0
 t4 := Tryz.underlying4
 a4 := Tryz.isAgg4
 z4 := Tryz.sizeOf4
 v4 := Tryz.zeroValue4
 t23 := Tryz.underlying152
 a23 := Tryz.isAgg152
 z23 := Tryz.sizeOf152
 v23 := Tryz.zeroValue152
 t26 := Tryz.underlying3
 a26 := Tryz.isAgg3
 z26 := Tryz.sizeOf3
 v26 := Tryz.zeroValue3
 t27 := Tryz.underlying306
 a27 := Tryz.isAgg306
 z27 := Tryz.sizeOf306
 v27 := Tryz.zeroValue306
 t28 := Tryz.underlying307
 a28 := Tryz.isAgg307
 z28 := Tryz.sizeOf307
 v28 := Tryz.zeroValue307
 t33 := Tryz.underlying291
 a33 := Tryz.isAgg291
 z33 := Tryz.sizeOf291
 v33 := Tryz.zeroValue291
def q7r : Go.Shelf.Ren := ⟨fun | 6 => 195 | 8 => 239 | 9 => 240 | 11 => 274 | 12 => 275 | 13 => 276 | 14 => 297 | 15 => 298 | 16 => 299 | 17 => 300 | 18 => 301 | 19 => 302 | 20 => 303 | 21 => 304 | 22 => 305 | 23 => 306 | 24 => 220 | 25 => 323 | 26 => 324 | 27 => 325 | 28 => 326 | 29 => 327 | 30 => 179 | 31 => 348 | n => n,fun | 24 => 246 | 26 => 3 | 28 => 307 | 33 => 291 | 37 => 349 | 39 => 419 | 40 => 420 | 45 => 143 | 48 => 72 | 50 => 279 | 51 => 450 | 55 => 454 | 57 => 472 | 58 => 243 | n => n,fun n => n⟩
theorem q8e : SlLaysZI.n6 Tryz.prog q7r where
 mixed := by kernel_rfl
 f6 := ⟨Tryz.f195.name,by kernel_rfl,Tryz.func195.trans (congrArg some (by kernel_rfl))⟩
 f8 := ⟨Tryz.f239.name,by kernel_rfl,Tryz.func239.trans (congrArg some (by kernel_rfl))⟩
 f11 := ⟨Tryz.f274.name,by kernel_rfl,Tryz.func274.trans (congrArg some (by kernel_rfl))⟩
 t0 := Tryz.underlying0
 a0 := Tryz.isAgg0
 z0 := Tryz.sizeOf0
 v0 := Tryz.zeroValue0
 t24 := Tryz.underlying246
 a24 := Tryz.isAgg246
 z24 := Tryz.sizeOf246
 v24 := Tryz.zeroValue246
 t26 := Tryz.underlying3
 a26 := Tryz.isAgg3
 z26 := Tryz.sizeOf3
 v26 := Tryz.zeroValue3
 t28 := Tryz.underlying307
 a28 := Tryz.isAgg307
 z28 := Tryz.sizeOf307
 v28 := Tryz.zeroValue307
 i26 := by kernel_rfl
def qx1 : Go.Shelf.Ren := ⟨fun | 5 => 240 | 7 => 275 | 8 => 276 | 10 => 297 | 11 => 298 | 12 => 299 | 13 => 300 | 14 => 301 | 15 => 302 | 16 => 303 | 17 => 304 | 18 => 305 | 19 => 306 | 20 => 220 | 30 => 323 | 31 => 324 | 32 => 325 | 33 => 326 | 34 => 327 | 35 => 179 | 40 => 348 | n => n,fun | 22 => 246 | 23 => 246 | 25 => 3 | 32 => 349 | 35 => 419 | 36 => 420 | 41 => 143 | 44 => 72 | 46 => 279 | 53 => 450 | 57 => 454 | 63 => 472 | 64 => 243 | n => n,fun n => n⟩
theorem q8p : SlLaysM.n5 Tryz.prog qx1 where
 mixed := by kernel_rfl
 f5 := ⟨Tryz.f240.name,by kernel_rfl,Tryz.func240.trans (congrArg some (by kernel_rfl))⟩
 f7 := ⟨Tryz.f275.name,by kernel_rfl,Tryz.func275.trans (congrArg some (by kernel_rfl))⟩
 f8 := Tryz.func276.trans (congrArg some (by kernel_rfl))
 f10 := ⟨Tryz.f297.name,by kernel_rfl,Tryz.func297.trans (congrArg some (by kernel_rfl))⟩
 f11 := ⟨Tryz.f298.name,by kernel_rfl,Tryz.func298.trans (congrArg some (by kernel_rfl))⟩
 f12 := ⟨Tryz.f299.name,by kernel_rfl,Tryz.func299.trans (congrArg some (by kernel_rfl))⟩
 f13 := ⟨Tryz.f300.name,by kernel_rfl,Tryz.func300.trans (congrArg some (by kernel_rfl))⟩
 f14 := ⟨Tryz.f301.name,by kernel_rfl,Tryz.func301.trans (congrArg some (by kernel_rfl))⟩
 f15 := ⟨Tryz.f302.name,by kernel_rfl,Tryz.func302.trans (congrArg some (by kernel_rfl))⟩
 f16 := ⟨Tryz.f303.name,by kernel_rfl,Tryz.func303.trans (congrArg some (by kernel_rfl))⟩
 f17 := ⟨Tryz.f304.name,by kernel_rfl,Tryz.func304.trans (congrArg some (by kernel_rfl))⟩
 f18 := ⟨Tryz.f305.name,by kernel_rfl,Tryz.func305.trans (congrArg some (by kernel_rfl))⟩
 f19 := Tryz.func306.trans (congrArg some (by kernel_rfl))
 f20 := Tryz.func220.trans (congrArg some (by kernel_rfl))
 f30 := ⟨Tryz.f323.name,by kernel_rfl,Tryz.func323.trans (congrArg some (by kernel_rfl))⟩
 f31 := Tryz.func324.trans (congrArg some (by kernel_rfl))
 f32 := Tryz.func325.trans (congrArg some (by kernel_rfl))
 f33 := ⟨Tryz.f326.name,by kernel_rfl,Tryz.func326.trans (congrArg some (by kernel_rfl))⟩
 f34 := ⟨Tryz.f327.name,by kernel_rfl,Tryz.func327.trans (congrArg some (by kernel_rfl))⟩
 f35 := ⟨Tryz.f179.name,by kernel_rfl,Tryz.func179.trans (congrArg some (by kernel_rfl))⟩
 f40 := ⟨Tryz.f348.name,by kernel_rfl,Tryz.func348.trans (congrArg some (by kernel_rfl))⟩
 t0 := Tryz.underlying0
 a0 := Tryz.isAgg0
 z0 := Tryz.sizeOf0
 v0 := Tryz.zeroValue0
 t3 := Tryz.underlying3
 a3 := Tryz.isAgg3
 z3 := Tryz.sizeOf3
 v3 := Tryz.zeroValue3
 t4 := Tryz.underlying4
 a4 := Tryz.isAgg4
 z4 := Tryz.sizeOf4
 v4 := Tryz.zeroValue4
 t5 := Tryz.underlying5
 a5 := Tryz.isAgg5
 z5 := Tryz.sizeOf5
 v5 := Tryz.zeroValue5
 t9 := Tryz.underlying9
 a9 := Tryz.isAgg9
 z9 := Tryz.sizeOf9
 v9 := Tryz.zeroValue9
 t22 := Tryz.underlying246
 a22 := Tryz.isAgg246
 z22 := Tryz.sizeOf246
 v22 := Tryz.zeroValue246
 t23 := Tryz.underlying246
 a23 := Tryz.isAgg246
 z23 := Tryz.sizeOf246
 v23 := Tryz.zeroValue246
 t25 := Tryz.underlying3
 a25 := Tryz.isAgg3
 z25 := Tryz.sizeOf3
 v25 := Tryz.zeroValue3
 t32 := Tryz.underlying349
 a32 := Tryz.isAgg349
 z32 := Tryz.sizeOf349
 v32 := Tryz.zeroValue349
 t35 := Tryz.underlying419
 a35 := Tryz.isAgg419
 z35 := Tryz.sizeOf419
 v35 := Tryz.zeroValue419
 t36 := Tryz.underlying420
 a36 := Tryz.isAgg420
 z36 := Tryz.sizeOf420
 v36 := Tryz.zeroValue420
 t41 := Tryz.underlying143
 a41 := Tryz.isAgg143
 z41 := Tryz.sizeOf143
 v41 := Tryz.zeroValue143
 t44 := Tryz.underlying72
 a44 := Tryz.isAgg72
 z44 := Tryz.sizeOf72
 v44 := Tryz.zeroValue72
 t46 := Tryz.underlying279
 a46 := Tryz.isAgg279
 z46 := Tryz.sizeOf279
 v46 := Tryz.zeroValue279
 t53 := Tryz.underlying450
 a53 := Tryz.isAgg450
 z53 := Tryz.sizeOf450
 v53 := Tryz.zeroValue450
 t57 := Tryz.underlying454
 a57 := Tryz.isAgg454
 z57 := Tryz.sizeOf454
 v57 := Tryz.zeroValue454
 t63 := Tryz.underlying472
 a63 := Tryz.isAgg472
 z63 := Tryz.sizeOf472
 v63 := Tryz.zeroValue472
 t64 := Tryz.underlying243
 a64 := Tryz.isAgg243
 z64 := Tryz.sizeOf243
 v64 := Tryz.zeroValue243
theorem q73 (m : Nat) : AnyZI.SortsIn Tryz.prog q7r Fence.wide m :=
 ⟨fun blk off cap ss W hH hblk hsz => callsIn_wide.2 (AnyM.slices_Sort_int q8p blk off cap ss W hH hblk hsz),fun p cap W => callsIn_wide.2 (AnyM.slices_Sort_int_none q8p p cap W)⟩
theorem qv4 (l b nn : Nat) (D0 : DataW Unit) (w : World) (hl : l < w.heap.size) (hc : w.cell? ⟨l,0,none⟩ = some (.map (some b))) (hown : w.ownsMap Tryz.prog 3 (fun _ => some (.nil,[])) b nn D0) (hmax : Maps.size D0 ≤ maxLen) (hbytes : Maps.size D0 * 8 ≤ 140737488355328) :
  Calls Tryz.prog 195 #[.func (.func 241) #[] #[.pointer (some ⟨l,0,none⟩)]] w fun e w' => ∃ (v : Value) (ss : List Int),e = .returned v ∧ ss.Perm (intKeys D0) ∧
   w'.ownsRow w.heap.size 3 1 v ss.length ((ss.mergeSort (fun x y => decide (x ≤ y))).map encZ) ∧ (v = .slice none 0 0 ↔ ss = []) ∧ Below w.heap.size w w' := by
 have hseq : SeqGives Fence.wide 2 Tryz.prog 241 #[.pointer (some ⟨l,0,none⟩)] encZ (fun ss => ss.Perm (intKeys D0)) (Maps.size D0) w :=
  AnyZI.keys_gives (ρ := q63) { qya with } Fence.wide _ trivial rfl (by omega) l b nn D0 w hl hc hown
 have cS := AnyZI.sorted_in q8e Fence.wide 5 trivial trivial trivial trivial rfl (by omega) (q73 _) (enters_of Tryz.func240 (by kernel_rfl) rfl) 241 #[.pointer (some ⟨l,0,none⟩)] trivial (enters_of Tryz.func241 (by kernel_rfl) rfl) _ _ hmax hbytes _ hseq
 exact (callsIn_wide (n := 5)).1 cS
theorem qrs (l b nn : Nat) (D0 : DataW Unit) (w : World) (hl : l < w.heap.size) (hc : w.cell? ⟨l,0,none⟩ = some (.map (some b))) (hown : w.ownsMap Tryz.prog 3 (fun _ => some (.nil,[])) b nn D0) (hmax : Maps.size D0 ≤ maxLen) (hbytes : Maps.size D0 * 8 ≤ 140737488355328) :
  Calls Tryz.prog 195 #[.func (.func 264) #[] #[.pointer (some ⟨l,0,none⟩)]] w fun e w' => ∃ (v : Value) (ss : List Int),e = .returned v ∧ ss.Perm (intKeys D0) ∧
   w'.ownsRow w.heap.size 3 1 v ss.length ((ss.mergeSort (fun x y => decide (x ≤ y))).map encZ) ∧ (v = .slice none 0 0 ↔ ss = []) ∧ Below w.heap.size w w' := by
 have hseq : SeqGives Fence.wide 2 Tryz.prog 264 #[.pointer (some ⟨l,0,none⟩)] encZ (fun ss => ss.Perm (intKeys D0)) (Maps.size D0) w :=
  AnyZI.keys_gives (ρ := q8h) { qvp with } Fence.wide _ trivial rfl (by omega) l b nn D0 w hl hc hown
 have cS := AnyZI.sorted_in q8e Fence.wide 5 trivial trivial trivial trivial rfl (by omega) (q73 _) (enters_of Tryz.func240 (by kernel_rfl) rfl) 264 #[.pointer (some ⟨l,0,none⟩)] trivial (enters_of Tryz.func264 (by kernel_rfl) rfl) _ _ hmax hbytes _ hseq
 exact (callsIn_wide (n := 5)).1 cS
def spS (args : List AV) (H : Heap) : Option (AV × Heap) := match q3x 241 args H with | some r => some r | none => q3x 264 args H
theorem qiv {args : List AV} {H : Heap} {r : AV} {H' : Heap} (hg : spS args H = some (r,H')) : enters Tryz.prog 195 ∧ u6 Tryz.prog 195 args H r H' := by
 unfold spS at hg
 split at hg
 ·rename_i q hq
  cases hg
  exact q6v (kt := 3) Tryz.underlying3 ⟨_,Tryz.func195,by kernel_rfl,by kernel_rfl⟩ qv4 hq
 ·
  exact q6v (kt := 3) Tryz.underlying3 ⟨_,Tryz.func195,by kernel_rfl,by kernel_rfl⟩ qrs hg
def z13 : Go.Shelf.Ren := ⟨fun | 129 => 220 | 171 => 30 | 243 => 66 | 246 => 111 | 283 => 169 | 284 => 170 | 285 => 171 | 286 => 172 | 317 => 219 | 318 => 221 | 319 => 222 | 320 => 223 | 337 => 265 | 338 => 266 | n => n,fun | 37 => 28 | 46 => 349 | 51 => 72 | 53 => 279 | 171 => 278 | 173 => 282 | 212 => 347 | 213 => 348 | 232 => 415 | 233 => 416 | n => n,fun | 17 => 0 | 18 => 1 | 19 => 2 | n => n⟩
theorem qpr : LaysM.n171 Tryz.prog z13 where
 mixed := by kernel_rfl
 f129 := Tryz.func220.trans (congrArg some (by kernel_rfl))
 f171 := Tryz.func30.trans (congrArg some (by kernel_rfl))
 f243 := Tryz.func66.trans (congrArg some (by kernel_rfl))
 f246 := Tryz.func111.trans (congrArg some (by kernel_rfl))
 f283 := Tryz.func169.trans (congrArg some (by kernel_rfl))
 f284 := Tryz.func170.trans (congrArg some (by kernel_rfl))
 f285 := Tryz.func171.trans (congrArg some (by kernel_rfl))
 f286 := Tryz.func172.trans (congrArg some (by kernel_rfl))
 f317 := Tryz.func219.trans (congrArg some (by kernel_rfl))
 f318 := Tryz.func221.trans (congrArg some (by kernel_rfl))
 f319 := Tryz.func222.trans (congrArg some (by kernel_rfl))
 f320 := Tryz.func223.trans (congrArg some (by kernel_rfl))
 f337 := Tryz.func265.trans (congrArg some (by kernel_rfl))
 f338 := Tryz.func266.trans (congrArg some (by kernel_rfl))
 t0 := Tryz.underlying0
 a0 := Tryz.isAgg0
 z0 := Tryz.sizeOf0
 v0 := Tryz.zeroValue0
 t2 := Tryz.underlying2
 a2 := Tryz.isAgg2
 z2 := Tryz.sizeOf2
 v2 := Tryz.zeroValue2
 t3 := Tryz.underlying3
 a3 := Tryz.isAgg3
 z3 := Tryz.sizeOf3
 v3 := Tryz.zeroValue3
 t4 := Tryz.underlying4
 a4 := Tryz.isAgg4
 z4 := Tryz.sizeOf4
 v4 := Tryz.zeroValue4
 t5 := Tryz.underlying5
 a5 := Tryz.isAgg5
 z5 := Tryz.sizeOf5
 v5 := Tryz.zeroValue5
 t9 := Tryz.underlying9
 a9 := Tryz.isAgg9
 z9 := Tryz.sizeOf9
 v9 := Tryz.zeroValue9
 t20 := Tryz.underlying20
 a20 := Tryz.isAgg20
 z20 := Tryz.sizeOf20
 v20 := Tryz.zeroValue20
 t37 := Tryz.underlying28
 a37 := Tryz.isAgg28
 z37 := Tryz.sizeOf28
 v37 := Tryz.zeroValue28
 t46 := Tryz.underlying349
 a46 := Tryz.isAgg349
 z46 := Tryz.sizeOf349
 v46 := Tryz.zeroValue349
 t51 := Tryz.underlying72
 a51 := Tryz.isAgg72
 z51 := Tryz.sizeOf72
 v51 := Tryz.zeroValue72
 t53 := Tryz.underlying279
 a53 := Tryz.isAgg279
 z53 := Tryz.sizeOf279
 v53 := Tryz.zeroValue279
 t171 := Tryz.underlying278
 a171 := Tryz.isAgg278
 z171 := Tryz.sizeOf278
 v171 := Tryz.zeroValue278
 t173 := Tryz.underlying282
 a173 := Tryz.isAgg282
 z173 := Tryz.sizeOf282
 v173 := Tryz.zeroValue282
 t212 := Tryz.underlying347
 a212 := Tryz.isAgg347
 z212 := Tryz.sizeOf347
 v212 := Tryz.zeroValue347
 t213 := Tryz.underlying348
 a213 := Tryz.isAgg348
 z213 := Tryz.sizeOf348
 t232 := Tryz.underlying415
 a232 := Tryz.isAgg415
 z232 := Tryz.sizeOf415
 v232 := Tryz.zeroValue415
 t233 := Tryz.underlying416
 a233 := Tryz.isAgg416
 z233 := Tryz.sizeOf416
 v233 := Tryz.zeroValue416
 g17 := by kernel_rfl
 g18 := by kernel_rfl
 g19 := by kernel_rfl
 i0 := by kernel_rfl
 i2 := by kernel_rfl
 i3 := by kernel_rfl
 i4 := by kernel_rfl
 i5 := by kernel_rfl
 i9 := by kernel_rfl
 i20 := by kernel_rfl
 i37 := by kernel_rfl
 i46 := by kernel_rfl
 i51 := by kernel_rfl
 i53 := by kernel_rfl
 i171 := by kernel_rfl
 i173 := by kernel_rfl
 i212 := by kernel_rfl
 i232 := by kernel_rfl
 i233 := by kernel_rfl
 m17 := by kernel_rfl
 m18 := by kernel_rfl
 m19 := by kernel_rfl
def q6k : Go.Shelf.Ren := ⟨fun | 240 => 65 | 276 => 110 | n => n,fun | 37 => 28 | 70 => 38 | 72 => 40 | 164 => 197 | n => n,fun n => n⟩
theorem q82 : Lays.n240 Tryz.prog q6k where
 mixed := by kernel_rfl
 f240 := Tryz.func65.trans (congrArg some (by kernel_rfl))
 f276 := Tryz.func110.trans (congrArg some (by kernel_rfl))
 t0 := Tryz.underlying0
 a0 := Tryz.isAgg0
 z0 := Tryz.sizeOf0
 v0 := Tryz.zeroValue0
 t4 := Tryz.underlying4
 a4 := Tryz.isAgg4
 z4 := Tryz.sizeOf4
 v4 := Tryz.zeroValue4
 t9 := Tryz.underlying9
 a9 := Tryz.isAgg9
 z9 := Tryz.sizeOf9
 v9 := Tryz.zeroValue9
 t20 := Tryz.underlying20
 a20 := Tryz.isAgg20
 z20 := Tryz.sizeOf20
 v20 := Tryz.zeroValue20
 t70 := Tryz.underlying38
 a70 := Tryz.isAgg38
 z70 := Tryz.sizeOf38
 v70 := Tryz.zeroValue38
 t72 := Tryz.underlying40
 a72 := Tryz.isAgg40
 z72 := Tryz.sizeOf40
 v72 := Tryz.zeroValue40
 t164 := Tryz.underlying197
 a164 := Tryz.isAgg197
 z164 := Tryz.sizeOf197
 v164 := Tryz.zeroValue197
theorem q86 : Builder.X72 Tryz.prog q6k := ⟨by kernel_rfl,by kernel_rfl⟩
theorem qkf {args : List AV} {H : Heap} {r : AV} {H' : Heap} (hg : q33 40 args H = some (r,H')) : enters Tryz.prog 65 ∧ u6 Tryz.prog 65 args H r H' :=
 z9l ⟨_,Tryz.func65,by kernel_rfl,by kernel_rfl⟩ (fun b w h => Any.Builder_copyCheck_used q82 q86 b w h) (fun b w h1 h2 h3 => Any.Builder_copyCheck_fresh q82 q86 b w h1 h2 h3) hg
theorem qsa {args : List AV} {H : Heap} {r : AV} {H' : Heap} (hg : q3e args H = some (r,H')) : enters Tryz.prog 30 ∧ u6 Tryz.prog 30 args H r H' :=
 qy8 ⟨_,Tryz.func30,by kernel_rfl,by kernel_rfl⟩ (fun n h0 h1 w hw => Any.strconv_Itoa qpr n h0 h1 w hw) hg
def S : Special := ⟨fun f => if f = 195 then some spS else if f = 65 then some (q33 40) else if f = 30 then some q3e else none⟩
theorem qey : q3w Tryz.prog S := fun f g h args H r H' hg => by
 simp only [S] at h
 split at h
 ·rename_i hf
  subst hf
  cases h
  exact qiv hg
 split at h
 ·rename_i hf
  subst hf
  cases h
  exact qkf hg
 split at h
 ·rename_i hf
  subst hf
  cases h
  exact qsa hg
 cases h
noncomputable abbrev O : qi := omega G S
end Go.Proofs.YtljbbncgpbgboaaGreatDoor
