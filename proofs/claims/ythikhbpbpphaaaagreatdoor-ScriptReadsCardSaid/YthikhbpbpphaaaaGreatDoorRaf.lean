/-
  The machine of this program: what it knows of calls that it does not run.
-/
import Derived.Test.YthikhbpbpphaaaaGreatDoorRae
import Derived.Shelf.SlIterI.Nil
import Derived.Shelf.SortM.Plain
import Derived.Shelf.SortM.SortNone
import Derived.Shelf.Lays
import Derived.Shelf.Strings.Builder1
import Derived.Shelf.Strings.BuilderX
import Derived.Shelf.LaysM
import Derived.Shelf.Strconv.Itoa3
set_option linter.unusedSimpArgs false
set_option linter.unusedVariables false
namespace Go.Proofs.YthikhbpbpphaaaaGreatDoor
open Go Go.Gm Go.RowKit Go.Maps Go.Sort Go.Shelf
def q5p : String := ((Rows.scriptReadsRow.laid[2]?).map (fun x => x.1)).getD default
theorem q8g : Tryz.prog.globalNamed q5p = some 0 := by kernel_rfl
instance globs : Globs where
 ok w := Go.Lib.TabIs Tryz.prog w q5p .u64 Go.Lib.pow10Tab
 on b := b = 0
 frame := fun {w w'} h hk => by
  unfold Go.Lib.TabIs World.var? at h ⊢
  rw [q8g] at h ⊢
  simp only [Option.bind_some] at h ⊢
  rw [hk 0 rfl]
  exact h
theorem zf0 {W : World} (h : Go.Lib.TabIs Tryz.prog W q5p .u64 Go.Lib.pow10Tab) : ∀ b,b = 0 → b < W.heap.size := by
 rintro b rfl
 unfold Go.Lib.TabIs World.var? at h
 rw [q8g] at h
 simp only [Option.bind_some] at h
 rcases Nat.lt_or_ge 0 W.heap.size with h1 | h1
 ·exact h1
 ·rw [Array.getElem?_eq_none h1] at h
  cases h
def qef : Go.Shelf.Ren := ⟨fun | 7 => 211 | 10 => 256 | n => n,fun | 23 => 308 | 26 => 3 | 27 => 317 | 28 => 318 | 33 => 302 | n => n,fun n => n⟩
theorem z2j : SlLaysZI.n7 Tryz.prog qef where
 mixed := by kernel_rfl
 f7 := ⟨Tryz.f211.name,by kernel_rfl,Tryz.func211.trans (congrArg some (by kernel_rfl))⟩
 f10 := ⟨Tryz.f256.name,by kernel_rfl,Tryz.func256.trans (congrArg some (by kernel_rfl))⟩
 t0 := Tryz.underlying0
 a0 := Tryz.isAgg0
 z0 := Tryz.sizeOf0
 v0 := Tryz.zeroValue0
 t4 := Tryz.underlying4
 a4 := Tryz.isAgg4
 z4 := Tryz.sizeOf4
 v4 := Tryz.zeroValue4
 t23 := Tryz.underlying308
 a23 := Tryz.isAgg308
 z23 := Tryz.sizeOf308
 v23 := Tryz.zeroValue308
 t26 := Tryz.underlying3
 a26 := Tryz.isAgg3
 z26 := Tryz.sizeOf3
 v26 := Tryz.zeroValue3
 t27 := Tryz.underlying317
 a27 := Tryz.isAgg317
 z27 := Tryz.sizeOf317
 v27 := Tryz.zeroValue317
 t28 := Tryz.underlying318
 a28 := Tryz.isAgg318
 z28 := Tryz.sizeOf318
 v28 := Tryz.zeroValue318
 t33 := Tryz.underlying302
 a33 := Tryz.isAgg302
 z33 := Tryz.sizeOf302
 v33 := Tryz.zeroValue302
def qab : Go.Shelf.Ren := ⟨fun | 7 => 233 | 10 => 279 | n => n,fun | 3 => 286 | 23 => 164 | 26 => 3 | 27 => 317 | 28 => 318 | 33 => 302 | n => n,fun n => n⟩
theorem z5y : SlLaysZI.n7 Tryz.prog qab where
 mixed := by kernel_rfl
 f7 := ⟨Tryz.f233.name,by kernel_rfl,Tryz.func233.trans (congrArg some (by kernel_rfl))⟩
 f10 := ⟨Tryz.f279.name,by kernel_rfl,Tryz.func279.trans (congrArg some (by kernel_rfl))⟩
 t0 := Tryz.underlying0
 a0 := Tryz.isAgg0
 z0 := Tryz.sizeOf0
 v0 := Tryz.zeroValue0
 t4 := Tryz.underlying4
 a4 := Tryz.isAgg4
 z4 := Tryz.sizeOf4
 v4 := Tryz.zeroValue4
 t23 := Tryz.underlying164
 a23 := Tryz.isAgg164
 z23 := Tryz.sizeOf164
 v23 := Tryz.zeroValue164
 t26 := Tryz.underlying3
 a26 := Tryz.isAgg3
 z26 := Tryz.sizeOf3
 v26 := Tryz.zeroValue3
 t27 := Tryz.underlying317
 a27 := Tryz.isAgg317
 z27 := Tryz.sizeOf317
 v27 := Tryz.zeroValue317
 t28 := Tryz.underlying318
 a28 := Tryz.isAgg318
 z28 := Tryz.sizeOf318
 v28 := Tryz.zeroValue318
 t33 := Tryz.underlying302
 a33 := Tryz.isAgg302
 z33 := Tryz.sizeOf302
 v33 := Tryz.zeroValue302
def qb8 : Go.Shelf.Ren := ⟨fun | 6 => 210 | 8 => 254 | 9 => 255 | 11 => 289 | 12 => 290 | 13 => 291 | 14 => 312 | 15 => 313 | 16 => 314 | 17 => 315 | 18 => 316 | 19 => 317 | 20 => 318 | 21 => 319 | 22 => 320 | 23 => 321 | 24 => 235 | 25 => 338 | 26 => 339 | 27 => 340 | 28 => 341 | 29 => 342 | 30 => 194 | 31 => 363 | n => n,fun | 24 => 257 | 26 => 3 | 28 => 318 | 33 => 302 | 37 => 361 | 39 => 431 | 40 => 432 | 45 => 79 | 48 => 54 | 50 => 290 | 51 => 462 | 55 => 466 | 57 => 484 | 58 => 254 | n => n,fun n => n⟩
theorem qe6 : SlLaysZI.n6 Tryz.prog qb8 where
 mixed := by kernel_rfl
 f6 := ⟨Tryz.f210.name,by kernel_rfl,Tryz.func210.trans (congrArg some (by kernel_rfl))⟩
 f8 := ⟨Tryz.f254.name,by kernel_rfl,Tryz.func254.trans (congrArg some (by kernel_rfl))⟩
 f11 := ⟨Tryz.f289.name,by kernel_rfl,Tryz.func289.trans (congrArg some (by kernel_rfl))⟩
 t0 := Tryz.underlying0
 a0 := Tryz.isAgg0
 z0 := Tryz.sizeOf0
 v0 := Tryz.zeroValue0
 t24 := Tryz.underlying257
 a24 := Tryz.isAgg257
 z24 := Tryz.sizeOf257
 v24 := Tryz.zeroValue257
 t26 := Tryz.underlying3
 a26 := Tryz.isAgg3
 z26 := Tryz.sizeOf3
 v26 := Tryz.zeroValue3
 t28 := Tryz.underlying318
 a28 := Tryz.isAgg318
 z28 := Tryz.sizeOf318
 v28 := Tryz.zeroValue318
 i26 := by kernel_rfl
def qg5 : Go.Shelf.Ren := ⟨fun | 5 => 255 | 7 => 290 | 8 => 291 | 10 => 312 | 11 => 313 | 12 => 314 | 13 => 315 | 14 => 316 | 15 => 317 | 16 => 318 | 17 => 319 | 18 => 320 | 19 => 321 | 20 => 235 | 30 => 338 | 31 => 339 | 32 => 340 | 33 => 341 | 34 => 342 | 35 => 194 | 40 => 363 | n => n,fun | 22 => 257 | 23 => 257 | 25 => 3 | 32 => 361 | 35 => 431 | 36 => 432 | 41 => 79 | 44 => 54 | 46 => 290 | 53 => 462 | 57 => 466 | 63 => 484 | 64 => 254 | n => n,fun n => n⟩
theorem qeb : SlLaysM.n5 Tryz.prog qg5 where
 mixed := by kernel_rfl
 f5 := ⟨Tryz.f255.name,by kernel_rfl,Tryz.func255.trans (congrArg some (by kernel_rfl))⟩
 f7 := ⟨Tryz.f290.name,by kernel_rfl,Tryz.func290.trans (congrArg some (by kernel_rfl))⟩
 f8 := Tryz.func291.trans (congrArg some (by kernel_rfl))
 f10 := ⟨Tryz.f312.name,by kernel_rfl,Tryz.func312.trans (congrArg some (by kernel_rfl))⟩
 f11 := ⟨Tryz.f313.name,by kernel_rfl,Tryz.func313.trans (congrArg some (by kernel_rfl))⟩
 f12 := ⟨Tryz.f314.name,by kernel_rfl,Tryz.func314.trans (congrArg some (by kernel_rfl))⟩
 f13 := ⟨Tryz.f315.name,by kernel_rfl,Tryz.func315.trans (congrArg some (by kernel_rfl))⟩
 f14 := ⟨Tryz.f316.name,by kernel_rfl,Tryz.func316.trans (congrArg some (by kernel_rfl))⟩
 f15 := ⟨Tryz.f317.name,by kernel_rfl,Tryz.func317.trans (congrArg some (by kernel_rfl))⟩
 f16 := ⟨Tryz.f318.name,by kernel_rfl,Tryz.func318.trans (congrArg some (by kernel_rfl))⟩
 f17 := ⟨Tryz.f319.name,by kernel_rfl,Tryz.func319.trans (congrArg some (by kernel_rfl))⟩
 f18 := ⟨Tryz.f320.name,by kernel_rfl,Tryz.func320.trans (congrArg some (by kernel_rfl))⟩
 f19 := Tryz.func321.trans (congrArg some (by kernel_rfl))
 f20 := Tryz.func235.trans (congrArg some (by kernel_rfl))
 f30 := ⟨Tryz.f338.name,by kernel_rfl,Tryz.func338.trans (congrArg some (by kernel_rfl))⟩
 f31 := Tryz.func339.trans (congrArg some (by kernel_rfl))
 f32 := Tryz.func340.trans (congrArg some (by kernel_rfl))
 f33 := ⟨Tryz.f341.name,by kernel_rfl,Tryz.func341.trans (congrArg some (by kernel_rfl))⟩
 f34 := ⟨Tryz.f342.name,by kernel_rfl,Tryz.func342.trans (congrArg some (by kernel_rfl))⟩
 f35 := ⟨Tryz.f194.name,by kernel_rfl,Tryz.func194.trans (congrArg some (by kernel_rfl))⟩
 f40 := ⟨Tryz.f363.name,by kernel_rfl,Tryz.func363.trans (congrArg some (by kernel_rfl))⟩
 t0 := Tryz.underlying0
 a0 := Tryz.isAgg0
 z0 := Tryz.sizeOf0
 v0 := Tryz.zeroValue0
 t3 := Tryz.underlying3
 a3 := Tryz.isAgg3
 z3 := Tryz.sizeOf3
 v3 := Tryz.zeroValue3
 t4 := Tryz.underlying4
 a4 := Tryz.isAgg4
 z4 := Tryz.sizeOf4
 v4 := Tryz.zeroValue4
 t5 := Tryz.underlying5
 a5 := Tryz.isAgg5
 z5 := Tryz.sizeOf5
 v5 := Tryz.zeroValue5
 t9 := Tryz.underlying9
 a9 := Tryz.isAgg9
 z9 := Tryz.sizeOf9
 v9 := Tryz.zeroValue9
 t22 := Tryz.underlying257
 a22 := Tryz.isAgg257
 z22 := Tryz.sizeOf257
 v22 := Tryz.zeroValue257
 t23 := Tryz.underlying257
 a23 := Tryz.isAgg257
 z23 := Tryz.sizeOf257
 v23 := Tryz.zeroValue257
 t25 := Tryz.underlying3
 a25 := Tryz.isAgg3
 z25 := Tryz.sizeOf3
 v25 := Tryz.zeroValue3
 t32 := Tryz.underlying361
 a32 := Tryz.isAgg361
 z32 := Tryz.sizeOf361
 v32 := Tryz.zeroValue361
 t35 := Tryz.underlying431
 a35 := Tryz.isAgg431
 z35 := Tryz.sizeOf431
 v35 := Tryz.zeroValue431
 t36 := Tryz.underlying432
 a36 := Tryz.isAgg432
 z36 := Tryz.sizeOf432
 v36 := Tryz.zeroValue432
 t41 := Tryz.underlying79
 a41 := Tryz.isAgg79
 z41 := Tryz.sizeOf79
 v41 := Tryz.zeroValue79
 t44 := Tryz.underlying54
 a44 := Tryz.isAgg54
 z44 := Tryz.sizeOf54
 v44 := Tryz.zeroValue54
 t46 := Tryz.underlying290
 a46 := Tryz.isAgg290
 z46 := Tryz.sizeOf290
 v46 := Tryz.zeroValue290
 t53 := Tryz.underlying462
 a53 := Tryz.isAgg462
 z53 := Tryz.sizeOf462
 v53 := Tryz.zeroValue462
 t57 := Tryz.underlying466
 a57 := Tryz.isAgg466
 z57 := Tryz.sizeOf466
 v57 := Tryz.zeroValue466
 t63 := Tryz.underlying484
 a63 := Tryz.isAgg484
 z63 := Tryz.sizeOf484
 v63 := Tryz.zeroValue484
 t64 := Tryz.underlying254
 a64 := Tryz.isAgg254
 z64 := Tryz.sizeOf254
 v64 := Tryz.zeroValue254
theorem qap (m : Nat) : AnyZI.SortsIn Tryz.prog qb8 Fence.wide m :=
 ⟨fun blk off cap ss W hH hblk hsz => callsIn_wide.2 (AnyM.slices_Sort_int qeb blk off cap ss W hH hblk hsz),fun p cap W => callsIn_wide.2 (AnyM.slices_Sort_int_none qeb p cap W)⟩
theorem qpc (l b nn : Nat) (D0 : DataW Unit) (w : World) (hl : l < w.heap.size) (hc : w.cell? ⟨l,0,none⟩ = some (.map (some b))) (hown : w.ownsMap Tryz.prog 3 (fun _ => some (.nil,[])) b nn D0) (hmax : Maps.size D0 ≤ maxLen) (hbytes : Maps.size D0 * 8 ≤ 140737488355328) :
  Calls Tryz.prog 210 #[.func (.func 256) #[] #[.pointer (some ⟨l,0,none⟩)]] w fun e w' => ∃ (v : Value) (ss : List Int),e = .returned v ∧ ss.Perm (intKeys D0) ∧
   w'.ownsRow w.heap.size 3 1 v ss.length ((ss.mergeSort (fun x y => decide (x ≤ y))).map encZ) ∧ (v = .slice none 0 0 ↔ ss = []) ∧ Below w.heap.size w w' := by
 have hseq : SeqGives Fence.wide 2 Tryz.prog 256 #[.pointer (some ⟨l,0,none⟩)] encZ (fun ss => ss.Perm (intKeys D0)) (Maps.size D0) w :=
  AnyZI.keys_gives (ρ := qef) { z2j with } Fence.wide _ trivial rfl (by omega) l b nn D0 w hl hc hown
 have cS := AnyZI.sorted_in qe6 Fence.wide 5 trivial trivial trivial trivial rfl (by omega) (qap _) (enters_of Tryz.func255 (by kernel_rfl) rfl) 256 #[.pointer (some ⟨l,0,none⟩)] trivial (enters_of Tryz.func256 (by kernel_rfl) rfl) _ _ hmax hbytes _ hseq
 exact (callsIn_wide (n := 5)).1 cS
theorem qui (l b nn : Nat) (D0 : DataW Unit) (w : World) (hl : l < w.heap.size) (hc : w.cell? ⟨l,0,none⟩ = some (.map (some b))) (hown : w.ownsMap Tryz.prog 3 (fun _ => some (.nil,[])) b nn D0) (hmax : Maps.size D0 ≤ maxLen) (hbytes : Maps.size D0 * 8 ≤ 140737488355328) :
  Calls Tryz.prog 210 #[.func (.func 279) #[] #[.pointer (some ⟨l,0,none⟩)]] w fun e w' => ∃ (v : Value) (ss : List Int),e = .returned v ∧ ss.Perm (intKeys D0) ∧
   w'.ownsRow w.heap.size 3 1 v ss.length ((ss.mergeSort (fun x y => decide (x ≤ y))).map encZ) ∧ (v = .slice none 0 0 ↔ ss = []) ∧ Below w.heap.size w w' := by
 have hseq : SeqGives Fence.wide 2 Tryz.prog 279 #[.pointer (some ⟨l,0,none⟩)] encZ (fun ss => ss.Perm (intKeys D0)) (Maps.size D0) w :=
  AnyZI.keys_gives (ρ := qab) { z5y with } Fence.wide _ trivial rfl (by omega) l b nn D0 w hl hc hown
 have cS := AnyZI.sorted_in qe6 Fence.wide 5 trivial trivial trivial trivial rfl (by omega) (qap _) (enters_of Tryz.func255 (by kernel_rfl) rfl) 279 #[.pointer (some ⟨l,0,none⟩)] trivial (enters_of Tryz.func279 (by kernel_rfl) rfl) _ _ hmax hbytes _ hseq
 exact (callsIn_wide (n := 5)).1 cS
def spS (args : List AV) (H : Heap) : Option (AV × Heap) := match q78 256 args H with | some r => some r | none => q78 279 args H
theorem z0w {args : List AV} {H : Heap} {r : AV} {H' : Heap} (hg : spS args H = some (r,H')) : enters Tryz.prog 210 ∧ q02 Tryz.prog 210 args H r H' := by
 unfold spS at hg
 split at hg
 ·rename_i q hq
  cases hg
  exact qea (kt := 3) Tryz.underlying3 ⟨_,Tryz.func210,by kernel_rfl,by kernel_rfl⟩ qpc hq
 ·
  exact qea (kt := 3) Tryz.underlying3 ⟨_,Tryz.func210,by kernel_rfl,by kernel_rfl⟩ qui hg
def qv1 : Go.Shelf.Ren := ⟨fun | 129 => 235 | 171 => 49 | 243 => 82 | 246 => 126 | 283 => 184 | 284 => 185 | 285 => 186 | 286 => 187 | 317 => 234 | 318 => 236 | 319 => 237 | 320 => 238 | 337 => 280 | 338 => 281 | n => n,fun | 37 => 22 | 46 => 361 | 51 => 54 | 53 => 290 | 171 => 289 | 173 => 293 | 212 => 359 | 213 => 360 | 232 => 427 | 233 => 428 | n => n,fun | 17 => 0 | 18 => 1 | 19 => 2 | n => n⟩
theorem qn4 : LaysM.n171 Tryz.prog qv1 where
 mixed := by kernel_rfl
 f129 := Tryz.func235.trans (congrArg some (by kernel_rfl))
 f171 := Tryz.func49.trans (congrArg some (by kernel_rfl))
 f243 := Tryz.func82.trans (congrArg some (by kernel_rfl))
 f246 := Tryz.func126.trans (congrArg some (by kernel_rfl))
 f283 := Tryz.func184.trans (congrArg some (by kernel_rfl))
 f284 := Tryz.func185.trans (congrArg some (by kernel_rfl))
 f285 := Tryz.func186.trans (congrArg some (by kernel_rfl))
 f286 := Tryz.func187.trans (congrArg some (by kernel_rfl))
 f317 := Tryz.func234.trans (congrArg some (by kernel_rfl))
 f318 := Tryz.func236.trans (congrArg some (by kernel_rfl))
 f319 := Tryz.func237.trans (congrArg some (by kernel_rfl))
 f320 := Tryz.func238.trans (congrArg some (by kernel_rfl))
 f337 := Tryz.func280.trans (congrArg some (by kernel_rfl))
 f338 := Tryz.func281.trans (congrArg some (by kernel_rfl))
 t0 := Tryz.underlying0
 a0 := Tryz.isAgg0
 z0 := Tryz.sizeOf0
 v0 := Tryz.zeroValue0
 t2 := Tryz.underlying2
 a2 := Tryz.isAgg2
 z2 := Tryz.sizeOf2
 v2 := Tryz.zeroValue2
 t3 := Tryz.underlying3
 a3 := Tryz.isAgg3
 z3 := Tryz.sizeOf3
 v3 := Tryz.zeroValue3
 t4 := Tryz.underlying4
 a4 := Tryz.isAgg4
 z4 := Tryz.sizeOf4
 v4 := Tryz.zeroValue4
 t5 := Tryz.underlying5
 a5 := Tryz.isAgg5
 z5 := Tryz.sizeOf5
 v5 := Tryz.zeroValue5
 t9 := Tryz.underlying9
 a9 := Tryz.isAgg9
 z9 := Tryz.sizeOf9
 v9 := Tryz.zeroValue9
 t20 := Tryz.underlying20
 a20 := Tryz.isAgg20
 z20 := Tryz.sizeOf20
 v20 := Tryz.zeroValue20
 t37 := Tryz.underlying22
 a37 := Tryz.isAgg22
 z37 := Tryz.sizeOf22
 v37 := Tryz.zeroValue22
 t46 := Tryz.underlying361
 a46 := Tryz.isAgg361
 z46 := Tryz.sizeOf361
 v46 := Tryz.zeroValue361
 t51 := Tryz.underlying54
 a51 := Tryz.isAgg54
 z51 := Tryz.sizeOf54
 v51 := Tryz.zeroValue54
 t53 := Tryz.underlying290
 a53 := Tryz.isAgg290
 z53 := Tryz.sizeOf290
 v53 := Tryz.zeroValue290
 t171 := Tryz.underlying289
 a171 := Tryz.isAgg289
 z171 := Tryz.sizeOf289
 v171 := Tryz.zeroValue289
 t173 := Tryz.underlying293
 a173 := Tryz.isAgg293
 z173 := Tryz.sizeOf293
 v173 := Tryz.zeroValue293
 t212 := Tryz.underlying359
 a212 := Tryz.isAgg359
 z212 := Tryz.sizeOf359
 v212 := Tryz.zeroValue359
 t213 := Tryz.underlying360
 a213 := Tryz.isAgg360
 z213 := Tryz.sizeOf360
 t232 := Tryz.underlying427
 a232 := Tryz.isAgg427
 z232 := Tryz.sizeOf427
 v232 := Tryz.zeroValue427
 t233 := Tryz.underlying428
 a233 := Tryz.isAgg428
 z233 := Tryz.sizeOf428
 v233 := Tryz.zeroValue428
 g17 := by kernel_rfl
 g18 := by kernel_rfl
 g19 := by kernel_rfl
 i0 := by kernel_rfl
 i2 := by kernel_rfl
 i3 := by kernel_rfl
 i4 := by kernel_rfl
 i5 := by kernel_rfl
 i9 := by kernel_rfl
 i20 := by kernel_rfl
 i37 := by kernel_rfl
 i46 := by kernel_rfl
 i51 := by kernel_rfl
 i53 := by kernel_rfl
 i171 := by kernel_rfl
 i173 := by kernel_rfl
 i212 := by kernel_rfl
 i232 := by kernel_rfl
 i233 := by kernel_rfl
 m17 := by kernel_rfl
 m18 := by kernel_rfl
 m19 := by kernel_rfl
def qa4 : Go.Shelf.Ren := ⟨fun | 240 => 81 | 276 => 125 | n => n,fun | 37 => 22 | 70 => 62 | 72 => 64 | 164 => 209 | n => n,fun n => n⟩
theorem qbi : Lays.n240 Tryz.prog qa4 where
 mixed := by kernel_rfl
 f240 := Tryz.func81.trans (congrArg some (by kernel_rfl))
 f276 := Tryz.func125.trans (congrArg some (by kernel_rfl))
 t0 := Tryz.underlying0
 a0 := Tryz.isAgg0
 z0 := Tryz.sizeOf0
 v0 := Tryz.zeroValue0
 t4 := Tryz.underlying4
 a4 := Tryz.isAgg4
 z4 := Tryz.sizeOf4
 v4 := Tryz.zeroValue4
 t9 := Tryz.underlying9
 a9 := Tryz.isAgg9
 z9 := Tryz.sizeOf9
 v9 := Tryz.zeroValue9
 t20 := Tryz.underlying20
 a20 := Tryz.isAgg20
 z20 := Tryz.sizeOf20
 v20 := Tryz.zeroValue20
 t70 := Tryz.underlying62
 a70 := Tryz.isAgg62
 z70 := Tryz.sizeOf62
 v70 := Tryz.zeroValue62
 t72 := Tryz.underlying64
 a72 := Tryz.isAgg64
 z72 := Tryz.sizeOf64
 v72 := Tryz.zeroValue64
 t164 := Tryz.underlying209
 a164 := Tryz.isAgg209
 z164 := Tryz.sizeOf209
 v164 := Tryz.zeroValue209
theorem q9x : Builder.X72 Tryz.prog qa4 := ⟨by kernel_rfl,by kernel_rfl⟩
theorem qpm {args : List AV} {H : Heap} {r : AV} {H' : Heap} (hg : q75 64 args H = some (r,H')) : enters Tryz.prog 81 ∧ q02 Tryz.prog 81 args H r H' :=
 qjm ⟨_,Tryz.func81,by kernel_rfl,by kernel_rfl⟩ (fun b w h => Any.Builder_copyCheck_used qbi q9x b w h) (fun b w h1 h2 h3 => Any.Builder_copyCheck_fresh qbi q9x b w h1 h2 h3) hg
theorem qvj {args : List AV} {H : Heap} {r : AV} {H' : Heap} (hg : q67 args H = some (r,H')) : enters Tryz.prog 49 ∧ q02 Tryz.prog 49 args H r H' :=
 z7g ⟨_,Tryz.func49,by kernel_rfl,by kernel_rfl⟩ (fun n h0 h1 w hw => Any.strconv_Itoa qn4 n h0 h1 w hw) hg
def S : Special := ⟨fun f => if f = 210 then some spS else if f = 81 then some (q75 64) else if f = 49 then some q67 else none⟩
theorem z3l : q7e Tryz.prog S := fun f g h args H r H' hg => by
 simp only [S] at h
 split at h
 ·rename_i hf
  subst hf
  cases h
  exact z0w hg
 split at h
 ·rename_i hf
  subst hf
  cases h
  exact qpm hg
 split at h
 ·rename_i hf
  subst hf
  cases h
  exact qvj hg
 cases h
noncomputable abbrev O : qp := omega G S
end Go.Proofs.YthikhbpbpphaaaaGreatDoor
