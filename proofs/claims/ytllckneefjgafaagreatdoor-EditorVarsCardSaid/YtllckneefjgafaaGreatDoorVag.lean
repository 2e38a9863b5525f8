/-
  The machine of this program: what it knows of calls that it does not run.
-/
import Derived.Test.YtllckneefjgafaaGreatDoorVae
import Derived.Shelf.SlIterI.Nil
import Derived.Shelf.SortM.Plain
import Derived.Shelf.SortM.SortNone
import Derived.Shelf.Lays
import Derived.Shelf.Strings.Builder1
import Derived.Shelf.Strings.BuilderX
import Derived.Shelf.LaysM
import Derived.Shelf.Strconv.Itoa3
import Derived.Test.YtllckneefjgafaaGreatDoorVaf
set_option linter.unusedSimpArgs false
set_option linter.unusedVariables false
namespace Go.Proofs.YtllckneefjgafaaGreatDoor
open Go Go.Gm Go.RowKit Go.Maps Go.Sort Go.Shelf
def q48 : String := ((Rows.editorVarsRow.laid[2]?).map (fun x => x.1)).getD default
theorem q66 : Tryz.prog.globalNamed q48 = some 1 := by kernel_rfl
instance globs : Globs where
 ok w := Go.Lib.TabIs Tryz.prog w q48 .u64 Go.Lib.pow10Tab
 on b := b = 1
 frame := fun {w w'} h hk => by
  unfold Go.Lib.TabIs World.var? at h ⊢
  rw [q66] at h ⊢
  simp only [Option.bind_some] at h ⊢
  rw [hk 1 rfl]
  exact h
theorem qx2 {W : World} (h : Go.Lib.TabIs Tryz.prog W q48 .u64 Go.Lib.pow10Tab) : ∀ b,b = 1 → b < W.heap.size := by
 rintro b rfl
 unfold Go.Lib.TabIs World.var? at h
 rw [q66] at h
 simp only [Option.bind_some] at h
 rcases Nat.lt_or_ge 1 W.heap.size with h1 | h1
 ·exact h1
 ·rw [Array.getElem?_eq_none h1] at h
  cases h
def qa2 : Go.Shelf.Ren := ⟨fun | 7 => 173 | 10 => 214 | n => n,fun | 23 => 263 | 26 => 3 | 27 => 272 | 28 => 273 | 33 => 257 | n => n,fun n => n⟩
theorem qym : SlLaysZI.n7 Tryz.prog qa2 where
 mixed := by kernel_rfl
 f7 := ⟨Tryz.f173.name,by kernel_rfl,Tryz.func173.trans (congrArg some (by kernel_rfl))⟩
 f10 := ⟨Tryz.f214.name,by kernel_rfl,Tryz.func214.trans (congrArg some (by kernel_rfl))⟩
 t0 := Tryz.underlying0
 a0 := Tryz.isAgg0
 z0 := Tryz.sizeOf0
 v0 := Tryz.zeroValue0
 t4 := Tryz.underlying4
 a4 := Tryz.isAgg4
 z4 := Tryz.sizeOf4
 v4 := Tryz.zeroValue4
 t23 := Tryz.underlying263
 a23 := Tryz.isAgg263
 z23 := Tryz.sizeOf263
 v23 := Tryz.zeroValue263
 t26 := Tryz.underlying3
 a26 := Tryz.isAgg3
 z26 := Tryz.sizeOf3
 v26 := Tryz.zeroValue3
 t27 := Tryz.underlying272
 a27 := Tryz.isAgg272
 z27 := Tryz.sizeOf272
 v27 := Tryz.zeroValue272
 t28 := Tryz.underlying273
 a28 := Tryz.isAgg273
 z28 := Tryz.sizeOf273
 v28 := Tryz.zeroValue273
 t33 := Tryz.underlying257
 a33 := Tryz.isAgg257
 z33 := Tryz.sizeOf257
 v33 := Tryz.zeroValue257
def qc7 : Go.Shelf.Ren := ⟨fun | 7 => 196 | 10 => 238 | n => n,fun | 3 => 247 | 23 => 123 | 26 => 3 | 27 => 272 | 28 => 273 | 33 => 257 | n => n,fun n => n⟩
theorem qoy : SlLaysZI.n7 Tryz.prog qc7 where
 mixed := by kernel_rfl
 f7 := ⟨Tryz.f196.name,by kernel_rfl,Tryz.func196.trans (congrArg some (by kernel_rfl))⟩
 f10 := ⟨Tryz.f238.name,by kernel_rfl,Tryz.func238.trans (congrArg some (by kernel_rfl))⟩
 t0 := Tryz.underlying0
 a0 := Tryz.isAgg0
 z0 := Tryz.sizeOf0
 v0 := Tryz.zeroValue0
 t4 := Tryz.underlying4
 a4 := Tryz.isAgg4
 z4 := Tryz.sizeOf4
 v4 := Tryz.zeroValue4
 t23 := Tryz.underlying123
 a23 := Tryz.isAgg123
 z23 := Tryz.sizeOf123
 v23 := Tryz.zeroValue123
 t26 := Tryz.underlying3
 a26 := Tryz.isAgg3
 z26 := Tryz.sizeOf3
 v26 := Tryz.zeroValue3
 t27 := Tryz.underlying272
 a27 := Tryz.isAgg272
 z27 := Tryz.sizeOf272
 v27 := Tryz.zeroValue272
 t28 := Tryz.underlying273
 a28 := Tryz.isAgg273
 z28 := Tryz.sizeOf273
 v28 := Tryz.zeroValue273
 t33 := Tryz.underlying257
 a33 := Tryz.isAgg257
 z33 := Tryz.sizeOf257
 v33 := Tryz.zeroValue257
def qab : Go.Shelf.Ren := ⟨fun | 6 => 172 | 8 => 212 | 9 => 213 | 11 => 246 | 12 => 247 | 13 => 248 | 14 => 272 | 15 => 273 | 16 => 274 | 17 => 275 | 18 => 276 | 19 => 277 | 20 => 278 | 21 => 279 | 22 => 280 | 23 => 281 | 24 => 282 | 25 => 304 | 26 => 305 | 27 => 306 | 28 => 307 | 29 => 308 | 30 => 156 | 31 => 335 | n => n,fun | 24 => 218 | 26 => 3 | 28 => 273 | 33 => 257 | 37 => 328 | 39 => 394 | 40 => 395 | 45 => 159 | 48 => 33 | 50 => 360 | 51 => 432 | 55 => 436 | 57 => 460 | 58 => 215 | n => n,fun n => n⟩
theorem qbo : SlLaysZI.n6 Tryz.prog qab where
 mixed := by kernel_rfl
 f6 := ⟨Tryz.f172.name,by kernel_rfl,Tryz.func172.trans (congrArg some (by kernel_rfl))⟩
 f8 := ⟨Tryz.f212.name,by kernel_rfl,Tryz.func212.trans (congrArg some (by kernel_rfl))⟩
 f11 := ⟨Tryz.f246.name,by kernel_rfl,Tryz.func246.trans (congrArg some (by kernel_rfl))⟩
 t0 := Tryz.underlying0
 a0 := Tryz.isAgg0
 z0 := Tryz.sizeOf0
 v0 := Tryz.zeroValue0
 t24 := Tryz.underlying218
 a24 := Tryz.isAgg218
 z24 := Tryz.sizeOf218
 v24 := Tryz.zeroValue218
 t26 := Tryz.underlying3
 a26 := Tryz.isAgg3
 z26 := Tryz.sizeOf3
 v26 := Tryz.zeroValue3
 t28 := Tryz.underlying273
 a28 := Tryz.isAgg273
 z28 := Tryz.sizeOf273
 v28 := Tryz.zeroValue273
 i26 := by kernel_rfl
def zb5 : Go.Shelf.Ren := ⟨fun | 5 => 213 | 7 => 247 | 8 => 248 | 10 => 272 | 11 => 273 | 12 => 274 | 13 => 275 | 14 => 276 | 15 => 277 | 16 => 278 | 17 => 279 | 18 => 280 | 19 => 281 | 20 => 282 | 30 => 304 | 31 => 305 | 32 => 306 | 33 => 307 | 34 => 308 | 35 => 156 | 40 => 335 | n => n,fun | 22 => 218 | 23 => 218 | 25 => 3 | 32 => 328 | 35 => 394 | 36 => 395 | 41 => 159 | 44 => 33 | 46 => 360 | 53 => 432 | 57 => 436 | 63 => 460 | 64 => 215 | n => n,fun n => n⟩
theorem q84 : SlLaysM.n5 Tryz.prog zb5 where
 mixed := by kernel_rfl
 f5 := ⟨Tryz.f213.name,by kernel_rfl,Tryz.func213.trans (congrArg some (by kernel_rfl))⟩
 f7 := ⟨Tryz.f247.name,by kernel_rfl,Tryz.func247.trans (congrArg some (by kernel_rfl))⟩
 f8 := Tryz.func248.trans (congrArg some (by kernel_rfl))
 f10 := ⟨Tryz.f272.name,by kernel_rfl,Tryz.func272.trans (congrArg some (by kernel_rfl))⟩
 f11 := ⟨Tryz.f273.name,by kernel_rfl,Tryz.func273.trans (congrArg some (by kernel_rfl))⟩
 f12 := ⟨Tryz.f274.name,by kernel_rfl,Tryz.func274.trans (congrArg some (by kernel_rfl))⟩
 f13 := ⟨Tryz.f275.name,by kernel_rfl,Tryz.func275.trans (congrArg some (by kernel_rfl))⟩
 f14 := ⟨Tryz.f276.name,by kernel_rfl,Tryz.func276.trans (congrArg some (by kernel_rfl))⟩
 f15 := ⟨Tryz.f277.name,by kernel_rfl,Tryz.func277.trans (congrArg some (by kernel_rfl))⟩
 f16 := ⟨Tryz.f278.name,by kernel_rfl,Tryz.func278.trans (congrArg some (by kernel_rfl))⟩
 f17 := ⟨Tryz.f279.name,by kernel_rfl,Tryz.func279.trans (congrArg some (by kernel_rfl))⟩
 f18 := ⟨Tryz.f280.name,by kernel_rfl,Tryz.func280.trans (congrArg some (by kernel_rfl))⟩
 f19 := Tryz.func281.trans (congrArg some (by kernel_rfl))
 f20 := Tryz.func282.trans (congrArg some (by kernel_rfl))
 f30 := ⟨Tryz.f304.name,by kernel_rfl,Tryz.func304.trans (congrArg some (by kernel_rfl))⟩
 f31 := Tryz.func305.trans (congrArg some (by kernel_rfl))
 f32 := Tryz.func306.trans (congrArg some (by kernel_rfl))
 f33 := ⟨Tryz.f307.name,by kernel_rfl,Tryz.func307.trans (congrArg some (by kernel_rfl))⟩
 f34 := ⟨Tryz.f308.name,by kernel_rfl,Tryz.func308.trans (congrArg some (by kernel_rfl))⟩
 f35 := ⟨Tryz.f156.name,by kernel_rfl,Tryz.func156.trans (congrArg some (by kernel_rfl))⟩
 f40 := ⟨Tryz.f335.name,by kernel_rfl,Tryz.func335.trans (congrArg some (by kernel_rfl))⟩
 t0 := Tryz.underlying0
 a0 := Tryz.isAgg0
 z0 := Tryz.sizeOf0
 v0 := Tryz.zeroValue0
 t3 := Tryz.underlying3
 a3 := Tryz.isAgg3
 z3 := Tryz.sizeOf3
 v3 := Tryz.zeroValue3
 t4 := Tryz.underlying4
 a4 := Tryz.isAgg4
 z4 := Tryz.sizeOf4
 v4 := Tryz.zeroValue4
 t5 := Tryz.underlying5
 a5 := Tryz.isAgg5
 z5 := Tryz.sizeOf5
 v5 := Tryz.zeroValue5
 t9 := Tryz.underlying9
 a9 := Tryz.isAgg9
 z9 := Tryz.sizeOf9
 v9 := Tryz.zeroValue9
 t22 := Tryz.underlying218
 a22 := Tryz.isAgg218
 z22 := Tryz.sizeOf218
 v22 := Tryz.zeroValue218
 t23 := Tryz.underlying218
 a23 := Tryz.isAgg218
 z23 := Tryz.sizeOf218
 v23 := Tryz.zeroValue218
 t25 := Tryz.underlying3
 a25 := Tryz.isAgg3
 z25 := Tryz.sizeOf3
 v25 := Tryz.zeroValue3
 t32 := Tryz.underlying328
 a32 := Tryz.isAgg328
 z32 := Tryz.sizeOf328
 v32 := Tryz.zeroValue328
 t35 := Tryz.underlying394
 a35 := Tryz.isAgg394
 z35 := Tryz.sizeOf394
 v35 := Tryz.zeroValue394
 t36 := Tryz.underlying395
 a36 := Tryz.isAgg395
 z36 := Tryz.sizeOf395
 v36 := Tryz.zeroValue395
 t41 := Tryz.underlying159
 a41 := Tryz.isAgg159
 z41 := Tryz.sizeOf159
 v41 := Tryz.zeroValue159
 t44 := Tryz.underlying33
 a44 := Tryz.isAgg33
 z44 := Tryz.sizeOf33
 v44 := Tryz.zeroValue33
 t46 := Tryz.underlying360
 a46 := Tryz.isAgg360
 z46 := Tryz.sizeOf360
 v46 := Tryz.zeroValue360
 t53 := Tryz.underlying432
 a53 := Tryz.isAgg432
 z53 := Tryz.sizeOf432
 v53 := Tryz.zeroValue432
 t57 := Tryz.underlying436
 a57 := Tryz.isAgg436
 z57 := Tryz.sizeOf436
 v57 := Tryz.zeroValue436
 t63 := Tryz.underlying460
 a63 := Tryz.isAgg460
 z63 := Tryz.sizeOf460
 v63 := Tryz.zeroValue460
 t64 := Tryz.underlying215
 a64 := Tryz.isAgg215
 z64 := Tryz.sizeOf215
 v64 := Tryz.zeroValue215
theorem qa3 (m : Nat) : AnyZI.SortsIn Tryz.prog qab Fence.wide m :=
 ⟨fun blk off cap ss W hH hblk hsz => callsIn_wide.2 (AnyM.slices_Sort_int q84 blk off cap ss W hH hblk hsz),fun p cap W => callsIn_wide.2 (AnyM.slices_Sort_int_none q84 p cap W)⟩
theorem quc (l b nn : Nat) (D0 : DataW Unit) (w : World) (hl : l < w.heap.size) (hc : w.cell? ⟨l,0,none⟩ = some (.map (some b))) (hown : w.ownsMap Tryz.prog 3 (fun _ => some (.nil,[])) b nn D0) (hmax : Maps.size D0 ≤ maxLen) (hbytes : Maps.size D0 * 8 ≤ 140737488355328) :
  Calls Tryz.prog 172 #[.func (.func 214) #[] #[.pointer (some ⟨l,0,none⟩)]] w fun e w' => ∃ (v : Value) (ss : List Int),e = .returned v ∧ ss.Perm (intKeys D0) ∧
   w'.ownsRow w.heap.size 3 1 v ss.length ((ss.mergeSort (fun x y => decide (x ≤ y))).map encZ) ∧ (v = .slice none 0 0 ↔ ss = []) ∧ Below w.heap.size w w' := by
 have hseq : SeqGives Fence.wide 2 Tryz.prog 214 #[.pointer (some ⟨l,0,none⟩)] encZ (fun ss => ss.Perm (intKeys D0)) (Maps.size D0) w :=
  AnyZI.keys_gives (ρ := qa2) { qym with } Fence.wide _ trivial rfl (by omega) l b nn D0 w hl hc hown
 have cS := AnyZI.sorted_in qbo Fence.wide 5 trivial trivial trivial trivial rfl (by omega) (qa3 _) (enters_of Tryz.func213 (by kernel_rfl) rfl) 214 #[.pointer (some ⟨l,0,none⟩)] trivial (enters_of Tryz.func214 (by kernel_rfl) rfl) _ _ hmax hbytes _ hseq
 exact (callsIn_wide (n := 5)).1 cS
theorem que (l b nn : Nat) (D0 : DataW Unit) (w : World) (hl : l < w.heap.size) (hc : w.cell? ⟨l,0,none⟩ = some (.map (some b))) (hown : w.ownsMap Tryz.prog 3 (fun _ => some (.nil,[])) b nn D0) (hmax : Maps.size D0 ≤ maxLen) (hbytes : Maps.size D0 * 8 ≤ 140737488355328) :
  Calls Tryz.prog 172 #[.func (.func 238) #[] #[.pointer (some ⟨l,0,none⟩)]] w fun e w' => ∃ (v : Value) (ss : List Int),e = .returned v ∧ ss.Perm (intKeys D0) ∧
   w'.ownsRow w.heap.size 3 1 v ss.length ((ss.mergeSort (fun x y => decide (x ≤ y))).map encZ) ∧ (v = .slice none 0 0 ↔ ss = []) ∧ Below w.heap.size w w' := by
 have hseq : SeqGives Fence.wide 2 Tryz.prog 238 #[.pointer (some ⟨l,0,none⟩)] encZ (fun ss => ss.Perm (intKeys D0)) (Maps.size D0) w :=
  AnyZI.keys_gives (ρ := qc7) { qoy with } Fence.wide _ trivial rfl (by omega) l b nn D0 w hl hc hown
 have cS := AnyZI.sorted_in qbo Fence.wide 5 trivial trivial trivial trivial rfl (by omega) (qa3 _) (enters_of Tryz.func213 (by kernel_rfl) rfl) 238 #[.pointer (some ⟨l,0,none⟩)] trivial (enters_of Tryz.func238 (by kernel_rfl) rfl) _ _ hmax hbytes _ hseq
 exact (callsIn_wide (n := 5)).1 cS
def spS (args : List AV) (H : Heap) : Option (AV × Heap) := match q5m 214 args H with | some r => some r | none => q5m 238 args H
theorem qyb {args : List AV} {H : Heap} {r : AV} {H' : Heap} (hg : spS args H = some (r,H')) : enters Tryz.prog 172 ∧ mi Tryz.prog 172 args H r H' := by
 unfold spS at hg
 split at hg
 ·rename_i q hq
  cases hg
  exact q9a (kt := 3) Tryz.underlying3 ⟨_,Tryz.func172,by kernel_rfl,by kernel_rfl⟩ quc hq
 ·
  exact q9a (kt := 3) Tryz.underlying3 ⟨_,Tryz.func172,by kernel_rfl,by kernel_rfl⟩ que hg
def ztb : Go.Shelf.Ren := ⟨fun | 129 => 282 | 171 => 186 | 243 => 230 | 246 => 261 | 283 => 298 | 284 => 299 | 285 => 300 | 286 => 301 | 317 => 331 | 318 => 332 | 319 => 333 | 320 => 334 | 337 => 353 | 338 => 354 | n => n,fun | 37 => 118 | 46 => 328 | 51 => 33 | 53 => 360 | 171 => 425 | 173 => 427 | 212 => 458 | 213 => 459 | 232 => 483 | 233 => 484 | n => n,fun | 17 => 1 | 18 => 2 | 19 => 3 | n => n⟩
theorem zd3 : LaysM.n171 Tryz.prog ztb where
 mixed := by kernel_rfl
 f129 := Tryz.func282.trans (congrArg some (by kernel_rfl))
 f171 := Tryz.func186.trans (congrArg some (by kernel_rfl))
 f243 := Tryz.func230.trans (congrArg some (by kernel_rfl))
 f246 := Tryz.func261.trans (congrArg some (by kernel_rfl))
 f283 := Tryz.func298.trans (congrArg some (by kernel_rfl))
 f284 := Tryz.func299.trans (congrArg some (by kernel_rfl))
 f285 := Tryz.func300.trans (congrArg some (by kernel_rfl))
 f286 := Tryz.func301.trans (congrArg some (by kernel_rfl))
 f317 := Tryz.func331.trans (congrArg some (by kernel_rfl))
 f318 := Tryz.func332.trans (congrArg some (by kernel_rfl))
 f319 := Tryz.func333.trans (congrArg some (by kernel_rfl))
 f320 := Tryz.func334.trans (congrArg some (by kernel_rfl))
 f337 := Tryz.func353.trans (congrArg some (by kernel_rfl))
 f338 := Tryz.func354.trans (congrArg some (by kernel_rfl))
 t0 := Tryz.underlying0
 a0 := Tryz.isAgg0
 z0 := Tryz.sizeOf0
 v0 := Tryz.zeroValue0
 t2 := Tryz.underlying2
 a2 := Tryz.isAgg2
 z2 := Tryz.sizeOf2
 v2 := Tryz.zeroValue2
 t3 := Tryz.underlying3
 a3 := Tryz.isAgg3
 z3 := Tryz.sizeOf3
 v3 := Tryz.zeroValue3
 t4 := Tryz.underlying4
 a4 := Tryz.isAgg4
 z4 := Tryz.sizeOf4
 v4 := Tryz.zeroValue4
 t5 := Tryz.underlying5
 a5 := Tryz.isAgg5
 z5 := Tryz.sizeOf5
 v5 := Tryz.zeroValue5
 t9 := Tryz.underlying9
 a9 := Tryz.isAgg9
 z9 := Tryz.sizeOf9
 v9 := Tryz.zeroValue9
 t20 := Tryz.underlying20
 a20 := Tryz.isAgg20
 z20 := Tryz.sizeOf20
 v20 := Tryz.zeroValue20
 t37 := Tryz.underlying118
 a37 := Tryz.isAgg118
 z37 := Tryz.sizeOf118
 v37 := Tryz.zeroValue118
 t46 := Tryz.underlying328
 a46 := Tryz.isAgg328
 z46 := Tryz.sizeOf328
 v46 := Tryz.zeroValue328
 t51 := Tryz.underlying33
 a51 := Tryz.isAgg33
 z51 := Tryz.sizeOf33
 v51 := Tryz.zeroValue33
 t53 := Tryz.underlying360
 a53 := Tryz.isAgg360
 z53 := Tryz.sizeOf360
 v53 := Tryz.zeroValue360
 t171 := Tryz.underlying425
 a171 := Tryz.isAgg425
 z171 := Tryz.sizeOf425
 v171 := Tryz.zeroValue425
 t173 := Tryz.underlying427
 a173 := Tryz.isAgg427
 z173 := Tryz.sizeOf427
 v173 := Tryz.zeroValue427
 t212 := Tryz.underlying458
 a212 := Tryz.isAgg458
 z212 := Tryz.sizeOf458
 v212 := Tryz.zeroValue458
 t213 := Tryz.underlying459
 a213 := Tryz.isAgg459
 z213 := Tryz.sizeOf459
 t232 := Tryz.underlying483
 a232 := Tryz.isAgg483
 z232 := Tryz.sizeOf483
 v232 := Tryz.zeroValue483
 t233 := Tryz.underlying484
 a233 := Tryz.isAgg484
 z233 := Tryz.sizeOf484
 v233 := Tryz.zeroValue484
 g17 := by kernel_rfl
 g18 := by kernel_rfl
 g19 := by kernel_rfl
 i0 := by kernel_rfl
 i2 := by kernel_rfl
 i3 := by kernel_rfl
 i4 := by kernel_rfl
 i5 := by kernel_rfl
 i9 := by kernel_rfl
 i20 := by kernel_rfl
 i37 := by kernel_rfl
 i46 := by kernel_rfl
 i51 := by kernel_rfl
 i53 := by kernel_rfl
 i171 := by kernel_rfl
 i173 := by kernel_rfl
 i212 := by kernel_rfl
 i232 := by kernel_rfl
 i233 := by kernel_rfl
 m17 := by kernel_rfl
 m18 := by kernel_rfl
 m19 := by kernel_rfl
def qbt : Go.Shelf.Ren := ⟨fun | 240 => 289 | 276 => 319 | n => n,fun | 37 => 118 | 70 => 375 | 72 => 377 | 164 => 443 | n => n,fun n => n⟩
theorem q8e : Lays.n240 Tryz.prog qbt where
 mixed := by kernel_rfl
 f240 := Tryz.func289.trans (congrArg some (by kernel_rfl))
 f276 := Tryz.func319.trans (congrArg some (by kernel_rfl))
 t0 := Tryz.underlying0
 a0 := Tryz.isAgg0
 z0 := Tryz.sizeOf0
 v0 := Tryz.zeroValue0
 t4 := Tryz.underlying4
 a4 := Tryz.isAgg4
 z4 := Tryz.sizeOf4
 v4 := Tryz.zeroValue4
 t9 := Tryz.underlying9
 a9 := Tryz.isAgg9
 z9 := Tryz.sizeOf9
 v9 := Tryz.zeroValue9
 t20 := Tryz.underlying20
 a20 := Tryz.isAgg20
 z20 := Tryz.sizeOf20
 v20 := Tryz.zeroValue20
 t70 := Tryz.underlying375
 a70 := Tryz.isAgg375
 z70 := Tryz.sizeOf375
 v70 := Tryz.zeroValue375
 t72 := Tryz.underlying377
 a72 := Tryz.isAgg377
 z72 := Tryz.sizeOf377
 v72 := Tryz.zeroValue377
 t164 := Tryz.underlying443
 a164 := Tryz.isAgg443
 z164 := Tryz.sizeOf443
 v164 := Tryz.zeroValue443
theorem q88 : Builder.X72 Tryz.prog qbt := ⟨by kernel_rfl,by kernel_rfl⟩
theorem zrf {args : List AV} {H : Heap} {r : AV} {H' : Heap} (hg : q5h 377 args H = some (r,H')) : enters Tryz.prog 289 ∧ mi Tryz.prog 289 args H r H' :=
 qyc ⟨_,Tryz.func289,by kernel_rfl,by kernel_rfl⟩ (fun b w h => Any.Builder_copyCheck_used q8e q88 b w h) (fun b w h1 h2 h3 => Any.Builder_copyCheck_fresh q8e q88 b w h1 h2 h3) hg
theorem zfc {args : List AV} {H : Heap} {r : AV} {H' : Heap} (hg : q5t args H = some (r,H')) : enters Tryz.prog 186 ∧ mi Tryz.prog 186 args H r H' :=
 qgv ⟨_,Tryz.func186,by kernel_rfl,by kernel_rfl⟩ (fun n h0 h1 w hw => Any.strconv_Itoa zd3 n h0 h1 w hw) hg
def S : Special := ⟨fun f => if f = 172 then some spS else if f = 289 then some (q5h 377) else if f = 186 then some q5t else none⟩
theorem qdl : q5l Tryz.prog S := fun f g h args H r H' hg => by
 simp only [S] at h
 split at h
 ·rename_i hf
  subst hf
  cases h
  exact qyb hg
 split at h
 ·rename_i hf
  subst hf
  cases h
  exact zrf hg
 split at h
 ·rename_i hf
  subst hf
  cases h
  exact zfc hg
 cases h
noncomputable abbrev O : qw := omega G S
end Go.Proofs.YtllckneefjgafaaGreatDoor
