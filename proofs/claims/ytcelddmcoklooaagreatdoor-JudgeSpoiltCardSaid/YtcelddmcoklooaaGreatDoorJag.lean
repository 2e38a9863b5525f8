/-
  The machine of this program: what it knows of calls that it does not run.
-/
import Derived.Test.YtcelddmcoklooaaGreatDoorJae
import Derived.Shelf.SlIterI.Nil
import Derived.Shelf.SortM.Plain
import Derived.Shelf.SortM.SortNone
import Derived.Shelf.Lays
import Derived.Shelf.Strings.Builder1
import Derived.Shelf.Strings.BuilderX
import Derived.Shelf.LaysM
import Derived.Shelf.Strconv.Itoa3
import Derived.Test.YtcelddmcoklooaaGreatDoorJaf
set_option linter.unusedSimpArgs false
set_option linter.unusedVariables false
namespace Go.Proofs.YtcelddmcoklooaaGreatDoor
open Go Go.Gm Go.RowKit Go.Maps Go.Sort Go.Shelf
def q6a : String := ((Rows.judgeSpoiltRow.laid[2]?).map (fun x => x.1)).getD default
theorem qax : Tryz.prog.globalNamed q6a = some 1 := by kernel_rfl
instance globs : Globs where
 ok w := Go.Lib.TabIs Tryz.prog w q6a .u64 Go.Lib.pow10Tab
 on b := b = 1
 frame := fun {w w'} h hk => by
  unfold Go.Lib.TabIs World.var? at h ⊢
  rw [qax] at h ⊢
  simp only [Option.bind_some] at h ⊢
  rw [hk 1 rfl]
  exact h
theorem qiu {W : World} (h : Go.Lib.TabIs Tryz.prog W q6a .u64 Go.Lib.pow10Tab) : ∀ b,b = 1 → b < W.heap.size := by
 rintro b rfl
 unfold Go.Lib.TabIs World.var? at h
 rw [qax] at h
 simp only [Option.bind_some] at h
 rcases Nat.lt_or_ge 1 W.heap.size with h1 | h1
 ·exact h1
 ·rw [Array.getElem?_eq_none h1] at h
  cases h
def qc0 : Go.Shelf.Ren := ⟨fun | 7 => 39 | 10 => 77 | n => n,fun | 23 => 104 | 26 => 3 | 27 => 106 | 28 => 107 | 33 => 161 | n => n,fun n => n⟩
theorem zfd : SlLaysZI.n7 Tryz.prog qc0 where
 mixed := by kernel_rfl
 f7 := ⟨Tryz.f39.name,by kernel_rfl,Tryz.func39.trans (congrArg some (by kernel_rfl))⟩
 f10 := ⟨Tryz.f77.name,by kernel_rfl,Tryz.func77.trans (congrArg some (by kernel_rfl))⟩
 t0 := Tryz.underlying0
 a0 := Tryz.isAgg0
 z0 := Tryz.sizeOf0
 v0 := Tryz.zeroValue0
 t4 := Tryz.underlying4
 a4 := Tryz.isAgg4
 z4 := Tryz.sizeOf4
 v4 := Tryz.zeroValue4
 t23 := Tryz.underlying104
 a23 := Tryz.isAgg104
 z23 := Tryz.sizeOf104
 v23 := Tryz.zeroValue104
 t26 := Tryz.underlying3
 a26 := Tryz.isAgg3
 z26 := Tryz.sizeOf3
 v26 := Tryz.zeroValue3
 t27 := Tryz.underlying106
 a27 := Tryz.isAgg106
 z27 := Tryz.sizeOf106
 v27 := Tryz.zeroValue106
 t28 := Tryz.underlying107
 a28 := Tryz.isAgg107
 z28 := Tryz.sizeOf107
 v28 := Tryz.zeroValue107
 t33 := Tryz.underlying161
 a33 := Tryz.isAgg161
 z33 := Tryz.sizeOf161
 v33 := Tryz.zeroValue161
def qdz : Go.Shelf.Ren := ⟨fun | 7 => 290 | 10 => 330 | n => n,fun | 3 => 355 | 23 => 260 | 26 => 3 | 27 => 106 | 28 => 107 | 33 => 161 | n => n,fun n => n⟩
theorem qli : SlLaysZI.n7 Tryz.prog qdz where
 mixed := by kernel_rfl
 f7 := ⟨Tryz.f290.name,by kernel_rfl,Tryz.func290.trans (congrArg some (by kernel_rfl))⟩
 f10 := ⟨Tryz.f330.name,by kernel_rfl,Tryz.func330.trans (congrArg some (by kernel_rfl))⟩
 t0 := Tryz.underlying0
 a0 := Tryz.isAgg0
 z0 := Tryz.sizeOf0
 v0 := Tryz.zeroValue0
 t4 := Tryz.underlying4
 a4 := Tryz.isAgg4
 z4 := Tryz.sizeOf4
 v4 := Tryz.zeroValue4
 t23 := Tryz.underlying260
 a23 := Tryz.isAgg260
 z23 := Tryz.sizeOf260
 v23 := Tryz.zeroValue260
 t26 := Tryz.underlying3
 a26 := Tryz.isAgg3
 z26 := Tryz.sizeOf3
 v26 := Tryz.zeroValue3
 t27 := Tryz.underlying106
 a27 := Tryz.isAgg106
 z27 := Tryz.sizeOf106
 v27 := Tryz.zeroValue106
 t28 := Tryz.underlying107
 a28 := Tryz.isAgg107
 z28 := Tryz.sizeOf107
 v28 := Tryz.zeroValue107
 t33 := Tryz.underlying161
 a33 := Tryz.isAgg161
 z33 := Tryz.sizeOf161
 v33 := Tryz.zeroValue161
def qem : Go.Shelf.Ren := ⟨fun | 6 => 38 | 8 => 75 | 9 => 76 | 11 => 120 | 12 => 121 | 13 => 122 | 14 => 179 | 15 => 180 | 16 => 181 | 17 => 182 | 18 => 183 | 19 => 184 | 20 => 185 | 21 => 186 | 22 => 187 | 23 => 188 | 24 => 189 | 25 => 254 | 26 => 255 | 27 => 256 | 28 => 257 | 29 => 258 | 30 => 168 | 31 => 306 | n => n,fun | 24 => 69 | 26 => 3 | 28 => 107 | 33 => 161 | 37 => 72 | 39 => 290 | 40 => 291 | 45 => 145 | 48 => 60 | 50 => 299 | 51 => 372 | 55 => 367 | 57 => 432 | 58 => 325 | n => n,fun n => n⟩
theorem qdy : SlLaysZI.n6 Tryz.prog qem where
 mixed := by kernel_rfl
 f6 := ⟨Tryz.f38.name,by kernel_rfl,Tryz.func38.trans (congrArg some (by kernel_rfl))⟩
 f8 := ⟨Tryz.f75.name,by kernel_rfl,Tryz.func75.trans (congrArg some (by kernel_rfl))⟩
 f11 := ⟨Tryz.f120.name,by kernel_rfl,Tryz.func120.trans (congrArg some (by kernel_rfl))⟩
 t0 := Tryz.underlying0
 a0 := Tryz.isAgg0
 z0 := Tryz.sizeOf0
 v0 := Tryz.zeroValue0
 t24 := Tryz.underlying69
 a24 := Tryz.isAgg69
 z24 := Tryz.sizeOf69
 v24 := Tryz.zeroValue69
 t26 := Tryz.underlying3
 a26 := Tryz.isAgg3
 z26 := Tryz.sizeOf3
 v26 := Tryz.zeroValue3
 t28 := Tryz.underlying107
 a28 := Tryz.isAgg107
 z28 := Tryz.sizeOf107
 v28 := Tryz.zeroValue107
 i26 := by kernel_rfl
def z92 : Go.Shelf.Ren := ⟨fun | 5 => 76 | 7 => 121 | 8 => 122 | 10 => 179 | 11 => 180 | 12 => 181 | 13 => 182 | 14 => 183 | 15 => 184 | 16 => 185 | 17 => 186 | 18 => 187 | 19 => 188 | 20 => 189 | 30 => 254 | 31 => 255 | 32 => 256 | 33 => 257 | 34 => 258 | 35 => 168 | 40 => 306 | n => n,fun | 22 => 69 | 23 => 69 | 25 => 3 | 32 => 72 | 35 => 290 | 36 => 291 | 41 => 145 | 44 => 60 | 46 => 299 | 53 => 372 | 57 => 367 | 63 => 432 | 64 => 325 | n => n,fun n => n⟩
theorem qdu : SlLaysM.n5 Tryz.prog z92 where
 mixed := by kernel_rfl
 f5 := ⟨Tryz.f76.name,by kernel_rfl,Tryz.func76.trans (congrArg some (by kernel_rfl))⟩
 f7 := ⟨Tryz.f121.name,by kernel_rfl,Tryz.func121.trans (congrArg some (by kernel_rfl))⟩
 f8 := Tryz.func122.trans (congrArg some (by kernel_rfl))
 f10 := ⟨Tryz.f179.name,by kernel_rfl,Tryz.func179.trans (congrArg some (by kernel_rfl))⟩
 f11 := ⟨Tryz.f180.name,by kernel_rfl,Tryz.func180.trans (congrArg some (by kernel_rfl))⟩
 f12 := ⟨Tryz.f181.name,by kernel_rfl,Tryz.func181.trans (congrArg some (by kernel_rfl))⟩
 f13 := ⟨Tryz.f182.name,by kernel_rfl,Tryz.func182.trans (congrArg some (by kernel_rfl))⟩
 f14 := ⟨Tryz.f183.name,by kernel_rfl,Tryz.func183.trans (congrArg some (by kernel_rfl))⟩
 f15 := ⟨Tryz.f184.name,by kernel_rfl,Tryz.func184.trans (congrArg some (by kernel_rfl))⟩
 f16 := ⟨Tryz.f185.name,by kernel_rfl,Tryz.func185.trans (congrArg some (by kernel_rfl))⟩
 f17 := ⟨Tryz.f186.name,by kernel_rfl,Tryz.func186.trans (congrArg some (by kernel_rfl))⟩
 f18 := ⟨Tryz.f187.name,by kernel_rfl,Tryz.func187.trans (congrArg some (by kernel_rfl))⟩
 f19 := Tryz.func188.trans (congrArg some (by kernel_rfl))
 f20 := Tryz.func189.trans (congrArg some (by kernel_rfl))
 f30 := ⟨Tryz.f254.name,by kernel_rfl,Tryz.func254.trans (congrArg some (by kernel_rfl))⟩
 f31 := Tryz.func255.trans (congrArg some (by kernel_rfl))
 f32 := Tryz.func256.trans (congrArg some (by kernel_rfl))
 f33 := ⟨Tryz.f257.name,by kernel_rfl,Tryz.func257.trans (congrArg some (by kernel_rfl))⟩
 f34 := ⟨Tryz.f258.name,by kernel_rfl,Tryz.func258.trans (congrArg some (by kernel_rfl))⟩
 f35 := ⟨Tryz.f168.name,by kernel_rfl,Tryz.func168.trans (congrArg some (by kernel_rfl))⟩
 f40 := ⟨Tryz.f306.name,by kernel_rfl,Tryz.func306.trans (congrArg some (by kernel_rfl))⟩
 t0 := Tryz.underlying0
 a0 := Tryz.isAgg0
 z0 := Tryz.sizeOf0
 v0 := Tryz.zeroValue0
 t3 := Tryz.underlying3
 a3 := Tryz.isAgg3
 z3 := Tryz.sizeOf3
 v3 := Tryz.zeroValue3
 t4 := Tryz.underlying4
 a4 := Tryz.isAgg4
 z4 := Tryz.sizeOf4
 v4 := Tryz.zeroValue4
 t5 := Tryz.underlying5
 a5 := Tryz.isAgg5
 z5 := Tryz.sizeOf5
 v5 := Tryz.zeroValue5
 t9 := Tryz.underlying9
 a9 := Tryz.isAgg9
 z9 := Tryz.sizeOf9
 v9 := Tryz.zeroValue9
 t22 := Tryz.underlying69
 a22 := Tryz.isAgg69
 z22 := Tryz.sizeOf69
 v22 := Tryz.zeroValue69
 t23 := Tryz.underlying69
 a23 := Tryz.isAgg69
 z23 := Tryz.sizeOf69
 v23 := Tryz.zeroValue69
 t25 := Tryz.underlying3
 a25 := Tryz.isAgg3
 z25 := Tryz.sizeOf3
 v25 := Tryz.zeroValue3
 t32 := Tryz.underlying72
 a32 := Tryz.isAgg72
 z32 := Tryz.sizeOf72
 v32 := Tryz.zeroValue72
 t35 := Tryz.underlying290
 a35 := Tryz.isAgg290
 z35 := Tryz.sizeOf290
 v35 := Tryz.zeroValue290
 t36 := Tryz.underlying291
 a36 := Tryz.isAgg291
 z36 := Tryz.sizeOf291
 v36 := Tryz.zeroValue291
 t41 := Tryz.underlying145
 a41 := Tryz.isAgg145
 z41 := Tryz.sizeOf145
 v41 := Tryz.zeroValue145
 t44 := Tryz.underlying60
 a44 := Tryz.isAgg60
 z44 := Tryz.sizeOf60
 v44 := Tryz.zeroValue60
 t46 := Tryz.underlying299
 a46 := Tryz.isAgg299
 z46 := Tryz.sizeOf299
 v46 := Tryz.zeroValue299
 t53 := Tryz.underlying372
 a53 := Tryz.isAgg372
 z53 := Tryz.sizeOf372
 v53 := Tryz.zeroValue372
 t57 := Tryz.underlying367
 a57 := Tryz.isAgg367
 z57 := Tryz.sizeOf367
 v57 := Tryz.zeroValue367
 t63 := Tryz.underlying432
 a63 := Tryz.isAgg432
 z63 := Tryz.sizeOf432
 v63 := Tryz.zeroValue432
 t64 := Tryz.underlying325
 a64 := Tryz.isAgg325
 z64 := Tryz.sizeOf325
 v64 := Tryz.zeroValue325
theorem qc9 (m : Nat) : AnyZI.SortsIn Tryz.prog qem Fence.wide m :=
 ⟨fun blk off cap ss W hH hblk hsz => callsIn_wide.2 (AnyM.slices_Sort_int qdu blk off cap ss W hH hblk hsz),fun p cap W => callsIn_wide.2 (AnyM.slices_Sort_int_none qdu p cap W)⟩
theorem x5w (l b nn : Nat) (D0 : DataW Unit) (w : World) (hl : l < w.heap.size) (hc : w.cell? ⟨l,0,none⟩ = some (.map (some b))) (hown : w.ownsMap Tryz.prog 3 (fun _ => some (.nil,[])) b nn D0) (hmax : Maps.size D0 ≤ maxLen) (hbytes : Maps.size D0 * 8 ≤ 140737488355328) :
  Calls Tryz.prog 38 #[.func (.func 77) #[] #[.pointer (some ⟨l,0,none⟩)]] w fun e w' => ∃ (v : Value) (ss : List Int),e = .returned v ∧ ss.Perm (intKeys D0) ∧
   w'.ownsRow w.heap.size 3 1 v ss.length ((ss.mergeSort (fun x y => decide (x ≤ y))).map encZ) ∧ (v = .slice none 0 0 ↔ ss = []) ∧ Below w.heap.size w w' := by
 have hseq : SeqGives Fence.wide 2 Tryz.prog 77 #[.pointer (some ⟨l,0,none⟩)] encZ (fun ss => ss.Perm (intKeys D0)) (Maps.size D0) w :=
  AnyZI.keys_gives (ρ := qc0) { zfd with } Fence.wide _ trivial rfl (by omega) l b nn D0 w hl hc hown
 have cS := AnyZI.sorted_in qdy Fence.wide 5 trivial trivial trivial trivial rfl (by omega) (qc9 _) (enters_of Tryz.func76 (by kernel_rfl) rfl) 77 #[.pointer (some ⟨l,0,none⟩)] trivial (enters_of Tryz.func77 (by kernel_rfl) rfl) _ _ hmax hbytes _ hseq
 exact (callsIn_wide (n := 5)).1 cS
theorem z3d (l b nn : Nat) (D0 : DataW Unit) (w : World) (hl : l < w.heap.size) (hc : w.cell? ⟨l,0,none⟩ = some (.map (some b))) (hown : w.ownsMap Tryz.prog 3 (fun _ => some (.nil,[])) b nn D0) (hmax : Maps.size D0 ≤ maxLen) (hbytes : Maps.size D0 * 8 ≤ 140737488355328) :
  Calls Tryz.prog 38 #[.func (.func 330) #[] #[.pointer (some ⟨l,0,none⟩)]] w fun e w' => ∃ (v : Value) (ss : List Int),e = .returned v ∧ ss.Perm (intKeys D0) ∧
   w'.ownsRow w.heap.size 3 1 v ss.length ((ss.mergeSort (fun x y => decide (x ≤ y))).map encZ) ∧ (v = .slice none 0 0 ↔ ss = []) ∧ Below w.heap.size w w' := by
 have hseq : SeqGives Fence.wide 2 Tryz.prog 330 #[.pointer (some ⟨l,0,none⟩)] encZ (fun ss => ss.Perm (intKeys D0)) (Maps.size D0) w :=
  AnyZI.keys_gives (ρ := qdz) { qli with } Fence.wide _ trivial rfl (by omega) l b nn D0 w hl hc hown
 have cS := AnyZI.sorted_in qdy Fence.wide 5 trivial trivial trivial trivial rfl (by omega) (qc9 _) (enters_of Tryz.func76 (by kernel_rfl) rfl) 330 #[.pointer (some ⟨l,0,none⟩)] trivial (enters_of Tryz.func330 (by kernel_rfl) rfl) _ _ hmax hbytes _ hseq
 exact (callsIn_wide (n := 5)).1 cS
def spS (args : List AV) (H : Heap) : Option (AV × Heap) := match q50 77 args H with | some r => some r | none => q50 330 args H
theorem zb8 {args : List AV} {H : Heap} {r : AV} {H' : Heap} (hg : spS args H = some (r,H')) : enters Tryz.prog 38 ∧ pq Tryz.prog 38 args H r H' := by
 unfold spS at hg
 split at hg
 ·rename_i q hq
  cases hg
  exact qfu (kt := 3) Tryz.underlying3 ⟨_,Tryz.func38,by kernel_rfl,by kernel_rfl⟩ x5w hq
 ·
  exact qfu (kt := 3) Tryz.underlying3 ⟨_,Tryz.func38,by kernel_rfl,by kernel_rfl⟩ z3d hg
def qzt : Go.Shelf.Ren := ⟨fun | 129 => 189 | 171 => 280 | 243 => 322 | 246 => 352 | 283 => 372 | 284 => 373 | 285 => 374 | 286 => 375 | 317 => 385 | 318 => 386 | 319 => 387 | 320 => 388 | 337 => 395 | 338 => 396 | n => n,fun | 37 => 49 | 46 => 72 | 51 => 60 | 53 => 299 | 171 => 484 | 173 => 486 | 212 => 502 | 213 => 503 | 232 => 514 | 233 => 515 | n => n,fun | 17 => 1 | 18 => 2 | 19 => 3 | n => n⟩
theorem x3o : LaysM.n171 Tryz.prog qzt where
 mixed := by kernel_rfl
 f129 := Tryz.func189.trans (congrArg some (by kernel_rfl))
 f171 := Tryz.func280.trans (congrArg some (by kernel_rfl))
 f243 := Tryz.func322.trans (congrArg some (by kernel_rfl))
 f246 := Tryz.func352.trans (congrArg some (by kernel_rfl))
 f283 := Tryz.func372.trans (congrArg some (by kernel_rfl))
 f284 := Tryz.func373.trans (congrArg some (by kernel_rfl))
 f285 := Tryz.func374.trans (congrArg some (by kernel_rfl))
 f286 := Tryz.func375.trans (congrArg some (by kernel_rfl))
 f317 := Tryz.func385.trans (congrArg some (by kernel_rfl))
 f318 := Tryz.func386.trans (congrArg some (by kernel_rfl))
 f319 := Tryz.func387.trans (congrArg some (by kernel_rfl))
 f320 := Tryz.func388.trans (congrArg some (by kernel_rfl))
 f337 := Tryz.func395.trans (congrArg some (by kernel_rfl))
 f338 := Tryz.func396.trans (congrArg some (by kernel_rfl))
 t0 := Tryz.underlying0
 a0 := Tryz.isAgg0
 z0 := Tryz.sizeOf0
 v0 := Tryz.zeroValue0
 t2 := Tryz.underlying2
 a2 := Tryz.isAgg2
 z2 := Tryz.sizeOf2
 v2 := Tryz.zeroValue2
 t3 := Tryz.underlying3
 a3 := Tryz.isAgg3
 z3 := Tryz.sizeOf3
 v3 := Tryz.zeroValue3
 t4 := Tryz.underlying4
 a4 := Tryz.isAgg4
 z4 := Tryz.sizeOf4
 v4 := Tryz.zeroValue4
 t5 := Tryz.underlying5
 a5 := Tryz.isAgg5
 z5 := Tryz.sizeOf5
 v5 := Tryz.zeroValue5
 t9 := Tryz.underlying9
 a9 := Tryz.isAgg9
 z9 := Tryz.sizeOf9
 v9 := Tryz.zeroValue9
 t20 := Tryz.underlying20
 a20 := Tryz.isAgg20
 z20 := Tryz.sizeOf20
 v20 := Tryz.zeroValue20
 t37 := Tryz.underlying49
 a37 := Tryz.isAgg49
 z37 := Tryz.sizeOf49
 v37 := Tryz.zeroValue49
 t46 := Tryz.underlying72
 a46 := Tryz.isAgg72
 z46 := Tryz.sizeOf72
 v46 := Tryz.zeroValue72
 t51 := Tryz.underlying60
 a51 := Tryz.isAgg60
 z51 := Tryz.sizeOf60
 v51 := Tryz.zeroValue60
 t53 := Tryz.underlying299
 a53 := Tryz.isAgg299
 z53 := Tryz.sizeOf299
 v53 := Tryz.zeroValue299
 t171 := Tryz.underlying484
 a171 := Tryz.isAgg484
 z171 := Tryz.sizeOf484
 v171 := Tryz.zeroValue484
 t173 := Tryz.underlying486
 a173 := Tryz.isAgg486
 z173 := Tryz.sizeOf486
 v173 := Tryz.zeroValue486
 t212 := Tryz.underlying502
 a212 := Tryz.isAgg502
 z212 := Tryz.sizeOf502
 v212 := Tryz.zeroValue502
 t213 := Tryz.underlying503
 a213 := Tryz.isAgg503
 z213 := Tryz.sizeOf503
 t232 := Tryz.underlying514
 a232 := Tryz.isAgg514
 z232 := Tryz.sizeOf514
 v232 := Tryz.zeroValue514
 t233 := Tryz.underlying515
 a233 := Tryz.isAgg515
 z233 := Tryz.sizeOf515
 v233 := Tryz.zeroValue515
 g17 := by kernel_rfl
 g18 := by kernel_rfl
 g19 := by kernel_rfl
 i0 := by kernel_rfl
 i2 := by kernel_rfl
 i3 := by kernel_rfl
 i4 := by kernel_rfl
 i5 := by kernel_rfl
 i9 := by kernel_rfl
 i20 := by kernel_rfl
 i37 := by kernel_rfl
 i46 := by kernel_rfl
 i51 := by kernel_rfl
 i53 := by kernel_rfl
 i171 := by kernel_rfl
 i173 := by kernel_rfl
 i212 := by kernel_rfl
 i232 := by kernel_rfl
 i233 := by kernel_rfl
 m17 := by kernel_rfl
 m18 := by kernel_rfl
 m19 := by kernel_rfl
def qgl : Go.Shelf.Ren := ⟨fun | 240 => 175 | 276 => 250 | n => n,fun | 37 => 49 | 70 => 209 | 72 => 211 | 164 => 369 | n => n,fun n => n⟩
theorem qbc : Lays.n240 Tryz.prog qgl where
 mixed := by kernel_rfl
 f240 := Tryz.func175.trans (congrArg some (by kernel_rfl))
 f276 := Tryz.func250.trans (congrArg some (by kernel_rfl))
 t0 := Tryz.underlying0
 a0 := Tryz.isAgg0
 z0 := Tryz.sizeOf0
 v0 := Tryz.zeroValue0
 t4 := Tryz.underlying4
 a4 := Tryz.isAgg4
 z4 := Tryz.sizeOf4
 v4 := Tryz.zeroValue4
 t9 := Tryz.underlying9
 a9 := Tryz.isAgg9
 z9 := Tryz.sizeOf9
 v9 := Tryz.zeroValue9
 t20 := Tryz.underlying20
 a20 := Tryz.isAgg20
 z20 := Tryz.sizeOf20
 v20 := Tryz.zeroValue20
 t70 := Tryz.underlying209
 a70 := Tryz.isAgg209
 z70 := Tryz.sizeOf209
 v70 := Tryz.zeroValue209
 t72 := Tryz.underlying211
 a72 := Tryz.isAgg211
 z72 := Tryz.sizeOf211
 v72 := Tryz.zeroValue211
 t164 := Tryz.underlying369
 a164 := Tryz.isAgg369
 z164 := Tryz.sizeOf369
 v164 := Tryz.zeroValue369
theorem qd8 : Builder.X72 Tryz.prog qgl := ⟨by kernel_rfl,by kernel_rfl⟩
theorem zz2 {args : List AV} {H : Heap} {r : AV} {H' : Heap} (hg : q78 211 args H = some (r,H')) : enters Tryz.prog 175 ∧ pq Tryz.prog 175 args H r H' :=
 qmv ⟨_,Tryz.func175,by kernel_rfl,by kernel_rfl⟩ (fun b w h => Any.Builder_copyCheck_used qbc qd8 b w h) (fun b w h1 h2 h3 => Any.Builder_copyCheck_fresh qbc qd8 b w h1 h2 h3) hg
theorem zas {args : List AV} {H : Heap} {r : AV} {H' : Heap} (hg : q7n args H = some (r,H')) : enters Tryz.prog 280 ∧ pq Tryz.prog 280 args H r H' :=
 qmj ⟨_,Tryz.func280,by kernel_rfl,by kernel_rfl⟩ (fun n h0 h1 w hw => Any.strconv_Itoa x3o n h0 h1 w hw) hg
def S : Special := ⟨fun f => if f = 38 then some spS else if f = 175 then some (q78 211) else if f = 280 then some q7n else none⟩
theorem zm6 : q7b Tryz.prog S := fun f g h args H r H' hg => by
 simp only [S] at h
 split at h
 ·rename_i hf
  subst hf
  cases h
  exact zb8 hg
 split at h
 ·rename_i hf
  subst hf
  cases h
  exact zz2 hg
 split at h
 ·rename_i hf
  subst hf
  cases h
  exact zas hg
 cases h
noncomputable abbrev O : qx := omega G S
theorem zsd {m : xk} {r : List Int} (h : q7z m = some r) :
  O.call 38 [.clo 77 [] [.ptr 0 0]] [(0,.box [.map 1]),(1,.map (List.map xh m.es) m.clock)] = some (.row 2 r.length 0 r.length,[(0,.box [.map 1]),(1,.map (List.map xh m.es) m.clock),(2,.row r.isEmpty (szc 1 r) (List.map zn r))]) :=
 (zjd (S := S) (g := spS) rfl _ _).trans (by unfold spS; rw [qmh h 77])
end Go.Proofs.YtcelddmcoklooaaGreatDoor
