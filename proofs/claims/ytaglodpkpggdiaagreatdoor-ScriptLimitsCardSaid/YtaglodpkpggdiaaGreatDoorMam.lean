/-
  What the machine's calls come to: the plain functions.
-/
import Derived.Test.YtaglodpkpggdiaaGreatDoorMaj
import Derived.Test.YtaglodpkpggdiaaGreatDoorMak
import Derived.Test.YtaglodpkpggdiaaGreatDoorMal
set_option linter.unusedSimpArgs false
set_option linter.unusedVariables false
set_option maxRecDepth 100000
namespace Go.Proofs.YtaglodpkpggdiaaGreatDoor
open Go Go.Gm
set_option maxHeartbeats 4000000
theorem qjs {many long r} (h : q7k many long = some r) : O.call 5 [v_i many,v_i long] [] = some (v_b r,[]) := by
 revert h; unfold q7k
 refine bs fun v2 h1 => ?_
 have f1 := q9y h1
 try simp only [en.down] at f1
 refine bs fun v4 h3 => ?_
 have f2 := zo4 _ _ h3
 try simp only [en.down,UInt8.reduceToNat] at f2
 refine bs fun v6 h5 => ?_
 have f3 := q98 h5
 try simp only [en.down] at f3
 refine bs fun v8 h7 => ?_
 have f4 := qai h7
 try simp only [en.down] at f4
 apply it <;> intro h9
 ·refine qvv ?_ (fun h10 h11 h12 h13 h14 => ?_)
  ·rintro (⟨h10,h11,h12,h13,h14⟩ | ⟨h10,h11,h12,h13,h14⟩ | ⟨h10,h11,h12,h13,h14⟩ | ⟨h10,h11,h12,h13,h14⟩ | ⟨h10,h11,h12,h13,h14⟩)
   all_goals
   rintro ⟨⟩
   exact fF fn5
  refine bs fun v16 h15 => ?_
  have f5 := qdj _ _ h15
  try simp only [en.down,UInt8.reduceToNat] at f5
  refine bs fun v18 h17 => ?_
  have f6 := q9y h17
  try simp only [en.down] at f6
  refine bTs fun r20 h19 f7 f8 f9 => ?_
  refine bs fun v22 h21 => ?_
  have f10 := q98 h21
  try simp only [en.down] at f10
  refine bs fun v24 h23 => ?_
  have f11 := qea h23
  try simp only [en.down] at f11
  refine gd fun h25 => ?_
  have f12 : (10 + v24.length ≤ 2 ^ 62) = True := eq_true h25
  refine gd fun h26 => ?_
  have f13 : ((([100,105,99,101,10,116,121,112,101,32] : Bytes) ++ v24).length + 1 ≤ 2 ^ 62) = True := eq_true h26
  try simp only [en.down] at f13
  refine gd fun h27 => ?_
  have f14 := eq_true h27
  try simp only [en.down] at f14
  refine gd fun h28 => ?_
  have f15 : ((((([100,105,99,101,10,116,121,112,101,32] : Bytes) ++ v24) ++ ([58] : Bytes)) ++ r20).length + 1 ≤ 2 ^ 62) = True := eq_true h28
  try simp only [en.down] at f15
  refine bs fun v30 h29 => ?_
  have f16 := qai h29
  have f16b := f16
  try simp only [en.down] at f16b
  try simp only [en.down,UInt8.reduceToNat] at f16
  apply it <;> intro h31
  ·refine qae (fun h32 h33 h34 h35 h36 => ?_) ?_
   ·refine bs fun v38 h37 => ?_
    have f17 := q8b h37
    try simp only [en.down] at f17
    rintro ⟨⟩
    exact fF fn5
   rintro (⟨h32,h33,h34,h35,h36⟩ | ⟨h32,h33,h34,h35,h36⟩ | ⟨h32,h33,h34,h35,h36⟩ | ⟨h32,h33,h34,h35,h36⟩ | ⟨h32,h33,h34,h35,h36⟩)
   all_goals
   rintro ⟨⟩
   exact fF fn5
  refine qeb (fun h39 h40 h41 h42 => ?_) ?_
  ·refine bs fun v44 h43 => ?_
   have f18 := q8b h43
   try simp only [en.down] at f18
   rintro ⟨⟩
   exact fF fn5
  rintro (⟨h39,h40,h41,h42⟩ | ⟨h39,h40,h41,h42⟩ | ⟨h39,h40,h41,h42⟩ | ⟨h39,h40,h41,h42⟩)
  all_goals
  rintro ⟨⟩
  exact fF fn5
 apply it <;> intro h45
 ·rintro ⟨⟩
  exact fF fn5
 have f19 := q4l 1 qo v6.1.l
 have f20 := bytesOf_map v6.1.l
 refine zp9 ?_ (fun h46 h47 h48 h49 => ?_)
 ·rintro (⟨h46,h47,h48,h49⟩ | ⟨h46,h47,h48,h49⟩ | ⟨h46,h47,h48,h49⟩ | ⟨h46,h47,h48,h49⟩)
  all_goals
  rintro ⟨⟩
  exact fF fn5
 refine bs fun v51 h50 => ?_
 have f21 := qdj _ _ h50
 try simp only [en.down,UInt8.reduceToNat] at f21
 refine bs fun v53 h52 => ?_
 have f22 := q9y h52
 try simp only [en.down] at f22
 refine bTs fun r55 h54 f23 f24 f25 => ?_
 refine bs fun v57 h56 => ?_
 have f26 := q98 h56
 try simp only [en.down] at f26
 refine bs fun v59 h58 => ?_
 have f27 := qea h58
 try simp only [en.down] at f27
 refine gd fun h60 => ?_
 have f28 : (10 + v59.length ≤ 2 ^ 62) = True := eq_true h60
 refine gd fun h61 => ?_
 have f29 : ((([100,105,99,101,10,116,121,112,101,32] : Bytes) ++ v59).length + 1 ≤ 2 ^ 62) = True := eq_true h61
 try simp only [en.down] at f29
 refine gd fun h62 => ?_
 have f30 := eq_true h62
 try simp only [en.down] at f30
 refine gd fun h63 => ?_
 have f31 : ((((([100,105,99,101,10,116,121,112,101,32] : Bytes) ++ v59) ++ ([58] : Bytes)) ++ r55).length + 1 ≤ 2 ^ 62) = True := eq_true h63
 try simp only [en.down] at f31
 refine bs fun v65 h64 => ?_
 have f32 := qai h64
 have f32b := f32
 try simp only [en.down] at f32b
 try simp only [en.down,UInt8.reduceToNat] at f32
 apply it <;> intro h66
 ·refine qae (fun h67 h68 h69 h70 h71 => ?_) ?_
  ·refine bs fun v73 h72 => ?_
   have f33 := q8b h72
   try simp only [en.down] at f33
   rintro ⟨⟩
   exact fF fn5
  rintro (⟨h67,h68,h69,h70,h71⟩ | ⟨h67,h68,h69,h70,h71⟩ | ⟨h67,h68,h69,h70,h71⟩ | ⟨h67,h68,h69,h70,h71⟩ | ⟨h67,h68,h69,h70,h71⟩)
  all_goals
  rintro ⟨⟩
  exact fF fn5
 refine qeb (fun h74 h75 h76 h77 => ?_) ?_
 ·refine bs fun v79 h78 => ?_
  have f34 := q8b h78
  try simp only [en.down] at f34
  rintro ⟨⟩
  exact fF fn5
 rintro (⟨h74,h75,h76,h77⟩ | ⟨h74,h75,h76,h77⟩ | ⟨h74,h75,h76,h77⟩ | ⟨h74,h75,h76,h77⟩)
 all_goals
 rintro ⟨⟩
 exact fF fn5
end Go.Proofs.YtaglodpkpggdiaaGreatDoor
