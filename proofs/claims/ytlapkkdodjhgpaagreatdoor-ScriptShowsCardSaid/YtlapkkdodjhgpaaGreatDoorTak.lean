/-
  What the machine's calls come to: the plain functions.
-/
import Derived.Test.YtlapkkdodjhgpaaGreatDoorTaj
set_option linter.unusedSimpArgs false
set_option linter.unusedVariables false
set_option maxRecDepth 100000
namespace Go.Proofs.YtlapkkdodjhgpaaGreatDoor
open Go Go.Gm
set_option maxHeartbeats 4000000
theorem zed : ∀ p r,q20 p = some r → O.loop 7 0 ⟨[(0,v_l 1 (kE IntKind.u32) p.1),(1,v_l 7 T.Op.enc p.2.1),(6,v_s p.2.2.1),(7,v_i p.2.2.2)],[],0⟩ = some (Ex.normal,⟨[(1,v_l 7 T.Op.enc p.2.1),(6,v_s r)],[],0⟩) := by
 refine q20.partial_correctness _ ?_
 rintro q20 ih25 ⟨nums,os,s,i⟩ r; dsimp only
 apply it <;> intro h1
 ·refine gd fun h2 => ?_
  have f1 : (s.length + 1 ≤ 2 ^ 62) = True := eq_true h2
  refine bg (kE IntKind.u32) fun x4 h3 f2 f3 f4 => ?_
  refine bs fun v6 h5 => ?_
  have f5 := q6q h5
  try simp only [en.down] at f5
  refine gd fun h7 => ?_
  have f6 := eq_true h7
  try simp only [en.down] at f6
  intro h; have f7 := ih25 _ _ h; clear h
  try simp only [en.down] at f7
  clear ih25; exact fL fn7
 rintro ⟨⟩
 clear ih25; exact fL fn7
theorem zas {r} (h : q76 = some r) : O.call 30 [] [] = some (v_l 1 zl r,[]) := by
 revert h; unfold q76
 rintro ⟨⟩
 exact fF ze0
theorem q4r {n r} (h : q1h n = some r) : O.call 31 [v_i n] [] = some (v_b r,[]) := by
 revert h; unfold q1h
 apply it <;> intro h1
 ·rintro ⟨⟩
  exact fF qaf
 rintro ⟨⟩
 exact fF qaf
theorem q6x {s r} (h : q2d s = some r) : O.call 32 [v_s s] [] = some (v_s r,[]) := by
 revert h; unfold q2d
 refine bs fun v2 h1 => ?_
 have f1 := q6q h1
 try simp only [en.down] at f1
 refine gd fun h3 => ?_
 have f2 : (1 + v2.length ≤ 2 ^ 62) = True := eq_true h3
 refine gd fun h4 => ?_
 have f3 : ((([32] : Bytes) ++ v2).length + 1 ≤ 2 ^ 62) = True := eq_true h4
 try simp only [en.down] at f3
 refine gd fun h5 => ?_
 have f4 := eq_true h5
 try simp only [en.down] at f4
 rintro ⟨⟩
 exact fF qtx
theorem q3q {n r} (h : pq n = some r) : O.call 33 [v_i n] [] = some (v_s r,[]) := by
 revert h; unfold pq
 apply it <;> intro h1
 ·refine bs fun v3 h2 => ?_
  have f1 := q6q h2
  try simp only [en.down] at f1
  refine gd fun h4 => ?_
  have f2 : (1 + v3.length ≤ 2 ^ 62) = True := eq_true h4
  rintro ⟨⟩
  exact fF qaz
 refine bs fun v6 h5 => ?_
 have f3 := q6q h5
 try simp only [en.down] at f3
 rintro ⟨⟩
 exact fF qaz
def qb8 (o : T.Op) : ((Bytes × Bool × Bytes) ⊕ (Bytes)) → Ex × St
 | .inl y => (Ex.ret,⟨[(1,AV.ptr 0 0),(2,v_s y.1),(3,v_b y.2.1),(5,v_s y.2.2)],[(0,b_x (T.Op.enc o))],1⟩)
 | .inr y => (Ex.normal,⟨[(1,AV.ptr 0 0),(2,AV.undef),(3,AV.undef),(5,v_s y)],[(0,b_x (T.Op.enc o))],1⟩)
attribute [local go_sem] qb8
theorem qmi : ∀ p r,q15 p = some r → O.loop 16 1 ⟨[(1,AV.ptr 0 0),(5,v_s p.1),(6,v_i p.2.1)],[(0,b_x (T.Op.enc p.2.2))],1⟩ = some (qb8 p.2.2 r) := by
 refine q15.partial_correctness _ ?_
 rintro q15 ih34 ⟨s,i,o⟩ r; dsimp only
 apply it <;> intro h1
 ·refine bg T.qj.enc fun x3 h2 f1 f2 f3 => ?_
  refine bs fun v5 h4 => ?_
  have f4 := q4r h4
  try simp only [en.down] at f4
  apply it <;> intro h6
  ·rintro ⟨⟩
   clear ih34; exact fL zy
  refine bs fun v8 h7 => ?_
  have f5 := q4r h7
  try simp only [en.down] at f5
  apply it <;> intro h9
  ·rintro ⟨⟩
   clear ih34; exact fL zy
  refine gd fun h10 => ?_
  have f6 : (s.length + 1 ≤ 2 ^ 62) = True := eq_true h10
  refine bs fun v12 h11 => ?_
  have f7 := q3q h11
  try simp only [en.down] at f7
  refine gd fun h13 => ?_
  have f8 := eq_true h13
  try simp only [en.down] at f8
  refine gd fun h14 => ?_
  have f9 : (((s ++ ([32] : Bytes)) ++ v12).length + 1 ≤ 2 ^ 62) = True := eq_true h14
  try simp only [en.down] at f9
  refine bs fun v16 h15 => ?_
  have f10 := q3q h15
  try simp only [en.down] at f10
  refine gd fun h17 => ?_
  have f11 := eq_true h17
  try simp only [en.down] at f11
  refine bs fun v19 h18 => ?_
  have f12 := q6x h18
  try simp only [en.down] at f12
  refine gd fun h20 => ?_
  have f13 := eq_true h20
  try simp only [en.down] at f13
  intro h; have f14 := ih34 _ _ h; clear h
  try simp only [en.down] at f14
  clear ih34; exact fL zy
 rintro ⟨⟩
 clear ih34; exact fL zy
def qa7 (o : T.Op) : ((Bytes × Bool × Bytes) ⊕ (Bytes)) → Ex × St
 | .inl y => (Ex.ret,⟨[(1,AV.ptr 0 0),(2,v_s y.1),(3,v_b y.2.1),(5,v_s y.2.2)],[(0,b_x (T.Op.enc o))],1⟩)
 | .inr y => (Ex.normal,⟨[(1,AV.ptr 0 0),(2,AV.undef),(3,AV.undef),(5,v_s y)],[(0,b_x (T.Op.enc o))],1⟩)
attribute [local go_sem] qa7
theorem zgz : ∀ p r,q0t p = some r → O.loop 16 3 ⟨[(1,AV.ptr 0 0),(5,v_s p.1),(7,v_i p.2.1)],[(0,b_x (T.Op.enc p.2.2))],1⟩ = some (qa7 p.2.2 r) := by
 refine q0t.partial_correctness _ ?_
 rintro q0t ih35 ⟨s,i,o⟩ r; dsimp only
 apply it <;> intro h1
 ·refine bg T.Sel.enc fun x3 h2 f1 f2 f3 => ?_
  refine bs fun v5 h4 => ?_
  have f4 := q4r h4
  try simp only [en.down] at f4
  apply it <;> intro h6
  ·rintro ⟨⟩
   clear ih35; exact fL zy
  refine bs fun v8 h7 => ?_
  have f5 := q4r h7
  try simp only [en.down] at f5
  apply it <;> intro h9
  ·rintro ⟨⟩
   clear ih35; exact fL zy
  refine gd fun h10 => ?_
  have f6 : (s.length + 1 ≤ 2 ^ 62) = True := eq_true h10
  refine bs fun v12 h11 => ?_
  have f7 := q3q h11
  try simp only [en.down] at f7
  refine gd fun h13 => ?_
  have f8 := eq_true h13
  try simp only [en.down] at f8
  refine gd fun h14 => ?_
  have f9 : (((s ++ ([32] : Bytes)) ++ v12).length + 1 ≤ 2 ^ 62) = True := eq_true h14
  try simp only [en.down] at f9
  refine bs fun v16 h15 => ?_
  have f10 := q3q h15
  try simp only [en.down] at f10
  refine gd fun h17 => ?_
  have f11 := eq_true h17
  try simp only [en.down] at f11
  intro h; have f12 := ih35 _ _ h; clear h
  try simp only [en.down] at f12
  clear ih35; exact fL zy
 rintro ⟨⟩
 clear ih35; exact fL zy
theorem zsd {o r} (h : q53 o = some r) : O.call 16 [v_g (T.Op.enc o)] [] = some (AV.tup [v_s r.1,v_b r.2],[]) := by
 revert h; unfold q53
 refine bs fun v2 h1 => ?_
 have f1 := zas h1
 try simp only [en.down] at f1
 refine q6g ?_ (fun h3 h4 => ?_)
 ·rintro (⟨h3,h4⟩ | ⟨h3,h4⟩)
  all_goals
  rintro ⟨⟩
  exact fF zy
 refine bs fun v6 h5 => ?_
 have f2 := q4r h5
 try simp only [en.down] at f2
 apply it <;> intro h7
 ·rintro ⟨⟩
  exact fF zy
 refine bg zl fun x9 h8 f3 f4 f5 => ?_
 apply it <;> intro h10
 ·refine bs fun v12 h11 => ?_
  have f6 := q6x h11
  try simp only [en.down] at f6
  refine gd fun h13 => ?_
  have f7 := eq_true h13
  try simp only [en.down] at f7
  refine bs fun v15 h14 => ?_
  have f8 := q6x h14
  try simp only [en.down] at f8
  refine gd fun h16 => ?_
  have f9 := eq_true h16
  try simp only [en.down] at f9
  refine gd fun h17 => ?_
  have f10 : (((x9 ++ v12) ++ v15).length + 1 ≤ 2 ^ 62) = True := eq_true h17
  try simp only [en.down] at f10
  refine q8x (fun h18 h19 h20 h21 => ?_) ?_
  ·rintro ⟨⟩
   exact fF zy
  rintro (⟨h18,h19,h20,h21⟩ | ⟨h18,h19,h20,h21⟩ | ⟨h18,h19,h20,h21⟩ | ⟨h18,h19,h20,h21⟩)
  all_goals
  rintro ⟨⟩
  exact fF zy
 refine q6g ?_ (fun h22 h32 => ?_)
 ·rintro (⟨h22,h32⟩ | ⟨h22,h32⟩)
  all_goals
  refine bs fun v24 h23 => ?_
  have f11 := q6x h23
  try simp only [en.down] at f11
  refine gd fun h25 => ?_
  have f12 := eq_true h25
  try simp only [en.down] at f12
  refine gd fun h26 => ?_
  have f13 : ((x9 ++ v24).length + 1 ≤ 2 ^ 62) = True := eq_true h26
  try simp only [en.down] at f13
  refine q77 (fun h27 h28 h29 h30 h31 => ?_) ?_
  ·rintro ⟨⟩
   exact fF zy
  rintro (⟨h27,h28,h29,h30,h31⟩ | ⟨h27,h28,h29,h30,h31⟩ | ⟨h27,h28,h29,h30,h31⟩ | ⟨h27,h28,h29,h30,h31⟩ | ⟨h27,h28,h29,h30,h31⟩)
  all_goals
   rintro ⟨⟩
   exact fF zy
 refine q6g ?_ (fun h42 h52 => ?_)
 ·rintro (⟨h42,h52⟩ | ⟨h42,h52⟩)
  all_goals
  refine gd fun h43 => ?_
  have f14 : (x9.length + 1 ≤ 2 ^ 62) = True := eq_true h43
  refine bs fun v45 h44 => ?_
  have f15 := q3q h44
  try simp only [en.down] at f15
  refine gd fun h46 => ?_
  have f16 := eq_true h46
  try simp only [en.down] at f16
  refine gd fun h47 => ?_
  have f17 : (((x9 ++ ([32] : Bytes)) ++ v45).length + 1 ≤ 2 ^ 62) = True := eq_true h47
  try simp only [en.down] at f17
  have f18 : ((0 : Int) == (0 : Int)) = true := by decide
  refine q8x (fun h48 h49 h50 h51 => ?_) ?_
  ·rintro ⟨⟩
   exact fF zy
  rintro (⟨h48,h49,h50,h51⟩ | ⟨h48,h49,h50,h51⟩ | ⟨h48,h49,h50,h51⟩ | ⟨h48,h49,h50,h51⟩)
  all_goals
   rintro ⟨⟩
   exact fF zy
 apply it <;> intro h62
 ·refine gd fun h63 => ?_
  have f19 : (x9.length + 1 ≤ 2 ^ 62) = True := eq_true h63
  refine bs fun v65 h64 => ?_
  have f20 := q3q h64
  try simp only [en.down] at f20
  refine gd fun h66 => ?_
  have f21 := eq_true h66
  try simp only [en.down] at f21
  refine gd fun h67 => ?_
  have f22 : (((x9 ++ ([32] : Bytes)) ++ v65).length + 2 ≤ 2 ^ 62) = True := eq_true h67
  try simp only [en.down] at f22
  apply it <;> intro h68
  ·refine bTs fun r70 h69 f23 f24 f25 => ?_
   refine gd fun h71 => ?_
   have f26 : (r70.length + 1 ≤ 2 ^ 62) = True := eq_true h71
   refine gd fun h72 => ?_
   have f27 : ((r70 ++ ([49] : Bytes)).length + 1 ≤ 2 ^ 62) = True := eq_true h72
   try simp only [en.down] at f27
   have f28 : ((0 : Int) == (0 : Int)) = true := by decide
   refine qco (fun h73 h74 h75 => ?_) ?_
   ·try simp only [h68] at f1 f2 f20
    rintro ⟨⟩
    exact fF zy
   rintro (⟨h73,h74,h75⟩ | ⟨h73,h74,h75⟩ | ⟨h73,h74,h75⟩)
   all_goals
   try simp only [h68] at f1 f2 f20
   rintro ⟨⟩
   exact fF zy
  refine gd fun h76 => ?_
  have f29 : ((((x9 ++ ([32] : Bytes)) ++ v65) ++ ([32,48] : Bytes)).length + 1 ≤ 2 ^ 62) = True := eq_true h76
  try simp only [en.down] at f29
  have f30 : ((0 : Int) == (0 : Int)) = true := by decide
  refine qco (fun h77 h78 h79 => ?_) ?_
  ·try simp only [h68] at f1 f2 f20
   rintro ⟨⟩
   exact fF zy
  rintro (⟨h77,h78,h79⟩ | ⟨h77,h78,h79⟩ | ⟨h77,h78,h79⟩)
  all_goals
  try simp only [h68] at f1 f2 f20
  rintro ⟨⟩
  exact fF zy
 apply it <;> intro h80
 ·refine bs fun v82 h81 => ?_
  have f31 := qmi _ _ h81
  try simp only [en.down] at f31
  rcases v82 with y83 | y84
  ·dsimp only
   rintro ⟨⟩
   exact fF zy
  dsimp only
  refine gd fun h85 => ?_
  have f32 : (y84.length + 1 ≤ 2 ^ 62) = True := eq_true h85
  refine q8x (fun h86 h87 h88 h89 => ?_) ?_
  ·have f33 : ((0 : Int) == (0 : Int)) = true := by decide
   rintro ⟨⟩
   exact fF zy
  rintro (⟨h86,h87,h88,h89⟩ | ⟨h86,h87,h88,h89⟩ | ⟨h86,h87,h88,h89⟩ | ⟨h86,h87,h88,h89⟩)
  all_goals
  rintro ⟨⟩
  exact fF zy
 apply it <;> intro h90
 ·refine bs fun v92 h91 => ?_
  have f34 := zgz _ _ h91
  try simp only [en.down] at f34
  rcases v92 with y93 | y94
  ·dsimp only
   rintro ⟨⟩
   exact fF zy
  dsimp only
  refine gd fun h95 => ?_
  have f35 : (y94.length + 1 ≤ 2 ^ 62) = True := eq_true h95
  refine q77 (fun h96 h97 h98 h99 h100 => ?_) ?_
  ·have f36 : ((0 : Int) == (0 : Int)) = true := by decide
   rintro ⟨⟩
   exact fF zy
  rintro (⟨h96,h97,h98,h99,h100⟩ | ⟨h96,h97,h98,h99,h100⟩ | ⟨h96,h97,h98,h99,h100⟩ | ⟨h96,h97,h98,h99,h100⟩ | ⟨h96,h97,h98,h99,h100⟩)
  all_goals
  rintro ⟨⟩
  exact fF zy
 refine gd fun h101 => ?_
 have f37 : (x9.length + 1 ≤ 2 ^ 62) = True := eq_true h101
 refine q77 (fun h102 h103 h104 h105 h106 => ?_) ?_
 ·rintro ⟨⟩
  exact fF zy
 rintro (⟨h102,h103,h104,h105,h106⟩ | ⟨h102,h103,h104,h105,h106⟩ | ⟨h102,h103,h104,h105,h106⟩ | ⟨h102,h103,h104,h105,h106⟩ | ⟨h102,h103,h104,h105,h106⟩)
 all_goals
 rintro ⟨⟩
 exact fF zy
def q9o (os : (Sl T.Op)) : (((Sl UInt8) × Int × Bytes) ⊕ (Bytes)) → Ex × St
 | .inl y => (Ex.ret,⟨[(1,v_l 7 T.Op.enc os),(4,v_l 1 z8 y.1),(5,v_i y.2.1),(6,v_s y.2.2)],[],0⟩)
 | .inr y => (Ex.normal,⟨[(1,v_l 7 T.Op.enc os),(4,AV.undef),(5,AV.undef),(6,v_s y)],[],0⟩)
attribute [local go_sem] q9o
theorem zhr : ∀ p r,q17 p = some r → O.loop 7 2 ⟨[(1,v_l 7 T.Op.enc p.1),(6,v_s p.2.1),(8,v_i p.2.2)],[],0⟩ = some (q9o p.1 r) := by
 refine q17.partial_correctness _ ?_
 rintro q17 ih28 ⟨os,s,i⟩ r; dsimp only
 apply it <;> intro h1
 ·refine bg T.Op.enc fun x3 h2 f1 f2 f3 => ?_
  refine bs fun v5 h4 => ?_
  have f4 := zsd h4
  try simp only [en.down] at f4
  apply it <;> intro h6
  ·rintro ⟨⟩
   clear ih28; exact fL fn7
  refine gd fun h7 => ?_
  have f5 := eq_true h7
  try simp only [en.down] at f5
  intro h; have f6 := ih28 _ _ h; clear h
  try simp only [en.down] at f6
  clear ih28; exact fL fn7
 rintro ⟨⟩
 clear ih28; exact fL fn7
theorem zoz {nums os r} (h : q5a nums os = some r) : O.call 7 [v_l 1 (kE IntKind.u32) nums,v_l 7 T.Op.enc os] [] = some (AV.tup [v_l 1 z8 r.1,v_i r.2],[]) := by
 revert h; unfold q5a
 refine bs fun v2 h1 => ?_
 have f1 := zed _ _ h1
 try simp only [en.down,UInt8.reduceToNat] at f1
 refine gd fun h3 => ?_
 have f2 : (v2.length + 1 ≤ 2 ^ 62) = True := eq_true h3
 refine bs fun v5 h4 => ?_
 have f3 := zhr _ _ h4
 try simp only [en.down,UInt8.reduceToNat] at f3
 rcases v5 with y6 | y7
 ·dsimp only
  rintro ⟨⟩
  exact fF fn7
 dsimp only
 apply it <;> intro h8
 ·rintro ⟨⟩
  exact fF fn7
 apply it <;> intro h9
 ·rintro ⟨⟩
  exact fF fn7
 rintro ⟨⟩
 exact fF fn7
theorem qmp {n os r} (h : q7e n os = some r) : O.call 3 [v_l 1 (kE IntKind.u32) n,v_l 7 T.Op.enc os] [] = some (v_b r,[]) := by
 revert h; unfold q7e
 apply it <;> intro h1
 ·refine bs fun v3 h2 => ?_
  have f1 := q7p h2
  try simp only [en.down] at f1
  rintro ⟨⟩
  exact fF fn3
 refine bs fun v5 h4 => ?_
 have f2 := zl3 h4
 try simp only [en.down] at f2
 apply it <;> intro h6
 ·refine bs fun v8 h7 => ?_
  have f3 := q7p h7
  try simp only [en.down] at f3
  try simp only [h6] at f2 f3
  rintro ⟨⟩
  exact fF fn3
 refine bs fun v10 h9 => ?_
 have f4 := z8t h9
 try simp only [en.down] at f4
 refine bs fun v12 h11 => ?_
 have f5 := zoz h11
 try simp only [en.down] at f5
 have f6 := q6y 1 z8 v10.1.l
 have f7 := bytesOf_map v10.1.l
 have f8 := q6y 1 z8 v12.1.l
 have f9 := bytesOf_map v12.1.l
 refine yn (fun h13 h14 => ?_) ?_
 ·refine bs fun v16 h15 => ?_
  have f10 := q7p h15
  try simp only [en.down] at f10
  try simp only [h6] at f2 f4 f5 f10
  rintro ⟨⟩
  exact fF fn3
 rintro (⟨h13,h14⟩ | ⟨h13,h14⟩)
 all_goals
 try simp only [h6] at f2 f4 f5
 rintro ⟨⟩
 exact fF fn3
end Go.Proofs.YtlapkkdodjhgpaaGreatDoor
