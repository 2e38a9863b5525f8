/-
  What the machine's calls come to: the plain functions.
-/
import Derived.Test.YtkbgphcebakcnaaGreatEaj
import Derived.Test.YtkbgphcebakcnaaGreatEak
import Derived.Test.YtkbgphcebakcnaaGreatEal
import Derived.Test.YtkbgphcebakcnaaGreatEam
import Derived.Test.YtkbgphcebakcnaaGreatEan
set_option linter.unusedSimpArgs false
set_option linter.unusedVariables false
set_option maxRecDepth 100000
namespace Go.Proofs.YtkbgphcebakcnaaGreat
open Go Go.Gm
attribute [local go_sem] q7q
attribute [local go_sem] qbm qb8
set_option maxHeartbeats 4000000
theorem qi8 {at_ right es r} (h : q67 at_ right es = some r) : O.call 84 [v_i at_,v_b right,v_l 3 T.qb.enc es] [] = some (v_i r,[]) := by
 revert h; unfold q67
 refine bs fun v2 h1 => ?_
 have f1 := q90 h1
 try simp only [en.down] at f1
 rcases v2 with y3 | y8
 ·dsimp only
  refine bs fun v5 h4 => ?_
  have f2 := qah h4
  try simp only [en.down] at f2
  refine bs fun v7 h6 => ?_
  have f3 := z8d _ _ h6
  try simp only [en.down] at f3
  rintro ⟨⟩
  exact fF zz
 dsimp only
 refine bs fun v10 h9 => ?_
 obtain ⟨f4L,f4⟩ := qat h9
 try simp only [List.length_set] at f4L
 try simp only [en.down,f4L] at f4
 refine bs fun v12 h11 => ?_
 have f5 := zim _ _ h11
 try simp only [en.down,f4L] at f5
 try simp only [f4L] at f1 f4 f5
 rintro ⟨⟩
 exact fF zz
theorem z6j : ∀ p r,q4e p = some r → O.loop 64 0 ⟨[(1,v_l 3 T.qb.enc p.1),(5,v_r 1 p.2.2.2.2),(8,v_l 2 T.Sel.enc p.2.1),(9,v_i p.2.2.1),(10,v_i p.2.2.2.1)],[(0,Blk.dead),(1,b_r 2 T.Sel.enc p.2.2.2.2)],2⟩ = some (Ex.normal,⟨[(5,v_r 1 r)],[(0,Blk.dead),(1,b_r 2 T.Sel.enc r)],2⟩) := by
 refine q4e.partial_correctness _ ?_
 rintro q4e ih168 ⟨es,t8,t9,t10,out⟩ r; dsimp only
 apply it <;> intro h1
 ·refine bg T.Sel.enc fun x3 h2 f1 f2 f3 => ?_
  refine bs fun v5 h4 => ?_
  have f4 := qi8 h4
  try simp only [en.down] at f4
  refine bs fun v7 h6 => ?_
  have f5 := qi8 h6
  try simp only [en.down] at f5
  refine gd fun h8 => ?_
  have f6 := rG 2 T.Sel.enc out
  have f7 : List.map T.Sel.enc out ++ [[PV.int IntKind.i64 v5,PV.int IntKind.i64 v7]] = List.map T.Sel.enc (out ++ [(T.Sel.mk v5 v7)]) := by simp only [List.map_append,List.map_cons,List.map_nil,qx,qy,qw,T.Sel.qi] <;> rfl
  intro h; have f8 := ih168 _ _ h; clear h
  try simp only [en.down] at f8
  clear ih168; exact fL qbs
 rintro ⟨⟩
 clear ih168; exact fL qbs
theorem qj9 {l r_ r} (h : q5k l r_ = some r) : O.call 64 [v_l 2 T.Sel.enc l,v_r 0 r_] [(0,Blk.row false 3 (List.map T.qb.enc r_))] = some (v_l 2 T.Sel.enc r,[(0,Blk.dead)]) := by
 revert h; unfold q5k
 refine bs fun v2 h1 => ?_
 have f1 := z6j _ _ h1
 try simp only [en.down] at f1
 refine bs fun v4 h3 => ?_
 have f2 := qep h3
 try simp only [en.down] at f2
 rintro ⟨⟩
 exact fF qbs
theorem zsh : ∀ p r,q4s p = some r → O.loop 40 2 ⟨[(0,AV.ptr 0 0),(1,v_i p.1),(5,v_b p.2.1),(10,AV.ptr 2 0),(12,v_r 4 p.2.2.2.2.2.2.2.2),(91,v_r 1 p.2.2.2.2.2.2.1),(92,v_i p.2.2.1),(93,v_i p.2.2.2.1)],[(0,Blk.box [v_s p.2.2.2.2.1,v_l 2 T.Sel.enc p.2.2.2.2.2.1,v_r 1 p.2.2.2.2.2.2.1]),(1,b_r 3 T.qc.enc p.2.2.2.2.2.2.1),(2,b_x (T.qb.enc p.2.2.2.2.2.2.2.1)),(3,Blk.dead),(4,Blk.row false 2 (List.map (xq qh) p.2.2.2.2.2.2.2.2))],5⟩ = some (Ex.normal,⟨[(0,AV.ptr 0 0),(10,AV.ptr 2 0)],[(0,Blk.box [v_s p.2.2.2.2.1,v_l 2 T.Sel.enc p.2.2.2.2.2.1,v_r 1 r]),(1,b_r 3 T.qc.enc r),(2,b_x (T.qb.enc p.2.2.2.2.2.2.2.1)),(3,Blk.dead),(4,Blk.row false 2 (List.map (xq qh) p.2.2.2.2.2.2.2.2))],5⟩) := by
 refine q4s.partial_correctness _ ?_
 rintro q4s ih172 ⟨depth,typed,t92,t93,w,w2,t91,e,owners⟩ r; dsimp only
 apply it <;> intro h1
 ·refine bW T.qc.enc 3 fun x3 h2 f1 f2 f3 f4 f5 => ?_
  refine bw (xq qh) fun x5 h4 f6 f7 f8 => ?_
  apply it <;> intro h6
  ·refine bs fun v8 h7 => ?_
   have f9 := qan h7
   try simp only [en.down,f4,f5] at f9
   have f10 := map_set T.qc.enc t91 t93.toNat v8
   try simp only [en.down] at f10
   try simp only [h6,f4,f5] at f9 f10
   intro h; have f11 := ih172 _ _ h; clear h
   try simp only [en.down,f4,f5] at f11
   try simp only [h6,f4,f5] at f11
   clear ih172; exact fL ma
  refine bs fun v10 h9 => ?_
  have f12 := qan h9
  try simp only [en.down,f4,f5] at f12
  have f13 := map_set T.qc.enc t91 t93.toNat v10
  try simp only [en.down] at f13
  try simp only [h6,f4,f5] at f12 f13
  intro h; have f14 := ih172 _ _ h; clear h
  try simp only [en.down,f4,f5] at f14
  try simp only [h6,f4,f5] at f14
  clear ih172; exact fL ma
 rintro ⟨⟩
 clear ih172; exact fL ma
theorem q17 {depth inst stop e typed b b_2 r_ r} (h : ky depth inst stop e typed b b_2 r_ = some r) : O.call 40 [AV.ptr 0 0,v_i depth,v_i inst,v_i stop,v_g (T.qb.enc e),v_b typed] [(0,Blk.box [v_s b,v_l 2 T.Sel.enc b_2,v_r 1 r_]),(1,b_r 3 T.qc.enc r_)] = some (AV.tup [],[(0,Blk.box [v_s r.1,v_l 2 T.Sel.enc r.2.1,v_r 1 r.2.2]),(1,b_r 3 T.qc.enc r.2.2)]) := by
 revert h; unfold ky
 refine bs fun v2 h1 => ?_
 have f1 := z5c h1
 try simp only [en.down] at f1
 apply it <;> intro h3
 ·refine bw (xq qh) fun x5 h4 f2 f3 f4 => ?_
  have f5 := map_set (xq qh) v2 depth.toNat (inst,stop)
  try simp only [en.down] at f5
  refine bW T.qc.enc 3 fun x7 h6 f6 f7 f8 f9 f10 => ?_
  refine bg T.qa.enc fun x9 h8 f11 f12 f13 => ?_
  refine bs fun v11 h10 => ?_
  have f14 := z4o _ _ h10
  try simp only [en.down,f9,f10] at f14
  refine bs fun v13 h12 => ?_
  have f15 := zid _ _ h12
  try simp only [en.down,f9,f10] at f15
  refine bTs fun r15 h14 f16 f17 f18 => ?_
  refine gd fun h16 => ?_
  have f19 := eq_true h16
  try simp only [en.down] at f19
  refine bFs fun r18 h17 f20 f21 f22 => ?_
  refine gd fun h19 => ?_
  have f23 := eq_true h19
  try simp only [en.down] at f23
  refine bs fun v21 h20 => ?_
  have f24 := qj9 h20
  try simp only [en.down,f9,f10] at f24
  try simp only [f9,f10] at f1 f5 f14 f15 f24
  rintro ⟨⟩
  exact fF ma
 refine bs fun v23 h22 => ?_
 have f25 := zsh _ _ h22
 try simp only [en.down] at f25
 refine bTs fun r25 h24 f26 f27 f28 => ?_
 refine gd fun h26 => ?_
 have f29 := eq_true h26
 try simp only [en.down] at f29
 refine bFs fun r28 h27 f30 f31 f32 => ?_
 refine gd fun h29 => ?_
 have f33 := eq_true h29
 try simp only [en.down] at f33
 refine bs fun v31 h30 => ?_
 have f34 := qj9 h30
 try simp only [en.down] at f34
 rintro ⟨⟩
 exact fF ma
theorem z3g : ∀ p r,q62 p = some r → O.loop 19 0 ⟨[(0,AV.ptr 0 0),(14,v_l 3 T.qb.enc p.1),(15,v_i p.2.1),(16,v_i p.2.2.1)],[(0,Blk.box [v_s p.2.2.2.1,v_l 2 T.Sel.enc p.2.2.2.2.1,v_r 1 p.2.2.2.2.2]),(1,b_r 3 T.qc.enc p.2.2.2.2.2)],2⟩ = some (Ex.normal,⟨[],[(0,Blk.box [v_s r.1,v_l 2 T.Sel.enc r.2.1,v_r 1 r.2.2]),(1,b_r 3 T.qc.enc r.2.2)],2⟩) := by
 refine q62.partial_correctness _ ?_
 rintro q62 ih128 ⟨t14,t15,t16,w,w2,r1_⟩ r; dsimp only
 apply it <;> intro h1
 ·refine bg T.qb.enc fun x3 h2 f1 f2 f3 => ?_
  apply it <;> intro h4
  ·refine bW T.qc.enc 3 fun x6 h5 f4 f5 f6 f7 f8 => ?_
   refine bs fun v8 h7 => ?_
   have f9 := q4k h7
   try simp only [en.down,f7,f8] at f9
   refine bs fun v10 h9 => ?_
   have f10 := q17 h9
   try simp only [en.down,f7,f8] at f10
   try simp only [f7,f8] at f9 f10
   intro h; have f11 := ih128 _ _ h; clear h
   try simp only [en.down,f7,f8] at f11
   try simp only [f7,f8] at f11
   clear ih128; exact fL jw
  refine bs fun v12 h11 => ?_
  have f12 := q17 h11
  try simp only [en.down] at f12
  intro h; have f13 := ih128 _ _ h; clear h
  try simp only [en.down] at f13
  clear ih128; exact fL jw
 rintro ⟨⟩
 clear ih128; exact fL jw
theorem zoq : ∀ p r,q5h p = some r → O.loop 19 0 ⟨[(0,AV.ptr 0 0),(14,v_r 2 p.2.2.2.2.2),(15,v_i p.1),(16,v_i p.2.1)],[(0,Blk.box [v_s p.2.2.1,v_l 2 T.Sel.enc p.2.2.2.1,v_r 1 p.2.2.2.2.1]),(1,b_r 3 T.qc.enc p.2.2.2.2.1),(2,Blk.row false 3 (List.map T.qb.enc p.2.2.2.2.2))],3⟩ = some (Ex.normal,⟨[],[(0,Blk.box [v_s r.1,v_l 2 T.Sel.enc r.2.1,v_r 1 r.2.2]),(1,b_r 3 T.qc.enc r.2.2),(2,Blk.row false 3 (List.map T.qb.enc p.2.2.2.2.2))],3⟩) := by
 refine q5h.partial_correctness _ ?_
 rintro q5h ih173 ⟨t15,t16,w,w2,r1_,t14⟩ r; dsimp only
 apply it <;> intro h1
 ·refine bw T.qb.enc fun x3 h2 f1 f2 f3 => ?_
  apply it <;> intro h4
  ·refine bW T.qc.enc 3 fun x6 h5 f4 f5 f6 f7 f8 => ?_
   refine bs fun v8 h7 => ?_
   have f9 := q4k h7
   try simp only [en.down,f7,f8] at f9
   refine bs fun v10 h9 => ?_
   have f10 := q17 h9
   try simp only [en.down,f7,f8] at f10
   try simp only [f7,f8] at f9 f10
   intro h; have f11 := ih173 _ _ h; clear h
   try simp only [en.down,f7,f8] at f11
   try simp only [f7,f8] at f11
   clear ih173; exact fL jw
  refine bs fun v12 h11 => ?_
  have f12 := q17 h11
  try simp only [en.down] at f12
  intro h; have f13 := ih173 _ _ h; clear h
  try simp only [en.down] at f13
  clear ih173; exact fL jw
 rintro ⟨⟩
 clear ih173; exact fL jw
theorem qrg {es b b_2 r_ r} (h : qbj es b b_2 r_ = some r) : O.call 19 [AV.ptr 0 0,v_l 3 T.qb.enc es] [(0,Blk.box [v_s b,v_l 2 T.Sel.enc b_2,v_r 1 r_]),(1,b_r 3 T.qc.enc r_)] = some (AV.tup [],[(0,Blk.box [v_s r.1,v_l 2 T.Sel.enc r.2.1,v_r 1 r.2.2]),(1,b_r 3 T.qc.enc r.2.2)]) := by
 revert h; unfold qbj
 refine bs fun v2 h1 => ?_
 have f1 := q90 h1
 try simp only [en.down] at f1
 rcases v2 with y3 | y8
 ·dsimp only
  refine bs fun v5 h4 => ?_
  have f2 := qah h4
  try simp only [en.down] at f2
  refine bs fun v7 h6 => ?_
  have f3 := z3g _ _ h6
  try simp only [en.down] at f3
  rintro ⟨⟩
  exact fF jw
 dsimp only
 refine bs fun v10 h9 => ?_
 obtain ⟨f4L,f4⟩ := qat h9
 try simp only [List.length_set] at f4L
 try simp only [en.down,f4L] at f4
 refine bs fun v12 h11 => ?_
 have f5 := zoq _ _ h11
 try simp only [en.down,f4L] at f5
 try simp only [f4L] at f1 f4 f5
 rintro ⟨⟩
 exact fF jw
theorem qpt : ∀ p r,q1w p = some r → O.loop 41 0 ⟨[(1,AV.ptr 0 0),(3,AV.map 1),(12,v_l 18 T.Stop.enc p.1),(13,v_i p.2.1),(14,v_i p.2.2.1)],[(0,b_x (T.qa.enc p.2.2.2.1)),(1,b_m p.2.2.2.2)],2⟩ = some (Ex.normal,⟨[(1,AV.ptr 0 0),(3,AV.map 1)],[(0,b_x (T.qa.enc p.2.2.2.1)),(1,b_m r)],2⟩) := by
 refine q1w.partial_correctness _ ?_
 rintro q1w ih178 ⟨t12,t13,t14,i,left⟩ r; dsimp only
 apply it <;> intro h1
 ·refine bg T.Stop.enc fun x3 h2 f1 f2 f3 => ?_
  have f4 := mG left x3.n
  try simp only [en.down] at f4
  have f5 := mP left x3.n (IntKind.i64.wrap ((xy left x3.n) + (1 : Int)))
  try simp only [en.down] at f5
  intro h; have f6 := ih178 _ _ h; clear h
  try simp only [en.down] at f6
  clear ih178; exact fL q8k
 rintro ⟨⟩
 clear ih178; exact fL q8k
theorem zqt {m r} (h : qaf m = some r) : O.call 66 [AV.map 0] [(0,b_m m)] = some (AV.clo 87 [] [AV.ptr 1 0],[(0,b_m m),(1,Blk.box [AV.map 0])]) := by
 revert h; unfold qaf
 rintro ⟨⟩
 exact fF qx2
theorem z0g : ∀ p r,q26 p = some r → O.loop 67 2 ⟨[(1,AV.map 0),(2,AV.ptr 1 0),(5,AV.map 2),(7,AV.ptr 3 0),(8,v_i p.1),(12,v_l 18 T.Stop.enc p.2.1),(13,v_i p.2.2.1),(14,v_i p.2.2.2.1)],[(0,b_m p.2.2.2.2.1),(1,b_x (T.qa.enc p.2.2.2.2.2.1)),(2,b_m p.2.2.2.2.2.2.1),(3,b_x (T.Stop.enc p.2.2.2.2.2.2.2))],4⟩ = some (Ex.normal,⟨[(1,AV.map 0),(2,AV.ptr 1 0),(5,AV.map 2),(12,v_l 18 T.Stop.enc p.2.1),(13,v_i p.2.2.1),(14,v_i p.2.2.2.1)],[(0,b_m p.2.2.2.2.1),(1,b_x (T.qa.enc p.2.2.2.2.2.1)),(2,b_m r),(3,b_x (T.Stop.enc p.2.2.2.2.2.2.2))],4⟩) := by
 refine q26.partial_correctness _ ?_
 rintro q26 ih184 ⟨u,t12,t13,t14,left,i,out,s⟩ r; dsimp only
 apply it <;> intro h1
 ·refine bg T.Stop.enc fun x3 h2 f1 f2 f3 => ?_
  apply it <;> intro h4
  ·have f4 := mG out x3.n
   try simp only [en.down] at f4
   have f5 := mP out x3.n (IntKind.i64.wrap ((xy out x3.n) + (1 : Int)))
   try simp only [en.down] at f5
   refine bs fun v6 h5 => ?_
   have f6 := qaa h5
   try simp only [en.down] at f6
   intro h; have f7 := ih184 _ _ h; clear h
   try simp only [en.down] at f7
   clear ih184; exact fL q37
  refine bs fun v8 h7 => ?_
  have f8 := qaa h7
  try simp only [en.down] at f8
  intro h; have f9 := ih184 _ _ h; clear h
  try simp only [en.down] at f9
  clear ih184; exact fL q37
 rintro ⟨⟩
 clear ih184; exact fL q37
theorem znw : ∀ p r,q0y p = some r → O.loop 67 0 ⟨[(1,AV.map 0),(2,AV.ptr 1 0),(5,AV.map 2),(12,v_l 18 T.Stop.enc p.1),(13,v_i p.2.1),(14,v_i p.2.2.1)],[(0,b_m p.2.2.2.1),(1,b_x (T.qa.enc p.2.2.2.2.1)),(2,b_m p.2.2.2.2.2)],3⟩ = some (Ex.normal,⟨[(5,AV.map 2)],[(0,b_m p.2.2.2.1),(1,b_x (T.qa.enc p.2.2.2.2.1)),(2,b_m r)],3⟩) := by
 refine q0y.partial_correctness _ ?_
 rintro q0y ih183 ⟨t12,t13,t14,left,i,out⟩ r; dsimp only
 apply it <;> intro h1
 ·refine bg T.Stop.enc fun x3 h2 f1 f2 f3 => ?_
  have f4 := mG left x3.n
  try simp only [en.down] at f4
  apply it <;> intro h4
  ·intro h; have f5 := ih183 _ _ h; clear h
   try simp only [en.down] at f5
   clear ih183; exact fL q37
  refine bs fun v6 h5 => ?_
  have f6 := qaa h5
  try simp only [en.down] at f6
  refine bs fun v8 h7 => ?_
  have f7 := z0g _ _ h7
  try simp only [en.down] at f7
  intro h; have f8 := ih183 _ _ h; clear h
  try simp only [en.down] at f8
  clear ih183; exact fL q37
 rintro ⟨⟩
 clear ih183; exact fL q37
theorem zcs {i m r} (h : q74 i m = some r) : O.call 67 [v_g (T.qa.enc i),AV.map 0] [(0,b_m m)] = some (AV.map 1,[(0,b_m m),(1,b_m r)]) := by
 revert h; unfold q74
 refine bs fun v2 h1 => ?_
 have f1 := znw _ _ h1
 try simp only [en.down] at f1
 rintro ⟨⟩
 exact fF q37
theorem zbc {n m r} (h : qap n m = some r) : O.call 69 [v_i n,AV.ptr 0 0] [(0,Blk.box [AV.map 1]),(1,b_m m)] = some (v_b r,[(0,Blk.box [AV.map 1]),(1,b_m m)]) := by
 revert h; unfold qap
 have f1 := mG m n
 try simp only [en.down] at f1
 rintro ⟨⟩
 exact fF z98
def qjt (m1 : ze) : ((Int) ⊕ (Unit)) → Ex × St
 | .inl y => (Ex.ret,⟨[(4,v_i y)],[(0,Blk.box [AV.map 1]),(1,b_m m1)],2⟩)
 | .inr y => (Ex.normal,⟨[(4,AV.undef)],[(0,Blk.box [AV.map 1]),(1,b_m m1)],2⟩)
attribute [local go_sem] qjt
theorem z3h : ∀ p r,q5q p = some r → O.loop 68 0 ⟨[(0,v_l 1 qh p.1),(1,AV.clo 69 [] [AV.ptr 0 0]),(7,v_i p.2.1),(8,v_i p.2.2.1)],[(0,Blk.box [AV.map 1]),(1,b_m p.2.2.2)],2⟩ = some (qjt p.2.2.2 r) := by
 refine q5q.partial_correctness _ ?_
 rintro q5q ih186 ⟨s,t7,t8,m1⟩ r; dsimp only
 apply it <;> intro h1
 ·refine bg qh fun x3 h2 f1 f2 f3 => ?_
  refine bs fun v5 h4 => ?_
  have f4 := zbc h4
  try simp only [en.down] at f4
  apply it <;> intro h6
  ·try simp only [h6] at f4
   rintro ⟨⟩
   clear ih186; exact fL q6t
  try simp only [h6] at f4
  intro h; have f5 := ih186 _ _ h; clear h
  try simp only [en.down] at f5
  try simp only [h6] at f5
  clear ih186; exact fL q6t
 rintro ⟨⟩
 clear ih186; exact fL q6t
theorem zmc {s m r} (h : q7a s m = some r) : O.call 68 [v_l 1 qh s,AV.clo 69 [] [AV.ptr 0 0]] [(0,Blk.box [AV.map 1]),(1,b_m m)] = some (v_i r,[(0,Blk.box [AV.map 1]),(1,b_m m)]) := by
 revert h; unfold q7a
 refine bs fun v2 h1 => ?_
 have f1 := z3h _ _ h1
 try simp only [en.down] at f1
 rcases v2 with y3 | y4
 ·dsimp only
  rintro ⟨⟩
  exact fF q6t
 dsimp only
 rintro ⟨⟩
 exact fF q6t
theorem zkf : ∀ p r,q3i p = some r → O.loop 41 2 ⟨[(1,AV.ptr 0 0),(3,AV.map 1),(6,v_r 2 p.2.2)],[(0,b_x (T.qa.enc p.1)),(1,b_m p.2.1),(2,b_r 1 qh p.2.2)],3⟩ = some (Ex.normal,⟨[(6,v_r 2 r.2)],[(0,b_x (T.qa.enc p.1)),(1,b_m r.1),(2,b_r 1 qh r.2)],3⟩) := by
 refine q3i.partial_correctness _ ?_
 rintro q3i ih179 ⟨i,left,out⟩ r; dsimp only
 apply it <;> intro h1
 ·refine bs fun v3 h2 => ?_
  have f1 := zqt h2
  try simp only [en.down] at f1
  refine bs fun v5 h4 => ?_
  have f2 := qkt h4
  try simp only [en.down] at f2
  refine bs fun v7 h6 => ?_
  have f3 := zcs h6
  try simp only [en.down] at f3
  refine bs fun v9 h8 => ?_
  have f4 := zmc h8
  try simp only [en.down] at f4
  refine bg qh fun x11 h10 f5 f6 f7 => ?_
  refine gd fun h12 => ?_
  have f8 := rG 1 qh out
  have f9 := mD left x11
  try simp only [en.down] at f9
  have f10 : List.map qh out ++ [[PV.int IntKind.i64 x11]] = List.map qh (out ++ [x11]) := by simp only [List.map_append,List.map_cons,List.map_nil,qx,qy,qw,qh] <;> rfl
  intro h; have f11 := ih179 _ _ h; clear h
  try simp only [en.down] at f11
  clear ih179; exact fL q8k
 rintro ⟨⟩
 clear ih179; exact fL q8k
theorem z14 {i r} (h : q7v i = some r) : O.call 41 [v_g (T.qa.enc i)] [] = some (v_l 1 qh r,[]) := by
 revert h; unfold q7v
 refine bs fun v2 h1 => ?_
 have f1 := qpt _ _ h1
 try simp only [en.down] at f1
 refine bs fun v4 h3 => ?_
 have f2 := zkf _ _ h3
 try simp only [en.down] at f2
 rintro ⟨⟩
 exact fF q8k
theorem z4g : ∀ p r,q0l p = some r → O.loop 42 0 ⟨[(0,AV.ptr 0 0),(1,v_i p.1),(2,v_i p.2.1),(3,v_i p.2.2.1),(9,AV.ptr 2 0),(10,v_l 2 T.qd.enc p.2.2.2.1),(11,v_r 3 p.2.2.2.2.2.2.2.2.2.2.2),(47,v_l 2 T.qd.enc p.2.2.2.2.1),(48,v_i p.2.2.2.2.2.1),(49,v_i p.2.2.2.2.2.2.1)],[(0,Blk.box [v_s p.2.2.2.2.2.2.2.1,v_l 2 T.Sel.enc p.2.2.2.2.2.2.2.2.1,v_r 1 p.2.2.2.2.2.2.2.2.2.1]),(1,b_r 3 T.qc.enc p.2.2.2.2.2.2.2.2.2.1),(2,b_x (T.qa.enc p.2.2.2.2.2.2.2.2.2.2.1)),(3,Blk.row false 1 (List.map xm p.2.2.2.2.2.2.2.2.2.2.2))],4⟩ = some (Ex.normal,⟨[(0,AV.ptr 0 0),(1,v_i p.1),(2,v_i p.2.1),(3,v_i p.2.2.1),(9,AV.ptr 2 0),(10,v_l 2 T.qd.enc p.2.2.2.1),(11,v_r 3 r)],[(0,Blk.box [v_s p.2.2.2.2.2.2.2.1,v_l 2 T.Sel.enc p.2.2.2.2.2.2.2.2.1,v_r 1 p.2.2.2.2.2.2.2.2.2.1]),(1,b_r 3 T.qc.enc p.2.2.2.2.2.2.2.2.2.1),(2,b_x (T.qa.enc p.2.2.2.2.2.2.2.2.2.2.1)),(3,Blk.row false 1 (List.map xm r))],4⟩) := by
 refine q0l.partial_correctness _ ?_
 rintro q0l ih190 ⟨d,i,n,marks,t47,t48,t49,w,w2,r1_,in_,held⟩ r; dsimp only
 apply it <;> intro h1
 ·refine bg T.qd.enc fun x3 h2 f1 f2 f3 => ?_
  refine bw xm fun x5 h4 f4 f5 f6 => ?_
  have f7 := map_set xm held t49.toNat x3.held
  try simp only [en.down] at f7
  intro h; have f8 := ih190 _ _ h; clear h
  try simp only [en.down] at f8
  clear ih190; exact fL gz
 rintro ⟨⟩
 clear ih190; exact fL gz
theorem qxx : ∀ p r,jy p = some r → O.loop 70 0 ⟨[(1,v_i p.1),(2,v_l 1 xm p.2.1),(3,AV.ptr 0 0),(7,v_i p.2.2.1),(8,v_i p.2.2.2.1),(9,v_i p.2.2.2.2.1),(10,v_i p.2.2.2.2.2.1)],[(0,b_x (T.qa.enc p.2.2.2.2.2.2))],1⟩ = some (Ex.normal,⟨[(7,v_i r.1),(8,v_i r.2.1),(9,v_i r.2.2)],[(0,b_x (T.qa.enc p.2.2.2.2.2.2))],1⟩) := by
 refine jy.partial_correctness _ ?_
 rintro jy ih192 ⟨n,held,of,first,any_,k,i⟩ r; dsimp only
 apply it <;> intro h1
 ·refine bg T.Stop.enc fun x3 h2 f1 f2 f3 => ?_
  refine q2l ?_ (fun h4 h5 => ?_)
  ·rintro (⟨h4,h5⟩ | ⟨h4,h5⟩)
   all_goals
   intro h; have f4 := ih192 _ _ h; clear h
   try simp only [en.down] at f4
   try simp only [h5] at f4
   clear ih192; exact fL mg
  apply it <;> intro h6
  ·apply it <;> intro h7
   ·refine bg xm fun x9 h8 f5 f6 f7 => ?_
    apply it <;> intro h10
    ·intro h; have f8 := ih192 _ _ h; clear h
     try simp only [en.down] at f8
     try simp only [h5,h6,h10] at f8
     clear ih192; exact fL mg
    intro h; have f9 := ih192 _ _ h; clear h
    try simp only [en.down] at f9
    try simp only [h5,h6,h10] at f9
    clear ih192; exact fL mg
   intro h; have f10 := ih192 _ _ h; clear h
   try simp only [en.down] at f10
   try simp only [h5,h6] at f10
   clear ih192; exact fL mg
  apply it <;> intro h11
  ·refine bg xm fun x13 h12 f11 f12 f13 => ?_
   apply it <;> intro h14
   ·intro h; have f14 := ih192 _ _ h; clear h
    try simp only [en.down] at f14
    try simp only [h5,h6,h14] at f14
    clear ih192; exact fL mg
   intro h; have f15 := ih192 _ _ h; clear h
   try simp only [en.down] at f15
   try simp only [h5,h6,h14] at f15
   clear ih192; exact fL mg
  intro h; have f16 := ih192 _ _ h; clear h
  try simp only [en.down] at f16
  try simp only [h5,h6] at f16
  clear ih192; exact fL mg
 rintro ⟨⟩
 clear ih192; exact fL mg
theorem qpr {i n held r} (h : q86 i n held = some r) : O.call 70 [v_g (T.qa.enc i),v_i n,v_l 1 xm held] [] = some (v_i r,[]) := by
 revert h; unfold q86
 refine bs fun v2 h1 => ?_
 have f1 := qxx _ _ h1
 try simp only [en.down] at f1
 apply it <;> intro h3
 ·rintro ⟨⟩
  exact fF mg
 apply it <;> intro h4
 ·rintro ⟨⟩
  exact fF mg
 rintro ⟨⟩
 exact fF mg
def qjo (b2_ : T.qa) : ((Int × Bytes × (Sl T.Sel) × (List T.qc)) ⊕ (Bytes × (Sl T.Sel) × (List T.qc))) → Ex × St
 | .inl y => (Ex.ret,⟨[(8,v_i y.1)],[(0,Blk.box [v_s y.2.1,v_l 2 T.Sel.enc y.2.2.1,v_r 1 y.2.2.2]),(1,b_r 3 T.qc.enc y.2.2.2),(2,b_x (T.qa.enc b2_)),(3,Blk.dead)],4⟩)
 | .inr y => (Ex.normal,⟨[(8,AV.undef)],[(0,Blk.box [v_s y.1,v_l 2 T.Sel.enc y.2.1,v_r 1 y.2.2]),(1,b_r 3 T.qc.enc y.2.2),(2,b_x (T.qa.enc b2_)),(3,Blk.dead)],4⟩)
attribute [local go_sem] qjo
theorem znd : ∀ p r,jd p = some r → O.loop 42 2 ⟨[(0,AV.ptr 0 0),(1,v_i p.1),(2,v_i p.2.1),(3,v_i p.2.2.1),(15,v_s p.2.2.2.1),(16,v_i p.2.2.2.2.1),(17,v_i p.2.2.2.2.2.1)],[(0,Blk.box [v_s p.2.2.2.2.2.2.1,v_l 2 T.Sel.enc p.2.2.2.2.2.2.2.1,v_r 1 p.2.2.2.2.2.2.2.2.1]),(1,b_r 3 T.qc.enc p.2.2.2.2.2.2.2.2.1),(2,b_x (T.qa.enc p.2.2.2.2.2.2.2.2.2)),(3,Blk.dead)],4⟩ = some (qjo p.2.2.2.2.2.2.2.2.2 r) := by
 refine jd.partial_correctness _ ?_
 rintro jd ih193 ⟨d,i,n,text,id,k,w,w2,r1_,b2_⟩ r; dsimp only
 refine bW T.qc.enc 3 fun x2 h1 f1 f2 f3 f4 f5 => ?_
 refine bg T.qa.enc fun x4 h3 f6 f7 f8 => ?_
 apply it <;> intro h5
 ·refine bg T.Stop.enc fun x7 h6 f9 f10 f11 => ?_
  apply it <;> intro h8
  ·intro h; have f12 := ih193 _ _ h; clear h
   try simp only [en.down,f4,f5] at f12
   try simp only [f4,f5] at f12
   clear ih193; exact fL gz
  refine bg (slE 2 T.qd.enc) fun x10 h9 f13 f14 f15 => ?_
  refine bg T.qd.enc fun x12 h11 f16 f17 f18 => ?_
  apply it <;> intro h13
  ·intro h; have f19 := ih193 _ _ h; clear h
   try simp only [en.down,f4,f5] at f19
   try simp only [f4,f5] at f19
   clear ih193; exact fL gz
  apply it <;> intro h14
  ·rintro ⟨⟩
  have f20 : ((0 : Int) != (0 : Int)) = false := by decide
  refine b2s fun r16 h15 f21 f22 f23 f24 f25 => ?_
  apply it <;> intro h17
  ·intro h; have f26 := ih193 _ _ h; clear h
   try simp only [en.down,f4,f5] at f26
   try simp only [h14,f4,f5] at f26
   clear ih193; exact fL gz
  refine bs fun v19 h18 => ?_
  have f27 := q1h h18
  try simp only [en.down,f4,f5] at f27
  apply it <;> intro h20
  ·try simp only [h14,f4,f5] at f27
   rintro ⟨⟩
   clear ih193; exact fL gz
  refine bs fun v22 h21 => ?_
  have f28 := q17 h21
  try simp only [en.down,f4,f5] at f28
  try simp only [h14,f4,f5] at f27 f28
  intro h; have f29 := ih193 _ _ h; clear h
  try simp only [en.down,f4,f5] at f29
  try simp only [h14,f4,f5] at f29
  clear ih193; exact fL gz
 rintro ⟨⟩
 clear ih193; exact fL gz
theorem zkx {d i n b b_2 r_ r} (h : q2g d i n b b_2 r_ = some r) : O.call 42 [AV.ptr 0 0,v_i d,v_i i,v_i n] [(0,Blk.box [v_s b,v_l 2 T.Sel.enc b_2,v_r 1 r_]),(1,b_r 3 T.qc.enc r_)] = some (v_i r.1,[(0,Blk.box [v_s r.2.1,v_l 2 T.Sel.enc r.2.2.1,v_r 1 r.2.2.2]),(1,b_r 3 T.qc.enc r.2.2.2)]) := by
 revert h; unfold q2g
 refine bW T.qc.enc 3 fun x2 h1 f1 f2 f3 f4 f5 => ?_
 refine bg T.qa.enc fun x4 h3 f6 f7 f8 => ?_
 refine bg (slE 2 T.qd.enc) fun x6 h5 f9 f10 f11 => ?_
 refine gd fun h7 => ?_
 have f12 := q1j IntKind.i64 h7
 refine gd fun h8 => ?_
 have f13 : List.replicate (x6.l.length : Int).toNat [PV.bool false] = List.map xm (List.replicate (x6.l.length : Int).toNat false) := by rw [List.map_replicate]; rfl
 refine bs fun v10 h9 => ?_
 have f14 := z4g _ _ h9
 try simp only [en.down,f4,f5] at f14
 refine bs fun v12 h11 => ?_
 have f15 := qpr h11
 try simp only [en.down,f4,f5] at f15
 apply it <;> intro h13
 ·try simp only [f4,f5] at f14 f15
  rintro ⟨⟩
  exact fF gz
 refine bg T.Stop.enc fun x15 h14 f16 f17 f18 => ?_
 refine b2s fun r17 h16 f19 f20 f21 f22 f23 => ?_
 refine bg T.qd.enc fun x19 h18 f24 f25 f26 => ?_
 refine bs fun v21 h20 => ?_
 have f27 := znd _ _ h20
 try simp only [en.down,f4,f5] at f27
 rcases v21 with y22 | y23
 ·dsimp only
  try simp only [f4,f5] at f14 f15 f27
  rintro ⟨⟩
  exact fF gz
 dsimp only
 try simp only [f4,f5] at f14 f15 f27
 rintro ⟨⟩
 exact fF gz
def qiy (d : Int) (i : Int) : ((Int × Bytes × (Sl T.Sel) × (List T.qc)) ⊕ (Bytes × (Sl T.Sel) × (List T.qc))) → Ex × St
 | .inl y => (Ex.ret,⟨[(0,AV.ptr 0 0),(2,v_i y.1),(3,v_i d),(4,v_i i)],[(0,Blk.box [v_s y.2.1,v_l 2 T.Sel.enc y.2.2.1,v_r 1 y.2.2.2]),(1,b_r 3 T.qc.enc y.2.2.2)],2⟩)
 | .inr y => (Ex.normal,⟨[(0,AV.ptr 0 0),(2,AV.undef),(3,v_i d),(4,v_i i)],[(0,Blk.box [v_s y.1,v_l 2 T.Sel.enc y.2.1,v_r 1 y.2.2]),(1,b_r 3 T.qc.enc y.2.2)],2⟩)
attribute [local go_sem] qiy
theorem z4t : ∀ p r,q4d p = some r → O.loop 20 4 ⟨[(0,AV.ptr 0 0),(3,v_i p.1),(4,v_i p.2.1),(44,v_l 1 qh p.2.2.1),(45,v_i p.2.2.2.1),(46,v_i p.2.2.2.2.1)],[(0,Blk.box [v_s p.2.2.2.2.2.1,v_l 2 T.Sel.enc p.2.2.2.2.2.2.1,v_r 1 p.2.2.2.2.2.2.2]),(1,b_r 3 T.qc.enc p.2.2.2.2.2.2.2)],2⟩ = some (qiy p.1 p.2.1 r) := by
 refine q4d.partial_correctness _ ?_
 rintro q4d ih188 ⟨d,i,t44,t45,t46,w,w2,r1_⟩ r; dsimp only
 apply it <;> intro h1
 ·refine bg qh fun x3 h2 f1 f2 f3 => ?_
  refine bs fun v5 h4 => ?_
  have f4 := zkx h4
  try simp only [en.down] at f4
  apply it <;> intro h6
  ·rintro ⟨⟩
   clear ih188; exact fL gy
  intro h; have f5 := ih188 _ _ h; clear h
  try simp only [en.down] at f5
  clear ih188; exact fL gy
 rintro ⟨⟩
 clear ih188; exact fL gy
def qgi (d : Int) : ((Int × Bytes × (Sl T.Sel) × (List T.qc)) ⊕ (Bytes × (Sl T.Sel) × (List T.qc))) → Ex × St
 | .inl y => (Ex.ret,⟨[(0,AV.ptr 0 0),(2,v_i y.1),(3,v_i d)],[(0,Blk.box [v_s y.2.1,v_l 2 T.Sel.enc y.2.2.1,v_r 1 y.2.2.2]),(1,b_r 3 T.qc.enc y.2.2.2)],2⟩)
 | .inr y => (Ex.normal,⟨[(0,AV.ptr 0 0),(2,AV.undef),(3,v_i d)],[(0,Blk.box [v_s y.1,v_l 2 T.Sel.enc y.2.1,v_r 1 y.2.2]),(1,b_r 3 T.qc.enc y.2.2)],2⟩)
attribute [local go_sem] qgi
theorem qlr : ∀ p r,q31 p = some r → O.loop 20 2 ⟨[(0,AV.ptr 0 0),(3,v_i p.1),(4,v_i p.2.1)],[(0,Blk.box [v_s p.2.2.1,v_l 2 T.Sel.enc p.2.2.2.1,v_r 1 p.2.2.2.2]),(1,b_r 3 T.qc.enc p.2.2.2.2)],2⟩ = some (qgi p.1 r) := by
 refine q31.partial_correctness _ ?_
 rintro q31 ih176 ⟨d,i,w,w2,r1_⟩ r; dsimp only
 refine bW T.qc.enc 3 fun x2 h1 f1 f2 f3 f4 f5 => ?_
 apply it <;> intro h3
 ·refine bg T.qa.enc fun x5 h4 f6 f7 f8 => ?_
  refine bs fun v7 h6 => ?_
  have f9 := z14 h6
  try simp only [en.down,f4,f5] at f9
  refine bs fun v9 h8 => ?_
  have f10 := z4t _ _ h8
  try simp only [en.down,f4,f5] at f10
  rcases v9 with y10 | y11
  ·dsimp only
   try simp only [f4,f5] at f9 f10
   rintro ⟨⟩
   clear ih176; exact fL gy
  dsimp only
  try simp only [f4,f5] at f9 f10
  intro h; have f11 := ih176 _ _ h; clear h
  try simp only [en.down,f4,f5] at f11
  try simp only [f4,f5] at f11
  clear ih176; exact fL gy
 rintro ⟨⟩
 clear ih176; exact fL gy
def qid : ((Int × Bytes × (Sl T.Sel) × (List T.qc)) ⊕ (Bytes × (Sl T.Sel) × (List T.qc))) → Ex × St
 | .inl y => (Ex.ret,⟨[(2,v_i y.1)],[(0,Blk.box [v_s y.2.1,v_l 2 T.Sel.enc y.2.2.1,v_r 1 y.2.2.2]),(1,b_r 3 T.qc.enc y.2.2.2)],2⟩)
 | .inr y => (Ex.normal,⟨[(2,AV.undef)],[(0,Blk.box [v_s y.1,v_l 2 T.Sel.enc y.2.1,v_r 1 y.2.2]),(1,b_r 3 T.qc.enc y.2.2)],2⟩)
attribute [local go_sem] qid
theorem qlk : ∀ p r,q3x p = some r → O.loop 20 0 ⟨[(0,AV.ptr 0 0),(3,v_i p.1)],[(0,Blk.box [v_s p.2.1,v_l 2 T.Sel.enc p.2.2.1,v_r 1 p.2.2.2]),(1,b_r 3 T.qc.enc p.2.2.2)],2⟩ = some (qid r) := by
 refine q3x.partial_correctness _ ?_
 rintro q3x ih175 ⟨d,w,w2,r1_⟩ r; dsimp only
 apply it <;> intro h1
 ·refine bs fun v3 h2 => ?_
  have f1 := qlr _ _ h2
  try simp only [en.down] at f1
  rcases v3 with y4 | y5
  ·dsimp only
   rintro ⟨⟩
   clear ih175; exact fL gy
  dsimp only
  intro h; have f2 := ih175 _ _ h; clear h
  try simp only [en.down] at f2
  clear ih175; exact fL gy
 rintro ⟨⟩
 clear ih175; exact fL gy
theorem qjf {b b_2 r_ r} (h : q68 b b_2 r_ = some r) : O.call 20 [AV.ptr 0 0] [(0,Blk.box [v_s b,v_l 2 T.Sel.enc b_2,v_r 1 r_]),(1,b_r 3 T.qc.enc r_)] = some (v_i r.1,[(0,Blk.box [v_s r.2.1,v_l 2 T.Sel.enc r.2.2.1,v_r 1 r.2.2.2]),(1,b_r 3 T.qc.enc r.2.2.2)]) := by
 revert h; unfold q68
 refine bs fun v2 h1 => ?_
 have f1 := qlk _ _ h1
 try simp only [en.down] at f1
 rcases v2 with y3 | y4
 ·dsimp only
  rintro ⟨⟩
  exact fF gy
 dsimp only
 rintro ⟨⟩
 exact fF gy
theorem zhh : ∀ p r,q0k p = some r → O.loop 21 2 ⟨[(0,AV.ptr 0 0),(2,v_l 2 T.Span.enc p.1),(3,v_i p.2.1),(4,AV.ptr 2 0),(11,v_i p.2.2.1),(12,v_i p.2.2.2.1),(34,v_l 3 T.qa.enc p.2.2.2.2.1),(35,v_i p.2.2.2.2.2.1),(36,v_i p.2.2.2.2.2.2.1)],[(0,Blk.box [v_s p.2.2.2.2.2.2.2.1,v_l 2 T.Sel.enc p.2.2.2.2.2.2.2.2.1,v_r 1 p.2.2.2.2.2.2.2.2.2.1]),(1,b_r 3 T.qc.enc p.2.2.2.2.2.2.2.2.2.1),(2,Blk.box [v_i p.2.2.2.2.2.2.2.2.2.2.1,v_r 3 p.2.2.2.2.2.2.2.2.2.2.2.1,v_r 4 p.2.2.2.2.2.2.2.2.2.2.2.2]),(3,b_r 3 T.qa.enc p.2.2.2.2.2.2.2.2.2.2.2.1),(4,b_r 1 (slE 2 T.qd.enc) p.2.2.2.2.2.2.2.2.2.2.2.2)],5⟩ = some (Ex.normal,⟨[(0,AV.ptr 0 0),(3,v_i p.2.1),(4,AV.ptr 2 0),(11,v_i p.2.2.1),(12,v_i p.2.2.2.1)],[(0,Blk.box [v_s p.2.2.2.2.2.2.2.1,v_l 2 T.Sel.enc p.2.2.2.2.2.2.2.2.1,v_r 1 p.2.2.2.2.2.2.2.2.2.1]),(1,b_r 3 T.qc.enc p.2.2.2.2.2.2.2.2.2.1),(2,Blk.box [v_i p.2.2.2.2.2.2.2.2.2.2.1,v_r 3 r.1,v_r 4 r.2]),(3,b_r 3 T.qa.enc r.1),(4,b_r 1 (slE 2 T.qd.enc) r.2)],5⟩) := by
 refine q0k.partial_correctness _ ?_
 rintro q0k ih196 ⟨around,k,t11,t12,t34,t35,t36,w,w2,r1_,s,r3_,r4_⟩ r; dsimp only
 apply it <;> intro h1
 ·refine bg T.qa.enc fun x3 h2 f1 f2 f3 => ?_
  apply it <;> intro h4
  ·refine gd fun h5 => ?_
   have f4 := rG 3 T.qa.enc r3_
   refine bW T.qc.enc 3 fun x7 h6 f5 f6 f7 f8 f9 => ?_
   refine bg (slE 2 T.qd.enc) fun x9 h8 f10 f11 f12 => ?_
   refine gd fun h10 => ?_
   have f13 := rG 1 (slE 2 T.qd.enc) r4_
   have f14 : List.map T.qa.enc r3_ ++ [[PV.int IntKind.i64 x3.span.frm,PV.int IntKind.i64 x3.span.to,PV.sl x3.stops.nil (szc 18 x3.stops.l) (List.map T.Stop.enc x3.stops.l)]] = List.map T.qa.enc (r3_ ++ [x3]) := by simp only [List.map_append,List.map_cons,List.map_nil,qx,qy,qw,T.qa.qi] <;> rfl
   have f15 : List.map (slE 2 T.qd.enc) r4_ ++ [[PV.sl x9.nil (szc 2 x9.l) (List.map T.qd.enc x9.l)]] = List.map (slE 2 T.qd.enc) (r4_ ++ [x9]) := by simp only [List.map_append,List.map_cons,List.map_nil,qx,qy,qw,T.qd.qi,slE] <;> rfl
   intro h; have f16 := ih196 _ _ h; clear h
   try simp only [en.down,f8,f9] at f16
   try simp only [f8,f9] at f16
   clear ih196; exact fL q2u
  refine bs fun v12 h11 => ?_
  have f17 := qij h11
  try simp only [en.down] at f17
  apply it <;> intro h13
  ·refine gd fun h14 => ?_
   have f18 := rG 3 T.qa.enc r3_
   refine bW T.qc.enc 3 fun x16 h15 f19 f20 f21 f22 f23 => ?_
   refine bg (slE 2 T.qd.enc) fun x18 h17 f24 f25 f26 => ?_
   refine gd fun h19 => ?_
   have f27 := rG 1 (slE 2 T.qd.enc) r4_
   have f28 : List.map T.qa.enc r3_ ++ [[PV.int IntKind.i64 x3.span.frm,PV.int IntKind.i64 x3.span.to,PV.sl x3.stops.nil (szc 18 x3.stops.l) (List.map T.Stop.enc x3.stops.l)]] = List.map T.qa.enc (r3_ ++ [x3]) := by simp only [List.map_append,List.map_cons,List.map_nil,qx,qy,qw,T.qa.qi] <;> rfl
   have f29 : List.map (slE 2 T.qd.enc) r4_ ++ [[PV.sl x18.nil (szc 2 x18.l) (List.map T.qd.enc x18.l)]] = List.map (slE 2 T.qd.enc) (r4_ ++ [x18]) := by simp only [List.map_append,List.map_cons,List.map_nil,qx,qy,qw,T.qd.qi,slE] <;> rfl
   try simp only [h13,f22,f23] at f17
   intro h; have f30 := ih196 _ _ h; clear h
   try simp only [en.down,f22,f23] at f30
   try simp only [h13,f22,f23] at f30
   clear ih196; exact fL q2u
  try simp only [h13] at f17
  intro h; have f31 := ih196 _ _ h; clear h
  try simp only [en.down] at f31
  try simp only [h13] at f31
  clear ih196; exact fL q2u
 rintro ⟨⟩
 clear ih196; exact fL q2u
theorem zb1 : ∀ p r,q3l p = some r → O.loop 21 0 ⟨[(0,AV.ptr 0 0),(2,v_l 2 T.Span.enc p.1),(11,v_i p.2.1),(12,v_i p.2.2.1)],[(0,Blk.box [v_s p.2.2.2.1,v_l 2 T.Sel.enc p.2.2.2.2.1,v_r 1 p.2.2.2.2.2]),(1,b_r 3 T.qc.enc p.2.2.2.2.2)],2⟩ = some (Ex.normal,⟨[],[(0,Blk.box [v_s p.2.2.2.1,v_l 2 T.Sel.enc p.2.2.2.2.1,v_r 1 r]),(1,b_r 3 T.qc.enc r)],2⟩) := by
 refine q3l.partial_correctness _ ?_
 rintro q3l ih195 ⟨around,t11,t12,w,w2,r1_⟩ r; dsimp only
 apply it <;> intro h1
 ·refine bW T.qc.enc 3 fun x3 h2 f1 f2 f3 f4 f5 => ?_
  refine bs fun v5 h4 => ?_
  have f6 := zhh _ _ h4
  try simp only [en.down,f4,f5] at f6
  refine bs fun v7 h6 => ?_
  have f7 := qgj h6
  try simp only [en.down,f4,f5] at f7
  apply it <;> intro h8
  ·rintro ⟨⟩
  have f8 := map_set T.qc.enc r1_ t12.toNat (T.qc.mk (T.qf.mk x3.session.cur (⟨v5.1.isEmpty,v5.1⟩ : (Sl T.qa))) (⟨v5.2.isEmpty,v5.2⟩ : (Sl (Sl T.qd))))
  try simp only [en.down] at f8
  try simp only [f4,f5] at f6 f7 f8
  intro h; have f9 := ih195 _ _ h; clear h
  try simp only [en.down,f4,f5] at f9
  try simp only [f4,f5] at f9
  clear ih195; exact fL q2u
 rintro ⟨⟩
 clear ih195; exact fL q2u
theorem qi2 {b b_2 r_ r} (h : q4u b b_2 r_ = some r) : O.call 21 [AV.ptr 0 0] [(0,Blk.box [v_s b,v_l 2 T.Sel.enc b_2,v_r 1 r_]),(1,b_r 3 T.qc.enc r_)] = some (AV.tup [],[(0,Blk.box [v_s b,v_l 2 T.Sel.enc b_2,v_r 1 r]),(1,b_r 3 T.qc.enc r)]) := by
 revert h; unfold q4u
 refine bs fun v2 h1 => ?_
 have f1 := zb1 _ _ h1
 try simp only [en.down] at f1
 rintro ⟨⟩
 exact fF q2u
end Go.Proofs.YtkbgphcebakcnaaGreat
