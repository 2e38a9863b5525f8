/-
  What the machine's calls come to: the plain functions.
-/
import Derived.Test.YtkbgphcebakcnaaGreatFaj
import Derived.Test.YtkbgphcebakcnaaGreatFak
set_option linter.unusedSimpArgs false
set_option linter.unusedVariables false
set_option maxRecDepth 100000
namespace Go.Proofs.YtkbgphcebakcnaaGreat
open Go Go.Gm
attribute [local go_sem] q6h q7w q8u
set_option maxHeartbeats 4000000
theorem qjg : ∀ p r,bq p = some r → O.loop 84 0 ⟨[(0,v_i p.1),(1,v_b p.2.1),(14,v_l 3 T.q9.enc p.2.2.1),(15,v_i p.2.2.2.1),(16,v_i p.2.2.2.2)],[],0⟩ = some (Ex.normal,⟨[(0,v_i r)],[],0⟩) := by
 refine bq.partial_correctness _ ?_
 rintro bq ih106 ⟨at_,right,t14,t15,t16⟩ r; dsimp only
 apply it <;> intro h1
 ·refine bg T.q9.enc fun x3 h2 f1 f2 f3 => ?_
  apply it <;> intro h4
  ·intro h; have f4 := ih106 _ _ h; clear h
   try simp only [en.down] at f4
   clear ih106; exact fL jy
  apply it <;> intro h5
  ·refine bs fun v7 h6 => ?_
   have f5 := q9f h6
   try simp only [en.down] at f5
   intro h; have f6 := ih106 _ _ h; clear h
   try simp only [en.down] at f6
   clear ih106; exact fL jy
  apply it <;> intro h8
  ·intro h; have f7 := ih106 _ _ h; clear h
   try simp only [en.down] at f7
   try simp only [h8] at f7
   clear ih106; exact fL jy
  intro h; have f8 := ih106 _ _ h; clear h
  try simp only [en.down] at f8
  try simp only [h8] at f8
  clear ih106; exact fL jy
 rintro ⟨⟩
 clear ih106; exact fL jy
theorem zf2 : ∀ p r,q1n p = some r → r.length = p.2.2.length ∧ O.loop 38 0 ⟨[(0,v_r 0 p.2.2),(2,v_i p.1),(3,v_i p.2.1)],[(0,Blk.row false 3 (List.map T.q9.enc p.2.2))],1⟩ = some (Ex.normal,⟨[],[(0,Blk.row false 3 (List.map T.q9.enc r))],1⟩) := by
 refine q1n.partial_correctness _ ?_
 rintro q1n ih108 ⟨i,j,s⟩ r; dsimp only
 apply it <;> intro h1
 ·refine bw T.q9.enc fun x3 h2 f1 f2 f3 => ?_
  refine bw T.q9.enc fun x5 h4 f4 f5 f6 => ?_
  have f7 := map_set T.q9.enc s i.toNat x3
  try simp only [en.down] at f7
  refine bw T.q9.enc fun x7 h6 f8 f9 f10 => ?_
  have f11 := map_set T.q9.enc (s.set i.toNat x3) j.toNat x5
  try simp only [en.down] at f11
  intro h; obtain ⟨f12L,f12⟩ := ih108 _ _ h; clear h
  try simp only [en.down] at f12
  clear ih108; exact ⟨by first | rfl | (simp only [List.length_set,f12L]; done),fL q4p⟩
 rintro ⟨⟩
 clear ih108; exact ⟨by first | rfl | (simp only [List.length_set]; done),fL q4p⟩
theorem q87 {r_ r} (h : q1d r_ = some r) : r.length = r_.length ∧ O.call 38 [v_r 0 r_] [(0,Blk.row false 3 (List.map T.q9.enc r_))] = some (AV.tup [],[(0,Blk.row false 3 (List.map T.q9.enc r))]) := by
 revert h; unfold q1d
 refine bs fun v2 h1 => ?_
 obtain ⟨f1L,f1⟩ := zf2 _ _ h1
 try simp only [List.length_set] at f1L
 try simp only [en.down,f1L] at f1
 try simp only [f1L] at f1
 rintro ⟨⟩
 exact ⟨by first | rfl | (simp only [List.length_set,f1L]; done),fF q4p⟩
theorem z4w : ∀ p r,gu p = some r → O.loop 84 0 ⟨[(0,v_i p.1),(1,v_b p.2.1),(14,v_r 0 p.2.2.2.2),(15,v_i p.2.2.1),(16,v_i p.2.2.2.1)],[(0,Blk.row false 3 (List.map T.q9.enc p.2.2.2.2))],1⟩ = some (Ex.normal,⟨[(0,v_i r)],[(0,Blk.row false 3 (List.map T.q9.enc p.2.2.2.2))],1⟩) := by
 refine gu.partial_correctness _ ?_
 rintro gu ih109 ⟨at_,right,t15,t16,t14⟩ r; dsimp only
 apply it <;> intro h1
 ·refine bw T.q9.enc fun x3 h2 f1 f2 f3 => ?_
  apply it <;> intro h4
  ·intro h; have f4 := ih109 _ _ h; clear h
   try simp only [en.down] at f4
   clear ih109; exact fL jy
  apply it <;> intro h5
  ·refine bs fun v7 h6 => ?_
   have f5 := q9f h6
   try simp only [en.down] at f5
   intro h; have f6 := ih109 _ _ h; clear h
   try simp only [en.down] at f6
   clear ih109; exact fL jy
  apply it <;> intro h8
  ·intro h; have f7 := ih109 _ _ h; clear h
   try simp only [en.down] at f7
   try simp only [h8] at f7
   clear ih109; exact fL jy
  intro h; have f8 := ih109 _ _ h; clear h
  try simp only [en.down] at f8
  try simp only [h8] at f8
  clear ih109; exact fL jy
 rintro ⟨⟩
 clear ih109; exact fL jy
theorem qa3 {at_ right es r} (h : q2w at_ right es = some r) : O.call 84 [v_i at_,v_b right,v_l 3 T.q9.enc es] [] = some (v_i r,[]) := by
 revert h; unfold q2w
 refine bs fun v2 h1 => ?_
 have f1 := q8q h1
 try simp only [en.down] at f1
 rcases v2 with y3 | y8
 ·dsimp only
  refine bs fun v5 h4 => ?_
  have f2 := q9w h4
  try simp only [en.down] at f2
  refine bs fun v7 h6 => ?_
  have f3 := qjg _ _ h6
  try simp only [en.down] at f3
  rintro ⟨⟩
  exact fF jy
 dsimp only
 refine bs fun v10 h9 => ?_
 obtain ⟨f4L,f4⟩ := q87 h9
 try simp only [List.length_set] at f4L
 try simp only [en.down,f4L] at f4
 refine bs fun v12 h11 => ?_
 have f5 := z4w _ _ h11
 try simp only [en.down,f4L] at f5
 try simp only [f4L] at f1 f4 f5
 rintro ⟨⟩
 exact fF jy
theorem qxq : ∀ p r,q25 p = some r → O.loop 64 0 ⟨[(1,v_l 3 T.q9.enc p.1),(5,v_r 1 p.2.2.2.2),(8,v_l 2 T.Sel.enc p.2.1),(9,v_i p.2.2.1),(10,v_i p.2.2.2.1)],[(0,Blk.dead),(1,b_r 2 T.Sel.enc p.2.2.2.2)],2⟩ = some (Ex.normal,⟨[(5,v_r 1 r)],[(0,Blk.dead),(1,b_r 2 T.Sel.enc r)],2⟩) := by
 refine q25.partial_correctness _ ?_
 rintro q25 ih104 ⟨es,t8,t9,t10,out⟩ r; dsimp only
 apply it <;> intro h1
 ·refine bg T.Sel.enc fun x3 h2 f1 f2 f3 => ?_
  refine bs fun v5 h4 => ?_
  have f4 := qa3 h4
  try simp only [en.down] at f4
  refine bs fun v7 h6 => ?_
  have f5 := qa3 h6
  try simp only [en.down] at f5
  refine gd fun h8 => ?_
  have f6 := rG 2 T.Sel.enc out
  have f7 : List.map T.Sel.enc out ++ [[PV.int IntKind.i64 v5,PV.int IntKind.i64 v7]] = List.map T.Sel.enc (out ++ [(T.Sel.mk v5 v7)]) := by simp only [List.map_append,List.map_cons,List.map_nil,uf,yg,yn,T.Sel.qh] <;> rfl
  intro h; have f8 := ih104 _ _ h; clear h
  try simp only [en.down] at f8
  clear ih104; exact fL q7v
 rintro ⟨⟩
 clear ih104; exact fL q7v
theorem qaz {l r_ r} (h : q41 l r_ = some r) : O.call 64 [v_l 2 T.Sel.enc l,v_r 0 r_] [(0,Blk.row false 3 (List.map T.q9.enc r_))] = some (v_l 2 T.Sel.enc r,[(0,Blk.dead)]) := by
 revert h; unfold q41
 refine bs fun v2 h1 => ?_
 have f1 := qxq _ _ h1
 try simp only [en.down] at f1
 refine bs fun v4 h3 => ?_
 have f2 := qe5 h3
 try simp only [en.down] at f2
 rintro ⟨⟩
 exact fF q7v
theorem qla {depth typed t92 t93 w w2 t91 e owners r} (h : q77 depth typed t92 t93 w w2 t91 e owners = some r) : O.loop 40 2 ⟨[(0,AV.ptr 0 0),(1,v_i depth),(5,v_b typed),(10,AV.ptr 2 0),(12,v_r 4 owners),(91,v_r 1 t91),(92,v_i t92),(93,v_i t93)],[(0,Blk.box [v_s w,v_l 2 T.Sel.enc w2,v_r 1 t91]),(1,b_r 3 T.qb.enc t91),(2,b_x (T.q9.enc e)),(3,Blk.dead),(4,Blk.row false 2 (List.map (x8 qw) owners))],5⟩ = some (Ex.normal,⟨[(0,AV.ptr 0 0),(10,AV.ptr 2 0)],[(0,Blk.box [v_s w,v_l 2 T.Sel.enc w2,v_r 1 t91]),(1,b_r 3 T.qb.enc t91),(2,b_x (T.q9.enc e)),(3,Blk.dead),(4,Blk.row false 2 (List.map (x8 qw) owners))],5⟩) := by
 revert h; unfold q77
 apply it <;> intro h1
 ·refine bW T.qb.enc 3 fun x3 h2 f1 f2 f3 f4 f5 => ?_
  refine bw (x8 qw) fun x5 h4 f6 f7 f8 => ?_
  apply it <;> intro h6
  ·rintro ⟨⟩
  rintro ⟨⟩
 rintro ⟨⟩
 exact fL q5g
theorem q5u {depth inst stop e typed b b_2 r_ r} (h : q0b depth inst stop e typed b b_2 r_ = some r) : O.call 40 [AV.ptr 0 0,v_i depth,v_i inst,v_i stop,v_g (T.q9.enc e),v_b typed] [(0,Blk.box [v_s b,v_l 2 T.Sel.enc b_2,v_r 1 r_]),(1,b_r 3 T.qb.enc r_)] = some (AV.tup [],[(0,Blk.box [v_s r.1,v_l 2 T.Sel.enc r.2,v_r 1 r_]),(1,b_r 3 T.qb.enc r_)]) := by
 revert h; unfold q0b
 refine bs fun v2 h1 => ?_
 have f1 := z5l h1
 try simp only [en.down] at f1
 apply it <;> intro h3
 ·refine bw (x8 qw) fun x5 h4 f2 f3 f4 => ?_
  have f5 := map_set (x8 qw) v2 depth.toNat (inst,stop)
  try simp only [en.down] at f5
  refine bW T.qb.enc 3 fun x7 h6 f6 f7 f8 f9 f10 => ?_
  refine bg T.qz.enc fun x9 h8 f11 f12 f13 => ?_
  refine bs fun v11 h10 => ?_
  have f14 := qy3 h10
  try simp only [en.down,f9,f10] at f14
  refine bs fun v13 h12 => ?_
  have f15 := qft h12
  try simp only [en.down,f9,f10] at f15
  refine bTs fun r15 h14 f16 f17 f18 => ?_
  refine gd fun h16 => ?_
  have f19 := eq_true h16
  try simp only [en.down] at f19
  refine bFs fun r18 h17 f20 f21 f22 => ?_
  refine gd fun h19 => ?_
  have f23 := eq_true h19
  try simp only [en.down] at f23
  refine bs fun v21 h20 => ?_
  have f24 := qaz h20
  try simp only [en.down,f9,f10] at f24
  try simp only [f9,f10] at f1 f5 f14 f15 f24
  rintro ⟨⟩
  exact fF q5g
 refine bs fun v23 h22 => ?_
 have f25 := qla h22
 try simp only [en.down] at f25
 refine bTs fun r25 h24 f26 f27 f28 => ?_
 refine gd fun h26 => ?_
 have f29 := eq_true h26
 try simp only [en.down] at f29
 refine bFs fun r28 h27 f30 f31 f32 => ?_
 refine gd fun h29 => ?_
 have f33 := eq_true h29
 try simp only [en.down] at f33
 refine bs fun v31 h30 => ?_
 have f34 := qaz h30
 try simp only [en.down] at f34
 rintro ⟨⟩
 exact fF q5g
theorem qlk : ∀ p r,q3p p = some r → O.loop 19 0 ⟨[(0,AV.ptr 0 0),(14,v_l 3 T.q9.enc p.1),(15,v_i p.2.1),(16,v_i p.2.2.1)],[(0,Blk.box [v_s p.2.2.2.1,v_l 2 T.Sel.enc p.2.2.2.2.1,v_r 1 p.2.2.2.2.2]),(1,b_r 3 T.qb.enc p.2.2.2.2.2)],2⟩ = some (Ex.normal,⟨[],[(0,Blk.box [v_s r.1,v_l 2 T.Sel.enc r.2,v_r 1 p.2.2.2.2.2]),(1,b_r 3 T.qb.enc p.2.2.2.2.2)],2⟩) := by
 refine q3p.partial_correctness _ ?_
 rintro q3p ih95 ⟨t14,t15,t16,w,w2,r1_⟩ r; dsimp only
 apply it <;> intro h1
 ·refine bg T.q9.enc fun x3 h2 f1 f2 f3 => ?_
  apply it <;> intro h4
  ·refine bW T.qb.enc 3 fun x6 h5 f4 f5 f6 f7 f8 => ?_
   rintro ⟨⟩
  refine bs fun v8 h7 => ?_
  have f9 := q5u h7
  try simp only [en.down] at f9
  intro h; have f10 := ih95 _ _ h; clear h
  try simp only [en.down] at f10
  clear ih95; exact fL wm
 rintro ⟨⟩
 clear ih95; exact fL wm
theorem qqf : ∀ p r,q04 p = some r → O.loop 19 0 ⟨[(0,AV.ptr 0 0),(14,v_r 2 p.2.2.2.2.2),(15,v_i p.1),(16,v_i p.2.1)],[(0,Blk.box [v_s p.2.2.1,v_l 2 T.Sel.enc p.2.2.2.1,v_r 1 p.2.2.2.2.1]),(1,b_r 3 T.qb.enc p.2.2.2.2.1),(2,Blk.row false 3 (List.map T.q9.enc p.2.2.2.2.2))],3⟩ = some (Ex.normal,⟨[],[(0,Blk.box [v_s r.1,v_l 2 T.Sel.enc r.2,v_r 1 p.2.2.2.2.1]),(1,b_r 3 T.qb.enc p.2.2.2.2.1),(2,Blk.row false 3 (List.map T.q9.enc p.2.2.2.2.2))],3⟩) := by
 refine q04.partial_correctness _ ?_
 rintro q04 ih111 ⟨t15,t16,w,w2,r1_,t14⟩ r; dsimp only
 apply it <;> intro h1
 ·refine bw T.q9.enc fun x3 h2 f1 f2 f3 => ?_
  apply it <;> intro h4
  ·refine bW T.qb.enc 3 fun x6 h5 f4 f5 f6 f7 f8 => ?_
   rintro ⟨⟩
  refine bs fun v8 h7 => ?_
  have f9 := q5u h7
  try simp only [en.down] at f9
  intro h; have f10 := ih111 _ _ h; clear h
  try simp only [en.down] at f10
  clear ih111; exact fL wm
 rintro ⟨⟩
 clear ih111; exact fL wm
theorem qps {es b b_2 r_ r} (h : q3r es b b_2 r_ = some r) : O.call 19 [AV.ptr 0 0,v_l 3 T.q9.enc es] [(0,Blk.box [v_s b,v_l 2 T.Sel.enc b_2,v_r 1 r_]),(1,b_r 3 T.qb.enc r_)] = some (AV.tup [],[(0,Blk.box [v_s r.1,v_l 2 T.Sel.enc r.2,v_r 1 r_]),(1,b_r 3 T.qb.enc r_)]) := by
 revert h; unfold q3r
 refine bs fun v2 h1 => ?_
 have f1 := q8q h1
 try simp only [en.down] at f1
 rcases v2 with y3 | y8
 ·dsimp only
  refine bs fun v5 h4 => ?_
  have f2 := q9w h4
  try simp only [en.down] at f2
  refine bs fun v7 h6 => ?_
  have f3 := qlk _ _ h6
  try simp only [en.down] at f3
  rintro ⟨⟩
  exact fF wm
 dsimp only
 refine bs fun v10 h9 => ?_
 obtain ⟨f4L,f4⟩ := q87 h9
 try simp only [List.length_set] at f4L
 try simp only [en.down,f4L] at f4
 refine bs fun v12 h11 => ?_
 have f5 := qqf _ _ h11
 try simp only [en.down,f4L] at f5
 try simp only [f4L] at f1 f4 f5
 rintro ⟨⟩
 exact fF wm
theorem z2d {d i w w2 r1_ r} (h : q7e d i w w2 r1_ = some r) : O.loop 20 2 ⟨[(0,AV.ptr 0 0),(3,v_i d),(4,v_i i)],[(0,Blk.box [v_s w,v_l 2 T.Sel.enc w2,v_r 1 r1_]),(1,b_r 3 T.qb.enc r1_)],2⟩ = some (Ex.normal,⟨[(0,AV.ptr 0 0),(2,AV.undef),(3,v_i d)],[(0,Blk.box [v_s w,v_l 2 T.Sel.enc w2,v_r 1 r1_]),(1,b_r 3 T.qb.enc r1_)],2⟩) := by
 revert h; unfold q7e
 refine bW T.qb.enc 3 fun x2 h1 f1 f2 f3 f4 f5 => ?_
 apply it <;> intro h3
 ·refine bg T.qz.enc fun x5 h4 f6 f7 f8 => ?_
  rintro ⟨⟩
 rintro ⟨⟩
 exact fL q79
theorem qji : ∀ p r,q2p p = some r → O.loop 20 0 ⟨[(0,AV.ptr 0 0),(3,v_i p.1)],[(0,Blk.box [v_s p.2.1,v_l 2 T.Sel.enc p.2.2.1,v_r 1 p.2.2.2]),(1,b_r 3 T.qb.enc p.2.2.2)],2⟩ = some (Ex.normal,⟨[(2,AV.undef)],[(0,Blk.box [v_s p.2.1,v_l 2 T.Sel.enc p.2.2.1,v_r 1 p.2.2.2]),(1,b_r 3 T.qb.enc p.2.2.2)],2⟩) := by
 refine q2p.partial_correctness _ ?_
 rintro q2p ih113 ⟨d,w,w2,r1_⟩ r; dsimp only
 apply it <;> intro h1
 ·refine bs fun v3 h2 => ?_
  have f1 := z2d h2
  try simp only [en.down] at f1
  intro h; have f2 := ih113 _ _ h; clear h
  try simp only [en.down] at f2
  clear ih113; exact fL q79
 rintro ⟨⟩
 clear ih113; exact fL q79
theorem qck {b b_2 r_ r} (h : tu b b_2 r_ = some r) : O.call 20 [AV.ptr 0 0] [(0,Blk.box [v_s b,v_l 2 T.Sel.enc b_2,v_r 1 r_]),(1,b_r 3 T.qb.enc r_)] = some (v_i r,[(0,Blk.box [v_s b,v_l 2 T.Sel.enc b_2,v_r 1 r_]),(1,b_r 3 T.qb.enc r_)]) := by
 revert h; unfold tu
 refine bs fun v2 h1 => ?_
 have f1 := qji _ _ h1
 try simp only [en.down] at f1
 rintro ⟨⟩
 exact fF q79
theorem z9s : ∀ p r,q4t p = some r → O.loop 21 2 ⟨[(0,AV.ptr 0 0),(2,v_l 2 T.Span.enc p.1),(3,v_i p.2.1),(4,AV.ptr 2 0),(11,v_i p.2.2.1),(12,v_i p.2.2.2.1),(34,v_l 3 T.qz.enc p.2.2.2.2.1),(35,v_i p.2.2.2.2.2.1),(36,v_i p.2.2.2.2.2.2.1)],[(0,Blk.box [v_s p.2.2.2.2.2.2.2.1,v_l 2 T.Sel.enc p.2.2.2.2.2.2.2.2.1,v_r 1 p.2.2.2.2.2.2.2.2.2.1]),(1,b_r 3 T.qb.enc p.2.2.2.2.2.2.2.2.2.1),(2,Blk.box [v_i p.2.2.2.2.2.2.2.2.2.2.1,v_r 3 p.2.2.2.2.2.2.2.2.2.2.2.1,v_r 4 p.2.2.2.2.2.2.2.2.2.2.2.2]),(3,b_r 3 T.qz.enc p.2.2.2.2.2.2.2.2.2.2.2.1),(4,b_r 1 (slE 2 T.zo.enc) p.2.2.2.2.2.2.2.2.2.2.2.2)],5⟩ = some (Ex.normal,⟨[(0,AV.ptr 0 0),(3,v_i p.2.1),(4,AV.ptr 2 0),(11,v_i p.2.2.1),(12,v_i p.2.2.2.1)],[(0,Blk.box [v_s p.2.2.2.2.2.2.2.1,v_l 2 T.Sel.enc p.2.2.2.2.2.2.2.2.1,v_r 1 p.2.2.2.2.2.2.2.2.2.1]),(1,b_r 3 T.qb.enc p.2.2.2.2.2.2.2.2.2.1),(2,Blk.box [v_i p.2.2.2.2.2.2.2.2.2.2.1,v_r 3 r.1,v_r 4 r.2]),(3,b_r 3 T.qz.enc r.1),(4,b_r 1 (slE 2 T.zo.enc) r.2)],5⟩) := by
 refine q4t.partial_correctness _ ?_
 rintro q4t ih117 ⟨around,k,t11,t12,t34,t35,t36,w,w2,r1_,s,r3_,r4_⟩ r; dsimp only
 apply it <;> intro h1
 ·refine bg T.qz.enc fun x3 h2 f1 f2 f3 => ?_
  apply it <;> intro h4
  ·refine gd fun h5 => ?_
   have f4 := rG 3 T.qz.enc r3_
   refine bW T.qb.enc 3 fun x7 h6 f5 f6 f7 f8 f9 => ?_
   refine bg (slE 2 T.zo.enc) fun x9 h8 f10 f11 f12 => ?_
   refine gd fun h10 => ?_
   have f13 := rG 1 (slE 2 T.zo.enc) r4_
   have f14 : List.map T.qz.enc r3_ ++ [[PV.int IntKind.i64 x3.span.frm,PV.int IntKind.i64 x3.span.to,PV.sl x3.stops.nil (szc 18 x3.stops.l) (List.map T.Stop.enc x3.stops.l)]] = List.map T.qz.enc (r3_ ++ [x3]) := by simp only [List.map_append,List.map_cons,List.map_nil,uf,yg,yn,T.qz.qh] <;> rfl
   have f15 : List.map (slE 2 T.zo.enc) r4_ ++ [[PV.sl x9.nil (szc 2 x9.l) (List.map T.zo.enc x9.l)]] = List.map (slE 2 T.zo.enc) (r4_ ++ [x9]) := by simp only [List.map_append,List.map_cons,List.map_nil,uf,yg,yn,T.zo.qh,slE] <;> rfl
   intro h; have f16 := ih117 _ _ h; clear h
   try simp only [en.down,f8,f9] at f16
   try simp only [f8,f9] at f16
   clear ih117; exact fL q5i
  rintro ⟨⟩
 rintro ⟨⟩
 clear ih117; exact fL q5i
theorem zfm {around t11 t12 w w2 r1_ r} (h : q5w around t11 t12 w w2 r1_ = some r) : O.loop 21 0 ⟨[(0,AV.ptr 0 0),(2,v_l 2 T.Span.enc around),(11,v_i t11),(12,v_i t12)],[(0,Blk.box [v_s w,v_l 2 T.Sel.enc w2,v_r 1 r1_]),(1,b_r 3 T.qb.enc r1_)],2⟩ = some (Ex.normal,⟨[],[(0,Blk.box [v_s w,v_l 2 T.Sel.enc w2,v_r 1 r1_]),(1,b_r 3 T.qb.enc r1_)],2⟩) := by
 revert h; unfold q5w
 apply it <;> intro h1
 ·refine bW T.qb.enc 3 fun x3 h2 f1 f2 f3 f4 f5 => ?_
  refine bs fun v5 h4 => ?_
  have f6 := z9s _ _ h4
  try simp only [en.down,f4,f5] at f6
  rintro ⟨⟩
 rintro ⟨⟩
 exact fL q5i
theorem qbf {b b_2 r_ r} (h : q0e b b_2 r_ = some r) : O.call 21 [AV.ptr 0 0] [(0,Blk.box [v_s b,v_l 2 T.Sel.enc b_2,v_r 1 r_]),(1,b_r 3 T.qb.enc r_)] = some (AV.tup [],[(0,Blk.box [v_s b,v_l 2 T.Sel.enc b_2,v_r 1 r_]),(1,b_r 3 T.qb.enc r_)]) := by
 revert h; unfold q0e
 refine bs fun v2 h1 => ?_
 have f1 := zfm h1
 try simp only [en.down] at f1
 rintro ⟨⟩
 exact fF q5i
theorem qty : ∀ p r,q3g p = some r → O.loop 22 0 ⟨[(0,AV.ptr 0 0),(2,AV.ptr 2 0),(3,v_r 3 p.2.2.2.2.2.2),(9,v_r 1 p.2.2.2.2.1),(10,v_i p.1),(11,v_i p.2.1)],[(0,Blk.box [v_s p.2.2.1,v_l 2 T.Sel.enc p.2.2.2.1,v_r 1 p.2.2.2.2.1]),(1,b_r 3 T.qb.enc p.2.2.2.2.1),(2,Blk.box [v_s p.2.2.2.2.2.1,AV.pv (PV.sl true 0 []),AV.pv (PV.sl true 0 [])]),(3,b_r 2 T.qg.enc p.2.2.2.2.2.2)],4⟩ = some (Ex.normal,⟨[(0,AV.ptr 0 0),(2,AV.ptr 2 0),(3,v_r 3 r)],[(0,Blk.box [v_s p.2.2.1,v_l 2 T.Sel.enc p.2.2.2.1,v_r 1 p.2.2.2.2.1]),(1,b_r 3 T.qb.enc p.2.2.2.2.1),(2,Blk.box [v_s p.2.2.2.2.2.1,AV.pv (PV.sl true 0 []),AV.pv (PV.sl true 0 [])]),(3,b_r 2 T.qg.enc r)],4⟩) := by
 refine q3g.partial_correctness _ ?_
 rintro q3g ih119 ⟨t10,t11,w,w2,t9,t2,all_⟩ r; dsimp only
 apply it <;> intro h1
 ·refine bW T.qb.enc 3 fun x3 h2 f1 f2 f3 f4 f5 => ?_
  refine gd fun h4 => ?_
  have f6 := rG 2 T.qg.enc all_
  have f7 : List.map T.qg.enc all_ ++ [[PV.int IntKind.i64 x3.session.cur,PV.sl x3.session.insts.nil (szc 3 x3.session.insts.l) (List.map T.qz.enc x3.session.insts.l)]] = List.map T.qg.enc (all_ ++ [x3.session]) := by simp only [List.map_append,List.map_cons,List.map_nil,uf,yg,yn,T.qg.qh] <;> rfl
  intro h; have f8 := ih119 _ _ h; clear h
  try simp only [en.down,f4,f5] at f8
  try simp only [f4,f5] at f8
  clear ih119; exact fL q7m
 rintro ⟨⟩
 clear ih119; exact fL q7m
theorem qp7 {t8 t9 t7 st st2 t2 all_ r} (h : q6m t8 t9 t7 st st2 t2 all_ = some r) : O.loop 43 0 ⟨[(1,AV.ptr 1 0),(2,AV.ptr 2 0),(3,v_r 3 all_),(7,v_r 0 t7),(8,v_i t8),(9,v_i t9)],[(0,b_r 2 T.qg.enc t7),(1,Blk.box [v_s st,v_l 2 T.Sel.enc st2,v_r 0 t7]),(2,Blk.box [v_s t2,AV.pv (PV.sl true 0 []),AV.pv (PV.sl true 0 [])]),(3,b_r 2 T.qg.enc all_)],4⟩ = some (Ex.normal,⟨[(1,AV.ptr 1 0),(2,AV.ptr 2 0),(3,v_r 3 all_)],[(0,b_r 2 T.qg.enc t7),(1,Blk.box [v_s st,v_l 2 T.Sel.enc st2,v_r 0 t7]),(2,Blk.box [v_s t2,AV.pv (PV.sl true 0 []),AV.pv (PV.sl true 0 [])]),(3,b_r 2 T.qg.enc all_)],4⟩) := by
 revert h; unfold q6m
 apply it <;> intro h1
 ·refine bW T.qg.enc 2 fun x3 h2 f1 f2 f3 f4 f5 => ?_
  rintro ⟨⟩
 rintro ⟨⟩
 exact fL q9j
theorem qzr {st st2 r_ r} (h : q4d st st2 r_ = some r) : O.call 43 [AV.agg [v_s st,v_l 2 T.Sel.enc st2,v_r 0 r_]] [(0,b_r 2 T.qg.enc r_)] = some (v_g (T.State.enc r),[(0,b_r 2 T.qg.enc r_)]) := by
 revert h; unfold q4d
 refine bs fun v2 h1 => ?_
 have f1 := qp7 h1
 try simp only [en.down] at f1
 refine bs fun v4 h3 => ?_
 have f2 := q9m h3
 try simp only [en.down] at f2
 rcases v4 with y5 | y6
 ·dsimp only
  rintro ⟨⟩
  exact fF q9j
 dsimp only
 rintro ⟨⟩
 exact fF q9j
theorem qbm {b b_2 r_ r} (h : q0q b b_2 r_ = some r) : O.call 22 [AV.ptr 0 0] [(0,Blk.box [v_s b,v_l 2 T.Sel.enc b_2,v_r 1 r_]),(1,b_r 3 T.qb.enc r_)] = some (v_g (T.State.enc r),[(0,Blk.box [v_s b,v_l 2 T.Sel.enc b_2,v_r 1 r_]),(1,b_r 3 T.qb.enc r_)]) := by
 revert h; unfold q0q
 refine bs fun v2 h1 => ?_
 have f1 := qty _ _ h1
 try simp only [en.down] at f1
 refine bs fun v4 h3 => ?_
 have f2 := qzr h3
 try simp only [en.down] at f2
 rintro ⟨⟩
 exact fF q7m
theorem qwi {es w r1_ r2_ r} (h : q5k es w r1_ r2_ = some r) : O.loop 18 0 ⟨[(0,AV.ptr 0 0),(1,v_l 3 T.q9.enc es)],[(0,Blk.box [v_s w,v_r 1 r1_,v_r 2 r2_]),(1,Blk.row false 2 (List.map T.Sel.enc r1_)),(2,b_r 3 T.qb.enc r2_)],3⟩ = some (Ex.normal,⟨[],[(0,Blk.box [v_s w,v_r 1 r1_,v_r 2 r2_]),(1,Blk.row false 2 (List.map T.Sel.enc r1_)),(2,b_r 3 T.qb.enc r2_)],3⟩) := by
 revert h; unfold q5k
 apply it <;> intro h1
 ·refine bW T.qb.enc 3 fun x3 h2 f1 f2 f3 f4 f5 => ?_
  rintro ⟨⟩
 rintro ⟨⟩
 exact fL q6d
theorem z8c {es b r_ r_2 r} (h : q4x es b r_ r_2 = some r) : O.call 18 [AV.ptr 0 0,v_l 3 T.q9.enc es] [(0,Blk.box [v_s b,v_r 1 r_,v_r 2 r_2]),(1,Blk.row false 2 (List.map T.Sel.enc r_)),(2,b_r 3 T.qb.enc r_2)] = some (AV.tup [],[(0,Blk.box [v_s b,v_r 1 r_,v_r 2 r_2]),(1,Blk.row false 2 (List.map T.Sel.enc r_)),(2,b_r 3 T.qb.enc r_2)]) := by
 revert h; unfold q4x
 refine bs fun v2 h1 => ?_
 have f1 := qwi h1
 try simp only [en.down] at f1
 rintro ⟨⟩
 exact fF q6d
theorem qgd : ∀ p r,q2d p = some r → O.loop 19 0 ⟨[(0,AV.ptr 0 0),(14,v_l 3 T.q9.enc p.1),(15,v_i p.2.1),(16,v_i p.2.2.1)],[(0,Blk.box [v_s p.2.2.2.1,v_l 2 T.Sel.enc p.2.2.2.2.1,v_r 2 p.2.2.2.2.2]),(1,Blk.dead),(2,b_r 3 T.qb.enc p.2.2.2.2.2)],3⟩ = some (Ex.normal,⟨[],[(0,Blk.box [v_s r.1,v_l 2 T.Sel.enc r.2,v_r 2 p.2.2.2.2.2]),(1,Blk.dead),(2,b_r 3 T.qb.enc p.2.2.2.2.2)],3⟩) := by
 refine q2d.partial_correctness _ ?_
 rintro q2d ih125 ⟨t14,t15,t16,w,w2,r2_⟩ r; dsimp only
 apply it <;> intro h1
 ·refine bg T.q9.enc fun x3 h2 f1 f2 f3 => ?_
  apply it <;> intro h4
  ·refine bW T.qb.enc 3 fun x6 h5 f4 f5 f6 f7 f8 => ?_
   rintro ⟨⟩
  refine bs fun v8 h7 => ?_
  have f9 := q5u h7
  try simp only [en.down] at f9
  intro h; have f10 := ih125 _ _ h; clear h
  try simp only [en.down] at f10
  clear ih125; exact fL wm
 rintro ⟨⟩
 clear ih125; exact fL wm
theorem qpu : ∀ p r,uz p = some r → O.loop 19 0 ⟨[(0,AV.ptr 0 0),(14,v_r 3 p.2.2.2.2.2),(15,v_i p.1),(16,v_i p.2.1)],[(0,Blk.box [v_s p.2.2.1,v_l 2 T.Sel.enc p.2.2.2.1,v_r 2 p.2.2.2.2.1]),(1,Blk.dead),(2,b_r 3 T.qb.enc p.2.2.2.2.1),(3,Blk.row false 3 (List.map T.q9.enc p.2.2.2.2.2))],4⟩ = some (Ex.normal,⟨[],[(0,Blk.box [v_s r.1,v_l 2 T.Sel.enc r.2,v_r 2 p.2.2.2.2.1]),(1,Blk.dead),(2,b_r 3 T.qb.enc p.2.2.2.2.1),(3,Blk.row false 3 (List.map T.q9.enc p.2.2.2.2.2))],4⟩) := by
 refine uz.partial_correctness _ ?_
 rintro uz ih126 ⟨t15,t16,w,w2,r2_,t14⟩ r; dsimp only
 apply it <;> intro h1
 ·refine bw T.q9.enc fun x3 h2 f1 f2 f3 => ?_
  apply it <;> intro h4
  ·refine bW T.qb.enc 3 fun x6 h5 f4 f5 f6 f7 f8 => ?_
   rintro ⟨⟩
  refine bs fun v8 h7 => ?_
  have f9 := q5u h7
  try simp only [en.down] at f9
  intro h; have f10 := ih126 _ _ h; clear h
  try simp only [en.down] at f10
  clear ih126; exact fL wm
 rintro ⟨⟩
 clear ih126; exact fL wm
theorem qir {es b r_ r_2 r} (h : q3o es b r_ r_2 = some r) : O.call 19 [AV.ptr 0 0,v_l 3 T.q9.enc es] [(0,Blk.box [v_s b,v_r 1 r_,v_r 2 r_2]),(1,Blk.row false 2 (List.map T.Sel.enc r_)),(2,b_r 3 T.qb.enc r_2)] = some (AV.tup [],[(0,Blk.box [v_s r.1,v_l 2 T.Sel.enc r.2,v_r 2 r_2]),(1,Blk.dead),(2,b_r 3 T.qb.enc r_2)]) := by
 revert h; unfold q3o
 refine bs fun v2 h1 => ?_
 have f1 := q8q h1
 try simp only [en.down] at f1
 rcases v2 with y3 | y8
 ·dsimp only
  refine bs fun v5 h4 => ?_
  have f2 := q9w h4
  try simp only [en.down] at f2
  refine bs fun v7 h6 => ?_
  have f3 := qgd _ _ h6
  try simp only [en.down] at f3
  rintro ⟨⟩
  exact fF wm
 dsimp only
 refine bs fun v10 h9 => ?_
 obtain ⟨f4L,f4⟩ := q87 h9
 try simp only [List.length_set] at f4L
 try simp only [en.down,f4L] at f4
 refine bs fun v12 h11 => ?_
 have f5 := qpu _ _ h11
 try simp only [en.down,f4L] at f5
 try simp only [f4L] at f1 f4 f5
 rintro ⟨⟩
 exact fF wm
theorem qu6 {st st2 es r} (h : ma st st2 es = some r) : O.call 7 [AV.pv (PV.agg [PV.str st,PV.sl st2.nil (szc 2 st2.l) (List.map T.Sel.enc st2.l),PV.sl true 0 []]),v_l 3 T.q9.enc es] [] = some (AV.tup [v_g (T.State.enc r.1),v_i r.2],[]) := by
 revert h; unfold ma
 refine bs fun v2 h1 => ?_
 have f1 := zar h1
 try simp only [en.down] at f1
 apply it <;> intro h3
 ·rintro ⟨⟩
  exact fF fn7
 refine bs fun v5 h4 => ?_
 have f2 := qdt h4
 try simp only [en.down] at f2
 apply it <;> intro h6
 ·rintro ⟨⟩
  exact fF fn7
 refine bs fun v8 h7 => ?_
 have f3 := qlb h7
 try simp only [en.down] at f3
 rcases v8 with y9 | y21
 ·dsimp only
  refine bs fun v11 h10 => ?_
  have f4 := z6c h10
  try simp only [en.down] at f4
  refine bs fun v13 h12 => ?_
  have f5 := qps h12
  try simp only [en.down] at f5
  refine bs fun v15 h14 => ?_
  have f6 := qck h14
  try simp only [en.down] at f6
  apply it <;> intro h16
  ·rintro ⟨⟩
   exact fF fn7
  refine bs fun v18 h17 => ?_
  have f7 := qbf h17
  try simp only [en.down] at f7
  refine bs fun v20 h19 => ?_
  have f8 := qbm h19
  try simp only [en.down] at f8
  rintro ⟨⟩
  exact fF fn7
 dsimp only
 refine bs fun v23 h22 => ?_
 have f9 := z8c h22
 try simp only [en.down] at f9
 refine bs fun v25 h24 => ?_
 have f10 := qir h24
 try simp only [en.down] at f10
 refine bs fun v27 h26 => ?_
 have f11 := qck h26
 try simp only [en.down] at f11
 apply it <;> intro h28
 ·rintro ⟨⟩
  exact fF fn7
 refine bs fun v30 h29 => ?_
 have f12 := qbf h29
 try simp only [en.down] at f12
 refine bs fun v32 h31 => ?_
 have f13 := qbm h31
 try simp only [en.down] at f13
 rintro ⟨⟩
 exact fF fn7
theorem qh0 {i a b r} (h : q63 i a b = some r) : O.loop 15 0 ⟨[(2,AV.ptr 0 0),(3,AV.ptr 1 0),(5,v_i i)],[(0,b_x (T.State.enc a)),(1,Blk.box [v_s b,AV.pv (PV.sl true 0 []),AV.pv (PV.sl true 0 [])])],2⟩ = some (Ex.normal,⟨[(2,AV.ptr 0 0),(3,AV.ptr 1 0),(4,AV.undef)],[(0,b_x (T.State.enc a)),(1,Blk.box [v_s b,AV.pv (PV.sl true 0 []),AV.pv (PV.sl true 0 [])])],2⟩) := by
 revert h; unfold q63
 apply it <;> intro h1
 ·refine bg T.Sel.enc fun x3 h2 f1 f2 f3 => ?_
  rintro ⟨⟩
 rintro ⟨⟩
 exact fL q6a
theorem qyp {i a b r} (h : q6t i a b = some r) : O.loop 15 2 ⟨[(2,AV.ptr 0 0),(3,AV.ptr 1 0),(6,v_i i)],[(0,b_x (T.State.enc a)),(1,Blk.box [v_s b,AV.pv (PV.sl true 0 []),AV.pv (PV.sl true 0 [])])],2⟩ = some (Ex.normal,⟨[(4,AV.undef)],[(0,b_x (T.State.enc a)),(1,Blk.box [v_s b,AV.pv (PV.sl true 0 []),AV.pv (PV.sl true 0 [])])],2⟩) := by
 revert h; unfold q6t
 apply it <;> intro h1
 ·refine bg T.qg.enc fun x3 h2 f1 f2 f3 => ?_
  rintro ⟨⟩
 rintro ⟨⟩
 exact fL q6a
theorem q9p {a b r} (h : q1f a b = some r) : O.call 15 [v_g (T.State.enc a),AV.pv (PV.agg [PV.str b,PV.sl true 0 [],PV.sl true 0 []])] [] = some (v_b r,[]) := by
 revert h; unfold q1f
 refine qq9 ?_ (fun h1 h2 h3 => ?_)
 ·rintro (⟨h1,h2,h3⟩ | ⟨h1,h2,h3⟩ | ⟨h1,h2,h3⟩)
  all_goals
  rintro ⟨⟩
  exact fF q6a
 refine bs fun v5 h4 => ?_
 have f1 := qh0 h4
 try simp only [en.down] at f1
 refine bs fun v7 h6 => ?_
 have f2 := qyp h6
 try simp only [en.down] at f2
 rintro ⟨⟩
 exact fF q6a
def qey : ((Bool) ⊕ (Unit)) → Ex × St
 | .inl y => (Ex.ret,⟨[(4,v_b y)],[],0⟩)
 | .inr y => (Ex.normal,⟨[(4,AV.undef)],[],0⟩)
attribute [local go_sem] qey
theorem z6a : ∀ p r,q1l p = some r → O.loop 14 0 ⟨[(0,v_l 2 T.Sel.enc p.1),(1,v_l 2 T.Sel.enc p.2.1),(5,v_i p.2.2)],[],0⟩ = some (qey r) := by
 refine q1l.partial_correctness _ ?_
 rintro q1l ih131 ⟨a,b,i⟩ r; dsimp only
 apply it <;> intro h1
 ·refine bg T.Sel.enc fun x3 h2 f1 f2 f3 => ?_
  refine bg T.Sel.enc fun x5 h4 f4 f5 f6 => ?_
  apply it <;> intro h6
  ·rintro ⟨⟩
   clear ih131; exact fL q2t
  intro h; have f7 := ih131 _ _ h; clear h
  try simp only [en.down] at f7
  clear ih131; exact fL q2t
 rintro ⟨⟩
 clear ih131; exact fL q2t
theorem zak {a b r} (h : bz a b = some r) : O.call 14 [v_l 2 T.Sel.enc a,v_l 2 T.Sel.enc b] [] = some (v_b r,[]) := by
 revert h; unfold bz
 apply it <;> intro h1
 ·rintro ⟨⟩
  exact fF q2t
 refine bs fun v3 h2 => ?_
 have f1 := z6a _ _ h2
 try simp only [en.down] at f1
 rcases v3 with y4 | y5
 ·dsimp only
  rintro ⟨⟩
  exact fF q2t
 dsimp only
 rintro ⟨⟩
 exact fF q2t
theorem qhd {text q es r} (h : q6q text q es = some r) : O.call 4 [v_s text,v_l 2 T.Sel.enc q,v_l 3 T.q9.enc es] [] = some (v_b r,[]) := by
 revert h; unfold q6q
 refine q8t ?_ (fun h1 h4 => ?_)
 ·rintro (⟨h1,h4⟩ | ⟨h1,h4⟩)
  all_goals
  refine bs fun v3 h2 => ?_
  have f1 := q00 h2
  try simp only [en.down] at f1
  rintro ⟨⟩
  exact fF fn4
 refine bs fun v8 h7 => ?_
 have f2 := qlt h7
 try simp only [en.down] at f2
 apply it <;> intro h9
 ·refine bs fun v11 h10 => ?_
  have f3 := q00 h10
  try simp only [en.down] at f3
  try simp only [h9] at f2 f3
  rintro ⟨⟩
  exact fF fn4
 refine bs fun v13 h12 => ?_
 have f4 := qu6 h12
 try simp only [en.down] at f4
 refine bs fun v15 h14 => ?_
 have f5 := qdt h14
 try simp only [en.down] at f5
 refine bs fun v17 h16 => ?_
 have f6 := qas h16
 try simp only [en.down] at f6
 apply it <;> intro h18
 ·apply it <;> intro h19
  ·apply it <;> intro h20
   ·refine bs fun v22 h21 => ?_
    have f7 := q00 h21
    try simp only [en.down] at f7
    try simp only [h9] at f2 f4 f5 f6 f7
    rintro ⟨⟩
    exact fF fn4
   refine bs fun v24 h23 => ?_
   have f8 := q9p h23
   try simp only [en.down] at f8
   apply it <;> intro h25
   ·refine bs fun v27 h26 => ?_
    have f9 := q00 h26
    try simp only [en.down] at f9
    try simp only [h9,h25] at f2 f4 f5 f6 f8 f9
    rintro ⟨⟩
    exact fF fn4
   try simp only [h9,h25] at f2 f4 f5 f6 f8
   rintro ⟨⟩
   exact fF fn4
  try simp only [h9] at f2 f4 f5 f6
  rintro ⟨⟩
  exact fF fn4
 refine bs fun v29 h28 => ?_
 have f10 := zak h28
 try simp only [en.down] at f10
 apply it <;> intro h30
 ·apply it <;> intro h31
  ·apply it <;> intro h32
   ·refine bs fun v34 h33 => ?_
    have f11 := q00 h33
    try simp only [en.down] at f11
    try simp only [h9] at f2 f4 f5 f6 f10 f11
    rintro ⟨⟩
    exact fF fn4
   refine bs fun v36 h35 => ?_
   have f12 := q9p h35
   try simp only [en.down] at f12
   apply it <;> intro h37
   ·refine bs fun v39 h38 => ?_
    have f13 := q00 h38
    try simp only [en.down] at f13
    try simp only [h9,h37] at f2 f4 f5 f6 f10 f12 f13
    rintro ⟨⟩
    exact fF fn4
   try simp only [h9,h37] at f2 f4 f5 f6 f10 f12
   rintro ⟨⟩
   exact fF fn4
  try simp only [h9] at f2 f4 f5 f6 f10
  rintro ⟨⟩
  exact fF fn4
 apply it <;> intro h40
 ·apply it <;> intro h41
  ·refine bs fun v43 h42 => ?_
   have f14 := q00 h42
   try simp only [en.down] at f14
   try simp only [h9] at f2 f4 f5 f6 f10 f14
   rintro ⟨⟩
   exact fF fn4
  refine bs fun v45 h44 => ?_
  have f15 := q9p h44
  try simp only [en.down] at f15
  apply it <;> intro h46
  ·refine bs fun v48 h47 => ?_
   have f16 := q00 h47
   try simp only [en.down] at f16
   try simp only [h9,h46] at f2 f4 f5 f6 f10 f15 f16
   rintro ⟨⟩
   exact fF fn4
  try simp only [h9,h46] at f2 f4 f5 f6 f10 f15
  rintro ⟨⟩
  exact fF fn4
 try simp only [h9] at f2 f4 f5 f6 f10
 rintro ⟨⟩
 exact fF fn4
end Go.Proofs.YtkbgphcebakcnaaGreat
