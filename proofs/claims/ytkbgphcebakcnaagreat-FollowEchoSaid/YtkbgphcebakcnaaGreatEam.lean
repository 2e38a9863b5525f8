/-
  What the machine's calls come to: the plain functions.
-/
import Derived.Test.YtkbgphcebakcnaaGreatEak
import Derived.Test.YtkbgphcebakcnaaGreatEal
set_option linter.unusedSimpArgs false
set_option linter.unusedVariables false
set_option maxRecDepth 100000
namespace Go.Proofs.YtkbgphcebakcnaaGreat
open Go Go.Gm
attribute [local go_sem] q7q qd5
set_option maxHeartbeats 4000000
theorem zdw : ∀ p r,w9 p = some r → r.2.1.length = p.2.2.2.2.2.2.2.1.length ∧ O.loop 103 2 ⟨[(0,AV.ptr 0 0),(3,v_b p.1),(5,AV.ptr 3 0),(8,v_r 2 p.2.2.2.2.2.2.2.1),(10,v_r 4 p.2.2.2.2.2.2.2.2.2),(11,v_i p.2.1)],[(0,Blk.box [v_i p.2.2.1,v_i p.2.2.2.1,v_s p.2.2.2.2.1,AV.row 1 1 0 1,v_i p.2.2.2.2.2.1,v_i p.2.2.2.2.2.2.1]),(1,Blk.qm 1 [[v_r 2 p.2.2.2.2.2.2.2.1]]),(2,Blk.row false 1 (List.map qh p.2.2.2.2.2.2.2.1)),(3,b_x (T.qa.enc p.2.2.2.2.2.2.2.2.1)),(4,Blk.row false 1 (List.map xm p.2.2.2.2.2.2.2.2.2))],5⟩ = some (Ex.normal,⟨[],[(0,Blk.box [v_i p.2.2.1,v_i p.2.2.2.1,v_s p.2.2.2.2.1,AV.row 1 1 0 1,v_i p.2.2.2.2.2.1,v_i r.1]),(1,Blk.qm 1 [[v_r 2 r.2.1]]),(2,Blk.row false 1 (List.map qh r.2.1)),(3,b_x (T.qa.enc p.2.2.2.2.2.2.2.2.1)),(4,Blk.row false 1 (List.map xm r.2.2))],5⟩) := by
 refine w9.partial_correctness _ ?_
 rintro w9 ih143 ⟨deep,k,r_,r_2,r_3,r_4,r_5,does,i,inside⟩ r; dsimp only
 refine q0r (fun h1 h2 => ?_) ?_
 ·refine bs fun v4 h3 => ?_
  have f1 := q56 h3
  try simp only [en.down] at f1
  apply it <;> intro h5
  ·refine bw xm fun x7 h6 f2 f3 f4 => ?_
   refine bw xm fun x9 h8 f5 f6 f7 => ?_
   have f8 := map_set xm inside k.toNat x7
   try simp only [en.down] at f8
   refine bw xm fun x11 h10 f9 f10 f11 => ?_
   try simp only [List.length_set] at f11
   apply it <;> intro h12
   ·refine bw qh fun x14 h13 f12 f13 f14 => ?_
    apply it <;> intro h15
    ·refine bg T.Stop.enc fun x17 h16 f15 f16 f17 => ?_
     refine bs fun v19 h18 => ?_
     have f18 := qi6 h18
     try simp only [en.down] at f18
     apply it <;> intro h20
     ·refine bw qh fun x22 h21 f19 f20 f21 => ?_
      have f22 := map_set qh does ((IntKind.i64.wrap (k + (1 : Int))).toNat) (1 : Int)
      try simp only [en.down] at f22
      try simp only [h1,h12,h20] at f1 f8 f18 f22
      intro h; obtain ⟨f23L,f23⟩ := ih143 _ _ h; clear h
      try simp only [en.down] at f23
      try simp only [h1,h12,h20] at f23
      clear ih143; exact ⟨by first | rfl | (simp only [List.length_set,f23L]; done),fL yo⟩
     try simp only [h1,h12,h20] at f1 f8 f18
     intro h; obtain ⟨f24L,f24⟩ := ih143 _ _ h; clear h
     try simp only [en.down] at f24
     try simp only [h1,h12,h20] at f24
     clear ih143; exact ⟨by first | rfl | (simp only [List.length_set,f24L]; done),fL yo⟩
    try simp only [h1,h12] at f1 f8
    intro h; obtain ⟨f25L,f25⟩ := ih143 _ _ h; clear h
    try simp only [en.down] at f25
    try simp only [h1,h12] at f25
    clear ih143; exact ⟨by first | rfl | (simp only [List.length_set,f25L]; done),fL yo⟩
   try simp only [h1,h12] at f1 f8
   intro h; obtain ⟨f26L,f26⟩ := ih143 _ _ h; clear h
   try simp only [en.down] at f26
   try simp only [h1,h12] at f26
   clear ih143; exact ⟨by first | rfl | (simp only [List.length_set,f26L]; done),fL yo⟩
  refine bw xm fun x24 h23 f27 f28 f29 => ?_
  have f30 := map_set xm inside k.toNat false
  try simp only [en.down] at f30
  refine bw xm fun x26 h25 f31 f32 f33 => ?_
  try simp only [List.length_set] at f33
  apply it <;> intro h27
  ·refine bw qh fun x29 h28 f34 f35 f36 => ?_
   apply it <;> intro h30
   ·refine bg T.Stop.enc fun x32 h31 f37 f38 f39 => ?_
    refine bs fun v34 h33 => ?_
    have f40 := qi6 h33
    try simp only [en.down] at f40
    apply it <;> intro h35
    ·refine bw qh fun x37 h36 f41 f42 f43 => ?_
     have f44 := map_set qh does ((IntKind.i64.wrap (k + (1 : Int))).toNat) (1 : Int)
     try simp only [en.down] at f44
     try simp only [h1,h27,h35] at f1 f30 f40 f44
     intro h; obtain ⟨f45L,f45⟩ := ih143 _ _ h; clear h
     try simp only [en.down] at f45
     try simp only [h1,h27,h35] at f45
     clear ih143; exact ⟨by first | rfl | (simp only [List.length_set,f45L]; done),fL yo⟩
    try simp only [h1,h27,h35] at f1 f30 f40
    intro h; obtain ⟨f46L,f46⟩ := ih143 _ _ h; clear h
    try simp only [en.down] at f46
    try simp only [h1,h27,h35] at f46
    clear ih143; exact ⟨by first | rfl | (simp only [List.length_set,f46L]; done),fL yo⟩
   try simp only [h1,h27] at f1 f30
   intro h; obtain ⟨f47L,f47⟩ := ih143 _ _ h; clear h
   try simp only [en.down] at f47
   try simp only [h1,h27] at f47
   clear ih143; exact ⟨by first | rfl | (simp only [List.length_set,f47L]; done),fL yo⟩
  try simp only [h1,h27] at f1 f30
  intro h; obtain ⟨f48L,f48⟩ := ih143 _ _ h; clear h
  try simp only [en.down] at f48
  try simp only [h1,h27] at f48
  clear ih143; exact ⟨by first | rfl | (simp only [List.length_set,f48L]; done),fL yo⟩
 rintro (⟨h1,h2⟩ | ⟨h1,h2⟩)
 all_goals
 rintro ⟨⟩
 clear ih143; exact ⟨by first | rfl | (simp only [List.length_set]; done),fL yo⟩
theorem qpi {i stop deep b b_2 b_3 b_4 b_5 r_ r} (h : q3r i stop deep b b_2 b_3 b_4 b_5 r_ = some r) : r.2.length = r_.length ∧ O.call 103 [AV.ptr 0 0,v_g (T.qa.enc i),v_i stop,v_b deep] [(0,Blk.box [v_i b,v_i b_2,v_s b_3,AV.row 1 1 0 1,v_i b_4,v_i b_5]),(1,Blk.qm 1 [[v_r 2 r_]]),(2,Blk.row false 1 (List.map qh r_))] = some (AV.tup [],[(0,Blk.box [v_i b,v_i b_2,v_s b_3,AV.row 1 1 0 1,v_i b_4,v_i r.1]),(1,Blk.qm 1 [[v_r 2 r.2]]),(2,Blk.row false 1 (List.map qh r.2))]) := by
 revert h; unfold q3r
 apply it <;> intro h1
 ·have f1z := qcx (n := 0) h1
  have f1 := qcc (n := 0) h1 IntKind.i64
  refine bw qh fun x3 h2 f2 f3 f4 => ?_
  try simp only [f1z] at f2 f3 f4
  have f5 := map_set qh r_ ((0 : Int).toNat) (1 : Int)
  try simp only [en.down] at f5
  refine bs fun v5 h4 => ?_
  obtain ⟨f6L,f6⟩ := z09 _ _ h4
  try simp only [List.length_set] at f6L
  try simp only [en.down,f6L] at f6
  refine gd fun h6 => ?_
  have f7 := q1j IntKind.i64 h6
  refine gd fun h7 => ?_
  have f8 : List.replicate (i.stops.l.length : Int).toNat [PV.bool false] = List.map xm (List.replicate (i.stops.l.length : Int).toNat false) := by rw [List.map_replicate]; rfl
  refine bw xm fun x9 h8 f9 f10 f11 => ?_
  try simp only [f1z] at f9 f10 f11
  have f12 := map_set xm (List.replicate (i.stops.l.length : Int).toNat false) stop.toNat true
  try simp only [en.down] at f12
  refine bs fun v11 h10 => ?_
  obtain ⟨f13L,f13⟩ := zdw _ _ h10
  try simp only [List.length_set,f6L] at f13L
  try simp only [en.down,f6L,f13L] at f13
  try simp only [f6L,f13L] at f5 f6 f12 f13
  rintro ⟨⟩
  exact ⟨by first | rfl | (simp only [List.length_set,f6L,f13L]; done),fF yo⟩
 rintro ⟨⟩
theorem qkb {x around inst place b b_2 b_3 b_4 b_5 r_ r} (h : q21 x around inst place b b_2 b_3 b_4 b_5 r_ = some r) : O.call 123 [AV.ptr 0 0,v_g (T.Span.enc x),v_i around,v_i inst,v_i place] [(0,Blk.box [v_i b,v_i b_2,v_s b_3,AV.row 1 1 0 1,v_i b_4,v_i b_5]),(1,Blk.qm 1 [[v_r 2 r_]]),(2,Blk.row false 1 (List.map qh r_))] = some (v_i r,[(0,Blk.box [v_i b,v_i b_2,v_s b_3,AV.row 1 1 0 1,v_i b_4,v_i b_5]),(1,Blk.qm 1 [[v_r 2 r_]]),(2,Blk.row false 1 (List.map qh r_))]) := by
 revert h; unfold q21
 apply it <;> intro h1
 ·rintro ⟨⟩
  exact fF q23
 refine q0r (fun h2 h3 => ?_) ?_
 ·rintro ⟨⟩
  exact fF q23
 rintro (⟨h2,h3⟩ | ⟨h2,h3⟩)
 all_goals
 refine qeh ?_ ?_
 ·rintro (⟨h11,h12,h13,h14,h15,h16,h17⟩ | ⟨h11,h12,h13,h14,h15,h16,h17⟩ | ⟨h11,h12,h13,h14,h15,h16,h17⟩ | ⟨h11,h12,h13,h14,h15,h16,h17⟩ | ⟨h11,h12,h13,h14,h15,h16,h17⟩)
  all_goals
   rintro ⟨⟩
   exact fF q23
 rintro (⟨h11,h12,h13,h14,h15,h16,h17⟩ | ⟨h11,h12,h13,h14,h15,h16,h17⟩ | ⟨h11,h12,h13,h14,h15,h16,h17⟩)
 all_goals
  rintro ⟨⟩
  exact fF q23
theorem qhc : ∀ p r,yc p = some r → r.length = p.2.2.2.2.2.2.2.2.2.1.length ∧ O.loop 104 0 ⟨[(0,AV.ptr 0 0),(2,v_i p.1),(4,AV.ptr 3 0),(6,v_r 2 p.2.2.2.2.2.2.2.2.2.1),(28,v_l 18 T.Stop.enc p.2.1),(29,v_i p.2.2.1),(30,v_i p.2.2.2.1)],[(0,Blk.box [v_i p.2.2.2.2.1,v_i p.2.2.2.2.2.1,v_s p.2.2.2.2.2.2.1,AV.row 1 1 0 1,v_i p.2.2.2.2.2.2.2.1,v_i p.2.2.2.2.2.2.2.2.1]),(1,Blk.qm 1 [[v_r 2 p.2.2.2.2.2.2.2.2.2.1]]),(2,Blk.row false 1 (List.map qh p.2.2.2.2.2.2.2.2.2.1)),(3,b_x (T.qa.enc p.2.2.2.2.2.2.2.2.2.2))],4⟩ = some (Ex.normal,⟨[],[(0,Blk.box [v_i p.2.2.2.2.1,v_i p.2.2.2.2.2.1,v_s p.2.2.2.2.2.2.1,AV.row 1 1 0 1,v_i p.2.2.2.2.2.2.2.1,v_i p.2.2.2.2.2.2.2.2.1]),(1,Blk.qm 1 [[v_r 2 r]]),(2,Blk.row false 1 (List.map qh r)),(3,b_x (T.qa.enc p.2.2.2.2.2.2.2.2.2.2))],4⟩) := by
 refine yc.partial_correctness _ ?_
 rintro yc ih148 ⟨inst,t28,t29,t30,r_,r_2,r_3,r_4,r_5,does,i⟩ r; dsimp only
 apply it <;> intro h1
 ·refine bg T.Stop.enc fun x3 h2 f1 f2 f3 => ?_
  refine bw qh fun x5 h4 f4 f5 f6 => ?_
  apply it <;> intro h6
  ·refine bs fun v8 h7 => ?_
   have f7 := q56 h7
   try simp only [en.down] at f7
   refine bw qh fun x10 h9 f8 f9 f10 => ?_
   refine bs fun v12 h11 => ?_
   have f11 := qkb h11
   try simp only [en.down] at f11
   have f12 := map_set qh does ((IntKind.i64.wrap (t30 + (1 : Int))).toNat) v12
   try simp only [en.down] at f12
   intro h; obtain ⟨f13L,f13⟩ := ih148 _ _ h; clear h
   try simp only [en.down] at f13
   clear ih148; exact ⟨by first | rfl | (simp only [List.length_set,f13L]; done),fL q2m⟩
  intro h; obtain ⟨f14L,f14⟩ := ih148 _ _ h; clear h
  try simp only [en.down] at f14
  clear ih148; exact ⟨by first | rfl | (simp only [List.length_set,f14L]; done),fL q2m⟩
 rintro ⟨⟩
 clear ih148; exact ⟨by first | rfl | (simp only [List.length_set]; done),fL q2m⟩
theorem z6y {i inst b b_2 b_3 b_4 b_5 r_ r} (h : q3h i inst b b_2 b_3 b_4 b_5 r_ = some r) : r.length = r_.length ∧ O.call 104 [AV.ptr 0 0,v_g (T.qa.enc i),v_i inst] [(0,Blk.box [v_i b,v_i b_2,v_s b_3,AV.row 1 1 0 1,v_i b_4,v_i b_5]),(1,Blk.qm 1 [[v_r 2 r_]]),(2,Blk.row false 1 (List.map qh r_))] = some (AV.tup [],[(0,Blk.box [v_i b,v_i b_2,v_s b_3,AV.row 1 1 0 1,v_i b_4,v_i b_5]),(1,Blk.qm 1 [[v_r 2 r]]),(2,Blk.row false 1 (List.map qh r))]) := by
 revert h; unfold q3h
 apply it <;> intro h1
 ·have f1z := qcx (n := 0) h1
  have f1 := qcc (n := 0) h1 IntKind.i64
  refine bw qh fun x3 h2 f2 f3 f4 => ?_
  try simp only [f1z] at f2 f3 f4
  apply it <;> intro h4
  ·refine bs fun v6 h5 => ?_
   have f5 := qkb h5
   try simp only [en.down] at f5
   have f6 := map_set qh r_ ((0 : Int).toNat) v6
   try simp only [en.down] at f6
   refine bs fun v8 h7 => ?_
   obtain ⟨f7L,f7⟩ := qhc _ _ h7
   try simp only [List.length_set] at f7L
   try simp only [en.down,f7L] at f7
   try simp only [f7L] at f5 f6 f7
   rintro ⟨⟩
   exact ⟨by first | rfl | (simp only [List.length_set,f7L]; done),fF q2m⟩
  refine bs fun v10 h9 => ?_
  obtain ⟨f8L,f8⟩ := qhc _ _ h9
  try simp only [List.length_set] at f8L
  try simp only [en.down,f8L] at f8
  try simp only [f8L] at f8
  rintro ⟨⟩
  exact ⟨by first | rfl | (simp only [List.length_set,f8L]; done),fF q2m⟩
 rintro ⟨⟩
theorem qdy : ∀ p r,nk p = some r → r.length = p.2.2.2.2.2.2.2.2.2.2.2.2.2.2.2.2.length ∧ O.loop 82 2 ⟨[(10,AV.ptr 2 0),(11,AV.ptr 3 0),(71,v_l 3 T.qa.enc p.1),(72,v_i p.2.1),(73,v_i p.2.2.1)],[(0,b_x (T.qf.enc p.2.2.2.1)),(1,b_x (T.qb.enc p.2.2.2.2.1)),(2,Blk.box [v_i p.2.2.2.2.2.1,v_i p.2.2.2.2.2.2.1,v_s p.2.2.2.2.2.2.2.1,AV.pv (PV.sl true 0 []),v_i p.2.2.2.2.2.2.2.2.1,v_i p.2.2.2.2.2.2.2.2.2.1]),(3,Blk.box [v_i p.2.2.2.2.2.2.2.2.2.2.1,v_i p.2.2.2.2.2.2.2.2.2.2.2.1,v_s p.2.2.2.2.2.2.2.2.2.2.2.2.1,AV.row 7 1 0 1,v_i p.2.2.2.2.2.2.2.2.2.2.2.2.2.1,v_i p.2.2.2.2.2.2.2.2.2.2.2.2.2.2.1]),(4,b_x (T.qa.enc p.2.2.2.2.2.2.2.2.2.2.2.2.2.2.2.1)),(5,Blk.row false 1 (List.map qh p.2.2.2.2.2.2.2.2.2.2.2.2.2.2.2.2)),(6,Blk.qm 1 [[v_r 5 p.2.2.2.2.2.2.2.2.2.2.2.2.2.2.2.2]]),(7,Blk.qm 1 [[v_r 5 p.2.2.2.2.2.2.2.2.2.2.2.2.2.2.2.2]])],8⟩ = some (Ex.normal,⟨[(10,AV.ptr 2 0),(11,AV.ptr 3 0)],[(0,b_x (T.qf.enc p.2.2.2.1)),(1,b_x (T.qb.enc p.2.2.2.2.1)),(2,Blk.box [v_i p.2.2.2.2.2.1,v_i p.2.2.2.2.2.2.1,v_s p.2.2.2.2.2.2.2.1,AV.pv (PV.sl true 0 []),v_i p.2.2.2.2.2.2.2.2.1,v_i p.2.2.2.2.2.2.2.2.2.1]),(3,Blk.box [v_i p.2.2.2.2.2.2.2.2.2.2.1,v_i p.2.2.2.2.2.2.2.2.2.2.2.1,v_s p.2.2.2.2.2.2.2.2.2.2.2.2.1,AV.row 7 1 0 1,v_i p.2.2.2.2.2.2.2.2.2.2.2.2.2.1,v_i p.2.2.2.2.2.2.2.2.2.2.2.2.2.2.1]),(4,b_x (T.qa.enc p.2.2.2.2.2.2.2.2.2.2.2.2.2.2.2.1)),(5,Blk.row false 1 (List.map qh r)),(6,Blk.qm 1 [[v_r 5 r]]),(7,Blk.qm 1 [[v_r 5 r]])],8⟩) := by
 refine nk.partial_correctness _ ?_
 rintro nk ih145 ⟨t71,t72,t73,b0_,b1_,t10,t102,t103,t104,t105,r_,r_2,r_3,r_4,r_5,b4_,r5_⟩ r; dsimp only
 apply it <;> intro h1
 ·refine bg T.qa.enc fun x3 h2 f1 f2 f3 => ?_
  refine bs fun v5 h4 => ?_
  obtain ⟨f4L,f4⟩ := z6y h4
  try simp only [List.length_set] at f4L
  try simp only [en.down,f4L] at f4
  try simp only [f4L] at f4
  intro h; obtain ⟨f5L,f5⟩ := ih145 _ _ h; clear h
  try simp only [en.down,f4L] at f5
  try simp only [f4L] at f5
  clear ih145; exact ⟨by first | rfl | (simp only [List.length_set,f5L,f4L]; done),fL kr⟩
 rintro ⟨⟩
 clear ih145; exact ⟨by first | rfl | (simp only [List.length_set]; done),fL kr⟩
theorem qix {x around inst place b r} (h : q9s x around inst place b = some r) : O.call 123 [AV.ptr 0 0,v_g (T.Span.enc x),v_i around,v_i inst,v_i place] [(0,b_x (T.z8.enc b))] = some (v_i r,[(0,b_x (T.z8.enc b))]) := by
 revert h; unfold q9s
 apply it <;> intro h1
 ·rintro ⟨⟩
  exact fF q23
 refine q0r (fun h2 h3 => ?_) ?_
 ·rintro ⟨⟩
  exact fF q23
 rintro (⟨h2,h3⟩ | ⟨h2,h3⟩)
 all_goals
 refine qeh ?_ ?_
 ·rintro (⟨h11,h12,h13,h14,h15,h16,h17⟩ | ⟨h11,h12,h13,h14,h15,h16,h17⟩ | ⟨h11,h12,h13,h14,h15,h16,h17⟩ | ⟨h11,h12,h13,h14,h15,h16,h17⟩ | ⟨h11,h12,h13,h14,h15,h16,h17⟩)
  all_goals
   rintro ⟨⟩
   exact fF q23
 rintro (⟨h11,h12,h13,h14,h15,h16,h17⟩ | ⟨h11,h12,h13,h14,h15,h16,h17⟩ | ⟨h11,h12,h13,h14,h15,h16,h17⟩)
 all_goals
  rintro ⟨⟩
  exact fF q23
theorem za6 : ∀ p r,q71 p = some r → O.loop 104 0 ⟨[(0,AV.ptr 0 0),(2,v_i p.1),(4,AV.ptr 1 0),(6,v_l 1 qh p.2.1),(28,v_l 18 T.Stop.enc p.2.2.1),(29,v_i p.2.2.2.1),(30,v_i p.2.2.2.2.1)],[(0,b_x (T.z8.enc p.2.2.2.2.2.1)),(1,b_x (T.qa.enc p.2.2.2.2.2.2))],2⟩ = some (Ex.normal,⟨[],[(0,b_x (T.z8.enc p.2.2.2.2.2.1)),(1,b_x (T.qa.enc p.2.2.2.2.2.2))],2⟩) := by
 refine q71.partial_correctness _ ?_
 rintro q71 ih152 ⟨inst,does,t28,t29,t30,r_,i⟩ r; dsimp only
 apply it <;> intro h1
 ·refine bg T.Stop.enc fun x3 h2 f1 f2 f3 => ?_
  refine bg qh fun x5 h4 f4 f5 f6 => ?_
  apply it <;> intro h6
  ·refine bs fun v8 h7 => ?_
   have f7 := q56 h7
   try simp only [en.down] at f7
   refine bg qh fun x10 h9 f8 f9 f10 => ?_
   refine bs fun v12 h11 => ?_
   have f11 := qix h11
   try simp only [en.down] at f11
   rintro ⟨⟩
  intro h; have f12 := ih152 _ _ h; clear h
  try simp only [en.down] at f12
  clear ih152; exact fL q2m
 rintro ⟨⟩
 clear ih152; exact fL q2m
theorem qgl {i inst b r} (h : qar i inst b = some r) : O.call 104 [AV.ptr 0 0,v_g (T.qa.enc i),v_i inst] [(0,b_x (T.z8.enc b))] = some (AV.tup [],[(0,b_x (T.z8.enc b))]) := by
 revert h; unfold qar
 refine bg (slE 1 qh) fun x2 h1 f1 f2 f3 => ?_
 refine bg qh fun x4 h3 f4 f5 f6 => ?_
 apply it <;> intro h5
 ·refine bs fun v7 h6 => ?_
  have f7 := qix h6
  try simp only [en.down] at f7
  rintro ⟨⟩
 refine bs fun v9 h8 => ?_
 have f8 := za6 _ _ h8
 try simp only [en.down] at f8
 rintro ⟨⟩
 exact fF q2m
theorem zrt : ∀ p r,q8j p = some r → O.loop 82 2 ⟨[(10,AV.ptr 2 0),(11,AV.ptr 3 0),(71,v_l 3 T.qa.enc p.1),(72,v_i p.2.1),(73,v_i p.2.2.1)],[(0,b_x (T.qf.enc p.2.2.2.1)),(1,b_x (T.qb.enc p.2.2.2.2.1)),(2,Blk.box [v_i p.2.2.2.2.2.1,v_i p.2.2.2.2.2.2.1,v_s p.2.2.2.2.2.2.2.1,AV.pv (PV.sl true 0 []),v_i p.2.2.2.2.2.2.2.2.1,v_i p.2.2.2.2.2.2.2.2.2.1]),(3,b_x (T.z8.enc p.2.2.2.2.2.2.2.2.2.2))],4⟩ = some (Ex.normal,⟨[(10,AV.ptr 2 0),(11,AV.ptr 3 0)],[(0,b_x (T.qf.enc p.2.2.2.1)),(1,b_x (T.qb.enc p.2.2.2.2.1)),(2,Blk.box [v_i p.2.2.2.2.2.1,v_i p.2.2.2.2.2.2.1,v_s p.2.2.2.2.2.2.2.1,AV.pv (PV.sl true 0 []),v_i p.2.2.2.2.2.2.2.2.1,v_i p.2.2.2.2.2.2.2.2.2.1]),(3,b_x (T.z8.enc p.2.2.2.2.2.2.2.2.2.2))],4⟩) := by
 refine q8j.partial_correctness _ ?_
 rintro q8j ih153 ⟨t71,t72,t73,b0_,b1_,t10,t102,t103,t104,t105,r_⟩ r; dsimp only
 apply it <;> intro h1
 ·refine bg T.qa.enc fun x3 h2 f1 f2 f3 => ?_
  refine bs fun v5 h4 => ?_
  have f4 := qgl h4
  try simp only [en.down] at f4
  intro h; have f5 := ih153 _ _ h; clear h
  try simp only [en.down] at f5
  clear ih153; exact fL kr
 rintro ⟨⟩
 clear ih153; exact fL kr
def qfv (b0_ : T.qf) (b1_ : T.qb) (t10 : Int) (t102 : Int) (t103 : Bytes) (t104 : Int) (t105 : Int) (r_ : Int) (r_2 : Int) (r_3 : Bytes) (r_4 : Int) (r_5 : Int) : ((T.z8) ⊕ (Unit)) → Ex × St
 | .inl y => (Ex.normal,⟨[(10,AV.ptr 2 0),(11,AV.ptr 3 0)],[(0,b_x (T.qf.enc b0_)),(1,b_x (T.qb.enc b1_)),(2,Blk.box [v_i t10,v_i t102,v_s t103,AV.pv (PV.sl true 0 []),v_i t104,v_i t105]),(3,b_x (T.z8.enc y))],4⟩)
 | .inr y => (Ex.normal,⟨[(10,AV.ptr 2 0),(11,AV.ptr 3 0)],[(0,b_x (T.qf.enc b0_)),(1,b_x (T.qb.enc b1_)),(2,Blk.box [v_i t10,v_i t102,v_s t103,AV.pv (PV.sl true 0 []),v_i t104,v_i t105]),(3,Blk.box [v_i r_,v_i r_2,v_s r_3,AV.pv (PV.sl true 0 []),v_i r_4,v_i r_5])],4⟩)
attribute [local go_sem] qfv
theorem qi0 {t71 t72 t73 b0_ b1_ t10 t102 t103 t104 t105 r_ r_2 r_3 r_4 r_5 r} (h : qaq t71 t72 t73 b0_ b1_ t10 t102 t103 t104 t105 r_ r_2 r_3 r_4 r_5 = some r) : O.loop 82 2 ⟨[(10,AV.ptr 2 0),(11,AV.ptr 3 0),(71,v_l 3 T.qa.enc t71),(72,v_i t72),(73,v_i t73)],[(0,b_x (T.qf.enc b0_)),(1,b_x (T.qb.enc b1_)),(2,Blk.box [v_i t10,v_i t102,v_s t103,AV.pv (PV.sl true 0 []),v_i t104,v_i t105]),(3,Blk.box [v_i r_,v_i r_2,v_s r_3,AV.pv (PV.sl true 0 []),v_i r_4,v_i r_5])],4⟩ = some (qfv b0_ b1_ t10 t102 t103 t104 t105 r_ r_2 r_3 r_4 r_5 r) := by
 revert h; unfold qaq
 apply it <;> intro h1
 ·refine bg T.qa.enc fun x3 h2 f1 f2 f3 => ?_
  refine bs fun v5 h4 => ?_
  have f4 := qgl h4
  try simp only [en.down] at f4
  refine bs fun v7 h6 => ?_
  have f5 := zrt _ _ h6
  try simp only [en.down] at f5
  rintro ⟨⟩
  exact fL kr
 rintro ⟨⟩
 exact fL kr
def qbv : ((Int × Int × Bytes × Int × Int × (List Int)) ⊕ (T.z8)) → AV × Heap
 | .inl y => (AV.agg [v_i y.1,v_i y.2.1,v_s y.2.2.1,AV.row 0 1 0 1,v_i y.2.2.2.1,v_i y.2.2.2.2.1],[(0,Blk.qm 1 [[v_r 1 y.2.2.2.2.2]]),(1,Blk.row false 1 (List.map qh y.2.2.2.2.2))])
 | .inr y => (v_g (T.z8.enc y),[])
attribute [local go_sem] qbv
theorem zlw {s inst stop e deep r} (h : q46 s inst stop e deep = some r) : O.call 82 [v_g (T.qf.enc s),v_i inst,v_i stop,v_g (T.qb.enc e),v_b deep] [] = some (qbv r) := by
 revert h; unfold q46
 refine bs fun v2 h1 => ?_
 have f1 := qz4 h1
 try simp only [en.down] at f1
 rcases v2 with y3 | y22
 ·dsimp only
  refine qh7 (fun h4 h5 h6 => ?_) ?_
  ·refine bg T.qa.enc fun x8 h7 f2 f3 f4 => ?_
   apply it <;> intro h9
   ·refine bs fun v11 h10 => ?_
    obtain ⟨f5L,f5⟩ := qpi h10
    try simp only [List.length_set] at f5L
    try simp only [en.down,f5L] at f5
    refine bs fun v13 h12 => ?_
    obtain ⟨f6L,f6⟩ := qdy _ _ h12
    try simp only [List.length_set,f5L] at f6L
    try simp only [en.down,f5L,f6L] at f6
    try simp only [f5L,f6L] at f1 f5 f6
    rintro ⟨⟩
    exact fF kr
   refine bs fun v15 h14 => ?_
   obtain ⟨f7L,f7⟩ := qdy _ _ h14
   try simp only [List.length_set] at f7L
   try simp only [en.down,f7L] at f7
   try simp only [f7L] at f1 f7
   rintro ⟨⟩
   exact fF kr
  rintro (⟨h4,h5,h6⟩ | ⟨h4,h5,h6⟩ | ⟨h4,h5,h6⟩)
  all_goals
  refine bs fun v21 h20 => ?_
  obtain ⟨f8L,f8⟩ := qdy _ _ h20
  try simp only [List.length_set] at f8L
  try simp only [en.down,f8L] at f8
  try simp only [f8L] at f1 f8
  rintro ⟨⟩
  exact fF kr
 dsimp only
 refine qh7 (fun h23 h24 h25 => ?_) ?_
 ·refine bg T.qa.enc fun x27 h26 f9 f10 f11 => ?_
  apply it <;> intro h28
  ·rintro ⟨⟩
  refine bs fun v30 h29 => ?_
  have f12 := qi0 h29
  try simp only [en.down] at f12
  rcases v30 with y31 | y32
  ·dsimp only
   rintro ⟨⟩
   exact fF kr
  dsimp only
  rintro ⟨⟩
  exact fF kr
 rintro (⟨h23,h24,h25⟩ | ⟨h23,h24,h25⟩ | ⟨h23,h24,h25⟩)
 all_goals
 refine bs fun v42 h41 => ?_
 have f13 := qi0 h41
 try simp only [en.down] at f13
 rcases v42 with y43 | y44
 ·dsimp only
  rintro ⟨⟩
  exact fF kr
 dsimp only
 rintro ⟨⟩
 exact fF kr
theorem qof : ∀ p r,q28 p = some r → O.loop 84 0 ⟨[(0,v_i p.1),(1,v_b p.2.1),(14,v_l 3 T.qb.enc p.2.2.1),(15,v_i p.2.2.2.1),(16,v_i p.2.2.2.2)],[(0,Blk.dead)],1⟩ = some (Ex.normal,⟨[(0,v_i r)],[(0,Blk.dead)],1⟩) := by
 refine q28.partial_correctness _ ?_
 rintro q28 ih158 ⟨at_,right,t14,t15,t16⟩ r; dsimp only
 apply it <;> intro h1
 ·refine bg T.qb.enc fun x3 h2 f1 f2 f3 => ?_
  apply it <;> intro h4
  ·intro h; have f4 := ih158 _ _ h; clear h
   try simp only [en.down] at f4
   clear ih158; exact fL zz
  apply it <;> intro h5
  ·refine bs fun v7 h6 => ?_
   have f5 := q1h h6
   try simp only [en.down] at f5
   intro h; have f6 := ih158 _ _ h; clear h
   try simp only [en.down] at f6
   clear ih158; exact fL zz
  apply it <;> intro h8
  ·intro h; have f7 := ih158 _ _ h; clear h
   try simp only [en.down] at f7
   try simp only [h8] at f7
   clear ih158; exact fL zz
  intro h; have f8 := ih158 _ _ h; clear h
  try simp only [en.down] at f8
  try simp only [h8] at f8
  clear ih158; exact fL zz
 rintro ⟨⟩
 clear ih158; exact fL zz
theorem qyz : ∀ p r,q6k p = some r → r.length = p.2.2.length ∧ O.loop 38 0 ⟨[(0,v_r 0 p.2.2),(2,v_i p.1),(3,v_i p.2.1)],[(0,Blk.row false 3 (List.map T.qb.enc p.2.2))],1⟩ = some (Ex.normal,⟨[],[(0,Blk.row false 3 (List.map T.qb.enc r))],1⟩) := by
 refine q6k.partial_correctness _ ?_
 rintro q6k ih160 ⟨i,j,s⟩ r; dsimp only
 apply it <;> intro h1
 ·refine bw T.qb.enc fun x3 h2 f1 f2 f3 => ?_
  refine bw T.qb.enc fun x5 h4 f4 f5 f6 => ?_
  have f7 := map_set T.qb.enc s i.toNat x3
  try simp only [en.down] at f7
  refine bw T.qb.enc fun x7 h6 f8 f9 f10 => ?_
  try simp only [List.length_set] at f10
  have f11 := map_set T.qb.enc (s.set i.toNat x3) j.toNat x5
  try simp only [en.down] at f11
  intro h; obtain ⟨f12L,f12⟩ := ih160 _ _ h; clear h
  try simp only [en.down] at f12
  clear ih160; exact ⟨by first | rfl | (simp only [List.length_set,f12L]; done),fL q77⟩
 rintro ⟨⟩
 clear ih160; exact ⟨by first | rfl | (simp only [List.length_set]; done),fL q77⟩
theorem qat {r_ r} (h : q1l r_ = some r) : r.length = r_.length ∧ O.call 38 [v_r 0 r_] [(0,Blk.row false 3 (List.map T.qb.enc r_))] = some (AV.tup [],[(0,Blk.row false 3 (List.map T.qb.enc r))]) := by
 revert h; unfold q1l
 refine bs fun v2 h1 => ?_
 obtain ⟨f1L,f1⟩ := qyz _ _ h1
 try simp only [List.length_set] at f1L
 try simp only [en.down,f1L] at f1
 try simp only [f1L] at f1
 rintro ⟨⟩
 exact ⟨by first | rfl | (simp only [List.length_set,f1L]; done),fF q77⟩
theorem zec : ∀ p r,uo p = some r → O.loop 84 0 ⟨[(0,v_i p.1),(1,v_b p.2.1),(14,v_r 1 p.2.2.2.2),(15,v_i p.2.2.1),(16,v_i p.2.2.2.1)],[(0,Blk.dead),(1,Blk.row false 3 (List.map T.qb.enc p.2.2.2.2))],2⟩ = some (Ex.normal,⟨[(0,v_i r)],[(0,Blk.dead),(1,Blk.row false 3 (List.map T.qb.enc p.2.2.2.2))],2⟩) := by
 refine uo.partial_correctness _ ?_
 rintro uo ih161 ⟨at_,right,t15,t16,t14⟩ r; dsimp only
 apply it <;> intro h1
 ·refine bw T.qb.enc fun x3 h2 f1 f2 f3 => ?_
  apply it <;> intro h4
  ·intro h; have f4 := ih161 _ _ h; clear h
   try simp only [en.down] at f4
   clear ih161; exact fL zz
  apply it <;> intro h5
  ·refine bs fun v7 h6 => ?_
   have f5 := q1h h6
   try simp only [en.down] at f5
   intro h; have f6 := ih161 _ _ h; clear h
   try simp only [en.down] at f6
   clear ih161; exact fL zz
  apply it <;> intro h8
  ·intro h; have f7 := ih161 _ _ h; clear h
   try simp only [en.down] at f7
   try simp only [h8] at f7
   clear ih161; exact fL zz
  intro h; have f8 := ih161 _ _ h; clear h
  try simp only [en.down] at f8
  try simp only [h8] at f8
  clear ih161; exact fL zz
 rintro ⟨⟩
 clear ih161; exact fL zz
theorem q99 {at_ right r_ r} (h : q00 at_ right r_ = some r) : O.call 84 [v_i at_,v_b right,v_r 0 r_] [(0,Blk.row false 3 (List.map T.qb.enc r_))] = some (v_i r,[(0,Blk.dead)]) := by
 revert h; unfold q00
 refine bs fun v2 h1 => ?_
 have f1 := q90 h1
 try simp only [en.down] at f1
 rcases v2 with y3 | y8
 ·dsimp only
  refine bs fun v5 h4 => ?_
  have f2 := qah h4
  try simp only [en.down] at f2
  refine bs fun v7 h6 => ?_
  have f3 := qof _ _ h6
  try simp only [en.down] at f3
  rintro ⟨⟩
  exact fF zz
 dsimp only
 refine bs fun v10 h9 => ?_
 obtain ⟨f4L,f4⟩ := qat h9
 try simp only [List.length_set] at f4L
 try simp only [en.down,f4L] at f4
 refine bs fun v12 h11 => ?_
 have f5 := zec _ _ h11
 try simp only [en.down,f4L] at f5
 try simp only [f4L] at f1 f4 f5
 rintro ⟨⟩
 exact fF zz
theorem qaz {x does b b_2 b_3 b_4 b_5 r_ r} (h : uw x does b b_2 b_3 b_4 b_5 r_ = some r) : O.call 105 [AV.ptr 0 0,v_g (T.Span.enc x),v_i does] [(0,Blk.box [v_i b,v_i b_2,v_s b_3,AV.row 1 1 0 1,v_i b_4,v_i b_5]),(1,Blk.qm 1 [[v_r 2 r_]]),(2,Blk.row false 1 (List.map qh r_))] = some (v_g (T.Span.enc r),[(0,Blk.box [v_i b,v_i b_2,v_s b_3,AV.row 1 1 0 1,v_i b_4,v_i b_5]),(1,Blk.qm 1 [[v_r 2 r_]]),(2,Blk.row false 1 (List.map qh r_))]) := by
 revert h; unfold uw
 apply it <;> intro h1
 ·refine bs fun v3 h2 => ?_
  have f1 := q1h h2
  try simp only [en.down] at f1
  rintro ⟨⟩
  exact fF q9a
 refine bs fun v5 h4 => ?_
 have f2 := q99 h4
 try simp only [en.down] at f2
 refine bs fun v7 h6 => ?_
 have f3 := q99 h6
 try simp only [en.down] at f3
 rintro ⟨⟩
 exact fF q9a
end Go.Proofs.YtkbgphcebakcnaaGreat
