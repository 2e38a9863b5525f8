/-
  What the machine's calls come to: the plain functions.
-/
import Derived.Test.YtdhgdeelagmbpaaGreatQak
import Derived.Test.YtdhgdeelagmbpaaGreatQal
set_option linter.unusedSimpArgs false
set_option linter.unusedVariables false
set_option maxRecDepth 100000
namespace Go.Proofs.YtdhgdeelagmbpaaGreat
open Go Go.Gm
set_option maxHeartbeats 4000000
def qk1 : ((Bytes × Int × Bytes × (Sl T.qi) × Bytes × Bytes × (List T.qf) × (List Int) × (List Bytes) × (List Int) × (List Bytes)) ⊕ (Bytes × (Sl T.qi) × Bytes × Bytes × (List T.qf) × (List Int) × (List Bytes) × (List Int) × (List Bytes))) → Ex × St
 | .inl y => (Ex.ret,⟨[(8,v_s y.1),(9,v_i y.2.1),(10,v_s y.2.2.1)],[(0,Blk.box [v_l 2 T.qi.enc y.2.2.2.1,v_s y.2.2.2.2.1,v_s y.2.2.2.2.2.1,v_r 2 y.2.2.2.2.2.2.1,v_r 3 y.2.2.2.2.2.2.2.1,v_r 4 y.2.2.2.2.2.2.2.2.1]),(1,Blk.box [v_r 5 y.2.2.2.2.2.2.2.2.2.1,v_r 6 y.2.2.2.2.2.2.2.2.2.2]),(2,b_r 20 T.qf.enc y.2.2.2.2.2.2.1),(3,b_r 1 qb y.2.2.2.2.2.2.2.1),(4,b_r 1 qh y.2.2.2.2.2.2.2.2.1),(5,b_r 1 qb y.2.2.2.2.2.2.2.2.2.1),(6,b_r 1 qh y.2.2.2.2.2.2.2.2.2.2)],7⟩)
 | .inr y => (Ex.normal,⟨[(8,AV.undef),(9,AV.undef),(10,v_s y.1)],[(0,Blk.box [v_l 2 T.qi.enc y.2.1,v_s y.2.2.1,v_s y.2.2.2.1,v_r 2 y.2.2.2.2.1,v_r 3 y.2.2.2.2.2.1,v_r 4 y.2.2.2.2.2.2.1]),(1,Blk.box [v_r 5 y.2.2.2.2.2.2.2.1,v_r 6 y.2.2.2.2.2.2.2.2]),(2,b_r 20 T.qf.enc y.2.2.2.2.1),(3,b_r 1 qb y.2.2.2.2.2.1),(4,b_r 1 qh y.2.2.2.2.2.2.1),(5,b_r 1 qb y.2.2.2.2.2.2.2.1),(6,b_r 1 qh y.2.2.2.2.2.2.2.2)],7⟩)
attribute [local go_sem] qk1
theorem qg3 : (∀ p r,q00 p = some r → O.call 67 [AV.ptr 0 0,AV.ptr 1 0,v_i p.1] [(0,Blk.box [v_l 2 T.qi.enc p.2.1,v_s p.2.2.1,v_s p.2.2.2.1,v_r 2 p.2.2.2.2.1,v_r 3 p.2.2.2.2.2.1,v_r 4 p.2.2.2.2.2.2.1]),(1,Blk.box [v_r 5 p.2.2.2.2.2.2.2.1,v_r 6 p.2.2.2.2.2.2.2.2]),(2,b_r 20 T.qf.enc p.2.2.2.2.1),(3,b_r 1 qb p.2.2.2.2.2.1),(4,b_r 1 qh p.2.2.2.2.2.2.1),(5,b_r 1 qb p.2.2.2.2.2.2.2.1),(6,b_r 1 qh p.2.2.2.2.2.2.2.2)] = some (AV.tup [v_s r.1,v_i r.2.1],[(0,Blk.box [v_l 2 T.qi.enc r.2.2.1,v_s r.2.2.2.1,v_s r.2.2.2.2.1,v_r 2 r.2.2.2.2.2.1,v_r 3 r.2.2.2.2.2.2.1,v_r 4 r.2.2.2.2.2.2.2.1]),(1,Blk.box [v_r 5 r.2.2.2.2.2.2.2.2.1,v_r 6 r.2.2.2.2.2.2.2.2.2]),(2,b_r 20 T.qf.enc r.2.2.2.2.2.1),(3,b_r 1 qb r.2.2.2.2.2.2.1),(4,b_r 1 qh r.2.2.2.2.2.2.2.1),(5,b_r 1 qb r.2.2.2.2.2.2.2.2.1),(6,b_r 1 qh r.2.2.2.2.2.2.2.2.2)])) ∧ (∀ p r,q8a p = some r → O.call 80 [AV.ptr 0 0,AV.ptr 1 0,v_i p.1] [(0,Blk.box [v_l 2 T.qi.enc p.2.1,v_s p.2.2.1,v_s p.2.2.2.1,v_r 2 p.2.2.2.2.1,v_r 3 p.2.2.2.2.2.1,v_r 4 p.2.2.2.2.2.2.1]),(1,Blk.box [v_r 5 p.2.2.2.2.2.2.2.1,v_r 6 p.2.2.2.2.2.2.2.2]),(2,b_r 20 T.qf.enc p.2.2.2.2.1),(3,b_r 1 qb p.2.2.2.2.2.1),(4,b_r 1 qh p.2.2.2.2.2.2.1),(5,b_r 1 qb p.2.2.2.2.2.2.2.1),(6,b_r 1 qh p.2.2.2.2.2.2.2.2)] = some (AV.tup [v_s r.1,v_i r.2.1],[(0,Blk.box [v_l 2 T.qi.enc r.2.2.1,v_s r.2.2.2.1,v_s r.2.2.2.2.1,v_r 2 r.2.2.2.2.2.1,v_r 3 r.2.2.2.2.2.2.1,v_r 4 r.2.2.2.2.2.2.2.1]),(1,Blk.box [v_r 5 r.2.2.2.2.2.2.2.2.1,v_r 6 r.2.2.2.2.2.2.2.2.2]),(2,b_r 20 T.qf.enc r.2.2.2.2.2.1),(3,b_r 1 qb r.2.2.2.2.2.2.1),(4,b_r 1 qh r.2.2.2.2.2.2.2.1),(5,b_r 1 qb r.2.2.2.2.2.2.2.2.1),(6,b_r 1 qh r.2.2.2.2.2.2.2.2.2)])) ∧ (∀ p r,qd4 p = some r → O.call 44 [AV.ptr 0 0,AV.ptr 1 0,v_i p.1,v_i p.2.1] [(0,Blk.box [v_l 2 T.qi.enc p.2.2.1,v_s p.2.2.2.1,v_s p.2.2.2.2.1,v_r 2 p.2.2.2.2.2.1,v_r 3 p.2.2.2.2.2.2.1,v_r 4 p.2.2.2.2.2.2.2.1]),(1,Blk.box [v_r 5 p.2.2.2.2.2.2.2.2.1,v_r 6 p.2.2.2.2.2.2.2.2.2]),(2,b_r 20 T.qf.enc p.2.2.2.2.2.1),(3,b_r 1 qb p.2.2.2.2.2.2.1),(4,b_r 1 qh p.2.2.2.2.2.2.2.1),(5,b_r 1 qb p.2.2.2.2.2.2.2.2.1),(6,b_r 1 qh p.2.2.2.2.2.2.2.2.2)] = some (AV.tup [v_s r.1,v_i r.2.1],[(0,Blk.box [v_l 2 T.qi.enc r.2.2.1,v_s r.2.2.2.1,v_s r.2.2.2.2.1,v_r 2 r.2.2.2.2.2.1,v_r 3 r.2.2.2.2.2.2.1,v_r 4 r.2.2.2.2.2.2.2.1]),(1,Blk.box [v_r 5 r.2.2.2.2.2.2.2.2.1,v_r 6 r.2.2.2.2.2.2.2.2.2]),(2,b_r 20 T.qf.enc r.2.2.2.2.2.1),(3,b_r 1 qb r.2.2.2.2.2.2.1),(4,b_r 1 qh r.2.2.2.2.2.2.2.1),(5,b_r 1 qb r.2.2.2.2.2.2.2.2.1),(6,b_r 1 qh r.2.2.2.2.2.2.2.2.2)])) ∧ (∀ p r,q55 p = some r → O.loop 44 0 ⟨[(0,AV.ptr 0 0),(1,AV.ptr 1 0),(3,v_i p.1),(10,v_s p.2.1),(11,v_i p.2.2.1)],[(0,Blk.box [v_l 2 T.qi.enc p.2.2.2.1,v_s p.2.2.2.2.1,v_s p.2.2.2.2.2.1,v_r 2 p.2.2.2.2.2.2.1,v_r 3 p.2.2.2.2.2.2.2.1,v_r 4 p.2.2.2.2.2.2.2.2.1]),(1,Blk.box [v_r 5 p.2.2.2.2.2.2.2.2.2.1,v_r 6 p.2.2.2.2.2.2.2.2.2.2]),(2,b_r 20 T.qf.enc p.2.2.2.2.2.2.1),(3,b_r 1 qb p.2.2.2.2.2.2.2.1),(4,b_r 1 qh p.2.2.2.2.2.2.2.2.1),(5,b_r 1 qb p.2.2.2.2.2.2.2.2.2.1),(6,b_r 1 qh p.2.2.2.2.2.2.2.2.2.2)],7⟩ = some (qk1 r)) := by
 refine q00.mutual_partial_correctness _ _ _ _ ?_ ?_ ?_ ?_
 ·rintro q8a ih131 ⟨i,b,b_2,b_3,r_,r_2,r_3,r_4,r_5⟩ r; dsimp only
  refine bW T.qf.enc 20 fun x2 h1 f1 f2 f3 f4 f5 => ?_
  apply it <;> intro h3
  ·refine bs fun v5 h4 => ?_
   have f6 := qqt h4
   try simp only [en.down,f4,f5] at f6
   apply it <;> intro h6
   ·refine bs fun v8 h7 => ?_
    have f7 := ih131 _ _ h7
    try simp only [en.down,f4,f5] at f7
    apply it <;> intro h9
    ·try simp only [f4,f5] at f6 f7
     rintro ⟨⟩
     clear ih131; exact fF q74
    refine gd fun h10 => ?_
    have f8 := rG 1 qb v8.2.2.2.2.2.2.2.2.1
    refine gd fun h11 => ?_
    have f9 := rG 1 qh v8.2.2.2.2.2.2.2.2.2
    have f10 : List.map qh v8.2.2.2.2.2.2.2.2.2 ++ [[PV.str v8.1]] = List.map qh (v8.2.2.2.2.2.2.2.2.2 ++ [v8.1]) := by simp only [List.map_append,List.map_cons,List.map_nil,ze,z8,zb,qh] <;> rfl
    refine bw qh fun x13 h12 f11 f12 f13 => ?_
    apply it <;> intro h14
    ·refine bs fun v16 h15 => ?_
     have f14 := qg7 h15
     try simp only [en.down,f4,f5] at f14
     have f15 : List.map qb v8.2.2.2.2.2.2.2.2.1 ++ [[PV.int IntKind.i64 x2.n]] = List.map qb (v8.2.2.2.2.2.2.2.2.1 ++ [x2.n]) := by simp only [List.map_append,List.map_cons,List.map_nil,ze,z8,zb,qb] <;> rfl
     try simp only [h14,f4,f5] at f6 f7 f14
     rintro ⟨⟩
     clear ih131; exact fF q74
    have f16 : List.map qb v8.2.2.2.2.2.2.2.2.1 ++ [[PV.int IntKind.i64 x2.n]] = List.map qb (v8.2.2.2.2.2.2.2.2.1 ++ [x2.n]) := by simp only [List.map_append,List.map_cons,List.map_nil,ze,z8,zb,qb] <;> rfl
    try simp only [h14,f4,f5] at f6 f7
    rintro ⟨⟩
    clear ih131; exact fF q74
   refine bW qh 1 fun x18 h17 f17 f18 f19 f20 f21 => ?_
   apply it <;> intro h19
   ·refine bs fun v21 h20 => ?_
    have f22 := qg7 h20
    try simp only [en.down,f4,f5,f20,f21] at f22
    try simp only [h19,f4,f5,f20,f21] at f6 f22
    rintro ⟨⟩
    clear ih131; exact fF q74
   try simp only [h19,f4,f5,f20,f21] at f6
   rintro ⟨⟩
   clear ih131; exact fF q74
  apply it <;> intro h22
  ·refine bs fun v24 h23 => ?_
   have f23 := qg7 h23
   try simp only [en.down,f4,f5] at f23
   try simp only [h22,f4,f5] at f23
   rintro ⟨⟩
   clear ih131; exact fF q74
  rintro ⟨⟩
  clear ih131; exact fF q74
 ·rintro qd4 ih132 ⟨n,b,b_2,b_3,r_,r_2,r_3,r_4,r_5⟩ r; dsimp only
  refine bs fun v2 h1 => ?_
  have f1 := qfx h1
  try simp only [en.down] at f1
  apply it <;> intro h3
  ·rintro ⟨⟩
   clear ih132; exact fF qe2
  refine bW T.qf.enc 20 fun x5 h4 f2 f3 f4 f5 f6 => ?_
  apply it <;> intro h6
  ·refine bg qh fun x8 h7 f7 f8 f9 => ?_
   apply it <;> intro h9
   ·try simp only [f5,f6] at f1
    rintro ⟨⟩
    clear ih132; exact fF qe2
   try simp only [f5,f6] at f1
   rintro ⟨⟩
   clear ih132; exact fF qe2
  refine bs fun v11 h10 => ?_
  have f10 := ih132 _ _ h10
  try simp only [en.down,f5,f6] at f10
  try simp only [f5,f6] at f1 f10
  rintro ⟨⟩
  clear ih132; exact fF qe2
 ·rintro q55 ih133 ⟨frm,to,b,b_2,b_3,r_,r_2,r_3,r_4,r_5⟩ r; dsimp only
  refine bs fun v2 h1 => ?_
  have f1 := ih133 _ _ h1
  try simp only [en.down] at f1
  rcases v2 with y3 | y4
  ·dsimp only
   rintro ⟨⟩
   clear ih133; exact fF q0p
  dsimp only
  rintro ⟨⟩
  clear ih133; exact fF q0p
 ·rintro q00 q55 ih128 ih133 ⟨to,s,i,w,w2,w3,r2_,r3_,r4_,r5_,r6_⟩ r; dsimp only
  apply it <;> intro h1
  ·refine bs fun v3 h2 => ?_
   have f1 := ih128 _ _ h2
   try simp only [en.down] at f1
   apply it <;> intro h4
   ·rintro ⟨⟩
    clear ih128 ih133; exact fL q0p
   refine gd fun h5 => ?_
   have f2 := eq_true h5
   try simp only [en.down] at f2
   apply it <;> intro h6
   ·rintro ⟨⟩
    clear ih128 ih133; exact fL q0p
   refine bW T.qf.enc 20 fun x8 h7 f3 f4 f5 f6 f7 => ?_
   try simp only [f6,f7] at f1
   intro h; have f8 := ih133 _ _ h; clear h
   try simp only [en.down,f6,f7] at f8
   try simp only [f6,f7] at f8
   clear ih128 ih133; exact fL q0p
  rintro ⟨⟩
  clear ih128 ih133; exact fL q0p
def qnd : ((Bytes × Int × Bytes × (Sl T.qi) × Bytes × Bytes × (List T.qf) × (List Int) × (List Bytes) × (List Int) × (List Bytes)) ⊕ (Bytes × (Sl T.qi) × Bytes × Bytes × (List T.qf) × (List Int) × (List Bytes) × (List Int) × (List Bytes))) → Ex × St
 | .inl y => (Ex.ret,⟨[(8,v_s y.1),(9,v_i y.2.1),(10,v_s y.2.2.1)],[(0,Blk.box [v_l 2 T.qi.enc y.2.2.2.1,v_s y.2.2.2.2.1,v_s y.2.2.2.2.2.1,v_r 2 y.2.2.2.2.2.2.1,v_r 3 y.2.2.2.2.2.2.2.1,v_r 4 y.2.2.2.2.2.2.2.2.1]),(1,Blk.box [v_r 5 y.2.2.2.2.2.2.2.2.2.1,v_r 6 y.2.2.2.2.2.2.2.2.2.2]),(2,b_r 20 T.qf.enc y.2.2.2.2.2.2.1),(3,b_r 1 qb y.2.2.2.2.2.2.2.1),(4,b_r 1 qh y.2.2.2.2.2.2.2.2.1),(5,b_r 1 qb y.2.2.2.2.2.2.2.2.2.1),(6,b_r 1 qh y.2.2.2.2.2.2.2.2.2.2)],7⟩)
 | .inr y => (Ex.normal,⟨[(8,AV.undef),(9,AV.undef),(10,v_s y.1)],[(0,Blk.box [v_l 2 T.qi.enc y.2.1,v_s y.2.2.1,v_s y.2.2.2.1,v_r 2 y.2.2.2.2.1,v_r 3 y.2.2.2.2.2.1,v_r 4 y.2.2.2.2.2.2.1]),(1,Blk.box [v_r 5 y.2.2.2.2.2.2.2.1,v_r 6 y.2.2.2.2.2.2.2.2]),(2,b_r 20 T.qf.enc y.2.2.2.2.1),(3,b_r 1 qb y.2.2.2.2.2.1),(4,b_r 1 qh y.2.2.2.2.2.2.1),(5,b_r 1 qb y.2.2.2.2.2.2.2.1),(6,b_r 1 qh y.2.2.2.2.2.2.2.2)],7⟩)
attribute [local go_sem] qnd
theorem qru : ∀ p r,q5q p = some r → O.loop 44 0 ⟨[(0,AV.ptr 0 0),(1,AV.ptr 1 0),(3,v_i p.1),(10,v_s p.2.1),(11,v_i p.2.2.1)],[(0,Blk.box [v_l 2 T.qi.enc p.2.2.2.1,v_s p.2.2.2.2.1,v_s p.2.2.2.2.2.1,v_r 2 p.2.2.2.2.2.2.1,v_r 3 p.2.2.2.2.2.2.2.1,v_r 4 p.2.2.2.2.2.2.2.2.1]),(1,Blk.box [v_r 5 p.2.2.2.2.2.2.2.2.2.1,v_r 6 p.2.2.2.2.2.2.2.2.2.2]),(2,b_r 20 T.qf.enc p.2.2.2.2.2.2.1),(3,b_r 1 qb p.2.2.2.2.2.2.2.1),(4,b_r 1 qh p.2.2.2.2.2.2.2.2.1),(5,b_r 1 qb p.2.2.2.2.2.2.2.2.2.1),(6,b_r 1 qh p.2.2.2.2.2.2.2.2.2.2)],7⟩ = some (qnd r) := by
 refine q5q.partial_correctness _ ?_
 rintro q5q ih127 ⟨to,s,i,w,w2,w3,r2_,r3_,r4_,r5_,r6_⟩ r; dsimp only
 apply it <;> intro h1
 ·refine bs fun v3 h2 => ?_
  have f1 := qg3.1 _ _ h2
  try simp only [en.down] at f1
  apply it <;> intro h4
  ·rintro ⟨⟩
   clear ih127; exact fL q0p
  refine gd fun h5 => ?_
  have f2 := eq_true h5
  try simp only [en.down] at f2
  apply it <;> intro h6
  ·rintro ⟨⟩
   clear ih127; exact fL q0p
  refine bW T.qf.enc 20 fun x8 h7 f3 f4 f5 f6 f7 => ?_
  try simp only [f6,f7] at f1
  intro h; have f8 := ih127 _ _ h; clear h
  try simp only [en.down,f6,f7] at f8
  try simp only [f6,f7] at f8
  clear ih127; exact fL q0p
 rintro ⟨⟩
 clear ih127; exact fL q0p
theorem z6w {frm to b b_2 b_3 r_ r_2 r_3 r} (h : qam frm to b b_2 b_3 r_ r_2 r_3 = some r) : O.call 44 [AV.ptr 0 0,AV.ptr 1 0,v_i frm,v_i to] [(0,Blk.box [v_l 2 T.qi.enc b,v_s b_2,v_s b_3,v_r 2 r_,v_r 3 r_2,v_r 4 r_3]),(1,Blk.box [AV.pv (PV.sl true 0 []),AV.pv (PV.sl true 0 [])]),(2,b_r 20 T.qf.enc r_),(3,b_r 1 qb r_2),(4,b_r 1 qh r_3)] = some (AV.tup [v_s r.1,v_i r.2.1],[(0,Blk.box [v_l 2 T.qi.enc r.2.2.1,v_s r.2.2.2.1,v_s r.2.2.2.2.1,v_r 2 r.2.2.2.2.2.1,v_r 3 r.2.2.2.2.2.2.1,v_r 4 r.2.2.2.2.2.2.2.1]),(1,Blk.box [v_r 5 r.2.2.2.2.2.2.2.2.1,v_r 6 r.2.2.2.2.2.2.2.2.2]),(2,b_r 20 T.qf.enc r.2.2.2.2.2.1),(3,b_r 1 qb r.2.2.2.2.2.2.1),(4,b_r 1 qh r.2.2.2.2.2.2.2.1),(5,b_r 1 qb r.2.2.2.2.2.2.2.2.1),(6,b_r 1 qh r.2.2.2.2.2.2.2.2.2)]) := by
 revert h; unfold qam
 refine bs fun v2 h1 => ?_
 have f1 := qru _ _ h1
 try simp only [en.down] at f1
 rcases v2 with y3 | y4
 ·dsimp only
  rintro ⟨⟩
  exact fF q0p
 dsimp only
 rintro ⟨⟩
 exact fF q0p
theorem qp3 : (∀ p r,tq p = some r → r.2.2.2.2.2.1.length = p.2.2.2.2.2.2.2.1.length ∧ O.call 45 [AV.ptr 0 0,AV.ptr 1 0,v_r 2 p.2.2.2.2.2.2.1,v_r 3 p.2.2.2.2.2.2.2.1,v_i p.1,v_i p.2.1,v_i p.2.2.1] [(0,Blk.box [v_l 2 T.qi.enc p.2.2.2.1,v_s p.2.2.2.2.1,v_s p.2.2.2.2.2.1,v_r 4 p.2.2.2.2.2.2.2.2.1,v_r 5 p.2.2.2.2.2.2.2.2.2.1,v_r 6 p.2.2.2.2.2.2.2.2.2.2.1]),(1,Blk.box [v_r 7 p.2.2.2.2.2.2.2.2.2.2.2.1,v_r 8 p.2.2.2.2.2.2.2.2.2.2.2.2]),(2,b_r 18 T.Stop.enc p.2.2.2.2.2.2.1),(3,Blk.row false 1 (List.map qb p.2.2.2.2.2.2.2.1)),(4,b_r 20 T.qf.enc p.2.2.2.2.2.2.2.2.1),(5,b_r 1 qb p.2.2.2.2.2.2.2.2.2.1),(6,b_r 1 qh p.2.2.2.2.2.2.2.2.2.2.1),(7,b_r 1 qb p.2.2.2.2.2.2.2.2.2.2.2.1),(8,b_r 1 qh p.2.2.2.2.2.2.2.2.2.2.2.2)] = some (AV.tup [v_r 2 r.2.2.2.2.1,v_i r.1],[(0,Blk.box [v_l 2 T.qi.enc r.2.1,v_s r.2.2.1,v_s r.2.2.2.1,v_r 4 r.2.2.2.2.2.2.1,v_r 5 r.2.2.2.2.2.2.2.1,v_r 6 r.2.2.2.2.2.2.2.2.1]),(1,Blk.box [v_r 7 r.2.2.2.2.2.2.2.2.2.1,v_r 8 r.2.2.2.2.2.2.2.2.2.2]),(2,b_r 18 T.Stop.enc r.2.2.2.2.1),(3,Blk.row false 1 (List.map qb r.2.2.2.2.2.1)),(4,b_r 20 T.qf.enc r.2.2.2.2.2.2.1),(5,b_r 1 qb r.2.2.2.2.2.2.2.1),(6,b_r 1 qh r.2.2.2.2.2.2.2.2.1),(7,b_r 1 qb r.2.2.2.2.2.2.2.2.2.1),(8,b_r 1 qh r.2.2.2.2.2.2.2.2.2.2)])) ∧ (∀ p r,bn p = some r → r.2.2.2.2.2.1.length = p.2.2.2.2.2.2.2.1.length ∧ O.loop 45 0 ⟨[(0,AV.ptr 0 0),(1,AV.ptr 1 0),(2,v_r 2 p.2.2.2.2.2.2.1),(3,v_r 3 p.2.2.2.2.2.2.2.1),(5,v_i p.1),(6,v_i p.2.1),(16,v_i p.2.2.1)],[(0,Blk.box [v_l 2 T.qi.enc p.2.2.2.1,v_s p.2.2.2.2.1,v_s p.2.2.2.2.2.1,v_r 4 p.2.2.2.2.2.2.2.2.1,v_r 5 p.2.2.2.2.2.2.2.2.2.1,v_r 6 p.2.2.2.2.2.2.2.2.2.2.1]),(1,Blk.box [v_r 7 p.2.2.2.2.2.2.2.2.2.2.2.1,v_r 8 p.2.2.2.2.2.2.2.2.2.2.2.2]),(2,b_r 18 T.Stop.enc p.2.2.2.2.2.2.1),(3,Blk.row false 1 (List.map qb p.2.2.2.2.2.2.2.1)),(4,b_r 20 T.qf.enc p.2.2.2.2.2.2.2.2.1),(5,b_r 1 qb p.2.2.2.2.2.2.2.2.2.1),(6,b_r 1 qh p.2.2.2.2.2.2.2.2.2.2.1),(7,b_r 1 qb p.2.2.2.2.2.2.2.2.2.2.2.1),(8,b_r 1 qh p.2.2.2.2.2.2.2.2.2.2.2.2)],9⟩ = some (Ex.normal,⟨[(2,v_r 2 r.2.2.2.2.1),(6,v_i r.1)],[(0,Blk.box [v_l 2 T.qi.enc r.2.1,v_s r.2.2.1,v_s r.2.2.2.1,v_r 4 r.2.2.2.2.2.2.1,v_r 5 r.2.2.2.2.2.2.2.1,v_r 6 r.2.2.2.2.2.2.2.2.1]),(1,Blk.box [v_r 7 r.2.2.2.2.2.2.2.2.2.1,v_r 8 r.2.2.2.2.2.2.2.2.2.2]),(2,b_r 18 T.Stop.enc r.2.2.2.2.1),(3,Blk.row false 1 (List.map qb r.2.2.2.2.2.1)),(4,b_r 20 T.qf.enc r.2.2.2.2.2.2.1),(5,b_r 1 qb r.2.2.2.2.2.2.2.1),(6,b_r 1 qh r.2.2.2.2.2.2.2.2.1),(7,b_r 1 qb r.2.2.2.2.2.2.2.2.2.1),(8,b_r 1 qh r.2.2.2.2.2.2.2.2.2.2)],9⟩)) := by
 refine tq.mutual_partial_correctness _ _ ?_ ?_
 ·rintro bn ih184 ⟨frm,to,at_,b,b_2,b_3,r_,r_2,r_3,r_4,r_5,r_6,r_7⟩ r; dsimp only
  refine bs fun v2 h1 => ?_
  obtain ⟨f1L,f1⟩ := ih184 _ _ h1
  try simp only [List.length_set] at f1L
  try simp only [en.down,f1L] at f1
  try simp only [f1L] at f1
  rintro ⟨⟩
  clear ih184; exact ⟨by first | rfl | (simp only [List.length_set,f1L]; done),fF nu⟩
 ·rintro tq bn ih183 ih184 ⟨to,at_,i,w,w2,w3,out,place,r4_,r5_,r6_,r7_,r8_⟩ r; dsimp only
  apply it <;> intro h1
  ·refine bW T.qf.enc 20 fun x3 h2 f1 f2 f3 f4 f5 => ?_
   refine bs fun v5 h4 => ?_
   have f6 := qg3.1 _ _ h4
   try simp only [en.down,f4,f5] at f6
   apply it <;> intro h6
   ·apply it <;> intro h7
    ·refine bw qb fun x9 h8 f7 f8 f9 => ?_
     refine bw qb fun x11 h10 f10 f11 f12 => ?_
     have f13 := map_set qb place i.toNat (out.length : Int)
     try simp only [en.down] at f13
     refine gd fun h12 => ?_
     have f14 := rG 18 T.Stop.enc out
     apply it <;> intro h13
     ·have f15 : List.map T.Stop.enc out ++ [[PV.int IntKind.i64 at_,PV.int IntKind.i64 (IntKind.i64.wrap (at_ + (v5.1.length : Int))),PV.int IntKind.i64 x3.n,PV.int IntKind.i64 x9,PV.bool x3.first,PV.bool x3.turned,PV.int IntKind.i64 x3.form.rx.kind,PV.str x3.form.rx.char,PV.bool x3.form.rx.not,PV.sl x3.form.rx.rows.nil (szc 2 x3.form.rx.rows.l) (List.map T.Row.enc x3.form.rx.rows.l),PV.int IntKind.i64 x3.form.rx.min,PV.int IntKind.i64 x3.form.rx.max,PV.bool x3.form.rx.lazy,PV.sl x3.form.rx.kids.nil (szc 8 x3.form.rx.kids.l) (List.map T.Rx.enc x3.form.rx.kids.l),PV.sl x3.form.fmts.nil (szc 5 x3.form.fmts.l) (List.map T.Fmt.enc x3.form.fmts.l),PV.bool x3.form.fold,PV.bool x3.form.all,PV.sl x3.opts.nil (szc 1 x3.opts.l) (List.map qh x3.opts.l)]] = List.map T.Stop.enc (out ++ [(T.Stop.mk (T.Span.mk at_ (IntKind.i64.wrap (at_ + (v5.1.length : Int)))) x3.n x9 x3.first x3.turned x3.form x3.opts)]) := by simp only [List.map_append,List.map_cons,List.map_nil,ze,z8,zb,T.Stop.qz] <;> rfl
      refine bs fun v15 h14 => ?_
      obtain ⟨f16L,f16⟩ := ih183 _ _ h14
      try simp only [List.length_set] at f16L
      try simp only [en.down,f4,f5,f16L] at f16
      refine bW T.qf.enc 20 fun x17 h16 f17 f18 f19 f20 f21 => ?_
      try simp only [h13,f4,f5,f16L,f20,f21] at f6 f13 f16
      intro h; obtain ⟨f22L,f22⟩ := ih184 _ _ h; clear h
      try simp only [en.down,f4,f5,f16L,f20,f21] at f22
      try simp only [h13,f4,f5,f16L,f20,f21] at f22
      clear ih183 ih184; exact ⟨by first | rfl | (simp only [List.length_set,f22L,f16L]; done),fL nu⟩
     refine bW T.qf.enc 20 fun x19 h18 f23 f24 f25 f26 f27 => ?_
     have f28 : List.map T.Stop.enc out ++ [[PV.int IntKind.i64 at_,PV.int IntKind.i64 (IntKind.i64.wrap (at_ + (v5.1.length : Int))),PV.int IntKind.i64 x3.n,PV.int IntKind.i64 x9,PV.bool x3.first,PV.bool x3.turned,PV.int IntKind.i64 x3.form.rx.kind,PV.str x3.form.rx.char,PV.bool x3.form.rx.not,PV.sl x3.form.rx.rows.nil (szc 2 x3.form.rx.rows.l) (List.map T.Row.enc x3.form.rx.rows.l),PV.int IntKind.i64 x3.form.rx.min,PV.int IntKind.i64 x3.form.rx.max,PV.bool x3.form.rx.lazy,PV.sl x3.form.rx.kids.nil (szc 8 x3.form.rx.kids.l) (List.map T.Rx.enc x3.form.rx.kids.l),PV.sl x3.form.fmts.nil (szc 5 x3.form.fmts.l) (List.map T.Fmt.enc x3.form.fmts.l),PV.bool x3.form.fold,PV.bool x3.form.all,PV.sl x3.opts.nil (szc 1 x3.opts.l) (List.map qh x3.opts.l)]] = List.map T.Stop.enc (out ++ [(T.Stop.mk (T.Span.mk at_ (IntKind.i64.wrap (at_ + (v5.1.length : Int)))) x3.n x9 x3.first x3.turned x3.form x3.opts)]) := by simp only [List.map_append,List.map_cons,List.map_nil,ze,z8,zb,T.Stop.qz] <;> rfl
     try simp only [h13,f4,f5,f26,f27] at f6 f13
     intro h; obtain ⟨f29L,f29⟩ := ih184 _ _ h; clear h
     try simp only [en.down,f4,f5,f26,f27] at f29
     try simp only [h13,f4,f5,f26,f27] at f29
     clear ih183 ih184; exact ⟨by first | rfl | (simp only [List.length_set,f29L]; done),fL nu⟩
    refine bw qb fun x21 h20 f30 f31 f32 => ?_
    have f33 := map_set qb place i.toNat (out.length : Int)
    try simp only [en.down] at f33
    refine gd fun h22 => ?_
    have f34 := rG 18 T.Stop.enc out
    apply it <;> intro h23
    ·have f35 : List.map T.Stop.enc out ++ [[PV.int IntKind.i64 at_,PV.int IntKind.i64 (IntKind.i64.wrap (at_ + (v5.1.length : Int))),PV.int IntKind.i64 x3.n,PV.int IntKind.i64 ((-1) : Int),PV.bool x3.first,PV.bool x3.turned,PV.int IntKind.i64 x3.form.rx.kind,PV.str x3.form.rx.char,PV.bool x3.form.rx.not,PV.sl x3.form.rx.rows.nil (szc 2 x3.form.rx.rows.l) (List.map T.Row.enc x3.form.rx.rows.l),PV.int IntKind.i64 x3.form.rx.min,PV.int IntKind.i64 x3.form.rx.max,PV.bool x3.form.rx.lazy,PV.sl x3.form.rx.kids.nil (szc 8 x3.form.rx.kids.l) (List.map T.Rx.enc x3.form.rx.kids.l),PV.sl x3.form.fmts.nil (szc 5 x3.form.fmts.l) (List.map T.Fmt.enc x3.form.fmts.l),PV.bool x3.form.fold,PV.bool x3.form.all,PV.sl x3.opts.nil (szc 1 x3.opts.l) (List.map qh x3.opts.l)]] = List.map T.Stop.enc (out ++ [(T.Stop.mk (T.Span.mk at_ (IntKind.i64.wrap (at_ + (v5.1.length : Int)))) x3.n ((-1) : Int) x3.first x3.turned x3.form x3.opts)]) := by simp only [List.map_append,List.map_cons,List.map_nil,ze,z8,zb,T.Stop.qz] <;> rfl
     refine bs fun v25 h24 => ?_
     obtain ⟨f36L,f36⟩ := ih183 _ _ h24
     try simp only [List.length_set] at f36L
     try simp only [en.down,f4,f5,f36L] at f36
     refine bW T.qf.enc 20 fun x27 h26 f37 f38 f39 f40 f41 => ?_
     try simp only [h23,f4,f5,f36L,f40,f41] at f6 f33 f36
     intro h; obtain ⟨f42L,f42⟩ := ih184 _ _ h; clear h
     try simp only [en.down,f4,f5,f36L,f40,f41] at f42
     try simp only [h23,f4,f5,f36L,f40,f41] at f42
     clear ih183 ih184; exact ⟨by first | rfl | (simp only [List.length_set,f42L,f36L]; done),fL nu⟩
    refine bW T.qf.enc 20 fun x29 h28 f43 f44 f45 f46 f47 => ?_
    have f48 : List.map T.Stop.enc out ++ [[PV.int IntKind.i64 at_,PV.int IntKind.i64 (IntKind.i64.wrap (at_ + (v5.1.length : Int))),PV.int IntKind.i64 x3.n,PV.int IntKind.i64 ((-1) : Int),PV.bool x3.first,PV.bool x3.turned,PV.int IntKind.i64 x3.form.rx.kind,PV.str x3.form.rx.char,PV.bool x3.form.rx.not,PV.sl x3.form.rx.rows.nil (szc 2 x3.form.rx.rows.l) (List.map T.Row.enc x3.form.rx.rows.l),PV.int IntKind.i64 x3.form.rx.min,PV.int IntKind.i64 x3.form.rx.max,PV.bool x3.form.rx.lazy,PV.sl x3.form.rx.kids.nil (szc 8 x3.form.rx.kids.l) (List.map T.Rx.enc x3.form.rx.kids.l),PV.sl x3.form.fmts.nil (szc 5 x3.form.fmts.l) (List.map T.Fmt.enc x3.form.fmts.l),PV.bool x3.form.fold,PV.bool x3.form.all,PV.sl x3.opts.nil (szc 1 x3.opts.l) (List.map qh x3.opts.l)]] = List.map T.Stop.enc (out ++ [(T.Stop.mk (T.Span.mk at_ (IntKind.i64.wrap (at_ + (v5.1.length : Int)))) x3.n ((-1) : Int) x3.first x3.turned x3.form x3.opts)]) := by simp only [List.map_append,List.map_cons,List.map_nil,ze,z8,zb,T.Stop.qz] <;> rfl
    try simp only [h23,f4,f5,f46,f47] at f6 f33
    intro h; obtain ⟨f49L,f49⟩ := ih184 _ _ h; clear h
    try simp only [en.down,f4,f5,f46,f47] at f49
    try simp only [h23,f4,f5,f46,f47] at f49
    clear ih183 ih184; exact ⟨by first | rfl | (simp only [List.length_set,f49L]; done),fL nu⟩
   refine bW T.qf.enc 20 fun x31 h30 f50 f51 f52 f53 f54 => ?_
   try simp only [f4,f5,f53,f54] at f6
   intro h; obtain ⟨f55L,f55⟩ := ih184 _ _ h; clear h
   try simp only [en.down,f4,f5,f53,f54] at f55
   try simp only [f4,f5,f53,f54] at f55
   clear ih183 ih184; exact ⟨by first | rfl | (simp only [List.length_set,f55L]; done),fL nu⟩
  rintro ⟨⟩
  clear ih183 ih184; exact ⟨by first | rfl | (simp only [List.length_set]; done),fL nu⟩
theorem zh0 : ∀ p r,bz p = some r → O.loop 45 0 ⟨[(0,AV.ptr 0 0),(1,AV.ptr 1 0),(2,v_r 8 p.2.2.2.2.2.2.2.2.2.2.2.2),(3,v_r 2 p.2.2.2.2.2.2.1),(5,v_i p.1),(6,v_i p.2.1),(16,v_i p.2.2.1)],[(0,Blk.box [v_l 2 T.qi.enc p.2.2.2.1,v_s p.2.2.2.2.1,v_s p.2.2.2.2.2.1,v_r 3 p.2.2.2.2.2.2.2.1,v_r 4 p.2.2.2.2.2.2.2.2.1,v_r 5 p.2.2.2.2.2.2.2.2.2.1]),(1,Blk.box [v_r 6 p.2.2.2.2.2.2.2.2.2.2.1,v_r 7 p.2.2.2.2.2.2.2.2.2.2.2.1]),(2,Blk.row false 1 (List.map qb p.2.2.2.2.2.2.1)),(3,b_r 20 T.qf.enc p.2.2.2.2.2.2.2.1),(4,b_r 1 qb p.2.2.2.2.2.2.2.2.1),(5,b_r 1 qh p.2.2.2.2.2.2.2.2.2.1),(6,b_r 1 qb p.2.2.2.2.2.2.2.2.2.2.1),(7,b_r 1 qh p.2.2.2.2.2.2.2.2.2.2.2.1),(8,b_r 18 T.Stop.enc p.2.2.2.2.2.2.2.2.2.2.2.2)],9⟩ = some (Ex.normal,⟨[(2,v_r 8 r.2.2.2.2.2.2.2.2.2.2),(6,v_i r.1)],[(0,Blk.box [v_l 2 T.qi.enc r.2.1,v_s r.2.2.1,v_s r.2.2.2.1,v_r 3 r.2.2.2.2.2.1,v_r 4 r.2.2.2.2.2.2.1,v_r 5 r.2.2.2.2.2.2.2.1]),(1,Blk.box [v_r 6 r.2.2.2.2.2.2.2.2.1,v_r 7 r.2.2.2.2.2.2.2.2.2.1]),(2,Blk.row false 1 (List.map qb r.2.2.2.2.1)),(3,b_r 20 T.qf.enc r.2.2.2.2.2.1),(4,b_r 1 qb r.2.2.2.2.2.2.1),(5,b_r 1 qh r.2.2.2.2.2.2.2.1),(6,b_r 1 qb r.2.2.2.2.2.2.2.2.1),(7,b_r 1 qh r.2.2.2.2.2.2.2.2.2.1),(8,b_r 18 T.Stop.enc r.2.2.2.2.2.2.2.2.2.2)],9⟩) := by
 refine bz.partial_correctness _ ?_
 rintro bz ih182 ⟨to,at_,i,w,w2,w3,place,r3_,r4_,r5_,r6_,r7_,out⟩ r; dsimp only
 apply it <;> intro h1
 ·refine bW T.qf.enc 20 fun x3 h2 f1 f2 f3 f4 f5 => ?_
  refine bs fun v5 h4 => ?_
  have f6 := qg3.1 _ _ h4
  try simp only [en.down,f4,f5] at f6
  apply it <;> intro h6
  ·apply it <;> intro h7
   ·refine bw qb fun x9 h8 f7 f8 f9 => ?_
    refine bw qb fun x11 h10 f10 f11 f12 => ?_
    have f13 := map_set qb place i.toNat (out.length : Int)
    try simp only [en.down] at f13
    refine gd fun h12 => ?_
    have f14 := rG 18 T.Stop.enc out
    apply it <;> intro h13
    ·have f15 : List.map T.Stop.enc out ++ [[PV.int IntKind.i64 at_,PV.int IntKind.i64 (IntKind.i64.wrap (at_ + (v5.1.length : Int))),PV.int IntKind.i64 x3.n,PV.int IntKind.i64 x9,PV.bool x3.first,PV.bool x3.turned,PV.int IntKind.i64 x3.form.rx.kind,PV.str x3.form.rx.char,PV.bool x3.form.rx.not,PV.sl x3.form.rx.rows.nil (szc 2 x3.form.rx.rows.l) (List.map T.Row.enc x3.form.rx.rows.l),PV.int IntKind.i64 x3.form.rx.min,PV.int IntKind.i64 x3.form.rx.max,PV.bool x3.form.rx.lazy,PV.sl x3.form.rx.kids.nil (szc 8 x3.form.rx.kids.l) (List.map T.Rx.enc x3.form.rx.kids.l),PV.sl x3.form.fmts.nil (szc 5 x3.form.fmts.l) (List.map T.Fmt.enc x3.form.fmts.l),PV.bool x3.form.fold,PV.bool x3.form.all,PV.sl x3.opts.nil (szc 1 x3.opts.l) (List.map qh x3.opts.l)]] = List.map T.Stop.enc (out ++ [(T.Stop.mk (T.Span.mk at_ (IntKind.i64.wrap (at_ + (v5.1.length : Int)))) x3.n x9 x3.first x3.turned x3.form x3.opts)]) := by simp only [List.map_append,List.map_cons,List.map_nil,ze,z8,zb,T.Stop.qz] <;> rfl
     refine bs fun v15 h14 => ?_
     obtain ⟨f16L,f16⟩ := qp3.1 _ _ h14
     try simp only [List.length_set] at f16L
     try simp only [en.down,f4,f5,f16L] at f16
     refine bW T.qf.enc 20 fun x17 h16 f17 f18 f19 f20 f21 => ?_
     try simp only [h13,f4,f5,f16L,f20,f21] at f6 f13 f16
     intro h; have f22 := ih182 _ _ h; clear h
     try simp only [en.down,f4,f5,f16L,f20,f21] at f22
     try simp only [h13,f4,f5,f16L,f20,f21] at f22
     clear ih182; exact fL nu
    refine bW T.qf.enc 20 fun x19 h18 f23 f24 f25 f26 f27 => ?_
    have f28 : List.map T.Stop.enc out ++ [[PV.int IntKind.i64 at_,PV.int IntKind.i64 (IntKind.i64.wrap (at_ + (v5.1.length : Int))),PV.int IntKind.i64 x3.n,PV.int IntKind.i64 x9,PV.bool x3.first,PV.bool x3.turned,PV.int IntKind.i64 x3.form.rx.kind,PV.str x3.form.rx.char,PV.bool x3.form.rx.not,PV.sl x3.form.rx.rows.nil (szc 2 x3.form.rx.rows.l) (List.map T.Row.enc x3.form.rx.rows.l),PV.int IntKind.i64 x3.form.rx.min,PV.int IntKind.i64 x3.form.rx.max,PV.bool x3.form.rx.lazy,PV.sl x3.form.rx.kids.nil (szc 8 x3.form.rx.kids.l) (List.map T.Rx.enc x3.form.rx.kids.l),PV.sl x3.form.fmts.nil (szc 5 x3.form.fmts.l) (List.map T.Fmt.enc x3.form.fmts.l),PV.bool x3.form.fold,PV.bool x3.form.all,PV.sl x3.opts.nil (szc 1 x3.opts.l) (List.map qh x3.opts.l)]] = List.map T.Stop.enc (out ++ [(T.Stop.mk (T.Span.mk at_ (IntKind.i64.wrap (at_ + (v5.1.length : Int)))) x3.n x9 x3.first x3.turned x3.form x3.opts)]) := by simp only [List.map_append,List.map_cons,List.map_nil,ze,z8,zb,T.Stop.qz] <;> rfl
    try simp only [h13,f4,f5,f26,f27] at f6 f13
    intro h; have f29 := ih182 _ _ h; clear h
    try simp only [en.down,f4,f5,f26,f27] at f29
    try simp only [h13,f4,f5,f26,f27] at f29
    clear ih182; exact fL nu
   refine bw qb fun x21 h20 f30 f31 f32 => ?_
   have f33 := map_set qb place i.toNat (out.length : Int)
   try simp only [en.down] at f33
   refine gd fun h22 => ?_
   have f34 := rG 18 T.Stop.enc out
   apply it <;> intro h23
   ·have f35 : List.map T.Stop.enc out ++ [[PV.int IntKind.i64 at_,PV.int IntKind.i64 (IntKind.i64.wrap (at_ + (v5.1.length : Int))),PV.int IntKind.i64 x3.n,PV.int IntKind.i64 ((-1) : Int),PV.bool x3.first,PV.bool x3.turned,PV.int IntKind.i64 x3.form.rx.kind,PV.str x3.form.rx.char,PV.bool x3.form.rx.not,PV.sl x3.form.rx.rows.nil (szc 2 x3.form.rx.rows.l) (List.map T.Row.enc x3.form.rx.rows.l),PV.int IntKind.i64 x3.form.rx.min,PV.int IntKind.i64 x3.form.rx.max,PV.bool x3.form.rx.lazy,PV.sl x3.form.rx.kids.nil (szc 8 x3.form.rx.kids.l) (List.map T.Rx.enc x3.form.rx.kids.l),PV.sl x3.form.fmts.nil (szc 5 x3.form.fmts.l) (List.map T.Fmt.enc x3.form.fmts.l),PV.bool x3.form.fold,PV.bool x3.form.all,PV.sl x3.opts.nil (szc 1 x3.opts.l) (List.map qh x3.opts.l)]] = List.map T.Stop.enc (out ++ [(T.Stop.mk (T.Span.mk at_ (IntKind.i64.wrap (at_ + (v5.1.length : Int)))) x3.n ((-1) : Int) x3.first x3.turned x3.form x3.opts)]) := by simp only [List.map_append,List.map_cons,List.map_nil,ze,z8,zb,T.Stop.qz] <;> rfl
    refine bs fun v25 h24 => ?_
    obtain ⟨f36L,f36⟩ := qp3.1 _ _ h24
    try simp only [List.length_set] at f36L
    try simp only [en.down,f4,f5,f36L] at f36
    refine bW T.qf.enc 20 fun x27 h26 f37 f38 f39 f40 f41 => ?_
    try simp only [h23,f4,f5,f36L,f40,f41] at f6 f33 f36
    intro h; have f42 := ih182 _ _ h; clear h
    try simp only [en.down,f4,f5,f36L,f40,f41] at f42
    try simp only [h23,f4,f5,f36L,f40,f41] at f42
    clear ih182; exact fL nu
   refine bW T.qf.enc 20 fun x29 h28 f43 f44 f45 f46 f47 => ?_
   have f48 : List.map T.Stop.enc out ++ [[PV.int IntKind.i64 at_,PV.int IntKind.i64 (IntKind.i64.wrap (at_ + (v5.1.length : Int))),PV.int IntKind.i64 x3.n,PV.int IntKind.i64 ((-1) : Int),PV.bool x3.first,PV.bool x3.turned,PV.int IntKind.i64 x3.form.rx.kind,PV.str x3.form.rx.char,PV.bool x3.form.rx.not,PV.sl x3.form.rx.rows.nil (szc 2 x3.form.rx.rows.l) (List.map T.Row.enc x3.form.rx.rows.l),PV.int IntKind.i64 x3.form.rx.min,PV.int IntKind.i64 x3.form.rx.max,PV.bool x3.form.rx.lazy,PV.sl x3.form.rx.kids.nil (szc 8 x3.form.rx.kids.l) (List.map T.Rx.enc x3.form.rx.kids.l),PV.sl x3.form.fmts.nil (szc 5 x3.form.fmts.l) (List.map T.Fmt.enc x3.form.fmts.l),PV.bool x3.form.fold,PV.bool x3.form.all,PV.sl x3.opts.nil (szc 1 x3.opts.l) (List.map qh x3.opts.l)]] = List.map T.Stop.enc (out ++ [(T.Stop.mk (T.Span.mk at_ (IntKind.i64.wrap (at_ + (v5.1.length : Int)))) x3.n ((-1) : Int) x3.first x3.turned x3.form x3.opts)]) := by simp only [List.map_append,List.map_cons,List.map_nil,ze,z8,zb,T.Stop.qz] <;> rfl
   try simp only [h23,f4,f5,f46,f47] at f6 f33
   intro h; have f49 := ih182 _ _ h; clear h
   try simp only [en.down,f4,f5,f46,f47] at f49
   try simp only [h23,f4,f5,f46,f47] at f49
   clear ih182; exact fL nu
  refine bW T.qf.enc 20 fun x31 h30 f50 f51 f52 f53 f54 => ?_
  try simp only [f4,f5,f53,f54] at f6
  intro h; have f55 := ih182 _ _ h; clear h
  try simp only [en.down,f4,f5,f53,f54] at f55
  try simp only [f4,f5,f53,f54] at f55
  clear ih182; exact fL nu
 rintro ⟨⟩
 clear ih182; exact fL nu
theorem zdf {frm to at_ b b_2 b_3 r_ r_2 r_3 r_4 r_5 r_6 r} (h : qc7 frm to at_ b b_2 b_3 r_ r_2 r_3 r_4 r_5 r_6 = some r) : O.call 45 [AV.ptr 0 0,AV.ptr 1 0,AV.pv (PV.sl true 0 []),v_r 2 r_,v_i frm,v_i to,v_i at_] [(0,Blk.box [v_l 2 T.qi.enc b,v_s b_2,v_s b_3,v_r 3 r_2,v_r 4 r_3,v_r 5 r_4]),(1,Blk.box [v_r 6 r_5,v_r 7 r_6]),(2,Blk.row false 1 (List.map qb r_)),(3,b_r 20 T.qf.enc r_2),(4,b_r 1 qb r_3),(5,b_r 1 qh r_4),(6,b_r 1 qb r_5),(7,b_r 1 qh r_6)] = some (AV.tup [v_r 8 r.2.2.2.2.2.2.2.2.2.2,v_i r.1],[(0,Blk.box [v_l 2 T.qi.enc r.2.1,v_s r.2.2.1,v_s r.2.2.2.1,v_r 3 r.2.2.2.2.2.1,v_r 4 r.2.2.2.2.2.2.1,v_r 5 r.2.2.2.2.2.2.2.1]),(1,Blk.box [v_r 6 r.2.2.2.2.2.2.2.2.1,v_r 7 r.2.2.2.2.2.2.2.2.2.1]),(2,Blk.row false 1 (List.map qb r.2.2.2.2.1)),(3,b_r 20 T.qf.enc r.2.2.2.2.2.1),(4,b_r 1 qb r.2.2.2.2.2.2.1),(5,b_r 1 qh r.2.2.2.2.2.2.2.1),(6,b_r 1 qb r.2.2.2.2.2.2.2.2.1),(7,b_r 1 qh r.2.2.2.2.2.2.2.2.2.1),(8,b_r 18 T.Stop.enc r.2.2.2.2.2.2.2.2.2.2)]) := by
 revert h; unfold qc7
 refine bs fun v2 h1 => ?_
 have f1 := zh0 _ _ h1
 try simp only [en.down] at f1
 rintro ⟨⟩
 exact fF nu
theorem zsk : ∀ p r,q2j p = some r → O.loop 20 2 ⟨[(15,v_s p.1),(17,v_r 8 p.2.2.2.2.2.2.2.2.2.2.2.2),(19,v_b p.2.1),(20,v_i p.2.2.1)],[(0,Blk.box [v_l 2 T.qi.enc p.2.2.2.1,v_s p.2.2.2.2.1,v_s p.2.2.2.2.2.1,v_r 1 p.2.2.2.2.2.2.1,v_r 2 p.2.2.2.2.2.2.2.1,v_r 3 p.2.2.2.2.2.2.2.2.1]),(1,b_r 20 T.qf.enc p.2.2.2.2.2.2.1),(2,b_r 1 qb p.2.2.2.2.2.2.2.1),(3,b_r 1 qh p.2.2.2.2.2.2.2.2.1),(4,Blk.box [v_r 5 p.2.2.2.2.2.2.2.2.2.1,v_r 6 p.2.2.2.2.2.2.2.2.2.2.1]),(5,b_r 1 qb p.2.2.2.2.2.2.2.2.2.1),(6,b_r 1 qh p.2.2.2.2.2.2.2.2.2.2.1),(7,Blk.row false 1 (List.map qb p.2.2.2.2.2.2.2.2.2.2.2.1)),(8,b_r 18 T.Stop.enc p.2.2.2.2.2.2.2.2.2.2.2.2)],9⟩ = some (Ex.normal,⟨[(15,v_s p.1),(17,v_r 8 p.2.2.2.2.2.2.2.2.2.2.2.2),(19,v_b r)],[(0,Blk.box [v_l 2 T.qi.enc p.2.2.2.1,v_s p.2.2.2.2.1,v_s p.2.2.2.2.2.1,v_r 1 p.2.2.2.2.2.2.1,v_r 2 p.2.2.2.2.2.2.2.1,v_r 3 p.2.2.2.2.2.2.2.2.1]),(1,b_r 20 T.qf.enc p.2.2.2.2.2.2.1),(2,b_r 1 qb p.2.2.2.2.2.2.2.1),(3,b_r 1 qh p.2.2.2.2.2.2.2.2.1),(4,Blk.box [v_r 5 p.2.2.2.2.2.2.2.2.2.1,v_r 6 p.2.2.2.2.2.2.2.2.2.2.1]),(5,b_r 1 qb p.2.2.2.2.2.2.2.2.2.1),(6,b_r 1 qh p.2.2.2.2.2.2.2.2.2.2.1),(7,Blk.row false 1 (List.map qb p.2.2.2.2.2.2.2.2.2.2.2.1)),(8,b_r 18 T.Stop.enc p.2.2.2.2.2.2.2.2.2.2.2.2)],9⟩) := by
 refine q2j.partial_correctness _ ?_
 rintro q2j ih185 ⟨s,zero,i,b0_,b0_2,b0_3,r1_,r2_,r3_,r5_,r6_,r7_,stops⟩ r; dsimp only
 apply it <;> intro h1
 ·apply it <;> intro h2
  ·intro h; have f1 := ih185 _ _ h; clear h
   try simp only [en.down] at f1
   try simp only [h2] at f1
   clear ih185; exact fL q0b
  refine bW T.Stop.enc 18 fun x4 h3 f2 f3 f4 f5 f6 => ?_
  apply it <;> intro h5
  ·intro h; have f7 := ih185 _ _ h; clear h
   try simp only [en.down,f5,f6] at f7
   try simp only [h2,f5,f6] at f7
   clear ih185; exact fL q0b
  intro h; have f8 := ih185 _ _ h; clear h
  try simp only [en.down,f5,f6] at f8
  try simp only [h2,f5,f6] at f8
  clear ih185; exact fL q0b
 rintro ⟨⟩
 clear ih185; exact fL q0b
theorem zpz {l env lead unit r} (h : q9y l env lead unit = some r) : O.call 20 [v_l 18 T.qc.enc l,v_l 2 T.qi.enc env,v_s lead,v_s unit] [] = some (AV.tup [v_s r.1,v_l 18 T.Stop.enc r.2.1,v_i r.2.2],[]) := by
 revert h; unfold q9y
 refine bs fun v2 h1 => ?_
 have f1 := zhk h1
 try simp only [en.down] at f1
 apply it <;> intro h3
 ·rintro ⟨⟩
  exact fF q0b
 refine bs fun v5 h4 => ?_
 have f2 := zhz h4
 try simp only [en.down] at f2
 refine bs fun v7 h6 => ?_
 have f3 := qw6 h6
 try simp only [en.down] at f3
 refine bs fun v9 h8 => ?_
 have f4 := zh8 h8
 try simp only [en.down] at f4
 apply it <;> intro h10
 ·try simp only [h10] at f1 f2 f3 f4
  rintro ⟨⟩
  exact fF q0b
 refine bs fun v12 h11 => ?_
 have f5 := zky _ _ h11
 try simp only [en.down] at f5
 apply it <;> intro h13
 ·try simp only [h10] at f1 f2 f3 f4 f5
  rintro ⟨⟩
  exact fF q0b
 refine bs fun v15 h14 => ?_
 have f6 := z6w h14
 try simp only [en.down] at f6
 apply it <;> intro h16
 ·try simp only [h10] at f1 f2 f3 f4 f5 f6
  rintro ⟨⟩
  exact fF q0b
 refine gd fun h17 => ?_
 have f7 := qgd IntKind.i64 h17
 refine gd fun h18 => ?_
 have f8 : List.replicate (v15.2.2.2.2.2.1.length : Int).toNat [PV.int IntKind.i64 (0 : Int)] = List.map qb (List.replicate (v15.2.2.2.2.2.1.length : Int).toNat (0 : Int)) := by rw [List.map_replicate]; rfl
 refine bs fun v20 h19 => ?_
 have f9 := zdf h19
 try simp only [en.down] at f9
 refine bs fun v22 h21 => ?_
 have f10 := zsk _ _ h21
 try simp only [en.down] at f10
 apply it <;> intro h23
 ·refine gd fun h24 => ?_
  have f11 := rG 18 T.Stop.enc v20.2.2.2.2.2.2.2.2.2.2
  have f12 : List.map T.Stop.enc v20.2.2.2.2.2.2.2.2.2.2 ++ [[PV.int IntKind.i64 (v15.1.length : Int),PV.int IntKind.i64 (v15.1.length : Int),PV.int IntKind.i64 (0 : Int),PV.int IntKind.i64 ((-1) : Int),PV.bool true,PV.bool false,PV.int IntKind.i64 (0 : Int),PV.str ([] : Bytes),PV.bool false,PV.sl true 0 [],PV.int IntKind.i64 (0 : Int),PV.int IntKind.i64 (0 : Int),PV.bool false,PV.sl true 0 [],PV.sl true 0 [],PV.bool false,PV.bool false,PV.sl true 0 []]] = List.map T.Stop.enc (v20.2.2.2.2.2.2.2.2.2.2 ++ [(T.Stop.mk (T.Span.mk (v15.1.length : Int) (v15.1.length : Int)) (0 : Int) ((-1) : Int) true false (T.Form.mk (T.Rx.mk (0 : Int) ([] : Bytes) false (⟨true,[]⟩ : (Sl T.Row)) (0 : Int) (0 : Int) false (⟨true,[]⟩ : (Sl T.Rx))) (⟨true,[]⟩ : (Sl T.Fmt)) false false) (⟨true,[]⟩ : (Sl Bytes)))]) := by simp only [List.map_append,List.map_cons,List.map_nil,ze,z8,zb,T.Stop.qz] <;> rfl
  try simp only [h10] at f1 f2 f3 f4 f5 f6 f9 f10
  rintro ⟨⟩
  exact fF q0b
 try simp only [h10] at f1 f2 f3 f4 f5 f6 f9 f10
 rintro ⟨⟩
 exact fF q0b
theorem zp2 : ∀ p r,q5b p = some r → O.loop 7 0 ⟨[(1,v_i p.1),(4,AV.ptr 0 0),(9,v_l 18 T.Stop.enc p.2.1),(11,AV.ptr 1 0),(12,v_i p.2.2.1)],[(0,b_x (T.za.enc p.2.2.2.1)),(1,Blk.box [v_i p.2.2.2.2.1,v_i p.2.2.2.2.2.1,v_r 2 p.2.2.2.2.2.2]),(2,b_r 18 T.Stop.enc p.2.2.2.2.2.2)],3⟩ = some (Ex.normal,⟨[(4,AV.ptr 0 0),(11,AV.ptr 1 0)],[(0,b_x (T.za.enc p.2.2.2.1)),(1,Blk.box [v_i p.2.2.2.2.1,v_i p.2.2.2.2.2.1,v_r 2 r]),(2,b_r 18 T.Stop.enc r)],3⟩) := by
 refine q5b.partial_correctness _ ?_
 rintro q5b ih186 ⟨at_,p_,i,t4,in_,in_2,r2_⟩ r; dsimp only
 apply it <;> intro h1
 ·refine bg T.Stop.enc fun x3 h2 f1 f2 f3 => ?_
  refine gd fun h4 => ?_
  have f4 := rG 18 T.Stop.enc r2_
  have f5 : List.map T.Stop.enc r2_ ++ [[PV.int IntKind.i64 (IntKind.i64.wrap (x3.span.frm + at_)),PV.int IntKind.i64 (IntKind.i64.wrap (x3.span.to + at_)),PV.int IntKind.i64 x3.n,PV.int IntKind.i64 x3.up,PV.bool x3.first,PV.bool x3.turned,PV.int IntKind.i64 x3.form.rx.kind,PV.str x3.form.rx.char,PV.bool x3.form.rx.not,PV.sl x3.form.rx.rows.nil (szc 2 x3.form.rx.rows.l) (List.map T.Row.enc x3.form.rx.rows.l),PV.int IntKind.i64 x3.form.rx.min,PV.int IntKind.i64 x3.form.rx.max,PV.bool x3.form.rx.lazy,PV.sl x3.form.rx.kids.nil (szc 8 x3.form.rx.kids.l) (List.map T.Rx.enc x3.form.rx.kids.l),PV.sl x3.form.fmts.nil (szc 5 x3.form.fmts.l) (List.map T.Fmt.enc x3.form.fmts.l),PV.bool x3.form.fold,PV.bool x3.form.all,PV.sl x3.opts.nil (szc 1 x3.opts.l) (List.map qh x3.opts.l)]] = List.map T.Stop.enc (r2_ ++ [(T.Stop.mk (T.Span.mk (IntKind.i64.wrap (x3.span.frm + at_)) (IntKind.i64.wrap (x3.span.to + at_))) x3.n x3.up x3.first x3.turned x3.form x3.opts)]) := by simp only [List.map_append,List.map_cons,List.map_nil,ze,z8,zb,T.Stop.qz] <;> rfl
  intro h; have f6 := ih186 _ _ h; clear h
  try simp only [en.down] at f6
  clear ih186; exact fL fn7
 rintro ⟨⟩
 clear ih186; exact fL fn7
theorem z5a {s at_ r} (h : q81 s at_ = some r) : O.call 7 [v_s s,v_i at_] [] = some (AV.tup [v_g (T.za.enc r.1),v_b r.2],[]) := by
 revert h; unfold q81
 refine bs fun v2 h1 => ?_
 have f1 := zbv h1
 try simp only [en.down] at f1
 refine bs fun v4 h3 => ?_
 have f2 := zpz h3
 try simp only [en.down] at f2
 refine xy ?_ (fun h5 h6 => ?_)
 ·rintro (⟨h5,h6⟩ | ⟨h5,h6⟩)
  all_goals
  rintro ⟨⟩
  exact fF fn7
 refine bs fun v8 h7 => ?_
 have f3 := zp2 _ _ h7
 try simp only [en.down] at f3
 rintro ⟨⟩
 exact fF fn7
theorem ze9 : ∀ p r,q5s p = some r → O.loop 12 0 ⟨[(1,AV.ptr 0 0),(3,AV.map 1),(12,v_l 18 T.Stop.enc p.1),(13,v_i p.2.1),(14,v_i p.2.2.1)],[(0,b_x (T.za.enc p.2.2.2.1)),(1,b_m p.2.2.2.2)],2⟩ = some (Ex.normal,⟨[(1,AV.ptr 0 0),(3,AV.map 1)],[(0,b_x (T.za.enc p.2.2.2.1)),(1,b_m r)],2⟩) := by
 refine q5s.partial_correctness _ ?_
 rintro q5s ih189 ⟨t12,t13,t14,i,left⟩ r; dsimp only
 apply it <;> intro h1
 ·refine bg T.Stop.enc fun x3 h2 f1 f2 f3 => ?_
  have f4 := mG left x3.n
  try simp only [en.down] at f4
  have f5 := mP left x3.n (IntKind.i64.wrap ((je left x3.n) + (1 : Int)))
  try simp only [en.down] at f5
  intro h; have f6 := ih189 _ _ h; clear h
  try simp only [en.down] at f6
  clear ih189; exact fL qb4
 rintro ⟨⟩
 clear ih189; exact fL qb4
theorem qx5 {m r} (h : qex m = some r) : O.call 29 [AV.map 0] [(0,b_m m)] = some (AV.clo 51 [] [AV.ptr 1 0],[(0,b_m m),(1,Blk.box [AV.map 0])]) := by
 revert h; unfold qex
 rintro ⟨⟩
 exact fF ziz
theorem qi3 {i k r} (h : q28 i k = some r) : O.call 48 [v_g (T.za.enc i),v_i k] [] = some (v_i r,[]) := by
 revert h; unfold q28
 refine bg T.Stop.enc fun x2 h1 f1 f2 f3 => ?_
 refine zo (fun h3 h4 => ?_) ?_
 ·rintro ⟨⟩
  exact fF qn2
 rintro (⟨h3,h4⟩ | ⟨h3,h4⟩)
 all_goals
 rintro ⟨⟩
 exact fF qn2
theorem z3s : ∀ p r,mg p = some r → O.loop 30 2 ⟨[(1,AV.map 0),(2,AV.ptr 1 0),(5,AV.map 2),(7,AV.ptr 3 0),(8,v_i p.1),(12,v_l 18 T.Stop.enc p.2.1),(13,v_i p.2.2.1),(14,v_i p.2.2.2.1)],[(0,b_m p.2.2.2.2.1),(1,b_x (T.za.enc p.2.2.2.2.2.1)),(2,b_m p.2.2.2.2.2.2.1),(3,b_x (T.Stop.enc p.2.2.2.2.2.2.2))],4⟩ = some (Ex.normal,⟨[(1,AV.map 0),(2,AV.ptr 1 0),(5,AV.map 2),(12,v_l 18 T.Stop.enc p.2.1),(13,v_i p.2.2.1),(14,v_i p.2.2.2.1)],[(0,b_m p.2.2.2.2.1),(1,b_x (T.za.enc p.2.2.2.2.2.1)),(2,b_m r),(3,b_x (T.Stop.enc p.2.2.2.2.2.2.2))],4⟩) := by
 refine mg.partial_correctness _ ?_
 rintro mg ih196 ⟨u,t12,t13,t14,left,i,out,s⟩ r; dsimp only
 apply it <;> intro h1
 ·refine bg T.Stop.enc fun x3 h2 f1 f2 f3 => ?_
  apply it <;> intro h4
  ·have f4 := mG out x3.n
   try simp only [en.down] at f4
   have f5 := mP out x3.n (IntKind.i64.wrap ((je out x3.n) + (1 : Int)))
   try simp only [en.down] at f5
   refine bs fun v6 h5 => ?_
   have f6 := qi3 h5
   try simp only [en.down] at f6
   intro h; have f7 := ih196 _ _ h; clear h
   try simp only [en.down] at f7
   clear ih196; exact fL q6l
  refine bs fun v8 h7 => ?_
  have f8 := qi3 h7
  try simp only [en.down] at f8
  intro h; have f9 := ih196 _ _ h; clear h
  try simp only [en.down] at f9
  clear ih196; exact fL q6l
 rintro ⟨⟩
 clear ih196; exact fL q6l
theorem z7i : ∀ p r,q3a p = some r → O.loop 30 0 ⟨[(1,AV.map 0),(2,AV.ptr 1 0),(5,AV.map 2),(12,v_l 18 T.Stop.enc p.1),(13,v_i p.2.1),(14,v_i p.2.2.1)],[(0,b_m p.2.2.2.1),(1,b_x (T.za.enc p.2.2.2.2.1)),(2,b_m p.2.2.2.2.2)],3⟩ = some (Ex.normal,⟨[(5,AV.map 2)],[(0,b_m p.2.2.2.1),(1,b_x (T.za.enc p.2.2.2.2.1)),(2,b_m r)],3⟩) := by
 refine q3a.partial_correctness _ ?_
 rintro q3a ih194 ⟨t12,t13,t14,left,i,out⟩ r; dsimp only
 apply it <;> intro h1
 ·refine bg T.Stop.enc fun x3 h2 f1 f2 f3 => ?_
  have f4 := mG left x3.n
  try simp only [en.down] at f4
  apply it <;> intro h4
  ·intro h; have f5 := ih194 _ _ h; clear h
   try simp only [en.down] at f5
   clear ih194; exact fL q6l
  refine bs fun v6 h5 => ?_
  have f6 := qi3 h5
  try simp only [en.down] at f6
  refine bs fun v8 h7 => ?_
  have f7 := z3s _ _ h7
  try simp only [en.down] at f7
  intro h; have f8 := ih194 _ _ h; clear h
  try simp only [en.down] at f8
  clear ih194; exact fL q6l
 rintro ⟨⟩
 clear ih194; exact fL q6l
theorem zm7 {i m r} (h : qa8 i m = some r) : O.call 30 [v_g (T.za.enc i),AV.map 0] [(0,b_m m)] = some (AV.map 1,[(0,b_m m),(1,b_m r)]) := by
 revert h; unfold qa8
 refine bs fun v2 h1 => ?_
 have f1 := z7i _ _ h1
 try simp only [en.down] at f1
 rintro ⟨⟩
 exact fF q6l
theorem zmt {n m r} (h : qe8 n m = some r) : O.call 32 [v_i n,AV.ptr 0 0] [(0,Blk.box [AV.map 1]),(1,b_m m)] = some (v_b r,[(0,Blk.box [AV.map 1]),(1,b_m m)]) := by
 revert h; unfold qe8
 have f1 := mG m n
 try simp only [en.down] at f1
 rintro ⟨⟩
 exact fF qum
def qky (m1 : zg) : ((Int) ⊕ (Unit)) → Ex × St
 | .inl y => (Ex.ret,⟨[(4,v_i y)],[(0,Blk.box [AV.map 1]),(1,b_m m1)],2⟩)
 | .inr y => (Ex.normal,⟨[(4,AV.undef)],[(0,Blk.box [AV.map 1]),(1,b_m m1)],2⟩)
attribute [local go_sem] qky
theorem qwb : ∀ p r,q3o p = some r → O.loop 31 0 ⟨[(0,v_l 1 qb p.1),(1,AV.clo 32 [] [AV.ptr 0 0]),(7,v_i p.2.1),(8,v_i p.2.2.1)],[(0,Blk.box [AV.map 1]),(1,b_m p.2.2.2)],2⟩ = some (qky p.2.2.2 r) := by
 refine q3o.partial_correctness _ ?_
 rintro q3o ih198 ⟨s,t7,t8,m1⟩ r; dsimp only
 apply it <;> intro h1
 ·refine bg qb fun x3 h2 f1 f2 f3 => ?_
  refine bs fun v5 h4 => ?_
  have f4 := zmt h4
  try simp only [en.down] at f4
  apply it <;> intro h6
  ·try simp only [h6] at f4
   rintro ⟨⟩
   clear ih198; exact fL qcl
  try simp only [h6] at f4
  intro h; have f5 := ih198 _ _ h; clear h
  try simp only [en.down] at f5
  try simp only [h6] at f5
  clear ih198; exact fL qcl
 rintro ⟨⟩
 clear ih198; exact fL qcl
theorem z4l {s m r} (h : qco s m = some r) : O.call 31 [v_l 1 qb s,AV.clo 32 [] [AV.ptr 0 0]] [(0,Blk.box [AV.map 1]),(1,b_m m)] = some (v_i r,[(0,Blk.box [AV.map 1]),(1,b_m m)]) := by
 revert h; unfold qco
 refine bs fun v2 h1 => ?_
 have f1 := qwb _ _ h1
 try simp only [en.down] at f1
 rcases v2 with y3 | y4
 ·dsimp only
  rintro ⟨⟩
  exact fF qcl
 dsimp only
 rintro ⟨⟩
 exact fF qcl
theorem qqp : ∀ p r,q4n p = some r → O.loop 12 2 ⟨[(1,AV.ptr 0 0),(3,AV.map 1),(6,v_r 2 p.2.2)],[(0,b_x (T.za.enc p.1)),(1,b_m p.2.1),(2,b_r 1 qb p.2.2)],3⟩ = some (Ex.normal,⟨[(6,v_r 2 r.2)],[(0,b_x (T.za.enc p.1)),(1,b_m r.1),(2,b_r 1 qb r.2)],3⟩) := by
 refine q4n.partial_correctness _ ?_
 rintro q4n ih190 ⟨i,left,out⟩ r; dsimp only
 apply it <;> intro h1
 ·refine bs fun v3 h2 => ?_
  have f1 := qx5 h2
  try simp only [en.down] at f1
  refine bs fun v5 h4 => ?_
  have f2 := zex h4
  try simp only [en.down] at f2
  refine bs fun v7 h6 => ?_
  have f3 := zm7 h6
  try simp only [en.down] at f3
  refine bs fun v9 h8 => ?_
  have f4 := z4l h8
  try simp only [en.down] at f4
  refine bg qb fun x11 h10 f5 f6 f7 => ?_
  refine gd fun h12 => ?_
  have f8 := rG 1 qb out
  have f9 := mD left x11
  try simp only [en.down] at f9
  have f10 : List.map qb out ++ [[PV.int IntKind.i64 x11]] = List.map qb (out ++ [x11]) := by simp only [List.map_append,List.map_cons,List.map_nil,ze,z8,zb,qb] <;> rfl
  intro h; have f11 := ih190 _ _ h; clear h
  try simp only [en.down] at f11
  clear ih190; exact fL qb4
 rintro ⟨⟩
 clear ih190; exact fL qb4
theorem qw2 {i r} (h : qaw i = some r) : O.call 12 [v_g (T.za.enc i)] [] = some (v_l 1 qb r,[]) := by
 revert h; unfold qaw
 refine bs fun v2 h1 => ?_
 have f1 := ze9 _ _ h1
 try simp only [en.down] at f1
 refine bs fun v4 h3 => ?_
 have f2 := qqp _ _ h3
 try simp only [en.down] at f2
 rintro ⟨⟩
 exact fF qb4
theorem qs7 : ∀ p r,q4p p = some r → O.loop 33 0 ⟨[(0,v_l 1 qb p.1),(1,v_i p.2.1),(5,v_i p.2.2)],[],0⟩ = some (Ex.normal,⟨[(0,v_l 1 qb p.1),(1,v_i p.2.1),(5,v_i r)],[],0⟩) := by
 refine q4p.partial_correctness _ ?_
 rintro q4p ih203 ⟨ns,n,k⟩ r; dsimp only
 apply it <;> intro h1
 ·refine bg qb fun x3 h2 f1 f2 f3 => ?_
  apply it <;> intro h4
  ·intro h; have f4 := ih203 _ _ h; clear h
   try simp only [en.down] at f4
   clear ih203; exact fL q8k
  rintro ⟨⟩
  clear ih203; exact fL q8k
 rintro ⟨⟩
 clear ih203; exact fL q8k
theorem zba {ns n r} (h : qbc ns n = some r) : O.call 33 [v_l 1 qb ns,v_i n] [] = some (v_l 1 qb r,[]) := by
 revert h; unfold qbc
 refine bs fun v2 h1 => ?_
 have f1 := qs7 _ _ h1
 try simp only [en.down] at f1
 apply it <;> intro h3
 ·refine bg qb fun x5 h4 f2 f3 f4 => ?_
  apply it <;> intro h6
  ·rintro ⟨⟩
   exact fF q8k
  have f5 := xc 1 qb ns.l
  refine bT qb fun r8 h7 f6 f7 f8 f9 => ?_
  have f10 := xc 1 qb r8
  refine gd fun h9 => ?_
  refine gd fun h10 => ?_
  refine bF qb fun r12 h11 f11 f12 f13 f14 => ?_
  have f15 := xc 1 qb r12
  have f16 : List.map qb r8 ++ [[PV.int IntKind.i64 n]] = List.map qb (r8 ++ [n]) := by simp only [List.map_append,List.map_cons,List.map_nil,ze,z8,zb,qb] <;> rfl
  refine gd fun h13 => ?_
  have f17 : List.map qb (r8 ++ [n]) ++ List.map qb r12 = List.map qb ((r8 ++ [n]) ++ r12) := q31 _ _ _
  rintro ⟨⟩
  exact fF q8k
 have f18 := xc 1 qb ns.l
 refine bT qb fun r15 h14 f19 f20 f21 f22 => ?_
 have f23 := xc 1 qb r15
 refine gd fun h16 => ?_
 refine gd fun h17 => ?_
 refine bF qb fun r19 h18 f24 f25 f26 f27 => ?_
 have f28 := xc 1 qb r19
 have f29 : List.map qb r15 ++ [[PV.int IntKind.i64 n]] = List.map qb (r15 ++ [n]) := by simp only [List.map_append,List.map_cons,List.map_nil,ze,z8,zb,qb] <;> rfl
 refine gd fun h20 => ?_
 have f30 : List.map qb (r15 ++ [n]) ++ List.map qb r19 = List.map qb ((r15 ++ [n]) ++ r19) := q31 _ _ _
 rintro ⟨⟩
 exact fF q8k
theorem zes : ∀ p r,q4m p = some r → O.loop 14 0 ⟨[(1,AV.ptr 0 0),(3,v_l 1 qb p.1),(4,v_i p.2.1)],[(0,b_x (T.za.enc p.2.2))],1⟩ = some (Ex.normal,⟨[(1,AV.ptr 0 0),(3,v_l 1 qb r)],[(0,b_x (T.za.enc p.2.2))],1⟩) := by
 refine q4m.partial_correctness _ ?_
 rintro q4m ih201 ⟨all_,k,i⟩ r; dsimp only
 apply it <;> intro h1
 ·refine bg T.Stop.enc fun x3 h2 f1 f2 f3 => ?_
  refine bs fun v5 h4 => ?_
  have f4 := zba h4
  try simp only [en.down] at f4
  intro h; have f5 := ih201 _ _ h; clear h
  try simp only [en.down] at f5
  clear ih201; exact fL q0w
 rintro ⟨⟩
 clear ih201; exact fL q0w
def ql7 (l : (List Int)) : ((Bool) ⊕ (Unit)) → Ex × St
 | .inl y => (Ex.ret,⟨[(4,v_b y)],[(0,b_r 1 qb l)],1⟩)
 | .inr y => (Ex.normal,⟨[(4,AV.undef)],[(0,b_r 1 qb l)],1⟩)
attribute [local go_sem] ql7
theorem quh : ∀ p r,q4b p = some r → O.loop 34 0 ⟨[(0,v_r 0 p.2.2),(1,v_i p.1),(5,v_i p.2.1)],[(0,b_r 1 qb p.2.2)],1⟩ = some (ql7 p.2.2 r) := by
 refine q4b.partial_correctness _ ?_
 rintro q4b ih207 ⟨n,i,l⟩ r; dsimp only
 apply it <;> intro h1
 ·refine bW qb 1 fun x3 h2 f1 f2 f3 f4 f5 => ?_
  apply it <;> intro h4
  ·rintro ⟨⟩
   clear ih207; exact fL qba
  intro h; have f6 := ih207 _ _ h; clear h
  try simp only [en.down,f4,f5] at f6
  try simp only [f4,f5] at f6
  clear ih207; exact fL qba
 rintro ⟨⟩
 clear ih207; exact fL qba
theorem qi5 {n r_ r} (h : q7c n r_ = some r) : O.call 34 [v_r 0 r_,v_i n] [(0,b_r 1 qb r_)] = some (v_b r,[(0,b_r 1 qb r_)]) := by
 revert h; unfold q7c
 refine bs fun v2 h1 => ?_
 have f1 := quh _ _ h1
 try simp only [en.down] at f1
 rcases v2 with y3 | y4
 ·dsimp only
  rintro ⟨⟩
  exact fF qba
 dsimp only
 rintro ⟨⟩
 exact fF qba
def qn7 : ((Bool) ⊕ (Unit)) → Ex × St
 | .inl y => (Ex.ret,⟨[(6,v_b y)],[],0⟩)
 | .inr y => (Ex.normal,⟨[(6,AV.undef)],[],0⟩)
attribute [local go_sem] qn7
theorem zs3 : ∀ p r,q69 p = some r → O.loop 26 0 ⟨[(0,v_l 18 T.Stop.enc p.1),(1,v_i p.2.1),(2,v_i p.2.2)],[],0⟩ = some (qn7 r) := by
 refine q69.partial_correctness _ ?_
 rintro q69 ih212 ⟨l,a,b⟩ r; dsimp only
 refine zo (fun h1 h2 => ?_) ?_
 ·refine bg T.Stop.enc fun x4 h3 f1 f2 f3 => ?_
  apply it <;> intro h5
  ·apply it <;> intro h6
   ·apply it <;> intro h7
    ·rintro ⟨⟩
     clear ih212; exact fL q77
    intro h; have f4 := ih212 _ _ h; clear h
    try simp only [en.down] at f4
    clear ih212; exact fL q77
   rintro ⟨⟩
   clear ih212; exact fL q77
  rintro ⟨⟩
  clear ih212; exact fL q77
 rintro (⟨h1,h2⟩ | ⟨h1,h2⟩)
 all_goals
 rintro ⟨⟩
 clear ih212; exact fL q77
theorem zoc {l a b r} (h : qb7 l a b = some r) : O.call 26 [v_l 18 T.Stop.enc l,v_i a,v_i b] [] = some (v_b r,[]) := by
 revert h; unfold qb7
 refine bs fun v2 h1 => ?_
 have f1 := zs3 _ _ h1
 try simp only [en.down] at f1
 rcases v2 with y3 | y4
 ·dsimp only
  rintro ⟨⟩
  exact fF q77
 dsimp only
 rintro ⟨⟩
 exact fF q77
def qm8 (l : (Sl T.Stop)) (n : Int) (a : Int) (told : (List Int)) : ((Bool) ⊕ (Unit)) → Ex × St
 | .inl y => (Ex.ret,⟨[(0,v_l 18 T.Stop.enc l),(1,v_i n),(2,v_r 0 told),(6,v_b y),(7,v_i a)],[(0,b_r 1 qb told)],1⟩)
 | .inr y => (Ex.normal,⟨[(0,v_l 18 T.Stop.enc l),(1,v_i n),(2,v_r 0 told),(6,AV.undef),(7,v_i a)],[(0,b_r 1 qb told)],1⟩)
attribute [local go_sem] qm8
theorem znc : ∀ p r,q37 p = some r → O.loop 35 2 ⟨[(0,v_l 18 T.Stop.enc p.1),(1,v_i p.2.1),(2,v_r 0 p.2.2.2.2),(7,v_i p.2.2.1),(8,v_i p.2.2.2.1)],[(0,b_r 1 qb p.2.2.2.2)],1⟩ = some (qm8 p.1 p.2.1 p.2.2.1 p.2.2.2.2 r) := by
 refine q37.partial_correctness _ ?_
 rintro q37 ih210 ⟨l,n,a,b,told⟩ r; dsimp only
 apply it <;> intro h1
 ·refine bg T.Stop.enc fun x3 h2 f1 f2 f3 => ?_
  apply it <;> intro h4
  ·refine bs fun v6 h5 => ?_
   have f4 := zoc h5
   try simp only [en.down] at f4
   apply it <;> intro h7
   ·try simp only [h7] at f4
    rintro ⟨⟩
    clear ih210; exact fL q1e
   try simp only [h7] at f4
   intro h; have f5 := ih210 _ _ h; clear h
   try simp only [en.down] at f5
   try simp only [h7] at f5
   clear ih210; exact fL q1e
  intro h; have f6 := ih210 _ _ h; clear h
  try simp only [en.down] at f6
  clear ih210; exact fL q1e
 rintro ⟨⟩
 clear ih210; exact fL q1e
def qpi (told : (List Int)) : ((Bool) ⊕ (Unit)) → Ex × St
 | .inl y => (Ex.ret,⟨[(6,v_b y)],[(0,b_r 1 qb told)],1⟩)
 | .inr y => (Ex.normal,⟨[(6,AV.undef)],[(0,b_r 1 qb told)],1⟩)
attribute [local go_sem] qpi
theorem zlq : ∀ p r,q2c p = some r → O.loop 35 0 ⟨[(0,v_l 18 T.Stop.enc p.1),(1,v_i p.2.1),(2,v_r 0 p.2.2.2),(7,v_i p.2.2.1)],[(0,b_r 1 qb p.2.2.2)],1⟩ = some (qpi p.2.2.2 r) := by
 refine q2c.partial_correctness _ ?_
 rintro q2c ih209 ⟨l,n,a,told⟩ r; dsimp only
 apply it <;> intro h1
 ·refine bg T.Stop.enc fun x3 h2 f1 f2 f3 => ?_
  apply it <;> intro h4
  ·intro h; have f4 := ih209 _ _ h; clear h
   try simp only [en.down] at f4
   clear ih209; exact fL q1e
  refine bs fun v6 h5 => ?_
  have f5 := qi5 h5
  try simp only [en.down] at f5
  apply it <;> intro h7
  ·try simp only [h7] at f5
   intro h; have f6 := ih209 _ _ h; clear h
   try simp only [en.down] at f6
   try simp only [h7] at f6
   clear ih209; exact fL q1e
  refine bs fun v9 h8 => ?_
  have f7 := znc _ _ h8
  try simp only [en.down] at f7
  rcases v9 with y10 | y11
  ·dsimp only
   try simp only [h7] at f5 f7
   rintro ⟨⟩
   clear ih209; exact fL q1e
  dsimp only
  try simp only [h7] at f5 f7
  intro h; have f8 := ih209 _ _ h; clear h
  try simp only [en.down] at f8
  try simp only [h7] at f8
  clear ih209; exact fL q1e
 rintro ⟨⟩
 clear ih209; exact fL q1e
theorem zhj {l n r_ r} (h : q86 l n r_ = some r) : O.call 35 [v_l 18 T.Stop.enc l,v_i n,v_r 0 r_] [(0,b_r 1 qb r_)] = some (v_b r,[(0,b_r 1 qb r_)]) := by
 revert h; unfold q86
 refine bs fun v2 h1 => ?_
 have f1 := zlq _ _ h1
 try simp only [en.down] at f1
 rcases v2 with y3 | y4
 ·dsimp only
  rintro ⟨⟩
  exact fF q1e
 dsimp only
 rintro ⟨⟩
 exact fF q1e
theorem zaq : ∀ p r,q0i p = some r → O.loop 14 4 ⟨[(1,AV.ptr 0 0),(3,v_l 1 qb p.1),(5,v_r 1 p.2.2.2.2.2),(6,v_i p.2.1),(7,v_b p.2.2.1),(8,v_i p.2.2.2.1)],[(0,b_x (T.za.enc p.2.2.2.2.1)),(1,b_r 1 qb p.2.2.2.2.2)],2⟩ = some (Ex.normal,⟨[(1,AV.ptr 0 0),(3,v_l 1 qb p.1),(5,v_r 1 p.2.2.2.2.2),(6,v_i r.1),(7,v_b r.2)],[(0,b_x (T.za.enc p.2.2.2.2.1)),(1,b_r 1 qb p.2.2.2.2.2)],2⟩) := by
 refine q0i.partial_correctness _ ?_
 rintro q0i ih205 ⟨all_,next,found,k,i,told⟩ r; dsimp only
 refine zo (fun h1 h2 => ?_) ?_
 ·refine bg qb fun x4 h3 f1 f2 f3 => ?_
  refine bs fun v6 h5 => ?_
  have f4 := qi5 h5
  try simp only [en.down] at f4
  apply it <;> intro h7
  ·refine bs fun v9 h8 => ?_
   have f5 := zhj h8
   try simp only [en.down] at f5
   apply it <;> intro h10
   ·try simp only [h10] at f4 f5
    intro h; have f6 := ih205 _ _ h; clear h
    try simp only [en.down] at f6
    try simp only [h10] at f6
    clear ih205; exact fL q0w
   try simp only [h10] at f4 f5
   intro h; have f7 := ih205 _ _ h; clear h
   try simp only [en.down] at f7
   try simp only [h10] at f7
   clear ih205; exact fL q0w
  intro h; have f8 := ih205 _ _ h; clear h
  try simp only [en.down] at f8
  clear ih205; exact fL q0w
 rintro (⟨h1,h2⟩ | ⟨h1,h2⟩)
 all_goals
 rintro ⟨⟩
 clear ih205; exact fL q0w
theorem zj1 : ∀ p r,q04 p = some r → O.loop 14 6 ⟨[(1,AV.ptr 0 0),(3,v_l 1 qb p.1),(5,v_r 1 p.2.2.2.2.2),(6,v_i p.2.1),(7,v_b p.2.2.1),(9,v_i p.2.2.2.1)],[(0,b_x (T.za.enc p.2.2.2.2.1)),(1,b_r 1 qb p.2.2.2.2.2)],2⟩ = some (Ex.normal,⟨[(1,AV.ptr 0 0),(3,v_l 1 qb p.1),(5,v_r 1 p.2.2.2.2.2),(6,v_i r)],[(0,b_x (T.za.enc p.2.2.2.2.1)),(1,b_r 1 qb p.2.2.2.2.2)],2⟩) := by
 refine q04.partial_correctness _ ?_
 rintro q04 ih213 ⟨all_,next,found,k,i,told⟩ r; dsimp only
 refine zo (fun h1 h2 => ?_) ?_
 ·refine bg qb fun x4 h3 f1 f2 f3 => ?_
  refine bs fun v6 h5 => ?_
  have f4 := qi5 h5
  try simp only [en.down] at f4
  apply it <;> intro h7
  ·intro h; have f5 := ih213 _ _ h; clear h
   try simp only [en.down] at f5
   clear ih213; exact fL q0w
  intro h; have f6 := ih213 _ _ h; clear h
  try simp only [en.down] at f6
  clear ih213; exact fL q0w
 rintro (⟨h1,h2⟩ | ⟨h1,h2⟩)
 all_goals
 rintro ⟨⟩
 clear ih213; exact fL q0w
theorem zhp : ∀ p r,q46 p = some r → O.loop 14 2 ⟨[(1,AV.ptr 0 0),(3,v_l 1 qb p.1),(5,v_r 1 p.2.2)],[(0,b_x (T.za.enc p.2.1)),(1,b_r 1 qb p.2.2)],2⟩ = some (Ex.normal,⟨[(5,v_r 1 r)],[(0,b_x (T.za.enc p.2.1)),(1,b_r 1 qb r)],2⟩) := by
 refine q46.partial_correctness _ ?_
 rintro q46 ih204 ⟨all_,i,told⟩ r; dsimp only
 apply it <;> intro h1
 ·refine bs fun v3 h2 => ?_
  have f1 := zaq _ _ h2
  try simp only [en.down] at f1
  refine bs fun v5 h4 => ?_
  have f2 := zj1 _ _ h4
  try simp only [en.down] at f2
  refine gd fun h6 => ?_
  have f3 := rG 1 qb told
  have f4 : List.map qb told ++ [[PV.int IntKind.i64 v5]] = List.map qb (told ++ [v5]) := by simp only [List.map_append,List.map_cons,List.map_nil,ze,z8,zb,qb] <;> rfl
  intro h; have f5 := ih204 _ _ h; clear h
  try simp only [en.down] at f5
  clear ih204; exact fL q0w
 rintro ⟨⟩
 clear ih204; exact fL q0w
theorem zek {i r} (h : qac i = some r) : O.call 14 [v_g (T.za.enc i)] [] = some (v_l 1 qb r,[]) := by
 revert h; unfold qac
 refine bs fun v2 h1 => ?_
 have f1 := zes _ _ h1
 try simp only [en.down] at f1
 refine bs fun v4 h3 => ?_
 have f2 := zhp _ _ h3
 try simp only [en.down] at f2
 rintro ⟨⟩
 exact fF q0w
def qpr : ((Bool) ⊕ (Unit)) → Ex × St
 | .inl y => (Ex.ret,⟨[(4,v_b y)],[],0⟩)
 | .inr y => (Ex.normal,⟨[(4,AV.undef)],[],0⟩)
attribute [local go_sem] qpr
theorem qzs : ∀ p r,q4l p = some r → O.loop 13 0 ⟨[(0,v_l 1 qb p.1),(1,v_l 1 qb p.2.1),(5,v_i p.2.2)],[],0⟩ = some (qpr r) := by
 refine q4l.partial_correctness _ ?_
 rintro q4l ih215 ⟨a,b,i⟩ r; dsimp only
 apply it <;> intro h1
 ·refine bg qb fun x3 h2 f1 f2 f3 => ?_
  refine bg qb fun x5 h4 f4 f5 f6 => ?_
  apply it <;> intro h6
  ·rintro ⟨⟩
   clear ih215; exact fL q8p
  intro h; have f7 := ih215 _ _ h; clear h
  try simp only [en.down] at f7
  clear ih215; exact fL q8p
 rintro ⟨⟩
 clear ih215; exact fL q8p
theorem z3u {a b r} (h : qca a b = some r) : O.call 13 [v_l 1 qb a,v_l 1 qb b] [] = some (v_b r,[]) := by
 revert h; unfold qca
 apply it <;> intro h1
 ·rintro ⟨⟩
  exact fF q8p
 refine bs fun v3 h2 => ?_
 have f1 := qzs _ _ h2
 try simp only [en.down] at f1
 rcases v3 with y4 | y5
 ·dsimp only
  rintro ⟨⟩
  exact fF q8p
 dsimp only
 rintro ⟨⟩
 exact fF q8p
def qn6 (ns : (Sl Int)) (i : Int) (in_ : T.za) : ((Bool × Int × Int) ⊕ (Int × Int)) → Ex × St
 | .inl y => (Ex.ret,⟨[(2,v_b y.1),(3,AV.ptr 0 0),(5,v_l 1 qb ns),(6,v_i i),(7,v_i y.2.1),(8,v_i y.2.2)],[(0,b_x (T.za.enc in_))],1⟩)
 | .inr y => (Ex.normal,⟨[(2,AV.undef),(3,AV.ptr 0 0),(5,v_l 1 qb ns),(6,v_i i),(7,v_i y.1),(8,v_i y.2)],[(0,b_x (T.za.enc in_))],1⟩)
attribute [local go_sem] qn6
theorem qxw : ∀ p r,uw p = some r → O.loop 4 2 ⟨[(3,AV.ptr 0 0),(5,v_l 1 qb p.1),(6,v_i p.2.1),(7,v_i p.2.2.1),(8,v_i p.2.2.2.1),(9,v_i p.2.2.2.2.1)],[(0,b_x (T.za.enc p.2.2.2.2.2))],1⟩ = some (qn6 p.1 p.2.1 p.2.2.2.2.2 r) := by
 refine uw.partial_correctness _ ?_
 rintro uw ih217 ⟨ns,i,mine,up,k,in_⟩ r; dsimp only
 apply it <;> intro h1
 ·refine bg qb fun x3 h2 f1 f2 f3 => ?_
  refine bg T.Stop.enc fun x5 h4 f4 f5 f6 => ?_
  apply it <;> intro h6
  ·apply it <;> intro h7
   ·rintro ⟨⟩
    clear ih217; exact fL fn4
   apply it <;> intro h8
   ·refine bg T.Stop.enc fun x10 h9 f7 f8 f9 => ?_
    apply it <;> intro h11
    ·intro h; have f10 := ih217 _ _ h; clear h
     try simp only [en.down] at f10
     clear ih217; exact fL fn4
    intro h; have f11 := ih217 _ _ h; clear h
    try simp only [en.down] at f11
    clear ih217; exact fL fn4
   intro h; have f12 := ih217 _ _ h; clear h
   try simp only [en.down] at f12
   clear ih217; exact fL fn4
  apply it <;> intro h12
  ·refine bg T.Stop.enc fun x14 h13 f13 f14 f15 => ?_
   apply it <;> intro h15
   ·intro h; have f16 := ih217 _ _ h; clear h
    try simp only [en.down] at f16
    clear ih217; exact fL fn4
   intro h; have f17 := ih217 _ _ h; clear h
   try simp only [en.down] at f17
   clear ih217; exact fL fn4
  intro h; have f18 := ih217 _ _ h; clear h
  try simp only [en.down] at f18
  clear ih217; exact fL fn4
 rintro ⟨⟩
 clear ih217; exact fL fn4
def qof (in_ : T.za) : ((Bool) ⊕ (Unit)) → Ex × St
 | .inl y => (Ex.ret,⟨[(2,v_b y)],[(0,b_x (T.za.enc in_))],1⟩)
 | .inr y => (Ex.normal,⟨[(2,AV.undef)],[(0,b_x (T.za.enc in_))],1⟩)
attribute [local go_sem] qof
theorem qzj : ∀ p r,q5g p = some r → O.loop 4 0 ⟨[(3,AV.ptr 0 0),(5,v_l 1 qb p.1),(6,v_i p.2.1)],[(0,b_x (T.za.enc p.2.2))],1⟩ = some (qof p.2.2 r) := by
 refine q5g.partial_correctness _ ?_
 rintro q5g ih216 ⟨ns,i,in_⟩ r; dsimp only
 apply it <;> intro h1
 ·refine bs fun v3 h2 => ?_
  have f1 := qxw _ _ h2
  try simp only [en.down] at f1
  rcases v3 with y4 | y5
  ·dsimp only
   rintro ⟨⟩
   clear ih216; exact fL fn4
  dsimp only
  apply it <;> intro h6
  ·rintro ⟨⟩
   clear ih216; exact fL fn4
  refine bg T.Stop.enc fun x8 h7 f2 f3 f4 => ?_
  refine zo (fun h9 h10 => ?_) ?_
  ·rintro ⟨⟩
   clear ih216; exact fL fn4
  rintro (⟨h9,h10⟩ | ⟨h9,h10⟩)
  all_goals
  intro h; have f5 := ih216 _ _ h; clear h
  try simp only [en.down] at f5
  clear ih216; exact fL fn4
 rintro ⟨⟩
 clear ih216; exact fL fn4
theorem zgc {s r} (h : qf8 s = some r) : O.call 4 [v_s s] [] = some (v_b r,[]) := by
 revert h; unfold qf8
 refine bs fun v2 h1 => ?_
 have f1 := z5a h1
 try simp only [en.down] at f1
 refine xy ?_ (fun h3 h6 => ?_)
 ·rintro (⟨h3,h6⟩ | ⟨h3,h6⟩)
  all_goals
  refine bs fun v5 h4 => ?_
  have f2 := qn4 h4
  try simp only [en.down] at f2
  rintro ⟨⟩
  exact fF fn4
 refine bs fun v10 h9 => ?_
 have f3 := qw2 h9
 try simp only [en.down] at f3
 refine bs fun v12 h11 => ?_
 have f4 := zek h11
 try simp only [en.down] at f4
 refine bs fun v14 h13 => ?_
 have f5 := z3u h13
 try simp only [en.down] at f5
 apply it <;> intro h15
 ·rintro ⟨⟩
  exact fF fn4
 refine bs fun v17 h16 => ?_
 have f6 := qzj _ _ h16
 try simp only [en.down] at f6
 rcases v17 with y18 | y19
 ·dsimp only
  rintro ⟨⟩
  exact fF fn4
 dsimp only
 refine bs fun v21 h20 => ?_
 have f7 := qn4 h20
 try simp only [en.down] at f7
 rintro ⟨⟩
 exact fF fn4
end Go.Proofs.YtdhgdeelagmbpaaGreat
