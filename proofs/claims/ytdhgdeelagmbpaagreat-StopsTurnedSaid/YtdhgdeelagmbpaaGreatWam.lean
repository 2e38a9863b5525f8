/-
  What the machine's calls come to: the plain functions.
-/
import Derived.Test.YtdhgdeelagmbpaaGreatWaj
import Derived.Test.YtdhgdeelagmbpaaGreatWak
import Derived.Test.YtdhgdeelagmbpaaGreatWal
set_option linter.unusedSimpArgs false
set_option linter.unusedVariables false
set_option maxRecDepth 100000
namespace Go.Proofs.YtdhgdeelagmbpaaGreat
open Go Go.Gm
set_option maxHeartbeats 4000000
def qm2 : ((Bytes × Int × Bytes × (Sl T.qi) × Bytes × Bytes × (List T.qd) × (List Int) × (List Bytes) × (List Int) × (List Bytes)) ⊕ (Bytes × (Sl T.qi) × Bytes × Bytes × (List T.qd) × (List Int) × (List Bytes) × (List Int) × (List Bytes))) → Ex × St
 | .inl y => (Ex.ret,⟨[(8,v_s y.1),(9,v_i y.2.1),(10,v_s y.2.2.1)],[(0,Blk.box [v_l 2 T.qi.enc y.2.2.2.1,v_s y.2.2.2.2.1,v_s y.2.2.2.2.2.1,v_r 2 y.2.2.2.2.2.2.1,v_r 3 y.2.2.2.2.2.2.2.1,v_r 4 y.2.2.2.2.2.2.2.2.1]),(1,Blk.box [v_r 5 y.2.2.2.2.2.2.2.2.2.1,v_r 6 y.2.2.2.2.2.2.2.2.2.2]),(2,b_r 20 T.qd.enc y.2.2.2.2.2.2.1),(3,b_r 1 qg y.2.2.2.2.2.2.2.1),(4,b_r 1 qh y.2.2.2.2.2.2.2.2.1),(5,b_r 1 qg y.2.2.2.2.2.2.2.2.2.1),(6,b_r 1 qh y.2.2.2.2.2.2.2.2.2.2)],7⟩)
 | .inr y => (Ex.normal,⟨[(8,AV.undef),(9,AV.undef),(10,v_s y.1)],[(0,Blk.box [v_l 2 T.qi.enc y.2.1,v_s y.2.2.1,v_s y.2.2.2.1,v_r 2 y.2.2.2.2.1,v_r 3 y.2.2.2.2.2.1,v_r 4 y.2.2.2.2.2.2.1]),(1,Blk.box [v_r 5 y.2.2.2.2.2.2.2.1,v_r 6 y.2.2.2.2.2.2.2.2]),(2,b_r 20 T.qd.enc y.2.2.2.2.1),(3,b_r 1 qg y.2.2.2.2.2.1),(4,b_r 1 qh y.2.2.2.2.2.2.1),(5,b_r 1 qg y.2.2.2.2.2.2.2.1),(6,b_r 1 qh y.2.2.2.2.2.2.2.2)],7⟩)
attribute [local go_sem] qm2
theorem qhb : (∀ p r,q03 p = some r → O.call 67 [AV.ptr 0 0,AV.ptr 1 0,v_i p.1] [(0,Blk.box [v_l 2 T.qi.enc p.2.1,v_s p.2.2.1,v_s p.2.2.2.1,v_r 2 p.2.2.2.2.1,v_r 3 p.2.2.2.2.2.1,v_r 4 p.2.2.2.2.2.2.1]),(1,Blk.box [v_r 5 p.2.2.2.2.2.2.2.1,v_r 6 p.2.2.2.2.2.2.2.2]),(2,b_r 20 T.qd.enc p.2.2.2.2.1),(3,b_r 1 qg p.2.2.2.2.2.1),(4,b_r 1 qh p.2.2.2.2.2.2.1),(5,b_r 1 qg p.2.2.2.2.2.2.2.1),(6,b_r 1 qh p.2.2.2.2.2.2.2.2)] = some (AV.tup [v_s r.1,v_i r.2.1],[(0,Blk.box [v_l 2 T.qi.enc r.2.2.1,v_s r.2.2.2.1,v_s r.2.2.2.2.1,v_r 2 r.2.2.2.2.2.1,v_r 3 r.2.2.2.2.2.2.1,v_r 4 r.2.2.2.2.2.2.2.1]),(1,Blk.box [v_r 5 r.2.2.2.2.2.2.2.2.1,v_r 6 r.2.2.2.2.2.2.2.2.2]),(2,b_r 20 T.qd.enc r.2.2.2.2.2.1),(3,b_r 1 qg r.2.2.2.2.2.2.1),(4,b_r 1 qh r.2.2.2.2.2.2.2.1),(5,b_r 1 qg r.2.2.2.2.2.2.2.2.1),(6,b_r 1 qh r.2.2.2.2.2.2.2.2.2)])) ∧ (∀ p r,q82 p = some r → O.call 80 [AV.ptr 0 0,AV.ptr 1 0,v_i p.1] [(0,Blk.box [v_l 2 T.qi.enc p.2.1,v_s p.2.2.1,v_s p.2.2.2.1,v_r 2 p.2.2.2.2.1,v_r 3 p.2.2.2.2.2.1,v_r 4 p.2.2.2.2.2.2.1]),(1,Blk.box [v_r 5 p.2.2.2.2.2.2.2.1,v_r 6 p.2.2.2.2.2.2.2.2]),(2,b_r 20 T.qd.enc p.2.2.2.2.1),(3,b_r 1 qg p.2.2.2.2.2.1),(4,b_r 1 qh p.2.2.2.2.2.2.1),(5,b_r 1 qg p.2.2.2.2.2.2.2.1),(6,b_r 1 qh p.2.2.2.2.2.2.2.2)] = some (AV.tup [v_s r.1,v_i r.2.1],[(0,Blk.box [v_l 2 T.qi.enc r.2.2.1,v_s r.2.2.2.1,v_s r.2.2.2.2.1,v_r 2 r.2.2.2.2.2.1,v_r 3 r.2.2.2.2.2.2.1,v_r 4 r.2.2.2.2.2.2.2.1]),(1,Blk.box [v_r 5 r.2.2.2.2.2.2.2.2.1,v_r 6 r.2.2.2.2.2.2.2.2.2]),(2,b_r 20 T.qd.enc r.2.2.2.2.2.1),(3,b_r 1 qg r.2.2.2.2.2.2.1),(4,b_r 1 qh r.2.2.2.2.2.2.2.1),(5,b_r 1 qg r.2.2.2.2.2.2.2.2.1),(6,b_r 1 qh r.2.2.2.2.2.2.2.2.2)])) ∧ (∀ p r,qb3 p = some r → O.call 44 [AV.ptr 0 0,AV.ptr 1 0,v_i p.1,v_i p.2.1] [(0,Blk.box [v_l 2 T.qi.enc p.2.2.1,v_s p.2.2.2.1,v_s p.2.2.2.2.1,v_r 2 p.2.2.2.2.2.1,v_r 3 p.2.2.2.2.2.2.1,v_r 4 p.2.2.2.2.2.2.2.1]),(1,Blk.box [v_r 5 p.2.2.2.2.2.2.2.2.1,v_r 6 p.2.2.2.2.2.2.2.2.2]),(2,b_r 20 T.qd.enc p.2.2.2.2.2.1),(3,b_r 1 qg p.2.2.2.2.2.2.1),(4,b_r 1 qh p.2.2.2.2.2.2.2.1),(5,b_r 1 qg p.2.2.2.2.2.2.2.2.1),(6,b_r 1 qh p.2.2.2.2.2.2.2.2.2)] = some (AV.tup [v_s r.1,v_i r.2.1],[(0,Blk.box [v_l 2 T.qi.enc r.2.2.1,v_s r.2.2.2.1,v_s r.2.2.2.2.1,v_r 2 r.2.2.2.2.2.1,v_r 3 r.2.2.2.2.2.2.1,v_r 4 r.2.2.2.2.2.2.2.1]),(1,Blk.box [v_r 5 r.2.2.2.2.2.2.2.2.1,v_r 6 r.2.2.2.2.2.2.2.2.2]),(2,b_r 20 T.qd.enc r.2.2.2.2.2.1),(3,b_r 1 qg r.2.2.2.2.2.2.1),(4,b_r 1 qh r.2.2.2.2.2.2.2.1),(5,b_r 1 qg r.2.2.2.2.2.2.2.2.1),(6,b_r 1 qh r.2.2.2.2.2.2.2.2.2)])) ∧ (∀ p r,q5k p = some r → O.loop 44 0 ⟨[(0,AV.ptr 0 0),(1,AV.ptr 1 0),(3,v_i p.1),(10,v_s p.2.1),(11,v_i p.2.2.1)],[(0,Blk.box [v_l 2 T.qi.enc p.2.2.2.1,v_s p.2.2.2.2.1,v_s p.2.2.2.2.2.1,v_r 2 p.2.2.2.2.2.2.1,v_r 3 p.2.2.2.2.2.2.2.1,v_r 4 p.2.2.2.2.2.2.2.2.1]),(1,Blk.box [v_r 5 p.2.2.2.2.2.2.2.2.2.1,v_r 6 p.2.2.2.2.2.2.2.2.2.2]),(2,b_r 20 T.qd.enc p.2.2.2.2.2.2.1),(3,b_r 1 qg p.2.2.2.2.2.2.2.1),(4,b_r 1 qh p.2.2.2.2.2.2.2.2.1),(5,b_r 1 qg p.2.2.2.2.2.2.2.2.2.1),(6,b_r 1 qh p.2.2.2.2.2.2.2.2.2.2)],7⟩ = some (qm2 r)) := by
 refine q03.mutual_partial_correctness _ _ _ _ ?_ ?_ ?_ ?_
 ·rintro q82 ih131 ⟨i,b,b_2,b_3,r_,r_2,r_3,r_4,r_5⟩ r; dsimp only
  refine bW T.qd.enc 20 fun x2 h1 f1 f2 f3 f4 f5 => ?_
  apply it <;> intro h3
  ·refine bs fun v5 h4 => ?_
   have f6 := zg6 h4
   try simp only [en.down,f4,f5] at f6
   apply it <;> intro h6
   ·refine bs fun v8 h7 => ?_
    have f7 := ih131 _ _ h7
    try simp only [en.down,f4,f5] at f7
    apply it <;> intro h9
    ·try simp only [f4,f5] at f6 f7
     rintro ⟨⟩
     clear ih131; exact fF q6f
    refine gd fun h10 => ?_
    have f8 := rG 1 qg v8.2.2.2.2.2.2.2.2.1
    refine gd fun h11 => ?_
    have f9 := rG 1 qh v8.2.2.2.2.2.2.2.2.2
    have f10 : List.map qh v8.2.2.2.2.2.2.2.2.2 ++ [[PV.str v8.1]] = List.map qh (v8.2.2.2.2.2.2.2.2.2 ++ [v8.1]) := by simp only [List.map_append,List.map_cons,List.map_nil,zb,za,ze,qh] <;> rfl
    refine bw qh fun x13 h12 f11 f12 f13 => ?_
    apply it <;> intro h14
    ·refine bs fun v16 h15 => ?_
     have f14 := qho h15
     try simp only [en.down,f4,f5] at f14
     have f15 : List.map qg v8.2.2.2.2.2.2.2.2.1 ++ [[PV.int IntKind.i64 x2.n]] = List.map qg (v8.2.2.2.2.2.2.2.2.1 ++ [x2.n]) := by simp only [List.map_append,List.map_cons,List.map_nil,zb,za,ze,qg] <;> rfl
     try simp only [h14,f4,f5] at f6 f7 f14
     rintro ⟨⟩
     clear ih131; exact fF q6f
    have f16 : List.map qg v8.2.2.2.2.2.2.2.2.1 ++ [[PV.int IntKind.i64 x2.n]] = List.map qg (v8.2.2.2.2.2.2.2.2.1 ++ [x2.n]) := by simp only [List.map_append,List.map_cons,List.map_nil,zb,za,ze,qg] <;> rfl
    try simp only [h14,f4,f5] at f6 f7
    rintro ⟨⟩
    clear ih131; exact fF q6f
   refine bW qh 1 fun x18 h17 f17 f18 f19 f20 f21 => ?_
   apply it <;> intro h19
   ·refine bs fun v21 h20 => ?_
    have f22 := qho h20
    try simp only [en.down,f4,f5,f20,f21] at f22
    try simp only [h19,f4,f5,f20,f21] at f6 f22
    rintro ⟨⟩
    clear ih131; exact fF q6f
   try simp only [h19,f4,f5,f20,f21] at f6
   rintro ⟨⟩
   clear ih131; exact fF q6f
  apply it <;> intro h22
  ·refine bs fun v24 h23 => ?_
   have f23 := qho h23
   try simp only [en.down,f4,f5] at f23
   try simp only [h22,f4,f5] at f23
   rintro ⟨⟩
   clear ih131; exact fF q6f
  rintro ⟨⟩
  clear ih131; exact fF q6f
 ·rintro qb3 ih132 ⟨n,b,b_2,b_3,r_,r_2,r_3,r_4,r_5⟩ r; dsimp only
  refine bs fun v2 h1 => ?_
  have f1 := qeq h1
  try simp only [en.down] at f1
  apply it <;> intro h3
  ·rintro ⟨⟩
   clear ih132; exact fF qcv
  refine bW T.qd.enc 20 fun x5 h4 f2 f3 f4 f5 f6 => ?_
  apply it <;> intro h6
  ·refine bg qh fun x8 h7 f7 f8 f9 => ?_
   apply it <;> intro h9
   ·try simp only [f5,f6] at f1
    rintro ⟨⟩
    clear ih132; exact fF qcv
   try simp only [f5,f6] at f1
   rintro ⟨⟩
   clear ih132; exact fF qcv
  refine bs fun v11 h10 => ?_
  have f10 := ih132 _ _ h10
  try simp only [en.down,f5,f6] at f10
  try simp only [f5,f6] at f1 f10
  rintro ⟨⟩
  clear ih132; exact fF qcv
 ·rintro q5k ih133 ⟨frm,to,b,b_2,b_3,r_,r_2,r_3,r_4,r_5⟩ r; dsimp only
  refine bs fun v2 h1 => ?_
  have f1 := ih133 _ _ h1
  try simp only [en.down] at f1
  rcases v2 with y3 | y4
  ·dsimp only
   rintro ⟨⟩
   clear ih133; exact fF q0m
  dsimp only
  rintro ⟨⟩
  clear ih133; exact fF q0m
 ·rintro q03 q5k ih128 ih133 ⟨to,s,i,w,w2,w3,r2_,r3_,r4_,r5_,r6_⟩ r; dsimp only
  apply it <;> intro h1
  ·refine bs fun v3 h2 => ?_
   have f1 := ih128 _ _ h2
   try simp only [en.down] at f1
   apply it <;> intro h4
   ·rintro ⟨⟩
    clear ih128 ih133; exact fL q0m
   refine gd fun h5 => ?_
   have f2 := eq_true h5
   try simp only [en.down] at f2
   apply it <;> intro h6
   ·rintro ⟨⟩
    clear ih128 ih133; exact fL q0m
   refine bW T.qd.enc 20 fun x8 h7 f3 f4 f5 f6 f7 => ?_
   try simp only [f6,f7] at f1
   intro h; have f8 := ih133 _ _ h; clear h
   try simp only [en.down,f6,f7] at f8
   try simp only [f6,f7] at f8
   clear ih128 ih133; exact fL q0m
  rintro ⟨⟩
  clear ih128 ih133; exact fL q0m
def qm4 : ((Bytes × Int × Bytes × (Sl T.qi) × Bytes × Bytes × (List T.qd) × (List Int) × (List Bytes) × (List Int) × (List Bytes)) ⊕ (Bytes × (Sl T.qi) × Bytes × Bytes × (List T.qd) × (List Int) × (List Bytes) × (List Int) × (List Bytes))) → Ex × St
 | .inl y => (Ex.ret,⟨[(8,v_s y.1),(9,v_i y.2.1),(10,v_s y.2.2.1)],[(0,Blk.box [v_l 2 T.qi.enc y.2.2.2.1,v_s y.2.2.2.2.1,v_s y.2.2.2.2.2.1,v_r 2 y.2.2.2.2.2.2.1,v_r 3 y.2.2.2.2.2.2.2.1,v_r 4 y.2.2.2.2.2.2.2.2.1]),(1,Blk.box [v_r 5 y.2.2.2.2.2.2.2.2.2.1,v_r 6 y.2.2.2.2.2.2.2.2.2.2]),(2,b_r 20 T.qd.enc y.2.2.2.2.2.2.1),(3,b_r 1 qg y.2.2.2.2.2.2.2.1),(4,b_r 1 qh y.2.2.2.2.2.2.2.2.1),(5,b_r 1 qg y.2.2.2.2.2.2.2.2.2.1),(6,b_r 1 qh y.2.2.2.2.2.2.2.2.2.2)],7⟩)
 | .inr y => (Ex.normal,⟨[(8,AV.undef),(9,AV.undef),(10,v_s y.1)],[(0,Blk.box [v_l 2 T.qi.enc y.2.1,v_s y.2.2.1,v_s y.2.2.2.1,v_r 2 y.2.2.2.2.1,v_r 3 y.2.2.2.2.2.1,v_r 4 y.2.2.2.2.2.2.1]),(1,Blk.box [v_r 5 y.2.2.2.2.2.2.2.1,v_r 6 y.2.2.2.2.2.2.2.2]),(2,b_r 20 T.qd.enc y.2.2.2.2.1),(3,b_r 1 qg y.2.2.2.2.2.1),(4,b_r 1 qh y.2.2.2.2.2.2.1),(5,b_r 1 qg y.2.2.2.2.2.2.2.1),(6,b_r 1 qh y.2.2.2.2.2.2.2.2)],7⟩)
attribute [local go_sem] qm4
theorem qxw : ∀ p r,q4p p = some r → O.loop 44 0 ⟨[(0,AV.ptr 0 0),(1,AV.ptr 1 0),(3,v_i p.1),(10,v_s p.2.1),(11,v_i p.2.2.1)],[(0,Blk.box [v_l 2 T.qi.enc p.2.2.2.1,v_s p.2.2.2.2.1,v_s p.2.2.2.2.2.1,v_r 2 p.2.2.2.2.2.2.1,v_r 3 p.2.2.2.2.2.2.2.1,v_r 4 p.2.2.2.2.2.2.2.2.1]),(1,Blk.box [v_r 5 p.2.2.2.2.2.2.2.2.2.1,v_r 6 p.2.2.2.2.2.2.2.2.2.2]),(2,b_r 20 T.qd.enc p.2.2.2.2.2.2.1),(3,b_r 1 qg p.2.2.2.2.2.2.2.1),(4,b_r 1 qh p.2.2.2.2.2.2.2.2.1),(5,b_r 1 qg p.2.2.2.2.2.2.2.2.2.1),(6,b_r 1 qh p.2.2.2.2.2.2.2.2.2.2)],7⟩ = some (qm4 r) := by
 refine q4p.partial_correctness _ ?_
 rintro q4p ih127 ⟨to,s,i,w,w2,w3,r2_,r3_,r4_,r5_,r6_⟩ r; dsimp only
 apply it <;> intro h1
 ·refine bs fun v3 h2 => ?_
  have f1 := qhb.1 _ _ h2
  try simp only [en.down] at f1
  apply it <;> intro h4
  ·rintro ⟨⟩
   clear ih127; exact fL q0m
  refine gd fun h5 => ?_
  have f2 := eq_true h5
  try simp only [en.down] at f2
  apply it <;> intro h6
  ·rintro ⟨⟩
   clear ih127; exact fL q0m
  refine bW T.qd.enc 20 fun x8 h7 f3 f4 f5 f6 f7 => ?_
  try simp only [f6,f7] at f1
  intro h; have f8 := ih127 _ _ h; clear h
  try simp only [en.down,f6,f7] at f8
  try simp only [f6,f7] at f8
  clear ih127; exact fL q0m
 rintro ⟨⟩
 clear ih127; exact fL q0m
theorem qqa {frm to b b_2 b_3 r_ r_2 r_3 r} (h : qai frm to b b_2 b_3 r_ r_2 r_3 = some r) : O.call 44 [AV.ptr 0 0,AV.ptr 1 0,v_i frm,v_i to] [(0,Blk.box [v_l 2 T.qi.enc b,v_s b_2,v_s b_3,v_r 2 r_,v_r 3 r_2,v_r 4 r_3]),(1,Blk.box [AV.pv (PV.sl true 0 []),AV.pv (PV.sl true 0 [])]),(2,b_r 20 T.qd.enc r_),(3,b_r 1 qg r_2),(4,b_r 1 qh r_3)] = some (AV.tup [v_s r.1,v_i r.2.1],[(0,Blk.box [v_l 2 T.qi.enc r.2.2.1,v_s r.2.2.2.1,v_s r.2.2.2.2.1,v_r 2 r.2.2.2.2.2.1,v_r 3 r.2.2.2.2.2.2.1,v_r 4 r.2.2.2.2.2.2.2.1]),(1,Blk.box [v_r 5 r.2.2.2.2.2.2.2.2.1,v_r 6 r.2.2.2.2.2.2.2.2.2]),(2,b_r 20 T.qd.enc r.2.2.2.2.2.1),(3,b_r 1 qg r.2.2.2.2.2.2.1),(4,b_r 1 qh r.2.2.2.2.2.2.2.1),(5,b_r 1 qg r.2.2.2.2.2.2.2.2.1),(6,b_r 1 qh r.2.2.2.2.2.2.2.2.2)]) := by
 revert h; unfold qai
 refine bs fun v2 h1 => ?_
 have f1 := qxw _ _ h1
 try simp only [en.down] at f1
 rcases v2 with y3 | y4
 ·dsimp only
  rintro ⟨⟩
  exact fF q0m
 dsimp only
 rintro ⟨⟩
 exact fF q0m
theorem qo3 : (∀ p r,pg p = some r → r.2.2.2.2.2.1.length = p.2.2.2.2.2.2.2.1.length ∧ O.call 45 [AV.ptr 0 0,AV.ptr 1 0,v_r 2 p.2.2.2.2.2.2.1,v_r 3 p.2.2.2.2.2.2.2.1,v_i p.1,v_i p.2.1,v_i p.2.2.1] [(0,Blk.box [v_l 2 T.qi.enc p.2.2.2.1,v_s p.2.2.2.2.1,v_s p.2.2.2.2.2.1,v_r 4 p.2.2.2.2.2.2.2.2.1,v_r 5 p.2.2.2.2.2.2.2.2.2.1,v_r 6 p.2.2.2.2.2.2.2.2.2.2.1]),(1,Blk.box [v_r 7 p.2.2.2.2.2.2.2.2.2.2.2.1,v_r 8 p.2.2.2.2.2.2.2.2.2.2.2.2]),(2,b_r 18 T.Stop.enc p.2.2.2.2.2.2.1),(3,Blk.row false 1 (List.map qg p.2.2.2.2.2.2.2.1)),(4,b_r 20 T.qd.enc p.2.2.2.2.2.2.2.2.1),(5,b_r 1 qg p.2.2.2.2.2.2.2.2.2.1),(6,b_r 1 qh p.2.2.2.2.2.2.2.2.2.2.1),(7,b_r 1 qg p.2.2.2.2.2.2.2.2.2.2.2.1),(8,b_r 1 qh p.2.2.2.2.2.2.2.2.2.2.2.2)] = some (AV.tup [v_r 2 r.2.2.2.2.1,v_i r.1],[(0,Blk.box [v_l 2 T.qi.enc r.2.1,v_s r.2.2.1,v_s r.2.2.2.1,v_r 4 r.2.2.2.2.2.2.1,v_r 5 r.2.2.2.2.2.2.2.1,v_r 6 r.2.2.2.2.2.2.2.2.1]),(1,Blk.box [v_r 7 r.2.2.2.2.2.2.2.2.2.1,v_r 8 r.2.2.2.2.2.2.2.2.2.2]),(2,b_r 18 T.Stop.enc r.2.2.2.2.1),(3,Blk.row false 1 (List.map qg r.2.2.2.2.2.1)),(4,b_r 20 T.qd.enc r.2.2.2.2.2.2.1),(5,b_r 1 qg r.2.2.2.2.2.2.2.1),(6,b_r 1 qh r.2.2.2.2.2.2.2.2.1),(7,b_r 1 qg r.2.2.2.2.2.2.2.2.2.1),(8,b_r 1 qh r.2.2.2.2.2.2.2.2.2.2)])) ∧ (∀ p r,ni p = some r → r.2.2.2.2.2.1.length = p.2.2.2.2.2.2.2.1.length ∧ O.loop 45 0 ⟨[(0,AV.ptr 0 0),(1,AV.ptr 1 0),(2,v_r 2 p.2.2.2.2.2.2.1),(3,v_r 3 p.2.2.2.2.2.2.2.1),(5,v_i p.1),(6,v_i p.2.1),(16,v_i p.2.2.1)],[(0,Blk.box [v_l 2 T.qi.enc p.2.2.2.1,v_s p.2.2.2.2.1,v_s p.2.2.2.2.2.1,v_r 4 p.2.2.2.2.2.2.2.2.1,v_r 5 p.2.2.2.2.2.2.2.2.2.1,v_r 6 p.2.2.2.2.2.2.2.2.2.2.1]),(1,Blk.box [v_r 7 p.2.2.2.2.2.2.2.2.2.2.2.1,v_r 8 p.2.2.2.2.2.2.2.2.2.2.2.2]),(2,b_r 18 T.Stop.enc p.2.2.2.2.2.2.1),(3,Blk.row false 1 (List.map qg p.2.2.2.2.2.2.2.1)),(4,b_r 20 T.qd.enc p.2.2.2.2.2.2.2.2.1),(5,b_r 1 qg p.2.2.2.2.2.2.2.2.2.1),(6,b_r 1 qh p.2.2.2.2.2.2.2.2.2.2.1),(7,b_r 1 qg p.2.2.2.2.2.2.2.2.2.2.2.1),(8,b_r 1 qh p.2.2.2.2.2.2.2.2.2.2.2.2)],9⟩ = some (Ex.normal,⟨[(2,v_r 2 r.2.2.2.2.1),(6,v_i r.1)],[(0,Blk.box [v_l 2 T.qi.enc r.2.1,v_s r.2.2.1,v_s r.2.2.2.1,v_r 4 r.2.2.2.2.2.2.1,v_r 5 r.2.2.2.2.2.2.2.1,v_r 6 r.2.2.2.2.2.2.2.2.1]),(1,Blk.box [v_r 7 r.2.2.2.2.2.2.2.2.2.1,v_r 8 r.2.2.2.2.2.2.2.2.2.2]),(2,b_r 18 T.Stop.enc r.2.2.2.2.1),(3,Blk.row false 1 (List.map qg r.2.2.2.2.2.1)),(4,b_r 20 T.qd.enc r.2.2.2.2.2.2.1),(5,b_r 1 qg r.2.2.2.2.2.2.2.1),(6,b_r 1 qh r.2.2.2.2.2.2.2.2.1),(7,b_r 1 qg r.2.2.2.2.2.2.2.2.2.1),(8,b_r 1 qh r.2.2.2.2.2.2.2.2.2.2)],9⟩)) := by
 refine pg.mutual_partial_correctness _ _ ?_ ?_
 ·rintro ni ih184 ⟨frm,to,at_,b,b_2,b_3,r_,r_2,r_3,r_4,r_5,r_6,r_7⟩ r; dsimp only
  refine bs fun v2 h1 => ?_
  obtain ⟨f1L,f1⟩ := ih184 _ _ h1
  try simp only [List.length_set] at f1L
  try simp only [en.down,f1L] at f1
  try simp only [f1L] at f1
  rintro ⟨⟩
  clear ih184; exact ⟨by first | rfl | (simp only [List.length_set,f1L]; done),fF mo⟩
 ·rintro pg ni ih183 ih184 ⟨to,at_,i,w,w2,w3,out,place,r4_,r5_,r6_,r7_,r8_⟩ r; dsimp only
  apply it <;> intro h1
  ·refine bW T.qd.enc 20 fun x3 h2 f1 f2 f3 f4 f5 => ?_
   refine bs fun v5 h4 => ?_
   have f6 := qhb.1 _ _ h4
   try simp only [en.down,f4,f5] at f6
   apply it <;> intro h6
   ·apply it <;> intro h7
    ·refine bw qg fun x9 h8 f7 f8 f9 => ?_
     refine bw qg fun x11 h10 f10 f11 f12 => ?_
     have f13 := map_set qg place i.toNat (out.length : Int)
     try simp only [en.down] at f13
     refine gd fun h12 => ?_
     have f14 := rG 18 T.Stop.enc out
     apply it <;> intro h13
     ·have f15 : List.map T.Stop.enc out ++ [[PV.int IntKind.i64 at_,PV.int IntKind.i64 (IntKind.i64.wrap (at_ + (v5.1.length : Int))),PV.int IntKind.i64 x3.n,PV.int IntKind.i64 x9,PV.bool x3.first,PV.bool x3.turned,PV.int IntKind.i64 x3.form.rx.kind,PV.str x3.form.rx.char,PV.bool x3.form.rx.not,PV.sl x3.form.rx.rows.nil (szc 2 x3.form.rx.rows.l) (List.map T.Row.enc x3.form.rx.rows.l),PV.int IntKind.i64 x3.form.rx.min,PV.int IntKind.i64 x3.form.rx.max,PV.bool x3.form.rx.lazy,PV.sl x3.form.rx.kids.nil (szc 8 x3.form.rx.kids.l) (List.map T.Rx.enc x3.form.rx.kids.l),PV.sl x3.form.fmts.nil (szc 5 x3.form.fmts.l) (List.map T.Fmt.enc x3.form.fmts.l),PV.bool x3.form.fold,PV.bool x3.form.all,PV.sl x3.opts.nil (szc 1 x3.opts.l) (List.map qh x3.opts.l)]] = List.map T.Stop.enc (out ++ [(T.Stop.mk (T.Span.mk at_ (IntKind.i64.wrap (at_ + (v5.1.length : Int)))) x3.n x9 x3.first x3.turned x3.form x3.opts)]) := by simp only [List.map_append,List.map_cons,List.map_nil,zb,za,ze,T.Stop.qz] <;> rfl
      refine bs fun v15 h14 => ?_
      obtain ⟨f16L,f16⟩ := ih183 _ _ h14
      try simp only [List.length_set] at f16L
      try simp only [en.down,f4,f5,f16L] at f16
      refine bW T.qd.enc 20 fun x17 h16 f17 f18 f19 f20 f21 => ?_
      try simp only [h13,f4,f5,f16L,f20,f21] at f6 f13 f16
      intro h; obtain ⟨f22L,f22⟩ := ih184 _ _ h; clear h
      try simp only [en.down,f4,f5,f16L,f20,f21] at f22
      try simp only [h13,f4,f5,f16L,f20,f21] at f22
      clear ih183 ih184; exact ⟨by first | rfl | (simp only [List.length_set,f22L,f16L]; done),fL mo⟩
     refine bW T.qd.enc 20 fun x19 h18 f23 f24 f25 f26 f27 => ?_
     have f28 : List.map T.Stop.enc out ++ [[PV.int IntKind.i64 at_,PV.int IntKind.i64 (IntKind.i64.wrap (at_ + (v5.1.length : Int))),PV.int IntKind.i64 x3.n,PV.int IntKind.i64 x9,PV.bool x3.first,PV.bool x3.turned,PV.int IntKind.i64 x3.form.rx.kind,PV.str x3.form.rx.char,PV.bool x3.form.rx.not,PV.sl x3.form.rx.rows.nil (szc 2 x3.form.rx.rows.l) (List.map T.Row.enc x3.form.rx.rows.l),PV.int IntKind.i64 x3.form.rx.min,PV.int IntKind.i64 x3.form.rx.max,PV.bool x3.form.rx.lazy,PV.sl x3.form.rx.kids.nil (szc 8 x3.form.rx.kids.l) (List.map T.Rx.enc x3.form.rx.kids.l),PV.sl x3.form.fmts.nil (szc 5 x3.form.fmts.l) (List.map T.Fmt.enc x3.form.fmts.l),PV.bool x3.form.fold,PV.bool x3.form.all,PV.sl x3.opts.nil (szc 1 x3.opts.l) (List.map qh x3.opts.l)]] = List.map T.Stop.enc (out ++ [(T.Stop.mk (T.Span.mk at_ (IntKind.i64.wrap (at_ + (v5.1.length : Int)))) x3.n x9 x3.first x3.turned x3.form x3.opts)]) := by simp only [List.map_append,List.map_cons,List.map_nil,zb,za,ze,T.Stop.qz] <;> rfl
     try simp only [h13,f4,f5,f26,f27] at f6 f13
     intro h; obtain ⟨f29L,f29⟩ := ih184 _ _ h; clear h
     try simp only [en.down,f4,f5,f26,f27] at f29
     try simp only [h13,f4,f5,f26,f27] at f29
     clear ih183 ih184; exact ⟨by first | rfl | (simp only [List.length_set,f29L]; done),fL mo⟩
    refine bw qg fun x21 h20 f30 f31 f32 => ?_
    have f33 := map_set qg place i.toNat (out.length : Int)
    try simp only [en.down] at f33
    refine gd fun h22 => ?_
    have f34 := rG 18 T.Stop.enc out
    apply it <;> intro h23
    ·have f35 : List.map T.Stop.enc out ++ [[PV.int IntKind.i64 at_,PV.int IntKind.i64 (IntKind.i64.wrap (at_ + (v5.1.length : Int))),PV.int IntKind.i64 x3.n,PV.int IntKind.i64 ((-1) : Int),PV.bool x3.first,PV.bool x3.turned,PV.int IntKind.i64 x3.form.rx.kind,PV.str x3.form.rx.char,PV.bool x3.form.rx.not,PV.sl x3.form.rx.rows.nil (szc 2 x3.form.rx.rows.l) (List.map T.Row.enc x3.form.rx.rows.l),PV.int IntKind.i64 x3.form.rx.min,PV.int IntKind.i64 x3.form.rx.max,PV.bool x3.form.rx.lazy,PV.sl x3.form.rx.kids.nil (szc 8 x3.form.rx.kids.l) (List.map T.Rx.enc x3.form.rx.kids.l),PV.sl x3.form.fmts.nil (szc 5 x3.form.fmts.l) (List.map T.Fmt.enc x3.form.fmts.l),PV.bool x3.form.fold,PV.bool x3.form.all,PV.sl x3.opts.nil (szc 1 x3.opts.l) (List.map qh x3.opts.l)]] = List.map T.Stop.enc (out ++ [(T.Stop.mk (T.Span.mk at_ (IntKind.i64.wrap (at_ + (v5.1.length : Int)))) x3.n ((-1) : Int) x3.first x3.turned x3.form x3.opts)]) := by simp only [List.map_append,List.map_cons,List.map_nil,zb,za,ze,T.Stop.qz] <;> rfl
     refine bs fun v25 h24 => ?_
     obtain ⟨f36L,f36⟩ := ih183 _ _ h24
     try simp only [List.length_set] at f36L
     try simp only [en.down,f4,f5,f36L] at f36
     refine bW T.qd.enc 20 fun x27 h26 f37 f38 f39 f40 f41 => ?_
     try simp only [h23,f4,f5,f36L,f40,f41] at f6 f33 f36
     intro h; obtain ⟨f42L,f42⟩ := ih184 _ _ h; clear h
     try simp only [en.down,f4,f5,f36L,f40,f41] at f42
     try simp only [h23,f4,f5,f36L,f40,f41] at f42
     clear ih183 ih184; exact ⟨by first | rfl | (simp only [List.length_set,f42L,f36L]; done),fL mo⟩
    refine bW T.qd.enc 20 fun x29 h28 f43 f44 f45 f46 f47 => ?_
    have f48 : List.map T.Stop.enc out ++ [[PV.int IntKind.i64 at_,PV.int IntKind.i64 (IntKind.i64.wrap (at_ + (v5.1.length : Int))),PV.int IntKind.i64 x3.n,PV.int IntKind.i64 ((-1) : Int),PV.bool x3.first,PV.bool x3.turned,PV.int IntKind.i64 x3.form.rx.kind,PV.str x3.form.rx.char,PV.bool x3.form.rx.not,PV.sl x3.form.rx.rows.nil (szc 2 x3.form.rx.rows.l) (List.map T.Row.enc x3.form.rx.rows.l),PV.int IntKind.i64 x3.form.rx.min,PV.int IntKind.i64 x3.form.rx.max,PV.bool x3.form.rx.lazy,PV.sl x3.form.rx.kids.nil (szc 8 x3.form.rx.kids.l) (List.map T.Rx.enc x3.form.rx.kids.l),PV.sl x3.form.fmts.nil (szc 5 x3.form.fmts.l) (List.map T.Fmt.enc x3.form.fmts.l),PV.bool x3.form.fold,PV.bool x3.form.all,PV.sl x3.opts.nil (szc 1 x3.opts.l) (List.map qh x3.opts.l)]] = List.map T.Stop.enc (out ++ [(T.Stop.mk (T.Span.mk at_ (IntKind.i64.wrap (at_ + (v5.1.length : Int)))) x3.n ((-1) : Int) x3.first x3.turned x3.form x3.opts)]) := by simp only [List.map_append,List.map_cons,List.map_nil,zb,za,ze,T.Stop.qz] <;> rfl
    try simp only [h23,f4,f5,f46,f47] at f6 f33
    intro h; obtain ⟨f49L,f49⟩ := ih184 _ _ h; clear h
    try simp only [en.down,f4,f5,f46,f47] at f49
    try simp only [h23,f4,f5,f46,f47] at f49
    clear ih183 ih184; exact ⟨by first | rfl | (simp only [List.length_set,f49L]; done),fL mo⟩
   refine bW T.qd.enc 20 fun x31 h30 f50 f51 f52 f53 f54 => ?_
   try simp only [f4,f5,f53,f54] at f6
   intro h; obtain ⟨f55L,f55⟩ := ih184 _ _ h; clear h
   try simp only [en.down,f4,f5,f53,f54] at f55
   try simp only [f4,f5,f53,f54] at f55
   clear ih183 ih184; exact ⟨by first | rfl | (simp only [List.length_set,f55L]; done),fL mo⟩
  rintro ⟨⟩
  clear ih183 ih184; exact ⟨by first | rfl | (simp only [List.length_set]; done),fL mo⟩
theorem z8l : ∀ p r,gz p = some r → O.loop 45 0 ⟨[(0,AV.ptr 0 0),(1,AV.ptr 1 0),(2,v_r 8 p.2.2.2.2.2.2.2.2.2.2.2.2),(3,v_r 2 p.2.2.2.2.2.2.1),(5,v_i p.1),(6,v_i p.2.1),(16,v_i p.2.2.1)],[(0,Blk.box [v_l 2 T.qi.enc p.2.2.2.1,v_s p.2.2.2.2.1,v_s p.2.2.2.2.2.1,v_r 3 p.2.2.2.2.2.2.2.1,v_r 4 p.2.2.2.2.2.2.2.2.1,v_r 5 p.2.2.2.2.2.2.2.2.2.1]),(1,Blk.box [v_r 6 p.2.2.2.2.2.2.2.2.2.2.1,v_r 7 p.2.2.2.2.2.2.2.2.2.2.2.1]),(2,Blk.row false 1 (List.map qg p.2.2.2.2.2.2.1)),(3,b_r 20 T.qd.enc p.2.2.2.2.2.2.2.1),(4,b_r 1 qg p.2.2.2.2.2.2.2.2.1),(5,b_r 1 qh p.2.2.2.2.2.2.2.2.2.1),(6,b_r 1 qg p.2.2.2.2.2.2.2.2.2.2.1),(7,b_r 1 qh p.2.2.2.2.2.2.2.2.2.2.2.1),(8,b_r 18 T.Stop.enc p.2.2.2.2.2.2.2.2.2.2.2.2)],9⟩ = some (Ex.normal,⟨[(2,v_r 8 r.2.2.2.2.2.2.2.2.2.2),(6,v_i r.1)],[(0,Blk.box [v_l 2 T.qi.enc r.2.1,v_s r.2.2.1,v_s r.2.2.2.1,v_r 3 r.2.2.2.2.2.1,v_r 4 r.2.2.2.2.2.2.1,v_r 5 r.2.2.2.2.2.2.2.1]),(1,Blk.box [v_r 6 r.2.2.2.2.2.2.2.2.1,v_r 7 r.2.2.2.2.2.2.2.2.2.1]),(2,Blk.row false 1 (List.map qg r.2.2.2.2.1)),(3,b_r 20 T.qd.enc r.2.2.2.2.2.1),(4,b_r 1 qg r.2.2.2.2.2.2.1),(5,b_r 1 qh r.2.2.2.2.2.2.2.1),(6,b_r 1 qg r.2.2.2.2.2.2.2.2.1),(7,b_r 1 qh r.2.2.2.2.2.2.2.2.2.1),(8,b_r 18 T.Stop.enc r.2.2.2.2.2.2.2.2.2.2)],9⟩) := by
 refine gz.partial_correctness _ ?_
 rintro gz ih182 ⟨to,at_,i,w,w2,w3,place,r3_,r4_,r5_,r6_,r7_,out⟩ r; dsimp only
 apply it <;> intro h1
 ·refine bW T.qd.enc 20 fun x3 h2 f1 f2 f3 f4 f5 => ?_
  refine bs fun v5 h4 => ?_
  have f6 := qhb.1 _ _ h4
  try simp only [en.down,f4,f5] at f6
  apply it <;> intro h6
  ·apply it <;> intro h7
   ·refine bw qg fun x9 h8 f7 f8 f9 => ?_
    refine bw qg fun x11 h10 f10 f11 f12 => ?_
    have f13 := map_set qg place i.toNat (out.length : Int)
    try simp only [en.down] at f13
    refine gd fun h12 => ?_
    have f14 := rG 18 T.Stop.enc out
    apply it <;> intro h13
    ·have f15 : List.map T.Stop.enc out ++ [[PV.int IntKind.i64 at_,PV.int IntKind.i64 (IntKind.i64.wrap (at_ + (v5.1.length : Int))),PV.int IntKind.i64 x3.n,PV.int IntKind.i64 x9,PV.bool x3.first,PV.bool x3.turned,PV.int IntKind.i64 x3.form.rx.kind,PV.str x3.form.rx.char,PV.bool x3.form.rx.not,PV.sl x3.form.rx.rows.nil (szc 2 x3.form.rx.rows.l) (List.map T.Row.enc x3.form.rx.rows.l),PV.int IntKind.i64 x3.form.rx.min,PV.int IntKind.i64 x3.form.rx.max,PV.bool x3.form.rx.lazy,PV.sl x3.form.rx.kids.nil (szc 8 x3.form.rx.kids.l) (List.map T.Rx.enc x3.form.rx.kids.l),PV.sl x3.form.fmts.nil (szc 5 x3.form.fmts.l) (List.map T.Fmt.enc x3.form.fmts.l),PV.bool x3.form.fold,PV.bool x3.form.all,PV.sl x3.opts.nil (szc 1 x3.opts.l) (List.map qh x3.opts.l)]] = List.map T.Stop.enc (out ++ [(T.Stop.mk (T.Span.mk at_ (IntKind.i64.wrap (at_ + (v5.1.length : Int)))) x3.n x9 x3.first x3.turned x3.form x3.opts)]) := by simp only [List.map_append,List.map_cons,List.map_nil,zb,za,ze,T.Stop.qz] <;> rfl
     refine bs fun v15 h14 => ?_
     obtain ⟨f16L,f16⟩ := qo3.1 _ _ h14
     try simp only [List.length_set] at f16L
     try simp only [en.down,f4,f5,f16L] at f16
     refine bW T.qd.enc 20 fun x17 h16 f17 f18 f19 f20 f21 => ?_
     try simp only [h13,f4,f5,f16L,f20,f21] at f6 f13 f16
     intro h; have f22 := ih182 _ _ h; clear h
     try simp only [en.down,f4,f5,f16L,f20,f21] at f22
     try simp only [h13,f4,f5,f16L,f20,f21] at f22
     clear ih182; exact fL mo
    refine bW T.qd.enc 20 fun x19 h18 f23 f24 f25 f26 f27 => ?_
    have f28 : List.map T.Stop.enc out ++ [[PV.int IntKind.i64 at_,PV.int IntKind.i64 (IntKind.i64.wrap (at_ + (v5.1.length : Int))),PV.int IntKind.i64 x3.n,PV.int IntKind.i64 x9,PV.bool x3.first,PV.bool x3.turned,PV.int IntKind.i64 x3.form.rx.kind,PV.str x3.form.rx.char,PV.bool x3.form.rx.not,PV.sl x3.form.rx.rows.nil (szc 2 x3.form.rx.rows.l) (List.map T.Row.enc x3.form.rx.rows.l),PV.int IntKind.i64 x3.form.rx.min,PV.int IntKind.i64 x3.form.rx.max,PV.bool x3.form.rx.lazy,PV.sl x3.form.rx.kids.nil (szc 8 x3.form.rx.kids.l) (List.map T.Rx.enc x3.form.rx.kids.l),PV.sl x3.form.fmts.nil (szc 5 x3.form.fmts.l) (List.map T.Fmt.enc x3.form.fmts.l),PV.bool x3.form.fold,PV.bool x3.form.all,PV.sl x3.opts.nil (szc 1 x3.opts.l) (List.map qh x3.opts.l)]] = List.map T.Stop.enc (out ++ [(T.Stop.mk (T.Span.mk at_ (IntKind.i64.wrap (at_ + (v5.1.length : Int)))) x3.n x9 x3.first x3.turned x3.form x3.opts)]) := by simp only [List.map_append,List.map_cons,List.map_nil,zb,za,ze,T.Stop.qz] <;> rfl
    try simp only [h13,f4,f5,f26,f27] at f6 f13
    intro h; have f29 := ih182 _ _ h; clear h
    try simp only [en.down,f4,f5,f26,f27] at f29
    try simp only [h13,f4,f5,f26,f27] at f29
    clear ih182; exact fL mo
   refine bw qg fun x21 h20 f30 f31 f32 => ?_
   have f33 := map_set qg place i.toNat (out.length : Int)
   try simp only [en.down] at f33
   refine gd fun h22 => ?_
   have f34 := rG 18 T.Stop.enc out
   apply it <;> intro h23
   ·have f35 : List.map T.Stop.enc out ++ [[PV.int IntKind.i64 at_,PV.int IntKind.i64 (IntKind.i64.wrap (at_ + (v5.1.length : Int))),PV.int IntKind.i64 x3.n,PV.int IntKind.i64 ((-1) : Int),PV.bool x3.first,PV.bool x3.turned,PV.int IntKind.i64 x3.form.rx.kind,PV.str x3.form.rx.char,PV.bool x3.form.rx.not,PV.sl x3.form.rx.rows.nil (szc 2 x3.form.rx.rows.l) (List.map T.Row.enc x3.form.rx.rows.l),PV.int IntKind.i64 x3.form.rx.min,PV.int IntKind.i64 x3.form.rx.max,PV.bool x3.form.rx.lazy,PV.sl x3.form.rx.kids.nil (szc 8 x3.form.rx.kids.l) (List.map T.Rx.enc x3.form.rx.kids.l),PV.sl x3.form.fmts.nil (szc 5 x3.form.fmts.l) (List.map T.Fmt.enc x3.form.fmts.l),PV.bool x3.form.fold,PV.bool x3.form.all,PV.sl x3.opts.nil (szc 1 x3.opts.l) (List.map qh x3.opts.l)]] = List.map T.Stop.enc (out ++ [(T.Stop.mk (T.Span.mk at_ (IntKind.i64.wrap (at_ + (v5.1.length : Int)))) x3.n ((-1) : Int) x3.first x3.turned x3.form x3.opts)]) := by simp only [List.map_append,List.map_cons,List.map_nil,zb,za,ze,T.Stop.qz] <;> rfl
    refine bs fun v25 h24 => ?_
    obtain ⟨f36L,f36⟩ := qo3.1 _ _ h24
    try simp only [List.length_set] at f36L
    try simp only [en.down,f4,f5,f36L] at f36
    refine bW T.qd.enc 20 fun x27 h26 f37 f38 f39 f40 f41 => ?_
    try simp only [h23,f4,f5,f36L,f40,f41] at f6 f33 f36
    intro h; have f42 := ih182 _ _ h; clear h
    try simp only [en.down,f4,f5,f36L,f40,f41] at f42
    try simp only [h23,f4,f5,f36L,f40,f41] at f42
    clear ih182; exact fL mo
   refine bW T.qd.enc 20 fun x29 h28 f43 f44 f45 f46 f47 => ?_
   have f48 : List.map T.Stop.enc out ++ [[PV.int IntKind.i64 at_,PV.int IntKind.i64 (IntKind.i64.wrap (at_ + (v5.1.length : Int))),PV.int IntKind.i64 x3.n,PV.int IntKind.i64 ((-1) : Int),PV.bool x3.first,PV.bool x3.turned,PV.int IntKind.i64 x3.form.rx.kind,PV.str x3.form.rx.char,PV.bool x3.form.rx.not,PV.sl x3.form.rx.rows.nil (szc 2 x3.form.rx.rows.l) (List.map T.Row.enc x3.form.rx.rows.l),PV.int IntKind.i64 x3.form.rx.min,PV.int IntKind.i64 x3.form.rx.max,PV.bool x3.form.rx.lazy,PV.sl x3.form.rx.kids.nil (szc 8 x3.form.rx.kids.l) (List.map T.Rx.enc x3.form.rx.kids.l),PV.sl x3.form.fmts.nil (szc 5 x3.form.fmts.l) (List.map T.Fmt.enc x3.form.fmts.l),PV.bool x3.form.fold,PV.bool x3.form.all,PV.sl x3.opts.nil (szc 1 x3.opts.l) (List.map qh x3.opts.l)]] = List.map T.Stop.enc (out ++ [(T.Stop.mk (T.Span.mk at_ (IntKind.i64.wrap (at_ + (v5.1.length : Int)))) x3.n ((-1) : Int) x3.first x3.turned x3.form x3.opts)]) := by simp only [List.map_append,List.map_cons,List.map_nil,zb,za,ze,T.Stop.qz] <;> rfl
   try simp only [h23,f4,f5,f46,f47] at f6 f33
   intro h; have f49 := ih182 _ _ h; clear h
   try simp only [en.down,f4,f5,f46,f47] at f49
   try simp only [h23,f4,f5,f46,f47] at f49
   clear ih182; exact fL mo
  refine bW T.qd.enc 20 fun x31 h30 f50 f51 f52 f53 f54 => ?_
  try simp only [f4,f5,f53,f54] at f6
  intro h; have f55 := ih182 _ _ h; clear h
  try simp only [en.down,f4,f5,f53,f54] at f55
  try simp only [f4,f5,f53,f54] at f55
  clear ih182; exact fL mo
 rintro ⟨⟩
 clear ih182; exact fL mo
theorem z5l {frm to at_ b b_2 b_3 r_ r_2 r_3 r_4 r_5 r_6 r} (h : qbo frm to at_ b b_2 b_3 r_ r_2 r_3 r_4 r_5 r_6 = some r) : O.call 45 [AV.ptr 0 0,AV.ptr 1 0,AV.pv (PV.sl true 0 []),v_r 2 r_,v_i frm,v_i to,v_i at_] [(0,Blk.box [v_l 2 T.qi.enc b,v_s b_2,v_s b_3,v_r 3 r_2,v_r 4 r_3,v_r 5 r_4]),(1,Blk.box [v_r 6 r_5,v_r 7 r_6]),(2,Blk.row false 1 (List.map qg r_)),(3,b_r 20 T.qd.enc r_2),(4,b_r 1 qg r_3),(5,b_r 1 qh r_4),(6,b_r 1 qg r_5),(7,b_r 1 qh r_6)] = some (AV.tup [v_r 8 r.2.2.2.2.2.2.2.2.2.2,v_i r.1],[(0,Blk.box [v_l 2 T.qi.enc r.2.1,v_s r.2.2.1,v_s r.2.2.2.1,v_r 3 r.2.2.2.2.2.1,v_r 4 r.2.2.2.2.2.2.1,v_r 5 r.2.2.2.2.2.2.2.1]),(1,Blk.box [v_r 6 r.2.2.2.2.2.2.2.2.1,v_r 7 r.2.2.2.2.2.2.2.2.2.1]),(2,Blk.row false 1 (List.map qg r.2.2.2.2.1)),(3,b_r 20 T.qd.enc r.2.2.2.2.2.1),(4,b_r 1 qg r.2.2.2.2.2.2.1),(5,b_r 1 qh r.2.2.2.2.2.2.2.1),(6,b_r 1 qg r.2.2.2.2.2.2.2.2.1),(7,b_r 1 qh r.2.2.2.2.2.2.2.2.2.1),(8,b_r 18 T.Stop.enc r.2.2.2.2.2.2.2.2.2.2)]) := by
 revert h; unfold qbo
 refine bs fun v2 h1 => ?_
 have f1 := z8l _ _ h1
 try simp only [en.down] at f1
 rintro ⟨⟩
 exact fF mo
theorem z06 : ∀ p r,q1v p = some r → O.loop 20 2 ⟨[(15,v_s p.1),(17,v_r 8 p.2.2.2.2.2.2.2.2.2.2.2.2),(19,v_b p.2.1),(20,v_i p.2.2.1)],[(0,Blk.box [v_l 2 T.qi.enc p.2.2.2.1,v_s p.2.2.2.2.1,v_s p.2.2.2.2.2.1,v_r 1 p.2.2.2.2.2.2.1,v_r 2 p.2.2.2.2.2.2.2.1,v_r 3 p.2.2.2.2.2.2.2.2.1]),(1,b_r 20 T.qd.enc p.2.2.2.2.2.2.1),(2,b_r 1 qg p.2.2.2.2.2.2.2.1),(3,b_r 1 qh p.2.2.2.2.2.2.2.2.1),(4,Blk.box [v_r 5 p.2.2.2.2.2.2.2.2.2.1,v_r 6 p.2.2.2.2.2.2.2.2.2.2.1]),(5,b_r 1 qg p.2.2.2.2.2.2.2.2.2.1),(6,b_r 1 qh p.2.2.2.2.2.2.2.2.2.2.1),(7,Blk.row false 1 (List.map qg p.2.2.2.2.2.2.2.2.2.2.2.1)),(8,b_r 18 T.Stop.enc p.2.2.2.2.2.2.2.2.2.2.2.2)],9⟩ = some (Ex.normal,⟨[(15,v_s p.1),(17,v_r 8 p.2.2.2.2.2.2.2.2.2.2.2.2),(19,v_b r)],[(0,Blk.box [v_l 2 T.qi.enc p.2.2.2.1,v_s p.2.2.2.2.1,v_s p.2.2.2.2.2.1,v_r 1 p.2.2.2.2.2.2.1,v_r 2 p.2.2.2.2.2.2.2.1,v_r 3 p.2.2.2.2.2.2.2.2.1]),(1,b_r 20 T.qd.enc p.2.2.2.2.2.2.1),(2,b_r 1 qg p.2.2.2.2.2.2.2.1),(3,b_r 1 qh p.2.2.2.2.2.2.2.2.1),(4,Blk.box [v_r 5 p.2.2.2.2.2.2.2.2.2.1,v_r 6 p.2.2.2.2.2.2.2.2.2.2.1]),(5,b_r 1 qg p.2.2.2.2.2.2.2.2.2.1),(6,b_r 1 qh p.2.2.2.2.2.2.2.2.2.2.1),(7,Blk.row false 1 (List.map qg p.2.2.2.2.2.2.2.2.2.2.2.1)),(8,b_r 18 T.Stop.enc p.2.2.2.2.2.2.2.2.2.2.2.2)],9⟩) := by
 refine q1v.partial_correctness _ ?_
 rintro q1v ih185 ⟨s,zero,i,b0_,b0_2,b0_3,r1_,r2_,r3_,r5_,r6_,r7_,stops⟩ r; dsimp only
 apply it <;> intro h1
 ·apply it <;> intro h2
  ·intro h; have f1 := ih185 _ _ h; clear h
   try simp only [en.down] at f1
   try simp only [h2] at f1
   clear ih185; exact fL q05
  refine bW T.Stop.enc 18 fun x4 h3 f2 f3 f4 f5 f6 => ?_
  apply it <;> intro h5
  ·intro h; have f7 := ih185 _ _ h; clear h
   try simp only [en.down,f5,f6] at f7
   try simp only [h2,f5,f6] at f7
   clear ih185; exact fL q05
  intro h; have f8 := ih185 _ _ h; clear h
  try simp only [en.down,f5,f6] at f8
  try simp only [h2,f5,f6] at f8
  clear ih185; exact fL q05
 rintro ⟨⟩
 clear ih185; exact fL q05
theorem qw3 {l env lead unit r} (h : qbh l env lead unit = some r) : O.call 20 [v_l 18 T.qb.enc l,v_l 2 T.qi.enc env,v_s lead,v_s unit] [] = some (AV.tup [v_s r.1,v_l 18 T.Stop.enc r.2.1,v_i r.2.2],[]) := by
 revert h; unfold qbh
 refine bs fun v2 h1 => ?_
 have f1 := zlk h1
 try simp only [en.down] at f1
 apply it <;> intro h3
 ·rintro ⟨⟩
  exact fF q05
 refine bs fun v5 h4 => ?_
 have f2 := zh6 h4
 try simp only [en.down] at f2
 refine bs fun v7 h6 => ?_
 have f3 := qyn h6
 try simp only [en.down] at f3
 refine bs fun v9 h8 => ?_
 have f4 := zed h8
 try simp only [en.down] at f4
 apply it <;> intro h10
 ·try simp only [h10] at f1 f2 f3 f4
  rintro ⟨⟩
  exact fF q05
 refine bs fun v12 h11 => ?_
 have f5 := qzy _ _ h11
 try simp only [en.down] at f5
 apply it <;> intro h13
 ·try simp only [h10] at f1 f2 f3 f4 f5
  rintro ⟨⟩
  exact fF q05
 refine bs fun v15 h14 => ?_
 have f6 := qqa h14
 try simp only [en.down] at f6
 apply it <;> intro h16
 ·try simp only [h10] at f1 f2 f3 f4 f5 f6
  rintro ⟨⟩
  exact fF q05
 refine gd fun h17 => ?_
 have f7 := qhs IntKind.i64 h17
 refine gd fun h18 => ?_
 have f8 : List.replicate (v15.2.2.2.2.2.1.length : Int).toNat [PV.int IntKind.i64 (0 : Int)] = List.map qg (List.replicate (v15.2.2.2.2.2.1.length : Int).toNat (0 : Int)) := by rw [List.map_replicate]; rfl
 refine bs fun v20 h19 => ?_
 have f9 := z5l h19
 try simp only [en.down] at f9
 refine bs fun v22 h21 => ?_
 have f10 := z06 _ _ h21
 try simp only [en.down] at f10
 apply it <;> intro h23
 ·refine gd fun h24 => ?_
  have f11 := rG 18 T.Stop.enc v20.2.2.2.2.2.2.2.2.2.2
  have f12 : List.map T.Stop.enc v20.2.2.2.2.2.2.2.2.2.2 ++ [[PV.int IntKind.i64 (v15.1.length : Int),PV.int IntKind.i64 (v15.1.length : Int),PV.int IntKind.i64 (0 : Int),PV.int IntKind.i64 ((-1) : Int),PV.bool true,PV.bool false,PV.int IntKind.i64 (0 : Int),PV.str ([] : Bytes),PV.bool false,PV.sl true 0 [],PV.int IntKind.i64 (0 : Int),PV.int IntKind.i64 (0 : Int),PV.bool false,PV.sl true 0 [],PV.sl true 0 [],PV.bool false,PV.bool false,PV.sl true 0 []]] = List.map T.Stop.enc (v20.2.2.2.2.2.2.2.2.2.2 ++ [(T.Stop.mk (T.Span.mk (v15.1.length : Int) (v15.1.length : Int)) (0 : Int) ((-1) : Int) true false (T.Form.mk (T.Rx.mk (0 : Int) ([] : Bytes) false (⟨true,[]⟩ : (Sl T.Row)) (0 : Int) (0 : Int) false (⟨true,[]⟩ : (Sl T.Rx))) (⟨true,[]⟩ : (Sl T.Fmt)) false false) (⟨true,[]⟩ : (Sl Bytes)))]) := by simp only [List.map_append,List.map_cons,List.map_nil,zb,za,ze,T.Stop.qz] <;> rfl
  try simp only [h10] at f1 f2 f3 f4 f5 f6 f9 f10
  rintro ⟨⟩
  exact fF q05
 try simp only [h10] at f1 f2 f3 f4 f5 f6 f9 f10
 rintro ⟨⟩
 exact fF q05
theorem zmx : ∀ p r,q4u p = some r → O.loop 7 0 ⟨[(1,v_i p.1),(4,AV.ptr 0 0),(9,v_l 18 T.Stop.enc p.2.1),(11,AV.ptr 1 0),(12,v_i p.2.2.1)],[(0,b_x (T.z8.enc p.2.2.2.1)),(1,Blk.box [v_i p.2.2.2.2.1,v_i p.2.2.2.2.2.1,v_r 2 p.2.2.2.2.2.2]),(2,b_r 18 T.Stop.enc p.2.2.2.2.2.2)],3⟩ = some (Ex.normal,⟨[(4,AV.ptr 0 0),(11,AV.ptr 1 0)],[(0,b_x (T.z8.enc p.2.2.2.1)),(1,Blk.box [v_i p.2.2.2.2.1,v_i p.2.2.2.2.2.1,v_r 2 r]),(2,b_r 18 T.Stop.enc r)],3⟩) := by
 refine q4u.partial_correctness _ ?_
 rintro q4u ih186 ⟨at_,p_,i,t4,in_,in_2,r2_⟩ r; dsimp only
 apply it <;> intro h1
 ·refine bg T.Stop.enc fun x3 h2 f1 f2 f3 => ?_
  refine gd fun h4 => ?_
  have f4 := rG 18 T.Stop.enc r2_
  have f5 : List.map T.Stop.enc r2_ ++ [[PV.int IntKind.i64 (IntKind.i64.wrap (x3.span.frm + at_)),PV.int IntKind.i64 (IntKind.i64.wrap (x3.span.to + at_)),PV.int IntKind.i64 x3.n,PV.int IntKind.i64 x3.up,PV.bool x3.first,PV.bool x3.turned,PV.int IntKind.i64 x3.form.rx.kind,PV.str x3.form.rx.char,PV.bool x3.form.rx.not,PV.sl x3.form.rx.rows.nil (szc 2 x3.form.rx.rows.l) (List.map T.Row.enc x3.form.rx.rows.l),PV.int IntKind.i64 x3.form.rx.min,PV.int IntKind.i64 x3.form.rx.max,PV.bool x3.form.rx.lazy,PV.sl x3.form.rx.kids.nil (szc 8 x3.form.rx.kids.l) (List.map T.Rx.enc x3.form.rx.kids.l),PV.sl x3.form.fmts.nil (szc 5 x3.form.fmts.l) (List.map T.Fmt.enc x3.form.fmts.l),PV.bool x3.form.fold,PV.bool x3.form.all,PV.sl x3.opts.nil (szc 1 x3.opts.l) (List.map qh x3.opts.l)]] = List.map T.Stop.enc (r2_ ++ [(T.Stop.mk (T.Span.mk (IntKind.i64.wrap (x3.span.frm + at_)) (IntKind.i64.wrap (x3.span.to + at_))) x3.n x3.up x3.first x3.turned x3.form x3.opts)]) := by simp only [List.map_append,List.map_cons,List.map_nil,zb,za,ze,T.Stop.qz] <;> rfl
  intro h; have f6 := ih186 _ _ h; clear h
  try simp only [en.down] at f6
  clear ih186; exact fL fn7
 rintro ⟨⟩
 clear ih186; exact fL fn7
def ql3 : ((T.z8 × Bool) ⊕ (Int × Int × Bool × (List T.Stop))) → AV × Heap
 | .inl y => (AV.tup [v_g (T.z8.enc y.1),v_b y.2],[])
 | .inr y => (AV.tup [AV.agg [v_i y.1,v_i y.2.1,v_r 0 y.2.2.2],v_b y.2.2.1],[(0,b_r 18 T.Stop.enc y.2.2.2)])
attribute [local go_sem] ql3
theorem z5h {s at_ r} (h : q98 s at_ = some r) : O.call 7 [v_s s,v_i at_] [] = some (ql3 r) := by
 revert h; unfold q98
 refine bs fun v2 h1 => ?_
 have f1 := zqp h1
 try simp only [en.down] at f1
 refine bs fun v4 h3 => ?_
 have f2 := qw3 h3
 try simp only [en.down] at f2
 refine xe ?_ (fun h5 h6 => ?_)
 ·rintro (⟨h5,h6⟩ | ⟨h5,h6⟩)
  all_goals
  rintro ⟨⟩
  exact fF fn7
 refine bs fun v8 h7 => ?_
 have f3 := zmx _ _ h7
 try simp only [en.down] at f3
 rintro ⟨⟩
 exact fF fn7
theorem qm9 {s n r} (h : q26 s n = some r) : O.call 22 [v_g (T.Span.enc s),v_i n] [] = some (v_b r,[]) := by
 revert h; unfold q26
 refine zl (fun h1 h2 => ?_) ?_
 ·rintro ⟨⟩
  exact fF qly
 rintro (⟨h1,h2⟩ | ⟨h1,h2⟩)
 all_goals
 rintro ⟨⟩
 exact fF qly
theorem z7g {i k r} (h : q0r i k = some r) : O.call 48 [v_g (T.z8.enc i),v_i k] [] = some (v_i r,[]) := by
 revert h; unfold q0r
 refine bg T.Stop.enc fun x2 h1 f1 f2 f3 => ?_
 refine zl (fun h3 h4 => ?_) ?_
 ·rintro ⟨⟩
  exact fF qd8
 rintro (⟨h3,h4⟩ | ⟨h3,h4⟩)
 all_goals
 rintro ⟨⟩
 exact fF qd8
def qke (k : Int) (i : T.z8) : ((Bool) ⊕ (Unit)) → Ex × St
 | .inl y => (Ex.ret,⟨[(1,v_i k),(2,AV.ptr 0 0),(4,v_b y)],[(0,b_x (T.z8.enc i))],1⟩)
 | .inr y => (Ex.normal,⟨[(1,v_i k),(2,AV.ptr 0 0),(4,AV.undef)],[(0,b_x (T.z8.enc i))],1⟩)
attribute [local go_sem] qke
theorem qtu : ∀ p r,w9 p = some r → O.loop 23 0 ⟨[(1,v_i p.1),(2,AV.ptr 0 0),(5,v_i p.2.1)],[(0,b_x (T.z8.enc p.2.2))],1⟩ = some (qke p.1 p.2.2 r) := by
 refine w9.partial_correctness _ ?_
 rintro w9 ih192 ⟨k,u,i⟩ r; dsimp only
 apply it <;> intro h1
 ·refine bg T.Stop.enc fun x3 h2 f1 f2 f3 => ?_
  apply it <;> intro h4
  ·rintro ⟨⟩
   clear ih192; exact fL q2h
  refine bs fun v6 h5 => ?_
  have f4 := z7g h5
  try simp only [en.down] at f4
  intro h; have f5 := ih192 _ _ h; clear h
  try simp only [en.down] at f5
  clear ih192; exact fL q2h
 rintro ⟨⟩
 clear ih192; exact fL q2h
theorem zbg {i k r} (h : q07 i k = some r) : O.call 23 [v_g (T.z8.enc i),v_i k] [] = some (v_b r,[]) := by
 revert h; unfold q07
 refine bs fun v2 h1 => ?_
 have f1 := qtu _ _ h1
 try simp only [en.down] at f1
 rcases v2 with y3 | y4
 ·dsimp only
  rintro ⟨⟩
  exact fF q2h
 dsimp only
 refine bg T.Stop.enc fun x6 h5 f2 f3 f4 => ?_
 rintro ⟨⟩
 exact fF q2h
theorem qd1 {a b r} (h : q0o a b = some r) : O.call 24 [v_g (T.Span.enc a),v_g (T.Span.enc b)] [] = some (v_b r,[]) := by
 revert h; unfold q0o
 apply it <;> intro h1
 ·rintro ⟨⟩
  exact fF qka
 rintro ⟨⟩
 exact fF qka
def qp9 (i : T.z8) : ((Bool × zo) ⊕ (zo)) → Ex × St
 | .inl y => (Ex.ret,⟨[(4,v_b y.1)],[(0,b_x (T.z8.enc i)),(1,b_m y.2)],2⟩)
 | .inr y => (Ex.normal,⟨[(4,AV.undef)],[(0,b_x (T.z8.enc i)),(1,b_m y)],2⟩)
attribute [local go_sem] qp9
theorem za2 : ∀ p r,yx p = some r → O.loop 9 0 ⟨[(2,AV.ptr 0 0),(5,AV.map 1),(18,v_l 18 T.Stop.enc p.1),(19,v_i p.2.1),(20,v_i p.2.2.1)],[(0,b_x (T.z8.enc p.2.2.2.1)),(1,b_m p.2.2.2.2)],2⟩ = some (qp9 p.2.2.2.1 r) := by
 refine yx.partial_correctness _ ?_
 rintro yx ih190 ⟨t18,t19,t20,i,ends⟩ r; dsimp only
 apply it <;> intro h1
 ·refine bg T.Stop.enc fun x3 h2 f1 f2 f3 => ?_
  refine bs fun v5 h4 => ?_
  have f4 := zbg h4
  try simp only [en.down] at f4
  refine xe ?_ (fun h6 h7 => ?_)
  ·rintro (⟨h6,h7⟩ | ⟨h6,h7⟩)
   all_goals
   rintro ⟨⟩
   clear ih190; exact fL fn9
  apply it <;> intro h8
  ·refine bg T.Stop.enc fun x10 h9 f5 f6 f7 => ?_
   have f8 := mG2 ends x3.up
   try simp only [en.down] at f8
   refine bs fun v12 h11 => ?_
   have f9 := qd1 h11
   try simp only [en.down] at f9
   refine q6m ?_ ?_
   ·rintro (⟨h13,h14,h15⟩ | ⟨h13,h14,h15⟩)
    all_goals
    rintro ⟨⟩
    clear ih190; exact fL fn9
   rintro (⟨h13,h14,h15⟩ | ⟨h13,h14,h15⟩)
   all_goals
   have f10 := mP ends x3.up x3.span.to
   try simp only [en.down] at f10
   intro h; have f11 := ih190 _ _ h; clear h
   try simp only [en.down] at f11
   clear ih190; exact fL fn9
  have f12 := mG2 ends x3.up
  try simp only [en.down] at f12
  refine bs fun v17 h16 => ?_
  have f13 := qd1 h16
  try simp only [en.down] at f13
  refine q6m ?_ ?_
  ·rintro (⟨h18,h19,h20⟩ | ⟨h18,h19,h20⟩)
   all_goals
   rintro ⟨⟩
   clear ih190; exact fL fn9
  rintro (⟨h18,h19,h20⟩ | ⟨h18,h19,h20⟩)
  all_goals
  have f14 := mP ends x3.up x3.span.to
  try simp only [en.down] at f14
  intro h; have f15 := ih190 _ _ h; clear h
  try simp only [en.down] at f15
  clear ih190; exact fL fn9
 rintro ⟨⟩
 clear ih190; exact fL fn9
theorem qav {i n r} (h : mi i n = some r) : O.call 9 [v_g (T.z8.enc i),v_i n] [] = some (v_b r,[]) := by
 revert h; unfold mi
 refine bs fun v2 h1 => ?_
 have f1 := qm9 h1
 try simp only [en.down] at f1
 apply it <;> intro h3
 ·rintro ⟨⟩
  exact fF fn9
 refine bs fun v5 h4 => ?_
 have f2 := za2 _ _ h4
 try simp only [en.down] at f2
 rcases v5 with y6 | y7
 ·dsimp only
  rintro ⟨⟩
  exact fF fn9
 dsimp only
 rintro ⟨⟩
 exact fF fn9
theorem q3f {x n r} (h : q00 x n = some r) : O.call 10 [v_i x,v_i n] [] = some (v_i r,[]) := by
 revert h; unfold q00
 refine gd fun h1 => ?_
 have f1 := eq_false h1
 rintro ⟨⟩
 exact fF qtm
theorem zrr {i i2 k r_ r} (h : qdn i i2 k r_ = some r) : O.call 48 [AV.agg [v_i i,v_i i2,v_r 0 r_],v_i k] [(0,b_r 18 T.Stop.enc r_)] = some (v_i r,[(0,b_r 18 T.Stop.enc r_)]) := by
 revert h; unfold qdn
 refine bW T.Stop.enc 18 fun x2 h1 f1 f2 f3 f4 f5 => ?_
 refine zl (fun h3 h4 => ?_) ?_
 ·rintro ⟨⟩
  exact fF qd8
 rintro (⟨h3,h4⟩ | ⟨h3,h4⟩)
 all_goals
 rintro ⟨⟩
 exact fF qd8
def qmq (k : Int) (r0_ : (List T.Stop)) (i : Int) (i2 : Int) : ((Bool) ⊕ (Unit)) → Ex × St
 | .inl y => (Ex.ret,⟨[(1,v_i k),(2,AV.ptr 1 0),(4,v_b y)],[(0,b_r 18 T.Stop.enc r0_),(1,Blk.box [v_i i,v_i i2,v_r 0 r0_])],2⟩)
 | .inr y => (Ex.normal,⟨[(1,v_i k),(2,AV.ptr 1 0),(4,AV.undef)],[(0,b_r 18 T.Stop.enc r0_),(1,Blk.box [v_i i,v_i i2,v_r 0 r0_])],2⟩)
attribute [local go_sem] qmq
theorem qur : ∀ p r,q3m p = some r → O.loop 23 0 ⟨[(1,v_i p.1),(2,AV.ptr 1 0),(5,v_i p.2.1)],[(0,b_r 18 T.Stop.enc p.2.2.1),(1,Blk.box [v_i p.2.2.2.1,v_i p.2.2.2.2,v_r 0 p.2.2.1])],2⟩ = some (qmq p.1 p.2.2.1 p.2.2.2.1 p.2.2.2.2 r) := by
 refine q3m.partial_correctness _ ?_
 rintro q3m ih199 ⟨k,u,r0_,i,i2⟩ r; dsimp only
 apply it <;> intro h1
 ·refine bW T.Stop.enc 18 fun x3 h2 f1 f2 f3 f4 f5 => ?_
  apply it <;> intro h4
  ·rintro ⟨⟩
   clear ih199; exact fL q2h
  refine bs fun v6 h5 => ?_
  have f6 := zrr h5
  try simp only [en.down,f4,f5] at f6
  try simp only [f4,f5] at f6
  intro h; have f7 := ih199 _ _ h; clear h
  try simp only [en.down,f4,f5] at f7
  try simp only [f4,f5] at f7
  clear ih199; exact fL q2h
 rintro ⟨⟩
 clear ih199; exact fL q2h
theorem zc1 {i i2 k r_ r} (h : qaa i i2 k r_ = some r) : O.call 23 [AV.agg [v_i i,v_i i2,v_r 0 r_],v_i k] [(0,b_r 18 T.Stop.enc r_)] = some (v_b r,[(0,b_r 18 T.Stop.enc r_)]) := by
 revert h; unfold qaa
 refine bs fun v2 h1 => ?_
 have f1 := qur _ _ h1
 try simp only [en.down] at f1
 rcases v2 with y3 | y4
 ·dsimp only
  rintro ⟨⟩
  exact fF q2h
 dsimp only
 refine bW T.Stop.enc 18 fun x6 h5 f2 f3 f4 f5 f6 => ?_
 try simp only [f5,f6] at f1
 rintro ⟨⟩
 exact fF q2h
def qjo (t18 : (List T.Stop)) (i : Int) (i2 : Int) : ((Bool × zo) ⊕ (zo)) → Ex × St
 | .inl y => (Ex.ret,⟨[(4,v_b y.1)],[(0,b_r 18 T.Stop.enc t18),(1,Blk.box [v_i i,v_i i2,v_r 0 t18]),(2,b_m y.2)],3⟩)
 | .inr y => (Ex.normal,⟨[(4,AV.undef)],[(0,b_r 18 T.Stop.enc t18),(1,Blk.box [v_i i,v_i i2,v_r 0 t18]),(2,b_m y)],3⟩)
attribute [local go_sem] qjo
theorem zlh : ∀ p r,q21 p = some r → O.loop 9 0 ⟨[(2,AV.ptr 1 0),(5,AV.map 2),(18,v_r 0 p.2.2.1),(19,v_i p.1),(20,v_i p.2.1)],[(0,b_r 18 T.Stop.enc p.2.2.1),(1,Blk.box [v_i p.2.2.2.1,v_i p.2.2.2.2.1,v_r 0 p.2.2.1]),(2,b_m p.2.2.2.2.2)],3⟩ = some (qjo p.2.2.1 p.2.2.2.1 p.2.2.2.2.1 r) := by
 refine q21.partial_correctness _ ?_
 rintro q21 ih197 ⟨t19,t20,t18,i,i2,ends⟩ r; dsimp only
 apply it <;> intro h1
 ·refine bW T.Stop.enc 18 fun x3 h2 f1 f2 f3 f4 f5 => ?_
  refine bs fun v5 h4 => ?_
  have f6 := zc1 h4
  try simp only [en.down,f4,f5] at f6
  refine xe ?_ (fun h6 h7 => ?_)
  ·rintro (⟨h6,h7⟩ | ⟨h6,h7⟩)
   all_goals
   try simp only [f4,f5] at f6
   rintro ⟨⟩
   clear ih197; exact fL fn9
  apply it <;> intro h8
  ·refine bW T.Stop.enc 18 fun x10 h9 f7 f8 f9 f10 f11 => ?_
   have f12 := mG2 ends x3.up
   try simp only [en.down] at f12
   refine bs fun v12 h11 => ?_
   have f13 := qd1 h11
   try simp only [en.down,f4,f5,f10,f11] at f13
   refine q6m ?_ ?_
   ·rintro (⟨h13,h14,h15⟩ | ⟨h13,h14,h15⟩)
    all_goals
    try simp only [f4,f5,f10,f11] at f6 f13
    rintro ⟨⟩
    clear ih197; exact fL fn9
   rintro (⟨h13,h14,h15⟩ | ⟨h13,h14,h15⟩)
   all_goals
   have f14 := mP ends x3.up x3.span.to
   try simp only [en.down] at f14
   try simp only [f4,f5,f10,f11] at f6 f13
   intro h; have f15 := ih197 _ _ h; clear h
   try simp only [en.down,f4,f5,f10,f11] at f15
   try simp only [f4,f5,f10,f11] at f15
   clear ih197; exact fL fn9
  have f16 := mG2 ends x3.up
  try simp only [en.down] at f16
  refine bs fun v17 h16 => ?_
  have f17 := qd1 h16
  try simp only [en.down,f4,f5] at f17
  refine q6m ?_ ?_
  ·rintro (⟨h18,h19,h20⟩ | ⟨h18,h19,h20⟩)
   all_goals
   try simp only [f4,f5] at f6 f17
   rintro ⟨⟩
   clear ih197; exact fL fn9
  rintro (⟨h18,h19,h20⟩ | ⟨h18,h19,h20⟩)
  all_goals
  have f18 := mP ends x3.up x3.span.to
  try simp only [en.down] at f18
  try simp only [f4,f5] at f6 f17
  intro h; have f19 := ih197 _ _ h; clear h
  try simp only [en.down,f4,f5] at f19
  try simp only [f4,f5] at f19
  clear ih197; exact fL fn9
 rintro ⟨⟩
 clear ih197; exact fL fn9
theorem qm7 {i i2 n r_ r} (h : q83 i i2 n r_ = some r) : O.call 9 [AV.agg [v_i i,v_i i2,v_r 0 r_],v_i n] [(0,b_r 18 T.Stop.enc r_)] = some (v_b r,[(0,b_r 18 T.Stop.enc r_)]) := by
 revert h; unfold q83
 refine bs fun v2 h1 => ?_
 have f1 := qm9 h1
 try simp only [en.down] at f1
 apply it <;> intro h3
 ·rintro ⟨⟩
  exact fF fn9
 refine bs fun v5 h4 => ?_
 have f2 := zlh _ _ h4
 try simp only [en.down] at f2
 rcases v5 with y6 | y7
 ·dsimp only
  rintro ⟨⟩
  exact fF fn9
 dsimp only
 rintro ⟨⟩
 exact fF fn9
theorem qxm {s n r} (h : qdp s n = some r) : O.call 25 [v_g (T.Span.enc s),v_i n] [] = some (v_b r,[]) := by
 revert h; unfold qdp
 refine zl (fun h1 h2 => ?_) ?_
 ·rintro ⟨⟩
  exact fF qj3
 rintro (⟨h1,h2⟩ | ⟨h1,h2⟩)
 all_goals
 rintro ⟨⟩
 exact fF qj3
def qnp : ((Bool) ⊕ (Unit)) → Ex × St
 | .inl y => (Ex.ret,⟨[(6,v_b y)],[],0⟩)
 | .inr y => (Ex.normal,⟨[(6,AV.undef)],[],0⟩)
attribute [local go_sem] qnp
theorem zjb : ∀ p r,q1s p = some r → O.loop 26 0 ⟨[(0,v_l 18 T.Stop.enc p.1),(1,v_i p.2.1),(2,v_i p.2.2)],[],0⟩ = some (qnp r) := by
 refine q1s.partial_correctness _ ?_
 rintro q1s ih205 ⟨l,a,b⟩ r; dsimp only
 refine zl (fun h1 h2 => ?_) ?_
 ·refine bg T.Stop.enc fun x4 h3 f1 f2 f3 => ?_
  apply it <;> intro h5
  ·apply it <;> intro h6
   ·apply it <;> intro h7
    ·rintro ⟨⟩
     clear ih205; exact fL q66
    intro h; have f4 := ih205 _ _ h; clear h
    try simp only [en.down] at f4
    clear ih205; exact fL q66
   rintro ⟨⟩
   clear ih205; exact fL q66
  rintro ⟨⟩
  clear ih205; exact fL q66
 rintro (⟨h1,h2⟩ | ⟨h1,h2⟩)
 all_goals
 rintro ⟨⟩
 clear ih205; exact fL q66
theorem zgs {l a b r} (h : qam l a b = some r) : O.call 26 [v_l 18 T.Stop.enc l,v_i a,v_i b] [] = some (v_b r,[]) := by
 revert h; unfold qam
 refine bs fun v2 h1 => ?_
 have f1 := zjb _ _ h1
 try simp only [en.down] at f1
 rcases v2 with y3 | y4
 ·dsimp only
  rintro ⟨⟩
  exact fF q66
 dsimp only
 rintro ⟨⟩
 exact fF q66
theorem q8z {a b r} (h : q25 a b = some r) : O.call 27 [v_g (T.Span.enc a),v_g (T.Span.enc b)] [] = some (v_b r,[]) := by
 revert h; unfold q25
 apply it <;> intro h1
 ·rintro ⟨⟩
  exact fF qjd
 rintro ⟨⟩
 exact fF qjd
def qnq (k : Int) (i : T.z8) (x : T.Stop) (b2_ : T.Span) : ((Bool) ⊕ (Unit)) → Ex × St
 | .inl y => (Ex.ret,⟨[(2,AV.ptr 0 0),(4,v_b y),(5,v_i k)],[(0,b_x (T.z8.enc i)),(1,b_x (T.Stop.enc x)),(2,b_x (T.Span.enc b2_))],3⟩)
 | .inr y => (Ex.normal,⟨[(2,AV.ptr 0 0),(4,AV.undef),(5,v_i k)],[(0,b_x (T.z8.enc i)),(1,b_x (T.Stop.enc x)),(2,b_x (T.Span.enc b2_))],3⟩)
attribute [local go_sem] qnq
theorem q99 : ∀ p r,mf p = some r → O.loop 11 2 ⟨[(2,AV.ptr 0 0),(5,v_i p.1),(6,AV.ptr 1 0),(8,v_i p.2.1)],[(0,b_x (T.z8.enc p.2.2.1)),(1,b_x (T.Stop.enc p.2.2.2.1)),(2,b_x (T.Span.enc p.2.2.2.2))],3⟩ = some (qnq p.1 p.2.2.1 p.2.2.2.1 p.2.2.2.2 r) := by
 refine mf.partial_correctness _ ?_
 rintro mf ih207 ⟨k,j,i,x,b2_⟩ r; dsimp only
 apply it <;> intro h1
 ·refine bg T.Stop.enc fun x3 h2 f1 f2 f3 => ?_
  apply it <;> intro h4
  ·apply it <;> intro h5
   ·rintro ⟨⟩
    clear ih207; exact fL zw
   intro h; have f4 := ih207 _ _ h; clear h
   try simp only [en.down] at f4
   clear ih207; exact fL zw
  intro h; have f5 := ih207 _ _ h; clear h
  try simp only [en.down] at f5
  clear ih207; exact fL zw
 rintro ⟨⟩
 clear ih207; exact fL zw
def qmw (i : T.z8) : ((Bool) ⊕ (Unit)) → Ex × St
 | .inl y => (Ex.ret,⟨[(4,v_b y)],[(0,b_x (T.z8.enc i))],1⟩)
 | .inr y => (Ex.normal,⟨[(4,AV.undef)],[(0,b_x (T.z8.enc i))],1⟩)
attribute [local go_sem] qmw
theorem zce : ∀ p r,uj p = some r → O.loop 11 0 ⟨[(2,AV.ptr 0 0),(5,v_i p.1)],[(0,b_x (T.z8.enc p.2))],1⟩ = some (qmw p.2 r) := by
 refine uj.partial_correctness _ ?_
 rintro uj ih203 ⟨k,i⟩ r; dsimp only
 apply it <;> intro h1
 ·refine bg T.Stop.enc fun x3 h2 f1 f2 f3 => ?_
  apply it <;> intro h4
  ·refine xe ?_ (fun h5 h6 => ?_)
   ·rintro (⟨h5,h6⟩ | ⟨h5,h6⟩)
    all_goals
    rintro ⟨⟩
    clear ih203; exact fL zw
   apply it <;> intro h7
   ·refine bs fun v9 h8 => ?_
    have f4 := zgs h8
    try simp only [en.down] at f4
    apply it <;> intro h10
    ·rintro ⟨⟩
     clear ih203; exact fL zw
    apply it <;> intro h11
    ·refine bg T.Stop.enc fun x13 h12 f5 f6 f7 => ?_
     apply it <;> intro h14
     ·rintro ⟨⟩
      clear ih203; exact fL zw
     refine bs fun v16 h15 => ?_
     have f8 := q8z h15
     try simp only [en.down] at f8
     apply it <;> intro h17
     ·rintro ⟨⟩
      clear ih203; exact fL zw
     refine bs fun v19 h18 => ?_
     have f9 := q99 _ _ h18
     try simp only [en.down] at f9
     rcases v19 with y20 | y21
     ·dsimp only
      rintro ⟨⟩
      clear ih203; exact fL zw
     dsimp only
     intro h; have f10 := ih203 _ _ h; clear h
     try simp only [en.down] at f10
     clear ih203; exact fL zw
    apply it <;> intro h22
    ·rintro ⟨⟩
     clear ih203; exact fL zw
    refine bs fun v24 h23 => ?_
    have f11 := q8z h23
    try simp only [en.down] at f11
    apply it <;> intro h25
    ·rintro ⟨⟩
     clear ih203; exact fL zw
    refine bs fun v27 h26 => ?_
    have f12 := q99 _ _ h26
    try simp only [en.down] at f12
    rcases v27 with y28 | y29
    ·dsimp only
     rintro ⟨⟩
     clear ih203; exact fL zw
    dsimp only
    intro h; have f13 := ih203 _ _ h; clear h
    try simp only [en.down] at f13
    clear ih203; exact fL zw
   apply it <;> intro h30
   ·refine bg T.Stop.enc fun x32 h31 f14 f15 f16 => ?_
    apply it <;> intro h33
    ·rintro ⟨⟩
     clear ih203; exact fL zw
    refine bs fun v35 h34 => ?_
    have f17 := q8z h34
    try simp only [en.down] at f17
    apply it <;> intro h36
    ·rintro ⟨⟩
     clear ih203; exact fL zw
    refine bs fun v38 h37 => ?_
    have f18 := q99 _ _ h37
    try simp only [en.down] at f18
    rcases v38 with y39 | y40
    ·dsimp only
     rintro ⟨⟩
     clear ih203; exact fL zw
    dsimp only
    intro h; have f19 := ih203 _ _ h; clear h
    try simp only [en.down] at f19
    clear ih203; exact fL zw
   apply it <;> intro h41
   ·rintro ⟨⟩
    clear ih203; exact fL zw
   refine bs fun v43 h42 => ?_
   have f20 := q8z h42
   try simp only [en.down] at f20
   apply it <;> intro h44
   ·rintro ⟨⟩
    clear ih203; exact fL zw
   refine bs fun v46 h45 => ?_
   have f21 := q99 _ _ h45
   try simp only [en.down] at f21
   rcases v46 with y47 | y48
   ·dsimp only
    rintro ⟨⟩
    clear ih203; exact fL zw
   dsimp only
   intro h; have f22 := ih203 _ _ h; clear h
   try simp only [en.down] at f22
   clear ih203; exact fL zw
  apply it <;> intro h49
  ·refine bg T.Stop.enc fun x51 h50 f23 f24 f25 => ?_
   apply it <;> intro h52
   ·rintro ⟨⟩
    clear ih203; exact fL zw
   refine bs fun v54 h53 => ?_
   have f26 := q8z h53
   try simp only [en.down] at f26
   apply it <;> intro h55
   ·rintro ⟨⟩
    clear ih203; exact fL zw
   refine bs fun v57 h56 => ?_
   have f27 := q99 _ _ h56
   try simp only [en.down] at f27
   rcases v57 with y58 | y59
   ·dsimp only
    rintro ⟨⟩
    clear ih203; exact fL zw
   dsimp only
   intro h; have f28 := ih203 _ _ h; clear h
   try simp only [en.down] at f28
   clear ih203; exact fL zw
  apply it <;> intro h60
  ·rintro ⟨⟩
   clear ih203; exact fL zw
  refine bs fun v62 h61 => ?_
  have f29 := q8z h61
  try simp only [en.down] at f29
  apply it <;> intro h63
  ·rintro ⟨⟩
   clear ih203; exact fL zw
  refine bs fun v65 h64 => ?_
  have f30 := q99 _ _ h64
  try simp only [en.down] at f30
  rcases v65 with y66 | y67
  ·dsimp only
   rintro ⟨⟩
   clear ih203; exact fL zw
  dsimp only
  intro h; have f31 := ih203 _ _ h; clear h
  try simp only [en.down] at f31
  clear ih203; exact fL zw
 rintro ⟨⟩
 clear ih203; exact fL zw
theorem qgh {i n r} (h : q4v i n = some r) : O.call 11 [v_g (T.z8.enc i),v_i n] [] = some (v_b r,[]) := by
 revert h; unfold q4v
 refine bs fun v2 h1 => ?_
 have f1 := qxm h1
 try simp only [en.down] at f1
 apply it <;> intro h3
 ·rintro ⟨⟩
  exact fF zw
 refine bs fun v5 h4 => ?_
 have f2 := zce _ _ h4
 try simp only [en.down] at f2
 rcases v5 with y6 | y7
 ·dsimp only
  rintro ⟨⟩
  exact fF zw
 dsimp only
 rintro ⟨⟩
 exact fF zw
theorem z4x {s which by_ what r} (h : qdm s which by_ what = some r) : O.call 3 [v_s s,v_i which,v_i by_,v_i what] [] = some (v_b r,[]) := by
 revert h; unfold qdm
 refine bs fun v2 h1 => ?_
 have f1 := z5h h1
 try simp only [en.down] at f1
 rcases v2 with y3 | y30
 ·dsimp only
  refine xe ?_ (fun h4 h7 => ?_)
  ·rintro (⟨h4,h7⟩ | ⟨h4,h7⟩)
   all_goals
   refine bs fun v6 h5 => ?_
   have f2 := qau h5
   try simp only [en.down] at f2
   rintro ⟨⟩
   exact fF fn3
  refine bs fun v11 h10 => ?_
  have f3 := qav h10
  try simp only [en.down] at f3
  apply it <;> intro h12
  ·rintro ⟨⟩
   exact fF fn3
  refine bs fun v14 h13 => ?_
  have f4 := qav h13
  try simp only [en.down] at f4
  apply it <;> intro h15
  ·try simp only [h15] at f1 f3 f4
   rintro ⟨⟩
   exact fF fn3
  refine bs fun v17 h16 => ?_
  have f5 := q3f h16
  try simp only [en.down] at f5
  refine bs fun v19 h18 => ?_
  have f6 := q3f h18
  try simp only [en.down] at f6
  refine bs fun v21 h20 => ?_
  have f7 := q3f h20
  try simp only [en.down] at f7
  refine xe ?_ (fun h22 h25 => ?_)
  ·rintro (⟨h22,h25⟩ | ⟨h22,h25⟩)
   all_goals
   refine bg T.Stop.enc fun x24 h23 f8 f9 f10 => ?_
   rintro ⟨⟩
  refine bg T.Stop.enc fun x29 h28 f11 f12 f13 => ?_
  rintro ⟨⟩
 dsimp only
 refine xe ?_ (fun h31 h34 => ?_)
 ·rintro (⟨h31,h34⟩ | ⟨h31,h34⟩)
  all_goals
  refine bs fun v33 h32 => ?_
  have f14 := qau h32
  try simp only [en.down] at f14
  rintro ⟨⟩
  exact fF fn3
 refine bs fun v38 h37 => ?_
 have f15 := qm7 h37
 try simp only [en.down] at f15
 apply it <;> intro h39
 ·rintro ⟨⟩
  exact fF fn3
 refine bs fun v41 h40 => ?_
 have f16 := qm7 h40
 try simp only [en.down] at f16
 apply it <;> intro h42
 ·try simp only [h42] at f1 f15 f16
  rintro ⟨⟩
  exact fF fn3
 refine bs fun v44 h43 => ?_
 have f17 := q3f h43
 try simp only [en.down] at f17
 refine bs fun v46 h45 => ?_
 have f18 := q3f h45
 try simp only [en.down] at f18
 refine bs fun v48 h47 => ?_
 have f19 := q3f h47
 try simp only [en.down] at f19
 apply it <;> intro h49
 ·refine bW T.Stop.enc 18 fun x51 h50 f20 f21 f22 f23 f24 => ?_
  have f25 := map_set T.Stop.enc y30.2.2.2 v44.toNat (T.Stop.mk (T.Span.mk (IntKind.i64.wrap (x51.span.frm + (IntKind.i64.wrap (v46 - (3 : Int))))) x51.span.to) x51.n x51.up x51.first x51.turned x51.form x51.opts)
  try simp only [en.down] at f25
  refine bs fun v53 h52 => ?_
  have f26 := q3f h52
  try simp only [en.down,f23,f24] at f26
  refine bs fun v55 h54 => ?_
  have f27 := qav h54
  try simp only [en.down,f23,f24] at f27
  refine bs fun v57 h56 => ?_
  have f28 := qgh h56
  try simp only [en.down,f23,f24] at f28
  apply it <;> intro h58
  ·refine bs fun v60 h59 => ?_
   have f29 := qau h59
   try simp only [en.down,f23,f24] at f29
   try simp only [h42,f23,f24] at f1 f15 f16 f17 f18 f19 f25 f26 f27 f28 f29
   rintro ⟨⟩
   exact fF fn3
  try simp only [h42,f23,f24] at f1 f15 f16 f17 f18 f19 f25 f26 f27 f28
  rintro ⟨⟩
  exact fF fn3
 apply it <;> intro h61
 ·refine bW T.Stop.enc 18 fun x63 h62 f30 f31 f32 f33 f34 => ?_
  have f35 := map_set T.Stop.enc y30.2.2.2 v44.toNat (T.Stop.mk (T.Span.mk x63.span.frm (IntKind.i64.wrap (x63.span.to + (IntKind.i64.wrap (v46 - (3 : Int)))))) x63.n x63.up x63.first x63.turned x63.form x63.opts)
  try simp only [en.down] at f35
  refine bs fun v65 h64 => ?_
  have f36 := q3f h64
  try simp only [en.down,f33,f34] at f36
  refine bs fun v67 h66 => ?_
  have f37 := qav h66
  try simp only [en.down,f33,f34] at f37
  refine bs fun v69 h68 => ?_
  have f38 := qgh h68
  try simp only [en.down,f33,f34] at f38
  apply it <;> intro h70
  ·refine bs fun v72 h71 => ?_
   have f39 := qau h71
   try simp only [en.down,f33,f34] at f39
   try simp only [h42,f33,f34] at f1 f15 f16 f17 f18 f19 f35 f36 f37 f38 f39
   rintro ⟨⟩
   exact fF fn3
  try simp only [h42,f33,f34] at f1 f15 f16 f17 f18 f19 f35 f36 f37 f38
  rintro ⟨⟩
  exact fF fn3
 refine bW T.Stop.enc 18 fun x74 h73 f40 f41 f42 f43 f44 => ?_
 have f45 := map_set T.Stop.enc y30.2.2.2 v44.toNat (T.Stop.mk x74.span x74.n (IntKind.i64.wrap (x74.up + (IntKind.i64.wrap (v46 - (3 : Int))))) x74.first x74.turned x74.form x74.opts)
 try simp only [en.down] at f45
 refine bs fun v76 h75 => ?_
 have f46 := q3f h75
 try simp only [en.down,f43,f44] at f46
 refine bs fun v78 h77 => ?_
 have f47 := qav h77
 try simp only [en.down,f43,f44] at f47
 refine bs fun v80 h79 => ?_
 have f48 := qgh h79
 try simp only [en.down,f43,f44] at f48
 apply it <;> intro h81
 ·refine bs fun v83 h82 => ?_
  have f49 := qau h82
  try simp only [en.down,f43,f44] at f49
  try simp only [h42,f43,f44] at f1 f15 f16 f17 f18 f19 f45 f46 f47 f48 f49
  rintro ⟨⟩
  exact fF fn3
 try simp only [h42,f43,f44] at f1 f15 f16 f17 f18 f19 f45 f46 f47 f48
 rintro ⟨⟩
 exact fF fn3
end Go.Proofs.YtdhgdeelagmbpaaGreat
