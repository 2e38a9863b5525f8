/-
  What the machine's calls come to: the plain functions.
-/
import Derived.Test.YtdhgdeelagmbpaaGreatQak
import Derived.Test.YtdhgdeelagmbpaaGreatQal
set_option linter.unusedSimpArgs false
set_option linter.unusedVariables false
set_option maxRecDepth 100000
namespace Go.Proofs.YtdhgdeelagmbpaaGreat
open Go Go.Gm
set_option maxHeartbeats 4000000
def qo3 : ((Bytes × Int × Bytes × (Sl T.qi) × Bytes × Bytes × (List T.qf) × (List Int) × (List Bytes) × (List Int) × (List Bytes)) ⊕ (Bytes × (Sl T.qi) × Bytes × Bytes × (List T.qf) × (List Int) × (List Bytes) × (List Int) × (List Bytes))) → Ex × St
 | .inl y => (Ex.ret,⟨[(8,v_s y.1),(9,v_i y.2.1),(10,v_s y.2.2.1)],[(0,Blk.box [v_l 2 T.qi.enc y.2.2.2.1,v_s y.2.2.2.2.1,v_s y.2.2.2.2.2.1,v_r 2 y.2.2.2.2.2.2.1,v_r 3 y.2.2.2.2.2.2.2.1,v_r 4 y.2.2.2.2.2.2.2.2.1]),(1,Blk.box [v_r 5 y.2.2.2.2.2.2.2.2.2.1,v_r 6 y.2.2.2.2.2.2.2.2.2.2]),(2,b_r 20 T.qf.enc y.2.2.2.2.2.2.1),(3,b_r 1 qc y.2.2.2.2.2.2.2.1),(4,b_r 1 qh y.2.2.2.2.2.2.2.2.1),(5,b_r 1 qc y.2.2.2.2.2.2.2.2.2.1),(6,b_r 1 qh y.2.2.2.2.2.2.2.2.2.2)],7⟩)
 | .inr y => (Ex.normal,⟨[(8,AV.undef),(9,AV.undef),(10,v_s y.1)],[(0,Blk.box [v_l 2 T.qi.enc y.2.1,v_s y.2.2.1,v_s y.2.2.2.1,v_r 2 y.2.2.2.2.1,v_r 3 y.2.2.2.2.2.1,v_r 4 y.2.2.2.2.2.2.1]),(1,Blk.box [v_r 5 y.2.2.2.2.2.2.2.1,v_r 6 y.2.2.2.2.2.2.2.2]),(2,b_r 20 T.qf.enc y.2.2.2.2.1),(3,b_r 1 qc y.2.2.2.2.2.1),(4,b_r 1 qh y.2.2.2.2.2.2.1),(5,b_r 1 qc y.2.2.2.2.2.2.2.1),(6,b_r 1 qh y.2.2.2.2.2.2.2.2)],7⟩)
attribute [local go_sem] qo3
theorem qhc : (∀ p r,q0d p = some r → O.call 67 [AV.ptr 0 0,AV.ptr 1 0,v_i p.1] [(0,Blk.box [v_l 2 T.qi.enc p.2.1,v_s p.2.2.1,v_s p.2.2.2.1,v_r 2 p.2.2.2.2.1,v_r 3 p.2.2.2.2.2.1,v_r 4 p.2.2.2.2.2.2.1]),(1,Blk.box [v_r 5 p.2.2.2.2.2.2.2.1,v_r 6 p.2.2.2.2.2.2.2.2]),(2,b_r 20 T.qf.enc p.2.2.2.2.1),(3,b_r 1 qc p.2.2.2.2.2.1),(4,b_r 1 qh p.2.2.2.2.2.2.1),(5,b_r 1 qc p.2.2.2.2.2.2.2.1),(6,b_r 1 qh p.2.2.2.2.2.2.2.2)] = some (AV.tup [v_s r.1,v_i r.2.1],[(0,Blk.box [v_l 2 T.qi.enc r.2.2.1,v_s r.2.2.2.1,v_s r.2.2.2.2.1,v_r 2 r.2.2.2.2.2.1,v_r 3 r.2.2.2.2.2.2.1,v_r 4 r.2.2.2.2.2.2.2.1]),(1,Blk.box [v_r 5 r.2.2.2.2.2.2.2.2.1,v_r 6 r.2.2.2.2.2.2.2.2.2]),(2,b_r 20 T.qf.enc r.2.2.2.2.2.1),(3,b_r 1 qc r.2.2.2.2.2.2.1),(4,b_r 1 qh r.2.2.2.2.2.2.2.1),(5,b_r 1 qc r.2.2.2.2.2.2.2.2.1),(6,b_r 1 qh r.2.2.2.2.2.2.2.2.2)])) ∧ (∀ p r,q8y p = some r → O.call 80 [AV.ptr 0 0,AV.ptr 1 0,v_i p.1] [(0,Blk.box [v_l 2 T.qi.enc p.2.1,v_s p.2.2.1,v_s p.2.2.2.1,v_r 2 p.2.2.2.2.1,v_r 3 p.2.2.2.2.2.1,v_r 4 p.2.2.2.2.2.2.1]),(1,Blk.box [v_r 5 p.2.2.2.2.2.2.2.1,v_r 6 p.2.2.2.2.2.2.2.2]),(2,b_r 20 T.qf.enc p.2.2.2.2.1),(3,b_r 1 qc p.2.2.2.2.2.1),(4,b_r 1 qh p.2.2.2.2.2.2.1),(5,b_r 1 qc p.2.2.2.2.2.2.2.1),(6,b_r 1 qh p.2.2.2.2.2.2.2.2)] = some (AV.tup [v_s r.1,v_i r.2.1],[(0,Blk.box [v_l 2 T.qi.enc r.2.2.1,v_s r.2.2.2.1,v_s r.2.2.2.2.1,v_r 2 r.2.2.2.2.2.1,v_r 3 r.2.2.2.2.2.2.1,v_r 4 r.2.2.2.2.2.2.2.1]),(1,Blk.box [v_r 5 r.2.2.2.2.2.2.2.2.1,v_r 6 r.2.2.2.2.2.2.2.2.2]),(2,b_r 20 T.qf.enc r.2.2.2.2.2.1),(3,b_r 1 qc r.2.2.2.2.2.2.1),(4,b_r 1 qh r.2.2.2.2.2.2.2.1),(5,b_r 1 qc r.2.2.2.2.2.2.2.2.1),(6,b_r 1 qh r.2.2.2.2.2.2.2.2.2)])) ∧ (∀ p r,qbn p = some r → O.call 44 [AV.ptr 0 0,AV.ptr 1 0,v_i p.1,v_i p.2.1] [(0,Blk.box [v_l 2 T.qi.enc p.2.2.1,v_s p.2.2.2.1,v_s p.2.2.2.2.1,v_r 2 p.2.2.2.2.2.1,v_r 3 p.2.2.2.2.2.2.1,v_r 4 p.2.2.2.2.2.2.2.1]),(1,Blk.box [v_r 5 p.2.2.2.2.2.2.2.2.1,v_r 6 p.2.2.2.2.2.2.2.2.2]),(2,b_r 20 T.qf.enc p.2.2.2.2.2.1),(3,b_r 1 qc p.2.2.2.2.2.2.1),(4,b_r 1 qh p.2.2.2.2.2.2.2.1),(5,b_r 1 qc p.2.2.2.2.2.2.2.2.1),(6,b_r 1 qh p.2.2.2.2.2.2.2.2.2)] = some (AV.tup [v_s r.1,v_i r.2.1],[(0,Blk.box [v_l 2 T.qi.enc r.2.2.1,v_s r.2.2.2.1,v_s r.2.2.2.2.1,v_r 2 r.2.2.2.2.2.1,v_r 3 r.2.2.2.2.2.2.1,v_r 4 r.2.2.2.2.2.2.2.1]),(1,Blk.box [v_r 5 r.2.2.2.2.2.2.2.2.1,v_r 6 r.2.2.2.2.2.2.2.2.2]),(2,b_r 20 T.qf.enc r.2.2.2.2.2.1),(3,b_r 1 qc r.2.2.2.2.2.2.1),(4,b_r 1 qh r.2.2.2.2.2.2.2.1),(5,b_r 1 qc r.2.2.2.2.2.2.2.2.1),(6,b_r 1 qh r.2.2.2.2.2.2.2.2.2)])) ∧ (∀ p r,q61 p = some r → O.loop 44 0 ⟨[(0,AV.ptr 0 0),(1,AV.ptr 1 0),(3,v_i p.1),(10,v_s p.2.1),(11,v_i p.2.2.1)],[(0,Blk.box [v_l 2 T.qi.enc p.2.2.2.1,v_s p.2.2.2.2.1,v_s p.2.2.2.2.2.1,v_r 2 p.2.2.2.2.2.2.1,v_r 3 p.2.2.2.2.2.2.2.1,v_r 4 p.2.2.2.2.2.2.2.2.1]),(1,Blk.box [v_r 5 p.2.2.2.2.2.2.2.2.2.1,v_r 6 p.2.2.2.2.2.2.2.2.2.2]),(2,b_r 20 T.qf.enc p.2.2.2.2.2.2.1),(3,b_r 1 qc p.2.2.2.2.2.2.2.1),(4,b_r 1 qh p.2.2.2.2.2.2.2.2.1),(5,b_r 1 qc p.2.2.2.2.2.2.2.2.2.1),(6,b_r 1 qh p.2.2.2.2.2.2.2.2.2.2)],7⟩ = some (qo3 r)) := by
 refine q0d.mutual_partial_correctness _ _ _ _ ?_ ?_ ?_ ?_
 ·rintro q8y ih131 ⟨i,b,b_2,b_3,r_,r_2,r_3,r_4,r_5⟩ r; dsimp only
  refine bW T.qf.enc 20 fun x2 h1 f1 f2 f3 f4 f5 => ?_
  apply it <;> intro h3
  ·refine bs fun v5 h4 => ?_
   have f6 := zqg h4
   try simp only [en.down,f4,f5] at f6
   apply it <;> intro h6
   ·refine bs fun v8 h7 => ?_
    have f7 := ih131 _ _ h7
    try simp only [en.down,f4,f5] at f7
    apply it <;> intro h9
    ·try simp only [f4,f5] at f6 f7
     rintro ⟨⟩
     clear ih131; exact fF q7r
    refine gd fun h10 => ?_
    have f8 := rG 1 qc v8.2.2.2.2.2.2.2.2.1
    refine gd fun h11 => ?_
    have f9 := rG 1 qh v8.2.2.2.2.2.2.2.2.2
    have f10 : List.map qh v8.2.2.2.2.2.2.2.2.2 ++ [[PV.str v8.1]] = List.map qh (v8.2.2.2.2.2.2.2.2.2 ++ [v8.1]) := by simp only [List.map_append,List.map_cons,List.map_nil,zf,zb,ze,qh] <;> rfl
    refine bw qh fun x13 h12 f11 f12 f13 => ?_
    apply it <;> intro h14
    ·refine bs fun v16 h15 => ?_
     have f14 := qhl h15
     try simp only [en.down,f4,f5] at f14
     have f15 : List.map qc v8.2.2.2.2.2.2.2.2.1 ++ [[PV.int IntKind.i64 x2.n]] = List.map qc (v8.2.2.2.2.2.2.2.2.1 ++ [x2.n]) := by simp only [List.map_append,List.map_cons,List.map_nil,zf,zb,ze,qc] <;> rfl
     try simp only [h14,f4,f5] at f6 f7 f14
     rintro ⟨⟩
     clear ih131; exact fF q7r
    have f16 : List.map qc v8.2.2.2.2.2.2.2.2.1 ++ [[PV.int IntKind.i64 x2.n]] = List.map qc (v8.2.2.2.2.2.2.2.2.1 ++ [x2.n]) := by simp only [List.map_append,List.map_cons,List.map_nil,zf,zb,ze,qc] <;> rfl
    try simp only [h14,f4,f5] at f6 f7
    rintro ⟨⟩
    clear ih131; exact fF q7r
   refine bW qh 1 fun x18 h17 f17 f18 f19 f20 f21 => ?_
   apply it <;> intro h19
   ·refine bs fun v21 h20 => ?_
    have f22 := qhl h20
    try simp only [en.down,f4,f5,f20,f21] at f22
    try simp only [h19,f4,f5,f20,f21] at f6 f22
    rintro ⟨⟩
    clear ih131; exact fF q7r
   try simp only [h19,f4,f5,f20,f21] at f6
   rintro ⟨⟩
   clear ih131; exact fF q7r
  apply it <;> intro h22
  ·refine bs fun v24 h23 => ?_
   have f23 := qhl h23
   try simp only [en.down,f4,f5] at f23
   try simp only [h22,f4,f5] at f23
   rintro ⟨⟩
   clear ih131; exact fF q7r
  rintro ⟨⟩
  clear ih131; exact fF q7r
 ·rintro qbn ih132 ⟨n,b,b_2,b_3,r_,r_2,r_3,r_4,r_5⟩ r; dsimp only
  refine bs fun v2 h1 => ?_
  have f1 := qjf h1
  try simp only [en.down] at f1
  apply it <;> intro h3
  ·rintro ⟨⟩
   clear ih132; exact fF qei
  refine bW T.qf.enc 20 fun x5 h4 f2 f3 f4 f5 f6 => ?_
  apply it <;> intro h6
  ·refine bg qh fun x8 h7 f7 f8 f9 => ?_
   apply it <;> intro h9
   ·try simp only [f5,f6] at f1
    rintro ⟨⟩
    clear ih132; exact fF qei
   try simp only [f5,f6] at f1
   rintro ⟨⟩
   clear ih132; exact fF qei
  refine bs fun v11 h10 => ?_
  have f10 := ih132 _ _ h10
  try simp only [en.down,f5,f6] at f10
  try simp only [f5,f6] at f1 f10
  rintro ⟨⟩
  clear ih132; exact fF qei
 ·rintro q61 ih133 ⟨frm,to,b,b_2,b_3,r_,r_2,r_3,r_4,r_5⟩ r; dsimp only
  refine bs fun v2 h1 => ?_
  have f1 := ih133 _ _ h1
  try simp only [en.down] at f1
  rcases v2 with y3 | y4
  ·dsimp only
   rintro ⟨⟩
   clear ih133; exact fF q18
  dsimp only
  rintro ⟨⟩
  clear ih133; exact fF q18
 ·rintro q0d q61 ih128 ih133 ⟨to,s,i,w,w2,w3,r2_,r3_,r4_,r5_,r6_⟩ r; dsimp only
  apply it <;> intro h1
  ·refine bs fun v3 h2 => ?_
   have f1 := ih128 _ _ h2
   try simp only [en.down] at f1
   apply it <;> intro h4
   ·rintro ⟨⟩
    clear ih128 ih133; exact fL q18
   refine gd fun h5 => ?_
   have f2 := eq_true h5
   try simp only [en.down] at f2
   apply it <;> intro h6
   ·rintro ⟨⟩
    clear ih128 ih133; exact fL q18
   refine bW T.qf.enc 20 fun x8 h7 f3 f4 f5 f6 f7 => ?_
   try simp only [f6,f7] at f1
   intro h; have f8 := ih133 _ _ h; clear h
   try simp only [en.down,f6,f7] at f8
   try simp only [f6,f7] at f8
   clear ih128 ih133; exact fL q18
  rintro ⟨⟩
  clear ih128 ih133; exact fL q18
def qqk : ((Bytes × Int × Bytes × (Sl T.qi) × Bytes × Bytes × (List T.qf) × (List Int) × (List Bytes) × (List Int) × (List Bytes)) ⊕ (Bytes × (Sl T.qi) × Bytes × Bytes × (List T.qf) × (List Int) × (List Bytes) × (List Int) × (List Bytes))) → Ex × St
 | .inl y => (Ex.ret,⟨[(8,v_s y.1),(9,v_i y.2.1),(10,v_s y.2.2.1)],[(0,Blk.box [v_l 2 T.qi.enc y.2.2.2.1,v_s y.2.2.2.2.1,v_s y.2.2.2.2.2.1,v_r 2 y.2.2.2.2.2.2.1,v_r 3 y.2.2.2.2.2.2.2.1,v_r 4 y.2.2.2.2.2.2.2.2.1]),(1,Blk.box [v_r 5 y.2.2.2.2.2.2.2.2.2.1,v_r 6 y.2.2.2.2.2.2.2.2.2.2]),(2,b_r 20 T.qf.enc y.2.2.2.2.2.2.1),(3,b_r 1 qc y.2.2.2.2.2.2.2.1),(4,b_r 1 qh y.2.2.2.2.2.2.2.2.1),(5,b_r 1 qc y.2.2.2.2.2.2.2.2.2.1),(6,b_r 1 qh y.2.2.2.2.2.2.2.2.2.2)],7⟩)
 | .inr y => (Ex.normal,⟨[(8,AV.undef),(9,AV.undef),(10,v_s y.1)],[(0,Blk.box [v_l 2 T.qi.enc y.2.1,v_s y.2.2.1,v_s y.2.2.2.1,v_r 2 y.2.2.2.2.1,v_r 3 y.2.2.2.2.2.1,v_r 4 y.2.2.2.2.2.2.1]),(1,Blk.box [v_r 5 y.2.2.2.2.2.2.2.1,v_r 6 y.2.2.2.2.2.2.2.2]),(2,b_r 20 T.qf.enc y.2.2.2.2.1),(3,b_r 1 qc y.2.2.2.2.2.1),(4,b_r 1 qh y.2.2.2.2.2.2.1),(5,b_r 1 qc y.2.2.2.2.2.2.2.1),(6,b_r 1 qh y.2.2.2.2.2.2.2.2)],7⟩)
attribute [local go_sem] qqk
theorem qsg : ∀ p r,q5t p = some r → O.loop 44 0 ⟨[(0,AV.ptr 0 0),(1,AV.ptr 1 0),(3,v_i p.1),(10,v_s p.2.1),(11,v_i p.2.2.1)],[(0,Blk.box [v_l 2 T.qi.enc p.2.2.2.1,v_s p.2.2.2.2.1,v_s p.2.2.2.2.2.1,v_r 2 p.2.2.2.2.2.2.1,v_r 3 p.2.2.2.2.2.2.2.1,v_r 4 p.2.2.2.2.2.2.2.2.1]),(1,Blk.box [v_r 5 p.2.2.2.2.2.2.2.2.2.1,v_r 6 p.2.2.2.2.2.2.2.2.2.2]),(2,b_r 20 T.qf.enc p.2.2.2.2.2.2.1),(3,b_r 1 qc p.2.2.2.2.2.2.2.1),(4,b_r 1 qh p.2.2.2.2.2.2.2.2.1),(5,b_r 1 qc p.2.2.2.2.2.2.2.2.2.1),(6,b_r 1 qh p.2.2.2.2.2.2.2.2.2.2)],7⟩ = some (qqk r) := by
 refine q5t.partial_correctness _ ?_
 rintro q5t ih127 ⟨to,s,i,w,w2,w3,r2_,r3_,r4_,r5_,r6_⟩ r; dsimp only
 apply it <;> intro h1
 ·refine bs fun v3 h2 => ?_
  have f1 := qhc.1 _ _ h2
  try simp only [en.down] at f1
  apply it <;> intro h4
  ·rintro ⟨⟩
   clear ih127; exact fL q18
  refine gd fun h5 => ?_
  have f2 := eq_true h5
  try simp only [en.down] at f2
  apply it <;> intro h6
  ·rintro ⟨⟩
   clear ih127; exact fL q18
  refine bW T.qf.enc 20 fun x8 h7 f3 f4 f5 f6 f7 => ?_
  try simp only [f6,f7] at f1
  intro h; have f8 := ih127 _ _ h; clear h
  try simp only [en.down,f6,f7] at f8
  try simp only [f6,f7] at f8
  clear ih127; exact fL q18
 rintro ⟨⟩
 clear ih127; exact fL q18
theorem z5m {frm to b b_2 b_3 r_ r_2 r_3 r} (h : qbr frm to b b_2 b_3 r_ r_2 r_3 = some r) : O.call 44 [AV.ptr 0 0,AV.ptr 1 0,v_i frm,v_i to] [(0,Blk.box [v_l 2 T.qi.enc b,v_s b_2,v_s b_3,v_r 2 r_,v_r 3 r_2,v_r 4 r_3]),(1,Blk.box [AV.pv (PV.sl true 0 []),AV.pv (PV.sl true 0 [])]),(2,b_r 20 T.qf.enc r_),(3,b_r 1 qc r_2),(4,b_r 1 qh r_3)] = some (AV.tup [v_s r.1,v_i r.2.1],[(0,Blk.box [v_l 2 T.qi.enc r.2.2.1,v_s r.2.2.2.1,v_s r.2.2.2.2.1,v_r 2 r.2.2.2.2.2.1,v_r 3 r.2.2.2.2.2.2.1,v_r 4 r.2.2.2.2.2.2.2.1]),(1,Blk.box [v_r 5 r.2.2.2.2.2.2.2.2.1,v_r 6 r.2.2.2.2.2.2.2.2.2]),(2,b_r 20 T.qf.enc r.2.2.2.2.2.1),(3,b_r 1 qc r.2.2.2.2.2.2.1),(4,b_r 1 qh r.2.2.2.2.2.2.2.1),(5,b_r 1 qc r.2.2.2.2.2.2.2.2.1),(6,b_r 1 qh r.2.2.2.2.2.2.2.2.2)]) := by
 revert h; unfold qbr
 refine bs fun v2 h1 => ?_
 have f1 := qsg _ _ h1
 try simp only [en.down] at f1
 rcases v2 with y3 | y4
 ·dsimp only
  rintro ⟨⟩
  exact fF q18
 dsimp only
 rintro ⟨⟩
 exact fF q18
theorem qoi : (∀ p r,q0g p = some r → r.2.2.2.2.2.1.length = p.2.2.2.2.2.2.2.1.length ∧ O.call 45 [AV.ptr 0 0,AV.ptr 1 0,v_r 2 p.2.2.2.2.2.2.1,v_r 3 p.2.2.2.2.2.2.2.1,v_i p.1,v_i p.2.1,v_i p.2.2.1] [(0,Blk.box [v_l 2 T.qi.enc p.2.2.2.1,v_s p.2.2.2.2.1,v_s p.2.2.2.2.2.1,v_r 4 p.2.2.2.2.2.2.2.2.1,v_r 5 p.2.2.2.2.2.2.2.2.2.1,v_r 6 p.2.2.2.2.2.2.2.2.2.2.1]),(1,Blk.box [v_r 7 p.2.2.2.2.2.2.2.2.2.2.2.1,v_r 8 p.2.2.2.2.2.2.2.2.2.2.2.2]),(2,b_r 18 T.Stop.enc p.2.2.2.2.2.2.1),(3,Blk.row false 1 (List.map qc p.2.2.2.2.2.2.2.1)),(4,b_r 20 T.qf.enc p.2.2.2.2.2.2.2.2.1),(5,b_r 1 qc p.2.2.2.2.2.2.2.2.2.1),(6,b_r 1 qh p.2.2.2.2.2.2.2.2.2.2.1),(7,b_r 1 qc p.2.2.2.2.2.2.2.2.2.2.2.1),(8,b_r 1 qh p.2.2.2.2.2.2.2.2.2.2.2.2)] = some (AV.tup [v_r 2 r.2.2.2.2.1,v_i r.1],[(0,Blk.box [v_l 2 T.qi.enc r.2.1,v_s r.2.2.1,v_s r.2.2.2.1,v_r 4 r.2.2.2.2.2.2.1,v_r 5 r.2.2.2.2.2.2.2.1,v_r 6 r.2.2.2.2.2.2.2.2.1]),(1,Blk.box [v_r 7 r.2.2.2.2.2.2.2.2.2.1,v_r 8 r.2.2.2.2.2.2.2.2.2.2]),(2,b_r 18 T.Stop.enc r.2.2.2.2.1),(3,Blk.row false 1 (List.map qc r.2.2.2.2.2.1)),(4,b_r 20 T.qf.enc r.2.2.2.2.2.2.1),(5,b_r 1 qc r.2.2.2.2.2.2.2.1),(6,b_r 1 qh r.2.2.2.2.2.2.2.2.1),(7,b_r 1 qc r.2.2.2.2.2.2.2.2.2.1),(8,b_r 1 qh r.2.2.2.2.2.2.2.2.2.2)])) ∧ (∀ p r,ni p = some r → r.2.2.2.2.2.1.length = p.2.2.2.2.2.2.2.1.length ∧ O.loop 45 0 ⟨[(0,AV.ptr 0 0),(1,AV.ptr 1 0),(2,v_r 2 p.2.2.2.2.2.2.1),(3,v_r 3 p.2.2.2.2.2.2.2.1),(5,v_i p.1),(6,v_i p.2.1),(16,v_i p.2.2.1)],[(0,Blk.box [v_l 2 T.qi.enc p.2.2.2.1,v_s p.2.2.2.2.1,v_s p.2.2.2.2.2.1,v_r 4 p.2.2.2.2.2.2.2.2.1,v_r 5 p.2.2.2.2.2.2.2.2.2.1,v_r 6 p.2.2.2.2.2.2.2.2.2.2.1]),(1,Blk.box [v_r 7 p.2.2.2.2.2.2.2.2.2.2.2.1,v_r 8 p.2.2.2.2.2.2.2.2.2.2.2.2]),(2,b_r 18 T.Stop.enc p.2.2.2.2.2.2.1),(3,Blk.row false 1 (List.map qc p.2.2.2.2.2.2.2.1)),(4,b_r 20 T.qf.enc p.2.2.2.2.2.2.2.2.1),(5,b_r 1 qc p.2.2.2.2.2.2.2.2.2.1),(6,b_r 1 qh p.2.2.2.2.2.2.2.2.2.2.1),(7,b_r 1 qc p.2.2.2.2.2.2.2.2.2.2.2.1),(8,b_r 1 qh p.2.2.2.2.2.2.2.2.2.2.2.2)],9⟩ = some (Ex.normal,⟨[(2,v_r 2 r.2.2.2.2.1),(6,v_i r.1)],[(0,Blk.box [v_l 2 T.qi.enc r.2.1,v_s r.2.2.1,v_s r.2.2.2.1,v_r 4 r.2.2.2.2.2.2.1,v_r 5 r.2.2.2.2.2.2.2.1,v_r 6 r.2.2.2.2.2.2.2.2.1]),(1,Blk.box [v_r 7 r.2.2.2.2.2.2.2.2.2.1,v_r 8 r.2.2.2.2.2.2.2.2.2.2]),(2,b_r 18 T.Stop.enc r.2.2.2.2.1),(3,Blk.row false 1 (List.map qc r.2.2.2.2.2.1)),(4,b_r 20 T.qf.enc r.2.2.2.2.2.2.1),(5,b_r 1 qc r.2.2.2.2.2.2.2.1),(6,b_r 1 qh r.2.2.2.2.2.2.2.2.1),(7,b_r 1 qc r.2.2.2.2.2.2.2.2.2.1),(8,b_r 1 qh r.2.2.2.2.2.2.2.2.2.2)],9⟩)) := by
 refine q0g.mutual_partial_correctness _ _ ?_ ?_
 ·rintro ni ih184 ⟨frm,to,at_,b,b_2,b_3,r_,r_2,r_3,r_4,r_5,r_6,r_7⟩ r; dsimp only
  refine bs fun v2 h1 => ?_
  obtain ⟨f1L,f1⟩ := ih184 _ _ h1
  try simp only [List.length_set] at f1L
  try simp only [en.down,f1L] at f1
  try simp only [f1L] at f1
  rintro ⟨⟩
  clear ih184; exact ⟨by first | rfl | (simp only [List.length_set,f1L]; done),fF tq⟩
 ·rintro q0g ni ih183 ih184 ⟨to,at_,i,w,w2,w3,out,place,r4_,r5_,r6_,r7_,r8_⟩ r; dsimp only
  apply it <;> intro h1
  ·refine bW T.qf.enc 20 fun x3 h2 f1 f2 f3 f4 f5 => ?_
   refine bs fun v5 h4 => ?_
   have f6 := qhc.1 _ _ h4
   try simp only [en.down,f4,f5] at f6
   apply it <;> intro h6
   ·apply it <;> intro h7
    ·refine bw qc fun x9 h8 f7 f8 f9 => ?_
     refine bw qc fun x11 h10 f10 f11 f12 => ?_
     have f13 := map_set qc place i.toNat (out.length : Int)
     try simp only [en.down] at f13
     refine gd fun h12 => ?_
     have f14 := rG 18 T.Stop.enc out
     apply it <;> intro h13
     ·have f15 : List.map T.Stop.enc out ++ [[PV.int IntKind.i64 at_,PV.int IntKind.i64 (IntKind.i64.wrap (at_ + (v5.1.length : Int))),PV.int IntKind.i64 x3.n,PV.int IntKind.i64 x9,PV.bool x3.first,PV.bool x3.turned,PV.int IntKind.i64 x3.form.rx.kind,PV.str x3.form.rx.char,PV.bool x3.form.rx.not,PV.sl x3.form.rx.rows.nil (szc 2 x3.form.rx.rows.l) (List.map T.Row.enc x3.form.rx.rows.l),PV.int IntKind.i64 x3.form.rx.min,PV.int IntKind.i64 x3.form.rx.max,PV.bool x3.form.rx.lazy,PV.sl x3.form.rx.kids.nil (szc 8 x3.form.rx.kids.l) (List.map T.Rx.enc x3.form.rx.kids.l),PV.sl x3.form.fmts.nil (szc 5 x3.form.fmts.l) (List.map T.Fmt.enc x3.form.fmts.l),PV.bool x3.form.fold,PV.bool x3.form.all,PV.sl x3.opts.nil (szc 1 x3.opts.l) (List.map qh x3.opts.l)]] = List.map T.Stop.enc (out ++ [(T.Stop.mk (T.Span.mk at_ (IntKind.i64.wrap (at_ + (v5.1.length : Int)))) x3.n x9 x3.first x3.turned x3.form x3.opts)]) := by simp only [List.map_append,List.map_cons,List.map_nil,zf,zb,ze,T.Stop.za] <;> rfl
      refine bs fun v15 h14 => ?_
      obtain ⟨f16L,f16⟩ := ih183 _ _ h14
      try simp only [List.length_set] at f16L
      try simp only [en.down,f4,f5,f16L] at f16
      refine bW T.qf.enc 20 fun x17 h16 f17 f18 f19 f20 f21 => ?_
      try simp only [h13,f4,f5,f16L,f20,f21] at f6 f13 f16
      intro h; obtain ⟨f22L,f22⟩ := ih184 _ _ h; clear h
      try simp only [en.down,f4,f5,f16L,f20,f21] at f22
      try simp only [h13,f4,f5,f16L,f20,f21] at f22
      clear ih183 ih184; exact ⟨by first | rfl | (simp only [List.length_set,f22L,f16L]; done),fL tq⟩
     refine bW T.qf.enc 20 fun x19 h18 f23 f24 f25 f26 f27 => ?_
     have f28 : List.map T.Stop.enc out ++ [[PV.int IntKind.i64 at_,PV.int IntKind.i64 (IntKind.i64.wrap (at_ + (v5.1.length : Int))),PV.int IntKind.i64 x3.n,PV.int IntKind.i64 x9,PV.bool x3.first,PV.bool x3.turned,PV.int IntKind.i64 x3.form.rx.kind,PV.str x3.form.rx.char,PV.bool x3.form.rx.not,PV.sl x3.form.rx.rows.nil (szc 2 x3.form.rx.rows.l) (List.map T.Row.enc x3.form.rx.rows.l),PV.int IntKind.i64 x3.form.rx.min,PV.int IntKind.i64 x3.form.rx.max,PV.bool x3.form.rx.lazy,PV.sl x3.form.rx.kids.nil (szc 8 x3.form.rx.kids.l) (List.map T.Rx.enc x3.form.rx.kids.l),PV.sl x3.form.fmts.nil (szc 5 x3.form.fmts.l) (List.map T.Fmt.enc x3.form.fmts.l),PV.bool x3.form.fold,PV.bool x3.form.all,PV.sl x3.opts.nil (szc 1 x3.opts.l) (List.map qh x3.opts.l)]] = List.map T.Stop.enc (out ++ [(T.Stop.mk (T.Span.mk at_ (IntKind.i64.wrap (at_ + (v5.1.length : Int)))) x3.n x9 x3.first x3.turned x3.form x3.opts)]) := by simp only [List.map_append,List.map_cons,List.map_nil,zf,zb,ze,T.Stop.za] <;> rfl
     try simp only [h13,f4,f5,f26,f27] at f6 f13
     intro h; obtain ⟨f29L,f29⟩ := ih184 _ _ h; clear h
     try simp only [en.down,f4,f5,f26,f27] at f29
     try simp only [h13,f4,f5,f26,f27] at f29
     clear ih183 ih184; exact ⟨by first | rfl | (simp only [List.length_set,f29L]; done),fL tq⟩
    refine bw qc fun x21 h20 f30 f31 f32 => ?_
    have f33 := map_set qc place i.toNat (out.length : Int)
    try simp only [en.down] at f33
    refine gd fun h22 => ?_
    have f34 := rG 18 T.Stop.enc out
    apply it <;> intro h23
    ·have f35 : List.map T.Stop.enc out ++ [[PV.int IntKind.i64 at_,PV.int IntKind.i64 (IntKind.i64.wrap (at_ + (v5.1.length : Int))),PV.int IntKind.i64 x3.n,PV.int IntKind.i64 ((-1) : Int),PV.bool x3.first,PV.bool x3.turned,PV.int IntKind.i64 x3.form.rx.kind,PV.str x3.form.rx.char,PV.bool x3.form.rx.not,PV.sl x3.form.rx.rows.nil (szc 2 x3.form.rx.rows.l) (List.map T.Row.enc x3.form.rx.rows.l),PV.int IntKind.i64 x3.form.rx.min,PV.int IntKind.i64 x3.form.rx.max,PV.bool x3.form.rx.lazy,PV.sl x3.form.rx.kids.nil (szc 8 x3.form.rx.kids.l) (List.map T.Rx.enc x3.form.rx.kids.l),PV.sl x3.form.fmts.nil (szc 5 x3.form.fmts.l) (List.map T.Fmt.enc x3.form.fmts.l),PV.bool x3.form.fold,PV.bool x3.form.all,PV.sl x3.opts.nil (szc 1 x3.opts.l) (List.map qh x3.opts.l)]] = List.map T.Stop.enc (out ++ [(T.Stop.mk (T.Span.mk at_ (IntKind.i64.wrap (at_ + (v5.1.length : Int)))) x3.n ((-1) : Int) x3.first x3.turned x3.form x3.opts)]) := by simp only [List.map_append,List.map_cons,List.map_nil,zf,zb,ze,T.Stop.za] <;> rfl
     refine bs fun v25 h24 => ?_
     obtain ⟨f36L,f36⟩ := ih183 _ _ h24
     try simp only [List.length_set] at f36L
     try simp only [en.down,f4,f5,f36L] at f36
     refine bW T.qf.enc 20 fun x27 h26 f37 f38 f39 f40 f41 => ?_
     try simp only [h23,f4,f5,f36L,f40,f41] at f6 f33 f36
     intro h; obtain ⟨f42L,f42⟩ := ih184 _ _ h; clear h
     try simp only [en.down,f4,f5,f36L,f40,f41] at f42
     try simp only [h23,f4,f5,f36L,f40,f41] at f42
     clear ih183 ih184; exact ⟨by first | rfl | (simp only [List.length_set,f42L,f36L]; done),fL tq⟩
    refine bW T.qf.enc 20 fun x29 h28 f43 f44 f45 f46 f47 => ?_
    have f48 : List.map T.Stop.enc out ++ [[PV.int IntKind.i64 at_,PV.int IntKind.i64 (IntKind.i64.wrap (at_ + (v5.1.length : Int))),PV.int IntKind.i64 x3.n,PV.int IntKind.i64 ((-1) : Int),PV.bool x3.first,PV.bool x3.turned,PV.int IntKind.i64 x3.form.rx.kind,PV.str x3.form.rx.char,PV.bool x3.form.rx.not,PV.sl x3.form.rx.rows.nil (szc 2 x3.form.rx.rows.l) (List.map T.Row.enc x3.form.rx.rows.l),PV.int IntKind.i64 x3.form.rx.min,PV.int IntKind.i64 x3.form.rx.max,PV.bool x3.form.rx.lazy,PV.sl x3.form.rx.kids.nil (szc 8 x3.form.rx.kids.l) (List.map T.Rx.enc x3.form.rx.kids.l),PV.sl x3.form.fmts.nil (szc 5 x3.form.fmts.l) (List.map T.Fmt.enc x3.form.fmts.l),PV.bool x3.form.fold,PV.bool x3.form.all,PV.sl x3.opts.nil (szc 1 x3.opts.l) (List.map qh x3.opts.l)]] = List.map T.Stop.enc (out ++ [(T.Stop.mk (T.Span.mk at_ (IntKind.i64.wrap (at_ + (v5.1.length : Int)))) x3.n ((-1) : Int) x3.first x3.turned x3.form x3.opts)]) := by simp only [List.map_append,List.map_cons,List.map_nil,zf,zb,ze,T.Stop.za] <;> rfl
    try simp only [h23,f4,f5,f46,f47] at f6 f33
    intro h; obtain ⟨f49L,f49⟩ := ih184 _ _ h; clear h
    try simp only [en.down,f4,f5,f46,f47] at f49
    try simp only [h23,f4,f5,f46,f47] at f49
    clear ih183 ih184; exact ⟨by first | rfl | (simp only [List.length_set,f49L]; done),fL tq⟩
   refine bW T.qf.enc 20 fun x31 h30 f50 f51 f52 f53 f54 => ?_
   try simp only [f4,f5,f53,f54] at f6
   intro h; obtain ⟨f55L,f55⟩ := ih184 _ _ h; clear h
   try simp only [en.down,f4,f5,f53,f54] at f55
   try simp only [f4,f5,f53,f54] at f55
   clear ih183 ih184; exact ⟨by first | rfl | (simp only [List.length_set,f55L]; done),fL tq⟩
  rintro ⟨⟩
  clear ih183 ih184; exact ⟨by first | rfl | (simp only [List.length_set]; done),fL tq⟩
theorem zem : ∀ p r,nz p = some r → O.loop 45 0 ⟨[(0,AV.ptr 0 0),(1,AV.ptr 1 0),(2,v_r 8 p.2.2.2.2.2.2.2.2.2.2.2.2),(3,v_r 2 p.2.2.2.2.2.2.1),(5,v_i p.1),(6,v_i p.2.1),(16,v_i p.2.2.1)],[(0,Blk.box [v_l 2 T.qi.enc p.2.2.2.1,v_s p.2.2.2.2.1,v_s p.2.2.2.2.2.1,v_r 3 p.2.2.2.2.2.2.2.1,v_r 4 p.2.2.2.2.2.2.2.2.1,v_r 5 p.2.2.2.2.2.2.2.2.2.1]),(1,Blk.box [v_r 6 p.2.2.2.2.2.2.2.2.2.2.1,v_r 7 p.2.2.2.2.2.2.2.2.2.2.2.1]),(2,Blk.row false 1 (List.map qc p.2.2.2.2.2.2.1)),(3,b_r 20 T.qf.enc p.2.2.2.2.2.2.2.1),(4,b_r 1 qc p.2.2.2.2.2.2.2.2.1),(5,b_r 1 qh p.2.2.2.2.2.2.2.2.2.1),(6,b_r 1 qc p.2.2.2.2.2.2.2.2.2.2.1),(7,b_r 1 qh p.2.2.2.2.2.2.2.2.2.2.2.1),(8,b_r 18 T.Stop.enc p.2.2.2.2.2.2.2.2.2.2.2.2)],9⟩ = some (Ex.normal,⟨[(2,v_r 8 r.2.2.2.2.2.2.2.2.2.2),(6,v_i r.1)],[(0,Blk.box [v_l 2 T.qi.enc r.2.1,v_s r.2.2.1,v_s r.2.2.2.1,v_r 3 r.2.2.2.2.2.1,v_r 4 r.2.2.2.2.2.2.1,v_r 5 r.2.2.2.2.2.2.2.1]),(1,Blk.box [v_r 6 r.2.2.2.2.2.2.2.2.1,v_r 7 r.2.2.2.2.2.2.2.2.2.1]),(2,Blk.row false 1 (List.map qc r.2.2.2.2.1)),(3,b_r 20 T.qf.enc r.2.2.2.2.2.1),(4,b_r 1 qc r.2.2.2.2.2.2.1),(5,b_r 1 qh r.2.2.2.2.2.2.2.1),(6,b_r 1 qc r.2.2.2.2.2.2.2.2.1),(7,b_r 1 qh r.2.2.2.2.2.2.2.2.2.1),(8,b_r 18 T.Stop.enc r.2.2.2.2.2.2.2.2.2.2)],9⟩) := by
 refine nz.partial_correctness _ ?_
 rintro nz ih182 ⟨to,at_,i,w,w2,w3,place,r3_,r4_,r5_,r6_,r7_,out⟩ r; dsimp only
 apply it <;> intro h1
 ·refine bW T.qf.enc 20 fun x3 h2 f1 f2 f3 f4 f5 => ?_
  refine bs fun v5 h4 => ?_
  have f6 := qhc.1 _ _ h4
  try simp only [en.down,f4,f5] at f6
  apply it <;> intro h6
  ·apply it <;> intro h7
   ·refine bw qc fun x9 h8 f7 f8 f9 => ?_
    refine bw qc fun x11 h10 f10 f11 f12 => ?_
    have f13 := map_set qc place i.toNat (out.length : Int)
    try simp only [en.down] at f13
    refine gd fun h12 => ?_
    have f14 := rG 18 T.Stop.enc out
    apply it <;> intro h13
    ·have f15 : List.map T.Stop.enc out ++ [[PV.int IntKind.i64 at_,PV.int IntKind.i64 (IntKind.i64.wrap (at_ + (v5.1.length : Int))),PV.int IntKind.i64 x3.n,PV.int IntKind.i64 x9,PV.bool x3.first,PV.bool x3.turned,PV.int IntKind.i64 x3.form.rx.kind,PV.str x3.form.rx.char,PV.bool x3.form.rx.not,PV.sl x3.form.rx.rows.nil (szc 2 x3.form.rx.rows.l) (List.map T.Row.enc x3.form.rx.rows.l),PV.int IntKind.i64 x3.form.rx.min,PV.int IntKind.i64 x3.form.rx.max,PV.bool x3.form.rx.lazy,PV.sl x3.form.rx.kids.nil (szc 8 x3.form.rx.kids.l) (List.map T.Rx.enc x3.form.rx.kids.l),PV.sl x3.form.fmts.nil (szc 5 x3.form.fmts.l) (List.map T.Fmt.enc x3.form.fmts.l),PV.bool x3.form.fold,PV.bool x3.form.all,PV.sl x3.opts.nil (szc 1 x3.opts.l) (List.map qh x3.opts.l)]] = List.map T.Stop.enc (out ++ [(T.Stop.mk (T.Span.mk at_ (IntKind.i64.wrap (at_ + (v5.1.length : Int)))) x3.n x9 x3.first x3.turned x3.form x3.opts)]) := by simp only [List.map_append,List.map_cons,List.map_nil,zf,zb,ze,T.Stop.za] <;> rfl
     refine bs fun v15 h14 => ?_
     obtain ⟨f16L,f16⟩ := qoi.1 _ _ h14
     try simp only [List.length_set] at f16L
     try simp only [en.down,f4,f5,f16L] at f16
     refine bW T.qf.enc 20 fun x17 h16 f17 f18 f19 f20 f21 => ?_
     try simp only [h13,f4,f5,f16L,f20,f21] at f6 f13 f16
     intro h; have f22 := ih182 _ _ h; clear h
     try simp only [en.down,f4,f5,f16L,f20,f21] at f22
     try simp only [h13,f4,f5,f16L,f20,f21] at f22
     clear ih182; exact fL tq
    refine bW T.qf.enc 20 fun x19 h18 f23 f24 f25 f26 f27 => ?_
    have f28 : List.map T.Stop.enc out ++ [[PV.int IntKind.i64 at_,PV.int IntKind.i64 (IntKind.i64.wrap (at_ + (v5.1.length : Int))),PV.int IntKind.i64 x3.n,PV.int IntKind.i64 x9,PV.bool x3.first,PV.bool x3.turned,PV.int IntKind.i64 x3.form.rx.kind,PV.str x3.form.rx.char,PV.bool x3.form.rx.not,PV.sl x3.form.rx.rows.nil (szc 2 x3.form.rx.rows.l) (List.map T.Row.enc x3.form.rx.rows.l),PV.int IntKind.i64 x3.form.rx.min,PV.int IntKind.i64 x3.form.rx.max,PV.bool x3.form.rx.lazy,PV.sl x3.form.rx.kids.nil (szc 8 x3.form.rx.kids.l) (List.map T.Rx.enc x3.form.rx.kids.l),PV.sl x3.form.fmts.nil (szc 5 x3.form.fmts.l) (List.map T.Fmt.enc x3.form.fmts.l),PV.bool x3.form.fold,PV.bool x3.form.all,PV.sl x3.opts.nil (szc 1 x3.opts.l) (List.map qh x3.opts.l)]] = List.map T.Stop.enc (out ++ [(T.Stop.mk (T.Span.mk at_ (IntKind.i64.wrap (at_ + (v5.1.length : Int)))) x3.n x9 x3.first x3.turned x3.form x3.opts)]) := by simp only [List.map_append,List.map_cons,List.map_nil,zf,zb,ze,T.Stop.za] <;> rfl
    try simp only [h13,f4,f5,f26,f27] at f6 f13
    intro h; have f29 := ih182 _ _ h; clear h
    try simp only [en.down,f4,f5,f26,f27] at f29
    try simp only [h13,f4,f5,f26,f27] at f29
    clear ih182; exact fL tq
   refine bw qc fun x21 h20 f30 f31 f32 => ?_
   have f33 := map_set qc place i.toNat (out.length : Int)
   try simp only [en.down] at f33
   refine gd fun h22 => ?_
   have f34 := rG 18 T.Stop.enc out
   apply it <;> intro h23
   ·have f35 : List.map T.Stop.enc out ++ [[PV.int IntKind.i64 at_,PV.int IntKind.i64 (IntKind.i64.wrap (at_ + (v5.1.length : Int))),PV.int IntKind.i64 x3.n,PV.int IntKind.i64 ((-1) : Int),PV.bool x3.first,PV.bool x3.turned,PV.int IntKind.i64 x3.form.rx.kind,PV.str x3.form.rx.char,PV.bool x3.form.rx.not,PV.sl x3.form.rx.rows.nil (szc 2 x3.form.rx.rows.l) (List.map T.Row.enc x3.form.rx.rows.l),PV.int IntKind.i64 x3.form.rx.min,PV.int IntKind.i64 x3.form.rx.max,PV.bool x3.form.rx.lazy,PV.sl x3.form.rx.kids.nil (szc 8 x3.form.rx.kids.l) (List.map T.Rx.enc x3.form.rx.kids.l),PV.sl x3.form.fmts.nil (szc 5 x3.form.fmts.l) (List.map T.Fmt.enc x3.form.fmts.l),PV.bool x3.form.fold,PV.bool x3.form.all,PV.sl x3.opts.nil (szc 1 x3.opts.l) (List.map qh x3.opts.l)]] = List.map T.Stop.enc (out ++ [(T.Stop.mk (T.Span.mk at_ (IntKind.i64.wrap (at_ + (v5.1.length : Int)))) x3.n ((-1) : Int) x3.first x3.turned x3.form x3.opts)]) := by simp only [List.map_append,List.map_cons,List.map_nil,zf,zb,ze,T.Stop.za] <;> rfl
    refine bs fun v25 h24 => ?_
    obtain ⟨f36L,f36⟩ := qoi.1 _ _ h24
    try simp only [List.length_set] at f36L
    try simp only [en.down,f4,f5,f36L] at f36
    refine bW T.qf.enc 20 fun x27 h26 f37 f38 f39 f40 f41 => ?_
    try simp only [h23,f4,f5,f36L,f40,f41] at f6 f33 f36
    intro h; have f42 := ih182 _ _ h; clear h
    try simp only [en.down,f4,f5,f36L,f40,f41] at f42
    try simp only [h23,f4,f5,f36L,f40,f41] at f42
    clear ih182; exact fL tq
   refine bW T.qf.enc 20 fun x29 h28 f43 f44 f45 f46 f47 => ?_
   have f48 : List.map T.Stop.enc out ++ [[PV.int IntKind.i64 at_,PV.int IntKind.i64 (IntKind.i64.wrap (at_ + (v5.1.length : Int))),PV.int IntKind.i64 x3.n,PV.int IntKind.i64 ((-1) : Int),PV.bool x3.first,PV.bool x3.turned,PV.int IntKind.i64 x3.form.rx.kind,PV.str x3.form.rx.char,PV.bool x3.form.rx.not,PV.sl x3.form.rx.rows.nil (szc 2 x3.form.rx.rows.l) (List.map T.Row.enc x3.form.rx.rows.l),PV.int IntKind.i64 x3.form.rx.min,PV.int IntKind.i64 x3.form.rx.max,PV.bool x3.form.rx.lazy,PV.sl x3.form.rx.kids.nil (szc 8 x3.form.rx.kids.l) (List.map T.Rx.enc x3.form.rx.kids.l),PV.sl x3.form.fmts.nil (szc 5 x3.form.fmts.l) (List.map T.Fmt.enc x3.form.fmts.l),PV.bool x3.form.fold,PV.bool x3.form.all,PV.sl x3.opts.nil (szc 1 x3.opts.l) (List.map qh x3.opts.l)]] = List.map T.Stop.enc (out ++ [(T.Stop.mk (T.Span.mk at_ (IntKind.i64.wrap (at_ + (v5.1.length : Int)))) x3.n ((-1) : Int) x3.first x3.turned x3.form x3.opts)]) := by simp only [List.map_append,List.map_cons,List.map_nil,zf,zb,ze,T.Stop.za] <;> rfl
   try simp only [h23,f4,f5,f46,f47] at f6 f33
   intro h; have f49 := ih182 _ _ h; clear h
   try simp only [en.down,f4,f5,f46,f47] at f49
   try simp only [h23,f4,f5,f46,f47] at f49
   clear ih182; exact fL tq
  refine bW T.qf.enc 20 fun x31 h30 f50 f51 f52 f53 f54 => ?_
  try simp only [f4,f5,f53,f54] at f6
  intro h; have f55 := ih182 _ _ h; clear h
  try simp only [en.down,f4,f5,f53,f54] at f55
  try simp only [f4,f5,f53,f54] at f55
  clear ih182; exact fL tq
 rintro ⟨⟩
 clear ih182; exact fL tq
theorem zu9 {frm to at_ b b_2 b_3 r_ r_2 r_3 r_4 r_5 r_6 r} (h : qcf frm to at_ b b_2 b_3 r_ r_2 r_3 r_4 r_5 r_6 = some r) : O.call 45 [AV.ptr 0 0,AV.ptr 1 0,AV.pv (PV.sl true 0 []),v_r 2 r_,v_i frm,v_i to,v_i at_] [(0,Blk.box [v_l 2 T.qi.enc b,v_s b_2,v_s b_3,v_r 3 r_2,v_r 4 r_3,v_r 5 r_4]),(1,Blk.box [v_r 6 r_5,v_r 7 r_6]),(2,Blk.row false 1 (List.map qc r_)),(3,b_r 20 T.qf.enc r_2),(4,b_r 1 qc r_3),(5,b_r 1 qh r_4),(6,b_r 1 qc r_5),(7,b_r 1 qh r_6)] = some (AV.tup [v_r 8 r.2.2.2.2.2.2.2.2.2.2,v_i r.1],[(0,Blk.box [v_l 2 T.qi.enc r.2.1,v_s r.2.2.1,v_s r.2.2.2.1,v_r 3 r.2.2.2.2.2.1,v_r 4 r.2.2.2.2.2.2.1,v_r 5 r.2.2.2.2.2.2.2.1]),(1,Blk.box [v_r 6 r.2.2.2.2.2.2.2.2.1,v_r 7 r.2.2.2.2.2.2.2.2.2.1]),(2,Blk.row false 1 (List.map qc r.2.2.2.2.1)),(3,b_r 20 T.qf.enc r.2.2.2.2.2.1),(4,b_r 1 qc r.2.2.2.2.2.2.1),(5,b_r 1 qh r.2.2.2.2.2.2.2.1),(6,b_r 1 qc r.2.2.2.2.2.2.2.2.1),(7,b_r 1 qh r.2.2.2.2.2.2.2.2.2.1),(8,b_r 18 T.Stop.enc r.2.2.2.2.2.2.2.2.2.2)]) := by
 revert h; unfold qcf
 refine bs fun v2 h1 => ?_
 have f1 := zem _ _ h1
 try simp only [en.down] at f1
 rintro ⟨⟩
 exact fF tq
theorem quj : ∀ p r,q31 p = some r → O.loop 20 2 ⟨[(15,v_s p.1),(17,v_r 8 p.2.2.2.2.2.2.2.2.2.2.2.2),(19,v_b p.2.1),(20,v_i p.2.2.1)],[(0,Blk.box [v_l 2 T.qi.enc p.2.2.2.1,v_s p.2.2.2.2.1,v_s p.2.2.2.2.2.1,v_r 1 p.2.2.2.2.2.2.1,v_r 2 p.2.2.2.2.2.2.2.1,v_r 3 p.2.2.2.2.2.2.2.2.1]),(1,b_r 20 T.qf.enc p.2.2.2.2.2.2.1),(2,b_r 1 qc p.2.2.2.2.2.2.2.1),(3,b_r 1 qh p.2.2.2.2.2.2.2.2.1),(4,Blk.box [v_r 5 p.2.2.2.2.2.2.2.2.2.1,v_r 6 p.2.2.2.2.2.2.2.2.2.2.1]),(5,b_r 1 qc p.2.2.2.2.2.2.2.2.2.1),(6,b_r 1 qh p.2.2.2.2.2.2.2.2.2.2.1),(7,Blk.row false 1 (List.map qc p.2.2.2.2.2.2.2.2.2.2.2.1)),(8,b_r 18 T.Stop.enc p.2.2.2.2.2.2.2.2.2.2.2.2)],9⟩ = some (Ex.normal,⟨[(15,v_s p.1),(17,v_r 8 p.2.2.2.2.2.2.2.2.2.2.2.2),(19,v_b r)],[(0,Blk.box [v_l 2 T.qi.enc p.2.2.2.1,v_s p.2.2.2.2.1,v_s p.2.2.2.2.2.1,v_r 1 p.2.2.2.2.2.2.1,v_r 2 p.2.2.2.2.2.2.2.1,v_r 3 p.2.2.2.2.2.2.2.2.1]),(1,b_r 20 T.qf.enc p.2.2.2.2.2.2.1),(2,b_r 1 qc p.2.2.2.2.2.2.2.1),(3,b_r 1 qh p.2.2.2.2.2.2.2.2.1),(4,Blk.box [v_r 5 p.2.2.2.2.2.2.2.2.2.1,v_r 6 p.2.2.2.2.2.2.2.2.2.2.1]),(5,b_r 1 qc p.2.2.2.2.2.2.2.2.2.1),(6,b_r 1 qh p.2.2.2.2.2.2.2.2.2.2.1),(7,Blk.row false 1 (List.map qc p.2.2.2.2.2.2.2.2.2.2.2.1)),(8,b_r 18 T.Stop.enc p.2.2.2.2.2.2.2.2.2.2.2.2)],9⟩) := by
 refine q31.partial_correctness _ ?_
 rintro q31 ih185 ⟨s,zero,i,b0_,b0_2,b0_3,r1_,r2_,r3_,r5_,r6_,r7_,stops⟩ r; dsimp only
 apply it <;> intro h1
 ·apply it <;> intro h2
  ·intro h; have f1 := ih185 _ _ h; clear h
   try simp only [en.down] at f1
   try simp only [h2] at f1
   clear ih185; exact fL q0a
  refine bW T.Stop.enc 18 fun x4 h3 f2 f3 f4 f5 f6 => ?_
  apply it <;> intro h5
  ·intro h; have f7 := ih185 _ _ h; clear h
   try simp only [en.down,f5,f6] at f7
   try simp only [h2,f5,f6] at f7
   clear ih185; exact fL q0a
  intro h; have f8 := ih185 _ _ h; clear h
  try simp only [en.down,f5,f6] at f8
  try simp only [h2,f5,f6] at f8
  clear ih185; exact fL q0a
 rintro ⟨⟩
 clear ih185; exact fL q0a
theorem z1q {l env lead unit r} (h : qb2 l env lead unit = some r) : O.call 20 [v_l 18 T.qb.enc l,v_l 2 T.qi.enc env,v_s lead,v_s unit] [] = some (AV.tup [v_s r.1,v_l 18 T.Stop.enc r.2.1,v_i r.2.2],[]) := by
 revert h; unfold qb2
 refine bs fun v2 h1 => ?_
 have f1 := zdl h1
 try simp only [en.down] at f1
 apply it <;> intro h3
 ·rintro ⟨⟩
  exact fF q0a
 refine bs fun v5 h4 => ?_
 have f2 := zmf h4
 try simp only [en.down] at f2
 refine bs fun v7 h6 => ?_
 have f3 := zh0 h6
 try simp only [en.down] at f3
 refine bs fun v9 h8 => ?_
 have f4 := z1r h8
 try simp only [en.down] at f4
 apply it <;> intro h10
 ·try simp only [h10] at f1 f2 f3 f4
  rintro ⟨⟩
  exact fF q0a
 refine bs fun v12 h11 => ?_
 have f5 := qu9 _ _ h11
 try simp only [en.down] at f5
 apply it <;> intro h13
 ·try simp only [h10] at f1 f2 f3 f4 f5
  rintro ⟨⟩
  exact fF q0a
 refine bs fun v15 h14 => ?_
 have f6 := z5m h14
 try simp only [en.down] at f6
 apply it <;> intro h16
 ·try simp only [h10] at f1 f2 f3 f4 f5 f6
  rintro ⟨⟩
  exact fF q0a
 refine gd fun h17 => ?_
 have f7 := qj6 IntKind.i64 h17
 refine gd fun h18 => ?_
 have f8 : List.replicate (v15.2.2.2.2.2.1.length : Int).toNat [PV.int IntKind.i64 (0 : Int)] = List.map qc (List.replicate (v15.2.2.2.2.2.1.length : Int).toNat (0 : Int)) := by rw [List.map_replicate]; rfl
 refine bs fun v20 h19 => ?_
 have f9 := zu9 h19
 try simp only [en.down] at f9
 refine bs fun v22 h21 => ?_
 have f10 := quj _ _ h21
 try simp only [en.down] at f10
 apply it <;> intro h23
 ·refine gd fun h24 => ?_
  have f11 := rG 18 T.Stop.enc v20.2.2.2.2.2.2.2.2.2.2
  have f12 : List.map T.Stop.enc v20.2.2.2.2.2.2.2.2.2.2 ++ [[PV.int IntKind.i64 (v15.1.length : Int),PV.int IntKind.i64 (v15.1.length : Int),PV.int IntKind.i64 (0 : Int),PV.int IntKind.i64 ((-1) : Int),PV.bool true,PV.bool false,PV.int IntKind.i64 (0 : Int),PV.str ([] : Bytes),PV.bool false,PV.sl true 0 [],PV.int IntKind.i64 (0 : Int),PV.int IntKind.i64 (0 : Int),PV.bool false,PV.sl true 0 [],PV.sl true 0 [],PV.bool false,PV.bool false,PV.sl true 0 []]] = List.map T.Stop.enc (v20.2.2.2.2.2.2.2.2.2.2 ++ [(T.Stop.mk (T.Span.mk (v15.1.length : Int) (v15.1.length : Int)) (0 : Int) ((-1) : Int) true false (T.Form.mk (T.Rx.mk (0 : Int) ([] : Bytes) false (⟨true,[]⟩ : (Sl T.Row)) (0 : Int) (0 : Int) false (⟨true,[]⟩ : (Sl T.Rx))) (⟨true,[]⟩ : (Sl T.Fmt)) false false) (⟨true,[]⟩ : (Sl Bytes)))]) := by simp only [List.map_append,List.map_cons,List.map_nil,zf,zb,ze,T.Stop.za] <;> rfl
  try simp only [h10] at f1 f2 f3 f4 f5 f6 f9 f10
  rintro ⟨⟩
  exact fF q0a
 try simp only [h10] at f1 f2 f3 f4 f5 f6 f9 f10
 rintro ⟨⟩
 exact fF q0a
theorem zqy : ∀ p r,q52 p = some r → O.loop 7 0 ⟨[(1,v_i p.1),(4,AV.ptr 0 0),(9,v_l 18 T.Stop.enc p.2.1),(11,AV.ptr 1 0),(12,v_i p.2.2.1)],[(0,b_x (T.qj.enc p.2.2.2.1)),(1,Blk.box [v_i p.2.2.2.2.1,v_i p.2.2.2.2.2.1,v_r 2 p.2.2.2.2.2.2]),(2,b_r 18 T.Stop.enc p.2.2.2.2.2.2)],3⟩ = some (Ex.normal,⟨[(4,AV.ptr 0 0),(11,AV.ptr 1 0)],[(0,b_x (T.qj.enc p.2.2.2.1)),(1,Blk.box [v_i p.2.2.2.2.1,v_i p.2.2.2.2.2.1,v_r 2 r]),(2,b_r 18 T.Stop.enc r)],3⟩) := by
 refine q52.partial_correctness _ ?_
 rintro q52 ih186 ⟨at_,p_,i,t4,in_,in_2,r2_⟩ r; dsimp only
 apply it <;> intro h1
 ·refine bg T.Stop.enc fun x3 h2 f1 f2 f3 => ?_
  refine gd fun h4 => ?_
  have f4 := rG 18 T.Stop.enc r2_
  have f5 : List.map T.Stop.enc r2_ ++ [[PV.int IntKind.i64 (IntKind.i64.wrap (x3.span.frm + at_)),PV.int IntKind.i64 (IntKind.i64.wrap (x3.span.to + at_)),PV.int IntKind.i64 x3.n,PV.int IntKind.i64 x3.up,PV.bool x3.first,PV.bool x3.turned,PV.int IntKind.i64 x3.form.rx.kind,PV.str x3.form.rx.char,PV.bool x3.form.rx.not,PV.sl x3.form.rx.rows.nil (szc 2 x3.form.rx.rows.l) (List.map T.Row.enc x3.form.rx.rows.l),PV.int IntKind.i64 x3.form.rx.min,PV.int IntKind.i64 x3.form.rx.max,PV.bool x3.form.rx.lazy,PV.sl x3.form.rx.kids.nil (szc 8 x3.form.rx.kids.l) (List.map T.Rx.enc x3.form.rx.kids.l),PV.sl x3.form.fmts.nil (szc 5 x3.form.fmts.l) (List.map T.Fmt.enc x3.form.fmts.l),PV.bool x3.form.fold,PV.bool x3.form.all,PV.sl x3.opts.nil (szc 1 x3.opts.l) (List.map qh x3.opts.l)]] = List.map T.Stop.enc (r2_ ++ [(T.Stop.mk (T.Span.mk (IntKind.i64.wrap (x3.span.frm + at_)) (IntKind.i64.wrap (x3.span.to + at_))) x3.n x3.up x3.first x3.turned x3.form x3.opts)]) := by simp only [List.map_append,List.map_cons,List.map_nil,zf,zb,ze,T.Stop.za] <;> rfl
  intro h; have f6 := ih186 _ _ h; clear h
  try simp only [en.down] at f6
  clear ih186; exact fL fn7
 rintro ⟨⟩
 clear ih186; exact fL fn7
theorem ql3 {s at_ r} (h : q76 s at_ = some r) : O.call 7 [v_s s,v_i at_] [] = some (AV.tup [v_g (T.qj.enc r.1),v_b r.2],[]) := by
 revert h; unfold q76
 refine bs fun v2 h1 => ?_
 have f1 := zfo h1
 try simp only [en.down] at f1
 refine bs fun v4 h3 => ?_
 have f2 := z1q h3
 try simp only [en.down] at f2
 refine xq ?_ (fun h5 h6 => ?_)
 ·rintro (⟨h5,h6⟩ | ⟨h5,h6⟩)
  all_goals
  rintro ⟨⟩
  exact fF fn7
 refine bs fun v8 h7 => ?_
 have f3 := zqy _ _ h7
 try simp only [en.down] at f3
 rintro ⟨⟩
 exact fF fn7
theorem z5l : ∀ p r,q6b p = some r → O.loop 12 0 ⟨[(1,AV.ptr 0 0),(3,AV.map 1),(12,v_l 18 T.Stop.enc p.1),(13,v_i p.2.1),(14,v_i p.2.2.1)],[(0,b_x (T.qj.enc p.2.2.2.1)),(1,b_m p.2.2.2.2)],2⟩ = some (Ex.normal,⟨[(1,AV.ptr 0 0),(3,AV.map 1)],[(0,b_x (T.qj.enc p.2.2.2.1)),(1,b_m r)],2⟩) := by
 refine q6b.partial_correctness _ ?_
 rintro q6b ih189 ⟨t12,t13,t14,i,left⟩ r; dsimp only
 apply it <;> intro h1
 ·refine bg T.Stop.enc fun x3 h2 f1 f2 f3 => ?_
  have f4 := mG left x3.n
  try simp only [en.down] at f4
  have f5 := mP left x3.n (IntKind.i64.wrap ((zm left x3.n) + (1 : Int)))
  try simp only [en.down] at f5
  intro h; have f6 := ih189 _ _ h; clear h
  try simp only [en.down] at f6
  clear ih189; exact fL qbl
 rintro ⟨⟩
 clear ih189; exact fL qbl
theorem qh4 {m r} (h : q4t m = some r) : O.call 29 [AV.map 0] [(0,b_m m)] = some (AV.clo 51 [] [AV.ptr 1 0],[(0,b_m m),(1,Blk.box [AV.map 0])]) := by
 revert h; unfold q4t
 rintro ⟨⟩
 exact fF qz4
theorem qew {i k r} (h : q1n i k = some r) : O.call 48 [v_g (T.qj.enc i),v_i k] [] = some (v_i r,[]) := by
 revert h; unfold q1n
 refine bg T.Stop.enc fun x2 h1 f1 f2 f3 => ?_
 refine zw (fun h3 h4 => ?_) ?_
 ·rintro ⟨⟩
  exact fF qmi
 rintro (⟨h3,h4⟩ | ⟨h3,h4⟩)
 all_goals
 rintro ⟨⟩
 exact fF qmi
theorem zfv : ∀ p r,q00 p = some r → O.loop 30 2 ⟨[(1,AV.map 0),(2,AV.ptr 1 0),(5,AV.map 2),(7,AV.ptr 3 0),(8,v_i p.1),(12,v_l 18 T.Stop.enc p.2.1),(13,v_i p.2.2.1),(14,v_i p.2.2.2.1)],[(0,b_m p.2.2.2.2.1),(1,b_x (T.qj.enc p.2.2.2.2.2.1)),(2,b_m p.2.2.2.2.2.2.1),(3,b_x (T.Stop.enc p.2.2.2.2.2.2.2))],4⟩ = some (Ex.normal,⟨[(1,AV.map 0),(2,AV.ptr 1 0),(5,AV.map 2),(12,v_l 18 T.Stop.enc p.2.1),(13,v_i p.2.2.1),(14,v_i p.2.2.2.1)],[(0,b_m p.2.2.2.2.1),(1,b_x (T.qj.enc p.2.2.2.2.2.1)),(2,b_m r),(3,b_x (T.Stop.enc p.2.2.2.2.2.2.2))],4⟩) := by
 refine q00.partial_correctness _ ?_
 rintro q00 ih196 ⟨u,t12,t13,t14,left,i,out,s⟩ r; dsimp only
 apply it <;> intro h1
 ·refine bg T.Stop.enc fun x3 h2 f1 f2 f3 => ?_
  apply it <;> intro h4
  ·have f4 := mG out x3.n
   try simp only [en.down] at f4
   have f5 := mP out x3.n (IntKind.i64.wrap ((zm out x3.n) + (1 : Int)))
   try simp only [en.down] at f5
   refine bs fun v6 h5 => ?_
   have f6 := qew h5
   try simp only [en.down] at f6
   intro h; have f7 := ih196 _ _ h; clear h
   try simp only [en.down] at f7
   clear ih196; exact fL q8d
  refine bs fun v8 h7 => ?_
  have f8 := qew h7
  try simp only [en.down] at f8
  intro h; have f9 := ih196 _ _ h; clear h
  try simp only [en.down] at f9
  clear ih196; exact fL q8d
 rintro ⟨⟩
 clear ih196; exact fL q8d
theorem qth : ∀ p r,q46 p = some r → O.loop 30 0 ⟨[(1,AV.map 0),(2,AV.ptr 1 0),(5,AV.map 2),(12,v_l 18 T.Stop.enc p.1),(13,v_i p.2.1),(14,v_i p.2.2.1)],[(0,b_m p.2.2.2.1),(1,b_x (T.qj.enc p.2.2.2.2.1)),(2,b_m p.2.2.2.2.2)],3⟩ = some (Ex.normal,⟨[(5,AV.map 2)],[(0,b_m p.2.2.2.1),(1,b_x (T.qj.enc p.2.2.2.2.1)),(2,b_m r)],3⟩) := by
 refine q46.partial_correctness _ ?_
 rintro q46 ih194 ⟨t12,t13,t14,left,i,out⟩ r; dsimp only
 apply it <;> intro h1
 ·refine bg T.Stop.enc fun x3 h2 f1 f2 f3 => ?_
  have f4 := mG left x3.n
  try simp only [en.down] at f4
  apply it <;> intro h4
  ·intro h; have f5 := ih194 _ _ h; clear h
   try simp only [en.down] at f5
   clear ih194; exact fL q8d
  refine bs fun v6 h5 => ?_
  have f6 := qew h5
  try simp only [en.down] at f6
  refine bs fun v8 h7 => ?_
  have f7 := zfv _ _ h7
  try simp only [en.down] at f7
  intro h; have f8 := ih194 _ _ h; clear h
  try simp only [en.down] at f8
  clear ih194; exact fL q8d
 rintro ⟨⟩
 clear ih194; exact fL q8d
theorem zcy {i m r} (h : qdb i m = some r) : O.call 30 [v_g (T.qj.enc i),AV.map 0] [(0,b_m m)] = some (AV.map 1,[(0,b_m m),(1,b_m r)]) := by
 revert h; unfold qdb
 refine bs fun v2 h1 => ?_
 have f1 := qth _ _ h1
 try simp only [en.down] at f1
 rintro ⟨⟩
 exact fF q8d
theorem z5y {n m r} (h : qea n m = some r) : O.call 32 [v_i n,AV.ptr 0 0] [(0,Blk.box [AV.map 1]),(1,b_m m)] = some (v_b r,[(0,Blk.box [AV.map 1]),(1,b_m m)]) := by
 revert h; unfold qea
 have f1 := mG m n
 try simp only [en.down] at f1
 rintro ⟨⟩
 exact fF zc2
def qn3 (m1 : qz) : ((Int) ⊕ (Unit)) → Ex × St
 | .inl y => (Ex.ret,⟨[(4,v_i y)],[(0,Blk.box [AV.map 1]),(1,b_m m1)],2⟩)
 | .inr y => (Ex.normal,⟨[(4,AV.undef)],[(0,Blk.box [AV.map 1]),(1,b_m m1)],2⟩)
attribute [local go_sem] qn3
theorem qvu : ∀ p r,q3o p = some r → O.loop 31 0 ⟨[(0,v_l 1 qc p.1),(1,AV.clo 32 [] [AV.ptr 0 0]),(7,v_i p.2.1),(8,v_i p.2.2.1)],[(0,Blk.box [AV.map 1]),(1,b_m p.2.2.2)],2⟩ = some (qn3 p.2.2.2 r) := by
 refine q3o.partial_correctness _ ?_
 rintro q3o ih198 ⟨s,t7,t8,m1⟩ r; dsimp only
 apply it <;> intro h1
 ·refine bg qc fun x3 h2 f1 f2 f3 => ?_
  refine bs fun v5 h4 => ?_
  have f4 := z5y h4
  try simp only [en.down] at f4
  apply it <;> intro h6
  ·try simp only [h6] at f4
   rintro ⟨⟩
   clear ih198; exact fL qdh
  try simp only [h6] at f4
  intro h; have f5 := ih198 _ _ h; clear h
  try simp only [en.down] at f5
  try simp only [h6] at f5
  clear ih198; exact fL qdh
 rintro ⟨⟩
 clear ih198; exact fL qdh
theorem ziq {s m r} (h : qaq s m = some r) : O.call 31 [v_l 1 qc s,AV.clo 32 [] [AV.ptr 0 0]] [(0,Blk.box [AV.map 1]),(1,b_m m)] = some (v_i r,[(0,Blk.box [AV.map 1]),(1,b_m m)]) := by
 revert h; unfold qaq
 refine bs fun v2 h1 => ?_
 have f1 := qvu _ _ h1
 try simp only [en.down] at f1
 rcases v2 with y3 | y4
 ·dsimp only
  rintro ⟨⟩
  exact fF qdh
 dsimp only
 rintro ⟨⟩
 exact fF qdh
theorem zqb : ∀ p r,q4m p = some r → O.loop 12 2 ⟨[(1,AV.ptr 0 0),(3,AV.map 1),(6,v_r 2 p.2.2)],[(0,b_x (T.qj.enc p.1)),(1,b_m p.2.1),(2,b_r 1 qc p.2.2)],3⟩ = some (Ex.normal,⟨[(6,v_r 2 r.2)],[(0,b_x (T.qj.enc p.1)),(1,b_m r.1),(2,b_r 1 qc r.2)],3⟩) := by
 refine q4m.partial_correctness _ ?_
 rintro q4m ih190 ⟨i,left,out⟩ r; dsimp only
 apply it <;> intro h1
 ·refine bs fun v3 h2 => ?_
  have f1 := qh4 h2
  try simp only [en.down] at f1
  refine bs fun v5 h4 => ?_
  have f2 := qif h4
  try simp only [en.down] at f2
  refine bs fun v7 h6 => ?_
  have f3 := zcy h6
  try simp only [en.down] at f3
  refine bs fun v9 h8 => ?_
  have f4 := ziq h8
  try simp only [en.down] at f4
  refine bg qc fun x11 h10 f5 f6 f7 => ?_
  refine gd fun h12 => ?_
  have f8 := rG 1 qc out
  have f9 := mD left x11
  try simp only [en.down] at f9
  have f10 : List.map qc out ++ [[PV.int IntKind.i64 x11]] = List.map qc (out ++ [x11]) := by simp only [List.map_append,List.map_cons,List.map_nil,zf,zb,ze,qc] <;> rfl
  intro h; have f11 := ih190 _ _ h; clear h
  try simp only [en.down] at f11
  clear ih190; exact fL qbl
 rintro ⟨⟩
 clear ih190; exact fL qbl
theorem qdz {i r} (h : q2h i = some r) : O.call 12 [v_g (T.qj.enc i)] [] = some (v_l 1 qc r,[]) := by
 revert h; unfold q2h
 refine bs fun v2 h1 => ?_
 have f1 := z5l _ _ h1
 try simp only [en.down] at f1
 refine bs fun v4 h3 => ?_
 have f2 := zqb _ _ h3
 try simp only [en.down] at f2
 rintro ⟨⟩
 exact fF qbl
def qo5 : ((Bool) ⊕ (Unit)) → Ex × St
 | .inl y => (Ex.ret,⟨[(4,v_b y)],[],0⟩)
 | .inr y => (Ex.normal,⟨[(4,AV.undef)],[],0⟩)
attribute [local go_sem] qo5
theorem z3t : ∀ p r,q5f p = some r → O.loop 13 0 ⟨[(0,v_l 1 qc p.1),(1,v_l 1 qc p.2.1),(5,v_i p.2.2)],[],0⟩ = some (qo5 r) := by
 refine q5f.partial_correctness _ ?_
 rintro q5f ih215 ⟨a,b,i⟩ r; dsimp only
 apply it <;> intro h1
 ·refine bg qc fun x3 h2 f1 f2 f3 => ?_
  refine bg qc fun x5 h4 f4 f5 f6 => ?_
  apply it <;> intro h6
  ·rintro ⟨⟩
   clear ih215; exact fL q0y
  intro h; have f7 := ih215 _ _ h; clear h
  try simp only [en.down] at f7
  clear ih215; exact fL q0y
 rintro ⟨⟩
 clear ih215; exact fL q0y
theorem qlj {a b r} (h : q9q a b = some r) : O.call 13 [v_l 1 qc a,v_l 1 qc b] [] = some (v_b r,[]) := by
 revert h; unfold q9q
 apply it <;> intro h1
 ·rintro ⟨⟩
  exact fF q0y
 refine bs fun v3 h2 => ?_
 have f1 := z3t _ _ h2
 try simp only [en.down] at f1
 rcases v3 with y4 | y5
 ·dsimp only
  rintro ⟨⟩
  exact fF q0y
 dsimp only
 rintro ⟨⟩
 exact fF q0y
theorem zp6 {s n r} (h : qcd s n = some r) : O.call 22 [v_g (T.Span.enc s),v_i n] [] = some (v_b r,[]) := by
 revert h; unfold qcd
 refine zw (fun h1 h2 => ?_) ?_
 ·rintro ⟨⟩
  exact fF qo9
 rintro (⟨h1,h2⟩ | ⟨h1,h2⟩)
 all_goals
 rintro ⟨⟩
 exact fF qo9
def qlf (k : Int) (i : T.qj) : ((Bool) ⊕ (Unit)) → Ex × St
 | .inl y => (Ex.ret,⟨[(1,v_i k),(2,AV.ptr 0 0),(4,v_b y)],[(0,b_x (T.qj.enc i))],1⟩)
 | .inr y => (Ex.normal,⟨[(1,v_i k),(2,AV.ptr 0 0),(4,AV.undef)],[(0,b_x (T.qj.enc i))],1⟩)
attribute [local go_sem] qlf
theorem qwp : ∀ p r,q19 p = some r → O.loop 23 0 ⟨[(1,v_i p.1),(2,AV.ptr 0 0),(5,v_i p.2.1)],[(0,b_x (T.qj.enc p.2.2))],1⟩ = some (qlf p.1 p.2.2 r) := by
 refine q19.partial_correctness _ ?_
 rintro q19 ih223 ⟨k,u,i⟩ r; dsimp only
 apply it <;> intro h1
 ·refine bg T.Stop.enc fun x3 h2 f1 f2 f3 => ?_
  apply it <;> intro h4
  ·rintro ⟨⟩
   clear ih223; exact fL qbj
  refine bs fun v6 h5 => ?_
  have f4 := qew h5
  try simp only [en.down] at f4
  intro h; have f5 := ih223 _ _ h; clear h
  try simp only [en.down] at f5
  clear ih223; exact fL qbj
 rintro ⟨⟩
 clear ih223; exact fL qbj
theorem zbw {i k r} (h : qct i k = some r) : O.call 23 [v_g (T.qj.enc i),v_i k] [] = some (v_b r,[]) := by
 revert h; unfold qct
 refine bs fun v2 h1 => ?_
 have f1 := qwp _ _ h1
 try simp only [en.down] at f1
 rcases v2 with y3 | y4
 ·dsimp only
  rintro ⟨⟩
  exact fF qbj
 dsimp only
 refine bg T.Stop.enc fun x6 h5 f2 f3 f4 => ?_
 rintro ⟨⟩
 exact fF qbj
theorem qpi {a b r} (h : q9y a b = some r) : O.call 24 [v_g (T.Span.enc a),v_g (T.Span.enc b)] [] = some (v_b r,[]) := by
 revert h; unfold q9y
 apply it <;> intro h1
 ·rintro ⟨⟩
  exact fF qpz
 rintro ⟨⟩
 exact fF qpz
def qrk (i : T.qj) : ((Bool × qz) ⊕ (qz)) → Ex × St
 | .inl y => (Ex.ret,⟨[(4,v_b y.1)],[(0,b_x (T.qj.enc i)),(1,b_m y.2)],2⟩)
 | .inr y => (Ex.normal,⟨[(4,AV.undef)],[(0,b_x (T.qj.enc i)),(1,b_m y)],2⟩)
attribute [local go_sem] qrk
theorem qx9 : ∀ p r,q3b p = some r → O.loop 9 0 ⟨[(2,AV.ptr 0 0),(5,AV.map 1),(18,v_l 18 T.Stop.enc p.1),(19,v_i p.2.1),(20,v_i p.2.2.1)],[(0,b_x (T.qj.enc p.2.2.2.1)),(1,b_m p.2.2.2.2)],2⟩ = some (qrk p.2.2.2.1 r) := by
 refine q3b.partial_correctness _ ?_
 rintro q3b ih221 ⟨t18,t19,t20,i,ends⟩ r; dsimp only
 apply it <;> intro h1
 ·refine bg T.Stop.enc fun x3 h2 f1 f2 f3 => ?_
  refine bs fun v5 h4 => ?_
  have f4 := zbw h4
  try simp only [en.down] at f4
  refine xq ?_ (fun h6 h7 => ?_)
  ·rintro (⟨h6,h7⟩ | ⟨h6,h7⟩)
   all_goals
   rintro ⟨⟩
   clear ih221; exact fL fn9
  apply it <;> intro h8
  ·refine bg T.Stop.enc fun x10 h9 f5 f6 f7 => ?_
   have f8 := mG2 ends x3.up
   try simp only [en.down] at f8
   refine bs fun v12 h11 => ?_
   have f9 := qpi h11
   try simp only [en.down] at f9
   refine qd5 ?_ ?_
   ·rintro (⟨h13,h14,h15⟩ | ⟨h13,h14,h15⟩)
    all_goals
    rintro ⟨⟩
    clear ih221; exact fL fn9
   rintro (⟨h13,h14,h15⟩ | ⟨h13,h14,h15⟩)
   all_goals
   have f10 := mP ends x3.up x3.span.to
   try simp only [en.down] at f10
   intro h; have f11 := ih221 _ _ h; clear h
   try simp only [en.down] at f11
   clear ih221; exact fL fn9
  have f12 := mG2 ends x3.up
  try simp only [en.down] at f12
  refine bs fun v17 h16 => ?_
  have f13 := qpi h16
  try simp only [en.down] at f13
  refine qd5 ?_ ?_
  ·rintro (⟨h18,h19,h20⟩ | ⟨h18,h19,h20⟩)
   all_goals
   rintro ⟨⟩
   clear ih221; exact fL fn9
  rintro (⟨h18,h19,h20⟩ | ⟨h18,h19,h20⟩)
  all_goals
  have f14 := mP ends x3.up x3.span.to
  try simp only [en.down] at f14
  intro h; have f15 := ih221 _ _ h; clear h
  try simp only [en.down] at f15
  clear ih221; exact fL fn9
 rintro ⟨⟩
 clear ih221; exact fL fn9
theorem qiu {i n r} (h : q6q i n = some r) : O.call 9 [v_g (T.qj.enc i),v_i n] [] = some (v_b r,[]) := by
 revert h; unfold q6q
 refine bs fun v2 h1 => ?_
 have f1 := zp6 h1
 try simp only [en.down] at f1
 apply it <;> intro h3
 ·rintro ⟨⟩
  exact fF fn9
 refine bs fun v5 h4 => ?_
 have f2 := qx9 _ _ h4
 try simp only [en.down] at f2
 rcases v5 with y6 | y7
 ·dsimp only
  rintro ⟨⟩
  exact fF fn9
 dsimp only
 rintro ⟨⟩
 exact fF fn9
theorem qyn {x n r} (h : qar x n = some r) : O.call 10 [v_i x,v_i n] [] = some (v_i r,[]) := by
 revert h; unfold qar
 refine gd fun h1 => ?_
 have f1 := eq_false h1
 rintro ⟨⟩
 exact fF zmt
theorem z1c : ∀ p r,q4d p = some r → O.loop 16 2 ⟨[(3,AV.map 0),(11,v_l 3 T.qj.enc p.1),(12,v_i p.2.1),(13,v_i p.2.2.1),(18,v_l 18 T.Stop.enc p.2.2.2.1),(19,v_i p.2.2.2.2.1),(20,v_i p.2.2.2.2.2.1)],[(0,b_m p.2.2.2.2.2.2.1),(1,b_x (T.qj.enc p.2.2.2.2.2.2.2))],2⟩ = some (Ex.normal,⟨[(3,AV.map 0),(11,v_l 3 T.qj.enc p.1),(12,v_i p.2.1),(13,v_i p.2.2.1)],[(0,b_m r),(1,b_x (T.qj.enc p.2.2.2.2.2.2.2))],2⟩) := by
 refine q4d.partial_correctness _ ?_
 rintro q4d ih234 ⟨t11,t12,t13,t18,t19,t20,in_,b1_⟩ r; dsimp only
 apply it <;> intro h1
 ·refine bg T.Stop.enc fun x3 h2 f1 f2 f3 => ?_
  apply it <;> intro h4
  ·have f4 := mG in_ x3.n
   try simp only [en.down] at f4
   have f5 := mP in_ x3.n (IntKind.i64.wrap ((zm in_ x3.n) + (1 : Int)))
   try simp only [en.down] at f5
   intro h; have f6 := ih234 _ _ h; clear h
   try simp only [en.down] at f6
   clear ih234; exact fL mi
  intro h; have f7 := ih234 _ _ h; clear h
  try simp only [en.down] at f7
  clear ih234; exact fL mi
 rintro ⟨⟩
 clear ih234; exact fL mi
theorem zq8 : ∀ p r,q5n p = some r → O.loop 16 0 ⟨[(3,AV.map 0),(11,v_l 3 T.qj.enc p.1),(12,v_i p.2.1),(13,v_i p.2.2.1)],[(0,b_m p.2.2.2)],1⟩ = some (Ex.normal,⟨[(3,AV.map 0)],[(0,b_m r)],1⟩) := by
 refine q5n.partial_correctness _ ?_
 rintro q5n ih233 ⟨t11,t12,t13,in_⟩ r; dsimp only
 apply it <;> intro h1
 ·refine bg T.qj.enc fun x3 h2 f1 f2 f3 => ?_
  refine bs fun v5 h4 => ?_
  have f4 := z1c _ _ h4
  try simp only [en.down] at f4
  intro h; have f5 := ih233 _ _ h; clear h
  try simp only [en.down] at f5
  clear ih233; exact fL mi
 rintro ⟨⟩
 clear ih233; exact fL mi
theorem qky {is r} (h : q8m is = some r) : O.call 16 [v_l 3 T.qj.enc is] [] = some (v_r 0 r,[(0,b_r 1 qc r)]) := by
 revert h; unfold q8m
 refine bs fun v2 h1 => ?_
 have f1 := zq8 _ _ h1
 try simp only [en.down] at f1
 have f2 := mG v2 (0 : Int)
 try simp only [en.down] at f2
 have f3 := mD v2 (0 : Int)
 try simp only [en.down] at f3
 refine bs fun v4 h3 => ?_
 have f4 := qh4 h3
 try simp only [en.down] at f4
 refine bs fun v6 h5 => ?_
 have f5 := qif h5
 try simp only [en.down] at f5
 apply it <;> intro h7
 ·refine gd fun h8 => ?_
  have f6 := rG 1 qc v6
  have f7 : List.map qc v6 ++ [[PV.int IntKind.i64 (0 : Int)]] = List.map qc (v6 ++ [(0 : Int)]) := by simp only [List.map_append,List.map_cons,List.map_nil,zf,zb,ze,qc] <;> rfl
  rintro ⟨⟩
  exact fF mi
 rintro ⟨⟩
 exact fF mi
theorem z0s : ∀ p r,q3i p = some r → O.loop 16 2 ⟨[(3,AV.map 1),(11,v_r 0 p.2.2.2.2.2.1),(12,v_i p.1),(13,v_i p.2.1),(18,v_l 18 T.Stop.enc p.2.2.1),(19,v_i p.2.2.2.1),(20,v_i p.2.2.2.2.1)],[(0,Blk.row false 3 (List.map T.qj.enc p.2.2.2.2.2.1)),(1,b_m p.2.2.2.2.2.2.1),(2,b_x (T.qj.enc p.2.2.2.2.2.2.2))],3⟩ = some (Ex.normal,⟨[(3,AV.map 1),(11,v_r 0 p.2.2.2.2.2.1),(12,v_i p.1),(13,v_i p.2.1)],[(0,Blk.row false 3 (List.map T.qj.enc p.2.2.2.2.2.1)),(1,b_m r),(2,b_x (T.qj.enc p.2.2.2.2.2.2.2))],3⟩) := by
 refine q3i.partial_correctness _ ?_
 rintro q3i ih237 ⟨t12,t13,t18,t19,t20,t11,in_,b2_⟩ r; dsimp only
 apply it <;> intro h1
 ·refine bg T.Stop.enc fun x3 h2 f1 f2 f3 => ?_
  apply it <;> intro h4
  ·have f4 := mG in_ x3.n
   try simp only [en.down] at f4
   have f5 := mP in_ x3.n (IntKind.i64.wrap ((zm in_ x3.n) + (1 : Int)))
   try simp only [en.down] at f5
   intro h; have f6 := ih237 _ _ h; clear h
   try simp only [en.down] at f6
   clear ih237; exact fL mi
  intro h; have f7 := ih237 _ _ h; clear h
  try simp only [en.down] at f7
  clear ih237; exact fL mi
 rintro ⟨⟩
 clear ih237; exact fL mi
theorem qrt : ∀ p r,q5m p = some r → O.loop 16 0 ⟨[(3,AV.map 1),(11,v_r 0 p.2.2.1),(12,v_i p.1),(13,v_i p.2.1)],[(0,Blk.row false 3 (List.map T.qj.enc p.2.2.1)),(1,b_m p.2.2.2)],2⟩ = some (Ex.normal,⟨[(3,AV.map 1)],[(0,Blk.row false 3 (List.map T.qj.enc p.2.2.1)),(1,b_m r)],2⟩) := by
 refine q5m.partial_correctness _ ?_
 rintro q5m ih236 ⟨t12,t13,t11,in_⟩ r; dsimp only
 apply it <;> intro h1
 ·refine bw T.qj.enc fun x3 h2 f1 f2 f3 => ?_
  refine bs fun v5 h4 => ?_
  have f4 := z0s _ _ h4
  try simp only [en.down] at f4
  intro h; have f5 := ih236 _ _ h; clear h
  try simp only [en.down] at f5
  clear ih236; exact fL mi
 rintro ⟨⟩
 clear ih236; exact fL mi
theorem qm4 {r_ r} (h : q9j r_ = some r) : O.call 16 [v_r 0 r_] [(0,Blk.row false 3 (List.map T.qj.enc r_))] = some (v_r 1 r,[(0,Blk.row false 3 (List.map T.qj.enc r_)),(1,b_r 1 qc r)]) := by
 revert h; unfold q9j
 refine bs fun v2 h1 => ?_
 have f1 := qrt _ _ h1
 try simp only [en.down] at f1
 have f2 := mG v2 (0 : Int)
 try simp only [en.down] at f2
 have f3 := mD v2 (0 : Int)
 try simp only [en.down] at f3
 refine bs fun v4 h3 => ?_
 have f4 := qh4 h3
 try simp only [en.down] at f4
 refine bs fun v6 h5 => ?_
 have f5 := qif h5
 try simp only [en.down] at f5
 apply it <;> intro h7
 ·refine gd fun h8 => ?_
  have f6 := rG 1 qc v6
  have f7 : List.map qc v6 ++ [[PV.int IntKind.i64 (0 : Int)]] = List.map qc (v6 ++ [(0 : Int)]) := by simp only [List.map_append,List.map_cons,List.map_nil,zf,zb,ze,qc] <;> rfl
  rintro ⟨⟩
  exact fF mi
 rintro ⟨⟩
 exact fF mi
def qnz (a : (List Int)) (b : (List Int)) : ((Bool) ⊕ (Unit)) → Ex × St
 | .inl y => (Ex.ret,⟨[(4,v_b y)],[(0,b_r 1 qc a),(1,b_r 1 qc b)],2⟩)
 | .inr y => (Ex.normal,⟨[(4,AV.undef)],[(0,b_r 1 qc a),(1,b_r 1 qc b)],2⟩)
attribute [local go_sem] qnz
theorem z5s : ∀ p r,q5p p = some r → O.loop 13 0 ⟨[(0,v_r 0 p.2.1),(1,v_r 1 p.2.2),(5,v_i p.1)],[(0,b_r 1 qc p.2.1),(1,b_r 1 qc p.2.2)],2⟩ = some (qnz p.2.1 p.2.2 r) := by
 refine q5p.partial_correctness _ ?_
 rintro q5p ih239 ⟨i,a,b⟩ r; dsimp only
 apply it <;> intro h1
 ·refine bW qc 1 fun x3 h2 f1 f2 f3 f4 f5 => ?_
  refine bW qc 1 fun x5 h4 f6 f7 f8 f9 f10 => ?_
  apply it <;> intro h6
  ·rintro ⟨⟩
   clear ih239; exact fL q0y
  intro h; have f11 := ih239 _ _ h; clear h
  try simp only [en.down,f4,f5,f9,f10] at f11
  try simp only [f4,f5,f9,f10] at f11
  clear ih239; exact fL q0y
 rintro ⟨⟩
 clear ih239; exact fL q0y
theorem ql7 {r_ r_2 r} (h : qa5 r_ r_2 = some r) : O.call 13 [v_r 0 r_,v_r 1 r_2] [(0,b_r 1 qc r_),(1,b_r 1 qc r_2)] = some (v_b r,[(0,b_r 1 qc r_),(1,b_r 1 qc r_2)]) := by
 revert h; unfold qa5
 apply it <;> intro h1
 ·rintro ⟨⟩
  exact fF q0y
 refine bs fun v3 h2 => ?_
 have f1 := z5s _ _ h2
 try simp only [en.down] at f1
 rcases v3 with y4 | y5
 ·dsimp only
  rintro ⟨⟩
  exact fF q0y
 dsimp only
 rintro ⟨⟩
 exact fF q0y
end Go.Proofs.YtdhgdeelagmbpaaGreat
