/-
  What the machine's calls come to: the plain functions.
-/
import Derived.Test.YtkbgphcebakcnaaGreatFaj
set_option linter.unusedSimpArgs false
set_option linter.unusedVariables false
set_option maxRecDepth 100000
namespace Go.Proofs.YtkbgphcebakcnaaGreat
open Go Go.Gm
attribute [local go_sem] q6h q90 q7k
set_option maxHeartbeats 4000000
theorem zf6 {data n r} (h : q6f data n = some r) : O.call 75 [v_l 2 T.Span.enc data,v_i n,AV.pv (PV.fn 47)] [] = some (AV.tup [],[]) := by
 revert h; unfold q6f
 refine bs fun v2 h1 => ?_
 have f1 := qnu _ _ h1
 try simp only [en.down] at f1
 refine bs fun v4 h3 => ?_
 have f2 := qdd h3
 try simp only [en.down] at f2
 refine bs fun v6 h5 => ?_
 have f3 := qzk _ _ h5
 try simp only [en.down] at f3
 rintro ⟨⟩
 exact fF w9
theorem qyl {x r} (h : q4k x = some r) : O.call 46 [v_l 2 T.Span.enc x,AV.pv (PV.fn 47)] [] = some (AV.tup [],[]) := by
 revert h; unfold q4k
 refine bs fun v2 h1 => ?_
 have f1 := zf6 h1
 try simp only [en.down] at f1
 rintro ⟨⟩
 exact fF qb5
def qcq : ((Bool) ⊕ (Unit)) → Ex × St
 | .inl y => (Ex.ret,⟨[(2,v_b y)],[],0⟩)
 | .inr y => (Ex.normal,⟨[(2,AV.undef)],[],0⟩)
attribute [local go_sem] qcq
theorem qsc : ∀ p r,q12 p = some r → O.loop 25 0 ⟨[(3,v_l 2 T.Span.enc p.1),(10,v_l 2 T.Span.enc p.2.1),(11,v_i p.2.2.1),(12,v_i p.2.2.2)],[],0⟩ = some (qcq r) := by
 refine q12.partial_correctness _ ?_
 rintro q12 ih55 ⟨in_,t10,t11,t12⟩ r; dsimp only
 apply it <;> intro h1
 ·refine bg T.Span.enc fun x3 h2 f1 f2 f3 => ?_
  apply it <;> intro h4
  ·rintro ⟨⟩
   clear ih55; exact fL j6
  apply it <;> intro h5
  ·refine bg T.Span.enc fun x7 h6 f4 f5 f6 => ?_
   apply it <;> intro h8
   ·rintro ⟨⟩
    clear ih55; exact fL j6
   apply it <;> intro h9
   ·rintro ⟨⟩
    clear ih55; exact fL j6
   intro h; have f7 := ih55 _ _ h; clear h
   try simp only [en.down] at f7
   clear ih55; exact fL j6
  intro h; have f8 := ih55 _ _ h; clear h
  try simp only [en.down] at f8
  clear ih55; exact fL j6
 rintro ⟨⟩
 clear ih55; exact fL j6
theorem qr5 : ∀ p r,q21 p = some r → r.length = p.2.2.2.2.length ∧ O.loop 95 2 ⟨[(0,v_r 0 p.2.2.2.2),(1,v_i p.1),(2,v_i p.2.1),(3,AV.pv (PV.fn 47)),(8,v_i p.2.2.1),(9,v_i p.2.2.2.1)],[(0,Blk.row false 2 (List.map T.Span.enc p.2.2.2.2))],1⟩ = some (Ex.normal,⟨[(0,v_r 0 r),(1,v_i p.1),(2,v_i p.2.1),(3,AV.pv (PV.fn 47)),(8,v_i p.2.2.1)],[(0,Blk.row false 2 (List.map T.Span.enc r))],1⟩) := by
 refine q21.partial_correctness _ ?_
 rintro q21 ih61 ⟨a,b,i,j,data⟩ r; dsimp only
 apply it <;> intro h1
 ·refine bw T.Span.enc fun x3 h2 f1 f2 f3 => ?_
  refine bw T.Span.enc fun x5 h4 f4 f5 f6 => ?_
  refine bs fun v7 h6 => ?_
  have f7 := qd3 h6
  try simp only [en.down] at f7
  apply it <;> intro h8
  ·have f8 := map_set T.Span.enc data j.toNat x5
   try simp only [en.down] at f8
   refine bw T.Span.enc fun x10 h9 f9 f10 f11 => ?_
   have f12 := map_set T.Span.enc (data.set j.toNat x5) ((IntKind.i64.wrap (j - (1 : Int))).toNat) x3
   try simp only [en.down] at f12
   intro h; obtain ⟨f13L,f13⟩ := ih61 _ _ h; clear h
   try simp only [en.down] at f13
   clear ih61; exact ⟨by first | rfl | (simp only [List.length_set,f13L]; done),fL yu⟩
  rintro ⟨⟩
  clear ih61; exact ⟨by first | rfl | (simp only [List.length_set]; done),fL yu⟩
 rintro ⟨⟩
 clear ih61; exact ⟨by first | rfl | (simp only [List.length_set]; done),fL yu⟩
theorem z3w : ∀ p r,q28 p = some r → r.length = p.2.2.2.length ∧ O.loop 95 0 ⟨[(0,v_r 0 p.2.2.2),(1,v_i p.1),(2,v_i p.2.1),(3,AV.pv (PV.fn 47)),(8,v_i p.2.2.1)],[(0,Blk.row false 2 (List.map T.Span.enc p.2.2.2))],1⟩ = some (Ex.normal,⟨[],[(0,Blk.row false 2 (List.map T.Span.enc r))],1⟩) := by
 refine q28.partial_correctness _ ?_
 rintro q28 ih60 ⟨a,b,i,data⟩ r; dsimp only
 apply it <;> intro h1
 ·refine bs fun v3 h2 => ?_
  obtain ⟨f1L,f1⟩ := qr5 _ _ h2
  try simp only [List.length_set] at f1L
  try simp only [en.down,f1L] at f1
  try simp only [f1L] at f1
  intro h; obtain ⟨f2L,f2⟩ := ih60 _ _ h; clear h
  try simp only [en.down,f1L] at f2
  try simp only [f1L] at f2
  clear ih60; exact ⟨by first | rfl | (simp only [List.length_set,f2L,f1L]; done),fL yu⟩
 rintro ⟨⟩
 clear ih60; exact ⟨by first | rfl | (simp only [List.length_set]; done),fL yu⟩
theorem qal {a b r_ r} (h : q5a a b r_ = some r) : r.length = r_.length ∧ O.call 95 [v_r 0 r_,v_i a,v_i b,AV.pv (PV.fn 47)] [(0,Blk.row false 2 (List.map T.Span.enc r_))] = some (AV.tup [],[(0,Blk.row false 2 (List.map T.Span.enc r))]) := by
 revert h; unfold q5a
 refine bs fun v2 h1 => ?_
 obtain ⟨f1L,f1⟩ := z3w _ _ h1
 try simp only [List.length_set] at f1L
 try simp only [en.down,f1L] at f1
 try simp only [f1L] at f1
 rintro ⟨⟩
 exact ⟨by first | rfl | (simp only [List.length_set,f1L]; done),fF yu⟩
theorem z5z : ∀ p r,q39 p = some r → r.2.length = p.2.2.2.2.length ∧ O.loop 75 0 ⟨[(0,v_r 0 p.2.2.2.2),(1,v_i p.1),(2,AV.pv (PV.fn 47)),(6,v_i p.2.1),(7,v_i p.2.2.1),(8,v_i p.2.2.2.1)],[(0,Blk.row false 2 (List.map T.Span.enc p.2.2.2.2))],1⟩ = some (Ex.normal,⟨[(0,v_r 0 r.2),(1,v_i p.1),(2,AV.pv (PV.fn 47)),(6,v_i p.2.1),(7,v_i r.1)],[(0,Blk.row false 2 (List.map T.Span.enc r.2))],1⟩) := by
 refine q39.partial_correctness _ ?_
 rintro q39 ih58 ⟨n,blockSize,a,b,data⟩ r; dsimp only
 apply it <;> intro h1
 ·refine bs fun v3 h2 => ?_
  obtain ⟨f1L,f1⟩ := qal h2
  try simp only [List.length_set] at f1L
  try simp only [en.down,f1L] at f1
  try simp only [f1L] at f1
  intro h; obtain ⟨f2L,f2⟩ := ih58 _ _ h; clear h
  try simp only [en.down,f1L] at f2
  try simp only [f1L] at f2
  clear ih58; exact ⟨by first | rfl | (simp only [List.length_set,f2L,f1L]; done),fL w9⟩
 rintro ⟨⟩
 clear ih58; exact ⟨by first | rfl | (simp only [List.length_set]; done),fL w9⟩
theorem qjr {n blockSize a b data r} (h : q9e n blockSize a b data = some r) : O.loop 75 4 ⟨[(0,v_r 0 data),(1,v_i n),(2,AV.pv (PV.fn 47)),(6,v_i blockSize),(7,v_i a),(8,v_i b)],[(0,Blk.row false 2 (List.map T.Span.enc data))],1⟩ = some (Ex.normal,⟨[(0,v_r 0 data),(1,v_i n),(2,AV.pv (PV.fn 47)),(6,v_i blockSize),(7,v_i a)],[(0,Blk.row false 2 (List.map T.Span.enc data))],1⟩) := by
 revert h; unfold q9e
 apply it <;> intro h1
 ·rintro ⟨⟩
 rintro ⟨⟩
 exact fL w9
theorem z05 : ∀ p r,q38 p = some r → O.loop 75 2 ⟨[(0,v_r 0 p.2.2),(1,v_i p.1),(2,AV.pv (PV.fn 47)),(6,v_i p.2.1)],[(0,Blk.row false 2 (List.map T.Span.enc p.2.2))],1⟩ = some (Ex.normal,⟨[],[(0,Blk.row false 2 (List.map T.Span.enc p.2.2))],1⟩) := by
 refine q38.partial_correctness _ ?_
 rintro q38 ih62 ⟨n,blockSize,data⟩ r; dsimp only
 apply it <;> intro h1
 ·refine bs fun v3 h2 => ?_
  have f1 := qjr h2
  try simp only [en.down] at f1
  apply it <;> intro h4
  ·rintro ⟨⟩
  intro h; have f2 := ih62 _ _ h; clear h
  try simp only [en.down] at f2
  clear ih62; exact fL w9
 rintro ⟨⟩
 clear ih62; exact fL w9
theorem qpz {n r_ r} (h : q6s n r_ = some r) : r.length = r_.length ∧ O.call 75 [v_r 0 r_,v_i n,AV.pv (PV.fn 47)] [(0,Blk.row false 2 (List.map T.Span.enc r_))] = some (AV.tup [],[(0,Blk.row false 2 (List.map T.Span.enc r))]) := by
 revert h; unfold q6s
 refine bs fun v2 h1 => ?_
 obtain ⟨f1L,f1⟩ := z5z _ _ h1
 try simp only [List.length_set] at f1L
 try simp only [en.down,f1L] at f1
 refine bs fun v4 h3 => ?_
 obtain ⟨f2L,f2⟩ := qal h3
 try simp only [List.length_set,f1L] at f2L
 try simp only [en.down,f1L,f2L] at f2
 refine bs fun v6 h5 => ?_
 have f3 := z05 _ _ h5
 try simp only [en.down,f1L,f2L] at f3
 try simp only [f1L,f2L] at f1 f2 f3
 rintro ⟨⟩
 exact ⟨by first | rfl | (simp only [List.length_set,f1L,f2L]; done),fF w9⟩
theorem zc3 {r_ r} (h : q54 r_ = some r) : r.length = r_.length ∧ O.call 46 [v_r 0 r_,AV.pv (PV.fn 47)] [(0,Blk.row false 2 (List.map T.Span.enc r_))] = some (AV.tup [],[(0,Blk.row false 2 (List.map T.Span.enc r))]) := by
 revert h; unfold q54
 refine bs fun v2 h1 => ?_
 obtain ⟨f1L,f1⟩ := qpz h1
 try simp only [List.length_set] at f1L
 try simp only [en.down,f1L] at f1
 try simp only [f1L] at f1
 rintro ⟨⟩
 exact ⟨by first | rfl | (simp only [List.length_set,f1L]; done),fF qb5⟩
def qcm (in_ : (List T.Span)) : ((Bool) ⊕ (Unit)) → Ex × St
 | .inl y => (Ex.ret,⟨[(2,v_b y)],[(0,Blk.row false 2 (List.map T.Span.enc in_))],1⟩)
 | .inr y => (Ex.normal,⟨[(2,AV.undef)],[(0,Blk.row false 2 (List.map T.Span.enc in_))],1⟩)
attribute [local go_sem] qcm
theorem z7u : ∀ p r,q07 p = some r → O.loop 25 0 ⟨[(3,v_r 0 p.2.2),(10,v_r 0 p.2.2),(11,v_i p.1),(12,v_i p.2.1)],[(0,Blk.row false 2 (List.map T.Span.enc p.2.2))],1⟩ = some (qcm p.2.2 r) := by
 refine q07.partial_correctness _ ?_
 rintro q07 ih64 ⟨t11,t12,in_⟩ r; dsimp only
 apply it <;> intro h1
 ·refine bw T.Span.enc fun x3 h2 f1 f2 f3 => ?_
  apply it <;> intro h4
  ·rintro ⟨⟩
   clear ih64; exact fL j6
  apply it <;> intro h5
  ·refine bw T.Span.enc fun x7 h6 f4 f5 f6 => ?_
   apply it <;> intro h8
   ·rintro ⟨⟩
    clear ih64; exact fL j6
   apply it <;> intro h9
   ·rintro ⟨⟩
    clear ih64; exact fL j6
   intro h; have f7 := ih64 _ _ h; clear h
   try simp only [en.down] at f7
   clear ih64; exact fL j6
  intro h; have f8 := ih64 _ _ h; clear h
  try simp only [en.down] at f8
  clear ih64; exact fL j6
 rintro ⟨⟩
 clear ih64; exact fL j6
theorem qgo {l r} (h : q4l l = some r) : O.call 25 [v_l 2 T.Span.enc l] [] = some (v_b r,[]) := by
 revert h; unfold q4l
 refine bs fun v2 h1 => ?_
 have f1 := qmq h1
 try simp only [en.down] at f1
 rcases v2 with y3 | y10
 ·dsimp only
  refine bs fun v5 h4 => ?_
  have f2 := qyl h4
  try simp only [en.down] at f2
  refine bs fun v7 h6 => ?_
  have f3 := qsc _ _ h6
  try simp only [en.down] at f3
  rcases v7 with y8 | y9
  ·dsimp only
   rintro ⟨⟩
   exact fF j6
  dsimp only
  rintro ⟨⟩
  exact fF j6
 dsimp only
 refine bs fun v12 h11 => ?_
 obtain ⟨f4L,f4⟩ := zc3 h11
 try simp only [List.length_set] at f4L
 try simp only [en.down,f4L] at f4
 refine bs fun v14 h13 => ?_
 have f5 := z7u _ _ h13
 try simp only [en.down,f4L] at f5
 rcases v14 with y15 | y16
 ·dsimp only
  try simp only [f4L] at f1 f4 f5
  rintro ⟨⟩
  exact fF j6
 dsimp only
 try simp only [f4L] at f1 f4 f5
 rintro ⟨⟩
 exact fF j6
theorem q9f {s r} (h : q4f s = some r) : O.call 48 [v_g (T.Span.enc s)] [] = some (v_i r,[]) := by
 revert h; unfold q4f
 rintro ⟨⟩
 exact fF qrm
theorem z1o : ∀ p r,q1u p = some r → O.loop 27 0 ⟨[(0,v_i p.1),(7,v_l 3 T.q9.enc p.2.1),(8,v_i p.2.2.1),(9,v_i p.2.2.2)],[],0⟩ = some (Ex.normal,⟨[(0,v_i r)],[],0⟩) := by
 refine q1u.partial_correctness _ ?_
 rintro q1u ih66 ⟨n,t7,t8,t9⟩ r; dsimp only
 apply it <;> intro h1
 ·refine bg T.q9.enc fun x3 h2 f1 f2 f3 => ?_
  refine bs fun v5 h4 => ?_
  have f4 := q9f h4
  try simp only [en.down] at f4
  intro h; have f5 := ih66 _ _ h; clear h
  try simp only [en.down] at f5
  clear ih66; exact fL q9h
 rintro ⟨⟩
 clear ih66; exact fL q9h
theorem qvd {n es r} (h : q47 n es = some r) : O.call 27 [v_i n,v_l 3 T.q9.enc es] [] = some (v_i r,[]) := by
 revert h; unfold q47
 refine bs fun v2 h1 => ?_
 have f1 := z1o _ _ h1
 try simp only [en.down] at f1
 rintro ⟨⟩
 exact fF q9h
theorem qdt {n es r} (h : q0t n es = some r) : O.call 12 [v_i n,v_l 3 T.q9.enc es] [] = some (v_i r,[]) := by
 revert h; unfold q0t
 refine bs fun v2 h1 => ?_
 have f1 := qhn _ _ h1
 try simp only [en.down] at f1
 rcases v2 with y3 | y4
 ·dsimp only
  rintro ⟨⟩
  exact fF q2a
 dsimp only
 refine bs fun v6 h5 => ?_
 have f2 := zc0 h5
 try simp only [en.down] at f2
 refine bs fun v8 h7 => ?_
 have f3 := qgo h7
 try simp only [en.down] at f3
 apply it <;> intro h9
 ·rintro ⟨⟩
  exact fF q2a
 refine bs fun v11 h10 => ?_
 have f4 := qvd h10
 try simp only [en.down] at f4
 apply it <;> intro h12
 ·rintro ⟨⟩
  exact fF q2a
 rintro ⟨⟩
 exact fF q2a
theorem qgk {t14 t15 t16 b0_ b0_2 w w2 r2_ r} (h : q6y t14 t15 t16 b0_ b0_2 w w2 r2_ = some r) : O.loop 17 0 ⟨[(3,AV.ptr 1 0),(14,v_l 2 T.qg.enc t14),(15,v_i t15),(16,v_i t16)],[(0,Blk.box [v_s b0_,v_l 2 T.Sel.enc b0_2,AV.pv (PV.sl true 0 [])]),(1,Blk.box [v_s w,v_l 2 T.Sel.enc w2,v_r 2 r2_]),(2,b_r 3 T.qb.enc r2_)],3⟩ = some (Ex.normal,⟨[(3,AV.ptr 1 0)],[(0,Blk.box [v_s b0_,v_l 2 T.Sel.enc b0_2,AV.pv (PV.sl true 0 [])]),(1,Blk.box [v_s w,v_l 2 T.Sel.enc w2,v_r 2 r2_]),(2,b_r 3 T.qb.enc r2_)],3⟩) := by
 revert h; unfold q6y
 apply it <;> intro h1
 ·refine bg T.qg.enc fun x3 h2 f1 f2 f3 => ?_
  rintro ⟨⟩
 rintro ⟨⟩
 exact fL q64
theorem z0k {t14 t15 t16 b0_ b0_2 r1_ w r3_ r} (h : q6u t14 t15 t16 b0_ b0_2 r1_ w r3_ = some r) : O.loop 17 0 ⟨[(3,AV.ptr 2 0),(14,v_l 2 T.qg.enc t14),(15,v_i t15),(16,v_i t16)],[(0,Blk.box [v_s b0_,v_l 2 T.Sel.enc b0_2,AV.pv (PV.sl true 0 [])]),(1,Blk.row false 2 (List.map T.Sel.enc r1_)),(2,Blk.box [v_s w,v_r 1 r1_,v_r 3 r3_]),(3,b_r 3 T.qb.enc r3_)],4⟩ = some (Ex.normal,⟨[(3,AV.ptr 2 0)],[(0,Blk.box [v_s b0_,v_l 2 T.Sel.enc b0_2,AV.pv (PV.sl true 0 [])]),(1,Blk.row false 2 (List.map T.Sel.enc r1_)),(2,Blk.box [v_s w,v_r 1 r1_,v_r 3 r3_]),(3,b_r 3 T.qb.enc r3_)],4⟩) := by
 revert h; unfold q6u
 apply it <;> intro h1
 ·refine bg T.qg.enc fun x3 h2 f1 f2 f3 => ?_
  rintro ⟨⟩
 rintro ⟨⟩
 exact fL q64
def q7w (st : Bytes) : (((Sl T.Sel) × (List T.qb)) ⊕ ((List T.Sel) × (List T.qb))) → AV × Heap
 | .inl y => (AV.ptr 0 0,[(0,Blk.box [v_s st,v_l 2 T.Sel.enc y.1,v_r 1 y.2]),(1,b_r 3 T.qb.enc y.2)])
 | .inr y => (AV.ptr 0 0,[(0,Blk.box [v_s st,v_r 1 y.1,v_r 2 y.2]),(1,Blk.row false 2 (List.map T.Sel.enc y.1)),(2,b_r 3 T.qb.enc y.2)])
attribute [local go_sem] q7w
theorem qlb {st st2 r} (h : q4j st st2 = some r) : O.call 17 [AV.pv (PV.agg [PV.str st,PV.sl st2.nil (szc 2 st2.l) (List.map T.Sel.enc st2.l),PV.sl true 0 []])] [] = some (q7w st r) := by
 revert h; unfold q4j
 refine bs fun v2 h1 => ?_
 have f1 := q9m h1
 try simp only [en.down] at f1
 rcases v2 with y3 | y6
 ·dsimp only
  refine bs fun v5 h4 => ?_
  have f2 := qgk h4
  try simp only [en.down] at f2
  rintro ⟨⟩
  exact fF q64
 dsimp only
 refine bs fun v8 h7 => ?_
 have f3 := z0k h7
 try simp only [en.down] at f3
 rintro ⟨⟩
 exact fF q64
theorem qmu {es w w2 r1_ r} (h : q5t es w w2 r1_ = some r) : O.loop 18 0 ⟨[(0,AV.ptr 0 0),(1,v_l 3 T.q9.enc es)],[(0,Blk.box [v_s w,v_l 2 T.Sel.enc w2,v_r 1 r1_]),(1,b_r 3 T.qb.enc r1_)],2⟩ = some (Ex.normal,⟨[],[(0,Blk.box [v_s w,v_l 2 T.Sel.enc w2,v_r 1 r1_]),(1,b_r 3 T.qb.enc r1_)],2⟩) := by
 revert h; unfold q5t
 apply it <;> intro h1
 ·refine bW T.qb.enc 3 fun x3 h2 f1 f2 f3 f4 f5 => ?_
  rintro ⟨⟩
 rintro ⟨⟩
 exact fL q6d
theorem z6c {es b b_2 r_ r} (h : q46 es b b_2 r_ = some r) : O.call 18 [AV.ptr 0 0,v_l 3 T.q9.enc es] [(0,Blk.box [v_s b,v_l 2 T.Sel.enc b_2,v_r 1 r_]),(1,b_r 3 T.qb.enc r_)] = some (AV.tup [],[(0,Blk.box [v_s b,v_l 2 T.Sel.enc b_2,v_r 1 r_]),(1,b_r 3 T.qb.enc r_)]) := by
 revert h; unfold q46
 refine bs fun v2 h1 => ?_
 have f1 := qmu h1
 try simp only [en.down] at f1
 rintro ⟨⟩
 exact fF q6d
def qeo : (((Sl T.q9)) ⊕ ((List T.q9))) → AV × Heap
 | .inl y => (v_l 3 T.q9.enc y,[])
 | .inr y => (v_r 0 y,[(0,Blk.row false 3 (List.map T.q9.enc y))])
attribute [local go_sem] qeo
theorem qs2 {s r} (h : q6g s = some r) : O.call 59 [v_l 3 T.q9.enc s] [] = some (qeo r) := by
 revert h; unfold q6g
 apply it <;> intro h1
 ·rintro ⟨⟩
  exact fF qd4
 have f1 := q70 3 T.q9.enc s.l
 refine gd fun h2 => ?_
 rintro ⟨⟩
 exact fF qd4
theorem qco {a b r} (h : q2u a b = some r) : O.call 61 [v_g (T.q9.enc a),v_g (T.q9.enc b)] [] = some (v_i r,[]) := by
 revert h; unfold q2u
 refine bs fun v2 h1 => ?_
 have f1 := q3n h1
 try simp only [en.down] at f1
 refine bs fun v4 h3 => ?_
 have f2 := q3n h3
 try simp only [en.down] at f2
 refine bs fun v6 h5 => ?_
 have f3 := q7j h5
 try simp only [en.down] at f3
 rintro ⟨⟩
 exact fF qrq
theorem z5t {data a b i j r} (h : qa1 data a b i j = some r) : O.loop 99 2 ⟨[(0,v_l 3 T.q9.enc data),(1,v_i a),(2,v_i b),(3,AV.pv (PV.fn 61)),(8,v_i i),(9,v_i j)],[],0⟩ = some (Ex.normal,⟨[(0,v_l 3 T.q9.enc data),(1,v_i a),(2,v_i b),(3,AV.pv (PV.fn 61)),(8,v_i i)],[],0⟩) := by
 revert h; unfold qa1
 apply it <;> intro h1
 ·refine bg T.q9.enc fun x3 h2 f1 f2 f3 => ?_
  refine bg T.q9.enc fun x5 h4 f4 f5 f6 => ?_
  refine bs fun v7 h6 => ?_
  have f7 := qco h6
  try simp only [en.down] at f7
  apply it <;> intro h8
  ·rintro ⟨⟩
  rintro ⟨⟩
  exact fL wy
 rintro ⟨⟩
 exact fL wy
theorem qsp : ∀ p r,q2q p = some r → O.loop 99 0 ⟨[(0,v_l 3 T.q9.enc p.1),(1,v_i p.2.1),(2,v_i p.2.2.1),(3,AV.pv (PV.fn 61)),(8,v_i p.2.2.2)],[],0⟩ = some (Ex.normal,⟨[],[],0⟩) := by
 refine q2q.partial_correctness _ ?_
 rintro q2q ih80 ⟨data,a,b,i⟩ r; dsimp only
 apply it <;> intro h1
 ·refine bs fun v3 h2 => ?_
  have f1 := z5t h2
  try simp only [en.down] at f1
  intro h; have f2 := ih80 _ _ h; clear h
  try simp only [en.down] at f2
  clear ih80; exact fL wy
 rintro ⟨⟩
 clear ih80; exact fL wy
theorem qe4 {data a b r} (h : q49 data a b = some r) : O.call 99 [v_l 3 T.q9.enc data,v_i a,v_i b,AV.pv (PV.fn 61)] [] = some (AV.tup [],[]) := by
 revert h; unfold q49
 refine bs fun v2 h1 => ?_
 have f1 := qsp _ _ h1
 try simp only [en.down] at f1
 rintro ⟨⟩
 exact fF wy
theorem qx8 : ∀ p r,q3d p = some r → O.loop 80 0 ⟨[(0,v_l 3 T.q9.enc p.1),(1,v_i p.2.1),(2,AV.pv (PV.fn 61)),(6,v_i p.2.2.1),(7,v_i p.2.2.2.1),(8,v_i p.2.2.2.2)],[],0⟩ = some (Ex.normal,⟨[(0,v_l 3 T.q9.enc p.1),(1,v_i p.2.1),(2,AV.pv (PV.fn 61)),(6,v_i p.2.2.1),(7,v_i r)],[],0⟩) := by
 refine q3d.partial_correctness _ ?_
 rintro q3d ih78 ⟨data,n,blockSize,a,b⟩ r; dsimp only
 apply it <;> intro h1
 ·refine bs fun v3 h2 => ?_
  have f1 := qe4 h2
  try simp only [en.down] at f1
  intro h; have f2 := ih78 _ _ h; clear h
  try simp only [en.down] at f2
  clear ih78; exact fL ky
 rintro ⟨⟩
 clear ih78; exact fL ky
theorem z11 {data n blockSize a b r} (h : q7t data n blockSize a b = some r) : O.loop 80 4 ⟨[(0,v_l 3 T.q9.enc data),(1,v_i n),(2,AV.pv (PV.fn 61)),(6,v_i blockSize),(7,v_i a),(8,v_i b)],[],0⟩ = some (Ex.normal,⟨[(0,v_l 3 T.q9.enc data),(1,v_i n),(2,AV.pv (PV.fn 61)),(6,v_i blockSize),(7,v_i a)],[],0⟩) := by
 revert h; unfold q7t
 apply it <;> intro h1
 ·rintro ⟨⟩
 rintro ⟨⟩
 exact fL ky
theorem qg7 : ∀ p r,q3l p = some r → O.loop 80 2 ⟨[(0,v_l 3 T.q9.enc p.1),(1,v_i p.2.1),(2,AV.pv (PV.fn 61)),(6,v_i p.2.2)],[],0⟩ = some (Ex.normal,⟨[],[],0⟩) := by
 refine q3l.partial_correctness _ ?_
 rintro q3l ih83 ⟨data,n,blockSize⟩ r; dsimp only
 apply it <;> intro h1
 ·refine bs fun v3 h2 => ?_
  have f1 := z11 h2
  try simp only [en.down] at f1
  apply it <;> intro h4
  ·rintro ⟨⟩
  intro h; have f2 := ih83 _ _ h; clear h
  try simp only [en.down] at f2
  clear ih83; exact fL ky
 rintro ⟨⟩
 clear ih83; exact fL ky
theorem qrl {data n r} (h : q5r data n = some r) : O.call 80 [v_l 3 T.q9.enc data,v_i n,AV.pv (PV.fn 61)] [] = some (AV.tup [],[]) := by
 revert h; unfold q5r
 refine bs fun v2 h1 => ?_
 have f1 := qx8 _ _ h1
 try simp only [en.down] at f1
 refine bs fun v4 h3 => ?_
 have f2 := qe4 h3
 try simp only [en.down] at f2
 refine bs fun v6 h5 => ?_
 have f3 := qg7 _ _ h5
 try simp only [en.down] at f3
 rintro ⟨⟩
 exact fF ky
theorem qxh {x r} (h : q59 x = some r) : O.call 60 [v_l 3 T.q9.enc x,AV.pv (PV.fn 61)] [] = some (AV.tup [],[]) := by
 revert h; unfold q59
 refine bs fun v2 h1 => ?_
 have f1 := qrl h1
 try simp only [en.down] at f1
 rintro ⟨⟩
 exact fF qar
theorem z7r : ∀ p r,q0y p = some r → r.length = p.2.2.2.2.length ∧ O.loop 99 2 ⟨[(0,v_r 0 p.2.2.2.2),(1,v_i p.1),(2,v_i p.2.1),(3,AV.pv (PV.fn 61)),(8,v_i p.2.2.1),(9,v_i p.2.2.2.1)],[(0,Blk.row false 3 (List.map T.q9.enc p.2.2.2.2))],1⟩ = some (Ex.normal,⟨[(0,v_r 0 r),(1,v_i p.1),(2,v_i p.2.1),(3,AV.pv (PV.fn 61)),(8,v_i p.2.2.1)],[(0,Blk.row false 3 (List.map T.q9.enc r))],1⟩) := by
 refine q0y.partial_correctness _ ?_
 rintro q0y ih90 ⟨a,b,i,j,data⟩ r; dsimp only
 apply it <;> intro h1
 ·refine bw T.q9.enc fun x3 h2 f1 f2 f3 => ?_
  refine bw T.q9.enc fun x5 h4 f4 f5 f6 => ?_
  refine bs fun v7 h6 => ?_
  have f7 := qco h6
  try simp only [en.down] at f7
  apply it <;> intro h8
  ·have f8 := map_set T.q9.enc data j.toNat x5
   try simp only [en.down] at f8
   refine bw T.q9.enc fun x10 h9 f9 f10 f11 => ?_
   have f12 := map_set T.q9.enc (data.set j.toNat x5) ((IntKind.i64.wrap (j - (1 : Int))).toNat) x3
   try simp only [en.down] at f12
   intro h; obtain ⟨f13L,f13⟩ := ih90 _ _ h; clear h
   try simp only [en.down] at f13
   clear ih90; exact ⟨by first | rfl | (simp only [List.length_set,f13L]; done),fL wy⟩
  rintro ⟨⟩
  clear ih90; exact ⟨by first | rfl | (simp only [List.length_set]; done),fL wy⟩
 rintro ⟨⟩
 clear ih90; exact ⟨by first | rfl | (simp only [List.length_set]; done),fL wy⟩
theorem qkb : ∀ p r,q1j p = some r → r.length = p.2.2.2.length ∧ O.loop 99 0 ⟨[(0,v_r 0 p.2.2.2),(1,v_i p.1),(2,v_i p.2.1),(3,AV.pv (PV.fn 61)),(8,v_i p.2.2.1)],[(0,Blk.row false 3 (List.map T.q9.enc p.2.2.2))],1⟩ = some (Ex.normal,⟨[],[(0,Blk.row false 3 (List.map T.q9.enc r))],1⟩) := by
 refine q1j.partial_correctness _ ?_
 rintro q1j ih89 ⟨a,b,i,data⟩ r; dsimp only
 apply it <;> intro h1
 ·refine bs fun v3 h2 => ?_
  obtain ⟨f1L,f1⟩ := z7r _ _ h2
  try simp only [List.length_set] at f1L
  try simp only [en.down,f1L] at f1
  try simp only [f1L] at f1
  intro h; obtain ⟨f2L,f2⟩ := ih89 _ _ h; clear h
  try simp only [en.down,f1L] at f2
  try simp only [f1L] at f2
  clear ih89; exact ⟨by first | rfl | (simp only [List.length_set,f2L,f1L]; done),fL wy⟩
 rintro ⟨⟩
 clear ih89; exact ⟨by first | rfl | (simp only [List.length_set]; done),fL wy⟩
theorem qdn {a b r_ r} (h : q5f a b r_ = some r) : r.length = r_.length ∧ O.call 99 [v_r 0 r_,v_i a,v_i b,AV.pv (PV.fn 61)] [(0,Blk.row false 3 (List.map T.q9.enc r_))] = some (AV.tup [],[(0,Blk.row false 3 (List.map T.q9.enc r))]) := by
 revert h; unfold q5f
 refine bs fun v2 h1 => ?_
 obtain ⟨f1L,f1⟩ := qkb _ _ h1
 try simp only [List.length_set] at f1L
 try simp only [en.down,f1L] at f1
 try simp only [f1L] at f1
 rintro ⟨⟩
 exact ⟨by first | rfl | (simp only [List.length_set,f1L]; done),fF wy⟩
theorem qiu : ∀ p r,q3f p = some r → r.2.length = p.2.2.2.2.length ∧ O.loop 80 0 ⟨[(0,v_r 0 p.2.2.2.2),(1,v_i p.1),(2,AV.pv (PV.fn 61)),(6,v_i p.2.1),(7,v_i p.2.2.1),(8,v_i p.2.2.2.1)],[(0,Blk.row false 3 (List.map T.q9.enc p.2.2.2.2))],1⟩ = some (Ex.normal,⟨[(0,v_r 0 r.2),(1,v_i p.1),(2,AV.pv (PV.fn 61)),(6,v_i p.2.1),(7,v_i r.1)],[(0,Blk.row false 3 (List.map T.q9.enc r.2))],1⟩) := by
 refine q3f.partial_correctness _ ?_
 rintro q3f ih87 ⟨n,blockSize,a,b,data⟩ r; dsimp only
 apply it <;> intro h1
 ·refine bs fun v3 h2 => ?_
  obtain ⟨f1L,f1⟩ := qdn h2
  try simp only [List.length_set] at f1L
  try simp only [en.down,f1L] at f1
  try simp only [f1L] at f1
  intro h; obtain ⟨f2L,f2⟩ := ih87 _ _ h; clear h
  try simp only [en.down,f1L] at f2
  try simp only [f1L] at f2
  clear ih87; exact ⟨by first | rfl | (simp only [List.length_set,f2L,f1L]; done),fL ky⟩
 rintro ⟨⟩
 clear ih87; exact ⟨by first | rfl | (simp only [List.length_set]; done),fL ky⟩
theorem qr9 {n blockSize a b data r} (h : q96 n blockSize a b data = some r) : O.loop 80 4 ⟨[(0,v_r 0 data),(1,v_i n),(2,AV.pv (PV.fn 61)),(6,v_i blockSize),(7,v_i a),(8,v_i b)],[(0,Blk.row false 3 (List.map T.q9.enc data))],1⟩ = some (Ex.normal,⟨[(0,v_r 0 data),(1,v_i n),(2,AV.pv (PV.fn 61)),(6,v_i blockSize),(7,v_i a)],[(0,Blk.row false 3 (List.map T.q9.enc data))],1⟩) := by
 revert h; unfold q96
 apply it <;> intro h1
 ·rintro ⟨⟩
 rintro ⟨⟩
 exact fL ky
theorem z4r : ∀ p r,q2o p = some r → O.loop 80 2 ⟨[(0,v_r 0 p.2.2),(1,v_i p.1),(2,AV.pv (PV.fn 61)),(6,v_i p.2.1)],[(0,Blk.row false 3 (List.map T.q9.enc p.2.2))],1⟩ = some (Ex.normal,⟨[],[(0,Blk.row false 3 (List.map T.q9.enc p.2.2))],1⟩) := by
 refine q2o.partial_correctness _ ?_
 rintro q2o ih91 ⟨n,blockSize,data⟩ r; dsimp only
 apply it <;> intro h1
 ·refine bs fun v3 h2 => ?_
  have f1 := qr9 h2
  try simp only [en.down] at f1
  apply it <;> intro h4
  ·rintro ⟨⟩
  intro h; have f2 := ih91 _ _ h; clear h
  try simp only [en.down] at f2
  clear ih91; exact fL ky
 rintro ⟨⟩
 clear ih91; exact fL ky
theorem zf7 {n r_ r} (h : q75 n r_ = some r) : r.length = r_.length ∧ O.call 80 [v_r 0 r_,v_i n,AV.pv (PV.fn 61)] [(0,Blk.row false 3 (List.map T.q9.enc r_))] = some (AV.tup [],[(0,Blk.row false 3 (List.map T.q9.enc r))]) := by
 revert h; unfold q75
 refine bs fun v2 h1 => ?_
 obtain ⟨f1L,f1⟩ := qiu _ _ h1
 try simp only [List.length_set] at f1L
 try simp only [en.down,f1L] at f1
 refine bs fun v4 h3 => ?_
 obtain ⟨f2L,f2⟩ := qdn h3
 try simp only [List.length_set,f1L] at f2L
 try simp only [en.down,f1L,f2L] at f2
 refine bs fun v6 h5 => ?_
 have f3 := z4r _ _ h5
 try simp only [en.down,f1L,f2L] at f3
 try simp only [f1L,f2L] at f1 f2 f3
 rintro ⟨⟩
 exact ⟨by first | rfl | (simp only [List.length_set,f1L,f2L]; done),fF ky⟩
theorem qoi {r_ r} (h : q4q r_ = some r) : r.length = r_.length ∧ O.call 60 [v_r 0 r_,AV.pv (PV.fn 61)] [(0,Blk.row false 3 (List.map T.q9.enc r_))] = some (AV.tup [],[(0,Blk.row false 3 (List.map T.q9.enc r))]) := by
 revert h; unfold q4q
 refine bs fun v2 h1 => ?_
 obtain ⟨f1L,f1⟩ := zf7 h1
 try simp only [List.length_set] at f1L
 try simp only [en.down,f1L] at f1
 try simp only [f1L] at f1
 rintro ⟨⟩
 exact ⟨by first | rfl | (simp only [List.length_set,f1L]; done),fF qar⟩
def q8u : (((Sl T.q9)) ⊕ ((List T.q9))) → AV × Heap
 | .inl y => (v_l 3 T.q9.enc y,[])
 | .inr y => (v_r 0 y,[(0,Blk.row false 3 (List.map T.q9.enc y))])
attribute [local go_sem] q8u
theorem q8q {es r} (h : q1c es = some r) : O.call 37 [v_l 3 T.q9.enc es] [] = some (q8u r) := by
 revert h; unfold q1c
 refine bs fun v2 h1 => ?_
 have f1 := qs2 h1
 try simp only [en.down] at f1
 rcases v2 with y3 | y6
 ·dsimp only
  refine bs fun v5 h4 => ?_
  have f2 := qxh h4
  try simp only [en.down] at f2
  rintro ⟨⟩
  exact fF qbs
 dsimp only
 refine bs fun v8 h7 => ?_
 obtain ⟨f3L,f3⟩ := qoi h7
 try simp only [List.length_set] at f3L
 try simp only [en.down,f3L] at f3
 try simp only [f3L] at f1 f3
 rintro ⟨⟩
 exact fF qbs
theorem z9c {s i j r} (h : q7d s i j = some r) : O.loop 38 0 ⟨[(0,v_l 3 T.q9.enc s),(2,v_i i),(3,v_i j)],[],0⟩ = some (Ex.normal,⟨[],[],0⟩) := by
 revert h; unfold q7d
 apply it <;> intro h1
 ·refine bg T.q9.enc fun x3 h2 f1 f2 f3 => ?_
  refine bg T.q9.enc fun x5 h4 f4 f5 f6 => ?_
  rintro ⟨⟩
 rintro ⟨⟩
 exact fL q4p
theorem q9w {s r} (h : q1a s = some r) : O.call 38 [v_l 3 T.q9.enc s] [] = some (AV.tup [],[]) := by
 revert h; unfold q1a
 refine bs fun v2 h1 => ?_
 have f1 := z9c h1
 try simp only [en.down] at f1
 rintro ⟨⟩
 exact fF q4p
theorem qs7 {x y r} (h : q6p x y = some r) : O.call 102 [AV.pv (PV.int IntKind.u64 x),AV.pv (PV.int IntKind.u64 y)] [] = some (AV.tup [AV.pv (PV.int IntKind.u64 r.1),AV.pv (PV.int IntKind.u64 r.2)],[]) := by
 revert h; unfold q6p
 have f1 : (0 ≤ (32 : Int)) = True := by decide
 rintro ⟨⟩
 exact fF z8z
theorem z2f {x y r} (h : q5v x y = some r) : O.call 81 [AV.pv (PV.int IntKind.u64 x),AV.pv (PV.int IntKind.u64 y)] [] = some (AV.tup [AV.pv (PV.int IntKind.u64 r.1),AV.pv (PV.int IntKind.u64 r.2)],[]) := by
 revert h; unfold q5v
 refine bs fun v2 h1 => ?_
 have f1 := qs7 h1
 try simp only [en.down] at f1
 rintro ⟨⟩
 exact fF qqw
theorem qly {n newslice r} (h : q80 n newslice = some r) : O.loop 62 0 ⟨[(7,v_r 0 newslice),(8,v_i n)],[(0,Blk.row false 2 (List.map (x8 qw) newslice))],1⟩ = some (Ex.normal,⟨[(7,v_r 0 newslice)],[(0,Blk.row false 2 (List.map (x8 qw) newslice))],1⟩) := by
 revert h; unfold q80
 apply it <;> intro h1
 ·rintro ⟨⟩
 rintro ⟨⟩
 exact fL qdq
theorem z5l {x count r} (h : q51 x count = some r) : O.call 62 [v_l 2 (x8 qw) x,v_i count] [] = some (v_r 0 r,[(0,Blk.row false 2 (List.map (x8 qw) r))]) := by
 revert h; unfold q51
 apply it <;> intro h1
 ·rintro ⟨⟩
 refine bs fun v3 h2 => ?_
 have f1 := z2f h2
 try simp only [en.down] at f1
 refine q8t ?_ (fun h4 h5 => ?_)
 ·rintro (⟨h4,h5⟩ | ⟨h4,h5⟩)
  all_goals
  rintro ⟨⟩
 refine gd fun h6 => ?_
 have f2 := qry IntKind.i64 h6
 refine gd fun h7 => ?_
 have f3 : List.replicate (IntKind.i64.wrap v3.2).toNat [PV.int IntKind.i64 (0 : Int),PV.int IntKind.i64 (0 : Int)] = List.map (x8 qw) (List.replicate (IntKind.i64.wrap v3.2).toNat ((0 : Int),(0 : Int))) := by rw [List.map_replicate]; rfl
 have f4 := q70 2 (x8 qw) x.l
 have f5 := qfz (x8 qw) x.l (List.replicate (IntKind.i64.wrap v3.2).toNat ((0 : Int),(0 : Int)))
 have f6 := qgt (x8 qw) x.l (List.replicate (IntKind.i64.wrap v3.2).toNat ((0 : Int),(0 : Int)))
 have f7 := qtx x.l (List.replicate (IntKind.i64.wrap v3.2).toNat ((0 : Int),(0 : Int)))
 refine bs fun v9 h8 => ?_
 have f8 := qly h8
 try simp only [en.down,f7] at f8
 try simp only [f7] at f1 f8
 rintro ⟨⟩
 exact fF qdq
theorem qy3 {depth typed k w w2 r1_ e owners at_ r} (h : q7s depth typed k w w2 r1_ e owners at_ = some r) : O.loop 40 0 ⟨[(0,AV.ptr 0 0),(1,v_i depth),(5,v_b typed),(10,AV.ptr 2 0),(12,v_r 4 owners),(13,AV.ptr 5 0),(14,v_i k)],[(0,Blk.box [v_s w,v_l 2 T.Sel.enc w2,v_r 1 r1_]),(1,b_r 3 T.qb.enc r1_),(2,b_x (T.q9.enc e)),(3,Blk.dead),(4,Blk.row false 2 (List.map (x8 qw) owners)),(5,b_x (T.Span.enc at_))],6⟩ = some (Ex.normal,⟨[(0,AV.ptr 0 0),(1,v_i depth),(5,v_b typed),(10,AV.ptr 2 0),(12,v_r 4 owners)],[(0,Blk.box [v_s w,v_l 2 T.Sel.enc w2,v_r 1 r1_]),(1,b_r 3 T.qb.enc r1_),(2,b_x (T.q9.enc e)),(3,Blk.dead),(4,Blk.row false 2 (List.map (x8 qw) owners)),(5,b_x (T.Span.enc at_))],6⟩) := by
 revert h; unfold q7s
 apply it <;> intro h1
 ·refine bW T.qb.enc 3 fun x3 h2 f1 f2 f3 f4 f5 => ?_
  rintro ⟨⟩
 rintro ⟨⟩
 exact fL q5g
theorem qft {depth typed t92 t93 w w2 t91 e owners b5_ r} (h : q99 depth typed t92 t93 w w2 t91 e owners b5_ = some r) : O.loop 40 2 ⟨[(0,AV.ptr 0 0),(1,v_i depth),(5,v_b typed),(10,AV.ptr 2 0),(12,v_r 4 owners),(91,v_r 1 t91),(92,v_i t92),(93,v_i t93)],[(0,Blk.box [v_s w,v_l 2 T.Sel.enc w2,v_r 1 t91]),(1,b_r 3 T.qb.enc t91),(2,b_x (T.q9.enc e)),(3,Blk.dead),(4,Blk.row false 2 (List.map (x8 qw) owners)),(5,b_x (T.Span.enc b5_))],6⟩ = some (Ex.normal,⟨[(0,AV.ptr 0 0),(10,AV.ptr 2 0)],[(0,Blk.box [v_s w,v_l 2 T.Sel.enc w2,v_r 1 t91]),(1,b_r 3 T.qb.enc t91),(2,b_x (T.q9.enc e)),(3,Blk.dead),(4,Blk.row false 2 (List.map (x8 qw) owners)),(5,b_x (T.Span.enc b5_))],6⟩) := by
 revert h; unfold q99
 apply it <;> intro h1
 ·refine bW T.qb.enc 3 fun x3 h2 f1 f2 f3 f4 f5 => ?_
  refine bw (x8 qw) fun x5 h4 f6 f7 f8 => ?_
  apply it <;> intro h6
  ·rintro ⟨⟩
  rintro ⟨⟩
 rintro ⟨⟩
 exact fL q5g
end Go.Proofs.YtkbgphcebakcnaaGreat
