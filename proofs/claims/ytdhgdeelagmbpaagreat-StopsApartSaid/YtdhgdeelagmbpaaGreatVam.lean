/-
  What the machine's calls come to: the plain functions.
-/
import Derived.Test.YtdhgdeelagmbpaaGreatVaj
import Derived.Test.YtdhgdeelagmbpaaGreatVal
set_option linter.unusedSimpArgs false
set_option linter.unusedVariables false
set_option maxRecDepth 100000
namespace Go.Proofs.YtdhgdeelagmbpaaGreat
open Go Go.Gm
set_option maxHeartbeats 4000000
def qmh (b : (Sl T.qi)) (b_2 : Bytes) (b_3 : Bytes) (r_ : (List T.qb)) (r_4 : (List Bytes)) : (((List T.qc) × (List Int)) ⊕ ((Sl T.qi) × Bytes × Bytes × (List T.qc) × (List Int) × (List Bytes))) → AV × Heap
 | .inl y => (AV.tup [],[(0,Blk.box [v_l 2 T.qi.enc b,v_s b_2,v_s b_3,v_r 2 y.1,v_r 3 y.2,v_r 4 r_4]),(1,Blk.row false 18 (List.map T.qb.enc r_)),(2,b_r 20 T.qc.enc y.1),(3,b_r 1 qf y.2),(4,b_r 1 qg r_4)])
 | .inr y => (AV.tup [],[(0,Blk.box [v_l 2 T.qi.enc y.1,v_s y.2.1,v_s y.2.2.1,v_r 2 y.2.2.2.1,v_r 3 y.2.2.2.2.1,v_r 4 y.2.2.2.2.2]),(1,Blk.dead),(2,b_r 20 T.qc.enc y.2.2.2.1),(3,b_r 1 qf y.2.2.2.2.1),(4,b_r 1 qg y.2.2.2.2.2)])
attribute [local go_sem] qmh
theorem qgj : (∀ p r,q0w p = some r → O.call 41 [AV.ptr 0 0,v_l 18 T.qb.enc p.1,v_i p.2.1] [(0,Blk.box [v_l 2 T.qi.enc p.2.2.1,v_s p.2.2.2.1,v_s p.2.2.2.2.1,v_r 1 p.2.2.2.2.2.1,v_r 2 p.2.2.2.2.2.2.1,v_r 3 p.2.2.2.2.2.2.2]),(1,b_r 20 T.qc.enc p.2.2.2.2.2.1),(2,b_r 1 qf p.2.2.2.2.2.2.1),(3,b_r 1 qg p.2.2.2.2.2.2.2)] = some (AV.tup [],[(0,Blk.box [v_l 2 T.qi.enc r.1,v_s r.2.1,v_s r.2.2.1,v_r 1 r.2.2.2.1,v_r 2 r.2.2.2.2.1,v_r 3 r.2.2.2.2.2]),(1,b_r 20 T.qc.enc r.2.2.2.1),(2,b_r 1 qf r.2.2.2.2.1),(3,b_r 1 qg r.2.2.2.2.2)])) ∧ (∀ p r,nu p = some r → O.loop 41 0 ⟨[(0,AV.ptr 0 0),(1,v_l 18 T.qb.enc p.1),(2,v_i p.2.1),(6,v_i p.2.2.1)],[(0,Blk.box [v_l 2 T.qi.enc p.2.2.2.1,v_s p.2.2.2.2.1,v_s p.2.2.2.2.2.1,v_r 1 p.2.2.2.2.2.2.1,v_r 2 p.2.2.2.2.2.2.2.1,v_r 3 p.2.2.2.2.2.2.2.2]),(1,b_r 20 T.qc.enc p.2.2.2.2.2.2.1),(2,b_r 1 qf p.2.2.2.2.2.2.2.1),(3,b_r 1 qg p.2.2.2.2.2.2.2.2)],4⟩ = some (Ex.normal,⟨[],[(0,Blk.box [v_l 2 T.qi.enc r.1,v_s r.2.1,v_s r.2.2.1,v_r 1 r.2.2.2.1,v_r 2 r.2.2.2.2.1,v_r 3 r.2.2.2.2.2]),(1,b_r 20 T.qc.enc r.2.2.2.1),(2,b_r 1 qf r.2.2.2.2.1),(3,b_r 1 qg r.2.2.2.2.2)],4⟩)) ∧ (∀ p r,q7v p = some r → O.call 62 [AV.ptr 0 0,v_g (T.qb.enc p.1),v_i p.2.1,v_b p.2.2.1] [(0,Blk.box [v_l 2 T.qi.enc p.2.2.2.1,v_s p.2.2.2.2.1,v_s p.2.2.2.2.2.1,v_r 1 p.2.2.2.2.2.2.1,v_r 2 p.2.2.2.2.2.2.2.1,v_r 3 p.2.2.2.2.2.2.2.2]),(1,b_r 20 T.qc.enc p.2.2.2.2.2.2.1),(2,b_r 1 qf p.2.2.2.2.2.2.2.1),(3,b_r 1 qg p.2.2.2.2.2.2.2.2)] = some (AV.tup [],[(0,Blk.box [v_l 2 T.qi.enc r.1,v_s r.2.1,v_s r.2.2.1,v_r 1 r.2.2.2.1,v_r 2 r.2.2.2.2.1,v_r 3 r.2.2.2.2.2]),(1,b_r 20 T.qc.enc r.2.2.2.1),(2,b_r 1 qf r.2.2.2.2.1),(3,b_r 1 qg r.2.2.2.2.2)])) ∧ (∀ p r,q8b p = some r → O.call 62 [AV.ptr 0 0,AV.agg [v_i p.1,v_s p.2.1,v_i p.2.2.1,v_b p.2.2.2.1,v_b p.2.2.2.2.1,v_i p.2.2.2.2.2.1,v_s p.2.2.2.2.2.2.1,v_b p.2.2.2.2.2.2.2.1,v_l 2 T.Row.enc p.2.2.2.2.2.2.2.2.1,v_i p.2.2.2.2.2.2.2.2.2.1,v_i p.2.2.2.2.2.2.2.2.2.2.1,v_b p.2.2.2.2.2.2.2.2.2.2.2.1,v_l 8 T.Rx.enc p.2.2.2.2.2.2.2.2.2.2.2.2.1,v_l 5 T.Fmt.enc p.2.2.2.2.2.2.2.2.2.2.2.2.2.1,v_b p.2.2.2.2.2.2.2.2.2.2.2.2.2.2.1,v_b p.2.2.2.2.2.2.2.2.2.2.2.2.2.2.2.1,v_l 1 qg p.2.2.2.2.2.2.2.2.2.2.2.2.2.2.2.2.1,v_r 1 p.2.2.2.2.2.2.2.2.2.2.2.2.2.2.2.2.2.2.2.2.2.2.1],v_i p.2.2.2.2.2.2.2.2.2.2.2.2.2.2.2.2.2.1,v_b p.2.2.2.2.2.2.2.2.2.2.2.2.2.2.2.2.2.2.1] [(0,Blk.box [v_l 2 T.qi.enc p.2.2.2.2.2.2.2.2.2.2.2.2.2.2.2.2.2.2.2.1,v_s p.2.2.2.2.2.2.2.2.2.2.2.2.2.2.2.2.2.2.2.2.1,v_s p.2.2.2.2.2.2.2.2.2.2.2.2.2.2.2.2.2.2.2.2.2.1,v_r 2 p.2.2.2.2.2.2.2.2.2.2.2.2.2.2.2.2.2.2.2.2.2.2.2.1,v_r 3 p.2.2.2.2.2.2.2.2.2.2.2.2.2.2.2.2.2.2.2.2.2.2.2.2.1,v_r 4 p.2.2.2.2.2.2.2.2.2.2.2.2.2.2.2.2.2.2.2.2.2.2.2.2.2]),(1,Blk.row false 18 (List.map T.qb.enc p.2.2.2.2.2.2.2.2.2.2.2.2.2.2.2.2.2.2.2.2.2.2.1)),(2,b_r 20 T.qc.enc p.2.2.2.2.2.2.2.2.2.2.2.2.2.2.2.2.2.2.2.2.2.2.2.1),(3,b_r 1 qf p.2.2.2.2.2.2.2.2.2.2.2.2.2.2.2.2.2.2.2.2.2.2.2.2.1),(4,b_r 1 qg p.2.2.2.2.2.2.2.2.2.2.2.2.2.2.2.2.2.2.2.2.2.2.2.2.2)] = some (qmh p.2.2.2.2.2.2.2.2.2.2.2.2.2.2.2.2.2.2.2.1 p.2.2.2.2.2.2.2.2.2.2.2.2.2.2.2.2.2.2.2.2.1 p.2.2.2.2.2.2.2.2.2.2.2.2.2.2.2.2.2.2.2.2.2.1 p.2.2.2.2.2.2.2.2.2.2.2.2.2.2.2.2.2.2.2.2.2.2.1 p.2.2.2.2.2.2.2.2.2.2.2.2.2.2.2.2.2.2.2.2.2.2.2.2.2 r)) := by
 refine q0w.mutual_partial_correctness _ _ _ _ ?_ ?_ ?_ ?_
 ·rintro nu ih101 ⟨l,up,b,b_2,b_3,r_,r_2,r_3⟩ r; dsimp only
  refine bs fun v2 h1 => ?_
  have f1 := ih101 _ _ h1
  try simp only [en.down] at f1
  rintro ⟨⟩
  clear ih101; exact fF yn
 ·rintro q0w nu q7v q8b ih100 ih101 ih111 ih107 ⟨l,up,i,w,w2,w3,r1_,r2_,r3_⟩ r; dsimp only
  apply it <;> intro h1
  ·refine bg T.qb.enc fun x3 h2 f1 f2 f3 => ?_
   apply it <;> intro h4
   ·refine bs fun v6 h5 => ?_
    have f4 := qdu h5
    try simp only [en.down] at f4
    refine bs fun v8 h7 => ?_
    have f5 := q0m h7
    try simp only [en.down] at f5
    intro h; have f6 := ih101 _ _ h; clear h
    try simp only [en.down] at f6
    clear ih100 ih101 ih107 ih111; exact fL yn
   apply it <;> intro h9
   ·refine bs fun v11 h10 => ?_
    have f7 := qlj h10
    try simp only [en.down] at f7
    apply it <;> intro h12
    ·refine bs fun v14 h13 => ?_
     have f8 := q0m h13
     try simp only [en.down] at f8
     try simp only [h12] at f7 f8
     intro h; have f9 := ih101 _ _ h; clear h
     try simp only [en.down] at f9
     try simp only [h12] at f9
     clear ih100 ih101 ih107 ih111; exact fL yn
    apply it <;> intro h15
    ·refine bs fun v17 h16 => ?_
     have f10 := ih100 _ _ h16
     try simp only [en.down] at f10
     try simp only [h12,h15] at f7 f10
     intro h; have f11 := ih101 _ _ h; clear h
     try simp only [en.down] at f11
     try simp only [h12,h15] at f11
     clear ih100 ih101 ih107 ih111; exact fL yn
    refine bs fun v19 h18 => ?_
    have f12 := qnh h18
    try simp only [en.down] at f12
    refine xy ?_ (fun h20 h23 => ?_)
    ·rintro (⟨h20,h23⟩ | ⟨h20,h23⟩)
     all_goals
     refine bs fun v22 h21 => ?_
     have f13 := q0m h21
     try simp only [en.down] at f13
     try simp only [h12,h15,h20,h23] at f7 f12 f13
     intro h; have f14 := ih101 _ _ h; clear h
     try simp only [en.down] at f14
     try simp only [h12,h15,h20,h23] at f14
     clear ih100 ih101 ih107 ih111; exact fL yn
    refine bs fun v27 h26 => ?_
    have f15 := qng h26
    try simp only [en.down] at f15
    refine bs fun v29 h28 => ?_
    have f16 := ih107 _ _ h28
    try simp only [en.down] at f16
    rcases v29 with y30 | y31
    ·dsimp only
     try simp only [h12,h15,h20,h23] at f7 f12 f15 f16
     intro h; have f17 := ih101 _ _ h; clear h
     try simp only [en.down] at f17
     try simp only [h12,h15,h20,h23] at f17
     clear ih100 ih101 ih107 ih111; exact fL yn
    dsimp only
    try simp only [h12,h15,h20,h23] at f7 f12 f15 f16
    intro h; have f18 := ih101 _ _ h; clear h
    try simp only [en.down] at f18
    try simp only [h12,h15,h20,h23] at f18
    clear ih100 ih101 ih107 ih111; exact fL yn
   refine bs fun v33 h32 => ?_
   have f19 := ih111 _ _ h32
   try simp only [en.down] at f19
   intro h; have f20 := ih101 _ _ h; clear h
   try simp only [en.down] at f20
   clear ih100 ih101 ih107 ih111; exact fL yn
  rintro ⟨⟩
  clear ih100 ih101 ih107 ih111; exact fL yn
 ·rintro q0w ih100 ⟨x,up,plain,b,b_2,b_3,r_,r_2,r_3⟩ r; dsimp only
  refine xy ?_ (fun h1 h21 => ?_)
  ·rintro (⟨h1,h21⟩ | ⟨h1,h21⟩)
   all_goals
   refine bs fun v3 h2 => ?_
   have f1 := q9g h2
   try simp only [en.down] at f1
   refine bs fun v5 h4 => ?_
   have f2 := qk9 _ _ h4
   try simp only [en.down] at f2
   refine bs fun v7 h6 => ?_
   have f3 := q0m h6
   try simp only [en.down] at f3
   apply it <;> intro h8
   ·try simp only [h1] at f1 f2 f3
    rintro ⟨⟩
    clear ih100; exact fF q0j
   refine gd fun h9 => ?_
   have f4 := rG 1 qf r_2
   apply it <;> intro h10
   ·refine bg T.qb.enc fun x12 h11 f5 f6 f7 => ?_
    have f8 : List.map qf r_2 ++ [[PV.int IntKind.i64 x.n]] = List.map qf (r_2 ++ [x.n]) := by simp only [List.map_append,List.map_cons,List.map_nil,za,z8,zb,qf] <;> rfl
    refine bs fun v14 h13 => ?_
    have f9 := q0m h13
    try simp only [en.down] at f9
    refine bW T.qc.enc 20 fun x16 h15 f10 f11 f12 f13 f14 => ?_
    have f15 := map_set T.qc.enc v14 ((r_.length : Int).toNat) (T.qc.mk x16.kind x16.text x16.n x16.def_ x16.first x16.turned x16.form x16.opts x16.up (v14.length : Int))
    try simp only [en.down] at f15
    try simp only [h1,h10,f13,f14] at f1 f2 f3 f9 f15
    rintro ⟨⟩
    clear ih100; exact fF q0j
   have f16 : List.map qf r_2 ++ [[PV.int IntKind.i64 x.n]] = List.map qf (r_2 ++ [x.n]) := by simp only [List.map_append,List.map_cons,List.map_nil,za,z8,zb,qf] <;> rfl
   refine bs fun v18 h17 => ?_
   have f17 := ih100 _ _ h17
   try simp only [en.down] at f17
   refine bW T.qc.enc 20 fun x20 h19 f18 f19 f20 f21 f22 => ?_
   have f23 := map_set T.qc.enc v18.2.2.2.1 ((r_.length : Int).toNat) (T.qc.mk x20.kind x20.text x20.n x20.def_ x20.first x20.turned x20.form x20.opts x20.up (v18.2.2.2.1.length : Int))
   try simp only [en.down] at f23
   try simp only [h1,h10,f21,f22] at f1 f2 f3 f17 f23
   rintro ⟨⟩
   clear ih100; exact fF q0j
  refine bs fun v42 h41 => ?_
  have f24 := qk9 _ _ h41
  try simp only [en.down] at f24
  refine bs fun v44 h43 => ?_
  have f25 := q0m h43
  try simp only [en.down] at f25
  try simp only [h1] at f24 f25
  rintro ⟨⟩
  clear ih100; exact fF q0j
 ·rintro q0w ih100 ⟨x,x_2,x_3,x_4,x_5,x_6,x_7,x_8,x_9,x_10,x_11,x_12,x_13,x_14,x_15,x_16,x_17,up,plain,b,b_2,b_3,r_,r_2,r_3,r_4⟩ r; dsimp only
  refine xy ?_ (fun h1 h21 => ?_)
  ·rintro (⟨h1,h21⟩ | ⟨h1,h21⟩)
   all_goals
   refine bs fun v3 h2 => ?_
   have f1 := q9g h2
   try simp only [en.down] at f1
   refine bs fun v5 h4 => ?_
   have f2 := qkt _ _ h4
   try simp only [en.down] at f2
   refine bs fun v7 h6 => ?_
   have f3 := q0m h6
   try simp only [en.down] at f3
   apply it <;> intro h8
   ·try simp only [h1] at f1 f2 f3
    rintro ⟨⟩
    clear ih100; exact fF q0j
   refine gd fun h9 => ?_
   have f4 := rG 1 qf r_3
   apply it <;> intro h10
   ·refine bw T.qb.enc fun x12 h11 f5 f6 f7 => ?_
    have f8 : List.map qf r_3 ++ [[PV.int IntKind.i64 x_3]] = List.map qf (r_3 ++ [x_3]) := by simp only [List.map_append,List.map_cons,List.map_nil,za,z8,zb,qf] <;> rfl
    refine bs fun v14 h13 => ?_
    have f9 := q0m h13
    try simp only [en.down] at f9
    refine bW T.qc.enc 20 fun x16 h15 f10 f11 f12 f13 f14 => ?_
    have f15 := map_set T.qc.enc v14 ((r_2.length : Int).toNat) (T.qc.mk x16.kind x16.text x16.n x16.def_ x16.first x16.turned x16.form x16.opts x16.up (v14.length : Int))
    try simp only [en.down] at f15
    try simp only [h1,h10,f13,f14] at f1 f2 f3 f9 f15
    rintro ⟨⟩
    clear ih100; exact fF q0j
   have f16 : List.map qf r_3 ++ [[PV.int IntKind.i64 x_3]] = List.map qf (r_3 ++ [x_3]) := by simp only [List.map_append,List.map_cons,List.map_nil,za,z8,zb,qf] <;> rfl
   refine bs fun v18 h17 => ?_
   have f17 := ih100 _ _ h17
   try simp only [en.down] at f17
   refine bW T.qc.enc 20 fun x20 h19 f18 f19 f20 f21 f22 => ?_
   have f23 := map_set T.qc.enc v18.2.2.2.1 ((r_2.length : Int).toNat) (T.qc.mk x20.kind x20.text x20.n x20.def_ x20.first x20.turned x20.form x20.opts x20.up (v18.2.2.2.1.length : Int))
   try simp only [en.down] at f23
   try simp only [h1,h10,f21,f22] at f1 f2 f3 f17 f23
   rintro ⟨⟩
   clear ih100; exact fF q0j
  refine bs fun v42 h41 => ?_
  have f24 := qkt _ _ h41
  try simp only [en.down] at f24
  refine bs fun v44 h43 => ?_
  have f25 := q0m h43
  try simp only [en.down] at f25
  try simp only [h1] at f24 f25
  rintro ⟨⟩
  clear ih100; exact fF q0j
theorem qsd : ∀ p r,gu p = some r → O.loop 41 0 ⟨[(0,AV.ptr 0 0),(1,v_l 18 T.qb.enc p.1),(2,v_i p.2.1),(6,v_i p.2.2.1)],[(0,Blk.box [v_l 2 T.qi.enc p.2.2.2.1,v_s p.2.2.2.2.1,v_s p.2.2.2.2.2.1,v_r 1 p.2.2.2.2.2.2.1,v_r 2 p.2.2.2.2.2.2.2.1,v_r 3 p.2.2.2.2.2.2.2.2]),(1,b_r 20 T.qc.enc p.2.2.2.2.2.2.1),(2,b_r 1 qf p.2.2.2.2.2.2.2.1),(3,b_r 1 qg p.2.2.2.2.2.2.2.2)],4⟩ = some (Ex.normal,⟨[],[(0,Blk.box [v_l 2 T.qi.enc r.1,v_s r.2.1,v_s r.2.2.1,v_r 1 r.2.2.2.1,v_r 2 r.2.2.2.2.1,v_r 3 r.2.2.2.2.2]),(1,b_r 20 T.qc.enc r.2.2.2.1),(2,b_r 1 qf r.2.2.2.2.1),(3,b_r 1 qg r.2.2.2.2.2)],4⟩) := by
 refine gu.partial_correctness _ ?_
 rintro gu ih94 ⟨l,up,i,w,w2,w3,r1_,r2_,r3_⟩ r; dsimp only
 apply it <;> intro h1
 ·refine bg T.qb.enc fun x3 h2 f1 f2 f3 => ?_
  apply it <;> intro h4
  ·refine bs fun v6 h5 => ?_
   have f4 := qdu h5
   try simp only [en.down] at f4
   refine bs fun v8 h7 => ?_
   have f5 := q0m h7
   try simp only [en.down] at f5
   intro h; have f6 := ih94 _ _ h; clear h
   try simp only [en.down] at f6
   clear ih94; exact fL yn
  apply it <;> intro h9
  ·refine bs fun v11 h10 => ?_
   have f7 := qlj h10
   try simp only [en.down] at f7
   apply it <;> intro h12
   ·refine bs fun v14 h13 => ?_
    have f8 := q0m h13
    try simp only [en.down] at f8
    try simp only [h12] at f7 f8
    intro h; have f9 := ih94 _ _ h; clear h
    try simp only [en.down] at f9
    try simp only [h12] at f9
    clear ih94; exact fL yn
   apply it <;> intro h15
   ·refine bs fun v17 h16 => ?_
    have f10 := qgj.1 _ _ h16
    try simp only [en.down] at f10
    try simp only [h12,h15] at f7 f10
    intro h; have f11 := ih94 _ _ h; clear h
    try simp only [en.down] at f11
    try simp only [h12,h15] at f11
    clear ih94; exact fL yn
   refine bs fun v19 h18 => ?_
   have f12 := qnh h18
   try simp only [en.down] at f12
   refine xy ?_ (fun h20 h23 => ?_)
   ·rintro (⟨h20,h23⟩ | ⟨h20,h23⟩)
    all_goals
    refine bs fun v22 h21 => ?_
    have f13 := q0m h21
    try simp only [en.down] at f13
    try simp only [h12,h15,h20,h23] at f7 f12 f13
    intro h; have f14 := ih94 _ _ h; clear h
    try simp only [en.down] at f14
    try simp only [h12,h15,h20,h23] at f14
    clear ih94; exact fL yn
   refine bs fun v27 h26 => ?_
   have f15 := qng h26
   try simp only [en.down] at f15
   refine bs fun v29 h28 => ?_
   have f16 := qgj.2.2.2 _ _ h28
   try simp only [en.down] at f16
   rcases v29 with y30 | y31
   ·dsimp only
    try simp only [h12,h15,h20,h23] at f7 f12 f15 f16
    intro h; have f17 := ih94 _ _ h; clear h
    try simp only [en.down] at f17
    try simp only [h12,h15,h20,h23] at f17
    clear ih94; exact fL yn
   dsimp only
   try simp only [h12,h15,h20,h23] at f7 f12 f15 f16
   intro h; have f18 := ih94 _ _ h; clear h
   try simp only [en.down] at f18
   try simp only [h12,h15,h20,h23] at f18
   clear ih94; exact fL yn
  refine bs fun v33 h32 => ?_
  have f19 := qgj.2.2.1 _ _ h32
  try simp only [en.down] at f19
  intro h; have f20 := ih94 _ _ h; clear h
  try simp only [en.down] at f20
  clear ih94; exact fL yn
 rintro ⟨⟩
 clear ih94; exact fL yn
theorem zaj {l up b b_2 b_3 r} (h : qb2 l up b b_2 b_3 = some r) : O.call 41 [AV.ptr 0 0,v_l 18 T.qb.enc l,v_i up] [(0,Blk.box [v_l 2 T.qi.enc b,v_s b_2,v_s b_3,AV.pv (PV.sl true 0 []),AV.pv (PV.sl true 0 []),AV.pv (PV.sl true 0 [])])] = some (AV.tup [],[(0,Blk.box [v_l 2 T.qi.enc r.1,v_s r.2.1,v_s r.2.2.1,v_r 1 r.2.2.2.1,v_r 2 r.2.2.2.2.1,v_r 3 r.2.2.2.2.2]),(1,b_r 20 T.qc.enc r.2.2.2.1),(2,b_r 1 qf r.2.2.2.2.1),(3,b_r 1 qg r.2.2.2.2.2)]) := by
 revert h; unfold qb2
 refine bs fun v2 h1 => ?_
 have f1 := qsd _ _ h1
 try simp only [en.down] at f1
 rintro ⟨⟩
 exact fF yn
theorem z8m : ∀ p r,q5j p = some r → O.loop 42 0 ⟨[(0,AV.ptr 0 0),(2,v_i p.1),(3,v_i p.2.1)],[(0,Blk.box [v_l 2 T.qi.enc p.2.2.1,v_s p.2.2.2.1,v_s p.2.2.2.2.1,v_r 1 p.2.2.2.2.2.1,v_r 2 p.2.2.2.2.2.2.1,v_r 3 p.2.2.2.2.2.2.2]),(1,b_r 20 T.qc.enc p.2.2.2.2.2.1),(2,b_r 1 qf p.2.2.2.2.2.2.1),(3,b_r 1 qg p.2.2.2.2.2.2.2)],4⟩ = some (Ex.normal,⟨[(0,AV.ptr 0 0),(2,v_i r)],[(0,Blk.box [v_l 2 T.qi.enc p.2.2.1,v_s p.2.2.2.1,v_s p.2.2.2.2.1,v_r 1 p.2.2.2.2.2.1,v_r 2 p.2.2.2.2.2.2.1,v_r 3 p.2.2.2.2.2.2.2]),(1,b_r 20 T.qc.enc p.2.2.2.2.2.1),(2,b_r 1 qf p.2.2.2.2.2.2.1),(3,b_r 1 qg p.2.2.2.2.2.2.2)],4⟩) := by
 refine q5j.partial_correctness _ ?_
 rintro q5j ih114 ⟨most,i,w,w2,w3,r1_,r2_,r3_⟩ r; dsimp only
 apply it <;> intro h1
 ·refine bW T.qc.enc 20 fun x3 h2 f1 f2 f3 f4 f5 => ?_
  intro h; have f6 := ih114 _ _ h; clear h
  try simp only [en.down,f4,f5] at f6
  try simp only [f4,f5] at f6
  clear ih114; exact fL q00
 rintro ⟨⟩
 clear ih114; exact fL q00
theorem qus : ∀ p r,q3l p = some r → O.loop 42 2 ⟨[(0,AV.ptr 0 0),(2,v_i p.1),(4,v_i p.2.1)],[(0,Blk.box [v_l 2 T.qi.enc p.2.2.1,v_s p.2.2.2.1,v_s p.2.2.2.2.1,v_r 1 p.2.2.2.2.2.1,v_r 2 p.2.2.2.2.2.2.1,v_r 3 p.2.2.2.2.2.2.2]),(1,b_r 20 T.qc.enc p.2.2.2.2.2.1),(2,b_r 1 qf p.2.2.2.2.2.2.1),(3,b_r 1 qg p.2.2.2.2.2.2.2)],4⟩ = some (Ex.normal,⟨[(0,AV.ptr 0 0)],[(0,Blk.box [v_l 2 T.qi.enc p.2.2.1,v_s p.2.2.2.1,v_s p.2.2.2.2.1,v_r 1 r,v_r 2 p.2.2.2.2.2.2.1,v_r 3 p.2.2.2.2.2.2.2]),(1,b_r 20 T.qc.enc r),(2,b_r 1 qf p.2.2.2.2.2.2.1),(3,b_r 1 qg p.2.2.2.2.2.2.2)],4⟩) := by
 refine q3l.partial_correctness _ ?_
 rintro q3l ih115 ⟨most,i,w,w2,w3,r1_,r2_,r3_⟩ r; dsimp only
 apply it <;> intro h1
 ·refine bW T.qc.enc 20 fun x3 h2 f1 f2 f3 f4 f5 => ?_
  apply it <;> intro h4
  ·have f6 := map_set T.qc.enc r1_ i.toNat (T.qc.mk x3.kind x3.text (IntKind.i64.wrap (most - x3.n)) x3.def_ x3.first x3.turned x3.form x3.opts x3.up x3.end_)
   try simp only [en.down] at f6
   try simp only [f4,f5] at f6
   intro h; have f7 := ih115 _ _ h; clear h
   try simp only [en.down,f4,f5] at f7
   try simp only [f4,f5] at f7
   clear ih115; exact fL q00
  intro h; have f8 := ih115 _ _ h; clear h
  try simp only [en.down,f4,f5] at f8
  try simp only [f4,f5] at f8
  clear ih115; exact fL q00
 rintro ⟨⟩
 clear ih115; exact fL q00
def qjj (w : (Sl T.qi)) (w2 : Bytes) (w3 : Bytes) (r1_ : (List T.qc)) (r2_ : (List Int)) (r3_ : (List Bytes)) : ((Int) ⊕ (Unit)) → Ex × St
 | .inl y => (Ex.ret,⟨[(4,v_i y)],[(0,Blk.box [v_l 2 T.qi.enc w,v_s w2,v_s w3,v_r 1 r1_,v_r 2 r2_,v_r 3 r3_]),(1,b_r 20 T.qc.enc r1_),(2,b_r 1 qf r2_),(3,b_r 1 qg r3_)],4⟩)
 | .inr y => (Ex.normal,⟨[(4,AV.undef)],[(0,Blk.box [v_l 2 T.qi.enc w,v_s w2,v_s w3,v_r 1 r1_,v_r 2 r2_,v_r 3 r3_]),(1,b_r 20 T.qc.enc r1_),(2,b_r 1 qf r2_),(3,b_r 1 qg r3_)],4⟩)
attribute [local go_sem] qjj
theorem z7r : ∀ p r,q10 p = some r → O.loop 64 0 ⟨[(0,AV.ptr 0 0),(1,v_i p.1),(5,v_i p.2.1)],[(0,Blk.box [v_l 2 T.qi.enc p.2.2.1,v_s p.2.2.2.1,v_s p.2.2.2.2.1,v_r 1 p.2.2.2.2.2.1,v_r 2 p.2.2.2.2.2.2.1,v_r 3 p.2.2.2.2.2.2.2]),(1,b_r 20 T.qc.enc p.2.2.2.2.2.1),(2,b_r 1 qf p.2.2.2.2.2.2.1),(3,b_r 1 qg p.2.2.2.2.2.2.2)],4⟩ = some (qjj p.2.2.1 p.2.2.2.1 p.2.2.2.2.1 p.2.2.2.2.2.1 p.2.2.2.2.2.2.1 p.2.2.2.2.2.2.2 r) := by
 refine q10.partial_correctness _ ?_
 rintro q10 ih118 ⟨n,i,w,w2,w3,r1_,r2_,r3_⟩ r; dsimp only
 apply it <;> intro h1
 ·refine bW T.qc.enc 20 fun x3 h2 f1 f2 f3 f4 f5 => ?_
  apply it <;> intro h4
  ·apply it <;> intro h5
   ·apply it <;> intro h6
    ·rintro ⟨⟩
     clear ih118; exact fL q6e
    intro h; have f6 := ih118 _ _ h; clear h
    try simp only [en.down,f4,f5] at f6
    try simp only [h5,f4,f5] at f6
    clear ih118; exact fL q6e
   intro h; have f7 := ih118 _ _ h; clear h
   try simp only [en.down,f4,f5] at f7
   try simp only [h5,f4,f5] at f7
   clear ih118; exact fL q6e
  intro h; have f8 := ih118 _ _ h; clear h
  try simp only [en.down,f4,f5] at f8
  try simp only [f4,f5] at f8
  clear ih118; exact fL q6e
 rintro ⟨⟩
 clear ih118; exact fL q6e
theorem qgp {n b b_2 b_3 r_ r_2 r_3 r} (h : q78 n b b_2 b_3 r_ r_2 r_3 = some r) : O.call 64 [AV.ptr 0 0,v_i n] [(0,Blk.box [v_l 2 T.qi.enc b,v_s b_2,v_s b_3,v_r 1 r_,v_r 2 r_2,v_r 3 r_3]),(1,b_r 20 T.qc.enc r_),(2,b_r 1 qf r_2),(3,b_r 1 qg r_3)] = some (v_i r,[(0,Blk.box [v_l 2 T.qi.enc b,v_s b_2,v_s b_3,v_r 1 r_,v_r 2 r_2,v_r 3 r_3]),(1,b_r 20 T.qc.enc r_),(2,b_r 1 qf r_2),(3,b_r 1 qg r_3)]) := by
 revert h; unfold q78
 refine bs fun v2 h1 => ?_
 have f1 := z7r _ _ h1
 try simp only [en.down] at f1
 rcases v2 with y3 | y4
 ·dsimp only
  rintro ⟨⟩
  exact fF q6e
 dsimp only
 rintro ⟨⟩
 exact fF q6e
theorem z6q : ∀ p r,bn p = some r → O.loop 42 4 ⟨[(0,AV.ptr 0 0),(5,v_r 4 p.2.2.2.2.2.2.2),(6,v_i p.1)],[(0,Blk.box [v_l 2 T.qi.enc p.2.1,v_s p.2.2.1,v_s p.2.2.2.1,v_r 1 p.2.2.2.2.1,v_r 2 p.2.2.2.2.2.1,v_r 3 p.2.2.2.2.2.2.1]),(1,b_r 20 T.qc.enc p.2.2.2.2.1),(2,b_r 1 qf p.2.2.2.2.2.1),(3,b_r 1 qg p.2.2.2.2.2.2.1),(4,b_r 1 qf p.2.2.2.2.2.2.2)],5⟩ = some (Ex.normal,⟨[],[(0,Blk.box [v_l 2 T.qi.enc p.2.1,v_s p.2.2.1,v_s p.2.2.2.1,v_r 1 r.1,v_r 2 p.2.2.2.2.2.1,v_r 3 p.2.2.2.2.2.2.1]),(1,b_r 20 T.qc.enc r.1),(2,b_r 1 qf p.2.2.2.2.2.1),(3,b_r 1 qg p.2.2.2.2.2.2.1),(4,b_r 1 qf r.2)],5⟩) := by
 refine bn.partial_correctness _ ?_
 rintro bn ih116 ⟨i,w,w2,w3,r1_,r2_,r3_,told⟩ r; dsimp only
 apply it <;> intro h1
 ·refine bW T.qc.enc 20 fun x3 h2 f1 f2 f3 f4 f5 => ?_
  apply it <;> intro h4
  ·apply it <;> intro h5
   ·have f6 := map_set T.qc.enc r1_ i.toNat (T.qc.mk x3.kind x3.text x3.n x3.def_ true x3.turned x3.form x3.opts x3.up x3.end_)
    try simp only [en.down] at f6
    refine gd fun h6 => ?_
    have f7 := rG 1 qf told
    have f8 : List.map qf told ++ [[PV.int IntKind.i64 x3.n]] = List.map qf (told ++ [x3.n]) := by simp only [List.map_append,List.map_cons,List.map_nil,za,z8,zb,qf] <;> rfl
    try simp only [h5,f4,f5] at f6
    intro h; have f9 := ih116 _ _ h; clear h
    try simp only [en.down,f4,f5] at f9
    try simp only [h5,f4,f5] at f9
    clear ih116; exact fL q00
   apply it <;> intro h7
   ·refine bs fun v9 h8 => ?_
    have f10 := qgp h8
    try simp only [en.down,f4,f5] at f10
    apply it <;> intro h10
    ·refine bs fun v12 h11 => ?_
     have f11 := q9g h11
     try simp only [en.down,f4,f5] at f11
     apply it <;> intro h13
     ·have f12 := map_set T.qc.enc r1_ i.toNat (T.qc.mk x3.kind x3.text x3.n x3.def_ true x3.turned x3.form x3.opts x3.up x3.end_)
      try simp only [en.down] at f12
      refine gd fun h14 => ?_
      have f13 := rG 1 qf told
      have f14 : List.map qf told ++ [[PV.int IntKind.i64 x3.n]] = List.map qf (told ++ [x3.n]) := by simp only [List.map_append,List.map_cons,List.map_nil,za,z8,zb,qf] <;> rfl
      try simp only [h5,f4,f5] at f10 f11 f12
      intro h; have f15 := ih116 _ _ h; clear h
      try simp only [en.down,f4,f5] at f15
      try simp only [h5,f4,f5] at f15
      clear ih116; exact fL q00
     try simp only [h5,f4,f5] at f10 f11
     intro h; have f16 := ih116 _ _ h; clear h
     try simp only [en.down,f4,f5] at f16
     try simp only [h5,f4,f5] at f16
     clear ih116; exact fL q00
    try simp only [h5,f4,f5] at f10
    intro h; have f17 := ih116 _ _ h; clear h
    try simp only [en.down,f4,f5] at f17
    try simp only [h5,f4,f5] at f17
    clear ih116; exact fL q00
   intro h; have f18 := ih116 _ _ h; clear h
   try simp only [en.down,f4,f5] at f18
   try simp only [h5,f4,f5] at f18
   clear ih116; exact fL q00
  intro h; have f19 := ih116 _ _ h; clear h
  try simp only [en.down,f4,f5] at f19
  try simp only [f4,f5] at f19
  clear ih116; exact fL q00
 rintro ⟨⟩
 clear ih116; exact fL q00
theorem zil {b b_2 b_3 r_ r_2 r_3 r} (h : qa7 b b_2 b_3 r_ r_2 r_3 = some r) : O.call 42 [AV.ptr 0 0] [(0,Blk.box [v_l 2 T.qi.enc b,v_s b_2,v_s b_3,v_r 1 r_,v_r 2 r_2,v_r 3 r_3]),(1,b_r 20 T.qc.enc r_),(2,b_r 1 qf r_2),(3,b_r 1 qg r_3)] = some (AV.tup [],[(0,Blk.box [v_l 2 T.qi.enc b,v_s b_2,v_s b_3,v_r 1 r,v_r 2 r_2,v_r 3 r_3]),(1,b_r 20 T.qc.enc r),(2,b_r 1 qf r_2),(3,b_r 1 qg r_3)]) := by
 revert h; unfold qa7
 refine bs fun v2 h1 => ?_
 have f1 := z8m _ _ h1
 try simp only [en.down] at f1
 refine bs fun v4 h3 => ?_
 have f2 := qus _ _ h3
 try simp only [en.down] at f2
 refine bs fun v6 h5 => ?_
 have f3 := z6q _ _ h5
 try simp only [en.down] at f3
 rintro ⟨⟩
 exact fF q00
theorem zpm : ∀ p r,q2m p = some r → O.loop 66 0 ⟨[(0,AV.ptr 0 0),(1,v_i p.1),(2,v_r 4 p.2.2.2.2.2.2.2.2),(7,v_i p.2.1)],[(0,Blk.box [v_l 2 T.qi.enc p.2.2.1,v_s p.2.2.2.1,v_s p.2.2.2.2.1,v_r 1 p.2.2.2.2.2.1,v_r 2 p.2.2.2.2.2.2.1,v_r 3 p.2.2.2.2.2.2.2.1]),(1,b_r 20 T.qc.enc p.2.2.2.2.2.1),(2,b_r 1 qf p.2.2.2.2.2.2.1),(3,b_r 1 qg p.2.2.2.2.2.2.2.1),(4,b_r 1 qf p.2.2.2.2.2.2.2.2)],5⟩ = some (Ex.normal,⟨[(2,v_r 4 r)],[(0,Blk.box [v_l 2 T.qi.enc p.2.2.1,v_s p.2.2.2.1,v_s p.2.2.2.2.1,v_r 1 p.2.2.2.2.2.1,v_r 2 p.2.2.2.2.2.2.1,v_r 3 p.2.2.2.2.2.2.2.1]),(1,b_r 20 T.qc.enc p.2.2.2.2.2.1),(2,b_r 1 qf p.2.2.2.2.2.2.1),(3,b_r 1 qg p.2.2.2.2.2.2.2.1),(4,b_r 1 qf r)],5⟩) := by
 refine q2m.partial_correctness _ ?_
 rintro q2m ih122 ⟨d,i,w,w2,w3,r1_,r2_,r3_,ns⟩ r; dsimp only
 refine bW T.qc.enc 20 fun x2 h1 f1 f2 f3 f4 f5 => ?_
 apply it <;> intro h3
 ·refine bw T.qc.enc fun x5 h4 f6 f7 f8 => ?_
  apply it <;> intro h6
  ·refine bs fun v8 h7 => ?_
   have f9 := q9g h7
   try simp only [en.down,f4,f5] at f9
   apply it <;> intro h9
   ·refine gd fun h10 => ?_
    have f10 := rG 1 qf ns
    have f11 : List.map qf ns ++ [[PV.int IntKind.i64 x5.n]] = List.map qf (ns ++ [x5.n]) := by simp only [List.map_append,List.map_cons,List.map_nil,za,z8,zb,qf] <;> rfl
    try simp only [f4,f5] at f9
    intro h; have f12 := ih122 _ _ h; clear h
    try simp only [en.down,f4,f5] at f12
    try simp only [f4,f5] at f12
    clear ih122; exact fL q28
   try simp only [f4,f5] at f9
   intro h; have f13 := ih122 _ _ h; clear h
   try simp only [en.down,f4,f5] at f13
   try simp only [f4,f5] at f13
   clear ih122; exact fL q28
  intro h; have f14 := ih122 _ _ h; clear h
  try simp only [en.down,f4,f5] at f14
  try simp only [f4,f5] at f14
  clear ih122; exact fL q28
 rintro ⟨⟩
 clear ih122; exact fL q28
theorem qs5 {d b b_2 b_3 r_ r_2 r_3 r} (h : qbo d b b_2 b_3 r_ r_2 r_3 = some r) : O.call 66 [AV.ptr 0 0,v_i d,AV.pv (PV.sl true 0 [])] [(0,Blk.box [v_l 2 T.qi.enc b,v_s b_2,v_s b_3,v_r 1 r_,v_r 2 r_2,v_r 3 r_3]),(1,b_r 20 T.qc.enc r_),(2,b_r 1 qf r_2),(3,b_r 1 qg r_3)] = some (v_r 4 r,[(0,Blk.box [v_l 2 T.qi.enc b,v_s b_2,v_s b_3,v_r 1 r_,v_r 2 r_2,v_r 3 r_3]),(1,b_r 20 T.qc.enc r_),(2,b_r 1 qf r_2),(3,b_r 1 qg r_3),(4,b_r 1 qf r)]) := by
 revert h; unfold qbo
 refine bs fun v2 h1 => ?_
 have f1 := zpm _ _ h1
 try simp only [en.down] at f1
 rintro ⟨⟩
 exact fF q28
theorem z3r : ∀ p r,q2u p = some r → O.loop 66 0 ⟨[(0,AV.ptr 0 0),(1,v_i p.1),(2,v_r 1 p.2.2.2.2.2.1),(7,v_i p.2.1)],[(0,Blk.box [v_l 2 T.qi.enc p.2.2.1,v_s p.2.2.2.1,v_s p.2.2.2.2.1,v_r 2 p.2.2.2.2.2.2.1,v_r 3 p.2.2.2.2.2.2.2.1,v_r 4 p.2.2.2.2.2.2.2.2]),(1,b_r 1 qf p.2.2.2.2.2.1),(2,b_r 20 T.qc.enc p.2.2.2.2.2.2.1),(3,b_r 1 qf p.2.2.2.2.2.2.2.1),(4,b_r 1 qg p.2.2.2.2.2.2.2.2)],5⟩ = some (Ex.normal,⟨[(2,v_r 1 r)],[(0,Blk.box [v_l 2 T.qi.enc p.2.2.1,v_s p.2.2.2.1,v_s p.2.2.2.2.1,v_r 2 p.2.2.2.2.2.2.1,v_r 3 p.2.2.2.2.2.2.2.1,v_r 4 p.2.2.2.2.2.2.2.2]),(1,b_r 1 qf r),(2,b_r 20 T.qc.enc p.2.2.2.2.2.2.1),(3,b_r 1 qf p.2.2.2.2.2.2.2.1),(4,b_r 1 qg p.2.2.2.2.2.2.2.2)],5⟩) := by
 refine q2u.partial_correctness _ ?_
 rintro q2u ih125 ⟨d,i,w,w2,w3,ns,r2_,r3_,r4_⟩ r; dsimp only
 refine bW T.qc.enc 20 fun x2 h1 f1 f2 f3 f4 f5 => ?_
 apply it <;> intro h3
 ·refine bw T.qc.enc fun x5 h4 f6 f7 f8 => ?_
  apply it <;> intro h6
  ·refine bs fun v8 h7 => ?_
   have f9 := q9g h7
   try simp only [en.down,f4,f5] at f9
   apply it <;> intro h9
   ·refine gd fun h10 => ?_
    have f10 := rG 1 qf ns
    have f11 : List.map qf ns ++ [[PV.int IntKind.i64 x5.n]] = List.map qf (ns ++ [x5.n]) := by simp only [List.map_append,List.map_cons,List.map_nil,za,z8,zb,qf] <;> rfl
    try simp only [f4,f5] at f9
    intro h; have f12 := ih125 _ _ h; clear h
    try simp only [en.down,f4,f5] at f12
    try simp only [f4,f5] at f12
    clear ih125; exact fL q28
   try simp only [f4,f5] at f9
   intro h; have f13 := ih125 _ _ h; clear h
   try simp only [en.down,f4,f5] at f13
   try simp only [f4,f5] at f13
   clear ih125; exact fL q28
  intro h; have f14 := ih125 _ _ h; clear h
  try simp only [en.down,f4,f5] at f14
  try simp only [f4,f5] at f14
  clear ih125; exact fL q28
 rintro ⟨⟩
 clear ih125; exact fL q28
theorem z7z {d b b_2 b_3 r_ r_2 r_3 r_4 r} (h : q9s d b b_2 b_3 r_ r_2 r_3 r_4 = some r) : O.call 66 [AV.ptr 0 0,v_i d,v_r 1 r_] [(0,Blk.box [v_l 2 T.qi.enc b,v_s b_2,v_s b_3,v_r 2 r_2,v_r 3 r_3,v_r 4 r_4]),(1,b_r 1 qf r_),(2,b_r 20 T.qc.enc r_2),(3,b_r 1 qf r_3),(4,b_r 1 qg r_4)] = some (v_r 1 r,[(0,Blk.box [v_l 2 T.qi.enc b,v_s b_2,v_s b_3,v_r 2 r_2,v_r 3 r_3,v_r 4 r_4]),(1,b_r 1 qf r),(2,b_r 20 T.qc.enc r_2),(3,b_r 1 qf r_3),(4,b_r 1 qg r_4)]) := by
 revert h; unfold q9s
 refine bs fun v2 h1 => ?_
 have f1 := z3r _ _ h1
 try simp only [en.down] at f1
 rintro ⟨⟩
 exact fF q28
theorem z1n : ∀ p r,q4l p = some r → O.loop 43 2 ⟨[(0,AV.ptr 0 0),(3,v_i p.1),(4,v_r 4 p.2.2.2.2.2.2.2.2),(5,v_i p.2.1)],[(0,Blk.box [v_l 2 T.qi.enc p.2.2.1,v_s p.2.2.2.1,v_s p.2.2.2.2.1,v_r 1 p.2.2.2.2.2.1,v_r 2 p.2.2.2.2.2.2.1,v_r 3 p.2.2.2.2.2.2.2.1]),(1,b_r 20 T.qc.enc p.2.2.2.2.2.1),(2,b_r 1 qf p.2.2.2.2.2.2.1),(3,b_r 1 qg p.2.2.2.2.2.2.2.1),(4,b_r 1 qf p.2.2.2.2.2.2.2.2)],5⟩ = some (Ex.normal,⟨[(0,AV.ptr 0 0),(3,v_i p.1),(4,v_r 4 r)],[(0,Blk.box [v_l 2 T.qi.enc p.2.2.1,v_s p.2.2.2.1,v_s p.2.2.2.2.1,v_r 1 p.2.2.2.2.2.1,v_r 2 p.2.2.2.2.2.2.1,v_r 3 p.2.2.2.2.2.2.2.1]),(1,b_r 20 T.qc.enc p.2.2.2.2.2.1),(2,b_r 1 qf p.2.2.2.2.2.2.1),(3,b_r 1 qg p.2.2.2.2.2.2.2.1),(4,b_r 1 qf r)],5⟩) := by
 refine q4l.partial_correctness _ ?_
 rintro q4l ih123 ⟨i,k,w,w2,w3,r1_,r2_,r3_,in_⟩ r; dsimp only
 apply it <;> intro h1
 ·refine bW qf 1 fun x3 h2 f1 f2 f3 f4 f5 => ?_
  refine bs fun v5 h4 => ?_
  have f6 := qgp h4
  try simp only [en.down,f4,f5] at f6
  apply it <;> intro h6
  ·refine bs fun v8 h7 => ?_
   have f7 := z7z h7
   try simp only [en.down,f4,f5] at f7
   try simp only [f4,f5] at f6 f7
   intro h; have f8 := ih123 _ _ h; clear h
   try simp only [en.down,f4,f5] at f8
   try simp only [f4,f5] at f8
   clear ih123; exact fL q2e
  try simp only [f4,f5] at f6
  intro h; have f9 := ih123 _ _ h; clear h
  try simp only [en.down,f4,f5] at f9
  try simp only [f4,f5] at f9
  clear ih123; exact fL q2e
 rintro ⟨⟩
 clear ih123; exact fL q2e
def qiy (w : (Sl T.qi)) (w2 : Bytes) (w3 : Bytes) (r1_ : (List T.qc)) (r2_ : (List Int)) (r3_ : (List Bytes)) : ((Bool) ⊕ (Unit)) → Ex × St
 | .inl y => (Ex.ret,⟨[(2,v_b y)],[(0,Blk.box [v_l 2 T.qi.enc w,v_s w2,v_s w3,v_r 1 r1_,v_r 2 r2_,v_r 3 r3_]),(1,b_r 20 T.qc.enc r1_),(2,b_r 1 qf r2_),(3,b_r 1 qg r3_)],4⟩)
 | .inr y => (Ex.normal,⟨[(2,AV.undef)],[(0,Blk.box [v_l 2 T.qi.enc w,v_s w2,v_s w3,v_r 1 r1_,v_r 2 r2_,v_r 3 r3_]),(1,b_r 20 T.qc.enc r1_),(2,b_r 1 qf r2_),(3,b_r 1 qg r3_)],4⟩)
attribute [local go_sem] qiy
theorem zeg : ∀ p r,q1f p = some r → O.loop 43 0 ⟨[(0,AV.ptr 0 0),(3,v_i p.1)],[(0,Blk.box [v_l 2 T.qi.enc p.2.1,v_s p.2.2.1,v_s p.2.2.2.1,v_r 1 p.2.2.2.2.1,v_r 2 p.2.2.2.2.2.1,v_r 3 p.2.2.2.2.2.2]),(1,b_r 20 T.qc.enc p.2.2.2.2.1),(2,b_r 1 qf p.2.2.2.2.2.1),(3,b_r 1 qg p.2.2.2.2.2.2)],4⟩ = some (qiy p.2.1 p.2.2.1 p.2.2.2.1 p.2.2.2.2.1 p.2.2.2.2.2.1 p.2.2.2.2.2.2 r) := by
 refine q1f.partial_correctness _ ?_
 rintro q1f ih120 ⟨i,w,w2,w3,r1_,r2_,r3_⟩ r; dsimp only
 apply it <;> intro h1
 ·refine bW T.qc.enc 20 fun x3 h2 f1 f2 f3 f4 f5 => ?_
  apply it <;> intro h4
  ·intro h; have f6 := ih120 _ _ h; clear h
   try simp only [en.down,f4,f5] at f6
   try simp only [f4,f5] at f6
   clear ih120; exact fL q2e
  apply it <;> intro h5
  ·intro h; have f7 := ih120 _ _ h; clear h
   try simp only [en.down,f4,f5] at f7
   try simp only [f4,f5] at f7
   clear ih120; exact fL q2e
  refine bs fun v7 h6 => ?_
  have f8 := qs5 h6
  try simp only [en.down,f4,f5] at f8
  refine bs fun v9 h8 => ?_
  have f9 := z1n _ _ h8
  try simp only [en.down,f4,f5] at f9
  refine bs fun v11 h10 => ?_
  have f10 := q9g h10
  try simp only [en.down,f4,f5] at f10
  apply it <;> intro h12
  ·try simp only [h12,f4,f5] at f8 f9 f10
   rintro ⟨⟩
   clear ih120; exact fL q2e
  try simp only [h12,f4,f5] at f8 f9 f10
  intro h; have f11 := ih120 _ _ h; clear h
  try simp only [en.down,f4,f5] at f11
  try simp only [h12,f4,f5] at f11
  clear ih120; exact fL q2e
 rintro ⟨⟩
 clear ih120; exact fL q2e
theorem zgu {b b_2 b_3 r_ r_2 r_3 r} (h : qbl b b_2 b_3 r_ r_2 r_3 = some r) : O.call 43 [AV.ptr 0 0] [(0,Blk.box [v_l 2 T.qi.enc b,v_s b_2,v_s b_3,v_r 1 r_,v_r 2 r_2,v_r 3 r_3]),(1,b_r 20 T.qc.enc r_),(2,b_r 1 qf r_2),(3,b_r 1 qg r_3)] = some (v_b r,[(0,Blk.box [v_l 2 T.qi.enc b,v_s b_2,v_s b_3,v_r 1 r_,v_r 2 r_2,v_r 3 r_3]),(1,b_r 20 T.qc.enc r_),(2,b_r 1 qf r_2),(3,b_r 1 qg r_3)]) := by
 revert h; unfold qbl
 refine bs fun v2 h1 => ?_
 have f1 := zeg _ _ h1
 try simp only [en.down] at f1
 rcases v2 with y3 | y4
 ·dsimp only
  rintro ⟨⟩
  exact fF q2e
 dsimp only
 rintro ⟨⟩
 exact fF q2e
theorem z7m : ∀ p r,q3g p = some r → O.loop 20 0 ⟨[(11,AV.ptr 0 0),(12,v_i p.1),(13,v_i p.2.1)],[(0,Blk.box [v_l 2 T.qi.enc p.2.2.1,v_s p.2.2.2.1,v_s p.2.2.2.2.1,v_r 1 p.2.2.2.2.2.1,v_r 2 p.2.2.2.2.2.2.1,v_r 3 p.2.2.2.2.2.2.2]),(1,b_r 20 T.qc.enc p.2.2.2.2.2.1),(2,b_r 1 qf p.2.2.2.2.2.2.1),(3,b_r 1 qg p.2.2.2.2.2.2.2)],4⟩ = some (Ex.normal,⟨[(11,AV.ptr 0 0),(12,v_i r)],[(0,Blk.box [v_l 2 T.qi.enc p.2.2.1,v_s p.2.2.2.1,v_s p.2.2.2.2.1,v_r 1 p.2.2.2.2.2.1,v_r 2 p.2.2.2.2.2.2.1,v_r 3 p.2.2.2.2.2.2.2]),(1,b_r 20 T.qc.enc p.2.2.2.2.2.1),(2,b_r 1 qf p.2.2.2.2.2.2.1),(3,b_r 1 qg p.2.2.2.2.2.2.2)],4⟩) := by
 refine q3g.partial_correctness _ ?_
 rintro q3g ih126 ⟨many,i,w,w2,w3,r1_,r2_,r3_⟩ r; dsimp only
 apply it <;> intro h1
 ·refine bW T.qc.enc 20 fun x3 h2 f1 f2 f3 f4 f5 => ?_
  apply it <;> intro h4
  ·intro h; have f6 := ih126 _ _ h; clear h
   try simp only [en.down,f4,f5] at f6
   try simp only [f4,f5] at f6
   clear ih126; exact fL q07
  intro h; have f7 := ih126 _ _ h; clear h
  try simp only [en.down,f4,f5] at f7
  try simp only [f4,f5] at f7
  clear ih126; exact fL q07
 rintro ⟨⟩
 clear ih126; exact fL q07
def qo5 (r1_ : (List Int)) (r2_ : (List Bytes)) : ((Int) ⊕ (Unit)) → Ex × St
 | .inl y => (Ex.ret,⟨[(4,v_i y)],[(0,Blk.box [v_r 1 r1_,v_r 2 r2_]),(1,b_r 1 qf r1_),(2,b_r 1 qg r2_)],3⟩)
 | .inr y => (Ex.normal,⟨[(4,AV.undef)],[(0,Blk.box [v_r 1 r1_,v_r 2 r2_]),(1,b_r 1 qf r1_),(2,b_r 1 qg r2_)],3⟩)
attribute [local go_sem] qo5
theorem zfk : ∀ p r,q52 p = some r → O.loop 79 0 ⟨[(0,AV.ptr 0 0),(1,v_i p.1),(5,v_i p.2.1)],[(0,Blk.box [v_r 1 p.2.2.1,v_r 2 p.2.2.2]),(1,b_r 1 qf p.2.2.1),(2,b_r 1 qg p.2.2.2)],3⟩ = some (qo5 p.2.2.1 p.2.2.2 r) := by
 refine q52.partial_correctness _ ?_
 rintro q52 ih131 ⟨n,i,r1_,r2_⟩ r; dsimp only
 apply it <;> intro h1
 ·refine bW qf 1 fun x3 h2 f1 f2 f3 f4 f5 => ?_
  apply it <;> intro h4
  ·rintro ⟨⟩
   clear ih131; exact fL qal
  intro h; have f6 := ih131 _ _ h; clear h
  try simp only [en.down,f4,f5] at f6
  try simp only [f4,f5] at f6
  clear ih131; exact fL qal
 rintro ⟨⟩
 clear ih131; exact fL qal
theorem z6i {n r_ r_2 r} (h : qax n r_ r_2 = some r) : O.call 79 [AV.ptr 0 0,v_i n] [(0,Blk.box [v_r 1 r_,v_r 2 r_2]),(1,b_r 1 qf r_),(2,b_r 1 qg r_2)] = some (v_i r,[(0,Blk.box [v_r 1 r_,v_r 2 r_2]),(1,b_r 1 qf r_),(2,b_r 1 qg r_2)]) := by
 revert h; unfold qax
 refine bs fun v2 h1 => ?_
 have f1 := zfk _ _ h1
 try simp only [en.down] at f1
 rcases v2 with y3 | y4
 ·dsimp only
  rintro ⟨⟩
  exact fF qal
 dsimp only
 rintro ⟨⟩
 exact fF qal
theorem zg7 : ∀ p r,q0i p = some r → O.loop 133 0 ⟨[(0,v_s p.1),(3,v_r 0 p.2.2),(4,v_i p.2.1)],[(0,Blk.row false 1 (List.map qf p.2.2))],1⟩ = some (Ex.normal,⟨[(3,v_r 0 r)],[(0,Blk.row false 1 (List.map qf r))],1⟩) := by
 refine q0i.partial_correctness _ ?_
 rintro q0i ih139 ⟨s,i,l⟩ r; dsimp only
 apply it <;> intro h1
 ·apply it <;> intro h2
  ·refine gd fun h3 => ?_
   have f1 : List.map qf l ++ [[PV.int IntKind.i64 i]] = List.map qf (l ++ [i]) := by simp only [List.map_append,List.map_cons,List.map_nil,za,z8,zb,qf] <;> rfl
   intro h; have f2 := ih139 _ _ h; clear h
   try simp only [en.down] at f2
   clear ih139; exact fL qci
  refine bc fun b5 h4 f3 f4 => ?_
  refine bs fun v7 h6 => ?_
  have f5 := qge h6
  try simp only [en.down] at f5
  apply it <;> intro h8
  ·refine gd fun h9 => ?_
   have f6 : List.map qf l ++ [[PV.int IntKind.i64 i]] = List.map qf (l ++ [i]) := by simp only [List.map_append,List.map_cons,List.map_nil,za,z8,zb,qf] <;> rfl
   try simp only [h8] at f5
   intro h; have f7 := ih139 _ _ h; clear h
   try simp only [en.down] at f7
   try simp only [h8] at f7
   clear ih139; exact fL qci
  try simp only [h8] at f5
  intro h; have f8 := ih139 _ _ h; clear h
  try simp only [en.down] at f8
  try simp only [h8] at f8
  clear ih139; exact fL qci
 rintro ⟨⟩
 clear ih139; exact fL qci
theorem zju {s r} (h : qa3 s = some r) : O.call 133 [v_s s] [] = some (v_l 1 qf r,[]) := by
 revert h; unfold qa3
 refine bs fun v2 h1 => ?_
 have f1 := zg7 _ _ h1
 try simp only [en.down] at f1
 rintro ⟨⟩
 exact fF qci
theorem qla {fold s fuel r} (h : q8n fold s fuel = some r) : O.call 121 [v_b fold,v_s s,v_i fuel] [] = some (AV.ptr 0 0,[(0,b_x (T.qo.enc r))]) := by
 revert h; unfold q8n
 refine bs fun v2 h1 => ?_
 have f1 := qfe h1
 try simp only [en.down] at f1
 refine bs fun v4 h3 => ?_
 have f2 := zju h3
 try simp only [en.down] at f2
 rintro ⟨⟩
 exact fF qq8
theorem q9t : (∀ p r,q0o p = some r → O.call 143 [v_g (T.Rx.enc p)] [] = some (v_i r,[])) ∧ (∀ p r,q3a p = some r → O.loop 143 0 ⟨[(1,AV.ptr 0 0),(3,v_i p.1),(4,v_i p.2.1)],[(0,b_x (T.Rx.enc p.2.2))],1⟩ = some (Ex.normal,⟨[(3,v_i r)],[(0,b_x (T.Rx.enc p.2.2))],1⟩)) := by
 refine q0o.mutual_partial_correctness _ _ ?_ ?_
 ·rintro q3a ih146 x r; try dsimp only
  apply it <;> intro h1
  ·refine bs fun v3 h2 => ?_
   have f1 := ih146 _ _ h2
   try simp only [en.down] at f1
   rintro ⟨⟩
   clear ih146; exact fF qcu
  refine bs fun v5 h4 => ?_
  have f2 := ih146 _ _ h4
  try simp only [en.down] at f2
  rintro ⟨⟩
  clear ih146; exact fF qcu
 ·rintro q0o q3a ih145 ih146 ⟨n,i,x⟩ r; dsimp only
  apply it <;> intro h1
  ·refine bg T.Rx.enc fun x3 h2 f1 f2 f3 => ?_
   refine bs fun v5 h4 => ?_
   have f4 := ih145 _ _ h4
   try simp only [en.down] at f4
   intro h; have f5 := ih146 _ _ h; clear h
   try simp only [en.down] at f5
   clear ih145 ih146; exact fL qcu
  rintro ⟨⟩
  clear ih145 ih146; exact fL qcu
theorem qy2 : ∀ p r,q6o p = some r → O.loop 134 0 ⟨[(0,AV.ptr 0 0),(2,v_i p.1),(4,AV.ptr 1 0),(6,AV.ptr 2 0),(8,v_r 3 p.2.2.2.2.2),(9,v_i p.2.1)],[(0,b_x (T.qo.enc p.2.2.1)),(1,b_x (T.Rx.enc p.2.2.2.1)),(2,b_x (T.qw.enc p.2.2.2.2.1)),(3,b_r 2 T.Span.enc p.2.2.2.2.2)],4⟩ = some (Ex.normal,⟨[(0,AV.ptr 0 0),(2,v_i p.1),(4,AV.ptr 1 0),(6,AV.ptr 2 0),(8,v_r 3 r)],[(0,b_x (T.qo.enc p.2.2.1)),(1,b_x (T.Rx.enc p.2.2.2.1)),(2,b_x (T.qw.enc p.2.2.2.2.1)),(3,b_r 2 T.Span.enc r)],4⟩) := by
 refine q6o.partial_correctness _ ?_
 rintro q6o ih144 ⟨i,j,r_,x,t6,none_⟩ r; dsimp only
 refine bs fun v2 h1 => ?_
 have f1 := q9t.1 _ _ h1
 try simp only [en.down] at f1
 apply it <;> intro h3
 ·refine gd fun h4 => ?_
  have f2 := rG 2 T.Span.enc none_
  have f3 : List.map T.Span.enc none_ ++ [[PV.int IntKind.i64 ((-1) : Int),PV.int IntKind.i64 ((-1) : Int)]] = List.map T.Span.enc (none_ ++ [(T.Span.mk ((-1) : Int) ((-1) : Int))]) := by simp only [List.map_append,List.map_cons,List.map_nil,za,z8,zb,T.Span.qx] <;> rfl
  intro h; have f4 := ih144 _ _ h; clear h
  try simp only [en.down] at f4
  clear ih144; exact fL qem
 rintro ⟨⟩
 clear ih144; exact fL qem
theorem zfn : ∀ p r,q6l p = some r → O.loop 156 0 ⟨[(0,AV.ptr 0 0),(1,AV.pv (T.qy.jk p.1)),(2,v_i p.2.1),(11,v_r 1 p.2.2.2.2),(12,v_i p.2.2.1)],[(0,b_x (T.qo.enc p.2.2.2.1)),(1,Blk.row false 2 (List.map T.Span.enc p.2.2.2.2))],2⟩ = some (Ex.normal,⟨[(0,AV.ptr 0 0),(1,AV.pv (T.qy.jk p.1)),(2,v_i p.2.1),(11,v_r 1 r)],[(0,b_x (T.qo.enc p.2.2.2.1)),(1,Blk.row false 2 (List.map T.Span.enc r))],2⟩) := by
 refine q6l.partial_correctness _ ?_
 rintro q6l ih150 ⟨k,i,j,r_,p_⟩ r; dsimp only
 refine bs fun x2 h1 => ?_
 have f1 := T.qy.q7o h1
 try simp only [en.down] at f1
 refine bs fun v4 h3 => ?_
 have f2 := q9t.1 _ _ h3
 try simp only [en.down,f1] at f2
 apply it <;> intro h5
 ·refine bw T.Span.enc fun x7 h6 f3 f4 f5 => ?_
  have f6 := map_set T.Span.enc p_ ((IntKind.i64.wrap (x2.g + j)).toNat) (T.Span.mk ((-1) : Int) ((-1) : Int))
  try simp only [en.down] at f6
  try simp only [f1] at f2 f6
  intro h; have f7 := ih150 _ _ h; clear h
  try simp only [en.down,f1] at f7
  try simp only [f1] at f7
  clear ih150; exact fL qhm
 try simp only [f1] at f2
 rintro ⟨⟩
 clear ih150; exact fL qhm
theorem zge : ∀ p r,q62 p = some r → O.loop 144 1 ⟨[(0,AV.ptr 0 0),(1,AV.pv (T.qy.jk p.1)),(2,v_i p.2.1),(3,v_l 2 T.Span.enc p.2.2.1),(12,AV.pv (T.qy.jk p.2.2.2.1)),(13,v_i p.2.2.2.2.1),(14,v_i p.2.2.2.2.2.1)],[(0,b_x (T.qo.enc p.2.2.2.2.2.2))],1⟩ = some (Ex.normal,⟨[(0,AV.ptr 0 0),(2,v_i p.2.1),(3,v_l 2 T.Span.enc p.2.2.1),(12,AV.pv (T.qy.jk r))],[(0,b_x (T.qo.enc p.2.2.2.2.2.2))],1⟩) := by
 refine q62.partial_correctness _ ?_
 rintro q62 ih151 ⟨k,i,parts,rest,g,j,r_⟩ r; dsimp only
 apply it <;> intro h1
 ·refine bs fun x3 h2 => ?_
  have f1 := T.qy.q7o h2
  try simp only [en.down] at f1
  refine bg T.Rx.enc fun x5 h4 f2 f3 f4 => ?_
  refine bs fun v7 h6 => ?_
  have f5 := q9t.1 _ _ h6
  try simp only [en.down,f1] at f5
  try simp only [f1] at f5
  intro h; have f6 := ih151 _ _ h; clear h
  try simp only [en.down,f1] at f6
  try simp only [f1] at f6
  clear ih151; exact fL bz
 rintro ⟨⟩
 clear ih151; exact fL bz
theorem qh8 {c r} (h : q6p c = some r) : O.call 159 [v_s c] [] = some (v_b r,[]) := by
 revert h; unfold q6p
 apply it <;> intro h1
 ·refine bc fun b3 h2 f1 f2 => ?_
  refine bs fun v5 h4 => ?_
  have f3 := qcw h4
  try simp only [en.down] at f3
  apply it <;> intro h6
  ·try simp only [h6] at f3
   rintro ⟨⟩
   exact fF qed
  refine bs fun v8 h7 => ?_
  have f4 := q6c h7
  try simp only [en.down] at f4
  apply it <;> intro h9
  ·try simp only [h6,h9] at f3 f4
   rintro ⟨⟩
   exact fF qed
  try simp only [h6,h9] at f3 f4
  rintro ⟨⟩
  exact fF qed
 rintro ⟨⟩
 exact fF qed
def qof : ((Bool) ⊕ (Unit)) → Ex × St
 | .inl y => (Ex.ret,⟨[(4,v_b y)],[],0⟩)
 | .inr y => (Ex.normal,⟨[(4,AV.undef)],[],0⟩)
attribute [local go_sem] qof
theorem zaf : ∀ p r,q3u p = some r → O.loop 161 0 ⟨[(0,v_l 2 T.Row.enc p.1),(1,v_s p.2.1),(5,v_i p.2.2)],[],0⟩ = some (qof r) := by
 refine q3u.partial_correctness _ ?_
 rintro q3u ih158 ⟨rows,c,i⟩ r; dsimp only
 apply it <;> intro h1
 ·refine bg T.Row.enc fun x3 h2 f1 f2 f3 => ?_
  apply it <;> intro h4
  ·apply it <;> intro h5
   ·rintro ⟨⟩
    clear ih158; exact fL q9f
   intro h; have f4 := ih158 _ _ h; clear h
   try simp only [en.down] at f4
   clear ih158; exact fL q9f
  intro h; have f5 := ih158 _ _ h; clear h
  try simp only [en.down] at f5
  clear ih158; exact fL q9f
 rintro ⟨⟩
 clear ih158; exact fL q9f
theorem qf2 {rows c r} (h : q7n rows c = some r) : O.call 161 [v_l 2 T.Row.enc rows,v_s c] [] = some (v_b r,[]) := by
 revert h; unfold q7n
 refine bs fun v2 h1 => ?_
 have f1 := zaf _ _ h1
 try simp only [en.down] at f1
 rcases v2 with y3 | y4
 ·dsimp only
  rintro ⟨⟩
  exact fF q9f
 dsimp only
 rintro ⟨⟩
 exact fF q9f
theorem zbb : ∀ p r,q3r p = some r → O.loop 162 0 ⟨[(3,v_r 0 p.2),(4,v_i p.1)],[(0,Blk.row false 1 (List.map qj p.2))],1⟩ = some (Ex.normal,⟨[(3,v_r 0 r)],[(0,Blk.row false 1 (List.map qj r))],1⟩) := by
 refine q3r.partial_correctness _ ?_
 rintro q3r ih160 ⟨i,b⟩ r; dsimp only
 apply it <;> intro h1
 ·refine bw qj fun x3 h2 f1 f2 f3 => ?_
  apply it <;> intro h4
  ·apply it <;> intro h5
   ·have f4 := map_set qj b i.toNat (u8 (IntKind.u8.wrap ((x3.toNat : Int) - (32 : Int))))
    try simp only [en.down] at f4
    intro h; have f5 := ih160 _ _ h; clear h
    try simp only [en.down] at f5
    clear ih160; exact fL qa1
   intro h; have f6 := ih160 _ _ h; clear h
   try simp only [en.down] at f6
   clear ih160; exact fL qa1
  intro h; have f7 := ih160 _ _ h; clear h
  try simp only [en.down] at f7
  clear ih160; exact fL qa1
 rintro ⟨⟩
 clear ih160; exact fL qa1
theorem qre {s r} (h : q9v s = some r) : O.call 162 [v_s s] [] = some (v_s r,[]) := by
 revert h; unfold q9v
 refine bs fun v2 h1 => ?_
 have f1 := zbb _ _ h1
 try simp only [en.down] at f1
 have f2 := jd 1 qj v2
 have f3 := bytesOf_map v2
 rintro ⟨⟩
 exact fF qa1
theorem z3v {rows not fold c r} (h : q9r rows not fold c = some r) : O.call 160 [v_l 2 T.Row.enc rows,v_b not,v_b fold,v_s c] [] = some (v_b r,[]) := by
 revert h; unfold q9r
 refine bs fun v2 h1 => ?_
 have f1 := qf2 h1
 try simp only [en.down] at f1
 apply it <;> intro h3
 ·refine bs fun v5 h4 => ?_
  have f2 := qcp h4
  try simp only [en.down] at f2
  refine bs fun v7 h6 => ?_
  have f3 := qf2 h6
  try simp only [en.down] at f3
  apply it <;> intro h8
  ·try simp only [h3,h8] at f1 f2 f3
   rintro ⟨⟩
   exact fF qeo
  refine bs fun v10 h9 => ?_
  have f4 := qre h9
  try simp only [en.down] at f4
  refine bs fun v12 h11 => ?_
  have f5 := qf2 h11
  try simp only [en.down] at f5
  apply it <;> intro h13
  ·try simp only [h3,h8,h13] at f1 f2 f3 f4 f5
   rintro ⟨⟩
   exact fF qeo
  try simp only [h3,h8,h13] at f1 f2 f3 f4 f5
  rintro ⟨⟩
  exact fF qeo
 try simp only [h3] at f1
 rintro ⟨⟩
 exact fF qeo
theorem z3w {x i b r} (h : qcj x i b = some r) : O.call 157 [AV.ptr 0 0,v_g (T.Rx.enc x),v_i i] [(0,b_x (T.qo.enc b))] = some (AV.tup [v_i r.1,v_b r.2],[(0,b_x (T.qo.enc b))]) := by
 revert h; unfold qcj
 apply it <;> intro h1
 ·rintro ⟨⟩
  exact fF q0n
 apply it <;> intro h2
 ·rintro ⟨⟩
  exact fF q0n
 refine xy ?_ (fun h3 h19 => ?_)
 ·rintro (⟨h3,h19⟩ | ⟨h3,h19⟩)
  all_goals
  apply it <;> intro h4
  ·refine bg qg fun x6 h5 f1 f2 f3 => ?_
   refine bs fun v8 h7 => ?_
   have f4 := qh8 h7
   try simp only [en.down] at f4
   apply it <;> intro h9
   ·refine bg qg fun x11 h10 f5 f6 f7 => ?_
    refine bs fun v13 h12 => ?_
    have f8 := qh8 h12
    try simp only [en.down] at f8
    rintro ⟨⟩
    exact fF q0n
   rintro ⟨⟩
   exact fF q0n
  apply it <;> intro h14
  ·refine bg qg fun x16 h15 f9 f10 f11 => ?_
   refine bs fun v18 h17 => ?_
   have f12 := qh8 h17
   try simp only [en.down] at f12
   rintro ⟨⟩
   exact fF q0n
  rintro ⟨⟩
  exact fF q0n
 apply it <;> intro h35
 ·rintro ⟨⟩
  exact fF q0n
 refine bg qg fun x37 h36 f13 f14 f15 => ?_
 apply it <;> intro h38
 ·rintro ⟨⟩
  exact fF q0n
 apply it <;> intro h39
 ·refine bs fun v41 h40 => ?_
  have f16 := z3v h40
  try simp only [en.down] at f16
  rintro ⟨⟩
  exact fF q0n
 apply it <;> intro h42
 ·rintro ⟨⟩
  exact fF q0n
 apply it <;> intro h43
 ·refine bs fun v45 h44 => ?_
  have f17 := qcp h44
  try simp only [en.down] at f17
  refine bs fun v47 h46 => ?_
  have f18 := qcp h46
  try simp only [en.down] at f18
  try simp only [h43] at f17 f18
  rintro ⟨⟩
  exact fF q0n
 rintro ⟨⟩
 exact fF q0n
end Go.Proofs.YtdhgdeelagmbpaaGreat
