/-
  What the machine's calls come to: the plain functions.
-/
import Derived.Test.YtdhgdeelagmbpaaGreatQaj
import Derived.Test.YtdhgdeelagmbpaaGreatQak
set_option linter.unusedSimpArgs false
set_option linter.unusedVariables false
set_option maxRecDepth 100000
namespace Go.Proofs.YtdhgdeelagmbpaaGreat
open Go Go.Gm
set_option maxHeartbeats 4000000
theorem zmf {l up b b_2 b_3 r} (h : qdm l up b b_2 b_3 = some r) : O.call 41 [AV.ptr 0 0,v_l 18 T.qb.enc l,v_i up] [(0,Blk.box [v_l 2 T.qi.enc b,v_s b_2,v_s b_3,AV.pv (PV.sl true 0 []),AV.pv (PV.sl true 0 []),AV.pv (PV.sl true 0 [])])] = some (AV.tup [],[(0,Blk.box [v_l 2 T.qi.enc r.1,v_s r.2.1,v_s r.2.2.1,v_r 1 r.2.2.2.1,v_r 2 r.2.2.2.2.1,v_r 3 r.2.2.2.2.2]),(1,b_r 20 T.qf.enc r.2.2.2.1),(2,b_r 1 qc r.2.2.2.2.1),(3,b_r 1 qh r.2.2.2.2.2)]) := by
 revert h; unfold qdm
 refine bs fun v2 h1 => ?_
 have f1 := z1g _ _ h1
 try simp only [en.down] at f1
 rintro ⟨⟩
 exact fF uf
theorem zix : ∀ p r,q4p p = some r → O.loop 42 0 ⟨[(0,AV.ptr 0 0),(2,v_i p.1),(3,v_i p.2.1)],[(0,Blk.box [v_l 2 T.qi.enc p.2.2.1,v_s p.2.2.2.1,v_s p.2.2.2.2.1,v_r 1 p.2.2.2.2.2.1,v_r 2 p.2.2.2.2.2.2.1,v_r 3 p.2.2.2.2.2.2.2]),(1,b_r 20 T.qf.enc p.2.2.2.2.2.1),(2,b_r 1 qc p.2.2.2.2.2.2.1),(3,b_r 1 qh p.2.2.2.2.2.2.2)],4⟩ = some (Ex.normal,⟨[(0,AV.ptr 0 0),(2,v_i r)],[(0,Blk.box [v_l 2 T.qi.enc p.2.2.1,v_s p.2.2.2.1,v_s p.2.2.2.2.1,v_r 1 p.2.2.2.2.2.1,v_r 2 p.2.2.2.2.2.2.1,v_r 3 p.2.2.2.2.2.2.2]),(1,b_r 20 T.qf.enc p.2.2.2.2.2.1),(2,b_r 1 qc p.2.2.2.2.2.2.1),(3,b_r 1 qh p.2.2.2.2.2.2.2)],4⟩) := by
 refine q4p.partial_correctness _ ?_
 rintro q4p ih113 ⟨most,i,w,w2,w3,r1_,r2_,r3_⟩ r; dsimp only
 apply it <;> intro h1
 ·refine bW T.qf.enc 20 fun x3 h2 f1 f2 f3 f4 f5 => ?_
  intro h; have f6 := ih113 _ _ h; clear h
  try simp only [en.down,f4,f5] at f6
  try simp only [f4,f5] at f6
  clear ih113; exact fL q0c
 rintro ⟨⟩
 clear ih113; exact fL q0c
theorem zou : ∀ p r,q48 p = some r → O.loop 42 2 ⟨[(0,AV.ptr 0 0),(2,v_i p.1),(4,v_i p.2.1)],[(0,Blk.box [v_l 2 T.qi.enc p.2.2.1,v_s p.2.2.2.1,v_s p.2.2.2.2.1,v_r 1 p.2.2.2.2.2.1,v_r 2 p.2.2.2.2.2.2.1,v_r 3 p.2.2.2.2.2.2.2]),(1,b_r 20 T.qf.enc p.2.2.2.2.2.1),(2,b_r 1 qc p.2.2.2.2.2.2.1),(3,b_r 1 qh p.2.2.2.2.2.2.2)],4⟩ = some (Ex.normal,⟨[(0,AV.ptr 0 0)],[(0,Blk.box [v_l 2 T.qi.enc p.2.2.1,v_s p.2.2.2.1,v_s p.2.2.2.2.1,v_r 1 r,v_r 2 p.2.2.2.2.2.2.1,v_r 3 p.2.2.2.2.2.2.2]),(1,b_r 20 T.qf.enc r),(2,b_r 1 qc p.2.2.2.2.2.2.1),(3,b_r 1 qh p.2.2.2.2.2.2.2)],4⟩) := by
 refine q48.partial_correctness _ ?_
 rintro q48 ih114 ⟨most,i,w,w2,w3,r1_,r2_,r3_⟩ r; dsimp only
 apply it <;> intro h1
 ·refine bW T.qf.enc 20 fun x3 h2 f1 f2 f3 f4 f5 => ?_
  apply it <;> intro h4
  ·have f6 := map_set T.qf.enc r1_ i.toNat (T.qf.mk x3.kind x3.text (IntKind.i64.wrap (most - x3.n)) x3.def_ x3.first x3.turned x3.form x3.opts x3.up x3.end_)
   try simp only [en.down] at f6
   try simp only [f4,f5] at f6
   intro h; have f7 := ih114 _ _ h; clear h
   try simp only [en.down,f4,f5] at f7
   try simp only [f4,f5] at f7
   clear ih114; exact fL q0c
  intro h; have f8 := ih114 _ _ h; clear h
  try simp only [en.down,f4,f5] at f8
  try simp only [f4,f5] at f8
  clear ih114; exact fL q0c
 rintro ⟨⟩
 clear ih114; exact fL q0c
def qre (w : (Sl T.qi)) (w2 : Bytes) (w3 : Bytes) (r1_ : (List T.qf)) (r2_ : (List Int)) (r3_ : (List Bytes)) : ((Int) ⊕ (Unit)) → Ex × St
 | .inl y => (Ex.ret,⟨[(4,v_i y)],[(0,Blk.box [v_l 2 T.qi.enc w,v_s w2,v_s w3,v_r 1 r1_,v_r 2 r2_,v_r 3 r3_]),(1,b_r 20 T.qf.enc r1_),(2,b_r 1 qc r2_),(3,b_r 1 qh r3_)],4⟩)
 | .inr y => (Ex.normal,⟨[(4,AV.undef)],[(0,Blk.box [v_l 2 T.qi.enc w,v_s w2,v_s w3,v_r 1 r1_,v_r 2 r2_,v_r 3 r3_]),(1,b_r 20 T.qf.enc r1_),(2,b_r 1 qc r2_),(3,b_r 1 qh r3_)],4⟩)
attribute [local go_sem] qre
theorem z00 : ∀ p r,q1u p = some r → O.loop 64 0 ⟨[(0,AV.ptr 0 0),(1,v_i p.1),(5,v_i p.2.1)],[(0,Blk.box [v_l 2 T.qi.enc p.2.2.1,v_s p.2.2.2.1,v_s p.2.2.2.2.1,v_r 1 p.2.2.2.2.2.1,v_r 2 p.2.2.2.2.2.2.1,v_r 3 p.2.2.2.2.2.2.2]),(1,b_r 20 T.qf.enc p.2.2.2.2.2.1),(2,b_r 1 qc p.2.2.2.2.2.2.1),(3,b_r 1 qh p.2.2.2.2.2.2.2)],4⟩ = some (qre p.2.2.1 p.2.2.2.1 p.2.2.2.2.1 p.2.2.2.2.2.1 p.2.2.2.2.2.2.1 p.2.2.2.2.2.2.2 r) := by
 refine q1u.partial_correctness _ ?_
 rintro q1u ih117 ⟨n,i,w,w2,w3,r1_,r2_,r3_⟩ r; dsimp only
 apply it <;> intro h1
 ·refine bW T.qf.enc 20 fun x3 h2 f1 f2 f3 f4 f5 => ?_
  apply it <;> intro h4
  ·apply it <;> intro h5
   ·apply it <;> intro h6
    ·rintro ⟨⟩
     clear ih117; exact fL q8a
    intro h; have f6 := ih117 _ _ h; clear h
    try simp only [en.down,f4,f5] at f6
    try simp only [h5,f4,f5] at f6
    clear ih117; exact fL q8a
   intro h; have f7 := ih117 _ _ h; clear h
   try simp only [en.down,f4,f5] at f7
   try simp only [h5,f4,f5] at f7
   clear ih117; exact fL q8a
  intro h; have f8 := ih117 _ _ h; clear h
  try simp only [en.down,f4,f5] at f8
  try simp only [f4,f5] at f8
  clear ih117; exact fL q8a
 rintro ⟨⟩
 clear ih117; exact fL q8a
theorem qjf {n b b_2 b_3 r_ r_2 r_3 r} (h : q7y n b b_2 b_3 r_ r_2 r_3 = some r) : O.call 64 [AV.ptr 0 0,v_i n] [(0,Blk.box [v_l 2 T.qi.enc b,v_s b_2,v_s b_3,v_r 1 r_,v_r 2 r_2,v_r 3 r_3]),(1,b_r 20 T.qf.enc r_),(2,b_r 1 qc r_2),(3,b_r 1 qh r_3)] = some (v_i r,[(0,Blk.box [v_l 2 T.qi.enc b,v_s b_2,v_s b_3,v_r 1 r_,v_r 2 r_2,v_r 3 r_3]),(1,b_r 20 T.qf.enc r_),(2,b_r 1 qc r_2),(3,b_r 1 qh r_3)]) := by
 revert h; unfold q7y
 refine bs fun v2 h1 => ?_
 have f1 := z00 _ _ h1
 try simp only [en.down] at f1
 rcases v2 with y3 | y4
 ·dsimp only
  rintro ⟨⟩
  exact fF q8a
 dsimp only
 rintro ⟨⟩
 exact fF q8a
theorem zbx : ∀ p r,bz p = some r → O.loop 42 4 ⟨[(0,AV.ptr 0 0),(5,v_r 4 p.2.2.2.2.2.2.2),(6,v_i p.1)],[(0,Blk.box [v_l 2 T.qi.enc p.2.1,v_s p.2.2.1,v_s p.2.2.2.1,v_r 1 p.2.2.2.2.1,v_r 2 p.2.2.2.2.2.1,v_r 3 p.2.2.2.2.2.2.1]),(1,b_r 20 T.qf.enc p.2.2.2.2.1),(2,b_r 1 qc p.2.2.2.2.2.1),(3,b_r 1 qh p.2.2.2.2.2.2.1),(4,b_r 1 qc p.2.2.2.2.2.2.2)],5⟩ = some (Ex.normal,⟨[],[(0,Blk.box [v_l 2 T.qi.enc p.2.1,v_s p.2.2.1,v_s p.2.2.2.1,v_r 1 r.1,v_r 2 p.2.2.2.2.2.1,v_r 3 p.2.2.2.2.2.2.1]),(1,b_r 20 T.qf.enc r.1),(2,b_r 1 qc p.2.2.2.2.2.1),(3,b_r 1 qh p.2.2.2.2.2.2.1),(4,b_r 1 qc r.2)],5⟩) := by
 refine bz.partial_correctness _ ?_
 rintro bz ih115 ⟨i,w,w2,w3,r1_,r2_,r3_,told⟩ r; dsimp only
 apply it <;> intro h1
 ·refine bW T.qf.enc 20 fun x3 h2 f1 f2 f3 f4 f5 => ?_
  apply it <;> intro h4
  ·apply it <;> intro h5
   ·have f6 := map_set T.qf.enc r1_ i.toNat (T.qf.mk x3.kind x3.text x3.n x3.def_ true x3.turned x3.form x3.opts x3.up x3.end_)
    try simp only [en.down] at f6
    refine gd fun h6 => ?_
    have f7 := rG 1 qc told
    have f8 : List.map qc told ++ [[PV.int IntKind.i64 x3.n]] = List.map qc (told ++ [x3.n]) := by simp only [List.map_append,List.map_cons,List.map_nil,zf,zb,ze,qc] <;> rfl
    try simp only [h5,f4,f5] at f6
    intro h; have f9 := ih115 _ _ h; clear h
    try simp only [en.down,f4,f5] at f9
    try simp only [h5,f4,f5] at f9
    clear ih115; exact fL q0c
   apply it <;> intro h7
   ·refine bs fun v9 h8 => ?_
    have f10 := qjf h8
    try simp only [en.down,f4,f5] at f10
    apply it <;> intro h10
    ·refine bs fun v12 h11 => ?_
     have f11 := q9m h11
     try simp only [en.down,f4,f5] at f11
     apply it <;> intro h13
     ·have f12 := map_set T.qf.enc r1_ i.toNat (T.qf.mk x3.kind x3.text x3.n x3.def_ true x3.turned x3.form x3.opts x3.up x3.end_)
      try simp only [en.down] at f12
      refine gd fun h14 => ?_
      have f13 := rG 1 qc told
      have f14 : List.map qc told ++ [[PV.int IntKind.i64 x3.n]] = List.map qc (told ++ [x3.n]) := by simp only [List.map_append,List.map_cons,List.map_nil,zf,zb,ze,qc] <;> rfl
      try simp only [h5,f4,f5] at f10 f11 f12
      intro h; have f15 := ih115 _ _ h; clear h
      try simp only [en.down,f4,f5] at f15
      try simp only [h5,f4,f5] at f15
      clear ih115; exact fL q0c
     try simp only [h5,f4,f5] at f10 f11
     intro h; have f16 := ih115 _ _ h; clear h
     try simp only [en.down,f4,f5] at f16
     try simp only [h5,f4,f5] at f16
     clear ih115; exact fL q0c
    try simp only [h5,f4,f5] at f10
    intro h; have f17 := ih115 _ _ h; clear h
    try simp only [en.down,f4,f5] at f17
    try simp only [h5,f4,f5] at f17
    clear ih115; exact fL q0c
   intro h; have f18 := ih115 _ _ h; clear h
   try simp only [en.down,f4,f5] at f18
   try simp only [h5,f4,f5] at f18
   clear ih115; exact fL q0c
  intro h; have f19 := ih115 _ _ h; clear h
  try simp only [en.down,f4,f5] at f19
  try simp only [f4,f5] at f19
  clear ih115; exact fL q0c
 rintro ⟨⟩
 clear ih115; exact fL q0c
theorem zh0 {b b_2 b_3 r_ r_2 r_3 r} (h : qdq b b_2 b_3 r_ r_2 r_3 = some r) : O.call 42 [AV.ptr 0 0] [(0,Blk.box [v_l 2 T.qi.enc b,v_s b_2,v_s b_3,v_r 1 r_,v_r 2 r_2,v_r 3 r_3]),(1,b_r 20 T.qf.enc r_),(2,b_r 1 qc r_2),(3,b_r 1 qh r_3)] = some (AV.tup [],[(0,Blk.box [v_l 2 T.qi.enc b,v_s b_2,v_s b_3,v_r 1 r,v_r 2 r_2,v_r 3 r_3]),(1,b_r 20 T.qf.enc r),(2,b_r 1 qc r_2),(3,b_r 1 qh r_3)]) := by
 revert h; unfold qdq
 refine bs fun v2 h1 => ?_
 have f1 := zix _ _ h1
 try simp only [en.down] at f1
 refine bs fun v4 h3 => ?_
 have f2 := zou _ _ h3
 try simp only [en.down] at f2
 refine bs fun v6 h5 => ?_
 have f3 := zbx _ _ h5
 try simp only [en.down] at f3
 rintro ⟨⟩
 exact fF q0c
theorem zmb : ∀ p r,q2d p = some r → O.loop 66 0 ⟨[(0,AV.ptr 0 0),(1,v_i p.1),(2,v_r 4 p.2.2.2.2.2.2.2.2),(7,v_i p.2.1)],[(0,Blk.box [v_l 2 T.qi.enc p.2.2.1,v_s p.2.2.2.1,v_s p.2.2.2.2.1,v_r 1 p.2.2.2.2.2.1,v_r 2 p.2.2.2.2.2.2.1,v_r 3 p.2.2.2.2.2.2.2.1]),(1,b_r 20 T.qf.enc p.2.2.2.2.2.1),(2,b_r 1 qc p.2.2.2.2.2.2.1),(3,b_r 1 qh p.2.2.2.2.2.2.2.1),(4,b_r 1 qc p.2.2.2.2.2.2.2.2)],5⟩ = some (Ex.normal,⟨[(2,v_r 4 r)],[(0,Blk.box [v_l 2 T.qi.enc p.2.2.1,v_s p.2.2.2.1,v_s p.2.2.2.2.1,v_r 1 p.2.2.2.2.2.1,v_r 2 p.2.2.2.2.2.2.1,v_r 3 p.2.2.2.2.2.2.2.1]),(1,b_r 20 T.qf.enc p.2.2.2.2.2.1),(2,b_r 1 qc p.2.2.2.2.2.2.1),(3,b_r 1 qh p.2.2.2.2.2.2.2.1),(4,b_r 1 qc r)],5⟩) := by
 refine q2d.partial_correctness _ ?_
 rintro q2d ih121 ⟨d,i,w,w2,w3,r1_,r2_,r3_,ns⟩ r; dsimp only
 refine bW T.qf.enc 20 fun x2 h1 f1 f2 f3 f4 f5 => ?_
 apply it <;> intro h3
 ·refine bw T.qf.enc fun x5 h4 f6 f7 f8 => ?_
  apply it <;> intro h6
  ·refine bs fun v8 h7 => ?_
   have f9 := q9m h7
   try simp only [en.down,f4,f5] at f9
   apply it <;> intro h9
   ·refine gd fun h10 => ?_
    have f10 := rG 1 qc ns
    have f11 : List.map qc ns ++ [[PV.int IntKind.i64 x5.n]] = List.map qc (ns ++ [x5.n]) := by simp only [List.map_append,List.map_cons,List.map_nil,zf,zb,ze,qc] <;> rfl
    try simp only [f4,f5] at f9
    intro h; have f12 := ih121 _ _ h; clear h
    try simp only [en.down,f4,f5] at f12
    try simp only [f4,f5] at f12
    clear ih121; exact fL q2m
   try simp only [f4,f5] at f9
   intro h; have f13 := ih121 _ _ h; clear h
   try simp only [en.down,f4,f5] at f13
   try simp only [f4,f5] at f13
   clear ih121; exact fL q2m
  intro h; have f14 := ih121 _ _ h; clear h
  try simp only [en.down,f4,f5] at f14
  try simp only [f4,f5] at f14
  clear ih121; exact fL q2m
 rintro ⟨⟩
 clear ih121; exact fL q2m
theorem qtu {d b b_2 b_3 r_ r_2 r_3 r} (h : qdk d b b_2 b_3 r_ r_2 r_3 = some r) : O.call 66 [AV.ptr 0 0,v_i d,AV.pv (PV.sl true 0 [])] [(0,Blk.box [v_l 2 T.qi.enc b,v_s b_2,v_s b_3,v_r 1 r_,v_r 2 r_2,v_r 3 r_3]),(1,b_r 20 T.qf.enc r_),(2,b_r 1 qc r_2),(3,b_r 1 qh r_3)] = some (v_r 4 r,[(0,Blk.box [v_l 2 T.qi.enc b,v_s b_2,v_s b_3,v_r 1 r_,v_r 2 r_2,v_r 3 r_3]),(1,b_r 20 T.qf.enc r_),(2,b_r 1 qc r_2),(3,b_r 1 qh r_3),(4,b_r 1 qc r)]) := by
 revert h; unfold qdk
 refine bs fun v2 h1 => ?_
 have f1 := zmb _ _ h1
 try simp only [en.down] at f1
 rintro ⟨⟩
 exact fF q2m
theorem qw4 : ∀ p r,q2a p = some r → O.loop 66 0 ⟨[(0,AV.ptr 0 0),(1,v_i p.1),(2,v_r 1 p.2.2.2.2.2.1),(7,v_i p.2.1)],[(0,Blk.box [v_l 2 T.qi.enc p.2.2.1,v_s p.2.2.2.1,v_s p.2.2.2.2.1,v_r 2 p.2.2.2.2.2.2.1,v_r 3 p.2.2.2.2.2.2.2.1,v_r 4 p.2.2.2.2.2.2.2.2]),(1,b_r 1 qc p.2.2.2.2.2.1),(2,b_r 20 T.qf.enc p.2.2.2.2.2.2.1),(3,b_r 1 qc p.2.2.2.2.2.2.2.1),(4,b_r 1 qh p.2.2.2.2.2.2.2.2)],5⟩ = some (Ex.normal,⟨[(2,v_r 1 r)],[(0,Blk.box [v_l 2 T.qi.enc p.2.2.1,v_s p.2.2.2.1,v_s p.2.2.2.2.1,v_r 2 p.2.2.2.2.2.2.1,v_r 3 p.2.2.2.2.2.2.2.1,v_r 4 p.2.2.2.2.2.2.2.2]),(1,b_r 1 qc r),(2,b_r 20 T.qf.enc p.2.2.2.2.2.2.1),(3,b_r 1 qc p.2.2.2.2.2.2.2.1),(4,b_r 1 qh p.2.2.2.2.2.2.2.2)],5⟩) := by
 refine q2a.partial_correctness _ ?_
 rintro q2a ih124 ⟨d,i,w,w2,w3,ns,r2_,r3_,r4_⟩ r; dsimp only
 refine bW T.qf.enc 20 fun x2 h1 f1 f2 f3 f4 f5 => ?_
 apply it <;> intro h3
 ·refine bw T.qf.enc fun x5 h4 f6 f7 f8 => ?_
  apply it <;> intro h6
  ·refine bs fun v8 h7 => ?_
   have f9 := q9m h7
   try simp only [en.down,f4,f5] at f9
   apply it <;> intro h9
   ·refine gd fun h10 => ?_
    have f10 := rG 1 qc ns
    have f11 : List.map qc ns ++ [[PV.int IntKind.i64 x5.n]] = List.map qc (ns ++ [x5.n]) := by simp only [List.map_append,List.map_cons,List.map_nil,zf,zb,ze,qc] <;> rfl
    try simp only [f4,f5] at f9
    intro h; have f12 := ih124 _ _ h; clear h
    try simp only [en.down,f4,f5] at f12
    try simp only [f4,f5] at f12
    clear ih124; exact fL q2m
   try simp only [f4,f5] at f9
   intro h; have f13 := ih124 _ _ h; clear h
   try simp only [en.down,f4,f5] at f13
   try simp only [f4,f5] at f13
   clear ih124; exact fL q2m
  intro h; have f14 := ih124 _ _ h; clear h
  try simp only [en.down,f4,f5] at f14
  try simp only [f4,f5] at f14
  clear ih124; exact fL q2m
 rintro ⟨⟩
 clear ih124; exact fL q2m
theorem znp {d b b_2 b_3 r_ r_2 r_3 r_4 r} (h : qaz d b b_2 b_3 r_ r_2 r_3 r_4 = some r) : O.call 66 [AV.ptr 0 0,v_i d,v_r 1 r_] [(0,Blk.box [v_l 2 T.qi.enc b,v_s b_2,v_s b_3,v_r 2 r_2,v_r 3 r_3,v_r 4 r_4]),(1,b_r 1 qc r_),(2,b_r 20 T.qf.enc r_2),(3,b_r 1 qc r_3),(4,b_r 1 qh r_4)] = some (v_r 1 r,[(0,Blk.box [v_l 2 T.qi.enc b,v_s b_2,v_s b_3,v_r 2 r_2,v_r 3 r_3,v_r 4 r_4]),(1,b_r 1 qc r),(2,b_r 20 T.qf.enc r_2),(3,b_r 1 qc r_3),(4,b_r 1 qh r_4)]) := by
 revert h; unfold qaz
 refine bs fun v2 h1 => ?_
 have f1 := qw4 _ _ h1
 try simp only [en.down] at f1
 rintro ⟨⟩
 exact fF q2m
theorem zio : ∀ p r,q6e p = some r → O.loop 43 2 ⟨[(0,AV.ptr 0 0),(3,v_i p.1),(4,v_r 4 p.2.2.2.2.2.2.2.2),(5,v_i p.2.1)],[(0,Blk.box [v_l 2 T.qi.enc p.2.2.1,v_s p.2.2.2.1,v_s p.2.2.2.2.1,v_r 1 p.2.2.2.2.2.1,v_r 2 p.2.2.2.2.2.2.1,v_r 3 p.2.2.2.2.2.2.2.1]),(1,b_r 20 T.qf.enc p.2.2.2.2.2.1),(2,b_r 1 qc p.2.2.2.2.2.2.1),(3,b_r 1 qh p.2.2.2.2.2.2.2.1),(4,b_r 1 qc p.2.2.2.2.2.2.2.2)],5⟩ = some (Ex.normal,⟨[(0,AV.ptr 0 0),(3,v_i p.1),(4,v_r 4 r)],[(0,Blk.box [v_l 2 T.qi.enc p.2.2.1,v_s p.2.2.2.1,v_s p.2.2.2.2.1,v_r 1 p.2.2.2.2.2.1,v_r 2 p.2.2.2.2.2.2.1,v_r 3 p.2.2.2.2.2.2.2.1]),(1,b_r 20 T.qf.enc p.2.2.2.2.2.1),(2,b_r 1 qc p.2.2.2.2.2.2.1),(3,b_r 1 qh p.2.2.2.2.2.2.2.1),(4,b_r 1 qc r)],5⟩) := by
 refine q6e.partial_correctness _ ?_
 rintro q6e ih122 ⟨i,k,w,w2,w3,r1_,r2_,r3_,in_⟩ r; dsimp only
 apply it <;> intro h1
 ·refine bW qc 1 fun x3 h2 f1 f2 f3 f4 f5 => ?_
  refine bs fun v5 h4 => ?_
  have f6 := qjf h4
  try simp only [en.down,f4,f5] at f6
  apply it <;> intro h6
  ·refine bs fun v8 h7 => ?_
   have f7 := znp h7
   try simp only [en.down,f4,f5] at f7
   try simp only [f4,f5] at f6 f7
   intro h; have f8 := ih122 _ _ h; clear h
   try simp only [en.down,f4,f5] at f8
   try simp only [f4,f5] at f8
   clear ih122; exact fL q2s
  try simp only [f4,f5] at f6
  intro h; have f9 := ih122 _ _ h; clear h
  try simp only [en.down,f4,f5] at f9
  try simp only [f4,f5] at f9
  clear ih122; exact fL q2s
 rintro ⟨⟩
 clear ih122; exact fL q2s
def qp8 (w : (Sl T.qi)) (w2 : Bytes) (w3 : Bytes) (r1_ : (List T.qf)) (r2_ : (List Int)) (r3_ : (List Bytes)) : ((Bool) ⊕ (Unit)) → Ex × St
 | .inl y => (Ex.ret,⟨[(2,v_b y)],[(0,Blk.box [v_l 2 T.qi.enc w,v_s w2,v_s w3,v_r 1 r1_,v_r 2 r2_,v_r 3 r3_]),(1,b_r 20 T.qf.enc r1_),(2,b_r 1 qc r2_),(3,b_r 1 qh r3_)],4⟩)
 | .inr y => (Ex.normal,⟨[(2,AV.undef)],[(0,Blk.box [v_l 2 T.qi.enc w,v_s w2,v_s w3,v_r 1 r1_,v_r 2 r2_,v_r 3 r3_]),(1,b_r 20 T.qf.enc r1_),(2,b_r 1 qc r2_),(3,b_r 1 qh r3_)],4⟩)
attribute [local go_sem] qp8
theorem zt4 : ∀ p r,q1h p = some r → O.loop 43 0 ⟨[(0,AV.ptr 0 0),(3,v_i p.1)],[(0,Blk.box [v_l 2 T.qi.enc p.2.1,v_s p.2.2.1,v_s p.2.2.2.1,v_r 1 p.2.2.2.2.1,v_r 2 p.2.2.2.2.2.1,v_r 3 p.2.2.2.2.2.2]),(1,b_r 20 T.qf.enc p.2.2.2.2.1),(2,b_r 1 qc p.2.2.2.2.2.1),(3,b_r 1 qh p.2.2.2.2.2.2)],4⟩ = some (qp8 p.2.1 p.2.2.1 p.2.2.2.1 p.2.2.2.2.1 p.2.2.2.2.2.1 p.2.2.2.2.2.2 r) := by
 refine q1h.partial_correctness _ ?_
 rintro q1h ih119 ⟨i,w,w2,w3,r1_,r2_,r3_⟩ r; dsimp only
 apply it <;> intro h1
 ·refine bW T.qf.enc 20 fun x3 h2 f1 f2 f3 f4 f5 => ?_
  apply it <;> intro h4
  ·intro h; have f6 := ih119 _ _ h; clear h
   try simp only [en.down,f4,f5] at f6
   try simp only [f4,f5] at f6
   clear ih119; exact fL q2s
  apply it <;> intro h5
  ·intro h; have f7 := ih119 _ _ h; clear h
   try simp only [en.down,f4,f5] at f7
   try simp only [f4,f5] at f7
   clear ih119; exact fL q2s
  refine bs fun v7 h6 => ?_
  have f8 := qtu h6
  try simp only [en.down,f4,f5] at f8
  refine bs fun v9 h8 => ?_
  have f9 := zio _ _ h8
  try simp only [en.down,f4,f5] at f9
  refine bs fun v11 h10 => ?_
  have f10 := q9m h10
  try simp only [en.down,f4,f5] at f10
  apply it <;> intro h12
  ·try simp only [h12,f4,f5] at f8 f9 f10
   rintro ⟨⟩
   clear ih119; exact fL q2s
  try simp only [h12,f4,f5] at f8 f9 f10
  intro h; have f11 := ih119 _ _ h; clear h
  try simp only [en.down,f4,f5] at f11
  try simp only [h12,f4,f5] at f11
  clear ih119; exact fL q2s
 rintro ⟨⟩
 clear ih119; exact fL q2s
theorem z1r {b b_2 b_3 r_ r_2 r_3 r} (h : qay b b_2 b_3 r_ r_2 r_3 = some r) : O.call 43 [AV.ptr 0 0] [(0,Blk.box [v_l 2 T.qi.enc b,v_s b_2,v_s b_3,v_r 1 r_,v_r 2 r_2,v_r 3 r_3]),(1,b_r 20 T.qf.enc r_),(2,b_r 1 qc r_2),(3,b_r 1 qh r_3)] = some (v_b r,[(0,Blk.box [v_l 2 T.qi.enc b,v_s b_2,v_s b_3,v_r 1 r_,v_r 2 r_2,v_r 3 r_3]),(1,b_r 20 T.qf.enc r_),(2,b_r 1 qc r_2),(3,b_r 1 qh r_3)]) := by
 revert h; unfold qay
 refine bs fun v2 h1 => ?_
 have f1 := zt4 _ _ h1
 try simp only [en.down] at f1
 rcases v2 with y3 | y4
 ·dsimp only
  rintro ⟨⟩
  exact fF q2s
 dsimp only
 rintro ⟨⟩
 exact fF q2s
theorem qu9 : ∀ p r,q4g p = some r → O.loop 20 0 ⟨[(11,AV.ptr 0 0),(12,v_i p.1),(13,v_i p.2.1)],[(0,Blk.box [v_l 2 T.qi.enc p.2.2.1,v_s p.2.2.2.1,v_s p.2.2.2.2.1,v_r 1 p.2.2.2.2.2.1,v_r 2 p.2.2.2.2.2.2.1,v_r 3 p.2.2.2.2.2.2.2]),(1,b_r 20 T.qf.enc p.2.2.2.2.2.1),(2,b_r 1 qc p.2.2.2.2.2.2.1),(3,b_r 1 qh p.2.2.2.2.2.2.2)],4⟩ = some (Ex.normal,⟨[(11,AV.ptr 0 0),(12,v_i r)],[(0,Blk.box [v_l 2 T.qi.enc p.2.2.1,v_s p.2.2.2.1,v_s p.2.2.2.2.1,v_r 1 p.2.2.2.2.2.1,v_r 2 p.2.2.2.2.2.2.1,v_r 3 p.2.2.2.2.2.2.2]),(1,b_r 20 T.qf.enc p.2.2.2.2.2.1),(2,b_r 1 qc p.2.2.2.2.2.2.1),(3,b_r 1 qh p.2.2.2.2.2.2.2)],4⟩) := by
 refine q4g.partial_correctness _ ?_
 rintro q4g ih125 ⟨many,i,w,w2,w3,r1_,r2_,r3_⟩ r; dsimp only
 apply it <;> intro h1
 ·refine bW T.qf.enc 20 fun x3 h2 f1 f2 f3 f4 f5 => ?_
  apply it <;> intro h4
  ·intro h; have f6 := ih125 _ _ h; clear h
   try simp only [en.down,f4,f5] at f6
   try simp only [f4,f5] at f6
   clear ih125; exact fL q0a
  intro h; have f7 := ih125 _ _ h; clear h
  try simp only [en.down,f4,f5] at f7
  try simp only [f4,f5] at f7
  clear ih125; exact fL q0a
 rintro ⟨⟩
 clear ih125; exact fL q0a
def qn8 (r1_ : (List Int)) (r2_ : (List Bytes)) : ((Int) ⊕ (Unit)) → Ex × St
 | .inl y => (Ex.ret,⟨[(4,v_i y)],[(0,Blk.box [v_r 1 r1_,v_r 2 r2_]),(1,b_r 1 qc r1_),(2,b_r 1 qh r2_)],3⟩)
 | .inr y => (Ex.normal,⟨[(4,AV.undef)],[(0,Blk.box [v_r 1 r1_,v_r 2 r2_]),(1,b_r 1 qc r1_),(2,b_r 1 qh r2_)],3⟩)
attribute [local go_sem] qn8
theorem z90 : ∀ p r,q5k p = some r → O.loop 79 0 ⟨[(0,AV.ptr 0 0),(1,v_i p.1),(5,v_i p.2.1)],[(0,Blk.box [v_r 1 p.2.2.1,v_r 2 p.2.2.2]),(1,b_r 1 qc p.2.2.1),(2,b_r 1 qh p.2.2.2)],3⟩ = some (qn8 p.2.2.1 p.2.2.2 r) := by
 refine q5k.partial_correctness _ ?_
 rintro q5k ih130 ⟨n,i,r1_,r2_⟩ r; dsimp only
 apply it <;> intro h1
 ·refine bW qc 1 fun x3 h2 f1 f2 f3 f4 f5 => ?_
  apply it <;> intro h4
  ·rintro ⟨⟩
   clear ih130; exact fL qd3
  intro h; have f6 := ih130 _ _ h; clear h
  try simp only [en.down,f4,f5] at f6
  try simp only [f4,f5] at f6
  clear ih130; exact fL qd3
 rintro ⟨⟩
 clear ih130; exact fL qd3
theorem zqg {n r_ r_2 r} (h : qcc n r_ r_2 = some r) : O.call 79 [AV.ptr 0 0,v_i n] [(0,Blk.box [v_r 1 r_,v_r 2 r_2]),(1,b_r 1 qc r_),(2,b_r 1 qh r_2)] = some (v_i r,[(0,Blk.box [v_r 1 r_,v_r 2 r_2]),(1,b_r 1 qc r_),(2,b_r 1 qh r_2)]) := by
 revert h; unfold qcc
 refine bs fun v2 h1 => ?_
 have f1 := z90 _ _ h1
 try simp only [en.down] at f1
 rcases v2 with y3 | y4
 ·dsimp only
  rintro ⟨⟩
  exact fF qd3
 dsimp only
 rintro ⟨⟩
 exact fF qd3
theorem zfq : ∀ p r,q14 p = some r → O.loop 133 0 ⟨[(0,v_s p.1),(3,v_r 0 p.2.2),(4,v_i p.2.1)],[(0,Blk.row false 1 (List.map qc p.2.2))],1⟩ = some (Ex.normal,⟨[(3,v_r 0 r)],[(0,Blk.row false 1 (List.map qc r))],1⟩) := by
 refine q14.partial_correctness _ ?_
 rintro q14 ih138 ⟨s,i,l⟩ r; dsimp only
 apply it <;> intro h1
 ·apply it <;> intro h2
  ·refine gd fun h3 => ?_
   have f1 : List.map qc l ++ [[PV.int IntKind.i64 i]] = List.map qc (l ++ [i]) := by simp only [List.map_append,List.map_cons,List.map_nil,zf,zb,ze,qc] <;> rfl
   intro h; have f2 := ih138 _ _ h; clear h
   try simp only [en.down] at f2
   clear ih138; exact fL qc9
  refine bc fun b5 h4 f3 f4 => ?_
  refine bs fun v7 h6 => ?_
  have f5 := qgd h6
  try simp only [en.down] at f5
  apply it <;> intro h8
  ·refine gd fun h9 => ?_
   have f6 : List.map qc l ++ [[PV.int IntKind.i64 i]] = List.map qc (l ++ [i]) := by simp only [List.map_append,List.map_cons,List.map_nil,zf,zb,ze,qc] <;> rfl
   try simp only [h8] at f5
   intro h; have f7 := ih138 _ _ h; clear h
   try simp only [en.down] at f7
   try simp only [h8] at f7
   clear ih138; exact fL qc9
  try simp only [h8] at f5
  intro h; have f8 := ih138 _ _ h; clear h
  try simp only [en.down] at f8
  try simp only [h8] at f8
  clear ih138; exact fL qc9
 rintro ⟨⟩
 clear ih138; exact fL qc9
theorem qrr {s r} (h : qbg s = some r) : O.call 133 [v_s s] [] = some (v_l 1 qc r,[]) := by
 revert h; unfold qbg
 refine bs fun v2 h1 => ?_
 have f1 := zfq _ _ h1
 try simp only [en.down] at f1
 rintro ⟨⟩
 exact fF qc9
theorem qld {fold s fuel r} (h : q9o fold s fuel = some r) : O.call 121 [v_b fold,v_s s,v_i fuel] [] = some (AV.ptr 0 0,[(0,b_x (T.qp.enc r))]) := by
 revert h; unfold q9o
 refine bs fun v2 h1 => ?_
 have f1 := qg3 h1
 try simp only [en.down] at f1
 refine bs fun v4 h3 => ?_
 have f2 := qrr h3
 try simp only [en.down] at f2
 rintro ⟨⟩
 exact fF zrs
theorem qcg : (∀ p r,q11 p = some r → O.call 143 [v_g (T.Rx.enc p)] [] = some (v_i r,[])) ∧ (∀ p r,q43 p = some r → O.loop 143 0 ⟨[(1,AV.ptr 0 0),(3,v_i p.1),(4,v_i p.2.1)],[(0,b_x (T.Rx.enc p.2.2))],1⟩ = some (Ex.normal,⟨[(3,v_i r)],[(0,b_x (T.Rx.enc p.2.2))],1⟩)) := by
 refine q11.mutual_partial_correctness _ _ ?_ ?_
 ·rintro q43 ih145 x r; try dsimp only
  apply it <;> intro h1
  ·refine bs fun v3 h2 => ?_
   have f1 := ih145 _ _ h2
   try simp only [en.down] at f1
   rintro ⟨⟩
   clear ih145; exact fF qe7
  refine bs fun v5 h4 => ?_
  have f2 := ih145 _ _ h4
  try simp only [en.down] at f2
  rintro ⟨⟩
  clear ih145; exact fF qe7
 ·rintro q11 q43 ih144 ih145 ⟨n,i,x⟩ r; dsimp only
  apply it <;> intro h1
  ·refine bg T.Rx.enc fun x3 h2 f1 f2 f3 => ?_
   refine bs fun v5 h4 => ?_
   have f4 := ih144 _ _ h4
   try simp only [en.down] at f4
   intro h; have f5 := ih145 _ _ h; clear h
   try simp only [en.down] at f5
   clear ih144 ih145; exact fL qe7
  rintro ⟨⟩
  clear ih144 ih145; exact fL qe7
theorem zv6 : ∀ p r,q6r p = some r → O.loop 134 0 ⟨[(0,AV.ptr 0 0),(2,v_i p.1),(4,AV.ptr 1 0),(6,AV.ptr 2 0),(8,v_r 3 p.2.2.2.2.2),(9,v_i p.2.1)],[(0,b_x (T.qp.enc p.2.2.1)),(1,b_x (T.Rx.enc p.2.2.2.1)),(2,b_x (T.qw.enc p.2.2.2.2.1)),(3,b_r 2 T.Span.enc p.2.2.2.2.2)],4⟩ = some (Ex.normal,⟨[(0,AV.ptr 0 0),(2,v_i p.1),(4,AV.ptr 1 0),(6,AV.ptr 2 0),(8,v_r 3 r)],[(0,b_x (T.qp.enc p.2.2.1)),(1,b_x (T.Rx.enc p.2.2.2.1)),(2,b_x (T.qw.enc p.2.2.2.2.1)),(3,b_r 2 T.Span.enc r)],4⟩) := by
 refine q6r.partial_correctness _ ?_
 rintro q6r ih143 ⟨i,j,r_,x,t6,none_⟩ r; dsimp only
 refine bs fun v2 h1 => ?_
 have f1 := qcg.1 _ _ h1
 try simp only [en.down] at f1
 apply it <;> intro h3
 ·refine gd fun h4 => ?_
  have f2 := rG 2 T.Span.enc none_
  have f3 : List.map T.Span.enc none_ ++ [[PV.int IntKind.i64 ((-1) : Int),PV.int IntKind.i64 ((-1) : Int)]] = List.map T.Span.enc (none_ ++ [(T.Span.mk ((-1) : Int) ((-1) : Int))]) := by simp only [List.map_append,List.map_cons,List.map_nil,zf,zb,ze,T.Span.za] <;> rfl
  intro h; have f4 := ih143 _ _ h; clear h
  try simp only [en.down] at f4
  clear ih143; exact fL qdy
 rintro ⟨⟩
 clear ih143; exact fL qdy
theorem z3j : ∀ p r,q89 p = some r → O.loop 156 0 ⟨[(0,AV.ptr 0 0),(1,AV.pv (T.qy.jq p.1)),(2,v_i p.2.1),(11,v_r 1 p.2.2.2.2),(12,v_i p.2.2.1)],[(0,b_x (T.qp.enc p.2.2.2.1)),(1,Blk.row false 2 (List.map T.Span.enc p.2.2.2.2))],2⟩ = some (Ex.normal,⟨[(0,AV.ptr 0 0),(1,AV.pv (T.qy.jq p.1)),(2,v_i p.2.1),(11,v_r 1 r)],[(0,b_x (T.qp.enc p.2.2.2.1)),(1,Blk.row false 2 (List.map T.Span.enc r))],2⟩) := by
 refine q89.partial_correctness _ ?_
 rintro q89 ih149 ⟨k,i,j,r_,p_⟩ r; dsimp only
 refine bs fun x2 h1 => ?_
 have f1 := T.qy.q7w h1
 try simp only [en.down] at f1
 refine bs fun v4 h3 => ?_
 have f2 := qcg.1 _ _ h3
 try simp only [en.down,f1] at f2
 apply it <;> intro h5
 ·refine bw T.Span.enc fun x7 h6 f3 f4 f5 => ?_
  have f6 := map_set T.Span.enc p_ ((IntKind.i64.wrap (x2.g + j)).toNat) (T.Span.mk ((-1) : Int) ((-1) : Int))
  try simp only [en.down] at f6
  try simp only [f1] at f2 f6
  intro h; have f7 := ih149 _ _ h; clear h
  try simp only [en.down,f1] at f7
  try simp only [f1] at f7
  clear ih149; exact fL qhj
 try simp only [f1] at f2
 rintro ⟨⟩
 clear ih149; exact fL qhj
theorem zkb : ∀ p r,q56 p = some r → O.loop 144 1 ⟨[(0,AV.ptr 0 0),(1,AV.pv (T.qy.jq p.1)),(2,v_i p.2.1),(3,v_l 2 T.Span.enc p.2.2.1),(12,AV.pv (T.qy.jq p.2.2.2.1)),(13,v_i p.2.2.2.2.1),(14,v_i p.2.2.2.2.2.1)],[(0,b_x (T.qp.enc p.2.2.2.2.2.2))],1⟩ = some (Ex.normal,⟨[(0,AV.ptr 0 0),(2,v_i p.2.1),(3,v_l 2 T.Span.enc p.2.2.1),(12,AV.pv (T.qy.jq r))],[(0,b_x (T.qp.enc p.2.2.2.2.2.2))],1⟩) := by
 refine q56.partial_correctness _ ?_
 rintro q56 ih150 ⟨k,i,parts,rest,g,j,r_⟩ r; dsimp only
 apply it <;> intro h1
 ·refine bs fun x3 h2 => ?_
  have f1 := T.qy.q7w h2
  try simp only [en.down] at f1
  refine bg T.Rx.enc fun x5 h4 f2 f3 f4 => ?_
  refine bs fun v7 h6 => ?_
  have f5 := qcg.1 _ _ h6
  try simp only [en.down,f1] at f5
  try simp only [f1] at f5
  intro h; have f6 := ih150 _ _ h; clear h
  try simp only [en.down,f1] at f6
  try simp only [f1] at f6
  clear ih150; exact fL ng
 rintro ⟨⟩
 clear ih150; exact fL ng
theorem qgn {c r} (h : q7g c = some r) : O.call 159 [v_s c] [] = some (v_b r,[]) := by
 revert h; unfold q7g
 apply it <;> intro h1
 ·refine bc fun b3 h2 f1 f2 => ?_
  refine bs fun v5 h4 => ?_
  have f3 := qfk h4
  try simp only [en.down] at f3
  apply it <;> intro h6
  ·try simp only [h6] at f3
   rintro ⟨⟩
   exact fF qdx
  refine bs fun v8 h7 => ?_
  have f4 := q75 h7
  try simp only [en.down] at f4
  apply it <;> intro h9
  ·try simp only [h6,h9] at f3 f4
   rintro ⟨⟩
   exact fF qdx
  try simp only [h6,h9] at f3 f4
  rintro ⟨⟩
  exact fF qdx
 rintro ⟨⟩
 exact fF qdx
def qlx : ((Bool) ⊕ (Unit)) → Ex × St
 | .inl y => (Ex.ret,⟨[(4,v_b y)],[],0⟩)
 | .inr y => (Ex.normal,⟨[(4,AV.undef)],[],0⟩)
attribute [local go_sem] qlx
theorem znz : ∀ p r,q4f p = some r → O.loop 161 0 ⟨[(0,v_l 2 T.Row.enc p.1),(1,v_s p.2.1),(5,v_i p.2.2)],[],0⟩ = some (qlx r) := by
 refine q4f.partial_correctness _ ?_
 rintro q4f ih157 ⟨rows,c,i⟩ r; dsimp only
 apply it <;> intro h1
 ·refine bg T.Row.enc fun x3 h2 f1 f2 f3 => ?_
  apply it <;> intro h4
  ·apply it <;> intro h5
   ·rintro ⟨⟩
    clear ih157; exact fL q9n
   intro h; have f4 := ih157 _ _ h; clear h
   try simp only [en.down] at f4
   clear ih157; exact fL q9n
  intro h; have f5 := ih157 _ _ h; clear h
  try simp only [en.down] at f5
  clear ih157; exact fL q9n
 rintro ⟨⟩
 clear ih157; exact fL q9n
theorem qi0 {rows c r} (h : q6t rows c = some r) : O.call 161 [v_l 2 T.Row.enc rows,v_s c] [] = some (v_b r,[]) := by
 revert h; unfold q6t
 refine bs fun v2 h1 => ?_
 have f1 := znz _ _ h1
 try simp only [en.down] at f1
 rcases v2 with y3 | y4
 ·dsimp only
  rintro ⟨⟩
  exact fF q9n
 dsimp only
 rintro ⟨⟩
 exact fF q9n
theorem ztc : ∀ p r,q3q p = some r → O.loop 162 0 ⟨[(3,v_r 0 p.2),(4,v_i p.1)],[(0,Blk.row false 1 (List.map qm p.2))],1⟩ = some (Ex.normal,⟨[(3,v_r 0 r)],[(0,Blk.row false 1 (List.map qm r))],1⟩) := by
 refine q3q.partial_correctness _ ?_
 rintro q3q ih159 ⟨i,b⟩ r; dsimp only
 apply it <;> intro h1
 ·refine bw qm fun x3 h2 f1 f2 f3 => ?_
  apply it <;> intro h4
  ·apply it <;> intro h5
   ·have f4 := map_set qm b i.toNat (u8 (IntKind.u8.wrap ((x3.toNat : Int) - (32 : Int))))
    try simp only [en.down] at f4
    intro h; have f5 := ih159 _ _ h; clear h
    try simp only [en.down] at f5
    clear ih159; exact fL qd4
   intro h; have f6 := ih159 _ _ h; clear h
   try simp only [en.down] at f6
   clear ih159; exact fL qd4
  intro h; have f7 := ih159 _ _ h; clear h
  try simp only [en.down] at f7
  clear ih159; exact fL qd4
 rintro ⟨⟩
 clear ih159; exact fL qd4
theorem zak {s r} (h : qal s = some r) : O.call 162 [v_s s] [] = some (v_s r,[]) := by
 revert h; unfold qal
 refine bs fun v2 h1 => ?_
 have f1 := ztc _ _ h1
 try simp only [en.down] at f1
 have f2 := jh 1 qm v2
 have f3 := bytesOf_map v2
 rintro ⟨⟩
 exact fF qd4
theorem z2m {rows not fold c r} (h : qcq rows not fold c = some r) : O.call 160 [v_l 2 T.Row.enc rows,v_b not,v_b fold,v_s c] [] = some (v_b r,[]) := by
 revert h; unfold qcq
 refine bs fun v2 h1 => ?_
 have f1 := qi0 h1
 try simp only [en.down] at f1
 apply it <;> intro h3
 ·refine bs fun v5 h4 => ?_
  have f2 := qfj h4
  try simp only [en.down] at f2
  refine bs fun v7 h6 => ?_
  have f3 := qi0 h6
  try simp only [en.down] at f3
  apply it <;> intro h8
  ·try simp only [h3,h8] at f1 f2 f3
   rintro ⟨⟩
   exact fF qer
  refine bs fun v10 h9 => ?_
  have f4 := zak h9
  try simp only [en.down] at f4
  refine bs fun v12 h11 => ?_
  have f5 := qi0 h11
  try simp only [en.down] at f5
  apply it <;> intro h13
  ·try simp only [h3,h8,h13] at f1 f2 f3 f4 f5
   rintro ⟨⟩
   exact fF qer
  try simp only [h3,h8,h13] at f1 f2 f3 f4 f5
  rintro ⟨⟩
  exact fF qer
 try simp only [h3] at f1
 rintro ⟨⟩
 exact fF qer
theorem qst {x i b r} (h : qd7 x i b = some r) : O.call 157 [AV.ptr 0 0,v_g (T.Rx.enc x),v_i i] [(0,b_x (T.qp.enc b))] = some (AV.tup [v_i r.1,v_b r.2],[(0,b_x (T.qp.enc b))]) := by
 revert h; unfold qd7
 apply it <;> intro h1
 ·rintro ⟨⟩
  exact fF q0t
 apply it <;> intro h2
 ·rintro ⟨⟩
  exact fF q0t
 refine xq ?_ (fun h3 h19 => ?_)
 ·rintro (⟨h3,h19⟩ | ⟨h3,h19⟩)
  all_goals
  apply it <;> intro h4
  ·refine bg qh fun x6 h5 f1 f2 f3 => ?_
   refine bs fun v8 h7 => ?_
   have f4 := qgn h7
   try simp only [en.down] at f4
   apply it <;> intro h9
   ·refine bg qh fun x11 h10 f5 f6 f7 => ?_
    refine bs fun v13 h12 => ?_
    have f8 := qgn h12
    try simp only [en.down] at f8
    rintro ⟨⟩
    exact fF q0t
   rintro ⟨⟩
   exact fF q0t
  apply it <;> intro h14
  ·refine bg qh fun x16 h15 f9 f10 f11 => ?_
   refine bs fun v18 h17 => ?_
   have f12 := qgn h17
   try simp only [en.down] at f12
   rintro ⟨⟩
   exact fF q0t
  rintro ⟨⟩
  exact fF q0t
 apply it <;> intro h35
 ·rintro ⟨⟩
  exact fF q0t
 refine bg qh fun x37 h36 f13 f14 f15 => ?_
 apply it <;> intro h38
 ·rintro ⟨⟩
  exact fF q0t
 apply it <;> intro h39
 ·refine bs fun v41 h40 => ?_
  have f16 := z2m h40
  try simp only [en.down] at f16
  rintro ⟨⟩
  exact fF q0t
 apply it <;> intro h42
 ·rintro ⟨⟩
  exact fF q0t
 apply it <;> intro h43
 ·refine bs fun v45 h44 => ?_
  have f17 := qfj h44
  try simp only [en.down] at f17
  refine bs fun v47 h46 => ?_
  have f18 := qfj h46
  try simp only [en.down] at f18
  try simp only [h43] at f17 f18
  rintro ⟨⟩
  exact fF q0t
 rintro ⟨⟩
 exact fF q0t
def qny : ((Int × (Sl T.Span) × Bool × T.qp) ⊕ (T.qp)) → Ex × St
 | .inl y => (Ex.ret,⟨[(8,v_i y.1),(9,v_l 2 T.Span.enc y.2.1),(10,v_b y.2.2.1)],[(0,b_x (T.qp.enc y.2.2.2))],1⟩)
 | .inr y => (Ex.normal,⟨[(8,AV.undef),(9,AV.undef),(10,AV.undef)],[(0,b_x (T.qp.enc y))],1⟩)
attribute [local go_sem] qny
theorem zrq : (∀ p r,xm p = some r → O.call 144 [AV.ptr 0 0,AV.pv (T.qy.jq p.1),v_i p.2.1,v_l 2 T.Span.enc p.2.2.1] [(0,b_x (T.qp.enc p.2.2.2))] = some (AV.tup [v_i r.1,v_l 2 T.Span.enc r.2.1,v_b r.2.2.1],[(0,b_x (T.qp.enc r.2.2.2))])) ∧ (∀ p r,qaj p = some r → O.call 154 [AV.ptr 0 0,AV.pv (T.qy.jq p.1),v_i p.2.1,v_l 2 T.Span.enc p.2.2.1] [(0,b_x (T.qp.enc p.2.2.2))] = some (AV.tup [v_i r.1,v_l 2 T.Span.enc r.2.1,v_b r.2.2.1],[(0,b_x (T.qp.enc r.2.2.2))])) ∧ (∀ p r,q63 p = some r → O.loop 144 3 ⟨[(0,AV.ptr 0 0),(1,AV.pv (T.qy.jq p.1)),(2,v_i p.2.1),(3,v_l 2 T.Span.enc p.2.2.1),(15,v_i p.2.2.2.1),(16,v_i p.2.2.2.2.1)],[(0,b_x (T.qp.enc p.2.2.2.2.2))],1⟩ = some (qny r)) ∧ (∀ p r,q6i p = some r → O.call 153 [AV.ptr 0 0,AV.pv (T.qy.jq p.1),v_i p.2.1,v_l 2 T.Span.enc p.2.2.1] [(0,b_x (T.qp.enc p.2.2.2))] = some (AV.tup [v_i r.1,v_l 2 T.Span.enc r.2.1,v_b r.2.2.1],[(0,b_x (T.qp.enc r.2.2.2))])) ∧ (∀ p r,q0b p = some r → O.call 156 [AV.ptr 0 0,AV.pv (T.qy.jq p.1),v_i p.2.1,v_l 2 T.Span.enc p.2.2.1] [(0,b_x (T.qp.enc p.2.2.2))] = some (AV.tup [v_i r.1,v_l 2 T.Span.enc r.2.1,v_b r.2.2.1],[(0,b_x (T.qp.enc r.2.2.2))])) := by
 refine xm.mutual_partial_correctness _ _ _ _ _ ?_ ?_ ?_ ?_ ?_
 ·rintro xm qaj q63 q6i ih146 ih152 ih151 ih147 ⟨k,i,parts,b⟩ r; dsimp only
  have f1 := T.qy.z5u k
  apply it <;> intro h1
  ·rintro ⟨⟩
   clear ih146 ih147 ih151 ih152; exact fF ng
  refine bs fun x3 h2 => ?_
  have f2 := T.qy.q7w h2
  try simp only [en.down] at f2
  apply it <;> intro h4
  ·have f3 := jh 2 T.Span.enc parts.l
   refine gd fun h5 => ?_
   refine bg qc fun x7 h6 f4 f5 f6 => ?_
   refine bg qc fun x9 h8 f7 f8 f9 => ?_
   refine bw T.Span.enc fun x11 h10 f10 f11 f12 => ?_
   have f13 := map_set T.Span.enc parts.l x3.g.toNat (T.Span.mk x7 x9)
   try simp only [en.down] at f13
   refine bs fun v13 h12 => ?_
   have f14 := ih146 _ _ h12
   try simp only [en.down,f2] at f14
   try simp only [h1,f2] at f13 f14
   rintro ⟨⟩
   clear ih146 ih147 ih151 ih152; exact fF ng
  apply it <;> intro h14
  ·apply it <;> intro h15
   ·apply it <;> intro h16
    ·rintro ⟨⟩
     clear ih146 ih147 ih151 ih152; exact fF ng
    refine bs fun v18 h17 => ?_
    have f15 := ih147 _ _ h17
    try simp only [en.down,f2] at f15
    try simp only [h1,f2] at f15
    rintro ⟨⟩
    clear ih146 ih147 ih151 ih152; exact fF ng
   refine bs fun v20 h19 => ?_
   have f16 := ih147 _ _ h19
   try simp only [en.down,f2] at f16
   try simp only [h1,f2] at f16
   rintro ⟨⟩
   clear ih146 ih147 ih151 ih152; exact fF ng
  apply it <;> intro h21
  ·refine bs fun v23 h22 => ?_
   have f17 := qcg.1 _ _ h22
   try simp only [en.down,f2] at f17
   refine bs fun v25 h24 => ?_
   have f18 := zkb _ _ h24
   try simp only [en.down,f2] at f18
   refine bs fun v27 h26 => ?_
   have f19 := ih146 _ _ h26
   try simp only [en.down,f2] at f19
   try simp only [h1,f2] at f17 f18 f19
   rintro ⟨⟩
   clear ih146 ih147 ih151 ih152; exact fF ng
  apply it <;> intro h28
  ·refine bs fun v30 h29 => ?_
   have f20 := ih151 _ _ h29
   try simp only [en.down,f2] at f20
   rcases v30 with y31 | y32
   ·dsimp only
    try simp only [h1,f2] at f20
    rintro ⟨⟩
    clear ih146 ih147 ih151 ih152; exact fF ng
   dsimp only
   try simp only [h1,f2] at f20
   rintro ⟨⟩
   clear ih146 ih147 ih151 ih152; exact fF ng
  apply it <;> intro h33
  ·refine bs fun v35 h34 => ?_
   have f21 := ih147 _ _ h34
   try simp only [en.down,f2] at f21
   try simp only [h1,f2] at f21
   rintro ⟨⟩
   clear ih146 ih147 ih151 ih152; exact fF ng
  refine bs fun v37 h36 => ?_
  have f22 := ih152 _ _ h36
  try simp only [en.down,f2] at f22
  try simp only [h1,f2] at f22
  rintro ⟨⟩
  clear ih146 ih147 ih151 ih152; exact fF ng
 ·rintro xm ih146 ⟨k,i,parts,b⟩ r; dsimp only
  apply it <;> intro h1
  ·rintro ⟨⟩
   clear ih146; exact fF qai
  refine bs fun x3 h2 => ?_
  have f1 := T.qy.q7w h2
  try simp only [en.down] at f1
  apply it <;> intro h4
  ·refine bg T.Rx.enc fun x6 h5 f2 f3 f4 => ?_
   refine bs fun v8 h7 => ?_
   have f5 := ih146 _ _ h7
   try simp only [en.down,f1] at f5
   try simp only [f1] at f5
   rintro ⟨⟩
   clear ih146; exact fF qai
  apply it <;> intro h9
  ·refine bg T.Rx.enc fun x11 h10 f6 f7 f8 => ?_
   refine bs fun v13 h12 => ?_
   have f9 := ih146 _ _ h12
   try simp only [en.down,f1] at f9
   try simp only [f1] at f9
   rintro ⟨⟩
   clear ih146; exact fF qai
  refine bs fun v15 h14 => ?_
  have f10 := qst h14
  try simp only [en.down,f1] at f10
  apply it <;> intro h16
  ·try simp only [f1] at f10
   rintro ⟨⟩
   clear ih146; exact fF qai
  refine bs fun v18 h17 => ?_
  have f11 := ih146 _ _ h17
  try simp only [en.down,f1] at f11
  try simp only [f1] at f10 f11
  rintro ⟨⟩
  clear ih146; exact fF qai
 ·rintro xm q63 ih146 ih151 ⟨k,i,parts,g,j,r_⟩ r; dsimp only
  refine bs fun x2 h1 => ?_
  have f1 := T.qy.q7w h1
  try simp only [en.down] at f1
  apply it <;> intro h3
  ·refine bg T.Rx.enc fun x5 h4 f2 f3 f4 => ?_
   refine bs fun v7 h6 => ?_
   have f5 := ih146 _ _ h6
   try simp only [en.down,f1] at f5
   refine xq ?_ (fun h8 h9 => ?_)
   ·rintro (⟨h8,h9⟩ | ⟨h8,h9⟩)
    all_goals
    try simp only [h8,h9,f1] at f5
    rintro ⟨⟩
    clear ih146 ih151; exact fL ng
   refine bs fun v11 h10 => ?_
   have f6 := qcg.1 _ _ h10
   try simp only [en.down,f1] at f6
   try simp only [h8,h9,f1] at f5 f6
   intro h; have f7 := ih151 _ _ h; clear h
   try simp only [en.down,f1] at f7
   try simp only [h8,h9,f1] at f7
   clear ih146 ih151; exact fL ng
  rintro ⟨⟩
  clear ih146 ih151; exact fL ng
 ·rintro xm q0b ih146 ih148 ⟨k,i,parts,b⟩ r; dsimp only
  refine bs fun x2 h1 => ?_
  have f1 := T.qy.q7w h1
  try simp only [en.down] at f1
  apply it <;> intro h3
  ·apply it <;> intro h4
   ·refine bs fun v6 h5 => ?_
    have f2 := ih148 _ _ h5
    try simp only [en.down,f1] at f2
    try simp only [f1] at f2
    rintro ⟨⟩
    clear ih146 ih148; exact fF q1v
   apply it <;> intro h7
   ·refine bs fun v9 h8 => ?_
    have f3 := ih146 _ _ h8
    try simp only [en.down,f1] at f3
    refine xq ?_ (fun h10 h11 => ?_)
    ·rintro (⟨h10,h11⟩ | ⟨h10,h11⟩)
     all_goals
     try simp only [h7,h10,h11,f1] at f3
     rintro ⟨⟩
     clear ih146 ih148; exact fF q1v
    refine bs fun v13 h12 => ?_
    have f4 := ih148 _ _ h12
    try simp only [en.down,f1] at f4
    try simp only [h7,h10,h11,f1] at f3 f4
    rintro ⟨⟩
    clear ih146 ih148; exact fF q1v
   refine bs fun v15 h14 => ?_
   have f5 := ih148 _ _ h14
   try simp only [en.down,f1] at f5
   refine xq ?_ (fun h16 h17 => ?_)
   ·rintro (⟨h16,h17⟩ | ⟨h16,h17⟩)
    all_goals
    try simp only [h7,h16,h17,f1] at f5
    rintro ⟨⟩
    clear ih146 ih148; exact fF q1v
   refine bs fun v19 h18 => ?_
   have f6 := ih146 _ _ h18
   try simp only [en.down,f1] at f6
   try simp only [h7,h16,h17,f1] at f5 f6
   rintro ⟨⟩
   clear ih146 ih148; exact fF q1v
  apply it <;> intro h20
  ·refine bs fun v22 h21 => ?_
   have f7 := ih148 _ _ h21
   try simp only [en.down,f1] at f7
   try simp only [f1] at f7
   rintro ⟨⟩
   clear ih146 ih148; exact fF q1v
  apply it <;> intro h23
  ·refine bs fun v25 h24 => ?_
   have f8 := ih146 _ _ h24
   try simp only [en.down,f1] at f8
   refine qc8 ?_ (fun h26 h27 h28 => ?_)
   ·rintro (⟨h26,h27,h28⟩ | ⟨h26,h27,h28⟩ | ⟨h26,h27,h28⟩)
    all_goals
    try simp only [h23,h26,h27,f1] at f8
    rintro ⟨⟩
    clear ih146 ih148; exact fF q1v
   refine bs fun v30 h29 => ?_
   have f9 := ih148 _ _ h29
   try simp only [en.down,f1] at f9
   try simp only [h23,h26,h27,f1] at f8 f9
   rintro ⟨⟩
   clear ih146 ih148; exact fF q1v
  apply it <;> intro h31
  ·refine bs fun v33 h32 => ?_
   have f10 := ih148 _ _ h32
   try simp only [en.down,f1] at f10
   refine xq ?_ (fun h34 h35 => ?_)
   ·rintro (⟨h34,h35⟩ | ⟨h34,h35⟩)
    all_goals
    try simp only [h23,h34,h35,f1] at f10
    rintro ⟨⟩
    clear ih146 ih148; exact fF q1v
   refine bs fun v37 h36 => ?_
   have f11 := ih146 _ _ h36
   try simp only [en.down,f1] at f11
   try simp only [h23,h34,h35,f1] at f10 f11
   rintro ⟨⟩
   clear ih146 ih148; exact fF q1v
  refine bs fun v39 h38 => ?_
  have f12 := ih146 _ _ h38
  try simp only [en.down,f1] at f12
  try simp only [h23,f1] at f12
  rintro ⟨⟩
  clear ih146 ih148; exact fF q1v
 ·rintro xm ih146 ⟨k,i,parts,b⟩ r; dsimp only
  have f1 := jh 2 T.Span.enc parts.l
  refine gd fun h1 => ?_
  refine bs fun v3 h2 => ?_
  have f2 := z3j _ _ h2
  try simp only [en.down] at f2
  refine bs fun x5 h4 => ?_
  have f3 := T.qy.q7w h4
  try simp only [en.down] at f3
  refine bg T.Rx.enc fun x7 h6 f4 f5 f6 => ?_
  refine bs fun v9 h8 => ?_
  have f7 := ih146 _ _ h8
  try simp only [en.down,f3] at f7
  try simp only [f3] at f2 f7
  rintro ⟨⟩
  clear ih146; exact fF qhj
theorem zpz {x i b r} (h : qca x i b = some r) : O.call 134 [AV.ptr 0 0,v_g (T.Rx.enc x),v_i i] [(0,b_x (T.qp.enc b))] = some (AV.tup [v_g (T.qw.enc r.1),v_b r.2.1],[(0,b_x (T.qp.enc r.2.2))]) := by
 revert h; unfold qca
 refine bs fun v2 h1 => ?_
 have f1 := zv6 _ _ h1
 try simp only [en.down] at f1
 refine bs fun v4 h3 => ?_
 have f2 := zrq.1 _ _ h3
 try simp only [en.down] at f2
 apply it <;> intro h5
 ·rintro ⟨⟩
  exact fF qdy
 refine bg qc fun x7 h6 f3 f4 f5 => ?_
 refine bg qc fun x9 h8 f6 f7 f8 => ?_
 rintro ⟨⟩
 exact fF qdy
def qkc (x : T.Rx) (t6 : T.qw) : ((Bool × T.qp × T.qw) ⊕ (T.qp)) → Ex × St
 | .inl y => (Ex.ret,⟨[(6,AV.ptr 2 0),(7,v_b y.1)],[(0,b_x (T.qp.enc y.2.1)),(1,b_x (T.Rx.enc x)),(2,b_x (T.qw.enc y.2.2))],3⟩)
 | .inr y => (Ex.normal,⟨[(6,AV.ptr 2 0),(7,AV.undef)],[(0,b_x (T.qp.enc y)),(1,b_x (T.Rx.enc x)),(2,b_x (T.qw.enc t6))],3⟩)
attribute [local go_sem] qkc
theorem zeq : ∀ p r,q82 p = some r → O.loop 122 0 ⟨[(0,AV.ptr 0 0),(2,v_i p.1),(4,AV.ptr 1 0),(6,AV.ptr 2 0)],[(0,b_x (T.qp.enc p.2.1)),(1,b_x (T.Rx.enc p.2.2.1)),(2,b_x (T.qw.enc p.2.2.2))],3⟩ = some (qkc p.2.2.1 p.2.2.2 r) := by
 refine q82.partial_correctness _ ?_
 rintro q82 ih141 ⟨i,r_,x,t6⟩ r; dsimp only
 apply it <;> intro h1
 ·refine bs fun v3 h2 => ?_
  have f1 := zpz h2
  try simp only [en.down] at f1
  refine xq ?_ (fun h4 h5 => ?_)
  ·rintro (⟨h4,h5⟩ | ⟨h4,h5⟩)
   all_goals
   try simp only [h4,h5] at f1
   rintro ⟨⟩
   clear ih141; exact fL qd1
  try simp only [h4,h5] at f1
  intro h; have f2 := ih141 _ _ h; clear h
  try simp only [en.down] at f2
  try simp only [h4,h5] at f2
  clear ih141; exact fL qd1
 rintro ⟨⟩
 clear ih141; exact fL qd1
theorem qmx {x i b r} (h : qa6 x i b = some r) : O.call 122 [AV.ptr 0 0,v_g (T.Rx.enc x),v_i i] [(0,b_x (T.qp.enc b))] = some (AV.tup [v_g (T.qw.enc r.1),v_b r.2.1],[(0,b_x (T.qp.enc r.2.2))]) := by
 revert h; unfold qa6
 refine bs fun v2 h1 => ?_
 have f1 := zeq _ _ h1
 try simp only [en.down] at f1
 rcases v2 with y3 | y4
 ·dsimp only
  rintro ⟨⟩
  exact fF qd1
 dsimp only
 rintro ⟨⟩
 exact fF qd1
def qkp (r_ : T.qp) : ((Int) ⊕ (Unit)) → Ex × St
 | .inl y => (Ex.ret,⟨[(4,v_i y)],[(0,b_x (T.qp.enc r_))],1⟩)
 | .inr y => (Ex.normal,⟨[(4,AV.undef)],[(0,b_x (T.qp.enc r_))],1⟩)
attribute [local go_sem] qkp
theorem zmx : ∀ p r,q5o p = some r → O.loop 123 0 ⟨[(0,AV.ptr 0 0),(1,v_i p.1),(5,v_i p.2.1)],[(0,b_x (T.qp.enc p.2.2))],1⟩ = some (qkp p.2.2 r) := by
 refine q5o.partial_correctness _ ?_
 rintro q5o ih161 ⟨at_,i,r_⟩ r; dsimp only
 apply it <;> intro h1
 ·refine bg qc fun x3 h2 f1 f2 f3 => ?_
  apply it <;> intro h4
  ·rintro ⟨⟩
   clear ih161; exact fL qdg
  intro h; have f4 := ih161 _ _ h; clear h
  try simp only [en.down] at f4
  clear ih161; exact fL qdg
 rintro ⟨⟩
 clear ih161; exact fL qdg
theorem qjv {at_ b r} (h : q8j at_ b = some r) : O.call 123 [AV.ptr 0 0,v_i at_] [(0,b_x (T.qp.enc b))] = some (v_i r,[(0,b_x (T.qp.enc b))]) := by
 revert h; unfold q8j
 refine bs fun v2 h1 => ?_
 have f1 := zmx _ _ h1
 try simp only [en.down] at f1
 rcases v2 with y3 | y4
 ·dsimp only
  rintro ⟨⟩
  exact fF qdg
 dsimp only
 rintro ⟨⟩
 exact fF qdg
def qr6 (x : T.Rx) : (((Sl T.qw) × Int × Int × T.qp × (List T.qw)) ⊕ (T.qp × (List T.qw))) → Ex × St
 | .inl y => (Ex.ret,⟨[(8,v_l 3 T.qw.enc y.1),(9,v_i y.2.1),(10,v_i y.2.2.1),(11,AV.ptr 1 0),(12,v_r 2 y.2.2.2.2)],[(0,b_x (T.Rx.enc x)),(1,b_x (T.qp.enc y.2.2.2.1)),(2,b_r 3 T.qw.enc y.2.2.2.2)],3⟩)
 | .inr y => (Ex.normal,⟨[(8,AV.undef),(9,AV.undef),(10,AV.undef),(11,AV.ptr 1 0),(12,v_r 2 y.2)],[(0,b_x (T.Rx.enc x)),(1,b_x (T.qp.enc y.1)),(2,b_r 3 T.qw.enc y.2)],3⟩)
attribute [local go_sem] qr6
theorem qtj : ∀ p r,q4v p = some r → O.loop 102 0 ⟨[(4,AV.ptr 0 0),(11,AV.ptr 1 0),(12,v_r 2 p.2.2.2),(13,v_i p.1)],[(0,b_x (T.Rx.enc p.2.1)),(1,b_x (T.qp.enc p.2.2.1)),(2,b_r 3 T.qw.enc p.2.2.2)],3⟩ = some (qr6 p.2.1 r) := by
 refine q4v.partial_correctness _ ?_
 rintro q4v ih139 ⟨i,x,r_,out⟩ r; dsimp only
 apply it <;> intro h1
 ·refine bs fun v3 h2 => ?_
  have f1 := qmx h2
  try simp only [en.down] at f1
  apply it <;> intro h4
  ·try simp only [h4] at f1
   rintro ⟨⟩
   clear ih139; exact fL q5q
  apply it <;> intro h5
  ·try simp only [h4] at f1
   rintro ⟨⟩
   clear ih139; exact fL q5q
  refine gd fun h6 => ?_
  have f2 := rG 3 T.qw.enc out
  refine bs fun v8 h7 => ?_
  have f3 := qjv h7
  try simp only [en.down] at f3
  apply it <;> intro h9
  ·have f4 : List.map T.qw.enc out ++ [[PV.int IntKind.i64 v3.1.span.frm,PV.int IntKind.i64 v3.1.span.to,PV.sl v3.1.parts.nil (szc 2 v3.1.parts.l) (List.map T.Span.enc v3.1.parts.l)]] = List.map T.qw.enc (out ++ [v3.1]) := by simp only [List.map_append,List.map_cons,List.map_nil,zf,zb,ze,T.qw.za] <;> rfl
   try simp only [h4] at f1 f3
   intro h; have f5 := ih139 _ _ h; clear h
   try simp only [en.down] at f5
   try simp only [h4] at f5
   clear ih139; exact fL q5q
  have f6 : List.map T.qw.enc out ++ [[PV.int IntKind.i64 v3.1.span.frm,PV.int IntKind.i64 v3.1.span.to,PV.sl v3.1.parts.nil (szc 2 v3.1.parts.l) (List.map T.Span.enc v3.1.parts.l)]] = List.map T.qw.enc (out ++ [v3.1]) := by simp only [List.map_append,List.map_cons,List.map_nil,zf,zb,ze,T.qw.za] <;> rfl
  try simp only [h4] at f1 f3
  intro h; have f7 := ih139 _ _ h; clear h
  try simp only [en.down] at f7
  try simp only [h4] at f7
  clear ih139; exact fL q5q
 rintro ⟨⟩
 clear ih139; exact fL q5q
theorem z9w {x fold s fuel r} (h : qb4 x fold s fuel = some r) : O.call 102 [v_g (T.Rx.enc x),v_b fold,v_s s,v_i fuel] [] = some (AV.tup [v_l 3 T.qw.enc r.1,v_i r.2.1,v_i r.2.2],[]) := by
 revert h; unfold qb4
 refine bs fun v2 h1 => ?_
 have f1 := qij h1
 try simp only [en.down] at f1
 apply it <;> intro h3
 ·rintro ⟨⟩
  exact fF q5q
 refine bs fun v5 h4 => ?_
 have f2 := qld h4
 try simp only [en.down] at f2
 refine bs fun v7 h6 => ?_
 have f3 := qtj _ _ h6
 try simp only [en.down] at f3
 rcases v7 with y8 | y9
 ·dsimp only
  rintro ⟨⟩
  exact fF q5q
 dsimp only
 rintro ⟨⟩
 exact fF q5q
theorem z2q : ∀ p r,q4h p = some r → O.loop 104 0 ⟨[(1,v_s p.1),(3,AV.ptr 0 0),(5,AV.ptr 1 0),(7,v_r 2 p.2.2.2.2),(8,v_i p.2.1)],[(0,b_x (T.Form.enc p.2.2.1)),(1,b_x (T.qw.enc p.2.2.2.1)),(2,Blk.row false 1 (List.map qh p.2.2.2.2))],3⟩ = some (Ex.normal,⟨[(3,AV.ptr 0 0),(7,v_r 2 r)],[(0,b_x (T.Form.enc p.2.2.1)),(1,b_x (T.qw.enc p.2.2.2.1)),(2,Blk.row false 1 (List.map qh r))],3⟩) := by
 refine q4h.partial_correctness _ ?_
 rintro q4h ih164 ⟨s,i,f,m,parts⟩ r; dsimp only
 apply it <;> intro h1
 ·refine bg T.Span.enc fun x3 h2 f1 f2 f3 => ?_
  apply it <;> intro h4
  ·refine b2s fun r6 h5 f4 f5 f6 f7 f8 => ?_
   refine gd fun h7 => ?_
   have f9 : List.map qh parts ++ [[PV.str r6]] = List.map qh (parts ++ [r6]) := by simp only [List.map_append,List.map_cons,List.map_nil,zf,zb,ze,qh] <;> rfl
   intro h; have f10 := ih164 _ _ h; clear h
   try simp only [en.down] at f10
   clear ih164; exact fL qek
  refine gd fun h8 => ?_
  have f11 : List.map qh parts ++ [[PV.str ([] : Bytes)]] = List.map qh (parts ++ [([] : Bytes)]) := by simp only [List.map_append,List.map_cons,List.map_nil,zf,zb,ze,qh] <;> rfl
  intro h; have f12 := ih164 _ _ h; clear h
  try simp only [en.down] at f12
  clear ih164; exact fL qek
 rintro ⟨⟩
 clear ih164; exact fL qek
theorem qgw {c r} (h : q7x c = some r) : O.call 145 [AV.pv (PV.int IntKind.u8 (c.toNat : Int))] [] = some (AV.pv (PV.int IntKind.u8 (r.toNat : Int)),[]) := by
 revert h; unfold q7x
 refine zw (fun h1 h2 => ?_) ?_
 ·rintro ⟨⟩
  exact fF qqe
 rintro (⟨h1,h2⟩ | ⟨h1,h2⟩)
 all_goals
 rintro ⟨⟩
 exact fF qqe
theorem zn5 : ∀ p r,q7h p = some r → O.loop 135 1 ⟨[(6,v_r 0 p.2),(7,v_i p.1)],[(0,Blk.row false 1 (List.map qm p.2))],1⟩ = some (Ex.normal,⟨[(6,v_r 0 r)],[(0,Blk.row false 1 (List.map qm r))],1⟩) := by
 refine q7h.partial_correctness _ ?_
 rintro q7h ih168 ⟨i,b⟩ r; dsimp only
 apply it <;> intro h1
 ·refine bw qm fun x3 h2 f1 f2 f3 => ?_
  refine bs fun v5 h4 => ?_
  have f4 := qgw h4
  try simp only [en.down] at f4
  have f5 := map_set qm b i.toNat v5
  try simp only [en.down] at f5
  intro h; have f6 := ih168 _ _ h; clear h
  try simp only [en.down] at f6
  clear ih168; exact fL q0l
 rintro ⟨⟩
 clear ih168; exact fL q0l
theorem qm2 {c r} (h : qaa c = some r) : O.call 146 [AV.pv (PV.int IntKind.u8 (c.toNat : Int))] [] = some (AV.pv (PV.int IntKind.u8 (r.toNat : Int)),[]) := by
 revert h; unfold qaa
 refine zw (fun h1 h2 => ?_) ?_
 ·rintro ⟨⟩
  exact fF qor
 rintro (⟨h1,h2⟩ | ⟨h1,h2⟩)
 all_goals
 rintro ⟨⟩
 exact fF qor
theorem zrz : ∀ p r,q77 p = some r → O.loop 135 3 ⟨[(6,v_r 0 p.2),(8,v_i p.1)],[(0,Blk.row false 1 (List.map qm p.2))],1⟩ = some (Ex.normal,⟨[(6,v_r 0 r)],[(0,Blk.row false 1 (List.map qm r))],1⟩) := by
 refine q77.partial_correctness _ ?_
 rintro q77 ih170 ⟨i,b⟩ r; dsimp only
 apply it <;> intro h1
 ·refine bw qm fun x3 h2 f1 f2 f3 => ?_
  refine bs fun v5 h4 => ?_
  have f4 := qm2 h4
  try simp only [en.down] at f4
  have f5 := map_set qm b i.toNat v5
  try simp only [en.down] at f5
  intro h; have f6 := ih170 _ _ h; clear h
  try simp only [en.down] at f6
  clear ih170; exact fL q0l
 rintro ⟨⟩
 clear ih170; exact fL q0l
theorem z4i {c r} (h : qfs c = some r) : O.call 158 [AV.pv (PV.int IntKind.u8 (c.toNat : Int))] [] = some (v_b r,[]) := by
 revert h; unfold qfs
 refine zw (fun h1 h2 => ?_) ?_
 ·rintro ⟨⟩
  exact fF qiv
 rintro (⟨h1,h2⟩ | ⟨h1,h2⟩)
 all_goals
 apply it <;> intro h4
 ·rintro ⟨⟩
  exact fF qiv
 rintro ⟨⟩
 exact fF qiv
theorem qou {c r} (h : q88 c = some r) : O.call 155 [AV.pv (PV.int IntKind.u8 (c.toNat : Int))] [] = some (v_b r,[]) := by
 revert h; unfold q88
 refine bs fun v2 h1 => ?_
 have f1 := z4i h1
 try simp only [en.down] at f1
 refine qd5 ?_ ?_
 ·rintro (⟨h3,h4,h5⟩ | ⟨h3,h4,h5⟩)
  all_goals
  try simp only [h3] at f1
  rintro ⟨⟩
  exact fF qmw
 rintro (⟨h3,h4,h5⟩ | ⟨h3,h4,h5⟩)
 all_goals
 try simp only [h3] at f1
 rintro ⟨⟩
 exact fF qmw
theorem zsa : ∀ p r,q17 p = some r → O.loop 147 0 ⟨[(0,v_s p.1),(3,v_r 0 p.2.2),(4,v_i p.2.1)],[(0,b_r 1 qh p.2.2)],1⟩ = some (Ex.normal,⟨[(3,v_r 0 r)],[(0,b_r 1 qh r)],1⟩) := by
 refine q17.partial_correctness _ ?_
 rintro q17 ih173 ⟨s,i,l⟩ r; dsimp only
 apply it <;> intro h1
 ·refine bc fun b3 h2 f1 f2 => ?_
  refine bs fun v5 h4 => ?_
  have f3 := qou h4
  try simp only [en.down] at f3
  apply it <;> intro h6
  ·intro h; have f4 := ih173 _ _ h; clear h
   try simp only [en.down] at f4
   clear ih173; exact fL q9d
  apply it <;> intro h7
  ·refine gd fun h8 => ?_
   have f5 := rG 1 qh l
   have f6 : List.map qh l ++ [[PV.str ([] : Bytes)]] = List.map qh (l ++ [([] : Bytes)]) := by simp only [List.map_append,List.map_cons,List.map_nil,zf,zb,ze,qh] <;> rfl
   refine bw qh fun x10 h9 f7 f8 f9 => ?_
   refine b2s fun r12 h11 f10 f11 f12 f13 f14 => ?_
   refine gd fun h13 => ?_
   have f15 := eq_true h13
   try simp only [en.down] at f15
   have f16 := map_set qh (l ++ [([] : Bytes)]) ((IntKind.i64.wrap (((l ++ [([] : Bytes)]).length : Int) - (1 : Int))).toNat) (x10 ++ r12)
   try simp only [en.down] at f16
   intro h; have f17 := ih173 _ _ h; clear h
   try simp only [en.down] at f17
   clear ih173; exact fL q9d
  refine bc fun b15 h14 f18 f19 => ?_
  refine bs fun v17 h16 => ?_
  have f20 := qou h16
  try simp only [en.down] at f20
  apply it <;> intro h18
  ·refine gd fun h19 => ?_
   have f21 := rG 1 qh l
   have f22 : List.map qh l ++ [[PV.str ([] : Bytes)]] = List.map qh (l ++ [([] : Bytes)]) := by simp only [List.map_append,List.map_cons,List.map_nil,zf,zb,ze,qh] <;> rfl
   refine bw qh fun x21 h20 f23 f24 f25 => ?_
   refine b2s fun r23 h22 f26 f27 f28 f29 f30 => ?_
   refine gd fun h24 => ?_
   have f31 := eq_true h24
   try simp only [en.down] at f31
   have f32 := map_set qh (l ++ [([] : Bytes)]) ((IntKind.i64.wrap (((l ++ [([] : Bytes)]).length : Int) - (1 : Int))).toNat) (x21 ++ r23)
   try simp only [en.down] at f32
   intro h; have f33 := ih173 _ _ h; clear h
   try simp only [en.down] at f33
   clear ih173; exact fL q9d
  refine bW qh 1 fun x26 h25 f34 f35 f36 f37 f38 => ?_
  refine b2s fun r28 h27 f39 f40 f41 f42 f43 => ?_
  refine gd fun h29 => ?_
  have f44 := eq_true h29
  try simp only [en.down] at f44
  have f45 := map_set qh l ((IntKind.i64.wrap ((l.length : Int) - (1 : Int))).toNat) (x26 ++ r28)
  try simp only [en.down] at f45
  try simp only [f37,f38] at f3 f20 f45
  intro h; have f46 := ih173 _ _ h; clear h
  try simp only [en.down,f37,f38] at f46
  try simp only [f37,f38] at f46
  clear ih173; exact fL q9d
 rintro ⟨⟩
 clear ih173; exact fL q9d
theorem z8j {s r} (h : qat s = some r) : O.call 147 [v_s s] [] = some (v_l 1 qh r,[]) := by
 revert h; unfold qat
 refine bs fun v2 h1 => ?_
 have f1 := zsa _ _ h1
 try simp only [en.down] at f1
 rintro ⟨⟩
 exact fF q9d
theorem zkq : ∀ p r,q44 p = some r → O.loop 135 5 ⟨[(1,v_i p.1),(9,v_l 1 qh p.2.1),(10,v_s p.2.2.1),(11,v_i p.2.2.2.1)],[(0,Blk.row false 1 (List.map qm p.2.2.2.2))],1⟩ = some (Ex.normal,⟨[(10,v_s r)],[(0,Blk.row false 1 (List.map qm p.2.2.2.2))],1⟩) := by
 refine q44.partial_correctness _ ?_
 rintro q44 ih176 ⟨way,l,out,i,r0_⟩ r; dsimp only
 apply it <;> intro h1
 ·refine bg qh fun x3 h2 f1 f2 f3 => ?_
  refine zw (fun h4 h5 => ?_) ?_
  ·refine bw qm fun x7 h6 f4 f5 f6 => ?_
   refine bs fun v9 h8 => ?_
   have f7 := qm2 h8
   try simp only [en.down] at f7
   have f8 := map_set qm x3 ((0 : Int).toNat) v9
   try simp only [en.down] at f8
   have f9 := jh 1 qm (x3.set ((0 : Int).toNat) v9)
   try simp only [en.down] at f9
   have f10 := bytesOf_map (x3.set ((0 : Int).toNat) v9)
   refine gd fun h10 => ?_
   have f11 := eq_true h10
   try simp only [en.down] at f11
   intro h; have f12 := ih176 _ _ h; clear h
   try simp only [en.down] at f12
   clear ih176; exact fL q0l
  rintro (⟨h4,h5⟩ | ⟨h4,h5⟩)
  all_goals
  refine bw qm fun x17 h16 f13 f14 f15 => ?_
  refine bs fun v19 h18 => ?_
  have f16 := qgw h18
  try simp only [en.down] at f16
  have f17 := map_set qm x3 ((0 : Int).toNat) v19
  try simp only [en.down] at f17
  have f18 := jh 1 qm (x3.set ((0 : Int).toNat) v19)
  try simp only [en.down] at f18
  have f19 := bytesOf_map (x3.set ((0 : Int).toNat) v19)
  refine gd fun h20 => ?_
  have f20 := eq_true h20
  try simp only [en.down] at f20
  intro h; have f21 := ih176 _ _ h; clear h
  try simp only [en.down] at f21
  clear ih176; exact fL q0l
 rintro ⟨⟩
 clear ih176; exact fL q0l
theorem qjx {s way r} (h : q96 s way = some r) : O.call 135 [v_s s,v_i way] [] = some (AV.tup [v_s r.1,v_i r.2],[]) := by
 revert h; unfold q96
 apply it <;> intro h1
 ·refine bs fun v3 h2 => ?_
  have f1 := zn5 _ _ h2
  try simp only [en.down] at f1
  have f2 := jh 1 qm v3
  have f3 := bytesOf_map v3
  rintro ⟨⟩
  exact fF q0l
 apply it <;> intro h4
 ·refine bs fun v6 h5 => ?_
  have f4 := zrz _ _ h5
  try simp only [en.down] at f4
  have f5 := jh 1 qm v6
  have f6 := bytesOf_map v6
  rintro ⟨⟩
  exact fF q0l
 apply it <;> intro h7
 ·apply it <;> intro h8
  ·refine bw qm fun x10 h9 f7 f8 f9 => ?_
   refine bs fun v12 h11 => ?_
   have f10 := qgw h11
   try simp only [en.down] at f10
   have f11 := map_set qm s ((0 : Int).toNat) v12
   try simp only [en.down] at f11
   have f12 := jh 1 qm (s.set ((0 : Int).toNat) v12)
   try simp only [en.down] at f12
   have f13 := bytesOf_map (s.set ((0 : Int).toNat) v12)
   rintro ⟨⟩
   exact fF q0l
  have f14 := jh 1 qm s
  have f15 := bytesOf_map s
  rintro ⟨⟩
  exact fF q0l
 refine xq ?_ (fun h13 h18 => ?_)
 ·rintro (⟨h13,h18⟩ | ⟨h13,h18⟩)
  all_goals
  refine bs fun v15 h14 => ?_
  have f16 := z8j h14
  try simp only [en.down] at f16
  refine bs fun v17 h16 => ?_
  have f17 := zkq _ _ h16
  try simp only [en.down] at f17
  rintro ⟨⟩
  exact fF q0l
 rintro ⟨⟩
 exact fF q0l
theorem zqu : ∀ p r,kz p = some r → O.loop 125 0 ⟨[(0,v_l 5 T.Fmt.enc p.1),(1,v_l 1 qh p.2.1),(5,v_s p.2.2.1),(6,v_i p.2.2.2)],[],0⟩ = some (Ex.normal,⟨[(5,v_s r)],[],0⟩) := by
 refine kz.partial_correctness _ ?_
 rintro kz ih166 ⟨fs,parts,s,i⟩ r; dsimp only
 apply it <;> intro h1
 ·refine bg T.Fmt.enc fun x3 h2 f1 f2 f3 => ?_
  apply it <;> intro h4
  ·refine bg qh fun x6 h5 f4 f5 f6 => ?_
   apply it <;> intro h7
   ·refine gd fun h8 => ?_
    have f7 := eq_true h8
    try simp only [en.down] at f7
    intro h; have f8 := ih166 _ _ h; clear h
    try simp only [en.down] at f8
    clear ih166; exact fL uw
   apply it <;> intro h9
   ·refine gd fun h10 => ?_
    have f9 := eq_true h10
    try simp only [en.down] at f9
    intro h; have f10 := ih166 _ _ h; clear h
    try simp only [en.down] at f10
    clear ih166; exact fL uw
   apply it <;> intro h11
   ·refine bs fun v13 h12 => ?_
    have f11 := qjx h12
    try simp only [en.down] at f11
    refine gd fun h14 => ?_
    have f12 := eq_true h14
    try simp only [en.down] at f12
    intro h; have f13 := ih166 _ _ h; clear h
    try simp only [en.down] at f13
    clear ih166; exact fL uw
   apply it <;> intro h15
   ·apply it <;> intro h16
    ·refine gd fun h17 => ?_
     have f14 := eq_true h17
     try simp only [en.down] at f14
     intro h; have f15 := ih166 _ _ h; clear h
     try simp only [en.down] at f15
     clear ih166; exact fL uw
    refine gd fun h18 => ?_
    have f16 := eq_true h18
    try simp only [en.down] at f16
    intro h; have f17 := ih166 _ _ h; clear h
    try simp only [en.down] at f17
    clear ih166; exact fL uw
   apply it <;> intro h19
   ·refine gd fun h20 => ?_
    have f18 := eq_true h20
    try simp only [en.down] at f18
    intro h; have f19 := ih166 _ _ h; clear h
    try simp only [en.down] at f19
    clear ih166; exact fL uw
   refine gd fun h21 => ?_
   have f20 := eq_true h21
   try simp only [en.down] at f20
   intro h; have f21 := ih166 _ _ h; clear h
   try simp only [en.down] at f21
   clear ih166; exact fL uw
  apply it <;> intro h22
  ·refine gd fun h23 => ?_
   have f22 := eq_true h23
   try simp only [en.down] at f22
   intro h; have f23 := ih166 _ _ h; clear h
   try simp only [en.down] at f23
   clear ih166; exact fL uw
  apply it <;> intro h24
  ·refine gd fun h25 => ?_
   have f24 : (s.length + 0 ≤ 2 ^ 62) = True := eq_true h25
   have f25 : (s.length ≤ 2 ^ 62) = True := eq_true h25
   intro h; have f26 := ih166 _ _ h; clear h
   try simp only [en.down] at f26
   clear ih166; exact fL uw
  apply it <;> intro h26
  ·refine bs fun v28 h27 => ?_
   have f27 := qjx h27
   try simp only [en.down] at f27
   refine gd fun h29 => ?_
   have f28 := eq_true h29
   try simp only [en.down] at f28
   intro h; have f29 := ih166 _ _ h; clear h
   try simp only [en.down] at f29
   clear ih166; exact fL uw
  apply it <;> intro h30
  ·apply it <;> intro h31
   ·refine gd fun h32 => ?_
    have f30 := eq_true h32
    try simp only [en.down] at f30
    intro h; have f31 := ih166 _ _ h; clear h
    try simp only [en.down] at f31
    clear ih166; exact fL uw
   refine gd fun h33 => ?_
   have f32 : (s.length + 0 ≤ 2 ^ 62) = True := eq_true h33
   have f33 : (s.length ≤ 2 ^ 62) = True := eq_true h33
   intro h; have f34 := ih166 _ _ h; clear h
   try simp only [en.down] at f34
   clear ih166; exact fL uw
  apply it <;> intro h34
  ·refine gd fun h35 => ?_
   have f35 := eq_true h35
   try simp only [en.down] at f35
   intro h; have f36 := ih166 _ _ h; clear h
   try simp only [en.down] at f36
   clear ih166; exact fL uw
  refine gd fun h36 => ?_
  have f37 := eq_true h36
  try simp only [en.down] at f37
  intro h; have f38 := ih166 _ _ h; clear h
  try simp only [en.down] at f38
  clear ih166; exact fL uw
 rintro ⟨⟩
 clear ih166; exact fL uw
theorem z11 {fs parts r} (h : qdn fs parts = some r) : O.call 125 [v_l 5 T.Fmt.enc fs,v_l 1 qh parts] [] = some (v_s r,[]) := by
 revert h; unfold qdn
 refine bs fun v2 h1 => ?_
 have f1 := qlq h1
 try simp only [en.down] at f1
 apply it <;> intro h3
 ·rintro ⟨⟩
  exact fF uw
 refine bs fun v5 h4 => ?_
 have f2 := zqu _ _ h4
 try simp only [en.down] at f2
 rintro ⟨⟩
 exact fF uw
theorem qgs {f s m r} (h : q7i f s m = some r) : O.call 104 [v_g (T.Form.enc f),v_s s,v_g (T.qw.enc m)] [] = some (v_s r,[]) := by
 revert h; unfold q7i
 refine b2s fun r2 h1 f1 f2 f3 f4 f5 => ?_
 refine bs fun v4 h3 => ?_
 have f6 := z2q _ _ h3
 try simp only [en.down] at f6
 refine bs fun v6 h5 => ?_
 have f7 := z11 h5
 try simp only [en.down] at f7
 rintro ⟨⟩
 exact fF qek
def qme (s : Bytes) (left : Int) (f : T.Form) : ((Bytes × Int × Int × Bytes × Int) ⊕ (Bytes × Int)) → Ex × St
 | .inl y => (Ex.ret,⟨[(1,v_s s),(6,v_s y.1),(7,v_i y.2.1),(8,v_i y.2.2.1),(10,v_i left),(14,v_s y.2.2.2.1),(15,v_i y.2.2.2.2)],[(0,b_x (T.Form.enc f))],1⟩)
 | .inr y => (Ex.normal,⟨[(1,v_s s),(6,AV.undef),(7,AV.undef),(8,AV.undef),(10,v_i left),(14,v_s y.1),(15,v_i y.2)],[(0,b_x (T.Form.enc f))],1⟩)
attribute [local go_sem] qme
theorem zna : ∀ p r,q53 p = some r → O.loop 81 0 ⟨[(1,v_s p.1),(3,AV.ptr 0 0),(9,v_l 3 T.qw.enc p.2.1),(10,v_i p.2.2.1),(14,v_s p.2.2.2.1),(15,v_i p.2.2.2.2.1),(16,v_i p.2.2.2.2.2.1)],[(0,b_x (T.Form.enc p.2.2.2.2.2.2))],1⟩ = some (qme p.1 p.2.2.1 p.2.2.2.2.2.2 r) := by
 refine q53.partial_correctness _ ?_
 rintro q53 ih162 ⟨s,ms,left,out,at_,i,f⟩ r; dsimp only
 apply it <;> intro h1
 ·refine bg T.qw.enc fun x3 h2 f1 f2 f3 => ?_
  refine b2s fun r5 h4 f4 f5 f6 f7 f8 => ?_
  refine gd fun h6 => ?_
  have f9 := eq_true h6
  try simp only [en.down] at f9
  refine bs fun v8 h7 => ?_
  have f10 := qgs h7
  try simp only [en.down] at f10
  refine gd fun h9 => ?_
  have f11 := eq_true h9
  try simp only [en.down] at f11
  apply it <;> intro h10
  ·rintro ⟨⟩
   clear ih162; exact fL jm
  intro h; have f12 := ih162 _ _ h; clear h
  try simp only [en.down] at f12
  clear ih162; exact fL jm
 rintro ⟨⟩
 clear ih162; exact fL jm
theorem zf4 {m ok b r} (h : qf8 m ok b = some r) : O.call 124 [AV.ptr 0 0,v_g (T.qw.enc m),v_b ok] [(0,b_x (T.qp.enc b))] = some (AV.tup [v_g (T.qw.enc r.1),v_i r.2.1,v_b r.2.2.1,v_i r.2.2.2],[(0,b_x (T.qp.enc b))]) := by
 revert h; unfold qf8
 apply it <;> intro h1
 ·rintro ⟨⟩
  exact fF qrh
 rintro ⟨⟩
 exact fF qrh
theorem zmh {x fold s at_ fuel r} (h : qb7 x fold s at_ fuel = some r) : O.call 103 [v_g (T.Rx.enc x),v_b fold,v_s s,v_i at_,v_i fuel] [] = some (AV.tup [v_g (T.qw.enc r.1),v_i r.2.1,v_b r.2.2.1,v_i r.2.2.2],[]) := by
 revert h; unfold qb7
 refine bs fun v2 h1 => ?_
 have f1 := qij h1
 try simp only [en.down] at f1
 apply it <;> intro h3
 ·rintro ⟨⟩
  exact fF qhi
 refine bs fun v5 h4 => ?_
 have f2 := qld h4
 try simp only [en.down] at f2
 refine bs fun v7 h6 => ?_
 have f3 := qjv h6
 try simp only [en.down] at f3
 apply it <;> intro h8
 ·rintro ⟨⟩
  exact fF qhi
 refine bs fun v10 h9 => ?_
 have f4 := qmx h9
 try simp only [en.down] at f4
 refine bs fun v12 h11 => ?_
 have f5 := zf4 h11
 try simp only [en.down] at f5
 rintro ⟨⟩
 exact fF qhi
def qk9 (s : Bytes) (left : Int) (f : T.Form) (b1_ : T.qw) (r2_ : (List T.qw)) (ms : (List T.qw)) : ((Bytes × Int × Int × Bytes × Int) ⊕ (Bytes × Int)) → Ex × St
 | .inl y => (Ex.ret,⟨[(1,v_s s),(6,v_s y.1),(7,v_i y.2.1),(8,v_i y.2.2.1),(10,v_i left),(14,v_s y.2.2.2.1),(15,v_i y.2.2.2.2)],[(0,b_x (T.Form.enc f)),(1,b_x (T.qw.enc b1_)),(2,Blk.row false 3 (List.map T.qw.enc r2_)),(3,Blk.row false 3 (List.map T.qw.enc ms))],4⟩)
 | .inr y => (Ex.normal,⟨[(1,v_s s),(6,AV.undef),(7,AV.undef),(8,AV.undef),(10,v_i left),(14,v_s y.1),(15,v_i y.2)],[(0,b_x (T.Form.enc f)),(1,b_x (T.qw.enc b1_)),(2,Blk.row false 3 (List.map T.qw.enc r2_)),(3,Blk.row false 3 (List.map T.qw.enc ms))],4⟩)
attribute [local go_sem] qk9
theorem z18 : ∀ p r,q59 p = some r → O.loop 81 0 ⟨[(1,v_s p.1),(3,AV.ptr 0 0),(9,v_r 3 p.2.2.2.2.2.2.2.2),(10,v_i p.2.1),(14,v_s p.2.2.1),(15,v_i p.2.2.2.1),(16,v_i p.2.2.2.2.1)],[(0,b_x (T.Form.enc p.2.2.2.2.2.1)),(1,b_x (T.qw.enc p.2.2.2.2.2.2.1)),(2,Blk.row false 3 (List.map T.qw.enc p.2.2.2.2.2.2.2.1)),(3,Blk.row false 3 (List.map T.qw.enc p.2.2.2.2.2.2.2.2))],4⟩ = some (qk9 p.1 p.2.1 p.2.2.2.2.2.1 p.2.2.2.2.2.2.1 p.2.2.2.2.2.2.2.1 p.2.2.2.2.2.2.2.2 r) := by
 refine q59.partial_correctness _ ?_
 rintro q59 ih179 ⟨s,left,out,at_,i,f,b1_,r2_,ms⟩ r; dsimp only
 apply it <;> intro h1
 ·refine bw T.qw.enc fun x3 h2 f1 f2 f3 => ?_
  refine b2s fun r5 h4 f4 f5 f6 f7 f8 => ?_
  refine gd fun h6 => ?_
  have f9 := eq_true h6
  try simp only [en.down] at f9
  refine bs fun v8 h7 => ?_
  have f10 := qgs h7
  try simp only [en.down] at f10
  refine gd fun h9 => ?_
  have f11 := eq_true h9
  try simp only [en.down] at f11
  apply it <;> intro h10
  ·rintro ⟨⟩
   clear ih179; exact fL jm
  intro h; have f12 := ih179 _ _ h; clear h
  try simp only [en.down] at f12
  clear ih179; exact fL jm
 rintro ⟨⟩
 clear ih179; exact fL jm
def qp2 (s : Bytes) (left : Int) (f : T.Form) (b1_ : T.qw) : ((Bytes × Int × Int × Bytes × Int) ⊕ (Bytes × Int)) → Ex × St
 | .inl y => (Ex.ret,⟨[(1,v_s s),(6,v_s y.1),(7,v_i y.2.1),(8,v_i y.2.2.1),(10,v_i left),(14,v_s y.2.2.2.1),(15,v_i y.2.2.2.2)],[(0,b_x (T.Form.enc f)),(1,b_x (T.qw.enc b1_))],2⟩)
 | .inr y => (Ex.normal,⟨[(1,v_s s),(6,AV.undef),(7,AV.undef),(8,AV.undef),(10,v_i left),(14,v_s y.1),(15,v_i y.2)],[(0,b_x (T.Form.enc f)),(1,b_x (T.qw.enc b1_))],2⟩)
attribute [local go_sem] qp2
theorem z1j : ∀ p r,qav p = some r → O.loop 81 0 ⟨[(1,v_s p.1),(3,AV.ptr 0 0),(9,v_l 3 T.qw.enc p.2.1),(10,v_i p.2.2.1),(14,v_s p.2.2.2.1),(15,v_i p.2.2.2.2.1),(16,v_i p.2.2.2.2.2.1)],[(0,b_x (T.Form.enc p.2.2.2.2.2.2.1)),(1,b_x (T.qw.enc p.2.2.2.2.2.2.2))],2⟩ = some (qp2 p.1 p.2.2.1 p.2.2.2.2.2.2.1 p.2.2.2.2.2.2.2 r) := by
 refine qav.partial_correctness _ ?_
 rintro qav ih180 ⟨s,ms,left,out,at_,i,f,b1_⟩ r; dsimp only
 apply it <;> intro h1
 ·refine bg T.qw.enc fun x3 h2 f1 f2 f3 => ?_
  refine b2s fun r5 h4 f4 f5 f6 f7 f8 => ?_
  refine gd fun h6 => ?_
  have f9 := eq_true h6
  try simp only [en.down] at f9
  refine bs fun v8 h7 => ?_
  have f10 := qgs h7
  try simp only [en.down] at f10
  refine gd fun h9 => ?_
  have f11 := eq_true h9
  try simp only [en.down] at f11
  apply it <;> intro h10
  ·rintro ⟨⟩
   clear ih180; exact fL jm
  intro h; have f12 := ih180 _ _ h; clear h
  try simp only [en.down] at f12
  clear ih180; exact fL jm
 rintro ⟨⟩
 clear ih180; exact fL jm
theorem qhl {f s fuel r} (h : q5u f s fuel = some r) : O.call 81 [v_g (T.Form.enc f),v_s s,v_i fuel] [] = some (AV.tup [v_s r.1,v_i r.2.1,v_i r.2.2],[]) := by
 revert h; unfold q5u
 refine bs fun v2 h1 => ?_
 have f1 := qmq h1
 try simp only [en.down] at f1
 apply it <;> intro h3
 ·rintro ⟨⟩
  exact fF jm
 apply it <;> intro h4
 ·refine bs fun v6 h5 => ?_
  have f2 := z9w h5
  try simp only [en.down] at f2
  apply it <;> intro h7
  ·try simp only [h4] at f1 f2
   rintro ⟨⟩
   exact fF jm
  apply it <;> intro h8
  ·try simp only [h4] at f1 f2
   rintro ⟨⟩
   exact fF jm
  refine bs fun v10 h9 => ?_
  have f3 := zna _ _ h9
  try simp only [en.down] at f3
  rcases v10 with y11 | y12
  ·dsimp only
   try simp only [h4] at f1 f2 f3
   rintro ⟨⟩
   exact fF jm
  dsimp only
  apply it <;> intro h13
  ·try simp only [h4] at f1 f2 f3
   rintro ⟨⟩
   exact fF jm
  refine bFs fun r15 h14 f4 f5 f6 => ?_
  refine gd fun h16 => ?_
  have f7 := eq_true h16
  try simp only [en.down] at f7
  try simp only [h4] at f1 f2 f3
  rintro ⟨⟩
  exact fF jm
 refine bs fun v18 h17 => ?_
 have f8 := zmh h17
 try simp only [en.down] at f8
 apply it <;> intro h19
 ·refine gd fun h20 => ?_
  apply it <;> intro h21
  ·try simp only [h4,h19] at f1 f8
   rintro ⟨⟩
   exact fF jm
  apply it <;> intro h22
  ·try simp only [h4,h19] at f1 f8
   rintro ⟨⟩
   exact fF jm
  refine bs fun v24 h23 => ?_
  have f9 := z18 _ _ h23
  try simp only [en.down] at f9
  rcases v24 with y25 | y26
  ·dsimp only
   try simp only [h4,h19] at f1 f8 f9
   rintro ⟨⟩
   exact fF jm
  dsimp only
  apply it <;> intro h27
  ·try simp only [h4,h19] at f1 f8 f9
   rintro ⟨⟩
   exact fF jm
  refine bFs fun r29 h28 f10 f11 f12 => ?_
  refine gd fun h30 => ?_
  have f13 := eq_true h30
  try simp only [en.down] at f13
  try simp only [h4,h19] at f1 f8 f9
  rintro ⟨⟩
  exact fF jm
 apply it <;> intro h31
 ·try simp only [h4,h19] at f1 f8
  rintro ⟨⟩
  exact fF jm
 apply it <;> intro h32
 ·try simp only [h4,h19] at f1 f8
  rintro ⟨⟩
  exact fF jm
 refine bs fun v34 h33 => ?_
 have f14 := z1j _ _ h33
 try simp only [en.down] at f14
 rcases v34 with y35 | y36
 ·dsimp only
  try simp only [h4,h19] at f1 f8 f14
  rintro ⟨⟩
  exact fF jm
 dsimp only
 apply it <;> intro h37
 ·try simp only [h4,h19] at f1 f8 f14
  rintro ⟨⟩
  exact fF jm
 refine bFs fun r39 h38 f15 f16 f17 => ?_
 refine gd fun h40 => ?_
 have f18 := eq_true h40
 try simp only [en.down] at f18
 try simp only [h4,h19] at f1 f8 f14
 rintro ⟨⟩
 exact fF jm
end Go.Proofs.YtdhgdeelagmbpaaGreat
