/-
  What the machine's calls come to: the plain functions.
-/
import Derived.Test.YtaglodpkpggdiaaGreatDoorMaj
set_option linter.unusedSimpArgs false
set_option linter.unusedVariables false
set_option maxRecDepth 100000
namespace Go.Proofs.YtaglodpkpggdiaaGreatDoor
open Go Go.Gm
set_option maxHeartbeats 4000000
theorem zm2 {o r} (h : q7d o = some r) : O.call 20 [v_g (T.Op.enc o)] [] = some (AV.tup [v_s r.1,v_b r.2],[]) := by
 revert h; unfold q7d
 refine bs fun v2 h1 => ?_
 have f1 := q9i h1
 try simp only [en.down] at f1
 apply it <;> intro h3
 ·refine bs fun v5 h4 => ?_
  have f2 := q62 h4
  try simp only [en.down] at f2
  refine gd fun h6 => ?_
  have f3 : (3 + v5.length ≤ 2 ^ 62) = True := eq_true h6
  refine bs fun v8 h7 => ?_
  have f4 := q62 h7
  try simp only [en.down] at f4
  refine gd fun h9 => ?_
  have f5 := eq_true h9
  try simp only [en.down] at f5
  refine yc (fun h10 h11 => ?_) ?_
  ·try simp only [List.cons_append,List.nil_append] at h11
   refine bs fun v13 h12 => ?_
   have f6 := ny h12
   try simp only [en.down] at f6
   try simp only [h10] at f1 f2 f4 f6
   rintro ⟨⟩
   exact fF zw
  rintro (⟨h10,h11⟩ | ⟨h10,h11⟩)
  all_goals
  try simp only [List.cons_append,List.nil_append] at h11
  try simp only [h10] at f1 f2 f4
  rintro ⟨⟩
  exact fF zw
 apply it <;> intro h14
 ·refine bs fun v16 h15 => ?_
  have f7 := q62 h15
  try simp only [en.down] at f7
  refine gd fun h17 => ?_
  have f8 : (4 + v16.length ≤ 2 ^ 62) = True := eq_true h17
  apply it <;> intro h18
  ·refine gd fun h19 => ?_
   have f9 : (6 + v16.length ≤ 2 ^ 62) = True := eq_true h19
   refine yc (fun h20 h21 => ?_) ?_
   ·try simp only [List.cons_append,List.nil_append] at h21
    refine bs fun v23 h22 => ?_
    have f10 := ny h22
    try simp only [en.down] at f10
    try simp only [h20] at f1 f7 f10
    rintro ⟨⟩
    exact fF zw
   rintro (⟨h20,h21⟩ | ⟨h20,h21⟩)
   all_goals
   try simp only [List.cons_append,List.nil_append] at h21
   try simp only [h20] at f1 f7
   rintro ⟨⟩
   exact fF zw
  refine yc (fun h24 h25 => ?_) ?_
  ·try simp only [List.cons_append,List.nil_append] at h25
   refine bs fun v27 h26 => ?_
   have f11 := ny h26
   try simp only [en.down] at f11
   try simp only [h24] at f1 f7 f11
   rintro ⟨⟩
   exact fF zw
  rintro (⟨h24,h25⟩ | ⟨h24,h25⟩)
  all_goals
  try simp only [List.cons_append,List.nil_append] at h25
  try simp only [h24] at f1 f7
  rintro ⟨⟩
  exact fF zw
 apply it <;> intro h28
 ·refine bs fun v30 h29 => ?_
  have f12 := q62 h29
  try simp only [en.down] at f12
  refine gd fun h31 => ?_
  have f13 : (4 + v30.length ≤ 2 ^ 62) = True := eq_true h31
  refine gd fun h32 => ?_
  have f14 : (6 + v30.length ≤ 2 ^ 62) = True := eq_true h32
  refine yc (fun h33 h34 => ?_) ?_
  ·try simp only [List.cons_append,List.nil_append] at h34
   refine bs fun v36 h35 => ?_
   have f15 := ny h35
   try simp only [en.down] at f15
   try simp only [h33] at f1 f12 f15
   rintro ⟨⟩
   exact fF zw
  rintro (⟨h33,h34⟩ | ⟨h33,h34⟩)
  all_goals
  try simp only [List.cons_append,List.nil_append] at h34
  try simp only [h33] at f1 f12
  rintro ⟨⟩
  exact fF zw
 apply it <;> intro h37
 ·refine bs fun v39 h38 => ?_
  have f16 := gq h38
  try simp only [en.down] at f16
  refine gd fun h40 => ?_
  have f17 : (5 + v39.length ≤ 2 ^ 62) = True := eq_true h40
  apply it <;> intro h41
  ·refine gd fun h42 => ?_
   have f18 : (6 + v39.length ≤ 2 ^ 62) = True := eq_true h42
   refine yc (fun h43 h44 => ?_) ?_
   ·try simp only [List.cons_append,List.nil_append] at h44
    refine bs fun v46 h45 => ?_
    have f19 := ny h45
    try simp only [en.down] at f19
    try simp only [h43] at f1 f16 f19
    rintro ⟨⟩
    exact fF zw
   rintro (⟨h43,h44⟩ | ⟨h43,h44⟩)
   all_goals
   try simp only [List.cons_append,List.nil_append] at h44
   try simp only [h43] at f1 f16
   rintro ⟨⟩
   exact fF zw
  refine yc (fun h47 h48 => ?_) ?_
  ·try simp only [List.cons_append,List.nil_append] at h48
   refine bs fun v50 h49 => ?_
   have f20 := ny h49
   try simp only [en.down] at f20
   try simp only [h47] at f1 f16 f20
   rintro ⟨⟩
   exact fF zw
  rintro (⟨h47,h48⟩ | ⟨h47,h48⟩)
  all_goals
  try simp only [List.cons_append,List.nil_append] at h48
  try simp only [h47] at f1 f16
  rintro ⟨⟩
  exact fF zw
 apply it <;> intro h51
 ·refine bs fun v53 h52 => ?_
  have f21 := gq h52
  try simp only [en.down] at f21
  refine gd fun h54 => ?_
  have f22 : (5 + v53.length ≤ 2 ^ 62) = True := eq_true h54
  refine gd fun h55 => ?_
  have f23 : (6 + v53.length ≤ 2 ^ 62) = True := eq_true h55
  refine yc (fun h56 h57 => ?_) ?_
  ·try simp only [List.cons_append,List.nil_append] at h57
   refine bs fun v59 h58 => ?_
   have f24 := ny h58
   try simp only [en.down] at f24
   try simp only [h56] at f1 f21 f24
   rintro ⟨⟩
   exact fF zw
  rintro (⟨h56,h57⟩ | ⟨h56,h57⟩)
  all_goals
  try simp only [List.cons_append,List.nil_append] at h57
  try simp only [h56] at f1 f21
  rintro ⟨⟩
  exact fF zw
 apply it <;> intro h60
 ·refine bs fun v62 h61 => ?_
  have f25 := gq h61
  try simp only [en.down] at f25
  refine gd fun h63 => ?_
  have f26 : (4 + v62.length ≤ 2 ^ 62) = True := eq_true h63
  refine gd fun h64 => ?_
  have f27 : ((([109,111,118,101] : Bytes) ++ v62).length + 2 ≤ 2 ^ 62) = True := eq_true h64
  try simp only [en.down] at f27
  apply it <;> intro h65
  ·refine gd fun h66 => ?_
   have f28 : (4 + v62.length ≤ 2 ^ 62) = True := eq_true h66
   refine gd fun h67 => ?_
   have f29 : ((([109,111,118,101] : Bytes) ++ v62).length + 2 ≤ 2 ^ 62) = True := eq_true h67
   try simp only [en.down] at f29
   refine yc (fun h68 h69 => ?_) ?_
   ·try simp only [List.cons_append,List.nil_append] at h69
    refine bs fun v71 h70 => ?_
    have f30 := ny h70
    try simp only [en.down] at f30
    try simp only [h65,h68] at f1 f25 f30
    rintro ⟨⟩
    exact fF zw
   rintro (⟨h68,h69⟩ | ⟨h68,h69⟩)
   all_goals
   try simp only [List.cons_append,List.nil_append] at h69
   try simp only [h65,h68] at f1 f25
   rintro ⟨⟩
   exact fF zw
  refine yc (fun h72 h73 => ?_) ?_
  ·try simp only [List.cons_append,List.nil_append] at h73
   refine bs fun v75 h74 => ?_
   have f31 := ny h74
   try simp only [en.down] at f31
   try simp only [h65,h72] at f1 f25 f31
   rintro ⟨⟩
   exact fF zw
  rintro (⟨h72,h73⟩ | ⟨h72,h73⟩)
  all_goals
  try simp only [List.cons_append,List.nil_append] at h73
  try simp only [h65,h72] at f1 f25
  rintro ⟨⟩
  exact fF zw
 apply it <;> intro h76
 ·refine bs fun v78 h77 => ?_
  have f32 := qrp _ _ h77
  try simp only [en.down,UInt8.reduceToNat] at f32
  refine yc (fun h79 h80 => ?_) ?_
  ·refine bs fun v82 h81 => ?_
   have f33 := ny h81
   try simp only [en.down] at f33
   try simp only [h79] at f1 f32 f33
   rintro ⟨⟩
   exact fF zw
  rintro (⟨h79,h80⟩ | ⟨h79,h80⟩)
  all_goals
  try simp only [h79] at f1 f32
  rintro ⟨⟩
  exact fF zw
 apply it <;> intro h83
 ·refine bs fun v85 h84 => ?_
  have f34 := zvu _ _ h84
  try simp only [en.down,UInt8.reduceToNat] at f34
  refine yc (fun h86 h87 => ?_) ?_
  ·refine bs fun v89 h88 => ?_
   have f35 := ny h88
   try simp only [en.down] at f35
   try simp only [h86] at f1 f34 f35
   rintro ⟨⟩
   exact fF zw
  rintro (⟨h86,h87⟩ | ⟨h86,h87⟩)
  all_goals
  try simp only [h86] at f1 f34
  rintro ⟨⟩
  exact fF zw
 refine bs fun v91 h90 => ?_
 have f36 := z7y h90
 try simp only [en.down] at f36
 refine yc (fun h92 h93 => ?_) ?_
 ·refine bs fun v95 h94 => ?_
  have f37 := ny h94
  try simp only [en.down] at f37
  try simp only [h92] at f1 f36 f37
  rintro ⟨⟩
  exact fF zw
 rintro (⟨h92,h93⟩ | ⟨h92,h93⟩)
 all_goals
 try simp only [h92] at f1 f36
 rintro ⟨⟩
 exact fF zw
def qgh (os : (Sl T.Op)) (r1_ : (List UInt8)) : (((Sl UInt8) × Int × (List UInt8)) ⊕ ((List UInt8))) → Ex × St
 | .inl y => (Ex.ret,⟨[(1,v_l 7 T.Op.enc os),(4,v_l 1 qo y.1),(5,v_i y.2.1),(6,v_r 0 y.2.2)],[(0,Blk.row false 1 (List.map qo y.2.2)),(1,Blk.row false 1 (List.map qo r1_))],2⟩)
 | .inr y => (Ex.normal,⟨[(1,v_l 7 T.Op.enc os),(4,AV.undef),(5,AV.undef),(6,v_r 0 y)],[(0,Blk.row false 1 (List.map qo y)),(1,Blk.row false 1 (List.map qo r1_))],2⟩)
attribute [local go_sem] qgh
theorem x0q : ∀ p r,q29 p = some r → O.loop 9 2 ⟨[(1,v_l 7 T.Op.enc p.1),(6,v_r 0 p.2.2.2.2.1),(30,v_l 7 T.Op.enc p.2.1),(31,v_i p.2.2.1),(32,v_i p.2.2.2.1)],[(0,Blk.row false 1 (List.map qo p.2.2.2.2.1)),(1,Blk.row false 1 (List.map qo p.2.2.2.2.2))],2⟩ = some (qgh p.1 p.2.2.2.2.2 r) := by
 refine q29.partial_correctness _ ?_
 rintro q29 ih18 ⟨os,t30,t31,t32,out,r1_⟩ r; dsimp only
 apply it <;> intro h1
 ·refine bg T.Op.enc fun x3 h2 f1 f2 f3 => ?_
  refine bs fun v5 h4 => ?_
  have f4 := zm2 h4
  try simp only [en.down] at f4
  apply it <;> intro h6
  ·rintro ⟨⟩
   clear ih18; exact fL fn9
  refine gd fun h7 => ?_
  have f5 : List.map qo out ++ List.map qo v5.1 = List.map qo (out ++ v5.1) := qf9 _ _ _
  refine gd fun h8 => ?_
  have f6 : List.map qo (out ++ v5.1) ++ [[PV.int IntKind.u8 (10 : Int)]] = List.map qo ((out ++ v5.1) ++ [10]) := by simp only [List.map_append,List.map_cons,List.map_nil,gu,uw,q0m,qo] <;> rfl
  intro h; have f7 := ih18 _ _ h; clear h
  try simp only [en.down] at f7
  clear ih18; exact fL fn9
 rintro ⟨⟩
 clear ih18; exact fL fn9
theorem q98 {nums os r} (h : q2h nums os = some r) : O.call 9 [v_l 1 (kE IntKind.u32) nums,v_l 7 T.Op.enc os] [] = some (AV.tup [v_l 1 qo r.1,v_i r.2],[]) := by
 revert h; unfold q2h
 refine gd fun h1 => ?_
 have f1 : (0 < [100,105,99,101].length) = True := eq_true h1
 refine bs fun v3 h2 => ?_
 have f2 := za4 _ _ h2
 try simp only [en.down,Nat.reduceAdd,UInt8.reduceToNat] at f2
 refine gd fun h4 => ?_
 have f3 : List.map qo v3 ++ [[PV.int IntKind.u8 (10 : Int)]] = List.map qo (v3 ++ [10]) := by simp only [List.map_append,List.map_cons,List.map_nil,gu,uw,q0m,qo] <;> rfl
 refine bs fun v6 h5 => ?_
 have f4 := x0q _ _ h5
 try simp only [en.down,Nat.reduceAdd,UInt8.reduceToNat] at f4
 rcases v6 with y7 | y8
 ·dsimp only
  rintro ⟨⟩
  exact fF fn9
 dsimp only
 apply it <;> intro h9
 ·rintro ⟨⟩
  exact fF fn9
 apply it <;> intro h10
 ·rintro ⟨⟩
  exact fF fn9
 rintro ⟨⟩
 exact fF fn9
theorem qvd : ∀ p r,q27 p = some r → O.loop 37 0 ⟨[(0,AV.ptr 0 0),(3,v_i p.1)],[(0,b_x (T.qb.enc p.2))],1⟩ = some (Ex.normal,⟨[(0,AV.ptr 0 0),(3,v_i p.1)],[(0,b_x (T.qb.enc r))],1⟩) := by
 refine q27.partial_correctness _ ?_
 rintro q27 ih32 ⟨frm,p_⟩ r; dsimp only
 apply it <;> intro h1
 ·refine bg qo fun x3 h2 f1 f2 f3 => ?_
  apply it <;> intro h4
  ·apply it <;> intro h5
   ·intro h; have f4 := ih32 _ _ h; clear h
    try simp only [en.down] at f4
    clear ih32; exact fL q6y
   rintro ⟨⟩
   clear ih32; exact fL q6y
  rintro ⟨⟩
  clear ih32; exact fL q6y
 rintro ⟨⟩
 clear ih32; exact fL q6y
theorem qck {b r} (h : q5h b = some r) : O.call 37 [AV.ptr 0 0] [(0,b_x (T.qb.enc b))] = some (v_s r.1,[(0,b_x (T.qb.enc r.2))]) := by
 revert h; unfold q5h
 refine bs fun v2 h1 => ?_
 have f1 := qvd _ _ h1
 try simp only [en.down] at f1
 have f2 := q4l 1 qo v2.place.b.l
 refine b2 qo fun r4 h3 f3 f4 f5 f6 f7 f8 => ?_
 have f9 := q4l 1 qo r4
 have f10 := bytesOf_map r4
 rintro ⟨⟩
 exact fF q6y
theorem qau {b r} (h : q4r b = some r) : O.call 38 [AV.ptr 0 0] [(0,b_x (T.qb.enc b))] = some (v_b r,[(0,b_x (T.qb.enc b))]) := by
 revert h; unfold q4r
 refine yc (fun h1 h2 => ?_) ?_
 ·refine bg qo fun x4 h3 f1 f2 f3 => ?_
  rintro ⟨⟩
  exact fF qeq
 rintro (⟨h1,h2⟩ | ⟨h1,h2⟩)
 all_goals
 rintro ⟨⟩
 exact fF qeq
theorem y9 {c b r} (h : je c b = some r) : O.call 40 [AV.ptr 0 0,AV.pv (PV.int IntKind.u8 (c.toNat : Int))] [(0,b_x (T.qb.enc b))] = some (v_b r.1,[(0,b_x (T.qb.enc r.2))]) := by
 revert h; unfold je
 apply it <;> intro h1
 ·rintro ⟨⟩
  exact fF qa8
 refine bg qo fun x3 h2 f1 f2 f3 => ?_
 apply it <;> intro h4
 ·rintro ⟨⟩
  exact fF qa8
 rintro ⟨⟩
 exact fF qa8
theorem q9w {b r} (h : q4d b = some r) : O.call 42 [AV.ptr 0 0] [(0,b_x (T.qb.enc b))] = some (AV.tup [],[(0,b_x (T.qb.enc r))]) := by
 revert h; unfold q4d
 apply it <;> intro h1
 ·refine bs fun v3 h2 => ?_
  have f1 := y9 h2
  try simp only [en.down,UInt8.reduceToNat] at f1
  try simp only [h1] at f1
  rintro ⟨⟩
  exact fF qgv
 rintro ⟨⟩
 exact fF qgv
def qg9 (below : Bool) (frm : Int) : ((Int × Bool × Int × T.qb) ⊕ (Int × T.qb)) → Ex × St
 | .inl y => (Ex.ret,⟨[(0,AV.ptr 0 0),(2,v_i y.1),(3,v_b y.2.1),(4,v_b below),(5,v_i frm),(6,v_i y.2.2.1)],[(0,b_x (T.qb.enc y.2.2.2))],1⟩)
 | .inr y => (Ex.normal,⟨[(0,AV.ptr 0 0),(2,AV.undef),(3,AV.undef),(4,v_b below),(5,v_i frm),(6,v_i y.1)],[(0,b_x (T.qb.enc y.2))],1⟩)
attribute [local go_sem] qg9
theorem zyy : ∀ p r,q25 p = some r → O.loop 60 0 ⟨[(0,AV.ptr 0 0),(4,v_b p.1),(5,v_i p.2.1),(6,v_i p.2.2.1)],[(0,b_x (T.qb.enc p.2.2.2))],1⟩ = some (qg9 p.1 p.2.1 r) := by
 refine q25.partial_correctness _ ?_
 rintro q25 ih39 ⟨below,frm,n,p_⟩ r; dsimp only
 apply it <;> intro h1
 ·refine bg qo fun x3 h2 f1 f2 f3 => ?_
  apply it <;> intro h4
  ·apply it <;> intro h5
   ·apply it <;> intro h6
    ·rintro ⟨⟩
     clear ih39; exact fL q0e
    intro h; have f4 := ih39 _ _ h; clear h
    try simp only [en.down] at f4
    clear ih39; exact fL q0e
   rintro ⟨⟩
   clear ih39; exact fL q0e
  rintro ⟨⟩
  clear ih39; exact fL q0e
 rintro ⟨⟩
 clear ih39; exact fL q0e
theorem qdh {b r} (h : q4n b = some r) : O.call 60 [AV.ptr 0 0] [(0,b_x (T.qb.enc b))] = some (AV.tup [v_i r.1,v_b r.2.1],[(0,b_x (T.qb.enc r.2.2))]) := by
 revert h; unfold q4n
 refine bs fun v2 h1 => ?_
 have f1 := y9 h1
 try simp only [en.down,UInt8.reduceToNat] at f1
 refine bs fun v4 h3 => ?_
 have f2 := zyy _ _ h3
 try simp only [en.down] at f2
 rcases v4 with y5 | y6
 ·dsimp only
  rintro ⟨⟩
  exact fF q0e
 dsimp only
 apply it <;> intro h7
 ·rintro ⟨⟩
  exact fF q0e
 refine bg qo fun x9 h8 f3 f4 f5 => ?_
 apply it <;> intro h10
 ·refine qgg ?_ (fun h11 h12 => ?_)
  ·rintro (⟨h11,h12⟩ | ⟨h11,h12⟩)
   all_goals
   try simp only [h11] at f1 f2
   rintro ⟨⟩
   exact fF q0e
  try simp only [h11] at f1 f2
  rintro ⟨⟩
  exact fF q0e
 apply it <;> intro h13
 ·try simp only [h13] at f1 f2
  rintro ⟨⟩
  exact fF q0e
 try simp only [h13] at f1 f2
 rintro ⟨⟩
 exact fF q0e
theorem q2k {b r} (h : mg b = some r) : O.call 39 [AV.ptr 0 0] [(0,b_x (T.qb.enc b))] = some (v_i r.1,[(0,b_x (T.qb.enc r.2))]) := by
 revert h; unfold mg
 refine bs fun v2 h1 => ?_
 have f1 := q9w h1
 try simp only [en.down] at f1
 refine bs fun v4 h3 => ?_
 have f2 := qdh h3
 try simp only [en.down] at f2
 apply it <;> intro h5
 ·try simp only [h5] at f1 f2
  rintro ⟨⟩
  exact fF qbp
 try simp only [h5] at f1 f2
 rintro ⟨⟩
 exact fF qbp
theorem zuy : ∀ p r,q0y p = some r → O.loop 21 0 ⟨[(0,AV.ptr 0 0),(3,v_r 1 p.2)],[(0,b_x (T.qb.enc p.1)),(1,b_r 1 (kE IntKind.u32) p.2)],2⟩ = some (Ex.normal,⟨[(0,AV.ptr 0 0),(3,v_r 1 r.2)],[(0,b_x (T.qb.enc r.1)),(1,b_r 1 (kE IntKind.u32) r.2)],2⟩) := by
 refine q0y.partial_correctness _ ?_
 rintro q0y ih33 ⟨r_,nums⟩ r; dsimp only
 refine bs fun v2 h1 => ?_
 have f1 := qau h1
 try simp only [en.down] at f1
 apply it <;> intro h3
 ·refine bs fun v5 h4 => ?_
  have f2 := q2k h4
  try simp only [en.down] at f2
  refine yc (fun h6 h7 => ?_) ?_
  ·refine gd fun h8 => ?_
   have f3 := rG 1 (kE IntKind.u32) nums
   have f4 : List.map (kE IntKind.u32) nums ++ [[PV.int IntKind.u32 (IntKind.u32.wrap v5.1)]] = List.map (kE IntKind.u32) (nums ++ [(IntKind.u32.wrap v5.1)]) := by simp only [List.map_append,List.map_cons,List.map_nil,gu,uw,q0m,kE] <;> rfl
   try simp only [h3,h6] at f1 f2
   intro h; have f5 := ih33 _ _ h; clear h
   try simp only [en.down] at f5
   try simp only [h3,h6] at f5
   clear ih33; exact fL q64
  rintro (⟨h6,h7⟩ | ⟨h6,h7⟩)
  all_goals
  refine gd fun h10 => ?_
  have f6 := rG 1 (kE IntKind.u32) nums
  have f7 : List.map (kE IntKind.u32) nums ++ [[PV.int IntKind.u32 (IntKind.u32.wrap v5.1)]] = List.map (kE IntKind.u32) (nums ++ [(IntKind.u32.wrap v5.1)]) := by simp only [List.map_append,List.map_cons,List.map_nil,gu,uw,q0m,kE] <;> rfl
  try simp only [h3,h6] at f1 f2
  intro h; have f8 := ih33 _ _ h; clear h
  try simp only [en.down] at f8
  try simp only [h3,h6] at f8
  clear ih33; exact fL q64
 try simp only [h3] at f1
 rintro ⟨⟩
 clear ih33; exact fL q64
theorem qx7 {b r} (h : q6s b = some r) : O.call 21 [AV.ptr 0 0] [(0,b_x (T.qb.enc b))] = some (v_l 1 (kE IntKind.u32) r.1,[(0,b_x (T.qb.enc r.2))]) := by
 revert h; unfold q6s
 refine bs fun v2 h1 => ?_
 have f1 := qck h1
 try simp only [en.down] at f1
 refine bs fun v4 h3 => ?_
 have f2 := zuy _ _ h3
 try simp only [en.down,UInt8.reduceToNat] at f2
 apply it <;> intro h5
 ·refine bs fun v7 h6 => ?_
  have f3 := y9 h6
  try simp only [en.down,UInt8.reduceToNat] at f3
  try simp only [h5] at f1 f2 f3
  rintro ⟨⟩
  exact fF q64
 try simp only [h5] at f1 f2
 rintro ⟨⟩
 exact fF q64
theorem zky {b r} (h : q5t b = some r) : O.call 61 [AV.ptr 0 0] [(0,b_x (T.qb.enc b))] = some (AV.tup [v_s r.1,v_b r.2.1],[(0,b_x (T.qb.enc r.2.2))]) := by
 revert h; unfold q5t
 refine bs fun v2 h1 => ?_
 have f1 := qdh h1
 try simp only [en.down] at f1
 apply it <;> intro h3
 ·rintro ⟨⟩
  exact fF qad
 refine bs fun v5 h4 => ?_
 have f2 := y9 h4
 try simp only [en.down,UInt8.reduceToNat] at f2
 refine z00 ?_ (fun h6 h7 h8 => ?_)
 ·rintro (⟨h6,h7,h8⟩ | ⟨h6,h7,h8⟩ | ⟨h6,h7,h8⟩)
  all_goals
  rintro ⟨⟩
  exact fF qad
 have f3 := q4l 1 qo v5.2.place.b.l
 refine b2 qo fun r10 h9 f4 f5 f6 f7 f8 f9 => ?_
 have f10 := q4l 1 qo r10
 have f11 := bytesOf_map r10
 rintro ⟨⟩
 exact fF qad
theorem q70 {b r} (h : q2a b = some r) : O.call 41 [AV.ptr 0 0] [(0,b_x (T.qb.enc b))] = some (v_s r.1,[(0,b_x (T.qb.enc r.2))]) := by
 revert h; unfold q2a
 refine bs fun v2 h1 => ?_
 have f1 := q9w h1
 try simp only [en.down] at f1
 refine bs fun v4 h3 => ?_
 have f2 := zky h3
 try simp only [en.down] at f2
 apply it <;> intro h5
 ·try simp only [h5] at f1 f2
  rintro ⟨⟩
  exact fF qh9
 try simp only [h5] at f1 f2
 rintro ⟨⟩
 exact fF qh9
theorem zb3 : ∀ p r,q2f p = some r → O.loop 22 1 ⟨[(0,AV.ptr 0 0),(2,AV.ptr 1 0),(3,AV.ptr 2 0)],[(0,b_x (T.qb.enc p.1)),(1,b_x (T.Op.enc p.2.1)),(2,Blk.box [v_i p.2.2.1,v_s p.2.2.2.1,v_s p.2.2.2.2.1,v_i p.2.2.2.2.2.1,v_b p.2.2.2.2.2.2.1,v_r 3 p.2.2.2.2.2.2.2.2,v_l 2 T.Sel.enc p.2.2.2.2.2.2.2.1]),(3,b_r 3 T.qd.enc p.2.2.2.2.2.2.2.2)],4⟩ = some (Ex.normal,⟨[(0,AV.ptr 0 0),(2,AV.ptr 1 0),(3,AV.ptr 2 0)],[(0,b_x (T.qb.enc r.1)),(1,b_x (T.Op.enc p.2.1)),(2,Blk.box [v_i p.2.2.1,v_s p.2.2.2.1,v_s p.2.2.2.2.1,v_i p.2.2.2.2.2.1,v_b p.2.2.2.2.2.2.1,v_r 3 r.2,v_l 2 T.Sel.enc p.2.2.2.2.2.2.2.1]),(3,b_r 3 T.qd.enc r.2)],4⟩) := by
 refine q2f.partial_correctness _ ?_
 rintro q2f ih44 ⟨r_,t2,o,o2,o3,o4,o5,o6,r3_⟩ r; dsimp only
 refine bs fun v2 h1 => ?_
 have f1 := qau h1
 try simp only [en.down] at f1
 apply it <;> intro h3
 ·refine bs fun v5 h4 => ?_
  have f2 := q2k h4
  try simp only [en.down] at f2
  refine bs fun v7 h6 => ?_
  have f3 := q2k h6
  try simp only [en.down] at f3
  refine bs fun v9 h8 => ?_
  have f4 := q70 h8
  try simp only [en.down] at f4
  refine gd fun h10 => ?_
  have f5 := rG 3 T.qd.enc r3_
  have f6 : List.map T.qd.enc r3_ ++ [[PV.int IntKind.i64 v5.1,PV.int IntKind.i64 v7.1,PV.str v9.1]] = List.map T.qd.enc (r3_ ++ [(T.qd.mk (T.Span.mk v5.1 v7.1) v9.1)]) := by simp only [List.map_append,List.map_cons,List.map_nil,gu,uw,q0m,T.qd.qf] <;> rfl
  try simp only [h3] at f1 f2 f3 f4
  intro h; have f7 := ih44 _ _ h; clear h
  try simp only [en.down] at f7
  try simp only [h3] at f7
  clear ih44; exact fL xu
 try simp only [h3] at f1
 rintro ⟨⟩
 clear ih44; exact fL xu
theorem qt2 : ∀ p r,q2e p = some r → O.loop 22 3 ⟨[(0,AV.ptr 0 0),(2,AV.ptr 1 0),(3,AV.ptr 2 0)],[(0,b_x (T.qb.enc p.1)),(1,b_x (T.Op.enc p.2.1)),(2,Blk.box [v_i p.2.2.1,v_s p.2.2.2.1,v_s p.2.2.2.2.1,v_i p.2.2.2.2.2.1,v_b p.2.2.2.2.2.2.1,v_l 3 T.qd.enc p.2.2.2.2.2.2.2.1,v_r 3 p.2.2.2.2.2.2.2.2]),(3,b_r 2 T.Sel.enc p.2.2.2.2.2.2.2.2)],4⟩ = some (Ex.normal,⟨[(0,AV.ptr 0 0),(2,AV.ptr 1 0),(3,AV.ptr 2 0)],[(0,b_x (T.qb.enc r.1)),(1,b_x (T.Op.enc p.2.1)),(2,Blk.box [v_i p.2.2.1,v_s p.2.2.2.1,v_s p.2.2.2.2.1,v_i p.2.2.2.2.2.1,v_b p.2.2.2.2.2.2.1,v_l 3 T.qd.enc p.2.2.2.2.2.2.2.1,v_r 3 r.2]),(3,b_r 2 T.Sel.enc r.2)],4⟩) := by
 refine q2e.partial_correctness _ ?_
 rintro q2e ih45 ⟨r_,t2,o,o2,o3,o4,o5,o6,r3_⟩ r; dsimp only
 refine bs fun v2 h1 => ?_
 have f1 := qau h1
 try simp only [en.down] at f1
 apply it <;> intro h3
 ·refine bs fun v5 h4 => ?_
  have f2 := q2k h4
  try simp only [en.down] at f2
  refine bs fun v7 h6 => ?_
  have f3 := q2k h6
  try simp only [en.down] at f3
  refine gd fun h8 => ?_
  have f4 := rG 2 T.Sel.enc r3_
  have f5 : List.map T.Sel.enc r3_ ++ [[PV.int IntKind.i64 v5.1,PV.int IntKind.i64 v7.1]] = List.map T.Sel.enc (r3_ ++ [(T.Sel.mk v5.1 v7.1)]) := by simp only [List.map_append,List.map_cons,List.map_nil,gu,uw,q0m,T.Sel.qf] <;> rfl
  try simp only [h3] at f1 f2 f3
  intro h; have f6 := ih45 _ _ h; clear h
  try simp only [en.down] at f6
  try simp only [h3] at f6
  clear ih45; exact fL xu
 try simp only [h3] at f1
 rintro ⟨⟩
 clear ih45; exact fL xu
end Go.Proofs.YtaglodpkpggdiaaGreatDoor
