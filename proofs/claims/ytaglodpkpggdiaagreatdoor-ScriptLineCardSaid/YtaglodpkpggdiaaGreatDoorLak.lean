/-
  What the machine's calls come to: the plain functions.
-/
import Derived.Test.YtaglodpkpggdiaaGreatDoorLaj
set_option linter.unusedSimpArgs false
set_option linter.unusedVariables false
set_option maxRecDepth 100000
namespace Go.Proofs.YtaglodpkpggdiaaGreatDoor
open Go Go.Gm
set_option maxHeartbeats 4000000
theorem zs5 {o r} (h : q72 o = some r) : O.call 20 [v_g (T.Op.enc o)] [] = some (AV.tup [v_s r.1,v_b r.2],[]) := by
 revert h; unfold q72
 refine bs fun v2 h1 => ?_
 have f1 := qai h1
 try simp only [en.down] at f1
 apply it <;> intro h3
 ·refine bs fun v5 h4 => ?_
  have f2 := q5j h4
  try simp only [en.down] at f2
  refine gd fun h6 => ?_
  have f3 : (3 + v5.length ≤ 2 ^ 62) = True := eq_true h6
  refine bs fun v8 h7 => ?_
  have f4 := q5j h7
  try simp only [en.down] at f4
  refine gd fun h9 => ?_
  have f5 := eq_true h9
  try simp only [en.down] at f5
  refine yx (fun h10 h11 => ?_) ?_
  ·try simp only [List.cons_append,List.nil_append] at h11
   refine bs fun v13 h12 => ?_
   have f6 := pq h12
   try simp only [en.down] at f6
   try simp only [h10] at f1 f2 f4 f6
   rintro ⟨⟩
   exact fF zy
  rintro (⟨h10,h11⟩ | ⟨h10,h11⟩)
  all_goals
  try simp only [List.cons_append,List.nil_append] at h11
  try simp only [h10] at f1 f2 f4
  rintro ⟨⟩
  exact fF zy
 apply it <;> intro h14
 ·refine bs fun v16 h15 => ?_
  have f7 := q5j h15
  try simp only [en.down] at f7
  refine gd fun h17 => ?_
  have f8 : (4 + v16.length ≤ 2 ^ 62) = True := eq_true h17
  apply it <;> intro h18
  ·refine gd fun h19 => ?_
   have f9 : (6 + v16.length ≤ 2 ^ 62) = True := eq_true h19
   refine yx (fun h20 h21 => ?_) ?_
   ·try simp only [List.cons_append,List.nil_append] at h21
    refine bs fun v23 h22 => ?_
    have f10 := pq h22
    try simp only [en.down] at f10
    try simp only [h20] at f1 f7 f10
    rintro ⟨⟩
    exact fF zy
   rintro (⟨h20,h21⟩ | ⟨h20,h21⟩)
   all_goals
   try simp only [List.cons_append,List.nil_append] at h21
   try simp only [h20] at f1 f7
   rintro ⟨⟩
   exact fF zy
  refine yx (fun h24 h25 => ?_) ?_
  ·try simp only [List.cons_append,List.nil_append] at h25
   refine bs fun v27 h26 => ?_
   have f11 := pq h26
   try simp only [en.down] at f11
   try simp only [h24] at f1 f7 f11
   rintro ⟨⟩
   exact fF zy
  rintro (⟨h24,h25⟩ | ⟨h24,h25⟩)
  all_goals
  try simp only [List.cons_append,List.nil_append] at h25
  try simp only [h24] at f1 f7
  rintro ⟨⟩
  exact fF zy
 apply it <;> intro h28
 ·refine bs fun v30 h29 => ?_
  have f12 := q5j h29
  try simp only [en.down] at f12
  refine gd fun h31 => ?_
  have f13 : (4 + v30.length ≤ 2 ^ 62) = True := eq_true h31
  refine gd fun h32 => ?_
  have f14 : (6 + v30.length ≤ 2 ^ 62) = True := eq_true h32
  refine yx (fun h33 h34 => ?_) ?_
  ·try simp only [List.cons_append,List.nil_append] at h34
   refine bs fun v36 h35 => ?_
   have f15 := pq h35
   try simp only [en.down] at f15
   try simp only [h33] at f1 f12 f15
   rintro ⟨⟩
   exact fF zy
  rintro (⟨h33,h34⟩ | ⟨h33,h34⟩)
  all_goals
  try simp only [List.cons_append,List.nil_append] at h34
  try simp only [h33] at f1 f12
  rintro ⟨⟩
  exact fF zy
 apply it <;> intro h37
 ·refine bs fun v39 h38 => ?_
  have f16 := mf h38
  try simp only [en.down] at f16
  refine gd fun h40 => ?_
  have f17 : (5 + v39.length ≤ 2 ^ 62) = True := eq_true h40
  apply it <;> intro h41
  ·refine gd fun h42 => ?_
   have f18 : (6 + v39.length ≤ 2 ^ 62) = True := eq_true h42
   refine yx (fun h43 h44 => ?_) ?_
   ·try simp only [List.cons_append,List.nil_append] at h44
    refine bs fun v46 h45 => ?_
    have f19 := pq h45
    try simp only [en.down] at f19
    try simp only [h43] at f1 f16 f19
    rintro ⟨⟩
    exact fF zy
   rintro (⟨h43,h44⟩ | ⟨h43,h44⟩)
   all_goals
   try simp only [List.cons_append,List.nil_append] at h44
   try simp only [h43] at f1 f16
   rintro ⟨⟩
   exact fF zy
  refine yx (fun h47 h48 => ?_) ?_
  ·try simp only [List.cons_append,List.nil_append] at h48
   refine bs fun v50 h49 => ?_
   have f20 := pq h49
   try simp only [en.down] at f20
   try simp only [h47] at f1 f16 f20
   rintro ⟨⟩
   exact fF zy
  rintro (⟨h47,h48⟩ | ⟨h47,h48⟩)
  all_goals
  try simp only [List.cons_append,List.nil_append] at h48
  try simp only [h47] at f1 f16
  rintro ⟨⟩
  exact fF zy
 apply it <;> intro h51
 ·refine bs fun v53 h52 => ?_
  have f21 := mf h52
  try simp only [en.down] at f21
  refine gd fun h54 => ?_
  have f22 : (5 + v53.length ≤ 2 ^ 62) = True := eq_true h54
  refine gd fun h55 => ?_
  have f23 : (6 + v53.length ≤ 2 ^ 62) = True := eq_true h55
  refine yx (fun h56 h57 => ?_) ?_
  ·try simp only [List.cons_append,List.nil_append] at h57
   refine bs fun v59 h58 => ?_
   have f24 := pq h58
   try simp only [en.down] at f24
   try simp only [h56] at f1 f21 f24
   rintro ⟨⟩
   exact fF zy
  rintro (⟨h56,h57⟩ | ⟨h56,h57⟩)
  all_goals
  try simp only [List.cons_append,List.nil_append] at h57
  try simp only [h56] at f1 f21
  rintro ⟨⟩
  exact fF zy
 apply it <;> intro h60
 ·refine bs fun v62 h61 => ?_
  have f25 := mf h61
  try simp only [en.down] at f25
  refine gd fun h63 => ?_
  have f26 : (4 + v62.length ≤ 2 ^ 62) = True := eq_true h63
  refine gd fun h64 => ?_
  have f27 : ((([109,111,118,101] : Bytes) ++ v62).length + 2 ≤ 2 ^ 62) = True := eq_true h64
  try simp only [en.down] at f27
  apply it <;> intro h65
  ·refine gd fun h66 => ?_
   have f28 : (4 + v62.length ≤ 2 ^ 62) = True := eq_true h66
   refine gd fun h67 => ?_
   have f29 : ((([109,111,118,101] : Bytes) ++ v62).length + 2 ≤ 2 ^ 62) = True := eq_true h67
   try simp only [en.down] at f29
   refine yx (fun h68 h69 => ?_) ?_
   ·try simp only [List.cons_append,List.nil_append] at h69
    refine bs fun v71 h70 => ?_
    have f30 := pq h70
    try simp only [en.down] at f30
    try simp only [h65,h68] at f1 f25 f30
    rintro ⟨⟩
    exact fF zy
   rintro (⟨h68,h69⟩ | ⟨h68,h69⟩)
   all_goals
   try simp only [List.cons_append,List.nil_append] at h69
   try simp only [h65,h68] at f1 f25
   rintro ⟨⟩
   exact fF zy
  refine yx (fun h72 h73 => ?_) ?_
  ·try simp only [List.cons_append,List.nil_append] at h73
   refine bs fun v75 h74 => ?_
   have f31 := pq h74
   try simp only [en.down] at f31
   try simp only [h65,h72] at f1 f25 f31
   rintro ⟨⟩
   exact fF zy
  rintro (⟨h72,h73⟩ | ⟨h72,h73⟩)
  all_goals
  try simp only [List.cons_append,List.nil_append] at h73
  try simp only [h65,h72] at f1 f25
  rintro ⟨⟩
  exact fF zy
 apply it <;> intro h76
 ·refine bs fun v78 h77 => ?_
  have f32 := qjy _ _ h77
  try simp only [en.down,UInt8.reduceToNat] at f32
  refine yx (fun h79 h80 => ?_) ?_
  ·refine bs fun v82 h81 => ?_
   have f33 := pq h81
   try simp only [en.down] at f33
   try simp only [h79] at f1 f32 f33
   rintro ⟨⟩
   exact fF zy
  rintro (⟨h79,h80⟩ | ⟨h79,h80⟩)
  all_goals
  try simp only [h79] at f1 f32
  rintro ⟨⟩
  exact fF zy
 apply it <;> intro h83
 ·refine bs fun v85 h84 => ?_
  have f34 := z0p _ _ h84
  try simp only [en.down,UInt8.reduceToNat] at f34
  refine yx (fun h86 h87 => ?_) ?_
  ·refine bs fun v89 h88 => ?_
   have f35 := pq h88
   try simp only [en.down] at f35
   try simp only [h86] at f1 f34 f35
   rintro ⟨⟩
   exact fF zy
  rintro (⟨h86,h87⟩ | ⟨h86,h87⟩)
  all_goals
  try simp only [h86] at f1 f34
  rintro ⟨⟩
  exact fF zy
 refine bs fun v91 h90 => ?_
 have f36 := znl h90
 try simp only [en.down] at f36
 refine yx (fun h92 h93 => ?_) ?_
 ·refine bs fun v95 h94 => ?_
  have f37 := pq h94
  try simp only [en.down] at f37
  try simp only [h92] at f1 f36 f37
  rintro ⟨⟩
  exact fF zy
 rintro (⟨h92,h93⟩ | ⟨h92,h93⟩)
 all_goals
 try simp only [h92] at f1 f36
 rintro ⟨⟩
 exact fF zy
def qdu (os : (Sl T.Op)) (r1_ : (List UInt8)) : (((Sl UInt8) × Int × (List UInt8)) ⊕ ((List UInt8))) → Ex × St
 | .inl y => (Ex.ret,⟨[(1,v_l 7 T.Op.enc os),(4,v_l 1 z8 y.1),(5,v_i y.2.1),(6,v_r 0 y.2.2)],[(0,Blk.row false 1 (List.map z8 y.2.2)),(1,Blk.row false 1 (List.map z8 r1_))],2⟩)
 | .inr y => (Ex.normal,⟨[(1,v_l 7 T.Op.enc os),(4,AV.undef),(5,AV.undef),(6,v_r 0 y)],[(0,Blk.row false 1 (List.map z8 y)),(1,Blk.row false 1 (List.map z8 r1_))],2⟩)
attribute [local go_sem] qdu
theorem zsa : ∀ p r,q1u p = some r → O.loop 9 2 ⟨[(1,v_l 7 T.Op.enc p.1),(6,v_r 0 p.2.2.2.2.1),(30,v_l 7 T.Op.enc p.2.1),(31,v_i p.2.2.1),(32,v_i p.2.2.2.1)],[(0,Blk.row false 1 (List.map z8 p.2.2.2.2.1)),(1,Blk.row false 1 (List.map z8 p.2.2.2.2.2))],2⟩ = some (qdu p.1 p.2.2.2.2.2 r) := by
 refine q1u.partial_correctness _ ?_
 rintro q1u ih18 ⟨os,t30,t31,t32,out,r1_⟩ r; dsimp only
 apply it <;> intro h1
 ·refine bg T.Op.enc fun x3 h2 f1 f2 f3 => ?_
  refine bs fun v5 h4 => ?_
  have f4 := zs5 h4
  try simp only [en.down] at f4
  apply it <;> intro h6
  ·rintro ⟨⟩
   clear ih18; exact fL fn9
  refine gd fun h7 => ?_
  have f5 : List.map z8 out ++ List.map z8 v5.1 = List.map z8 (out ++ v5.1) := qhl _ _ _
  refine gd fun h8 => ?_
  have f6 : List.map z8 (out ++ v5.1) ++ [[PV.int IntKind.u8 (10 : Int)]] = List.map z8 ((out ++ v5.1) ++ [10]) := by simp only [List.map_append,List.map_cons,List.map_nil,kr,w9,kv,z8] <;> rfl
  intro h; have f7 := ih18 _ _ h; clear h
  try simp only [en.down] at f7
  clear ih18; exact fL fn9
 rintro ⟨⟩
 clear ih18; exact fL fn9
theorem zom {nums os r} (h : q53 nums os = some r) : O.call 9 [v_l 1 (kE IntKind.u32) nums,v_l 7 T.Op.enc os] [] = some (AV.tup [v_l 1 z8 r.1,v_i r.2],[]) := by
 revert h; unfold q53
 refine gd fun h1 => ?_
 have f1 : (0 < [100,105,99,101].length) = True := eq_true h1
 refine bs fun v3 h2 => ?_
 have f2 := zf5 _ _ h2
 try simp only [en.down,Nat.reduceAdd,UInt8.reduceToNat] at f2
 refine gd fun h4 => ?_
 have f3 : List.map z8 v3 ++ [[PV.int IntKind.u8 (10 : Int)]] = List.map z8 (v3 ++ [10]) := by simp only [List.map_append,List.map_cons,List.map_nil,kr,w9,kv,z8] <;> rfl
 refine bs fun v6 h5 => ?_
 have f4 := zsa _ _ h5
 try simp only [en.down,Nat.reduceAdd,UInt8.reduceToNat] at f4
 rcases v6 with y7 | y8
 ·dsimp only
  rintro ⟨⟩
  exact fF fn9
 dsimp only
 apply it <;> intro h9
 ·rintro ⟨⟩
  exact fF fn9
 apply it <;> intro h10
 ·rintro ⟨⟩
  exact fF fn9
 rintro ⟨⟩
 exact fF fn9
theorem qm6 : ∀ p r,q2g p = some r → O.loop 37 0 ⟨[(0,AV.ptr 0 0),(3,v_i p.1)],[(0,b_x (T.qc.enc p.2))],1⟩ = some (Ex.normal,⟨[(0,AV.ptr 0 0),(3,v_i p.1)],[(0,b_x (T.qc.enc r))],1⟩) := by
 refine q2g.partial_correctness _ ?_
 rintro q2g ih32 ⟨frm,p_⟩ r; dsimp only
 apply it <;> intro h1
 ·refine bg z8 fun x3 h2 f1 f2 f3 => ?_
  apply it <;> intro h4
  ·apply it <;> intro h5
   ·intro h; have f4 := ih32 _ _ h; clear h
    try simp only [en.down] at f4
    clear ih32; exact fL q6o
   rintro ⟨⟩
   clear ih32; exact fL q6o
  rintro ⟨⟩
  clear ih32; exact fL q6o
 rintro ⟨⟩
 clear ih32; exact fL q6o
theorem qgr {b r} (h : q5e b = some r) : O.call 37 [AV.ptr 0 0] [(0,b_x (T.qc.enc b))] = some (v_s r.1,[(0,b_x (T.qc.enc r.2))]) := by
 revert h; unfold q5e
 refine bs fun v2 h1 => ?_
 have f1 := qm6 _ _ h1
 try simp only [en.down] at f1
 have f2 := q6t 1 z8 v2.place.b.l
 refine b2 z8 fun r4 h3 f3 f4 f5 f6 f7 f8 => ?_
 have f9 := q6t 1 z8 r4
 have f10 := bytesOf_map r4
 rintro ⟨⟩
 exact fF q6o
theorem q9z {b r} (h : q4q b = some r) : O.call 38 [AV.ptr 0 0] [(0,b_x (T.qc.enc b))] = some (v_b r,[(0,b_x (T.qc.enc b))]) := by
 revert h; unfold q4q
 refine yx (fun h1 h2 => ?_) ?_
 ·refine bg z8 fun x4 h3 f1 f2 f3 => ?_
  rintro ⟨⟩
  exact fF qhn
 rintro (⟨h1,h2⟩ | ⟨h1,h2⟩)
 all_goals
 rintro ⟨⟩
 exact fF qhn
theorem yz {c b r} (h : je c b = some r) : O.call 40 [AV.ptr 0 0,AV.pv (PV.int IntKind.u8 (c.toNat : Int))] [(0,b_x (T.qc.enc b))] = some (v_b r.1,[(0,b_x (T.qc.enc r.2))]) := by
 revert h; unfold je
 apply it <;> intro h1
 ·rintro ⟨⟩
  exact fF qag
 refine bg z8 fun x3 h2 f1 f2 f3 => ?_
 apply it <;> intro h4
 ·rintro ⟨⟩
  exact fF qag
 rintro ⟨⟩
 exact fF qag
theorem qaw {b r} (h : q4p b = some r) : O.call 42 [AV.ptr 0 0] [(0,b_x (T.qc.enc b))] = some (AV.tup [],[(0,b_x (T.qc.enc r))]) := by
 revert h; unfold q4p
 apply it <;> intro h1
 ·refine bs fun v3 h2 => ?_
  have f1 := yz h2
  try simp only [en.down,UInt8.reduceToNat] at f1
  try simp only [h1] at f1
  rintro ⟨⟩
  exact fF qh9
 rintro ⟨⟩
 exact fF qh9
def qcb (below : Bool) (frm : Int) : ((Int × Bool × Int × T.qc) ⊕ (Int × T.qc)) → Ex × St
 | .inl y => (Ex.ret,⟨[(0,AV.ptr 0 0),(2,v_i y.1),(3,v_b y.2.1),(4,v_b below),(5,v_i frm),(6,v_i y.2.2.1)],[(0,b_x (T.qc.enc y.2.2.2))],1⟩)
 | .inr y => (Ex.normal,⟨[(0,AV.ptr 0 0),(2,AV.undef),(3,AV.undef),(4,v_b below),(5,v_i frm),(6,v_i y.1)],[(0,b_x (T.qc.enc y.2))],1⟩)
attribute [local go_sem] qcb
theorem qwm : ∀ p r,q1o p = some r → O.loop 60 0 ⟨[(0,AV.ptr 0 0),(4,v_b p.1),(5,v_i p.2.1),(6,v_i p.2.2.1)],[(0,b_x (T.qc.enc p.2.2.2))],1⟩ = some (qcb p.1 p.2.1 r) := by
 refine q1o.partial_correctness _ ?_
 rintro q1o ih39 ⟨below,frm,n,p_⟩ r; dsimp only
 apply it <;> intro h1
 ·refine bg z8 fun x3 h2 f1 f2 f3 => ?_
  apply it <;> intro h4
  ·apply it <;> intro h5
   ·apply it <;> intro h6
    ·rintro ⟨⟩
     clear ih39; exact fL q0t
    intro h; have f4 := ih39 _ _ h; clear h
    try simp only [en.down] at f4
    clear ih39; exact fL q0t
   rintro ⟨⟩
   clear ih39; exact fL q0t
  rintro ⟨⟩
  clear ih39; exact fL q0t
 rintro ⟨⟩
 clear ih39; exact fL q0t
theorem qgx {b r} (h : q4k b = some r) : O.call 60 [AV.ptr 0 0] [(0,b_x (T.qc.enc b))] = some (AV.tup [v_i r.1,v_b r.2.1],[(0,b_x (T.qc.enc r.2.2))]) := by
 revert h; unfold q4k
 refine bs fun v2 h1 => ?_
 have f1 := yz h1
 try simp only [en.down,UInt8.reduceToNat] at f1
 refine bs fun v4 h3 => ?_
 have f2 := qwm _ _ h3
 try simp only [en.down] at f2
 rcases v4 with y5 | y6
 ·dsimp only
  rintro ⟨⟩
  exact fF q0t
 dsimp only
 apply it <;> intro h7
 ·rintro ⟨⟩
  exact fF q0t
 refine bg z8 fun x9 h8 f3 f4 f5 => ?_
 apply it <;> intro h10
 ·refine q94 ?_ (fun h11 h12 => ?_)
  ·rintro (⟨h11,h12⟩ | ⟨h11,h12⟩)
   all_goals
   try simp only [h11] at f1 f2
   rintro ⟨⟩
   exact fF q0t
  try simp only [h11] at f1 f2
  rintro ⟨⟩
  exact fF q0t
 apply it <;> intro h13
 ·try simp only [h13] at f1 f2
  rintro ⟨⟩
  exact fF q0t
 try simp only [h13] at f1 f2
 rintro ⟨⟩
 exact fF q0t
theorem q34 {b r} (h : pz b = some r) : O.call 39 [AV.ptr 0 0] [(0,b_x (T.qc.enc b))] = some (v_i r.1,[(0,b_x (T.qc.enc r.2))]) := by
 revert h; unfold pz
 refine bs fun v2 h1 => ?_
 have f1 := qaw h1
 try simp only [en.down] at f1
 refine bs fun v4 h3 => ?_
 have f2 := qgx h3
 try simp only [en.down] at f2
 apply it <;> intro h5
 ·try simp only [h5] at f1 f2
  rintro ⟨⟩
  exact fF qgl
 try simp only [h5] at f1 f2
 rintro ⟨⟩
 exact fF qgl
theorem zwl : ∀ p r,q12 p = some r → O.loop 21 0 ⟨[(0,AV.ptr 0 0),(3,v_r 1 p.2)],[(0,b_x (T.qc.enc p.1)),(1,b_r 1 (kE IntKind.u32) p.2)],2⟩ = some (Ex.normal,⟨[(0,AV.ptr 0 0),(3,v_r 1 r.2)],[(0,b_x (T.qc.enc r.1)),(1,b_r 1 (kE IntKind.u32) r.2)],2⟩) := by
 refine q12.partial_correctness _ ?_
 rintro q12 ih33 ⟨r_,nums⟩ r; dsimp only
 refine bs fun v2 h1 => ?_
 have f1 := q9z h1
 try simp only [en.down] at f1
 apply it <;> intro h3
 ·refine bs fun v5 h4 => ?_
  have f2 := q34 h4
  try simp only [en.down] at f2
  refine yx (fun h6 h7 => ?_) ?_
  ·refine gd fun h8 => ?_
   have f3 := rG 1 (kE IntKind.u32) nums
   have f4 : List.map (kE IntKind.u32) nums ++ [[PV.int IntKind.u32 (IntKind.u32.wrap v5.1)]] = List.map (kE IntKind.u32) (nums ++ [(IntKind.u32.wrap v5.1)]) := by simp only [List.map_append,List.map_cons,List.map_nil,kr,w9,kv,kE] <;> rfl
   try simp only [h3,h6] at f1 f2
   intro h; have f5 := ih33 _ _ h; clear h
   try simp only [en.down] at f5
   try simp only [h3,h6] at f5
   clear ih33; exact fL q7i
  rintro (⟨h6,h7⟩ | ⟨h6,h7⟩)
  all_goals
  refine gd fun h10 => ?_
  have f6 := rG 1 (kE IntKind.u32) nums
  have f7 : List.map (kE IntKind.u32) nums ++ [[PV.int IntKind.u32 (IntKind.u32.wrap v5.1)]] = List.map (kE IntKind.u32) (nums ++ [(IntKind.u32.wrap v5.1)]) := by simp only [List.map_append,List.map_cons,List.map_nil,kr,w9,kv,kE] <;> rfl
  try simp only [h3,h6] at f1 f2
  intro h; have f8 := ih33 _ _ h; clear h
  try simp only [en.down] at f8
  try simp only [h3,h6] at f8
  clear ih33; exact fL q7i
 try simp only [h3] at f1
 rintro ⟨⟩
 clear ih33; exact fL q7i
theorem zdr {b r} (h : q7c b = some r) : O.call 21 [AV.ptr 0 0] [(0,b_x (T.qc.enc b))] = some (v_l 1 (kE IntKind.u32) r.1,[(0,b_x (T.qc.enc r.2))]) := by
 revert h; unfold q7c
 refine bs fun v2 h1 => ?_
 have f1 := qgr h1
 try simp only [en.down] at f1
 refine bs fun v4 h3 => ?_
 have f2 := zwl _ _ h3
 try simp only [en.down,UInt8.reduceToNat] at f2
 apply it <;> intro h5
 ·refine bs fun v7 h6 => ?_
  have f3 := yz h6
  try simp only [en.down,UInt8.reduceToNat] at f3
  try simp only [h5] at f1 f2 f3
  rintro ⟨⟩
  exact fF q7i
 try simp only [h5] at f1 f2
 rintro ⟨⟩
 exact fF q7i
theorem zsy {b r} (h : q61 b = some r) : O.call 61 [AV.ptr 0 0] [(0,b_x (T.qc.enc b))] = some (AV.tup [v_s r.1,v_b r.2.1],[(0,b_x (T.qc.enc r.2.2))]) := by
 revert h; unfold q61
 refine bs fun v2 h1 => ?_
 have f1 := qgx h1
 try simp only [en.down] at f1
 apply it <;> intro h3
 ·rintro ⟨⟩
  exact fF qa7
 refine bs fun v5 h4 => ?_
 have f2 := yz h4
 try simp only [en.down,UInt8.reduceToNat] at f2
 refine qxb ?_ (fun h6 h7 h8 => ?_)
 ·rintro (⟨h6,h7,h8⟩ | ⟨h6,h7,h8⟩ | ⟨h6,h7,h8⟩)
  all_goals
  rintro ⟨⟩
  exact fF qa7
 have f3 := q6t 1 z8 v5.2.place.b.l
 refine b2 z8 fun r10 h9 f4 f5 f6 f7 f8 f9 => ?_
 have f10 := q6t 1 z8 r10
 have f11 := bytesOf_map r10
 rintro ⟨⟩
 exact fF qa7
theorem q7d {b r} (h : q20 b = some r) : O.call 41 [AV.ptr 0 0] [(0,b_x (T.qc.enc b))] = some (v_s r.1,[(0,b_x (T.qc.enc r.2))]) := by
 revert h; unfold q20
 refine bs fun v2 h1 => ?_
 have f1 := qaw h1
 try simp only [en.down] at f1
 refine bs fun v4 h3 => ?_
 have f2 := zsy h3
 try simp only [en.down] at f2
 apply it <;> intro h5
 ·try simp only [h5] at f1 f2
  rintro ⟨⟩
  exact fF qd9
 try simp only [h5] at f1 f2
 rintro ⟨⟩
 exact fF qd9
theorem qq2 : ∀ p r,q1p p = some r → O.loop 22 1 ⟨[(0,AV.ptr 0 0),(2,AV.ptr 1 0),(3,AV.ptr 2 0)],[(0,b_x (T.qc.enc p.1)),(1,b_x (T.Op.enc p.2.1)),(2,Blk.box [v_i p.2.2.1,v_s p.2.2.2.1,v_s p.2.2.2.2.1,v_i p.2.2.2.2.2.1,v_b p.2.2.2.2.2.2.1,v_r 3 p.2.2.2.2.2.2.2.2,v_l 2 T.Sel.enc p.2.2.2.2.2.2.2.1]),(3,b_r 3 T.qb.enc p.2.2.2.2.2.2.2.2)],4⟩ = some (Ex.normal,⟨[(0,AV.ptr 0 0),(2,AV.ptr 1 0),(3,AV.ptr 2 0)],[(0,b_x (T.qc.enc r.1)),(1,b_x (T.Op.enc p.2.1)),(2,Blk.box [v_i p.2.2.1,v_s p.2.2.2.1,v_s p.2.2.2.2.1,v_i p.2.2.2.2.2.1,v_b p.2.2.2.2.2.2.1,v_r 3 r.2,v_l 2 T.Sel.enc p.2.2.2.2.2.2.2.1]),(3,b_r 3 T.qb.enc r.2)],4⟩) := by
 refine q1p.partial_correctness _ ?_
 rintro q1p ih44 ⟨r_,t2,o,o2,o3,o4,o5,o6,r3_⟩ r; dsimp only
 refine bs fun v2 h1 => ?_
 have f1 := q9z h1
 try simp only [en.down] at f1
 apply it <;> intro h3
 ·refine bs fun v5 h4 => ?_
  have f2 := q34 h4
  try simp only [en.down] at f2
  refine bs fun v7 h6 => ?_
  have f3 := q34 h6
  try simp only [en.down] at f3
  refine bs fun v9 h8 => ?_
  have f4 := q7d h8
  try simp only [en.down] at f4
  refine gd fun h10 => ?_
  have f5 := rG 3 T.qb.enc r3_
  have f6 : List.map T.qb.enc r3_ ++ [[PV.int IntKind.i64 v5.1,PV.int IntKind.i64 v7.1,PV.str v9.1]] = List.map T.qb.enc (r3_ ++ [(T.qb.mk (T.Span.mk v5.1 v7.1) v9.1)]) := by simp only [List.map_append,List.map_cons,List.map_nil,kr,w9,kv,T.qb.qd] <;> rfl
  try simp only [h3] at f1 f2 f3 f4
  intro h; have f7 := ih44 _ _ h; clear h
  try simp only [en.down] at f7
  try simp only [h3] at f7
  clear ih44; exact fL xy
 try simp only [h3] at f1
 rintro ⟨⟩
 clear ih44; exact fL xy
theorem qkh : ∀ p r,q2a p = some r → O.loop 22 3 ⟨[(0,AV.ptr 0 0),(2,AV.ptr 1 0),(3,AV.ptr 2 0)],[(0,b_x (T.qc.enc p.1)),(1,b_x (T.Op.enc p.2.1)),(2,Blk.box [v_i p.2.2.1,v_s p.2.2.2.1,v_s p.2.2.2.2.1,v_i p.2.2.2.2.2.1,v_b p.2.2.2.2.2.2.1,v_l 3 T.qb.enc p.2.2.2.2.2.2.2.1,v_r 3 p.2.2.2.2.2.2.2.2]),(3,b_r 2 T.Sel.enc p.2.2.2.2.2.2.2.2)],4⟩ = some (Ex.normal,⟨[(0,AV.ptr 0 0),(2,AV.ptr 1 0),(3,AV.ptr 2 0)],[(0,b_x (T.qc.enc r.1)),(1,b_x (T.Op.enc p.2.1)),(2,Blk.box [v_i p.2.2.1,v_s p.2.2.2.1,v_s p.2.2.2.2.1,v_i p.2.2.2.2.2.1,v_b p.2.2.2.2.2.2.1,v_l 3 T.qb.enc p.2.2.2.2.2.2.2.1,v_r 3 r.2]),(3,b_r 2 T.Sel.enc r.2)],4⟩) := by
 refine q2a.partial_correctness _ ?_
 rintro q2a ih45 ⟨r_,t2,o,o2,o3,o4,o5,o6,r3_⟩ r; dsimp only
 refine bs fun v2 h1 => ?_
 have f1 := q9z h1
 try simp only [en.down] at f1
 apply it <;> intro h3
 ·refine bs fun v5 h4 => ?_
  have f2 := q34 h4
  try simp only [en.down] at f2
  refine bs fun v7 h6 => ?_
  have f3 := q34 h6
  try simp only [en.down] at f3
  refine gd fun h8 => ?_
  have f4 := rG 2 T.Sel.enc r3_
  have f5 : List.map T.Sel.enc r3_ ++ [[PV.int IntKind.i64 v5.1,PV.int IntKind.i64 v7.1]] = List.map T.Sel.enc (r3_ ++ [(T.Sel.mk v5.1 v7.1)]) := by simp only [List.map_append,List.map_cons,List.map_nil,kr,w9,kv,T.Sel.qd] <;> rfl
  try simp only [h3] at f1 f2 f3
  intro h; have f6 := ih45 _ _ h; clear h
  try simp only [en.down] at f6
  try simp only [h3] at f6
  clear ih45; exact fL xy
 try simp only [h3] at f1
 rintro ⟨⟩
 clear ih45; exact fL xy
end Go.Proofs.YtaglodpkpggdiaaGreatDoor
