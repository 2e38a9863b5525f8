/-
  What the machine's calls come to: the plain functions.
-/
import Derived.Test.YtaglodpkpggdiaaGreatDoorLaj
import Derived.Test.YtaglodpkpggdiaaGreatDoorLak
set_option linter.unusedSimpArgs false
set_option linter.unusedVariables false
set_option maxRecDepth 100000
namespace Go.Proofs.YtaglodpkpggdiaaGreatDoor
open Go Go.Gm
set_option maxHeartbeats 4000000
theorem za7 {b r} (h : q7g b = some r) : O.call 22 [AV.ptr 0 0] [(0,b_x (T.qc.enc b))] = some (v_g (T.Op.enc r.1),[(0,b_x (T.qc.enc r.2))]) := by
 revert h; unfold q7g
 refine bs fun v2 h1 => ?_
 have f1 := qgr h1
 try simp only [en.down] at f1
 apply it <;> intro h3
 ·refine bs fun v5 h4 => ?_
  have f2 := q7d h4
  try simp only [en.down] at f2
  refine bs fun v7 h6 => ?_
  have f3 := q7d h6
  try simp only [en.down] at f3
  apply it <;> intro h8
  ·refine bs fun v10 h9 => ?_
   have f4 := yz h9
   try simp only [en.down,UInt8.reduceToNat] at f4
   try simp only [h8] at f1 f2 f3 f4
   rintro ⟨⟩
   exact fF xy
  try simp only [h8] at f1 f2 f3
  rintro ⟨⟩
  exact fF xy
 apply it <;> intro h11
 ·refine bs fun v13 h12 => ?_
  have f5 := q7d h12
  try simp only [en.down] at f5
  apply it <;> intro h14
  ·refine bs fun v16 h15 => ?_
   have f6 := yz h15
   try simp only [en.down,UInt8.reduceToNat] at f6
   try simp only [h14] at f1 f5 f6
   rintro ⟨⟩
   exact fF xy
  try simp only [h14] at f1 f5
  rintro ⟨⟩
  exact fF xy
 apply it <;> intro h17
 ·refine bs fun v19 h18 => ?_
  have f7 := q7d h18
  try simp only [en.down] at f7
  apply it <;> intro h20
  ·refine bs fun v22 h21 => ?_
   have f8 := yz h21
   try simp only [en.down,UInt8.reduceToNat] at f8
   try simp only [h20] at f1 f7 f8
   rintro ⟨⟩
   exact fF xy
  try simp only [h20] at f1 f7
  rintro ⟨⟩
  exact fF xy
 apply it <;> intro h23
 ·refine bs fun v25 h24 => ?_
  have f9 := q34 h24
  try simp only [en.down] at f9
  apply it <;> intro h26
  ·refine bs fun v28 h27 => ?_
   have f10 := yz h27
   try simp only [en.down,UInt8.reduceToNat] at f10
   try simp only [h26] at f1 f9 f10
   rintro ⟨⟩
   exact fF xy
  try simp only [h26] at f1 f9
  rintro ⟨⟩
  exact fF xy
 apply it <;> intro h29
 ·refine bs fun v31 h30 => ?_
  have f11 := q34 h30
  try simp only [en.down] at f11
  apply it <;> intro h32
  ·refine bs fun v34 h33 => ?_
   have f12 := yz h33
   try simp only [en.down,UInt8.reduceToNat] at f12
   try simp only [h32] at f1 f11 f12
   rintro ⟨⟩
   exact fF xy
  try simp only [h32] at f1 f11
  rintro ⟨⟩
  exact fF xy
 apply it <;> intro h35
 ·refine bs fun v37 h36 => ?_
  have f13 := q34 h36
  try simp only [en.down] at f13
  refine bs fun v39 h38 => ?_
  have f14 := qaw h38
  try simp only [en.down] at f14
  refine bs fun v41 h40 => ?_
  have f15 := yz h40
  try simp only [en.down,UInt8.reduceToNat] at f15
  apply it <;> intro h42
  ·apply it <;> intro h43
   ·refine bs fun v45 h44 => ?_
    have f16 := yz h44
    try simp only [en.down,UInt8.reduceToNat] at f16
    try simp only [h42,h43] at f1 f13 f14 f15 f16
    rintro ⟨⟩
    exact fF xy
   refine bs fun v47 h46 => ?_
   have f17 := yz h46
   try simp only [en.down,UInt8.reduceToNat] at f17
   apply it <;> intro h48
   ·refine bs fun v50 h49 => ?_
    have f18 := yz h49
    try simp only [en.down,UInt8.reduceToNat] at f18
    try simp only [h42,h43,h48] at f1 f13 f14 f15 f17 f18
    rintro ⟨⟩
    exact fF xy
   try simp only [h42,h43,h48] at f1 f13 f14 f15 f17
   rintro ⟨⟩
   exact fF xy
  try simp only [h42] at f1 f13 f14 f15
  rintro ⟨⟩
  exact fF xy
 apply it <;> intro h51
 ·refine bs fun v53 h52 => ?_
  have f19 := qq2 _ _ h52
  try simp only [en.down] at f19
  apply it <;> intro h54
  ·refine bs fun v56 h55 => ?_
   have f20 := yz h55
   try simp only [en.down,UInt8.reduceToNat] at f20
   try simp only [h54] at f1 f19 f20
   rintro ⟨⟩
   exact fF xy
  try simp only [h54] at f1 f19
  rintro ⟨⟩
  exact fF xy
 apply it <;> intro h57
 ·refine bs fun v59 h58 => ?_
  have f21 := qkh _ _ h58
  try simp only [en.down] at f21
  apply it <;> intro h60
  ·refine bs fun v62 h61 => ?_
   have f22 := yz h61
   try simp only [en.down,UInt8.reduceToNat] at f22
   try simp only [h60] at f1 f21 f22
   rintro ⟨⟩
   exact fF xy
  try simp only [h60] at f1 f21
  rintro ⟨⟩
  exact fF xy
 refine bs fun v64 h63 => ?_
 have f23 := qcu h63
 try simp only [en.down] at f23
 refine yx (fun h65 h66 => ?_) ?_
 ·refine bs fun v68 h67 => ?_
  have f24 := yz h67
  try simp only [en.down,UInt8.reduceToNat] at f24
  try simp only [h65,h66] at f1 f23 f24
  rintro ⟨⟩
  exact fF xy
 rintro (⟨h65,h66⟩ | ⟨h65,h66⟩)
 all_goals
 try simp only [h65] at f1 f23
 rintro ⟨⟩
 exact fF xy
def qgb (nums : (Sl Int)) : (((Sl Int) × (Sl T.Op) × Int × Int × Int × T.qc × (List T.Op)) ⊕ (Int × T.qc × (List T.Op))) → Ex × St
 | .inl y => (Ex.ret,⟨[(2,v_l 1 (kE IntKind.u32) y.1),(3,v_l 7 T.Op.enc y.2.1),(4,v_i y.2.2.1),(5,v_i y.2.2.2.1),(6,AV.ptr 0 0),(7,v_l 1 (kE IntKind.u32) nums),(8,v_r 1 y.2.2.2.2.2.2),(9,v_i y.2.2.2.2.1)],[(0,b_x (T.qc.enc y.2.2.2.2.2.1)),(1,b_r 7 T.Op.enc y.2.2.2.2.2.2)],2⟩)
 | .inr y => (Ex.normal,⟨[(2,AV.undef),(3,AV.undef),(4,AV.undef),(5,AV.undef),(6,AV.ptr 0 0),(7,v_l 1 (kE IntKind.u32) nums),(8,v_r 1 y.2.2),(9,v_i y.1)],[(0,b_x (T.qc.enc y.2.1)),(1,b_r 7 T.Op.enc y.2.2)],2⟩)
attribute [local go_sem] qgb
theorem zia : ∀ p r,q1k p = some r → O.loop 10 0 ⟨[(0,v_l 1 z8 p.1),(6,AV.ptr 0 0),(7,v_l 1 (kE IntKind.u32) p.2.1),(8,v_r 1 p.2.2.2.2),(9,v_i p.2.2.1)],[(0,b_x (T.qc.enc p.2.2.2.1)),(1,b_r 7 T.Op.enc p.2.2.2.2)],2⟩ = some (qgb p.2.1 r) := by
 refine q1k.partial_correctness _ ?_
 rintro q1k ih40 ⟨b,nums,line,r_,os⟩ r; dsimp only
 refine yx (fun h1 h2 => ?_) ?_
 ·refine bs fun v4 h3 => ?_
  have f1 := za7 h3
  try simp only [en.down] at f1
  refine gd fun h5 => ?_
  have f2 := rG 7 T.Op.enc os
  apply it <;> intro h6
  ·have f3 : List.map T.Op.enc os ++ [[PV.int IntKind.i64 v4.1.kind,PV.str v4.1.name,PV.str v4.1.text,PV.int IntKind.i64 v4.1.n,PV.bool v4.1.extend,PV.sl v4.1.edits.nil (szc 3 v4.1.edits.l) (List.map T.qb.enc v4.1.edits.l),PV.sl v4.1.sels.nil (szc 2 v4.1.sels.l) (List.map T.Sel.enc v4.1.sels.l)]] = List.map T.Op.enc (os ++ [v4.1]) := by simp only [List.map_append,List.map_cons,List.map_nil,kr,w9,kv,T.Op.qd] <;> rfl
   apply it <;> intro h7
   ·try simp only [h1,h6] at f1
    rintro ⟨⟩
    clear ih40; exact fL q2q
   try simp only [h1,h6] at f1
   intro h; have f4 := ih40 _ _ h; clear h
   try simp only [en.down] at f4
   try simp only [h1,h6] at f4
   clear ih40; exact fL q2q
  have f5 : List.map T.Op.enc os ++ [[PV.int IntKind.i64 v4.1.kind,PV.str v4.1.name,PV.str v4.1.text,PV.int IntKind.i64 v4.1.n,PV.bool v4.1.extend,PV.sl v4.1.edits.nil (szc 3 v4.1.edits.l) (List.map T.qb.enc v4.1.edits.l),PV.sl v4.1.sels.nil (szc 2 v4.1.sels.l) (List.map T.Sel.enc v4.1.sels.l)]] = List.map T.Op.enc (os ++ [v4.1]) := by simp only [List.map_append,List.map_cons,List.map_nil,kr,w9,kv,T.Op.qd] <;> rfl
  try simp only [h1,h6] at f1
  intro h; have f6 := ih40 _ _ h; clear h
  try simp only [en.down] at f6
  try simp only [h1,h6] at f6
  clear ih40; exact fL q2q
 rintro (⟨h1,h2⟩ | ⟨h1,h2⟩)
 all_goals
 rintro ⟨⟩
 clear ih40; exact fL q2q
theorem qey {b r} (h : q6c b = some r) : O.call 10 [v_l 1 z8 b] [] = some (AV.tup [v_l 1 (kE IntKind.u32) r.1,v_l 7 T.Op.enc r.2.1,v_i r.2.2.1,v_i r.2.2.2],[]) := by
 revert h; unfold q6c
 apply it <;> intro h1
 ·rintro ⟨⟩
  exact fF q2q
 refine bs fun v3 h2 => ?_
 have f1 := zdr h2
 try simp only [en.down] at f1
 refine bs fun v5 h4 => ?_
 have f2 := zia _ _ h4
 try simp only [en.down] at f2
 rcases v5 with y6 | y7
 ·dsimp only
  rintro ⟨⟩
  exact fF q2q
 dsimp only
 apply it <;> intro h8
 ·rintro ⟨⟩
  exact fF q2q
 rintro ⟨⟩
 exact fF q2q
theorem qoy {b r} (h : q83 b = some r) : O.call 14 [v_l 1 z8 b] [] = some (AV.tup [v_s r.1,v_i r.2.1,v_i r.2.2],[]) := by
 revert h; unfold q83
 refine bs fun v2 h1 => ?_
 have f1 := qey h1
 try simp only [en.down] at f1
 apply it <;> intro h3
 ·rintro ⟨⟩
  exact fF zgf
 rintro ⟨⟩
theorem zf6 {os which r} (h : q8r os which = some r) : O.call 4 [v_l 7 T.Op.enc os,v_i which] [] = some (v_b r,[]) := by
 revert h; unfold q8r
 refine bs fun v2 h1 => ?_
 have f1 := qn2 h1
 try simp only [en.down] at f1
 apply it <;> intro h3
 ·refine bs fun v5 h4 => ?_
  have f2 := qdc h4
  try simp only [en.down] at f2
  try simp only [h3] at f1 f2
  rintro ⟨⟩
  exact fF fn4
 refine bs fun v7 h6 => ?_
 have f3 := zhk h6
 try simp only [en.down] at f3
 refine bs fun v9 h8 => ?_
 have f4 := zom h8
 try simp only [en.down] at f4
 have f5 := q6t 1 z8 v9.1.l
 have f6 := bytesOf_map v9.1.l
 refine bs fun v11 h10 => ?_
 have f7 := qgg h10
 try simp only [en.down] at f7
 refine bw zn fun x13 h12 f8 f9 f10 => ?_
 have f11 : [[PV.str ([100,105,99,101,10] : Bytes)],[PV.str ([116,121,112,32,49,58,97,10] : Bytes)],[PV.str ([116,121,112,101,32,50,58,97,10] : Bytes)],[PV.str ([110,101,120,116,32,10] : Bytes)],[PV.str ([101,114,97,115,101,32,32,49,10] : Bytes)],[PV.str ([101,114,97,115,101,32,48,49,10] : Bytes)],[PV.str ([101,114,97,115,101,32,45,48,10] : Bytes)],[PV.str ([109,111,118,101,32,49,32,50,10] : Bytes)],[PV.str ([101,100,105,116,32,49,32,50,10] : Bytes)],[PV.str ([10] : Bytes)],[PV.str ([115,101,116,32,49,58,97,10] : Bytes)],[PV.str ([115,101,108,101,99,116,32,49,10] : Bytes)],[PV.str ([117,110,100,111] : Bytes)],[PV.str ([116,121,112,101,32,49,58,97] : Bytes)],[PV.str ([99,104,111,111,115,101,32,49,50,51,52,53,54,55,56,57,48,49,50,51,52,53,54,55,56,57,10] : Bytes)],[PV.str ([116,121,112,101,32,45,49,58,10] : Bytes)],[PV.str ([101,114,97,115,101,32,43,49,10] : Bytes)]][v11.toNat]? = some (zn x13) := q9x zn h12
 have f12 : (v11.toNat < 17) = True := qdm h12
 refine gd fun h14 => ?_
 have f13 := eq_true h14
 try simp only [en.down] at f13
 refine bs fun v16 h15 => ?_
 have f14 := qey h15
 try simp only [en.down] at f14
 refine bs fun v18 h17 => ?_
 have f15 := qoy h17
 try simp only [en.down] at f15
 refine z8z (fun h19 h20 h21 h22 h23 h24 h25 h26 => ?_) ?_
 ·refine bs fun v28 h27 => ?_
  have f16 := qdc h27
  try simp only [en.down] at f16
  try simp only [h3] at f1 f3 f4 f7 f14 f15 f16
  rintro ⟨⟩
  exact fF fn4
 rintro (⟨h19,h20,h21,h22,h23,h24,h25,h26⟩ | ⟨h19,h20,h21,h22,h23,h24,h25,h26⟩ | ⟨h19,h20,h21,h22,h23,h24,h25,h26⟩ | ⟨h19,h20,h21,h22,h23,h24,h25,h26⟩ | ⟨h19,h20,h21,h22,h23,h24,h25,h26⟩ | ⟨h19,h20,h21,h22,h23,h24,h25,h26⟩ | ⟨h19,h20,h21,h22,h23,h24,h25,h26⟩ | ⟨h19,h20,h21,h22,h23,h24,h25,h26⟩)
 all_goals
 try simp only [h3] at f1 f3 f4 f7 f14 f15
 rintro ⟨⟩
 exact fF fn4
end Go.Proofs.YtaglodpkpggdiaaGreatDoor
