/-
  What the machine's calls come to: the plain functions.
-/
import Derived.Test.YtaglodpkpggdiaaGreatDoorMaj
import Derived.Test.YtaglodpkpggdiaaGreatDoorMak
set_option linter.unusedSimpArgs false
set_option linter.unusedVariables false
set_option maxRecDepth 100000
namespace Go.Proofs.YtaglodpkpggdiaaGreatDoor
open Go Go.Gm
set_option maxHeartbeats 4000000
theorem zwi {b r} (h : q7c b = some r) : O.call 22 [AV.ptr 0 0] [(0,b_x (T.qb.enc b))] = some (v_g (T.Op.enc r.1),[(0,b_x (T.qb.enc r.2))]) := by
 revert h; unfold q7c
 refine bs fun v2 h1 => ?_
 have f1 := qck h1
 try simp only [en.down] at f1
 apply it <;> intro h3
 ·refine bs fun v5 h4 => ?_
  have f2 := q70 h4
  try simp only [en.down] at f2
  refine bs fun v7 h6 => ?_
  have f3 := q70 h6
  try simp only [en.down] at f3
  apply it <;> intro h8
  ·refine bs fun v10 h9 => ?_
   have f4 := y9 h9
   try simp only [en.down,UInt8.reduceToNat] at f4
   try simp only [h8] at f1 f2 f3 f4
   rintro ⟨⟩
   exact fF xu
  try simp only [h8] at f1 f2 f3
  rintro ⟨⟩
  exact fF xu
 apply it <;> intro h11
 ·refine bs fun v13 h12 => ?_
  have f5 := q70 h12
  try simp only [en.down] at f5
  apply it <;> intro h14
  ·refine bs fun v16 h15 => ?_
   have f6 := y9 h15
   try simp only [en.down,UInt8.reduceToNat] at f6
   try simp only [h14] at f1 f5 f6
   rintro ⟨⟩
   exact fF xu
  try simp only [h14] at f1 f5
  rintro ⟨⟩
  exact fF xu
 apply it <;> intro h17
 ·refine bs fun v19 h18 => ?_
  have f7 := q70 h18
  try simp only [en.down] at f7
  apply it <;> intro h20
  ·refine bs fun v22 h21 => ?_
   have f8 := y9 h21
   try simp only [en.down,UInt8.reduceToNat] at f8
   try simp only [h20] at f1 f7 f8
   rintro ⟨⟩
   exact fF xu
  try simp only [h20] at f1 f7
  rintro ⟨⟩
  exact fF xu
 apply it <;> intro h23
 ·refine bs fun v25 h24 => ?_
  have f9 := q2k h24
  try simp only [en.down] at f9
  apply it <;> intro h26
  ·refine bs fun v28 h27 => ?_
   have f10 := y9 h27
   try simp only [en.down,UInt8.reduceToNat] at f10
   try simp only [h26] at f1 f9 f10
   rintro ⟨⟩
   exact fF xu
  try simp only [h26] at f1 f9
  rintro ⟨⟩
  exact fF xu
 apply it <;> intro h29
 ·refine bs fun v31 h30 => ?_
  have f11 := q2k h30
  try simp only [en.down] at f11
  apply it <;> intro h32
  ·refine bs fun v34 h33 => ?_
   have f12 := y9 h33
   try simp only [en.down,UInt8.reduceToNat] at f12
   try simp only [h32] at f1 f11 f12
   rintro ⟨⟩
   exact fF xu
  try simp only [h32] at f1 f11
  rintro ⟨⟩
  exact fF xu
 apply it <;> intro h35
 ·refine bs fun v37 h36 => ?_
  have f13 := q2k h36
  try simp only [en.down] at f13
  refine bs fun v39 h38 => ?_
  have f14 := q9w h38
  try simp only [en.down] at f14
  refine bs fun v41 h40 => ?_
  have f15 := y9 h40
  try simp only [en.down,UInt8.reduceToNat] at f15
  apply it <;> intro h42
  ·apply it <;> intro h43
   ·refine bs fun v45 h44 => ?_
    have f16 := y9 h44
    try simp only [en.down,UInt8.reduceToNat] at f16
    try simp only [h42,h43] at f1 f13 f14 f15 f16
    rintro ⟨⟩
    exact fF xu
   refine bs fun v47 h46 => ?_
   have f17 := y9 h46
   try simp only [en.down,UInt8.reduceToNat] at f17
   apply it <;> intro h48
   ·refine bs fun v50 h49 => ?_
    have f18 := y9 h49
    try simp only [en.down,UInt8.reduceToNat] at f18
    try simp only [h42,h43,h48] at f1 f13 f14 f15 f17 f18
    rintro ⟨⟩
    exact fF xu
   try simp only [h42,h43,h48] at f1 f13 f14 f15 f17
   rintro ⟨⟩
   exact fF xu
  try simp only [h42] at f1 f13 f14 f15
  rintro ⟨⟩
  exact fF xu
 apply it <;> intro h51
 ·refine bs fun v53 h52 => ?_
  have f19 := zb3 _ _ h52
  try simp only [en.down] at f19
  apply it <;> intro h54
  ·refine bs fun v56 h55 => ?_
   have f20 := y9 h55
   try simp only [en.down,UInt8.reduceToNat] at f20
   try simp only [h54] at f1 f19 f20
   rintro ⟨⟩
   exact fF xu
  try simp only [h54] at f1 f19
  rintro ⟨⟩
  exact fF xu
 apply it <;> intro h57
 ·refine bs fun v59 h58 => ?_
  have f21 := qt2 _ _ h58
  try simp only [en.down] at f21
  apply it <;> intro h60
  ·refine bs fun v62 h61 => ?_
   have f22 := y9 h61
   try simp only [en.down,UInt8.reduceToNat] at f22
   try simp only [h60] at f1 f21 f22
   rintro ⟨⟩
   exact fF xu
  try simp only [h60] at f1 f21
  rintro ⟨⟩
  exact fF xu
 refine bs fun v64 h63 => ?_
 have f23 := qfu h63
 try simp only [en.down] at f23
 refine yc (fun h65 h66 => ?_) ?_
 ·refine bs fun v68 h67 => ?_
  have f24 := y9 h67
  try simp only [en.down,UInt8.reduceToNat] at f24
  try simp only [h65,h66] at f1 f23 f24
  rintro ⟨⟩
  exact fF xu
 rintro (⟨h65,h66⟩ | ⟨h65,h66⟩)
 all_goals
 try simp only [h65] at f1 f23
 rintro ⟨⟩
 exact fF xu
def qcp (nums : (Sl Int)) : (((Sl Int) × (Sl T.Op) × Int × Int × Int × T.qb × (List T.Op)) ⊕ (Int × T.qb × (List T.Op))) → Ex × St
 | .inl y => (Ex.ret,⟨[(2,v_l 1 (kE IntKind.u32) y.1),(3,v_l 7 T.Op.enc y.2.1),(4,v_i y.2.2.1),(5,v_i y.2.2.2.1),(6,AV.ptr 0 0),(7,v_l 1 (kE IntKind.u32) nums),(8,v_r 1 y.2.2.2.2.2.2),(9,v_i y.2.2.2.2.1)],[(0,b_x (T.qb.enc y.2.2.2.2.2.1)),(1,b_r 7 T.Op.enc y.2.2.2.2.2.2)],2⟩)
 | .inr y => (Ex.normal,⟨[(2,AV.undef),(3,AV.undef),(4,AV.undef),(5,AV.undef),(6,AV.ptr 0 0),(7,v_l 1 (kE IntKind.u32) nums),(8,v_r 1 y.2.2),(9,v_i y.1)],[(0,b_x (T.qb.enc y.2.1)),(1,b_r 7 T.Op.enc y.2.2)],2⟩)
attribute [local go_sem] qcp
theorem qn4 : ∀ p r,q0r p = some r → O.loop 10 0 ⟨[(0,v_l 1 qo p.1),(6,AV.ptr 0 0),(7,v_l 1 (kE IntKind.u32) p.2.1),(8,v_r 1 p.2.2.2.2),(9,v_i p.2.2.1)],[(0,b_x (T.qb.enc p.2.2.2.1)),(1,b_r 7 T.Op.enc p.2.2.2.2)],2⟩ = some (qcp p.2.1 r) := by
 refine q0r.partial_correctness _ ?_
 rintro q0r ih40 ⟨b,nums,line,r_,os⟩ r; dsimp only
 refine yc (fun h1 h2 => ?_) ?_
 ·refine bs fun v4 h3 => ?_
  have f1 := zwi h3
  try simp only [en.down] at f1
  refine gd fun h5 => ?_
  have f2 := rG 7 T.Op.enc os
  apply it <;> intro h6
  ·have f3 : List.map T.Op.enc os ++ [[PV.int IntKind.i64 v4.1.kind,PV.str v4.1.name,PV.str v4.1.text,PV.int IntKind.i64 v4.1.n,PV.bool v4.1.extend,PV.sl v4.1.edits.nil (szc 3 v4.1.edits.l) (List.map T.qd.enc v4.1.edits.l),PV.sl v4.1.sels.nil (szc 2 v4.1.sels.l) (List.map T.Sel.enc v4.1.sels.l)]] = List.map T.Op.enc (os ++ [v4.1]) := by simp only [List.map_append,List.map_cons,List.map_nil,gu,uw,q0m,T.Op.qf] <;> rfl
   apply it <;> intro h7
   ·try simp only [h1,h6] at f1
    rintro ⟨⟩
    clear ih40; exact fL q2y
   try simp only [h1,h6] at f1
   intro h; have f4 := ih40 _ _ h; clear h
   try simp only [en.down] at f4
   try simp only [h1,h6] at f4
   clear ih40; exact fL q2y
  have f5 : List.map T.Op.enc os ++ [[PV.int IntKind.i64 v4.1.kind,PV.str v4.1.name,PV.str v4.1.text,PV.int IntKind.i64 v4.1.n,PV.bool v4.1.extend,PV.sl v4.1.edits.nil (szc 3 v4.1.edits.l) (List.map T.qd.enc v4.1.edits.l),PV.sl v4.1.sels.nil (szc 2 v4.1.sels.l) (List.map T.Sel.enc v4.1.sels.l)]] = List.map T.Op.enc (os ++ [v4.1]) := by simp only [List.map_append,List.map_cons,List.map_nil,gu,uw,q0m,T.Op.qf] <;> rfl
  try simp only [h1,h6] at f1
  intro h; have f6 := ih40 _ _ h; clear h
  try simp only [en.down] at f6
  try simp only [h1,h6] at f6
  clear ih40; exact fL q2y
 rintro (⟨h1,h2⟩ | ⟨h1,h2⟩)
 all_goals
 rintro ⟨⟩
 clear ih40; exact fL q2y
theorem qai {b r} (h : q3u b = some r) : O.call 10 [v_l 1 qo b] [] = some (AV.tup [v_l 1 (kE IntKind.u32) r.1,v_l 7 T.Op.enc r.2.1,v_i r.2.2.1,v_i r.2.2.2],[]) := by
 revert h; unfold q3u
 apply it <;> intro h1
 ·rintro ⟨⟩
  exact fF q2y
 refine bs fun v3 h2 => ?_
 have f1 := qx7 h2
 try simp only [en.down] at f1
 refine bs fun v5 h4 => ?_
 have f2 := qn4 _ _ h4
 try simp only [en.down] at f2
 rcases v5 with y6 | y7
 ·dsimp only
  rintro ⟨⟩
  exact fF q2y
 dsimp only
 apply it <;> intro h8
 ·rintro ⟨⟩
  exact fF q2y
 rintro ⟨⟩
 exact fF q2y
theorem zo4 : ∀ p r,q2v p = some r → O.loop 5 0 ⟨[(1,v_i p.1),(5,v_i p.2.1),(6,v_r 0 p.2.2.2.2),(7,v_s p.2.2.1),(8,v_i p.2.2.2.1)],[(0,b_r 7 T.Op.enc p.2.2.2.2)],1⟩ = some (Ex.normal,⟨[(1,v_i p.1),(5,v_i p.2.1),(6,v_r 0 r.2),(7,v_s r.1)],[(0,b_r 7 T.Op.enc r.2)],1⟩) := by
 refine q2v.partial_correctness _ ?_
 rintro q2v ih57 ⟨long,n,s,i,os⟩ r; dsimp only
 apply it <;> intro h1
 ·refine gd fun h2 => ?_
  have f1 := rG 7 T.Op.enc os
  refine gd fun h3 => ?_
  have f2 : (s.length + 5 ≤ 2 ^ 62) = True := eq_true h3
  have f3 : List.map T.Op.enc os ++ [[PV.int IntKind.i64 (12 : Int),PV.str ([] : Bytes),PV.str ([] : Bytes),PV.int IntKind.i64 (0 : Int),PV.bool false,PV.sl true 0 [],PV.sl true 0 []]] = List.map T.Op.enc (os ++ [(T.Op.mk (12 : Int) ([] : Bytes) ([] : Bytes) (0 : Int) false (⟨true,[]⟩ : (Sl T.qd)) (⟨true,[]⟩ : (Sl T.Sel)))]) := by simp only [List.map_append,List.map_cons,List.map_nil,gu,uw,q0m,T.Op.qf] <;> rfl
  intro h; have f4 := ih57 _ _ h; clear h
  try simp only [en.down] at f4
  clear ih57; exact fL fn5
 rintro ⟨⟩
 clear ih57; exact fL fn5
theorem qdj : ∀ p r,q14 p = some r → O.loop 5 2 ⟨[(1,v_i p.1),(15,v_s p.2)],[(0,Blk.dead),(1,Blk.dead)],2⟩ = some (Ex.normal,⟨[(1,v_i p.1),(15,v_s r)],[(0,Blk.dead),(1,Blk.dead)],2⟩) := by
 refine q14.partial_correctness _ ?_
 rintro q14 ih58 ⟨long,t⟩ r; dsimp only
 apply it <;> intro h1
 ·refine gd fun h2 => ?_
  have f1 := eq_true h2
  try simp only [en.down] at f1
  intro h; have f2 := ih58 _ _ h; clear h
  try simp only [en.down] at f2
  clear ih58; exact fL fn5
 rintro ⟨⟩
 clear ih58; exact fL fn5
theorem qiz : ∀ p r,q39 p = some r → O.loop 31 0 ⟨[(0,v_i p.1),(3,v_s p.2.1)],[(0,Blk.row false 1 (List.map qo p.2.2))],1⟩ = some (Ex.normal,⟨[(3,v_s r)],[(0,Blk.row false 1 (List.map qo p.2.2))],1⟩) := by
 refine q39.partial_correctness _ ?_
 rintro q39 ih61 ⟨n,s,r0_⟩ r; dsimp only
 apply it <;> intro h1
 ·have f1 : ((10 : Int) = 0) = False := by decide
  have f2 := q4l 1 qo [(u8 (IntKind.u8.wrap (IntKind.i64.wrap ((48 : Int) + ((IntKind.i64.wrap (n.tdiv (10 : Int))).tmod (10 : Int))))))]
  try simp only [en.down] at f2
  have f3 := bytesOf_map [(u8 (IntKind.u8.wrap (IntKind.i64.wrap ((48 : Int) + ((IntKind.i64.wrap (n.tdiv (10 : Int))).tmod (10 : Int))))))]
  have f4 : bytesOf [[PV.int IntKind.u8 (IntKind.u8.wrap (IntKind.i64.wrap ((48 : Int) + ((IntKind.i64.wrap (n.tdiv (10 : Int))).tmod (10 : Int)))))]] = some [(u8 (IntKind.u8.wrap (IntKind.i64.wrap ((48 : Int) + ((IntKind.i64.wrap (n.tdiv (10 : Int))).tmod (10 : Int))))))] := by first | exact bytesOf_map [(u8 (IntKind.u8.wrap (IntKind.i64.wrap ((48 : Int) + ((IntKind.i64.wrap (n.tdiv (10 : Int))).tmod (10 : Int))))))] | simpa only [List.map_cons,List.map_nil,qo,gu,uw] using bytesOf_map [(u8 (IntKind.u8.wrap (IntKind.i64.wrap ((48 : Int) + ((IntKind.i64.wrap (n.tdiv (10 : Int))).tmod (10 : Int))))))]
  refine gd fun h2 => ?_
  have f5 : (1 + s.length ≤ 2 ^ 62) = True := eq_true h2
  intro h; have f6 := ih61 _ _ h; clear h
  try simp only [en.down] at f6
  clear ih61; exact fL qam
 rintro ⟨⟩
 clear ih61; exact fL qam
theorem qfc {n r} (h : q50 n = some r) : O.call 31 [v_i n] [] = some (v_s r,[]) := by
 revert h; unfold q50
 have f1 : ((10 : Int) = 0) = False := by decide
 have f2 := q4l 1 qo [(u8 (IntKind.u8.wrap (IntKind.i64.wrap ((48 : Int) + (n.tmod (10 : Int))))))]
 try simp only [en.down] at f2
 have f3 := bytesOf_map [(u8 (IntKind.u8.wrap (IntKind.i64.wrap ((48 : Int) + (n.tmod (10 : Int))))))]
 have f4 : bytesOf [[PV.int IntKind.u8 (IntKind.u8.wrap (IntKind.i64.wrap ((48 : Int) + (n.tmod (10 : Int)))))]] = some [(u8 (IntKind.u8.wrap (IntKind.i64.wrap ((48 : Int) + (n.tmod (10 : Int))))))] := by first | exact bytesOf_map [(u8 (IntKind.u8.wrap (IntKind.i64.wrap ((48 : Int) + (n.tmod (10 : Int))))))] | simpa only [List.map_cons,List.map_nil,qo,gu,uw] using bytesOf_map [(u8 (IntKind.u8.wrap (IntKind.i64.wrap ((48 : Int) + (n.tmod (10 : Int))))))]
 refine bs fun v2 h1 => ?_
 have f5 := qiz _ _ h1
 try simp only [en.down,Nat.reduceAdd] at f5
 rintro ⟨⟩
 exact fF qam
theorem qea {n r} (h : q44 n = some r) : O.call 15 [v_i n] [] = some (v_s r,[]) := by
 revert h; unfold q44
 apply it <;> intro h1
 ·refine bs fun v3 h2 => ?_
  have f1 := qfc h2
  try simp only [en.down] at f1
  refine gd fun h4 => ?_
  have f2 : (1 + v3.length ≤ 2 ^ 62) = True := eq_true h4
  rintro ⟨⟩
  exact fF qd6
 refine bs fun v6 h5 => ?_
 have f3 := qfc h5
 try simp only [en.down] at f3
 rintro ⟨⟩
 exact fF qd6
end Go.Proofs.YtaglodpkpggdiaaGreatDoor
