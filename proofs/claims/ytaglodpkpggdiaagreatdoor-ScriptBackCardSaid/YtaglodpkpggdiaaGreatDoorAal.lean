/-
  What the machine's calls come to: the plain functions.
-/
import Derived.Test.YtaglodpkpggdiaaGreatDoorAaj
import Derived.Test.YtaglodpkpggdiaaGreatDoorAak
set_option linter.unusedSimpArgs false
set_option linter.unusedVariables false
set_option maxRecDepth 100000
namespace Go.Proofs.YtaglodpkpggdiaaGreatDoor
open Go Go.Gm
set_option maxHeartbeats 4000000
theorem qrq {b r} (h : q6u b = some r) : O.call 22 [AV.ptr 0 0] [(0,b_x (T.qc.enc b))] = some (v_g (T.Op.enc r.1),[(0,b_x (T.qc.enc r.2))]) := by
 revert h; unfold q6u
 refine bs fun v2 h1 => ?_
 have f1 := qcs h1
 try simp only [en.down] at f1
 apply it <;> intro h3
 ·refine bs fun v5 h4 => ?_
  have f2 := q6r h4
  try simp only [en.down] at f2
  refine bs fun v7 h6 => ?_
  have f3 := q6r h6
  try simp only [en.down] at f3
  apply it <;> intro h8
  ·refine bs fun v10 h9 => ?_
   have f4 := yz h9
   try simp only [en.down,UInt8.reduceToNat] at f4
   try simp only [h8] at f1 f2 f3 f4
   rintro ⟨⟩
   exact fF j5
  try simp only [h8] at f1 f2 f3
  rintro ⟨⟩
  exact fF j5
 apply it <;> intro h11
 ·refine bs fun v13 h12 => ?_
  have f5 := q6r h12
  try simp only [en.down] at f5
  apply it <;> intro h14
  ·refine bs fun v16 h15 => ?_
   have f6 := yz h15
   try simp only [en.down,UInt8.reduceToNat] at f6
   try simp only [h14] at f1 f5 f6
   rintro ⟨⟩
   exact fF j5
  try simp only [h14] at f1 f5
  rintro ⟨⟩
  exact fF j5
 apply it <;> intro h17
 ·refine bs fun v19 h18 => ?_
  have f7 := q6r h18
  try simp only [en.down] at f7
  apply it <;> intro h20
  ·refine bs fun v22 h21 => ?_
   have f8 := yz h21
   try simp only [en.down,UInt8.reduceToNat] at f8
   try simp only [h20] at f1 f7 f8
   rintro ⟨⟩
   exact fF j5
  try simp only [h20] at f1 f7
  rintro ⟨⟩
  exact fF j5
 apply it <;> intro h23
 ·refine bs fun v25 h24 => ?_
  have f9 := q3a h24
  try simp only [en.down] at f9
  apply it <;> intro h26
  ·refine bs fun v28 h27 => ?_
   have f10 := yz h27
   try simp only [en.down,UInt8.reduceToNat] at f10
   try simp only [h26] at f1 f9 f10
   rintro ⟨⟩
   exact fF j5
  try simp only [h26] at f1 f9
  rintro ⟨⟩
  exact fF j5
 apply it <;> intro h29
 ·refine bs fun v31 h30 => ?_
  have f11 := q3a h30
  try simp only [en.down] at f11
  apply it <;> intro h32
  ·refine bs fun v34 h33 => ?_
   have f12 := yz h33
   try simp only [en.down,UInt8.reduceToNat] at f12
   try simp only [h32] at f1 f11 f12
   rintro ⟨⟩
   exact fF j5
  try simp only [h32] at f1 f11
  rintro ⟨⟩
  exact fF j5
 apply it <;> intro h35
 ·refine bs fun v37 h36 => ?_
  have f13 := q3a h36
  try simp only [en.down] at f13
  refine bs fun v39 h38 => ?_
  have f14 := qb7 h38
  try simp only [en.down] at f14
  refine bs fun v41 h40 => ?_
  have f15 := yz h40
  try simp only [en.down,UInt8.reduceToNat] at f15
  apply it <;> intro h42
  ·apply it <;> intro h43
   ·refine bs fun v45 h44 => ?_
    have f16 := yz h44
    try simp only [en.down,UInt8.reduceToNat] at f16
    try simp only [h42,h43] at f1 f13 f14 f15 f16
    rintro ⟨⟩
    exact fF j5
   refine bs fun v47 h46 => ?_
   have f17 := yz h46
   try simp only [en.down,UInt8.reduceToNat] at f17
   apply it <;> intro h48
   ·refine bs fun v50 h49 => ?_
    have f18 := yz h49
    try simp only [en.down,UInt8.reduceToNat] at f18
    try simp only [h42,h43,h48] at f1 f13 f14 f15 f17 f18
    rintro ⟨⟩
    exact fF j5
   try simp only [h42,h43,h48] at f1 f13 f14 f15 f17
   rintro ⟨⟩
   exact fF j5
  try simp only [h42] at f1 f13 f14 f15
  rintro ⟨⟩
  exact fF j5
 apply it <;> intro h51
 ·refine bs fun v53 h52 => ?_
  have f19 := zyz _ _ h52
  try simp only [en.down] at f19
  apply it <;> intro h54
  ·refine bs fun v56 h55 => ?_
   have f20 := yz h55
   try simp only [en.down,UInt8.reduceToNat] at f20
   try simp only [h54] at f1 f19 f20
   rintro ⟨⟩
   exact fF j5
  try simp only [h54] at f1 f19
  rintro ⟨⟩
  exact fF j5
 apply it <;> intro h57
 ·refine bs fun v59 h58 => ?_
  have f21 := zzs _ _ h58
  try simp only [en.down] at f21
  apply it <;> intro h60
  ·refine bs fun v62 h61 => ?_
   have f22 := yz h61
   try simp only [en.down,UInt8.reduceToNat] at f22
   try simp only [h60] at f1 f21 f22
   rintro ⟨⟩
   exact fF j5
  try simp only [h60] at f1 f21
  rintro ⟨⟩
  exact fF j5
 refine bs fun v64 h63 => ?_
 have f23 := qdu h63
 try simp only [en.down] at f23
 refine ym (fun h65 h66 => ?_) ?_
 ·refine bs fun v68 h67 => ?_
  have f24 := yz h67
  try simp only [en.down,UInt8.reduceToNat] at f24
  try simp only [h65,h66] at f1 f23 f24
  rintro ⟨⟩
  exact fF j5
 rintro (⟨h65,h66⟩ | ⟨h65,h66⟩)
 all_goals
 try simp only [h65] at f1 f23
 rintro ⟨⟩
 exact fF j5
def qdz (nums : (Sl Int)) : (((Sl Int) × (Sl T.Op) × Int × Int × Int × T.qc × (List T.Op)) ⊕ (Int × T.qc × (List T.Op))) → Ex × St
 | .inl y => (Ex.ret,⟨[(2,v_l 1 (kE IntKind.u32) y.1),(3,v_l 7 T.Op.enc y.2.1),(4,v_i y.2.2.1),(5,v_i y.2.2.2.1),(6,AV.ptr 0 0),(7,v_l 1 (kE IntKind.u32) nums),(8,v_r 1 y.2.2.2.2.2.2),(9,v_i y.2.2.2.2.1)],[(0,b_x (T.qc.enc y.2.2.2.2.2.1)),(1,b_r 7 T.Op.enc y.2.2.2.2.2.2)],2⟩)
 | .inr y => (Ex.normal,⟨[(2,AV.undef),(3,AV.undef),(4,AV.undef),(5,AV.undef),(6,AV.ptr 0 0),(7,v_l 1 (kE IntKind.u32) nums),(8,v_r 1 y.2.2),(9,v_i y.1)],[(0,b_x (T.qc.enc y.2.1)),(1,b_r 7 T.Op.enc y.2.2)],2⟩)
attribute [local go_sem] qdz
theorem z4b : ∀ p r,q13 p = some r → O.loop 10 0 ⟨[(0,v_l 1 qp p.1),(6,AV.ptr 0 0),(7,v_l 1 (kE IntKind.u32) p.2.1),(8,v_r 1 p.2.2.2.2),(9,v_i p.2.2.1)],[(0,b_x (T.qc.enc p.2.2.2.1)),(1,b_r 7 T.Op.enc p.2.2.2.2)],2⟩ = some (qdz p.2.1 r) := by
 refine q13.partial_correctness _ ?_
 rintro q13 ih40 ⟨b,nums,line,r_,os⟩ r; dsimp only
 refine ym (fun h1 h2 => ?_) ?_
 ·refine bs fun v4 h3 => ?_
  have f1 := qrq h3
  try simp only [en.down] at f1
  refine gd fun h5 => ?_
  have f2 := rG 7 T.Op.enc os
  apply it <;> intro h6
  ·have f3 : List.map T.Op.enc os ++ [[PV.int IntKind.i64 v4.1.kind,PV.str v4.1.name,PV.str v4.1.text,PV.int IntKind.i64 v4.1.n,PV.bool v4.1.extend,PV.sl v4.1.edits.nil (szc 3 v4.1.edits.l) (List.map T.qb.enc v4.1.edits.l),PV.sl v4.1.sels.nil (szc 2 v4.1.sels.l) (List.map T.Sel.enc v4.1.sels.l)]] = List.map T.Op.enc (os ++ [v4.1]) := by simp only [List.map_append,List.map_cons,List.map_nil,wh,wy,kz,T.Op.qd] <;> rfl
   apply it <;> intro h7
   ·try simp only [h1,h6] at f1
    rintro ⟨⟩
    clear ih40; exact fL q2y
   try simp only [h1,h6] at f1
   intro h; have f4 := ih40 _ _ h; clear h
   try simp only [en.down] at f4
   try simp only [h1,h6] at f4
   clear ih40; exact fL q2y
  have f5 : List.map T.Op.enc os ++ [[PV.int IntKind.i64 v4.1.kind,PV.str v4.1.name,PV.str v4.1.text,PV.int IntKind.i64 v4.1.n,PV.bool v4.1.extend,PV.sl v4.1.edits.nil (szc 3 v4.1.edits.l) (List.map T.qb.enc v4.1.edits.l),PV.sl v4.1.sels.nil (szc 2 v4.1.sels.l) (List.map T.Sel.enc v4.1.sels.l)]] = List.map T.Op.enc (os ++ [v4.1]) := by simp only [List.map_append,List.map_cons,List.map_nil,wh,wy,kz,T.Op.qd] <;> rfl
  try simp only [h1,h6] at f1
  intro h; have f6 := ih40 _ _ h; clear h
  try simp only [en.down] at f6
  try simp only [h1,h6] at f6
  clear ih40; exact fL q2y
 rintro (⟨h1,h2⟩ | ⟨h1,h2⟩)
 all_goals
 rintro ⟨⟩
 clear ih40; exact fL q2y
theorem qcy {b r} (h : q5q b = some r) : O.call 10 [v_l 1 qp b] [] = some (AV.tup [v_l 1 (kE IntKind.u32) r.1,v_l 7 T.Op.enc r.2.1,v_i r.2.2.1,v_i r.2.2.2],[]) := by
 revert h; unfold q5q
 apply it <;> intro h1
 ·rintro ⟨⟩
  exact fF q2y
 refine bs fun v3 h2 => ?_
 have f1 := x0q h2
 try simp only [en.down] at f1
 refine bs fun v5 h4 => ?_
 have f2 := z4b _ _ h4
 try simp only [en.down] at f2
 rcases v5 with y6 | y7
 ·dsimp only
  rintro ⟨⟩
  exact fF q2y
 dsimp only
 apply it <;> intro h8
 ·rintro ⟨⟩
  exact fF q2y
 rintro ⟨⟩
 exact fF q2y
def qik : ((Bool) ⊕ (Unit)) → Ex × St
 | .inl y => (Ex.ret,⟨[(4,v_b y)],[],0⟩)
 | .inr y => (Ex.normal,⟨[(4,AV.undef)],[],0⟩)
attribute [local go_sem] qik
theorem zte : ∀ p r,q43 p = some r → O.loop 11 0 ⟨[(0,v_l 1 (kE IntKind.u32) p.1),(1,v_l 1 (kE IntKind.u32) p.2.1),(5,v_i p.2.2)],[],0⟩ = some (qik r) := by
 refine q43.partial_correctness _ ?_
 rintro q43 ih47 ⟨a,b,i⟩ r; dsimp only
 apply it <;> intro h1
 ·refine bg (kE IntKind.u32) fun x3 h2 f1 f2 f3 => ?_
  refine bg (kE IntKind.u32) fun x5 h4 f4 f5 f6 => ?_
  apply it <;> intro h6
  ·rintro ⟨⟩
   clear ih47; exact fL q6a
  intro h; have f7 := ih47 _ _ h; clear h
  try simp only [en.down] at f7
  clear ih47; exact fL q6a
 rintro ⟨⟩
 clear ih47; exact fL q6a
theorem qzw {a b r} (h : q75 a b = some r) : O.call 11 [v_l 1 (kE IntKind.u32) a,v_l 1 (kE IntKind.u32) b] [] = some (v_b r,[]) := by
 revert h; unfold q75
 apply it <;> intro h1
 ·rintro ⟨⟩
  exact fF q6a
 refine bs fun v3 h2 => ?_
 have f1 := zte _ _ h2
 try simp only [en.down] at f1
 rcases v3 with y4 | y5
 ·dsimp only
  rintro ⟨⟩
  exact fF q6a
 dsimp only
 rintro ⟨⟩
 exact fF q6a
def qdo : ((Bool) ⊕ (Unit)) → Ex × St
 | .inl y => (Ex.ret,⟨[(4,v_b y)],[],0⟩)
 | .inr y => (Ex.normal,⟨[(4,AV.undef)],[],0⟩)
attribute [local go_sem] qdo
theorem zn1 : ∀ p r,q3q p = some r → O.loop 23 0 ⟨[(0,v_l 3 T.qb.enc p.1),(1,v_l 3 T.qb.enc p.2.1),(5,v_i p.2.2)],[],0⟩ = some (qdo r) := by
 refine q3q.partial_correctness _ ?_
 rintro q3q ih51 ⟨a,b,i⟩ r; dsimp only
 apply it <;> intro h1
 ·refine bg T.qb.enc fun x3 h2 f1 f2 f3 => ?_
  refine bg T.qb.enc fun x5 h4 f4 f5 f6 => ?_
  apply it <;> intro h6
  ·rintro ⟨⟩
   clear ih51; exact fL q60
  intro h; have f7 := ih51 _ _ h; clear h
  try simp only [en.down] at f7
  clear ih51; exact fL q60
 rintro ⟨⟩
 clear ih51; exact fL q60
theorem zrg {a b r} (h : q6w a b = some r) : O.call 23 [v_l 3 T.qb.enc a,v_l 3 T.qb.enc b] [] = some (v_b r,[]) := by
 revert h; unfold q6w
 apply it <;> intro h1
 ·rintro ⟨⟩
  exact fF q60
 refine bs fun v3 h2 => ?_
 have f1 := zn1 _ _ h2
 try simp only [en.down] at f1
 rcases v3 with y4 | y5
 ·dsimp only
  rintro ⟨⟩
  exact fF q60
 dsimp only
 rintro ⟨⟩
 exact fF q60
def qg1 : ((Bool) ⊕ (Unit)) → Ex × St
 | .inl y => (Ex.ret,⟨[(4,v_b y)],[],0⟩)
 | .inr y => (Ex.normal,⟨[(4,AV.undef)],[],0⟩)
attribute [local go_sem] qg1
theorem zsf : ∀ p r,q2w p = some r → O.loop 24 0 ⟨[(0,v_l 2 T.Sel.enc p.1),(1,v_l 2 T.Sel.enc p.2.1),(5,v_i p.2.2)],[],0⟩ = some (qg1 r) := by
 refine q2w.partial_correctness _ ?_
 rintro q2w ih53 ⟨a,b,i⟩ r; dsimp only
 apply it <;> intro h1
 ·refine bg T.Sel.enc fun x3 h2 f1 f2 f3 => ?_
  refine bg T.Sel.enc fun x5 h4 f4 f5 f6 => ?_
  apply it <;> intro h6
  ·rintro ⟨⟩
   clear ih53; exact fL q5y
  intro h; have f7 := ih53 _ _ h; clear h
  try simp only [en.down] at f7
  clear ih53; exact fL q5y
 rintro ⟨⟩
 clear ih53; exact fL q5y
theorem zg9 {a b r} (h : q6o a b = some r) : O.call 24 [v_l 2 T.Sel.enc a,v_l 2 T.Sel.enc b] [] = some (v_b r,[]) := by
 revert h; unfold q6o
 apply it <;> intro h1
 ·rintro ⟨⟩
  exact fF q5y
 refine bs fun v3 h2 => ?_
 have f1 := zsf _ _ h2
 try simp only [en.down] at f1
 rcases v3 with y4 | y5
 ·dsimp only
  rintro ⟨⟩
  exact fF q5y
 dsimp only
 rintro ⟨⟩
 exact fF q5y
def qev : ((Bool) ⊕ (Unit)) → Ex × St
 | .inl y => (Ex.ret,⟨[(4,v_b y)],[],0⟩)
 | .inr y => (Ex.normal,⟨[(4,AV.undef)],[],0⟩)
attribute [local go_sem] qev
theorem qj4 : ∀ p r,q3f p = some r → O.loop 12 0 ⟨[(0,v_l 7 T.Op.enc p.1),(1,v_l 7 T.Op.enc p.2.1),(5,v_i p.2.2)],[],0⟩ = some (qev r) := by
 refine q3f.partial_correctness _ ?_
 rintro q3f ih49 ⟨a,b,i⟩ r; dsimp only
 apply it <;> intro h1
 ·refine bg T.Op.enc fun x3 h2 f1 f2 f3 => ?_
  refine bg T.Op.enc fun x5 h4 f4 f5 f6 => ?_
  refine zgw ?_ (fun h6 h7 h8 h9 h10 => ?_)
  ·rintro (⟨h6,h7,h8,h9,h10⟩ | ⟨h6,h7,h8,h9,h10⟩ | ⟨h6,h7,h8,h9,h10⟩ | ⟨h6,h7,h8,h9,h10⟩ | ⟨h6,h7,h8,h9,h10⟩)
   all_goals
   rintro ⟨⟩
   clear ih49; exact fL q34
  refine bs fun v12 h11 => ?_
  have f7 := zrg h11
  try simp only [en.down] at f7
  apply it <;> intro h13
  ·rintro ⟨⟩
   clear ih49; exact fL q34
  refine bs fun v15 h14 => ?_
  have f8 := zg9 h14
  try simp only [en.down] at f8
  apply it <;> intro h16
  ·rintro ⟨⟩
   clear ih49; exact fL q34
  intro h; have f9 := ih49 _ _ h; clear h
  try simp only [en.down] at f9
  clear ih49; exact fL q34
 rintro ⟨⟩
 clear ih49; exact fL q34
theorem zaa {a b r} (h : q7f a b = some r) : O.call 12 [v_l 7 T.Op.enc a,v_l 7 T.Op.enc b] [] = some (v_b r,[]) := by
 revert h; unfold q7f
 apply it <;> intro h1
 ·rintro ⟨⟩
  exact fF q34
 refine bs fun v3 h2 => ?_
 have f1 := qj4 _ _ h2
 try simp only [en.down] at f1
 rcases v3 with y4 | y5
 ·dsimp only
  rintro ⟨⟩
  exact fF q34
 dsimp only
 rintro ⟨⟩
 exact fF q34
theorem qnz {n os b r} (h : q9o n os b = some r) : O.call 3 [v_l 1 (kE IntKind.u32) n,v_l 7 T.Op.enc os,v_l 1 qp b] [] = some (v_b r,[]) := by
 revert h; unfold q9o
 apply it <;> intro h1
 ·refine bs fun v3 h2 => ?_
  have f1 := q8l h2
  try simp only [en.down] at f1
  rintro ⟨⟩
  exact fF fn3
 refine bs fun v5 h4 => ?_
 have f2 := qsv h4
 try simp only [en.down] at f2
 refine q7g ?_ (fun h6 h9 => ?_)
 ·rintro (⟨h6,h9⟩ | ⟨h6,h9⟩)
  all_goals
  refine bs fun v8 h7 => ?_
  have f3 := q8l h7
  try simp only [en.down] at f3
  try simp only [h6] at f2 f3
  rintro ⟨⟩
  exact fF fn3
 refine bs fun v13 h12 => ?_
 have f4 := z7c h12
 try simp only [en.down] at f4
 refine bs fun v15 h14 => ?_
 have f5 := qi9 h14
 try simp only [en.down] at f5
 refine bs fun v17 h16 => ?_
 have f6 := qcy h16
 try simp only [en.down] at f6
 refine qeo ?_ (fun h18 h19 h20 => ?_)
 ·rintro (⟨h18,h19,h20⟩ | ⟨h18,h19,h20⟩ | ⟨h18,h19,h20⟩)
  all_goals
  try simp only [h6] at f2 f4 f5 f6
  rintro ⟨⟩
  exact fF fn3
 refine bs fun v22 h21 => ?_
 have f7 := qzw h21
 try simp only [en.down] at f7
 apply it <;> intro h23
 ·try simp only [h6] at f2 f4 f5 f6 f7
  rintro ⟨⟩
  exact fF fn3
 refine bs fun v25 h24 => ?_
 have f8 := zaa h24
 try simp only [en.down] at f8
 apply it <;> intro h26
 ·try simp only [h6] at f2 f4 f5 f6 f7 f8
  rintro ⟨⟩
  exact fF fn3
 refine bs fun v28 h27 => ?_
 have f9 := qcy h27
 try simp only [en.down] at f9
 apply it <;> intro h29
 ·refine x06 (fun h30 h31 h32 => ?_) ?_
  ·refine bs fun v34 h33 => ?_
   have f10 := q8l h33
   try simp only [en.down] at f10
   try simp only [h6] at f2 f4 f5 f6 f7 f8 f9 f10
   rintro ⟨⟩
   exact fF fn3
  rintro (⟨h30,h31,h32⟩ | ⟨h30,h31,h32⟩ | ⟨h30,h31,h32⟩)
  all_goals
  try simp only [h6] at f2 f4 f5 f6 f7 f8 f9
  rintro ⟨⟩
  exact fF fn3
 refine bs fun v36 h35 => ?_
 have f11 := qi9 h35
 try simp only [en.down] at f11
 apply it <;> intro h37
 ·have f12 := q6g 1 qp v36.1.l
  have f13 := bytesOf_map v36.1.l
  have f14 := q6g 1 qp b.l
  have f15 := bytesOf_map b.l
  apply it <;> intro h38
  ·refine bs fun v40 h39 => ?_
   have f16 := q8l h39
   try simp only [en.down] at f16
   try simp only [h6] at f2 f4 f5 f6 f7 f8 f9 f11 f16
   rintro ⟨⟩
   exact fF fn3
  try simp only [h6] at f2 f4 f5 f6 f7 f8 f9 f11
  rintro ⟨⟩
  exact fF fn3
 try simp only [h6] at f2 f4 f5 f6 f7 f8 f9 f11
 rintro ⟨⟩
 exact fF fn3
end Go.Proofs.YtaglodpkpggdiaaGreatDoor
