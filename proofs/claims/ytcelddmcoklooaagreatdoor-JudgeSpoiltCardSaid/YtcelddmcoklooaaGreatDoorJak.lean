/-
  What the machine's calls come to: the plain functions.
-/
import Derived.Test.YtcelddmcoklooaaGreatDoorJaj
set_option linter.unusedSimpArgs false
set_option linter.unusedVariables false
set_option maxRecDepth 100000
namespace Go.Proofs.YtcelddmcoklooaaGreatDoor
open Go Go.Gm
set_option maxHeartbeats 4000000
def qcw (t11 : Int) (t12 : Int) (t10 : (List T.qb)) (so : Bytes) (so2 : (Sl T.Sel)) (b2_ : Bytes) (b2_2 : (Sl T.Sel)) (s : T.qb) : ((Bool) ⊕ (Unit)) → Ex × St
 | .inl y => (Ex.ret,⟨[(1,AV.clo 14 [] [AV.ptr 1 0]),(4,v_b y),(10,v_r 0 t10),(11,v_i t11),(12,v_i t12)],[(0,Blk.row false 2 (List.map T.qb.enc t10)),(1,Blk.box [v_s so,v_l 2 T.Sel.enc so2,v_r 0 t10]),(2,Blk.box [v_s b2_,v_l 2 T.Sel.enc b2_2,v_r 0 t10]),(3,b_x (T.qb.enc s))],4⟩)
 | .inr y => (Ex.normal,⟨[(1,AV.clo 14 [] [AV.ptr 1 0]),(4,AV.undef),(10,v_r 0 t10),(11,v_i t11),(12,v_i t12)],[(0,Blk.row false 2 (List.map T.qb.enc t10)),(1,Blk.box [v_s so,v_l 2 T.Sel.enc so2,v_r 0 t10]),(2,Blk.box [v_s b2_,v_l 2 T.Sel.enc b2_2,v_r 0 t10]),(3,b_x (T.qb.enc s))],4⟩)
attribute [local go_sem] qcw
theorem zo4 : ∀ p r,q2i p = some r → O.loop 11 2 ⟨[(1,AV.clo 14 [] [AV.ptr 1 0]),(6,AV.ptr 3 0),(10,v_r 0 p.2.2.2.2.2.1),(11,v_i p.1),(12,v_i p.2.1),(17,v_l 3 T.qc.enc p.2.2.1),(18,v_i p.2.2.2.1),(19,v_i p.2.2.2.2.1)],[(0,Blk.row false 2 (List.map T.qb.enc p.2.2.2.2.2.1)),(1,Blk.box [v_s p.2.2.2.2.2.2.1,v_l 2 T.Sel.enc p.2.2.2.2.2.2.2.1,v_r 0 p.2.2.2.2.2.1]),(2,Blk.box [v_s p.2.2.2.2.2.2.2.2.1,v_l 2 T.Sel.enc p.2.2.2.2.2.2.2.2.2.1,v_r 0 p.2.2.2.2.2.1]),(3,b_x (T.qb.enc p.2.2.2.2.2.2.2.2.2.2))],4⟩ = some (qcw p.1 p.2.1 p.2.2.2.2.2.1 p.2.2.2.2.2.2.1 p.2.2.2.2.2.2.2.1 p.2.2.2.2.2.2.2.2.1 p.2.2.2.2.2.2.2.2.2.1 p.2.2.2.2.2.2.2.2.2.2 r) := by
 refine q2i.partial_correctness _ ?_
 rintro q2i ih66 ⟨t11,t12,t17,t18,t19,t10,so,so2,b2_,b2_2,s⟩ r; dsimp only
 apply it <;> intro h1
 ·refine bg T.qc.enc fun x3 h2 f1 f2 f3 => ?_
  refine bs fun v5 h4 => ?_
  have f4 := zci h4
  try simp only [en.down] at f4
  apply it <;> intro h6
  ·rintro ⟨⟩
   clear ih66; exact fL zl
  intro h; have f5 := ih66 _ _ h; clear h
  try simp only [en.down] at f5
  clear ih66; exact fL zl
 rintro ⟨⟩
 clear ih66; exact fL zl
def qgb (t10 : (List T.qb)) (so : Bytes) (so2 : (Sl T.Sel)) (b2_ : Bytes) (b2_2 : (Sl T.Sel)) : ((Bool) ⊕ (Unit)) → Ex × St
 | .inl y => (Ex.ret,⟨[(4,v_b y)],[(0,Blk.row false 2 (List.map T.qb.enc t10)),(1,Blk.box [v_s so,v_l 2 T.Sel.enc so2,v_r 0 t10]),(2,Blk.box [v_s b2_,v_l 2 T.Sel.enc b2_2,v_r 0 t10])],3⟩)
 | .inr y => (Ex.normal,⟨[(4,AV.undef)],[(0,Blk.row false 2 (List.map T.qb.enc t10)),(1,Blk.box [v_s so,v_l 2 T.Sel.enc so2,v_r 0 t10]),(2,Blk.box [v_s b2_,v_l 2 T.Sel.enc b2_2,v_r 0 t10])],3⟩)
attribute [local go_sem] qgb
theorem zi7 : ∀ p r,q2m p = some r → O.loop 11 0 ⟨[(1,AV.clo 14 [] [AV.ptr 1 0]),(10,v_r 0 p.2.2.1),(11,v_i p.1),(12,v_i p.2.1)],[(0,Blk.row false 2 (List.map T.qb.enc p.2.2.1)),(1,Blk.box [v_s p.2.2.2.1,v_l 2 T.Sel.enc p.2.2.2.2.1,v_r 0 p.2.2.1]),(2,Blk.box [v_s p.2.2.2.2.2.1,v_l 2 T.Sel.enc p.2.2.2.2.2.2,v_r 0 p.2.2.1])],3⟩ = some (qgb p.2.2.1 p.2.2.2.1 p.2.2.2.2.1 p.2.2.2.2.2.1 p.2.2.2.2.2.2 r) := by
 refine q2m.partial_correctness _ ?_
 rintro q2m ih65 ⟨t11,t12,t10,so,so2,b2_,b2_2⟩ r; dsimp only
 apply it <;> intro h1
 ·refine bw T.qb.enc fun x3 h2 f1 f2 f3 => ?_
  refine bs fun v5 h4 => ?_
  have f4 := zo4 _ _ h4
  try simp only [en.down] at f4
  rcases v5 with y6 | y7
  ·dsimp only
   rintro ⟨⟩
   clear ih65; exact fL zl
  dsimp only
  intro h; have f5 := ih65 _ _ h; clear h
  try simp only [en.down] at f5
  clear ih65; exact fL zl
 rintro ⟨⟩
 clear ih65; exact fL zl
theorem qnb {st st2 r_ b b_2 r} (h : q5p st st2 r_ b b_2 = some r) : O.call 11 [AV.agg [v_s st,v_l 2 T.Sel.enc st2,v_r 0 r_],AV.clo 14 [] [AV.ptr 1 0]] [(0,Blk.row false 2 (List.map T.qb.enc r_)),(1,Blk.box [v_s b,v_l 2 T.Sel.enc b_2,v_r 0 r_])] = some (v_b r,[(0,Blk.row false 2 (List.map T.qb.enc r_)),(1,Blk.box [v_s b,v_l 2 T.Sel.enc b_2,v_r 0 r_])]) := by
 revert h; unfold q5p
 refine bs fun v2 h1 => ?_
 have f1 := zi7 _ _ h1
 try simp only [en.down] at f1
 rcases v2 with y3 | y4
 ·dsimp only
  rintro ⟨⟩
  exact fF zl
 dsimp only
 rintro ⟨⟩
 exact fF zl
def qeh : ((Int) ⊕ (Unit)) → Ex × St
 | .inl y => (Ex.ret,⟨[(4,v_i y)],[],0⟩)
 | .inr y => (Ex.normal,⟨[(4,AV.undef)],[],0⟩)
attribute [local go_sem] qeh
theorem x1f : ∀ p r,q3b p = some r → O.loop 37 0 ⟨[(0,v_l 1 zn p.1),(1,v_i p.2.1),(7,v_i p.2.2.1),(8,v_i p.2.2.2)],[],0⟩ = some (qeh r) := by
 refine q3b.partial_correctness _ ?_
 rintro q3b ih78 ⟨s,v,t7,t8⟩ r; dsimp only
 apply it <;> intro h1
 ·refine bg zn fun x3 h2 f1 f2 f3 => ?_
  apply it <;> intro h4
  ·rintro ⟨⟩
   clear ih78; exact fL q5u
  intro h; have f4 := ih78 _ _ h; clear h
  try simp only [en.down] at f4
  clear ih78; exact fL q5u
 rintro ⟨⟩
 clear ih78; exact fL q5u
theorem zlb {s v r} (h : q7m s v = some r) : O.call 37 [v_l 1 zn s,v_i v] [] = some (v_i r,[]) := by
 revert h; unfold q7m
 refine bs fun v2 h1 => ?_
 have f1 := x1f _ _ h1
 try simp only [en.down] at f1
 rcases v2 with y3 | y4
 ·dsimp only
  rintro ⟨⟩
  exact fF q5u
 dsimp only
 rintro ⟨⟩
 exact fF q5u
theorem zzz {v r_ r} (h : q73 v r_ = some r) : O.call 18 [v_r 0 r_,v_i v] [(0,b_r 1 zn r_)] = some (v_b r,[(0,Blk.dead)]) := by
 revert h; unfold q73
 refine bs fun v2 h1 => ?_
 have f1 := zlb h1
 try simp only [en.down] at f1
 rintro ⟨⟩
 exact fF z3r
theorem qcz {s r} (h : q4b s = some r) : O.call 17 [v_g (T.qb.enc s)] [] = some (v_b r,[]) := by
 revert h; unfold q4b
 refine bs fun v2 h1 => ?_
 have f1 := qgi h1
 try simp only [en.down] at f1
 refine bs fun v4 h3 => ?_
 have f2 := zzz h3
 try simp only [en.down] at f2
 rintro ⟨⟩
 exact fF zhw
def qgs (s : (List T.qb)) : ((Int) ⊕ (Unit)) → Ex × St
 | .inl y => (Ex.ret,⟨[(4,v_i y)],[(0,Blk.row false 2 (List.map T.qb.enc s))],1⟩)
 | .inr y => (Ex.normal,⟨[(4,AV.undef)],[(0,Blk.row false 2 (List.map T.qb.enc s))],1⟩)
attribute [local go_sem] qgs
theorem zrc : ∀ p r,q3k p = some r → O.loop 36 0 ⟨[(0,v_r 0 p.2.2),(1,AV.pv (PV.fn 17)),(7,v_i p.1),(8,v_i p.2.1)],[(0,Blk.row false 2 (List.map T.qb.enc p.2.2))],1⟩ = some (qgs p.2.2 r) := by
 refine q3k.partial_correctness _ ?_
 rintro q3k ih74 ⟨t7,t8,s⟩ r; dsimp only
 apply it <;> intro h1
 ·refine bw T.qb.enc fun x3 h2 f1 f2 f3 => ?_
  refine bs fun v5 h4 => ?_
  have f4 := qcz h4
  try simp only [en.down] at f4
  apply it <;> intro h6
  ·try simp only [h6] at f4
   rintro ⟨⟩
   clear ih74; exact fL q00
  try simp only [h6] at f4
  intro h; have f5 := ih74 _ _ h; clear h
  try simp only [en.down] at f5
  try simp only [h6] at f5
  clear ih74; exact fL q00
 rintro ⟨⟩
 clear ih74; exact fL q00
theorem zxp {r_ r} (h : q6x r_ = some r) : O.call 36 [v_r 0 r_,AV.pv (PV.fn 17)] [(0,Blk.row false 2 (List.map T.qb.enc r_))] = some (v_i r,[(0,Blk.row false 2 (List.map T.qb.enc r_))]) := by
 revert h; unfold q6x
 refine bs fun v2 h1 => ?_
 have f1 := zrc _ _ h1
 try simp only [en.down] at f1
 rcases v2 with y3 | y4
 ·dsimp only
  rintro ⟨⟩
  exact fF q00
 dsimp only
 rintro ⟨⟩
 exact fF q00
theorem x6b {r_ r} (h : q5j r_ = some r) : O.call 16 [v_r 0 r_,AV.pv (PV.fn 17)] [(0,Blk.row false 2 (List.map T.qb.enc r_))] = some (v_b r,[(0,Blk.row false 2 (List.map T.qb.enc r_))]) := by
 revert h; unfold q5j
 refine bs fun v2 h1 => ?_
 have f1 := zxp h1
 try simp only [en.down] at f1
 rintro ⟨⟩
 exact fF qcl
theorem q2s {st st2 r_ r} (h : yw st st2 r_ = some r) : O.call 5 [AV.agg [v_s st,v_l 2 T.Sel.enc st2,v_r 0 r_]] [(0,Blk.row false 2 (List.map T.qb.enc r_))] = some (v_i r,[(0,Blk.row false 2 (List.map T.qb.enc r_))]) := by
 revert h; unfold yw
 refine bs fun v2 h1 => ?_
 have f1 := qou h1
 try simp only [en.down] at f1
 apply it <;> intro h3
 ·rintro ⟨⟩
  exact fF fn5
 refine bs fun v5 h4 => ?_
 have f2 := zx9 h4
 try simp only [en.down] at f2
 apply it <;> intro h6
 ·rintro ⟨⟩
  exact fF fn5
 refine bs fun v8 h7 => ?_
 have f3 := qnb h7
 try simp only [en.down] at f3
 apply it <;> intro h9
 ·rintro ⟨⟩
  exact fF fn5
 refine bs fun v11 h10 => ?_
 have f4 := x6b h10
 try simp only [en.down] at f4
 apply it <;> intro h12
 ·rintro ⟨⟩
  exact fF fn5
 rintro ⟨⟩
 exact fF fn5
theorem zab {x n r} (h : q5w x n = some r) : O.call 6 [v_i x,v_i n] [] = some (v_i r,[]) := by
 revert h; unfold q5w
 refine gd fun h1 => ?_
 have f1 := eq_false h1
 rintro ⟨⟩
 exact fF fn6
def qgm (n : Int) (t42 : (Sl T.qb)) (t43 : Int) (t44 : Int) (b0_ : T.State) (s : T.qb) : ((Bool) ⊕ (Unit)) → Ex × St
 | .inl y => (Ex.ret,⟨[(2,v_b y),(3,v_i n),(8,AV.ptr 1 0),(42,v_l 2 T.qb.enc t42),(43,v_i t43),(44,v_i t44)],[(0,b_x (T.State.enc b0_)),(1,b_x (T.qb.enc s))],2⟩)
 | .inr y => (Ex.normal,⟨[(2,AV.undef),(3,v_i n),(8,AV.ptr 1 0),(42,v_l 2 T.qb.enc t42),(43,v_i t43),(44,v_i t44)],[(0,b_x (T.State.enc b0_)),(1,b_x (T.qb.enc s))],2⟩)
attribute [local go_sem] qgm
theorem qvk : ∀ p r,q4t p = some r → O.loop 10 2 ⟨[(3,v_i p.1),(6,v_l 2 T.Span.enc p.2.1),(7,v_i p.2.2.1),(8,AV.ptr 1 0),(9,v_i p.2.2.2.1),(42,v_l 2 T.qb.enc p.2.2.2.2.1),(43,v_i p.2.2.2.2.2.1),(44,v_i p.2.2.2.2.2.2.1),(54,v_l 3 T.qc.enc p.2.2.2.2.2.2.2.1),(55,v_i p.2.2.2.2.2.2.2.2.1),(56,v_i p.2.2.2.2.2.2.2.2.2.1)],[(0,b_x (T.State.enc p.2.2.2.2.2.2.2.2.2.2.1)),(1,b_x (T.qb.enc p.2.2.2.2.2.2.2.2.2.2.2))],2⟩ = some (qgm p.1 p.2.2.2.2.1 p.2.2.2.2.2.1 p.2.2.2.2.2.2.1 p.2.2.2.2.2.2.2.2.2.2.1 p.2.2.2.2.2.2.2.2.2.2.2 r) := by
 refine q4t.partial_correctness _ ?_
 rintro q4t ih83 ⟨n,around,k,end_,t42,t43,t44,t54,t55,t56,b0_,s⟩ r; dsimp only
 apply it <;> intro h1
 ·refine bg T.qc.enc fun x3 h2 f1 f2 f3 => ?_
  refine bs fun v5 h4 => ?_
  have f4 := qbn h4
  try simp only [en.down] at f4
  refine q09 ?_ (fun h6 h7 => ?_)
  ·rintro (⟨h6,h7⟩ | ⟨h6,h7⟩)
   all_goals
   rintro ⟨⟩
   clear ih83; exact fL xc
  apply it <;> intro h8
  ·refine bs fun v10 h9 => ?_
   have f5 := qct h9
   try simp only [en.down] at f5
   apply it <;> intro h11
   ·rintro ⟨⟩
    clear ih83; exact fL xc
   intro h; have f6 := ih83 _ _ h; clear h
   try simp only [en.down] at f6
   clear ih83; exact fL xc
  intro h; have f7 := ih83 _ _ h; clear h
  try simp only [en.down] at f7
  clear ih83; exact fL xc
 rintro ⟨⟩
 clear ih83; exact fL xc
def qec (b0_ : T.State) : ((Bool) ⊕ (Unit)) → Ex × St
 | .inl y => (Ex.ret,⟨[(2,v_b y)],[(0,b_x (T.State.enc b0_))],1⟩)
 | .inr y => (Ex.normal,⟨[(2,AV.undef)],[(0,b_x (T.State.enc b0_))],1⟩)
attribute [local go_sem] qec
theorem zay : ∀ p r,q54 p = some r → O.loop 10 0 ⟨[(3,v_i p.1),(6,v_l 2 T.Span.enc p.2.1),(42,v_l 2 T.qb.enc p.2.2.1),(43,v_i p.2.2.2.1),(44,v_i p.2.2.2.2.1)],[(0,b_x (T.State.enc p.2.2.2.2.2))],1⟩ = some (qec p.2.2.2.2.2 r) := by
 refine q54.partial_correctness _ ?_
 rintro q54 ih82 ⟨n,around,t42,t43,t44,b0_⟩ r; dsimp only
 apply it <;> intro h1
 ·refine bg T.qb.enc fun x3 h2 f1 f2 f3 => ?_
  apply it <;> intro h4
  ·rintro ⟨⟩
   clear ih82; exact fL xc
  refine bs fun v6 h5 => ?_
  have f4 := qvk _ _ h5
  try simp only [en.down] at f4
  rcases v6 with y7 | y8
  ·dsimp only
   rintro ⟨⟩
   clear ih82; exact fL xc
  dsimp only
  refine bs fun v10 h9 => ?_
  have f5 := qa5 h9
  try simp only [en.down] at f5
  intro h; have f6 := ih82 _ _ h; clear h
  try simp only [en.down] at f6
  clear ih82; exact fL xc
 rintro ⟨⟩
 clear ih82; exact fL xc
theorem zmy {st r} (h : q5y st = some r) : O.call 10 [v_g (T.State.enc st)] [] = some (v_b r,[]) := by
 revert h; unfold q5y
 refine bs fun v2 h1 => ?_
 have f1 := qe7 h1
 try simp only [en.down] at f1
 refine q09 ?_ (fun h3 h4 => ?_)
 ·rintro (⟨h3,h4⟩ | ⟨h3,h4⟩)
  all_goals
  rintro ⟨⟩
  exact fF xc
 refine bs fun v6 h5 => ?_
 have f2 := qg8 h5
 try simp only [en.down] at f2
 refine q09 ?_ (fun h7 h8 => ?_)
 ·rintro (⟨h7,h8⟩ | ⟨h7,h8⟩)
  all_goals
  rintro ⟨⟩
  exact fF xc
 refine bs fun v10 h9 => ?_
 have f3 := zay _ _ h9
 try simp only [en.down] at f3
 rcases v10 with y11 | y12
 ·dsimp only
  rintro ⟨⟩
  exact fF xc
 dsimp only
 rintro ⟨⟩
 exact fF xc
theorem z19 {a i b r} (h : q9e a i b = some r) : O.call 12 [v_g (T.qb.enc a),v_g (T.qc.enc i),AV.ptr 0 0] [(0,b_x (T.State.enc b))] = some (v_b r,[(0,b_x (T.State.enc b))]) := by
 revert h; unfold q9e
 refine bs fun v2 h1 => ?_
 have f1 := qex h1
 try simp only [en.down] at f1
 rintro ⟨⟩
 exact fF qel
def qfa (t10 : (Sl T.qb)) (t11 : Int) (t12 : Int) (so : T.State) (b1_ : T.State) (s : T.qb) : ((Bool) ⊕ (Unit)) → Ex × St
 | .inl y => (Ex.ret,⟨[(1,AV.clo 12 [] [AV.ptr 0 0]),(4,v_b y),(10,v_l 2 T.qb.enc t10),(11,v_i t11),(12,v_i t12)],[(0,b_x (T.State.enc so)),(1,b_x (T.State.enc b1_)),(2,b_x (T.qb.enc s))],3⟩)
 | .inr y => (Ex.normal,⟨[(1,AV.clo 12 [] [AV.ptr 0 0]),(4,AV.undef),(10,v_l 2 T.qb.enc t10),(11,v_i t11),(12,v_i t12)],[(0,b_x (T.State.enc so)),(1,b_x (T.State.enc b1_)),(2,b_x (T.qb.enc s))],3⟩)
attribute [local go_sem] qfa
theorem qjk : ∀ p r,q62 p = some r → O.loop 11 2 ⟨[(1,AV.clo 12 [] [AV.ptr 0 0]),(6,AV.ptr 2 0),(10,v_l 2 T.qb.enc p.1),(11,v_i p.2.1),(12,v_i p.2.2.1),(17,v_l 3 T.qc.enc p.2.2.2.1),(18,v_i p.2.2.2.2.1),(19,v_i p.2.2.2.2.2.1)],[(0,b_x (T.State.enc p.2.2.2.2.2.2.1)),(1,b_x (T.State.enc p.2.2.2.2.2.2.2.1)),(2,b_x (T.qb.enc p.2.2.2.2.2.2.2.2))],3⟩ = some (qfa p.1 p.2.1 p.2.2.1 p.2.2.2.2.2.2.1 p.2.2.2.2.2.2.2.1 p.2.2.2.2.2.2.2.2 r) := by
 refine q62.partial_correctness _ ?_
 rintro q62 ih86 ⟨t10,t11,t12,t17,t18,t19,so,b1_,s⟩ r; dsimp only
 apply it <;> intro h1
 ·refine bg T.qc.enc fun x3 h2 f1 f2 f3 => ?_
  refine bs fun v5 h4 => ?_
  have f4 := z19 h4
  try simp only [en.down] at f4
  apply it <;> intro h6
  ·rintro ⟨⟩
   clear ih86; exact fL zl
  intro h; have f5 := ih86 _ _ h; clear h
  try simp only [en.down] at f5
  clear ih86; exact fL zl
 rintro ⟨⟩
 clear ih86; exact fL zl
def qdq (so : T.State) (b1_ : T.State) : ((Bool) ⊕ (Unit)) → Ex × St
 | .inl y => (Ex.ret,⟨[(4,v_b y)],[(0,b_x (T.State.enc so)),(1,b_x (T.State.enc b1_))],2⟩)
 | .inr y => (Ex.normal,⟨[(4,AV.undef)],[(0,b_x (T.State.enc so)),(1,b_x (T.State.enc b1_))],2⟩)
attribute [local go_sem] qdq
theorem zjl : ∀ p r,q4x p = some r → O.loop 11 0 ⟨[(1,AV.clo 12 [] [AV.ptr 0 0]),(10,v_l 2 T.qb.enc p.1),(11,v_i p.2.1),(12,v_i p.2.2.1)],[(0,b_x (T.State.enc p.2.2.2.1)),(1,b_x (T.State.enc p.2.2.2.2))],2⟩ = some (qdq p.2.2.2.1 p.2.2.2.2 r) := by
 refine q4x.partial_correctness _ ?_
 rintro q4x ih85 ⟨t10,t11,t12,so,b1_⟩ r; dsimp only
 apply it <;> intro h1
 ·refine bg T.qb.enc fun x3 h2 f1 f2 f3 => ?_
  refine bs fun v5 h4 => ?_
  have f4 := qjk _ _ h4
  try simp only [en.down] at f4
  rcases v5 with y6 | y7
  ·dsimp only
   rintro ⟨⟩
   clear ih85; exact fL zl
  dsimp only
  intro h; have f5 := ih85 _ _ h; clear h
  try simp only [en.down] at f5
  clear ih85; exact fL zl
 rintro ⟨⟩
 clear ih85; exact fL zl
theorem zku {st b r} (h : q5n st b = some r) : O.call 11 [v_g (T.State.enc st),AV.clo 12 [] [AV.ptr 0 0]] [(0,b_x (T.State.enc b))] = some (v_b r,[(0,b_x (T.State.enc b))]) := by
 revert h; unfold q5n
 refine bs fun v2 h1 => ?_
 have f1 := zjl _ _ h1
 try simp only [en.down] at f1
 rcases v2 with y3 | y4
 ·dsimp only
  rintro ⟨⟩
  exact fF zl
 dsimp only
 rintro ⟨⟩
 exact fF zl
theorem zjo {a i b r} (h : qaa a i b = some r) : O.call 14 [v_g (T.qb.enc a),v_g (T.qc.enc i),AV.ptr 0 0] [(0,b_x (T.State.enc b))] = some (v_b r,[(0,b_x (T.State.enc b))]) := by
 revert h; unfold qaa
 refine bs fun v2 h1 => ?_
 have f1 := qft h1
 try simp only [en.down] at f1
 rintro ⟨⟩
 exact fF qfx
def qcg (t10 : (Sl T.qb)) (t11 : Int) (t12 : Int) (so : T.State) (b1_ : T.State) (s : T.qb) : ((Bool) ⊕ (Unit)) → Ex × St
 | .inl y => (Ex.ret,⟨[(1,AV.clo 14 [] [AV.ptr 0 0]),(4,v_b y),(10,v_l 2 T.qb.enc t10),(11,v_i t11),(12,v_i t12)],[(0,b_x (T.State.enc so)),(1,b_x (T.State.enc b1_)),(2,b_x (T.qb.enc s))],3⟩)
 | .inr y => (Ex.normal,⟨[(1,AV.clo 14 [] [AV.ptr 0 0]),(4,AV.undef),(10,v_l 2 T.qb.enc t10),(11,v_i t11),(12,v_i t12)],[(0,b_x (T.State.enc so)),(1,b_x (T.State.enc b1_)),(2,b_x (T.qb.enc s))],3⟩)
attribute [local go_sem] qcg
theorem qqx : ∀ p r,q6b p = some r → O.loop 11 2 ⟨[(1,AV.clo 14 [] [AV.ptr 0 0]),(6,AV.ptr 2 0),(10,v_l 2 T.qb.enc p.1),(11,v_i p.2.1),(12,v_i p.2.2.1),(17,v_l 3 T.qc.enc p.2.2.2.1),(18,v_i p.2.2.2.2.1),(19,v_i p.2.2.2.2.2.1)],[(0,b_x (T.State.enc p.2.2.2.2.2.2.1)),(1,b_x (T.State.enc p.2.2.2.2.2.2.2.1)),(2,b_x (T.qb.enc p.2.2.2.2.2.2.2.2))],3⟩ = some (qcg p.1 p.2.1 p.2.2.1 p.2.2.2.2.2.2.1 p.2.2.2.2.2.2.2.1 p.2.2.2.2.2.2.2.2 r) := by
 refine q6b.partial_correctness _ ?_
 rintro q6b ih90 ⟨t10,t11,t12,t17,t18,t19,so,b1_,s⟩ r; dsimp only
 apply it <;> intro h1
 ·refine bg T.qc.enc fun x3 h2 f1 f2 f3 => ?_
  refine bs fun v5 h4 => ?_
  have f4 := zjo h4
  try simp only [en.down] at f4
  apply it <;> intro h6
  ·rintro ⟨⟩
   clear ih90; exact fL zl
  intro h; have f5 := ih90 _ _ h; clear h
  try simp only [en.down] at f5
  clear ih90; exact fL zl
 rintro ⟨⟩
 clear ih90; exact fL zl
def qdn (so : T.State) (b1_ : T.State) : ((Bool) ⊕ (Unit)) → Ex × St
 | .inl y => (Ex.ret,⟨[(4,v_b y)],[(0,b_x (T.State.enc so)),(1,b_x (T.State.enc b1_))],2⟩)
 | .inr y => (Ex.normal,⟨[(4,AV.undef)],[(0,b_x (T.State.enc so)),(1,b_x (T.State.enc b1_))],2⟩)
attribute [local go_sem] qdn
theorem zqc : ∀ p r,q4a p = some r → O.loop 11 0 ⟨[(1,AV.clo 14 [] [AV.ptr 0 0]),(10,v_l 2 T.qb.enc p.1),(11,v_i p.2.1),(12,v_i p.2.2.1)],[(0,b_x (T.State.enc p.2.2.2.1)),(1,b_x (T.State.enc p.2.2.2.2))],2⟩ = some (qdn p.2.2.2.1 p.2.2.2.2 r) := by
 refine q4a.partial_correctness _ ?_
 rintro q4a ih89 ⟨t10,t11,t12,so,b1_⟩ r; dsimp only
 apply it <;> intro h1
 ·refine bg T.qb.enc fun x3 h2 f1 f2 f3 => ?_
  refine bs fun v5 h4 => ?_
  have f4 := qqx _ _ h4
  try simp only [en.down] at f4
  rcases v5 with y6 | y7
  ·dsimp only
   rintro ⟨⟩
   clear ih89; exact fL zl
  dsimp only
  intro h; have f5 := ih89 _ _ h; clear h
  try simp only [en.down] at f5
  clear ih89; exact fL zl
 rintro ⟨⟩
 clear ih89; exact fL zl
theorem zwl {st b r} (h : q6k st b = some r) : O.call 11 [v_g (T.State.enc st),AV.clo 14 [] [AV.ptr 0 0]] [(0,b_x (T.State.enc b))] = some (v_b r,[(0,b_x (T.State.enc b))]) := by
 revert h; unfold q6k
 refine bs fun v2 h1 => ?_
 have f1 := zqc _ _ h1
 try simp only [en.down] at f1
 rcases v2 with y3 | y4
 ·dsimp only
  rintro ⟨⟩
  exact fF zl
 dsimp only
 rintro ⟨⟩
 exact fF zl
def qcf : ((Int) ⊕ (Unit)) → Ex × St
 | .inl y => (Ex.ret,⟨[(4,v_i y)],[],0⟩)
 | .inr y => (Ex.normal,⟨[(4,AV.undef)],[],0⟩)
attribute [local go_sem] qcf
theorem zlo : ∀ p r,q4r p = some r → O.loop 36 0 ⟨[(0,v_l 2 T.qb.enc p.1),(1,AV.pv (PV.fn 17)),(7,v_i p.2.1),(8,v_i p.2.2)],[],0⟩ = some (qcf r) := by
 refine q4r.partial_correctness _ ?_
 rintro q4r ih94 ⟨s,t7,t8⟩ r; dsimp only
 apply it <;> intro h1
 ·refine bg T.qb.enc fun x3 h2 f1 f2 f3 => ?_
  refine bs fun v5 h4 => ?_
  have f4 := qcz h4
  try simp only [en.down] at f4
  apply it <;> intro h6
  ·try simp only [h6] at f4
   rintro ⟨⟩
   clear ih94; exact fL q00
  try simp only [h6] at f4
  intro h; have f5 := ih94 _ _ h; clear h
  try simp only [en.down] at f5
  try simp only [h6] at f5
  clear ih94; exact fL q00
 rintro ⟨⟩
 clear ih94; exact fL q00
theorem qni {s r} (h : q7e s = some r) : O.call 36 [v_l 2 T.qb.enc s,AV.pv (PV.fn 17)] [] = some (v_i r,[]) := by
 revert h; unfold q7e
 refine bs fun v2 h1 => ?_
 have f1 := zlo _ _ h1
 try simp only [en.down] at f1
 rcases v2 with y3 | y4
 ·dsimp only
  rintro ⟨⟩
  exact fF q00
 dsimp only
 rintro ⟨⟩
 exact fF q00
theorem qwl {s r} (h : q64 s = some r) : O.call 16 [v_l 2 T.qb.enc s,AV.pv (PV.fn 17)] [] = some (v_b r,[]) := by
 revert h; unfold q64
 refine bs fun v2 h1 => ?_
 have f1 := qni h1
 try simp only [en.down] at f1
 rintro ⟨⟩
 exact fF qcl
theorem q6v {st r} (h : q1e st = some r) : O.call 5 [v_g (T.State.enc st)] [] = some (v_i r,[]) := by
 revert h; unfold q1e
 refine bs fun v2 h1 => ?_
 have f1 := zmy h1
 try simp only [en.down] at f1
 apply it <;> intro h3
 ·rintro ⟨⟩
  exact fF fn5
 refine bs fun v5 h4 => ?_
 have f2 := zku h4
 try simp only [en.down] at f2
 apply it <;> intro h6
 ·rintro ⟨⟩
  exact fF fn5
 refine bs fun v8 h7 => ?_
 have f3 := zwl h7
 try simp only [en.down] at f3
 apply it <;> intro h9
 ·rintro ⟨⟩
  exact fF fn5
 refine bs fun v11 h10 => ?_
 have f4 := qwl h10
 try simp only [en.down] at f4
 apply it <;> intro h12
 ·rintro ⟨⟩
  exact fF fn5
 rintro ⟨⟩
 exact fF fn5
theorem zt4 {s t at_ to r} (h : q6s s t at_ to = some r) : O.call 3 [v_s s,v_s t,v_i at_,AV.pv (PV.int IntKind.u8 (to.toNat : Int))] [] = some (v_b r,[]) := by
 revert h; unfold q6s
 refine q9f ?_ (fun h1 h4 h7 => ?_)
 ·rintro (⟨h1,h4,h7⟩ | ⟨h1,h4,h7⟩ | ⟨h1,h4,h7⟩)
  all_goals
  refine bs fun v3 h2 => ?_
  have f1 := q5c h2
  try simp only [en.down] at f1
  rintro ⟨⟩
  exact fF fn3
 refine gd fun h10 => ?_
 have f2 := eq_true h10
 try simp only [en.down] at f2
 refine gd fun h11 => ?_
 have f3 := eq_true h11
 try simp only [en.down] at f3
 refine bs fun v13 h12 => ?_
 have f4 := q2s h12
 try simp only [en.down,Nat.reduceAdd] at f4
 refine bs fun v15 h14 => ?_
 have f5 := zab h14
 try simp only [en.down] at f5
 refine bw vg fun x17 h16 f6 f7 f8 => ?_
 apply it <;> intro h18
 ·have f9 := map_set vg ((s ++ t) ++ s) v15.toNat to
  try simp only [en.down] at f9
  have f10 := q84 1 vg (((s ++ t) ++ s).set v15.toNat to)
  try simp only [en.down] at f10
  have f11 := bytesOf_map (((s ++ t) ++ s).set v15.toNat to)
  refine bs fun v20 h19 => ?_
  have f12 := q2s h19
  try simp only [en.down,Nat.reduceAdd] at f12
  have f13 : zy (.pv (.int IntKind.i64 (0 : Int))) = some 0 := rfl
  refine bs fun v22 h21 => ?_
  have f14 := q2s h21
  try simp only [en.down,Nat.reduceAdd] at f14
  refine q9f ?_ (fun h23 h24 h25 => ?_)
  ·rintro (⟨h23,h24,h25⟩ | ⟨h23,h24,h25⟩ | ⟨h23,h24,h25⟩)
   all_goals
   rintro ⟨⟩
   exact fF fn3
  refine bs fun v27 h26 => ?_
  have f15 := q6v h26
  try simp only [en.down] at f15
  apply it <;> intro h28
  ·refine bs fun v30 h29 => ?_
   have f16 := q5c h29
   try simp only [en.down] at f16
   rintro ⟨⟩
   exact fF fn3
  rintro ⟨⟩
  exact fF fn3
 apply it <;> intro h31
 ·have f17 := map_set vg ((s ++ t) ++ s) v15.toNat to
  try simp only [en.down] at f17
  have f18 := q84 1 vg (((s ++ t) ++ s).set v15.toNat to)
  try simp only [en.down] at f18
  have f19 := bytesOf_map (((s ++ t) ++ s).set v15.toNat to)
  refine bs fun v33 h32 => ?_
  have f20 := q2s h32
  try simp only [en.down,Nat.reduceAdd] at f20
  have f21 : zy (.pv (.int IntKind.i64 (0 : Int))) = some 0 := rfl
  refine bs fun v35 h34 => ?_
  have f22 := q2s h34
  try simp only [en.down,Nat.reduceAdd] at f22
  apply it <;> intro h36
  ·rintro ⟨⟩
   exact fF fn3
  apply it <;> intro h37
  ·refine q09 ?_ (fun h38 h39 => ?_)
   ·rintro (⟨h38,h39⟩ | ⟨h38,h39⟩)
    all_goals
    rintro ⟨⟩
    exact fF fn3
   refine bs fun v41 h40 => ?_
   have f23 := q6v h40
   try simp only [en.down] at f23
   apply it <;> intro h42
   ·refine bs fun v44 h43 => ?_
    have f24 := q5c h43
    try simp only [en.down] at f24
    rintro ⟨⟩
    exact fF fn3
   rintro ⟨⟩
   exact fF fn3
  refine q09 ?_ (fun h45 h46 => ?_)
  ·rintro (⟨h45,h46⟩ | ⟨h45,h46⟩)
   all_goals
   rintro ⟨⟩
   exact fF fn3
  refine bs fun v48 h47 => ?_
  have f25 := q6v h47
  try simp only [en.down] at f25
  apply it <;> intro h49
  ·refine bs fun v51 h50 => ?_
   have f26 := q5c h50
   try simp only [en.down] at f26
   rintro ⟨⟩
   exact fF fn3
  rintro ⟨⟩
  exact fF fn3
 have f27 := map_set vg ((s ++ t) ++ s) v15.toNat to
 try simp only [en.down] at f27
 have f28 := q84 1 vg (((s ++ t) ++ s).set v15.toNat to)
 try simp only [en.down] at f28
 have f29 := bytesOf_map (((s ++ t) ++ s).set v15.toNat to)
 refine bs fun v53 h52 => ?_
 have f30 := q2s h52
 try simp only [en.down,Nat.reduceAdd] at f30
 have f31 : zy (.pv (.int IntKind.i64 (0 : Int))) = some 0 := rfl
 refine bs fun v55 h54 => ?_
 have f32 := q2s h54
 try simp only [en.down,Nat.reduceAdd] at f32
 refine q9f ?_ (fun h56 h57 h58 => ?_)
 ·rintro (⟨h56,h57,h58⟩ | ⟨h56,h57,h58⟩ | ⟨h56,h57,h58⟩)
  all_goals
  rintro ⟨⟩
  exact fF fn3
 refine bs fun v60 h59 => ?_
 have f33 := q6v h59
 try simp only [en.down] at f33
 apply it <;> intro h61
 ·refine bs fun v63 h62 => ?_
  have f34 := q5c h62
  try simp only [en.down] at f34
  rintro ⟨⟩
  exact fF fn3
 rintro ⟨⟩
 exact fF fn3
end Go.Proofs.YtcelddmcoklooaaGreatDoor
