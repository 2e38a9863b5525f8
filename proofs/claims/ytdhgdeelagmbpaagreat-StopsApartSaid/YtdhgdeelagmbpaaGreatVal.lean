/-
  What the machine's calls come to: the plain functions.
-/
import Derived.Test.YtdhgdeelagmbpaaGreatVaj
import Derived.Test.YtdhgdeelagmbpaaGreatVak
set_option linter.unusedSimpArgs false
set_option linter.unusedVariables false
set_option maxRecDepth 100000
namespace Go.Proofs.YtdhgdeelagmbpaaGreat
open Go Go.Gm
set_option maxHeartbeats 4000000
def qmw : ((Bool) ⊕ (Unit)) → Ex × St
 | .inl y => (Ex.ret,⟨[(2,v_b y)],[],0⟩)
 | .inr y => (Ex.normal,⟨[(2,AV.undef)],[],0⟩)
attribute [local go_sem] qmw
theorem z4o : ∀ p r,uf p = some r → O.loop 120 0 ⟨[(0,v_l 5 T.Fmt.enc p.1),(3,v_i p.2)],[],0⟩ = some (qmw r) := by
 refine uf.partial_correctness _ ?_
 rintro uf ih92 ⟨fs,i⟩ r; dsimp only
 apply it <;> intro h1
 ·refine bg T.Fmt.enc fun x3 h2 f1 f2 f3 => ?_
  apply it <;> intro h4
  ·apply it <;> intro h5
   ·refine qef (fun h6 h7 h8 h9 => ?_) ?_
    ·apply it <;> intro h10
     ·intro h; have f4 := ih92 _ _ h; clear h
      try simp only [en.down] at f4
      clear ih92; exact fL xq
     refine bg T.Fmt.enc fun x12 h11 f5 f6 f7 => ?_
     apply it <;> intro h13
     ·rintro ⟨⟩
      clear ih92; exact fL xq
     intro h; have f8 := ih92 _ _ h; clear h
     try simp only [en.down] at f8
     clear ih92; exact fL xq
    rintro (⟨h6,h7,h8,h9⟩ | ⟨h6,h7,h8,h9⟩ | ⟨h6,h7,h8,h9⟩ | ⟨h6,h7,h8,h9⟩)
    all_goals
    rintro ⟨⟩
    clear ih92; exact fL xq
   apply it <;> intro h14
   ·refine qki (fun h15 h16 h17 => ?_) ?_
    ·apply it <;> intro h18
     ·rintro ⟨⟩
      clear ih92; exact fL xq
     intro h; have f9 := ih92 _ _ h; clear h
     try simp only [en.down] at f9
     clear ih92; exact fL xq
    rintro (⟨h15,h16,h17⟩ | ⟨h15,h16,h17⟩ | ⟨h15,h16,h17⟩)
    all_goals
    rintro ⟨⟩
    clear ih92; exact fL xq
   apply it <;> intro h19
   ·apply it <;> intro h20
    ·refine bs fun v22 h21 => ?_
     have f10 := qma h21
     try simp only [en.down] at f10
     refine zn (fun h23 h24 => ?_) ?_
     ·apply it <;> intro h25
      ·rintro ⟨⟩
       clear ih92; exact fL xq
      intro h; have f11 := ih92 _ _ h; clear h
      try simp only [en.down] at f11
      clear ih92; exact fL xq
     rintro (⟨h23,h24⟩ | ⟨h23,h24⟩)
     all_goals
     rintro ⟨⟩
     clear ih92; exact fL xq
    rintro ⟨⟩
    clear ih92; exact fL xq
   apply it <;> intro h26
   ·refine zn (fun h27 h28 => ?_) ?_
    ·apply it <;> intro h29
     ·rintro ⟨⟩
      clear ih92; exact fL xq
     intro h; have f12 := ih92 _ _ h; clear h
     try simp only [en.down] at f12
     clear ih92; exact fL xq
    rintro (⟨h27,h28⟩ | ⟨h27,h28⟩)
    all_goals
    rintro ⟨⟩
    clear ih92; exact fL xq
   apply it <;> intro h30
   ·refine zn (fun h31 h32 => ?_) ?_
    ·apply it <;> intro h33
     ·rintro ⟨⟩
      clear ih92; exact fL xq
     intro h; have f13 := ih92 _ _ h; clear h
     try simp only [en.down] at f13
     clear ih92; exact fL xq
    rintro (⟨h31,h32⟩ | ⟨h31,h32⟩)
    all_goals
    rintro ⟨⟩
    clear ih92; exact fL xq
   refine zn (fun h34 h35 => ?_) ?_
   ·apply it <;> intro h36
    ·rintro ⟨⟩
     clear ih92; exact fL xq
    intro h; have f14 := ih92 _ _ h; clear h
    try simp only [en.down] at f14
    clear ih92; exact fL xq
   rintro (⟨h34,h35⟩ | ⟨h34,h35⟩)
   all_goals
   rintro ⟨⟩
   clear ih92; exact fL xq
  apply it <;> intro h37
  ·refine qef (fun h38 h39 h40 h41 => ?_) ?_
   ·apply it <;> intro h42
    ·intro h; have f15 := ih92 _ _ h; clear h
     try simp only [en.down] at f15
     clear ih92; exact fL xq
    refine bg T.Fmt.enc fun x44 h43 f16 f17 f18 => ?_
    apply it <;> intro h45
    ·rintro ⟨⟩
     clear ih92; exact fL xq
    intro h; have f19 := ih92 _ _ h; clear h
    try simp only [en.down] at f19
    clear ih92; exact fL xq
   rintro (⟨h38,h39,h40,h41⟩ | ⟨h38,h39,h40,h41⟩ | ⟨h38,h39,h40,h41⟩ | ⟨h38,h39,h40,h41⟩)
   all_goals
   rintro ⟨⟩
   clear ih92; exact fL xq
  refine qkm ?_ (fun h46 h47 h48 h49 h50 => ?_)
  ·rintro (⟨h46,h47,h48,h49,h50⟩ | ⟨h46,h47,h48,h49,h50⟩ | ⟨h46,h47,h48,h49,h50⟩ | ⟨h46,h47,h48,h49,h50⟩ | ⟨h46,h47,h48,h49,h50⟩)
   all_goals
   rintro ⟨⟩
   clear ih92; exact fL xq
  rintro ⟨⟩
  clear ih92; exact fL xq
 rintro ⟨⟩
 clear ih92; exact fL xq
theorem qmd {fs r} (h : q8h fs = some r) : O.call 120 [v_l 5 T.Fmt.enc fs] [] = some (v_b r,[]) := by
 revert h; unfold q8h
 refine bs fun v2 h1 => ?_
 have f1 := z4o _ _ h1
 try simp only [en.down] at f1
 rcases v2 with y3 | y4
 ·dsimp only
  rintro ⟨⟩
  exact fF xq
 dsimp only
 rintro ⟨⟩
 exact fF xq
theorem qm0 {f r} (h : q92 f = some r) : O.call 101 [v_g (T.Form.enc f)] [] = some (v_b r,[]) := by
 revert h; unfold q92
 refine bs fun v2 h1 => ?_
 have f1 := qgd h1
 try simp only [en.down] at f1
 apply it <;> intro h3
 ·refine bs fun v5 h4 => ?_
  have f2 := qmd h4
  try simp only [en.down] at f2
  try simp only [h3] at f1 f2
  rintro ⟨⟩
  exact fF ql8
 try simp only [h3] at f1
 rintro ⟨⟩
 exact fF ql8
def qns : ((Bool) ⊕ (Unit)) → Ex × St
 | .inl y => (Ex.ret,⟨[(2,v_b y)],[],0⟩)
 | .inr y => (Ex.normal,⟨[(2,AV.undef)],[],0⟩)
attribute [local go_sem] qns
theorem zje : (∀ p r,q1u p = some r → O.call 57 [v_l 18 T.qb.enc p] [] = some (v_b r,[])) ∧ (∀ p r,jw p = some r → O.loop 57 0 ⟨[(0,v_l 18 T.qb.enc p.1),(3,v_i p.2)],[],0⟩ = some (qns r)) ∧ (∀ p r,mh p = some r → O.call 76 [v_g (T.qb.enc p)] [] = some (v_b r,[])) := by
 refine q1u.mutual_partial_correctness _ _ _ ?_ ?_ ?_
 ·rintro jw ih70 l r; try dsimp only
  refine bs fun v2 h1 => ?_
  have f1 := ih70 _ _ h1
  try simp only [en.down] at f1
  rcases v2 with y3 | y4
  ·dsimp only
   rintro ⟨⟩
   clear ih70; exact fF zg
  dsimp only
  rintro ⟨⟩
  clear ih70; exact fF zg
 ·rintro jw mh ih70 ih76 ⟨l,i⟩ r; dsimp only
  apply it <;> intro h1
  ·refine bg T.qb.enc fun x3 h2 f1 f2 f3 => ?_
   refine zn (fun h4 h5 => ?_) ?_
   ·refine bs fun v7 h6 => ?_
    have f4 := qhi h6
    try simp only [en.down] at f4
    apply it <;> intro h8
    ·apply it <;> intro h9
     ·apply it <;> intro h10
      ·refine qef (fun h11 h12 h13 h14 => ?_) ?_
       ·apply it <;> intro h15
        ·try simp only [h8] at f4
         intro h; have f5 := ih70 _ _ h; clear h
         try simp only [en.down] at f5
         try simp only [h8] at f5
         clear ih70 ih76; exact fL zg
        refine bg T.qb.enc fun x17 h16 f6 f7 f8 => ?_
        apply it <;> intro h18
        ·try simp only [h8] at f4
         rintro ⟨⟩
         clear ih70 ih76; exact fL zg
        try simp only [h8] at f4
        intro h; have f9 := ih70 _ _ h; clear h
        try simp only [en.down] at f9
        try simp only [h8] at f9
        clear ih70 ih76; exact fL zg
       rintro (⟨h11,h12,h13,h14⟩ | ⟨h11,h12,h13,h14⟩ | ⟨h11,h12,h13,h14⟩ | ⟨h11,h12,h13,h14⟩)
       all_goals
       try simp only [h8] at f4
       rintro ⟨⟩
       clear ih70 ih76; exact fL zg
      apply it <;> intro h19
      ·refine zn (fun h20 h21 => ?_) ?_
       ·refine bs fun v23 h22 => ?_
        have f10 := ih76 _ _ h22
        try simp only [en.down] at f10
        apply it <;> intro h24
        ·try simp only [h8] at f4 f10
         rintro ⟨⟩
         clear ih70 ih76; exact fL zg
        try simp only [h8] at f4 f10
        intro h; have f11 := ih70 _ _ h; clear h
        try simp only [en.down] at f11
        try simp only [h8] at f11
        clear ih70 ih76; exact fL zg
       rintro (⟨h20,h21⟩ | ⟨h20,h21⟩)
       all_goals
       try simp only [h8] at f4
       rintro ⟨⟩
       clear ih70 ih76; exact fL zg
      apply it <;> intro h25
      ·refine qki (fun h26 h27 h28 => ?_) ?_
       ·apply it <;> intro h29
        ·try simp only [h8] at f4
         rintro ⟨⟩
         clear ih70 ih76; exact fL zg
        try simp only [h8] at f4
        intro h; have f12 := ih70 _ _ h; clear h
        try simp only [en.down] at f12
        try simp only [h8] at f12
        clear ih70 ih76; exact fL zg
       rintro (⟨h26,h27,h28⟩ | ⟨h26,h27,h28⟩ | ⟨h26,h27,h28⟩)
       all_goals
       try simp only [h8] at f4
       rintro ⟨⟩
       clear ih70 ih76; exact fL zg
      refine zn (fun h30 h31 => ?_) ?_
      ·refine bs fun v33 h32 => ?_
       have f13 := q6y h32
       try simp only [en.down] at f13
       apply it <;> intro h34
       ·refine bs fun v36 h35 => ?_
        have f14 := ih76 _ _ h35
        try simp only [en.down] at f14
        apply it <;> intro h37
        ·try simp only [h8,h34] at f4 f13 f14
         rintro ⟨⟩
         clear ih70 ih76; exact fL zg
        try simp only [h8,h34] at f4 f13 f14
        intro h; have f15 := ih70 _ _ h; clear h
        try simp only [en.down] at f15
        try simp only [h8,h34] at f15
        clear ih70 ih76; exact fL zg
       try simp only [h8,h34] at f4 f13
       rintro ⟨⟩
       clear ih70 ih76; exact fL zg
      rintro (⟨h30,h31⟩ | ⟨h30,h31⟩)
      all_goals
      try simp only [h8] at f4
      rintro ⟨⟩
      clear ih70 ih76; exact fL zg
     apply it <;> intro h38
     ·refine qef (fun h39 h40 h41 h42 => ?_) ?_
      ·apply it <;> intro h43
       ·try simp only [h8] at f4
        intro h; have f16 := ih70 _ _ h; clear h
        try simp only [en.down] at f16
        try simp only [h8] at f16
        clear ih70 ih76; exact fL zg
       refine bg T.qb.enc fun x45 h44 f17 f18 f19 => ?_
       apply it <;> intro h46
       ·try simp only [h8] at f4
        rintro ⟨⟩
        clear ih70 ih76; exact fL zg
       try simp only [h8] at f4
       intro h; have f20 := ih70 _ _ h; clear h
       try simp only [en.down] at f20
       try simp only [h8] at f20
       clear ih70 ih76; exact fL zg
      rintro (⟨h39,h40,h41,h42⟩ | ⟨h39,h40,h41,h42⟩ | ⟨h39,h40,h41,h42⟩ | ⟨h39,h40,h41,h42⟩)
      all_goals
      try simp only [h8] at f4
      rintro ⟨⟩
      clear ih70 ih76; exact fL zg
     refine xy ?_ (fun h47 h48 => ?_)
     ·rintro (⟨h47,h48⟩ | ⟨h47,h48⟩)
      all_goals
      try simp only [h8] at f4
      rintro ⟨⟩
      clear ih70 ih76; exact fL zg
     refine zn (fun h49 h50 => ?_) ?_
     ·refine bs fun v52 h51 => ?_
      have f21 := q6y h51
      try simp only [en.down] at f21
      apply it <;> intro h53
      ·refine bs fun v55 h54 => ?_
       have f22 := ih76 _ _ h54
       try simp only [en.down] at f22
       apply it <;> intro h56
       ·try simp only [h8,h53] at f4 f21 f22
        rintro ⟨⟩
        clear ih70 ih76; exact fL zg
       try simp only [h8,h53] at f4 f21 f22
       intro h; have f23 := ih70 _ _ h; clear h
       try simp only [en.down] at f23
       try simp only [h8,h53] at f23
       clear ih70 ih76; exact fL zg
      try simp only [h8,h53] at f4 f21
      rintro ⟨⟩
      clear ih70 ih76; exact fL zg
     rintro (⟨h49,h50⟩ | ⟨h49,h50⟩)
     all_goals
     try simp only [h8] at f4
     rintro ⟨⟩
     clear ih70 ih76; exact fL zg
    apply it <;> intro h57
    ·apply it <;> intro h58
     ·try simp only [h8] at f4
      rintro ⟨⟩
      clear ih70 ih76; exact fL zg
     apply it <;> intro h59
     ·refine zn (fun h60 h61 => ?_) ?_
      ·refine bs fun v63 h62 => ?_
       have f24 := ih76 _ _ h62
       try simp only [en.down] at f24
       apply it <;> intro h64
       ·try simp only [h8] at f4 f24
        rintro ⟨⟩
        clear ih70 ih76; exact fL zg
       try simp only [h8] at f4 f24
       intro h; have f25 := ih70 _ _ h; clear h
       try simp only [en.down] at f25
       try simp only [h8] at f25
       clear ih70 ih76; exact fL zg
      rintro (⟨h60,h61⟩ | ⟨h60,h61⟩)
      all_goals
      try simp only [h8] at f4
      rintro ⟨⟩
      clear ih70 ih76; exact fL zg
     apply it <;> intro h65
     ·refine zn (fun h66 h67 => ?_) ?_
      ·try simp only [h8] at f4
       rintro ⟨⟩
       clear ih70 ih76; exact fL zg
      rintro (⟨h66,h67⟩ | ⟨h66,h67⟩)
      all_goals
      try simp only [h8] at f4
      rintro ⟨⟩
      clear ih70 ih76; exact fL zg
     refine zn (fun h68 h69 => ?_) ?_
     ·refine bs fun v71 h70 => ?_
      have f26 := q6y h70
      try simp only [en.down] at f26
      apply it <;> intro h72
      ·refine bs fun v74 h73 => ?_
       have f27 := ih76 _ _ h73
       try simp only [en.down] at f27
       apply it <;> intro h75
       ·try simp only [h8,h72] at f4 f26 f27
        rintro ⟨⟩
        clear ih70 ih76; exact fL zg
       try simp only [h8,h72] at f4 f26 f27
       intro h; have f28 := ih70 _ _ h; clear h
       try simp only [en.down] at f28
       try simp only [h8,h72] at f28
       clear ih70 ih76; exact fL zg
      try simp only [h8,h72] at f4 f26
      rintro ⟨⟩
      clear ih70 ih76; exact fL zg
     rintro (⟨h68,h69⟩ | ⟨h68,h69⟩)
     all_goals
     try simp only [h8] at f4
     rintro ⟨⟩
     clear ih70 ih76; exact fL zg
    refine qcn ?_ (fun h76 h77 h78 => ?_)
    ·rintro (⟨h76,h77,h78⟩ | ⟨h76,h77,h78⟩ | ⟨h76,h77,h78⟩)
     all_goals
     try simp only [h8] at f4
     rintro ⟨⟩
     clear ih70 ih76; exact fL zg
    refine zn (fun h79 h80 => ?_) ?_
    ·refine bs fun v82 h81 => ?_
     have f29 := q6y h81
     try simp only [en.down] at f29
     apply it <;> intro h83
     ·refine bs fun v85 h84 => ?_
      have f30 := ih76 _ _ h84
      try simp only [en.down] at f30
      apply it <;> intro h86
      ·try simp only [h8,h83] at f4 f29 f30
       rintro ⟨⟩
       clear ih70 ih76; exact fL zg
      try simp only [h8,h83] at f4 f29 f30
      intro h; have f31 := ih70 _ _ h; clear h
      try simp only [en.down] at f31
      try simp only [h8,h83] at f31
      clear ih70 ih76; exact fL zg
     try simp only [h8,h83] at f4 f29
     rintro ⟨⟩
     clear ih70 ih76; exact fL zg
    rintro (⟨h79,h80⟩ | ⟨h79,h80⟩)
    all_goals
    try simp only [h8] at f4
    rintro ⟨⟩
    clear ih70 ih76; exact fL zg
   rintro (⟨h4,h5⟩ | ⟨h4,h5⟩)
   all_goals
   apply it <;> intro h117
   ·apply it <;> intro h118
    ·rintro ⟨⟩
     clear ih70 ih76; exact fL zg
    apply it <;> intro h119
    ·refine zn (fun h120 h121 => ?_) ?_
     ·refine bs fun v123 h122 => ?_
      have f32 := ih76 _ _ h122
      try simp only [en.down] at f32
      apply it <;> intro h124
      ·rintro ⟨⟩
       clear ih70 ih76; exact fL zg
      intro h; have f33 := ih70 _ _ h; clear h
      try simp only [en.down] at f33
      clear ih70 ih76; exact fL zg
     rintro (⟨h120,h121⟩ | ⟨h120,h121⟩)
     all_goals
      rintro ⟨⟩
      clear ih70 ih76; exact fL zg
    apply it <;> intro h125
    ·refine zn (fun h126 h127 => ?_) ?_
     ·rintro ⟨⟩
      clear ih70 ih76; exact fL zg
     rintro (⟨h126,h127⟩ | ⟨h126,h127⟩)
     all_goals
      rintro ⟨⟩
      clear ih70 ih76; exact fL zg
    refine zn (fun h128 h129 => ?_) ?_
    ·refine bs fun v131 h130 => ?_
     have f34 := q6y h130
     try simp only [en.down] at f34
     apply it <;> intro h132
     ·refine bs fun v134 h133 => ?_
      have f35 := ih76 _ _ h133
      try simp only [en.down] at f35
      apply it <;> intro h135
      ·try simp only [h132] at f34 f35
       rintro ⟨⟩
       clear ih70 ih76; exact fL zg
      try simp only [h132] at f34 f35
      intro h; have f36 := ih70 _ _ h; clear h
      try simp only [en.down] at f36
      try simp only [h132] at f36
      clear ih70 ih76; exact fL zg
     try simp only [h132] at f34
     rintro ⟨⟩
     clear ih70 ih76; exact fL zg
    rintro (⟨h128,h129⟩ | ⟨h128,h129⟩)
    all_goals
     rintro ⟨⟩
     clear ih70 ih76; exact fL zg
   refine qcn ?_ (fun h136 h137 h138 => ?_)
   ·rintro (⟨h136,h137,h138⟩ | ⟨h136,h137,h138⟩ | ⟨h136,h137,h138⟩)
    all_goals
     rintro ⟨⟩
     clear ih70 ih76; exact fL zg
   refine zn (fun h139 h140 => ?_) ?_
   ·refine bs fun v142 h141 => ?_
    have f37 := q6y h141
    try simp only [en.down] at f37
    apply it <;> intro h143
    ·refine bs fun v145 h144 => ?_
     have f38 := ih76 _ _ h144
     try simp only [en.down] at f38
     apply it <;> intro h146
     ·try simp only [h143] at f37 f38
      rintro ⟨⟩
      clear ih70 ih76; exact fL zg
     try simp only [h143] at f37 f38
     intro h; have f39 := ih70 _ _ h; clear h
     try simp only [en.down] at f39
     try simp only [h143] at f39
     clear ih70 ih76; exact fL zg
    try simp only [h143] at f37
    rintro ⟨⟩
    clear ih70 ih76; exact fL zg
   rintro (⟨h139,h140⟩ | ⟨h139,h140⟩)
   all_goals
    rintro ⟨⟩
    clear ih70 ih76; exact fL zg
  rintro ⟨⟩
  clear ih70 ih76; exact fL zg
 ·rintro q1u ih69 x r; try dsimp only
  apply it <;> intro h1
  ·rintro ⟨⟩
   clear ih69; exact fF q4o
  apply it <;> intro h2
  ·apply it <;> intro h3
   ·rintro ⟨⟩
    clear ih69; exact fF q4o
   refine bs fun v5 h4 => ?_
   have f1 := qhi h4
   try simp only [en.down] at f1
   apply it <;> intro h6
   ·refine bs fun v8 h7 => ?_
    have f2 := ih69 _ _ h7
    try simp only [en.down] at f2
    try simp only [h2,h3,h6] at f1 f2
    rintro ⟨⟩
    clear ih69; exact fF q4o
   try simp only [h2,h3,h6] at f1
   rintro ⟨⟩
   clear ih69; exact fF q4o
  apply it <;> intro h9
  ·rintro ⟨⟩
   clear ih69; exact fF q4o
  apply it <;> intro h10
  ·refine bs fun v12 h11 => ?_
   have f3 := qm0 h11
   try simp only [en.down] at f3
   try simp only [h2,h10] at f3
   rintro ⟨⟩
   clear ih69; exact fF q4o
  refine bs fun v14 h13 => ?_
  have f4 := qhi h13
  try simp only [en.down] at f4
  apply it <;> intro h15
  ·refine bs fun v17 h16 => ?_
   have f5 := ih69 _ _ h16
   try simp only [en.down] at f5
   try simp only [h2,h10,h15] at f4 f5
   rintro ⟨⟩
   clear ih69; exact fF q4o
  try simp only [h2,h10,h15] at f4
  rintro ⟨⟩
  clear ih69; exact fF q4o
theorem zo3 {l r} (h : qbn l = some r) : O.call 40 [v_l 18 T.qb.enc l] [] = some (v_b r,[]) := by
 revert h; unfold qbn
 refine bs fun v2 h1 => ?_
 have f1 := qp8.1 _ _ h1
 try simp only [en.down] at f1
 apply it <;> intro h3
 ·refine bs fun v5 h4 => ?_
  have f2 := zje.1 _ _ h4
  try simp only [en.down] at f2
  rintro ⟨⟩
  exact fF qp5
 rintro ⟨⟩
 exact fF qp5
theorem zqm : ∀ p r,uw p = some r → O.loop 59 0 ⟨[(0,v_s p.1),(1,v_s p.2.1),(2,v_s p.2.2.1),(7,v_r 0 p.2.2.2.2.2),(8,v_b p.2.2.2.1),(9,v_i p.2.2.2.2.1)],[(0,b_r 1 qj p.2.2.2.2.2)],1⟩ = some (Ex.normal,⟨[(7,v_r 0 r)],[(0,b_r 1 qj r)],1⟩) := by
 refine uw.partial_correctness _ ?_
 rintro uw ih96 ⟨s,lead,unit,behind,i,b⟩ r; dsimp only
 apply it <;> intro h1
 ·apply it <;> intro h2
  ·refine bc fun b4 h3 f1 f2 => ?_
   apply it <;> intro h5
   ·apply it <;> intro h6
    ·apply it <;> intro h7
     ·have f3 := rA qj h7
      intro h; have f4 := ih96 _ _ h; clear h
      try simp only [en.down] at f4
      try simp only [h2] at f4
      clear ih96; exact fL q2r
     refine gd fun h8 => ?_
     have f5 := rB qj h7
     have f6 : (b ++ unit).isEmpty = false := by cases b <;> cases unit <;> simp_all
     have f7 : szc 1 (b ++ unit) = 1 := q8q h7 _
     have f8 : List.map qj b ++ List.map qj unit = List.map qj (b ++ unit) := q65 _ _ _
     intro h; have f9 := ih96 _ _ h; clear h
     try simp only [en.down,f6,f7] at f9
     try simp only [h2,f6,f7] at f9
     clear ih96; exact fL q2r
    refine gd fun h9 => ?_
    have f10 := rG 1 qj b
    apply it <;> intro h10
    ·have f11 : List.map qj b ++ [[PV.int IntKind.u8 (b4.toNat : Int)]] = List.map qj (b ++ [b4]) := by simp only [List.map_append,List.map_cons,List.map_nil,za,z8,zb,qj] <;> rfl
     refine gd fun h11 => ?_
     have f12 : ((b ++ [b4]) ++ lead).isEmpty = false := by first | simp | simp_all
     have f13 : szc 1 ((b ++ [b4]) ++ lead) = 1 := q8q (by first | simp | simp_all : ((b ++ [b4]).isEmpty && lead.isEmpty) = false) _
     have f14 : List.map qj (b ++ [b4]) ++ List.map qj lead = List.map qj ((b ++ [b4]) ++ lead) := q65 _ _ _
     intro h; have f15 := ih96 _ _ h; clear h
     try simp only [en.down,f12,f13] at f15
     try simp only [h2,f12,f13] at f15
     clear ih96; exact fL q2r
    have f16 : List.map qj b ++ [[PV.int IntKind.u8 (b4.toNat : Int)]] = List.map qj (b ++ [b4]) := by simp only [List.map_append,List.map_cons,List.map_nil,za,z8,zb,qj] <;> rfl
    intro h; have f17 := ih96 _ _ h; clear h
    try simp only [en.down] at f17
    try simp only [h2] at f17
    clear ih96; exact fL q2r
   refine gd fun h12 => ?_
   have f18 := rG 1 qj b
   apply it <;> intro h13
   ·have f19 : List.map qj b ++ [[PV.int IntKind.u8 (b4.toNat : Int)]] = List.map qj (b ++ [b4]) := by simp only [List.map_append,List.map_cons,List.map_nil,za,z8,zb,qj] <;> rfl
    refine gd fun h14 => ?_
    have f20 : ((b ++ [b4]) ++ lead).isEmpty = false := by first | simp | simp_all
    have f21 : szc 1 ((b ++ [b4]) ++ lead) = 1 := q8q (by first | simp | simp_all : ((b ++ [b4]).isEmpty && lead.isEmpty) = false) _
    have f22 : List.map qj (b ++ [b4]) ++ List.map qj lead = List.map qj ((b ++ [b4]) ++ lead) := q65 _ _ _
    intro h; have f23 := ih96 _ _ h; clear h
    try simp only [en.down,f20,f21] at f23
    try simp only [h2,h13,f20,f21] at f23
    clear ih96; exact fL q2r
   have f24 : List.map qj b ++ [[PV.int IntKind.u8 (b4.toNat : Int)]] = List.map qj (b ++ [b4]) := by simp only [List.map_append,List.map_cons,List.map_nil,za,z8,zb,qj] <;> rfl
   intro h; have f25 := ih96 _ _ h; clear h
   try simp only [en.down] at f25
   try simp only [h2,h13] at f25
   clear ih96; exact fL q2r
  refine bc fun b16 h15 f26 f27 => ?_
  refine gd fun h17 => ?_
  have f28 := rG 1 qj b
  apply it <;> intro h18
  ·have f29 : List.map qj b ++ [[PV.int IntKind.u8 (b16.toNat : Int)]] = List.map qj (b ++ [b16]) := by simp only [List.map_append,List.map_cons,List.map_nil,za,z8,zb,qj] <;> rfl
   refine gd fun h19 => ?_
   have f30 : ((b ++ [b16]) ++ lead).isEmpty = false := by first | simp | simp_all
   have f31 : szc 1 ((b ++ [b16]) ++ lead) = 1 := q8q (by first | simp | simp_all : ((b ++ [b16]).isEmpty && lead.isEmpty) = false) _
   have f32 : List.map qj (b ++ [b16]) ++ List.map qj lead = List.map qj ((b ++ [b16]) ++ lead) := q65 _ _ _
   intro h; have f33 := ih96 _ _ h; clear h
   try simp only [en.down,f30,f31] at f33
   try simp only [h2,h18,f30,f31] at f33
   clear ih96; exact fL q2r
  have f34 : List.map qj b ++ [[PV.int IntKind.u8 (b16.toNat : Int)]] = List.map qj (b ++ [b16]) := by simp only [List.map_append,List.map_cons,List.map_nil,za,z8,zb,qj] <;> rfl
  intro h; have f35 := ih96 _ _ h; clear h
  try simp only [en.down] at f35
  try simp only [h2,h18] at f35
  clear ih96; exact fL q2r
 rintro ⟨⟩
 clear ih96; exact fL q2r
theorem qdu {s lead unit r} (h : q5f s lead unit = some r) : O.call 59 [v_s s,v_s lead,v_s unit] [] = some (v_s r,[]) := by
 revert h; unfold q5f
 refine bs fun v2 h1 => ?_
 have f1 := zqm _ _ h1
 try simp only [en.down] at f1
 have f2 := jd 1 qj v2
 have f3 := bytesOf_map v2
 rintro ⟨⟩
 exact fF q2r
theorem q0m {p_ b b_2 b_3 r_ r_2 r_3 r} (h : um p_ b b_2 b_3 r_ r_2 r_3 = some r) : O.call 58 [AV.ptr 0 0,v_g (T.qc.enc p_)] [(0,Blk.box [v_l 2 T.qi.enc b,v_s b_2,v_s b_3,v_r 1 r_,v_r 2 r_2,v_r 3 r_3]),(1,b_r 20 T.qc.enc r_),(2,b_r 1 qf r_2),(3,b_r 1 qg r_3)] = some (AV.tup [],[(0,Blk.box [v_l 2 T.qi.enc b,v_s b_2,v_s b_3,v_r 1 r,v_r 2 r_2,v_r 3 r_3]),(1,b_r 20 T.qc.enc r),(2,b_r 1 qf r_2),(3,b_r 1 qg r_3)]) := by
 revert h; unfold um
 refine gd fun h1 => ?_
 have f1 := rG 20 T.qc.enc r_
 have f2 : List.map T.qc.enc r_ ++ [[PV.int IntKind.i64 p_.kind,PV.str p_.text,PV.int IntKind.i64 p_.n,PV.bool p_.def_,PV.bool p_.first,PV.bool p_.turned,PV.int IntKind.i64 p_.form.rx.kind,PV.str p_.form.rx.char,PV.bool p_.form.rx.not,PV.sl p_.form.rx.rows.nil (szc 2 p_.form.rx.rows.l) (List.map T.Row.enc p_.form.rx.rows.l),PV.int IntKind.i64 p_.form.rx.min,PV.int IntKind.i64 p_.form.rx.max,PV.bool p_.form.rx.lazy,PV.sl p_.form.rx.kids.nil (szc 8 p_.form.rx.kids.l) (List.map T.Rx.enc p_.form.rx.kids.l),PV.sl p_.form.fmts.nil (szc 5 p_.form.fmts.l) (List.map T.Fmt.enc p_.form.fmts.l),PV.bool p_.form.fold,PV.bool p_.form.all,PV.sl p_.opts.nil (szc 1 p_.opts.l) (List.map qg p_.opts.l),PV.int IntKind.i64 p_.up,PV.int IntKind.i64 (IntKind.i64.wrap ((r_.length : Int) + (1 : Int)))]] = List.map T.qc.enc (r_ ++ [(T.qc.mk p_.kind p_.text p_.n p_.def_ p_.first p_.turned p_.form p_.opts p_.up (IntKind.i64.wrap ((r_.length : Int) + (1 : Int))))]) := by simp only [List.map_append,List.map_cons,List.map_nil,za,z8,zb,T.qc.qx] <;> rfl
 rintro ⟨⟩
 exact fF zqu
def qj9 : ((Bytes × Bool) ⊕ (Unit)) → Ex × St
 | .inl y => (Ex.ret,⟨[(4,v_s y.1),(5,v_b y.2)],[],0⟩)
 | .inr y => (Ex.normal,⟨[(4,AV.undef),(5,AV.undef)],[],0⟩)
attribute [local go_sem] qj9
theorem zm3 : ∀ p r,q4u p = some r → O.loop 60 0 ⟨[(0,v_s p.1),(1,v_l 2 T.qi.enc p.2.1),(6,v_i p.2.2)],[],0⟩ = some (qj9 r) := by
 refine q4u.partial_correctness _ ?_
 rintro q4u ih99 ⟨name,env,i⟩ r; dsimp only
 apply it <;> intro h1
 ·refine bg T.qi.enc fun x3 h2 f1 f2 f3 => ?_
  apply it <;> intro h4
  ·rintro ⟨⟩
   clear ih99; exact fL qad
  intro h; have f4 := ih99 _ _ h; clear h
  try simp only [en.down] at f4
  clear ih99; exact fL qad
 rintro ⟨⟩
 clear ih99; exact fL qad
theorem qlj {name env r} (h : q80 name env = some r) : O.call 60 [v_s name,v_l 2 T.qi.enc env] [] = some (AV.tup [v_s r.1,v_b r.2],[]) := by
 revert h; unfold q80
 refine bs fun v2 h1 => ?_
 have f1 := zm3 _ _ h1
 try simp only [en.down] at f1
 rcases v2 with y3 | y4
 ·dsimp only
  rintro ⟨⟩
  exact fF qad
 dsimp only
 rintro ⟨⟩
 exact fF qad
theorem z2x {r} (h : qee = some r) : O.call 78 [] [] = some (v_l 1 qg r,[]) := by
 revert h; unfold qee
 rintro ⟨⟩
 exact fF z5j
def qid : ((Bool) ⊕ (Unit)) → Ex × St
 | .inl y => (Ex.ret,⟨[(2,v_b y)],[],0⟩)
 | .inr y => (Ex.normal,⟨[(2,AV.undef)],[],0⟩)
attribute [local go_sem] qid
theorem zdq : ∀ p r,q5l p = some r → O.loop 61 0 ⟨[(0,v_s p.1),(3,v_l 1 qg p.2.1),(4,v_i p.2.2)],[],0⟩ = some (qid r) := by
 refine q5l.partial_correctness _ ?_
 rintro q5l ih104 ⟨name,l,i⟩ r; dsimp only
 apply it <;> intro h1
 ·refine bg qg fun x3 h2 f1 f2 f3 => ?_
  apply it <;> intro h4
  ·rintro ⟨⟩
   clear ih104; exact fL qak
  intro h; have f4 := ih104 _ _ h; clear h
  try simp only [en.down] at f4
  clear ih104; exact fL qak
 rintro ⟨⟩
 clear ih104; exact fL qak
theorem qnh {name r} (h : q9e name = some r) : O.call 61 [v_s name] [] = some (v_b r,[]) := by
 revert h; unfold q9e
 refine bs fun v2 h1 => ?_
 have f1 := z2x h1
 try simp only [en.down] at f1
 refine bs fun v4 h3 => ?_
 have f2 := zdq _ _ h3
 try simp only [en.down] at f2
 rcases v4 with y5 | y6
 ·dsimp only
  rintro ⟨⟩
  exact fF qak
 dsimp only
 rintro ⟨⟩
 exact fF qak
def qmk (name : Bytes) (w : (Sl T.qi)) (w2 : Bytes) (w3 : Bytes) (r1_ : (List T.qc)) (r2_ : (List Int)) (r3_ : (List Bytes)) : ((Int) ⊕ (Unit)) → Ex × St
 | .inl y => (Ex.ret,⟨[(0,AV.ptr 0 0),(1,v_s name),(4,v_i y)],[(0,Blk.box [v_l 2 T.qi.enc w,v_s w2,v_s w3,v_r 1 r1_,v_r 2 r2_,v_r 3 r3_]),(1,b_r 20 T.qc.enc r1_),(2,b_r 1 qf r2_),(3,b_r 1 qg r3_)],4⟩)
 | .inr y => (Ex.normal,⟨[(0,AV.ptr 0 0),(1,v_s name),(4,AV.undef)],[(0,Blk.box [v_l 2 T.qi.enc w,v_s w2,v_s w3,v_r 1 r1_,v_r 2 r2_,v_r 3 r3_]),(1,b_r 20 T.qc.enc r1_),(2,b_r 1 qf r2_),(3,b_r 1 qg r3_)],4⟩)
attribute [local go_sem] qmk
theorem qx4 : ∀ p r,q58 p = some r → O.loop 63 0 ⟨[(0,AV.ptr 0 0),(1,v_s p.1),(5,v_i p.2.1)],[(0,Blk.box [v_l 2 T.qi.enc p.2.2.1,v_s p.2.2.2.1,v_s p.2.2.2.2.1,v_r 1 p.2.2.2.2.2.1,v_r 2 p.2.2.2.2.2.2.1,v_r 3 p.2.2.2.2.2.2.2]),(1,b_r 20 T.qc.enc p.2.2.2.2.2.1),(2,b_r 1 qf p.2.2.2.2.2.2.1),(3,b_r 1 qg p.2.2.2.2.2.2.2)],4⟩ = some (qmk p.1 p.2.2.1 p.2.2.2.1 p.2.2.2.2.1 p.2.2.2.2.2.1 p.2.2.2.2.2.2.1 p.2.2.2.2.2.2.2 r) := by
 refine q58.partial_correctness _ ?_
 rintro q58 ih106 ⟨name,i,w,w2,w3,r1_,r2_,r3_⟩ r; dsimp only
 apply it <;> intro h1
 ·refine bW qg 1 fun x3 h2 f1 f2 f3 f4 f5 => ?_
  apply it <;> intro h4
  ·rintro ⟨⟩
   clear ih106; exact fL qbf
  intro h; have f6 := ih106 _ _ h; clear h
  try simp only [en.down,f4,f5] at f6
  try simp only [f4,f5] at f6
  clear ih106; exact fL qbf
 rintro ⟨⟩
 clear ih106; exact fL qbf
theorem qng {name b b_2 b_3 r_ r_2 r_3 r} (h : q88 name b b_2 b_3 r_ r_2 r_3 = some r) : O.call 63 [AV.ptr 0 0,v_s name] [(0,Blk.box [v_l 2 T.qi.enc b,v_s b_2,v_s b_3,v_r 1 r_,v_r 2 r_2,v_r 3 r_3]),(1,b_r 20 T.qc.enc r_),(2,b_r 1 qf r_2),(3,b_r 1 qg r_3)] = some (v_i r.1,[(0,Blk.box [v_l 2 T.qi.enc b,v_s b_2,v_s b_3,v_r 1 r_,v_r 2 r_2,v_r 3 r.2]),(1,b_r 20 T.qc.enc r_),(2,b_r 1 qf r_2),(3,b_r 1 qg r.2)]) := by
 revert h; unfold q88
 refine bs fun v2 h1 => ?_
 have f1 := qx4 _ _ h1
 try simp only [en.down] at f1
 rcases v2 with y3 | y4
 ·dsimp only
  rintro ⟨⟩
  exact fF qbf
 dsimp only
 refine gd fun h5 => ?_
 have f2 := rG 1 qg r_3
 have f3 : List.map qg r_3 ++ [[PV.str name]] = List.map qg (r_3 ++ [name]) := by simp only [List.map_append,List.map_cons,List.map_nil,za,z8,zb,qg] <;> rfl
 rintro ⟨⟩
 exact fF qbf
def ql1 (l : (List Int)) : ((Bool) ⊕ (Unit)) → Ex × St
 | .inl y => (Ex.ret,⟨[(4,v_b y)],[(0,b_r 1 qf l)],1⟩)
 | .inr y => (Ex.normal,⟨[(4,AV.undef)],[(0,b_r 1 qf l)],1⟩)
attribute [local go_sem] ql1
theorem qra : ∀ p r,q4e p = some r → O.loop 65 0 ⟨[(0,v_r 0 p.2.2),(1,v_i p.1),(5,v_i p.2.1)],[(0,b_r 1 qf p.2.2)],1⟩ = some (ql1 p.2.2 r) := by
 refine q4e.partial_correctness _ ?_
 rintro q4e ih109 ⟨n,i,l⟩ r; dsimp only
 apply it <;> intro h1
 ·refine bW qf 1 fun x3 h2 f1 f2 f3 f4 f5 => ?_
  apply it <;> intro h4
  ·rintro ⟨⟩
   clear ih109; exact fL qb7
  intro h; have f6 := ih109 _ _ h; clear h
  try simp only [en.down,f4,f5] at f6
  try simp only [f4,f5] at f6
  clear ih109; exact fL qb7
 rintro ⟨⟩
 clear ih109; exact fL qb7
theorem q9g {n r_ r} (h : q2w n r_ = some r) : O.call 65 [v_r 0 r_,v_i n] [(0,b_r 1 qf r_)] = some (v_b r,[(0,b_r 1 qf r_)]) := by
 revert h; unfold q2w
 refine bs fun v2 h1 => ?_
 have f1 := qra _ _ h1
 try simp only [en.down] at f1
 rcases v2 with y3 | y4
 ·dsimp only
  rintro ⟨⟩
  exact fF qb7
 dsimp only
 rintro ⟨⟩
 exact fF qb7
theorem qkt : ∀ p r,q7i p = some r → O.loop 62 0 ⟨[(0,AV.ptr 0 0),(3,v_b p.1),(5,AV.ptr 5 0),(8,v_i p.2.1),(9,AV.ptr 6 0),(10,v_i p.2.2.1)],[(0,Blk.box [v_l 2 T.qi.enc p.2.2.2.1,v_s p.2.2.2.2.1,v_s p.2.2.2.2.2.1,v_r 2 p.2.2.2.2.2.2.2.1,v_r 3 p.2.2.2.2.2.2.2.2.1,v_r 4 p.2.2.2.2.2.2.2.2.2.1]),(1,Blk.row false 18 (List.map T.qb.enc p.2.2.2.2.2.2.1)),(2,b_r 20 T.qc.enc p.2.2.2.2.2.2.2.1),(3,b_r 1 qf p.2.2.2.2.2.2.2.2.1),(4,b_r 1 qg p.2.2.2.2.2.2.2.2.2.1),(5,Blk.box [v_i p.2.2.2.2.2.2.2.2.2.2.1,v_s p.2.2.2.2.2.2.2.2.2.2.2.1,v_i p.2.2.2.2.2.2.2.2.2.2.2.2.1,v_b p.2.2.2.2.2.2.2.2.2.2.2.2.2.1,v_b p.2.2.2.2.2.2.2.2.2.2.2.2.2.2.1,v_i p.2.2.2.2.2.2.2.2.2.2.2.2.2.2.2.1,v_s p.2.2.2.2.2.2.2.2.2.2.2.2.2.2.2.2.1,v_b p.2.2.2.2.2.2.2.2.2.2.2.2.2.2.2.2.2.1,v_l 2 T.Row.enc p.2.2.2.2.2.2.2.2.2.2.2.2.2.2.2.2.2.2.1,v_i p.2.2.2.2.2.2.2.2.2.2.2.2.2.2.2.2.2.2.2.1,v_i p.2.2.2.2.2.2.2.2.2.2.2.2.2.2.2.2.2.2.2.2.1,v_b p.2.2.2.2.2.2.2.2.2.2.2.2.2.2.2.2.2.2.2.2.2.1,v_l 8 T.Rx.enc p.2.2.2.2.2.2.2.2.2.2.2.2.2.2.2.2.2.2.2.2.2.2.1,v_l 5 T.Fmt.enc p.2.2.2.2.2.2.2.2.2.2.2.2.2.2.2.2.2.2.2.2.2.2.2.1,v_b p.2.2.2.2.2.2.2.2.2.2.2.2.2.2.2.2.2.2.2.2.2.2.2.2.1,v_b p.2.2.2.2.2.2.2.2.2.2.2.2.2.2.2.2.2.2.2.2.2.2.2.2.2.1,v_l 1 qg p.2.2.2.2.2.2.2.2.2.2.2.2.2.2.2.2.2.2.2.2.2.2.2.2.2.2.1,v_r 1 p.2.2.2.2.2.2.1]),(6,Blk.box [v_i p.2.2.2.2.2.2.2.2.2.2.2.2.2.2.2.2.2.2.2.2.2.2.2.2.2.2.2.1,v_s p.2.2.2.2.2.2.2.2.2.2.2.2.2.2.2.2.2.2.2.2.2.2.2.2.2.2.2.2.1,v_i p.2.2.2.2.2.2.2.2.2.2.2.2.2.2.2.2.2.2.2.2.2.2.2.2.2.2.2.2.2.1,v_b p.2.2.2.2.2.2.2.2.2.2.2.2.2.2.2.2.2.2.2.2.2.2.2.2.2.2.2.2.2.2.1,v_b p.2.2.2.2.2.2.2.2.2.2.2.2.2.2.2.2.2.2.2.2.2.2.2.2.2.2.2.2.2.2.2.1,v_b p.2.2.2.2.2.2.2.2.2.2.2.2.2.2.2.2.2.2.2.2.2.2.2.2.2.2.2.2.2.2.2.2.1,v_i p.2.2.2.2.2.2.2.2.2.2.2.2.2.2.2.2.2.2.2.2.2.2.2.2.2.2.2.2.2.2.2.2.2.1,v_s p.2.2.2.2.2.2.2.2.2.2.2.2.2.2.2.2.2.2.2.2.2.2.2.2.2.2.2.2.2.2.2.2.2.2.1,v_b p.2.2.2.2.2.2.2.2.2.2.2.2.2.2.2.2.2.2.2.2.2.2.2.2.2.2.2.2.2.2.2.2.2.2.2.1,v_l 2 T.Row.enc p.2.2.2.2.2.2.2.2.2.2.2.2.2.2.2.2.2.2.2.2.2.2.2.2.2.2.2.2.2.2.2.2.2.2.2.2.1,v_i p.2.2.2.2.2.2.2.2.2.2.2.2.2.2.2.2.2.2.2.2.2.2.2.2.2.2.2.2.2.2.2.2.2.2.2.2.2.1,v_i p.2.2.2.2.2.2.2.2.2.2.2.2.2.2.2.2.2.2.2.2.2.2.2.2.2.2.2.2.2.2.2.2.2.2.2.2.2.2.1,v_b p.2.2.2.2.2.2.2.2.2.2.2.2.2.2.2.2.2.2.2.2.2.2.2.2.2.2.2.2.2.2.2.2.2.2.2.2.2.2.2.1,v_l 8 T.Rx.enc p.2.2.2.2.2.2.2.2.2.2.2.2.2.2.2.2.2.2.2.2.2.2.2.2.2.2.2.2.2.2.2.2.2.2.2.2.2.2.2.2.1,v_l 5 T.Fmt.enc p.2.2.2.2.2.2.2.2.2.2.2.2.2.2.2.2.2.2.2.2.2.2.2.2.2.2.2.2.2.2.2.2.2.2.2.2.2.2.2.2.2.1,v_b p.2.2.2.2.2.2.2.2.2.2.2.2.2.2.2.2.2.2.2.2.2.2.2.2.2.2.2.2.2.2.2.2.2.2.2.2.2.2.2.2.2.2.1,v_b p.2.2.2.2.2.2.2.2.2.2.2.2.2.2.2.2.2.2.2.2.2.2.2.2.2.2.2.2.2.2.2.2.2.2.2.2.2.2.2.2.2.2.2.1,v_r 7 p.2.2.2.2.2.2.2.2.2.2.2.2.2.2.2.2.2.2.2.2.2.2.2.2.2.2.2.2.2.2.2.2.2.2.2.2.2.2.2.2.2.2.2.2.2.2,v_i p.2.2.2.2.2.2.2.2.2.2.2.2.2.2.2.2.2.2.2.2.2.2.2.2.2.2.2.2.2.2.2.2.2.2.2.2.2.2.2.2.2.2.2.2.1,v_i p.2.2.2.2.2.2.2.2.2.2.2.2.2.2.2.2.2.2.2.2.2.2.2.2.2.2.2.2.2.2.2.2.2.2.2.2.2.2.2.2.2.2.2.2.2.1]),(7,b_r 1 qg p.2.2.2.2.2.2.2.2.2.2.2.2.2.2.2.2.2.2.2.2.2.2.2.2.2.2.2.2.2.2.2.2.2.2.2.2.2.2.2.2.2.2.2.2.2.2)],8⟩ = some (Ex.normal,⟨[(0,AV.ptr 0 0),(3,v_b p.1),(5,AV.ptr 5 0),(8,v_i p.2.1),(9,AV.ptr 6 0)],[(0,Blk.box [v_l 2 T.qi.enc p.2.2.2.1,v_s p.2.2.2.2.1,v_s p.2.2.2.2.2.1,v_r 2 p.2.2.2.2.2.2.2.1,v_r 3 p.2.2.2.2.2.2.2.2.1,v_r 4 p.2.2.2.2.2.2.2.2.2.1]),(1,Blk.row false 18 (List.map T.qb.enc p.2.2.2.2.2.2.1)),(2,b_r 20 T.qc.enc p.2.2.2.2.2.2.2.1),(3,b_r 1 qf p.2.2.2.2.2.2.2.2.1),(4,b_r 1 qg p.2.2.2.2.2.2.2.2.2.1),(5,Blk.box [v_i p.2.2.2.2.2.2.2.2.2.2.1,v_s p.2.2.2.2.2.2.2.2.2.2.2.1,v_i p.2.2.2.2.2.2.2.2.2.2.2.2.1,v_b p.2.2.2.2.2.2.2.2.2.2.2.2.2.1,v_b p.2.2.2.2.2.2.2.2.2.2.2.2.2.2.1,v_i p.2.2.2.2.2.2.2.2.2.2.2.2.2.2.2.1,v_s p.2.2.2.2.2.2.2.2.2.2.2.2.2.2.2.2.1,v_b p.2.2.2.2.2.2.2.2.2.2.2.2.2.2.2.2.2.1,v_l 2 T.Row.enc p.2.2.2.2.2.2.2.2.2.2.2.2.2.2.2.2.2.2.1,v_i p.2.2.2.2.2.2.2.2.2.2.2.2.2.2.2.2.2.2.2.1,v_i p.2.2.2.2.2.2.2.2.2.2.2.2.2.2.2.2.2.2.2.2.1,v_b p.2.2.2.2.2.2.2.2.2.2.2.2.2.2.2.2.2.2.2.2.2.1,v_l 8 T.Rx.enc p.2.2.2.2.2.2.2.2.2.2.2.2.2.2.2.2.2.2.2.2.2.2.1,v_l 5 T.Fmt.enc p.2.2.2.2.2.2.2.2.2.2.2.2.2.2.2.2.2.2.2.2.2.2.2.1,v_b p.2.2.2.2.2.2.2.2.2.2.2.2.2.2.2.2.2.2.2.2.2.2.2.2.1,v_b p.2.2.2.2.2.2.2.2.2.2.2.2.2.2.2.2.2.2.2.2.2.2.2.2.2.1,v_l 1 qg p.2.2.2.2.2.2.2.2.2.2.2.2.2.2.2.2.2.2.2.2.2.2.2.2.2.2.1,v_r 1 p.2.2.2.2.2.2.1]),(6,Blk.box [v_i p.2.2.2.2.2.2.2.2.2.2.2.2.2.2.2.2.2.2.2.2.2.2.2.2.2.2.2.1,v_s p.2.2.2.2.2.2.2.2.2.2.2.2.2.2.2.2.2.2.2.2.2.2.2.2.2.2.2.2.1,v_i p.2.2.2.2.2.2.2.2.2.2.2.2.2.2.2.2.2.2.2.2.2.2.2.2.2.2.2.2.2.1,v_b p.2.2.2.2.2.2.2.2.2.2.2.2.2.2.2.2.2.2.2.2.2.2.2.2.2.2.2.2.2.2.1,v_b p.2.2.2.2.2.2.2.2.2.2.2.2.2.2.2.2.2.2.2.2.2.2.2.2.2.2.2.2.2.2.2.1,v_b p.2.2.2.2.2.2.2.2.2.2.2.2.2.2.2.2.2.2.2.2.2.2.2.2.2.2.2.2.2.2.2.2.1,v_i p.2.2.2.2.2.2.2.2.2.2.2.2.2.2.2.2.2.2.2.2.2.2.2.2.2.2.2.2.2.2.2.2.2.1,v_s p.2.2.2.2.2.2.2.2.2.2.2.2.2.2.2.2.2.2.2.2.2.2.2.2.2.2.2.2.2.2.2.2.2.2.1,v_b p.2.2.2.2.2.2.2.2.2.2.2.2.2.2.2.2.2.2.2.2.2.2.2.2.2.2.2.2.2.2.2.2.2.2.2.1,v_l 2 T.Row.enc p.2.2.2.2.2.2.2.2.2.2.2.2.2.2.2.2.2.2.2.2.2.2.2.2.2.2.2.2.2.2.2.2.2.2.2.2.1,v_i p.2.2.2.2.2.2.2.2.2.2.2.2.2.2.2.2.2.2.2.2.2.2.2.2.2.2.2.2.2.2.2.2.2.2.2.2.2.1,v_i p.2.2.2.2.2.2.2.2.2.2.2.2.2.2.2.2.2.2.2.2.2.2.2.2.2.2.2.2.2.2.2.2.2.2.2.2.2.2.1,v_b p.2.2.2.2.2.2.2.2.2.2.2.2.2.2.2.2.2.2.2.2.2.2.2.2.2.2.2.2.2.2.2.2.2.2.2.2.2.2.2.1,v_l 8 T.Rx.enc p.2.2.2.2.2.2.2.2.2.2.2.2.2.2.2.2.2.2.2.2.2.2.2.2.2.2.2.2.2.2.2.2.2.2.2.2.2.2.2.2.1,v_l 5 T.Fmt.enc p.2.2.2.2.2.2.2.2.2.2.2.2.2.2.2.2.2.2.2.2.2.2.2.2.2.2.2.2.2.2.2.2.2.2.2.2.2.2.2.2.2.1,v_b p.2.2.2.2.2.2.2.2.2.2.2.2.2.2.2.2.2.2.2.2.2.2.2.2.2.2.2.2.2.2.2.2.2.2.2.2.2.2.2.2.2.2.1,v_b p.2.2.2.2.2.2.2.2.2.2.2.2.2.2.2.2.2.2.2.2.2.2.2.2.2.2.2.2.2.2.2.2.2.2.2.2.2.2.2.2.2.2.2.1,v_r 7 r,v_i p.2.2.2.2.2.2.2.2.2.2.2.2.2.2.2.2.2.2.2.2.2.2.2.2.2.2.2.2.2.2.2.2.2.2.2.2.2.2.2.2.2.2.2.2.1,v_i p.2.2.2.2.2.2.2.2.2.2.2.2.2.2.2.2.2.2.2.2.2.2.2.2.2.2.2.2.2.2.2.2.2.2.2.2.2.2.2.2.2.2.2.2.2.1]),(7,b_r 1 qg r)],8⟩) := by
 refine q7i.partial_correctness _ ?_
 rintro q7i ih110 ⟨plain,at_,i,w,w2,w3,r1_,r2_,r3_,r4_,x,x_2,x_3,x_4,x_5,x_6,x_7,x_8,x_9,x_10,x_11,x_12,x_13,x_14,x_15,x_16,x_17,p_,p_2,p_3,p_4,p_5,p_6,p_7,p_8,p_9,p_10,p_11,p_12,p_13,p_14,p_15,p_16,p_17,p_18,p_19,r7_⟩ r; dsimp only
 refine zn (fun h1 h2 => ?_) ?_
 ·refine bg qg fun x4 h3 f1 f2 f3 => ?_
  refine bs fun v6 h5 => ?_
  have f4 := qdu h5
  try simp only [en.down] at f4
  refine gd fun h7 => ?_
  have f5 := rG 1 qg r7_
  have f6 : List.map qg r7_ ++ [[PV.str v6]] = List.map qg (r7_ ++ [v6]) := by simp only [List.map_append,List.map_cons,List.map_nil,za,z8,zb,qg] <;> rfl
  try simp only [h1] at f4
  intro h; have f7 := ih110 _ _ h; clear h
  try simp only [en.down] at f7
  try simp only [h1] at f7
  clear ih110; exact fL q0j
 rintro (⟨h1,h2⟩ | ⟨h1,h2⟩)
 all_goals
 rintro ⟨⟩
 clear ih110; exact fL q0j
theorem qk9 : ∀ p r,q1t p = some r → O.loop 62 0 ⟨[(0,AV.ptr 0 0),(3,v_b p.1),(5,AV.ptr 4 0),(8,v_i p.2.1),(9,AV.ptr 5 0),(10,v_i p.2.2.1)],[(0,Blk.box [v_l 2 T.qi.enc p.2.2.2.1,v_s p.2.2.2.2.1,v_s p.2.2.2.2.2.1,v_r 1 p.2.2.2.2.2.2.1,v_r 2 p.2.2.2.2.2.2.2.1,v_r 3 p.2.2.2.2.2.2.2.2.1]),(1,b_r 20 T.qc.enc p.2.2.2.2.2.2.1),(2,b_r 1 qf p.2.2.2.2.2.2.2.1),(3,b_r 1 qg p.2.2.2.2.2.2.2.2.1),(4,b_x (T.qb.enc p.2.2.2.2.2.2.2.2.2.1)),(5,Blk.box [v_i p.2.2.2.2.2.2.2.2.2.2.1,v_s p.2.2.2.2.2.2.2.2.2.2.2.1,v_i p.2.2.2.2.2.2.2.2.2.2.2.2.1,v_b p.2.2.2.2.2.2.2.2.2.2.2.2.2.1,v_b p.2.2.2.2.2.2.2.2.2.2.2.2.2.2.1,v_b p.2.2.2.2.2.2.2.2.2.2.2.2.2.2.2.1,v_i p.2.2.2.2.2.2.2.2.2.2.2.2.2.2.2.2.1,v_s p.2.2.2.2.2.2.2.2.2.2.2.2.2.2.2.2.2.1,v_b p.2.2.2.2.2.2.2.2.2.2.2.2.2.2.2.2.2.2.1,v_l 2 T.Row.enc p.2.2.2.2.2.2.2.2.2.2.2.2.2.2.2.2.2.2.2.1,v_i p.2.2.2.2.2.2.2.2.2.2.2.2.2.2.2.2.2.2.2.2.1,v_i p.2.2.2.2.2.2.2.2.2.2.2.2.2.2.2.2.2.2.2.2.2.1,v_b p.2.2.2.2.2.2.2.2.2.2.2.2.2.2.2.2.2.2.2.2.2.2.1,v_l 8 T.Rx.enc p.2.2.2.2.2.2.2.2.2.2.2.2.2.2.2.2.2.2.2.2.2.2.2.1,v_l 5 T.Fmt.enc p.2.2.2.2.2.2.2.2.2.2.2.2.2.2.2.2.2.2.2.2.2.2.2.2.1,v_b p.2.2.2.2.2.2.2.2.2.2.2.2.2.2.2.2.2.2.2.2.2.2.2.2.2.1,v_b p.2.2.2.2.2.2.2.2.2.2.2.2.2.2.2.2.2.2.2.2.2.2.2.2.2.2.1,v_r 6 p.2.2.2.2.2.2.2.2.2.2.2.2.2.2.2.2.2.2.2.2.2.2.2.2.2.2.2.2.2,v_i p.2.2.2.2.2.2.2.2.2.2.2.2.2.2.2.2.2.2.2.2.2.2.2.2.2.2.2.1,v_i p.2.2.2.2.2.2.2.2.2.2.2.2.2.2.2.2.2.2.2.2.2.2.2.2.2.2.2.2.1]),(6,b_r 1 qg p.2.2.2.2.2.2.2.2.2.2.2.2.2.2.2.2.2.2.2.2.2.2.2.2.2.2.2.2.2)],7⟩ = some (Ex.normal,⟨[(0,AV.ptr 0 0),(3,v_b p.1),(5,AV.ptr 4 0),(8,v_i p.2.1),(9,AV.ptr 5 0)],[(0,Blk.box [v_l 2 T.qi.enc p.2.2.2.1,v_s p.2.2.2.2.1,v_s p.2.2.2.2.2.1,v_r 1 p.2.2.2.2.2.2.1,v_r 2 p.2.2.2.2.2.2.2.1,v_r 3 p.2.2.2.2.2.2.2.2.1]),(1,b_r 20 T.qc.enc p.2.2.2.2.2.2.1),(2,b_r 1 qf p.2.2.2.2.2.2.2.1),(3,b_r 1 qg p.2.2.2.2.2.2.2.2.1),(4,b_x (T.qb.enc p.2.2.2.2.2.2.2.2.2.1)),(5,Blk.box [v_i p.2.2.2.2.2.2.2.2.2.2.1,v_s p.2.2.2.2.2.2.2.2.2.2.2.1,v_i p.2.2.2.2.2.2.2.2.2.2.2.2.1,v_b p.2.2.2.2.2.2.2.2.2.2.2.2.2.1,v_b p.2.2.2.2.2.2.2.2.2.2.2.2.2.2.1,v_b p.2.2.2.2.2.2.2.2.2.2.2.2.2.2.2.1,v_i p.2.2.2.2.2.2.2.2.2.2.2.2.2.2.2.2.1,v_s p.2.2.2.2.2.2.2.2.2.2.2.2.2.2.2.2.2.1,v_b p.2.2.2.2.2.2.2.2.2.2.2.2.2.2.2.2.2.2.1,v_l 2 T.Row.enc p.2.2.2.2.2.2.2.2.2.2.2.2.2.2.2.2.2.2.2.1,v_i p.2.2.2.2.2.2.2.2.2.2.2.2.2.2.2.2.2.2.2.2.1,v_i p.2.2.2.2.2.2.2.2.2.2.2.2.2.2.2.2.2.2.2.2.2.1,v_b p.2.2.2.2.2.2.2.2.2.2.2.2.2.2.2.2.2.2.2.2.2.2.1,v_l 8 T.Rx.enc p.2.2.2.2.2.2.2.2.2.2.2.2.2.2.2.2.2.2.2.2.2.2.2.1,v_l 5 T.Fmt.enc p.2.2.2.2.2.2.2.2.2.2.2.2.2.2.2.2.2.2.2.2.2.2.2.2.1,v_b p.2.2.2.2.2.2.2.2.2.2.2.2.2.2.2.2.2.2.2.2.2.2.2.2.2.1,v_b p.2.2.2.2.2.2.2.2.2.2.2.2.2.2.2.2.2.2.2.2.2.2.2.2.2.2.1,v_r 6 r,v_i p.2.2.2.2.2.2.2.2.2.2.2.2.2.2.2.2.2.2.2.2.2.2.2.2.2.2.2.1,v_i p.2.2.2.2.2.2.2.2.2.2.2.2.2.2.2.2.2.2.2.2.2.2.2.2.2.2.2.2.1]),(6,b_r 1 qg r)],7⟩) := by
 refine q1t.partial_correctness _ ?_
 rintro q1t ih112 ⟨plain,at_,i,w,w2,w3,r1_,r2_,r3_,x,p_,p_2,p_3,p_4,p_5,p_6,p_7,p_8,p_9,p_10,p_11,p_12,p_13,p_14,p_15,p_16,p_17,p_18,p_19,r6_⟩ r; dsimp only
 refine zn (fun h1 h2 => ?_) ?_
 ·refine bg qg fun x4 h3 f1 f2 f3 => ?_
  refine bs fun v6 h5 => ?_
  have f4 := qdu h5
  try simp only [en.down] at f4
  refine gd fun h7 => ?_
  have f5 := rG 1 qg r6_
  have f6 : List.map qg r6_ ++ [[PV.str v6]] = List.map qg (r6_ ++ [v6]) := by simp only [List.map_append,List.map_cons,List.map_nil,za,z8,zb,qg] <;> rfl
  try simp only [h1] at f4
  intro h; have f7 := ih112 _ _ h; clear h
  try simp only [en.down] at f7
  try simp only [h1] at f7
  clear ih112; exact fL q0j
 rintro (⟨h1,h2⟩ | ⟨h1,h2⟩)
 all_goals
 rintro ⟨⟩
 clear ih112; exact fL q0j
end Go.Proofs.YtdhgdeelagmbpaaGreat
