/-
  The tables of the program as the machine reads it.
-/
import Derived.Test.YtkbgphcebakcnaaGreatRows
import Derived.Test.YtkbgphcebakcnaaGreatFad
set_option linter.unusedSimpArgs false
set_option linter.unusedVariables false
namespace Go.Proofs.YtkbgphcebakcnaaGreat
open Go Go.Gm
def spec : FuncId → Nat → zy
 | 9,0 => ⟨[2,3,5],[4],[],[],[],0⟩
 | 11,0 => ⟨[1,2,7],[6],[],[],[],0⟩
 | 12,0 => ⟨[0,1,7,8,9],[0,1,4],[],[],[],0⟩
 | 13,0 => ⟨[0,1,14,15,16],[1,4,5],[],[],[],0⟩
 | 14,0 => ⟨[0,1,5],[4],[],[],[],0⟩
 | 15,0 => ⟨[2,3,5],[2,3,4],[],[],[],0⟩
 | 15,2 => ⟨[2,3,6],[4],[],[],[],0⟩
 | 16,0 => ⟨[3,6,42,43,44],[2],[],[],[],0⟩
 | 16,2 => ⟨[3,6,7,8,9,42,43,44,54,55,56],[2,3,8,42,43,44],[],[],[],0⟩
 | 17,0 => ⟨[3,14,15,16],[3],[],[(3,2)],[],0⟩
 | 18,0 => ⟨[0,1],[],[],[],[],0⟩
 | 19,0 => ⟨[0,14,15,16],[],[],[],[2000],0⟩
 | 20,0 => ⟨[0,3],[2],[],[],[],0⟩
 | 20,2 => ⟨[0,3,4],[0,2,3],[],[],[],0⟩
 | 20,4 => ⟨[0,3,4,44,45,46],[0,2,3,4],[],[],[],0⟩
 | 21,0 => ⟨[0,2,11,12],[],[],[],[],0⟩
 | 21,2 => ⟨[0,2,3,4,11,12,34,35,36],[0,3,4,11,12],[],[(4,1),(4,2)],[],0⟩
 | 22,0 => ⟨[0,2,3,9,10,11],[0,2,3],[3],[],[],0⟩
 | 23,0 => ⟨[2,3,5],[4],[],[],[],0⟩
 | 25,0 => ⟨[3,10,11,12],[2],[],[],[],0⟩
 | 26,0 => ⟨[3,6,7,8],[3],[3],[],[],0⟩
 | 27,0 => ⟨[0,7,8,9],[0],[],[],[],0⟩
 | 29,0 => ⟨[4,14,15,16],[4],[4],[],[],0⟩
 | 30,0 => ⟨[0,1,12,13],[4],[],[],[],0⟩
 | 31,0 => ⟨[2,5,18,19,20],[4],[],[],[18],0⟩
 | 33,0 => ⟨[0,5,10,11,12],[5],[5],[],[],0⟩
 | 33,2 => ⟨[0,5,10,11,12,17,18,19],[0,5,10,11,12],[5],[],[],0⟩
 | 36,0 => ⟨[2,9,10,11],[4],[],[],[],0⟩
 | 38,0 => ⟨[0,2,3],[],[],[],[],0⟩
 | 39,0 => ⟨[2,3,11,12,13],[4,5],[],[],[],0⟩
 | 39,2 => ⟨[2,3,6,11,12,13,19,20,21],[2,3,4,5,11,12,13],[],[],[],0⟩
 | 40,0 => ⟨[0,1,5,10,12,13,14],[0,1,5,10,12],[],[],[],0⟩
 | 40,2 => ⟨[0,1,5,10,12,91,92,93],[0,10],[],[],[],0⟩
 | 41,0 => ⟨[1,3,12,13,14],[1,3],[],[],[1],0⟩
 | 41,2 => ⟨[1,3,6],[6],[6],[],[],0⟩
 | 42,0 => ⟨[0,1,2,3,9,10,11,47,48,49],[0,1,2,3,9,10,11],[],[],[],0⟩
 | 42,2 => ⟨[0,1,2,3,15,16,17],[8],[],[],[],0⟩
 | 43,0 => ⟨[1,2,3,7,8,9],[1,2,3],[3],[],[],0⟩
 | 51,0 => ⟨[3,6,7,8],[2,3],[],[],[],0⟩
 | 54,0 => ⟨[1,2,5],[1,2,4],[],[],[],0⟩
 | 58,0 => ⟨[2,3,12,13,14],[2,3],[],[(3,2)],[],0⟩
 | 58,2 => ⟨[2,3,6,12,13,14,23,24],[2,3,6,12,13,14],[],[],[],0⟩
 | 62,0 => ⟨[7,8],[7],[],[],[],0⟩
 | 63,0 => ⟨[5,6,12,13,14,34,35,36],[12,14],[],[(14,1),(14,2)],[],0⟩
 | 64,0 => ⟨[1,5,8,9,10],[5],[5],[],[1],0⟩
 | 67,0 => ⟨[1,2,5,12,13,14],[5],[],[],[],0⟩
 | 67,2 => ⟨[1,2,5,7,8,12,13,14],[1,2,5,12,13,14],[],[],[],0⟩
 | 68,0 => ⟨[0,1,7,8],[4],[],[],[],0⟩
 | 70,0 => ⟨[1,2,3,7,8,9,10],[7,8,9],[],[],[],0⟩
 | 71,0 => ⟨[1,3,10,12,13,40,41,42],[1,6,7,8,10,12,13],[12],[],[],0⟩
 | 71,2 => ⟨[1,3,10,12,13,15,16,40,41,42,52,53,54],[1,3,10,12,13,15,16,40,41,42],[16],[],[],0⟩
 | 71,4 => ⟨[1,3,10,12,15,16,40,41,42,74,75,76],[1,3,10,12,15,40,41,42],[12],[],[],0⟩
 | 72,0 => ⟨[1,2,3,10,11,12],[1,2,3],[3],[],[],0⟩
 | 72,2 => ⟨[1,2,3,5,6,10,11,12,17,18,19],[1,2,3,5,6,10,11,12],[6],[],[],0⟩
 | 73,0 => ⟨[2,3,5],[4],[],[],[],0⟩
 | 74,0 => ⟨[0,1,5],[4],[],[],[],0⟩
 | 75,0 => ⟨[0,1,2,6,7,8],[0,1,2,6,7],[],[],[],0⟩
 | 75,2 => ⟨[0,1,2,6],[],[],[],[],0⟩
 | 75,4 => ⟨[0,1,2,6,7,8],[0,1,2,6,7],[],[],[],0⟩
 | 76,0 => ⟨[0,1,2,6,7,8],[0,1,2,6,7],[],[],[],0⟩
 | 76,2 => ⟨[0,1,2,6],[],[],[],[],0⟩
 | 76,4 => ⟨[0,1,2,6,7,8],[0,1,2,6,7],[],[],[],0⟩
 | 79,0 => ⟨[0,1,7,8],[4],[],[],[],0⟩
 | 80,0 => ⟨[0,1,2,6,7,8],[0,1,2,6,7],[],[],[],0⟩
 | 80,2 => ⟨[0,1,2,6],[],[],[],[],0⟩
 | 80,4 => ⟨[0,1,2,6,7,8],[0,1,2,6,7],[],[],[],0⟩
 | 82,0 => ⟨[1,2,4,5,10,11,19,20,21],[1,2,4,5,10,11],[],[(11,3)],[],1000⟩
 | 82,2 => ⟨[10,11,71,72,73],[10,11],[],[],[],0⟩
 | 83,0 => ⟨[0,2,3,4,6,10,12,13,14,32,33,34],[10,12,13],[13],[(12,2)],[],0⟩
 | 84,0 => ⟨[0,1,14,15,16],[0],[],[],[],0⟩
 | 87,0 => ⟨[0,5],[],[],[],[],0⟩
 | 91,0 => ⟨[1,5,12,13,14],[5],[],[],[],0⟩
 | 94,0 => ⟨[2,3,5],[2,3,4],[],[],[],0⟩
 | 94,2 => ⟨[2,3,6],[4],[],[],[],0⟩
 | 95,0 => ⟨[0,1,2,3,8],[],[],[],[],0⟩
 | 95,2 => ⟨[0,1,2,3,8,9],[0,1,2,3,8],[],[],[],0⟩
 | 96,0 => ⟨[0,1,4,10,11],[0,1,10],[],[],[],0⟩
 | 96,2 => ⟨[0,10,13],[],[],[],[],0⟩
 | 96,4 => ⟨[0,2,4,14,15],[0,2,14],[],[],[],0⟩
 | 96,6 => ⟨[0,14,17],[],[],[],[],0⟩
 | 96,8 => ⟨[0,1,2,3,4,18,19,20,21,22],[0,1,2,3,4,18,19,20],[],[],[],0⟩
 | 97,0 => ⟨[0,1,2,3,8],[],[],[],[],0⟩
 | 97,2 => ⟨[0,1,2,3,8,9],[0,1,2,3,8],[],[],[],0⟩
 | 98,0 => ⟨[0,1,4,10,11],[0,1,10],[],[],[],0⟩
 | 98,2 => ⟨[0,10,13],[],[],[],[],0⟩
 | 98,4 => ⟨[0,2,4,14,15],[0,2,14],[],[],[],0⟩
 | 98,6 => ⟨[0,14,17],[],[],[],[],0⟩
 | 98,8 => ⟨[0,1,2,3,4,18,19,20,21,22],[0,1,2,3,4,18,19,20],[],[],[],0⟩
 | 99,0 => ⟨[0,1,2,3,8],[],[],[],[],0⟩
 | 99,2 => ⟨[0,1,2,3,8,9],[0,1,2,3,8],[],[],[],0⟩
 | 100,0 => ⟨[0,1,4,10,11],[0,1,10],[],[],[],0⟩
 | 100,2 => ⟨[0,10,13],[],[],[],[],0⟩
 | 100,4 => ⟨[0,2,4,14,15],[0,2,14],[],[],[],0⟩
 | 100,6 => ⟨[0,14,17],[],[],[],[],0⟩
 | 100,8 => ⟨[0,1,2,3,4,18,19,20,21,22],[0,1,2,3,4,18,19,20],[],[],[],0⟩
 | 103,0 => ⟨[0,2,3,5,8,9],[0,2,3,5,8],[],[],[],0⟩
 | 103,2 => ⟨[0,3,5,8,10,11],[],[],[],[],0⟩
 | 104,0 => ⟨[0,2,4,6,28,29,30],[],[],[],[],0⟩
 | 108,0 => ⟨[0,1,2,3,8,9],[],[],[],[],0⟩
 | 111,0 => ⟨[0,5,6,7],[2],[],[],[],0⟩
 | 112,0 => ⟨[11,12,13],[8,9,10,11,12],[12],[],[],0⟩
 | 115,1 => ⟨[6,16,17,18],[6],[],[],[],0⟩
 | 115,3 => ⟨[6,31,32,33],[6],[],[],[],0⟩
 | 117,0 => ⟨[1,2,3,11,12,13],[1,2,3],[3],[],[],0⟩
 | 119,0 => ⟨[0,2,4,10,11],[0,2,4,10],[],[],[],0⟩
 | 120,0 => ⟨[0,2,4,10,11],[0,2,4,10],[],[],[],0⟩
 | 121,0 => ⟨[0,2,4,10,11],[0,2,4,10],[],[],[],0⟩
 | 124,0 => ⟨[0,1,2,6],[],[],[],[],0⟩
 | 124,2 => ⟨[0,1,2,6,7],[0,1,2,6],[],[],[],0⟩
 | 125,0 => ⟨[0,6,7,8,9],[0,6,7,8],[],[],[],0⟩
 | 125,2 => ⟨[0,6,7,10],[],[],[],[],0⟩
 | 126,0 => ⟨[0,1,6,7,8,9],[],[],[],[],0⟩
 | 128,0 => ⟨[0,6,7],[],[],[],[],0⟩
 | 129,0 => ⟨[0,1,2,7,8],[6],[],[],[],0⟩
 | 129,2 => ⟨[0,1,2,7,8],[0,1,2,7,8],[],[],[],0⟩
 | 129,4 => ⟨[0,1,2,7,8,9],[0,1,2,7,8],[],[],[],0⟩
 | 129,6 => ⟨[0,1,2,7,8,10],[0,1,2,7,8],[],[],[],0⟩
 | 131,0 => ⟨[0,1,9,10],[9],[],[],[],0⟩
 | 131,2 => ⟨[0,1,9,10],[0,1,9,10],[],[],[],0⟩
 | 131,4 => ⟨[0,1,9,10],[0,1,9,10],[],[],[],0⟩
 | 132,0 => ⟨[0,1,10,11],[0,1,10,11],[],[],[],0⟩
 | 132,2 => ⟨[0,1,10,11],[0,1,10,11],[],[],[],0⟩
 | 132,4 => ⟨[0,1,10,11],[0,1,11],[],[],[],0⟩
 | 132,6 => ⟨[0,1,10,11],[0,1,10,11],[],[],[],0⟩
 | 132,8 => ⟨[0,1,10,11],[0,1,10,11],[],[],[],0⟩
 | 135,0 => ⟨[1,2,31,32,33],[1,6,7],[],[],[],0⟩
 | 138,0 => ⟨[0,1,4],[4,5],[],[],[],0⟩
 | 144,0 => ⟨[0,1,5,6],[5],[],[],[],0⟩
 | 146,0 => ⟨[0,1,2,3,10],[],[],[],[],0⟩
 | 147,0 => ⟨[0,1,2,3,10],[],[],[],[],0⟩
 | 148,0 => ⟨[0,1,2,3,10],[],[],[],[],0⟩
 | 149,0 => ⟨[0,2,3,8],[],[],[],[],0⟩
 | 158,0 => ⟨[0,3,4],[3],[3],[],[],0⟩
 | 159,0 => ⟨[0,3,4],[3],[3],[],[],0⟩
 | 160,0 => ⟨[1,4,5,22,23,24],[1,4,5],[],[(5,8)],[],0⟩
 | 161,0 => ⟨[7,8],[7],[],[],[],0⟩
 | 163,0 => ⟨[0,1,6,7,8],[0,1,6,7],[],[],[],0⟩
 | 171,0 => ⟨[0,5,6,7],[2],[],[],[],0⟩
 | 175,0 => ⟨[0,1],[1],[],[],[],0⟩
 | 176,0 => ⟨[0,4,5],[],[],[],[],0⟩
 | 177,1 => ⟨[0,2,3,29,30,31],[8],[],[],[],0⟩
 | 191,0 => ⟨[0,1,7,8],[4],[],[],[],0⟩
 | 192,0 => ⟨[0,1,7,8],[4],[],[],[],0⟩
 | 196,0 => ⟨[3,8,9,10],[3],[],[],[],0⟩
 | 199,0 => ⟨[1,7,8,9],[4],[],[],[],0⟩
 | 200,0 => ⟨[3,8,9,10],[3],[],[],[],0⟩
 | _,_ => {}
def z4i (f : FuncId) : Bool := [60,80,99,100,38,49,76,97,98,46,75,95,96].contains f
def qiw (f : FuncId) : Bool := [17,62,37,59,34,45].contains f
def zdd : FuncId → Nat → List Nat
 | 21,15 => [4]
 | _,_ => []
def qzt (t : TypeId) : Bool := [].contains t
def qzf (t : TypeId) : Bool := [146].contains t
noncomputable def G : GP := q8a Tryz.prog spec z4i qiw zdd qzt qzf
theorem qga : G.owned 4 = false := rfl
theorem kp4 : G.keep 4 = false := rfl
theorem pr4 (i : Nat) : G.pre 4 i = [] := rfl
theorem quz : G.owned 5 = false := rfl
theorem kp5 : G.keep 5 = false := rfl
theorem pr5 (i : Nat) : G.pre 5 i = [] := rfl
theorem z4c : G.owned 7 = false := rfl
theorem kp7 : G.keep 7 = false := rfl
theorem pr7 (i : Nat) : G.pre 7 i = [] := rfl
theorem qnv : G.owned 11 = false := rfl
theorem z9z : G.keep 11 = false := rfl
theorem qjh (i : Nat) : G.pre 11 i = [] := rfl
theorem qto : G.owned 12 = false := rfl
theorem qij : G.keep 12 = false := rfl
theorem qsf (i : Nat) : G.pre 12 i = [] := rfl
theorem qwj : G.owned 13 = false := rfl
theorem qsh : G.keep 13 = false := rfl
theorem qtl (i : Nat) : G.pre 13 i = [] := rfl
theorem z2v : G.owned 14 = false := rfl
theorem qzl : G.keep 14 = false := rfl
theorem z1m (i : Nat) : G.pre 14 i = [] := rfl
theorem z8p : G.owned 15 = false := rfl
theorem zdt : G.keep 15 = false := rfl
theorem qv8 (i : Nat) : G.pre 15 i = [] := rfl
theorem qu5 : G.owned 16 = false := rfl
theorem qk0 : G.keep 16 = false := rfl
theorem qq5 (i : Nat) : G.pre 16 i = [] := rfl
theorem z6i : G.owned 17 = false := rfl
theorem qnj : G.keep 17 = true := rfl
theorem z9y (i : Nat) : G.pre 17 i = [] := rfl
theorem qz4 : G.owned 18 = false := rfl
theorem qsr : G.keep 18 = false := rfl
theorem qye (i : Nat) : G.pre 18 i = [] := rfl
theorem qgj : G.owned 19 = false := rfl
theorem qhj : G.keep 19 = false := rfl
theorem qro (i : Nat) : G.pre 19 i = [] := rfl
theorem z7g : G.owned 20 = false := rfl
theorem qxv : G.keep 20 = false := rfl
theorem zdr (i : Nat) : G.pre 20 i = [] := rfl
theorem zb7 : G.owned 21 = false := rfl
theorem qz3 : G.keep 21 = false := rfl
theorem ze3 : G.pre 21 0 = [] := rfl
theorem zae : G.pre 21 1 = [] := rfl
theorem z7l : G.pre 21 2 = [] := rfl
theorem z4d : G.pre 21 3 = [] := rfl
theorem qwl : G.pre 21 4 = [] := rfl
theorem qsm : G.pre 21 5 = [] := rfl
theorem qt0 : G.pre 21 6 = [] := rfl
theorem z0o : G.pre 21 7 = [] := rfl
theorem qk6 : G.pre 21 8 = [] := rfl
theorem qsy : G.pre 21 9 = [] := rfl
theorem qk9 : G.pre 21 10 = [] := rfl
theorem zba : G.pre 21 11 = [] := rfl
theorem z3v : G.pre 21 12 = [] := rfl
theorem qyd : G.pre 21 13 = [] := rfl
theorem z2p : G.pre 21 14 = [] := rfl
theorem zbh : G.pre 21 15 = [4] := rfl
theorem zai : G.pre 21 16 = [] := rfl
theorem qub : G.pre 21 17 = [] := rfl
theorem z3h : G.pre 21 18 = [] := rfl
theorem qio : G.pre 21 19 = [] := rfl
theorem zdq : G.pre 21 20 = [] := rfl
theorem qlz : G.pre 21 21 = [] := rfl
theorem qti : G.pre 21 22 = [] := rfl
theorem zg9 : G.pre 21 23 = [] := rfl
theorem qr0 : G.pre 21 24 = [] := rfl
theorem qi3 : G.pre 21 25 = [] := rfl
theorem zcn : G.pre 21 26 = [] := rfl
theorem zdp : G.pre 21 27 = [] := rfl
theorem zek : G.pre 21 28 = [] := rfl
theorem qgs : G.pre 21 29 = [] := rfl
theorem qx1 : G.pre 21 30 = [] := rfl
theorem ql3 : G.pre 21 31 = [] := rfl
theorem qh4 : G.pre 21 32 = [] := rfl
theorem qlw : G.pre 21 33 = [] := rfl
theorem qtc : G.pre 21 34 = [] := rfl
theorem zg8 : G.pre 21 35 = [] := rfl
theorem zcw : G.pre 21 36 = [] := rfl
theorem qoj : G.pre 21 37 = [] := rfl
theorem zc9 : G.pre 21 38 = [] := rfl
theorem z6k : G.pre 21 39 = [] := rfl
theorem qi0 : G.pre 21 40 = [] := rfl
theorem za1 : G.pre 21 41 = [] := rfl
theorem qku : G.pre 21 42 = [] := rfl
theorem qlq : G.pre 21 43 = [] := rfl
theorem qhy : G.pre 21 44 = [] := rfl
theorem qst : G.pre 21 45 = [] := rfl
theorem qy5 : G.pre 21 46 = [] := rfl
theorem qm2 : G.pre 21 47 = [] := rfl
theorem qyk : G.pre 21 48 = [] := rfl
theorem qj6 : G.pre 21 49 = [] := rfl
theorem qwr : G.pre 21 50 = [] := rfl
theorem qs5 : G.pre 21 51 = [] := rfl
theorem qik : G.pre 21 52 = [] := rfl
theorem qnl : G.pre 21 53 = [] := rfl
theorem qh7 : G.pre 21 54 = [] := rfl
theorem qpm : G.pre 21 55 = [] := rfl
theorem z03 : G.pre 21 56 = [] := rfl
theorem qg5 : G.pre 21 57 = [] := rfl
theorem qjo : G.pre 21 58 = [] := rfl
theorem qjm : G.pre 21 59 = [] := rfl
theorem z3y : G.pre 21 60 = [] := rfl
theorem qse : G.pre 21 61 = [] := rfl
theorem qm3 : G.pre 21 62 = [] := rfl
theorem qmx : G.pre 21 63 = [] := rfl
theorem qli : G.pre 21 64 = [] := rfl
theorem z6p : G.pre 21 65 = [] := rfl
theorem z9k : G.pre 21 66 = [] := rfl
theorem qxi : G.pre 21 67 = [] := rfl
theorem z0j : G.pre 21 68 = [] := rfl
theorem qjt : G.pre 21 69 = [] := rfl
theorem z3x : G.pre 21 70 = [] := rfl
theorem qu3 : G.pre 21 71 = [] := rfl
theorem z99 : G.pre 21 72 = [] := rfl
theorem qjz : G.pre 21 73 = [] := rfl
theorem qgn : G.pre 21 74 = [] := rfl
theorem z7m : G.owned 22 = false := rfl
theorem qtk : G.keep 22 = false := rfl
theorem qzi (i : Nat) : G.pre 22 i = [] := rfl
theorem zdv : G.owned 24 = false := rfl
theorem qjb : G.keep 24 = false := rfl
theorem qyh (i : Nat) : G.pre 24 i = [] := rfl
theorem z5x : G.owned 25 = false := rfl
theorem zdi : G.keep 25 = false := rfl
theorem z4q (i : Nat) : G.pre 25 i = [] := rfl
theorem qin : G.owned 26 = false := rfl
theorem qzn : G.keep 26 = false := rfl
theorem z0y (i : Nat) : G.pre 26 i = [] := rfl
theorem zbe : G.owned 27 = false := rfl
theorem qgx : G.keep 27 = false := rfl
theorem z5q (i : Nat) : G.pre 27 i = [] := rfl
theorem z0u : G.owned 28 = false := rfl
theorem qyn : G.keep 28 = false := rfl
theorem zep (i : Nat) : G.pre 28 i = [] := rfl
theorem qxo : G.owned 29 = false := rfl
theorem zey : G.keep 29 = false := rfl
theorem qfr (i : Nat) : G.pre 29 i = [] := rfl
theorem z1f : G.owned 30 = false := rfl
theorem qfm : G.keep 30 = false := rfl
theorem zda (i : Nat) : G.pre 30 i = [] := rfl
theorem z1z : G.owned 34 = false := rfl
theorem qsg : G.keep 34 = true := rfl
theorem qgu (i : Nat) : G.pre 34 i = [] := rfl
theorem qt6 : G.owned 37 = false := rfl
theorem qi8 : G.keep 37 = true := rfl
theorem qu2 (i : Nat) : G.pre 37 i = [] := rfl
theorem zb8 : G.owned 38 = true := rfl
theorem zc8 : G.keep 38 = false := rfl
theorem qvr (i : Nat) : G.pre 38 i = [] := rfl
theorem z2e : G.owned 40 = false := rfl
theorem qu7 : G.keep 40 = false := rfl
theorem qm0 (i : Nat) : G.pre 40 i = [] := rfl
theorem qno : G.owned 43 = false := rfl
theorem qte : G.keep 43 = false := rfl
theorem z9j (i : Nat) : G.pre 43 i = [] := rfl
theorem qix : G.owned 45 = false := rfl
theorem zde : G.keep 45 = true := rfl
theorem qhe (i : Nat) : G.pre 45 i = [] := rfl
theorem qze : G.owned 46 = true := rfl
theorem qkp : G.keep 46 = false := rfl
theorem qsk (i : Nat) : G.pre 46 i = [] := rfl
theorem zfd : G.owned 47 = false := rfl
theorem qwe : G.keep 47 = false := rfl
theorem qim (i : Nat) : G.pre 47 i = [] := rfl
theorem qo0 : G.owned 48 = false := rfl
theorem qof : G.keep 48 = false := rfl
theorem z8m (i : Nat) : G.pre 48 i = [] := rfl
theorem qm7 : G.owned 49 = true := rfl
theorem z5s : G.keep 49 = false := rfl
theorem qvj (i : Nat) : G.pre 49 i = [] := rfl
theorem zcf : G.owned 50 = false := rfl
theorem z7j : G.keep 50 = false := rfl
theorem qqs (i : Nat) : G.pre 50 i = [] := rfl
theorem qp0 : G.owned 51 = false := rfl
theorem zf4 : G.keep 51 = false := rfl
theorem qv2 (i : Nat) : G.pre 51 i = [] := rfl
theorem zd3 : G.owned 52 = false := rfl
theorem zaw : G.keep 52 = false := rfl
theorem qtp (i : Nat) : G.pre 52 i = [] := rfl
theorem z9h : G.owned 53 = false := rfl
theorem z90 : G.keep 53 = false := rfl
theorem qqe (i : Nat) : G.pre 53 i = [] := rfl
theorem qfb : G.owned 59 = false := rfl
theorem qhs : G.keep 59 = true := rfl
theorem qqt (i : Nat) : G.pre 59 i = [] := rfl
theorem qn5 : G.owned 60 = true := rfl
theorem zc1 : G.keep 60 = false := rfl
theorem zbn (i : Nat) : G.pre 60 i = [] := rfl
theorem qpd : G.owned 61 = false := rfl
theorem qks : G.keep 61 = false := rfl
theorem qmp (i : Nat) : G.pre 61 i = [] := rfl
theorem z6j : G.owned 62 = false := rfl
theorem zb5 : G.keep 62 = true := rfl
theorem zbv (i : Nat) : G.pre 62 i = [] := rfl
theorem qpq : G.owned 64 = false := rfl
theorem z4e : G.keep 64 = false := rfl
theorem z3g (i : Nat) : G.pre 64 i = [] := rfl
theorem ql9 : G.owned 75 = true := rfl
theorem qvy : G.keep 75 = false := rfl
theorem zg4 (i : Nat) : G.pre 75 i = [] := rfl
theorem qr1 : G.owned 76 = true := rfl
theorem z1x : G.keep 76 = false := rfl
theorem qiq (i : Nat) : G.pre 76 i = [] := rfl
theorem zas : G.owned 77 = false := rfl
theorem qjs : G.keep 77 = false := rfl
theorem qwt (i : Nat) : G.pre 77 i = [] := rfl
theorem z1v : G.owned 80 = true := rfl
theorem qow : G.keep 80 = false := rfl
theorem zat (i : Nat) : G.pre 80 i = [] := rfl
theorem zal : G.owned 81 = false := rfl
theorem zfe : G.keep 81 = false := rfl
theorem qgy (i : Nat) : G.pre 81 i = [] := rfl
theorem z6u : G.owned 84 = false := rfl
theorem qsb : G.keep 84 = false := rfl
theorem z1n (i : Nat) : G.pre 84 i = [] := rfl
theorem z6q : G.owned 95 = true := rfl
theorem qfa : G.keep 95 = false := rfl
theorem qni (i : Nat) : G.pre 95 i = [] := rfl
theorem z15 : G.owned 97 = true := rfl
theorem zdl : G.keep 97 = false := rfl
theorem qng (i : Nat) : G.pre 97 i = [] := rfl
theorem qfo : G.owned 99 = true := rfl
theorem z5i : G.keep 99 = false := rfl
theorem z6m (i : Nat) : G.pre 99 i = [] := rfl
theorem qf6 : G.owned 102 = false := rfl
theorem zem : G.keep 102 = false := rfl
theorem qkt (i : Nat) : G.pre 102 i = [] := rfl
theorem qrh : G.spec 11 0 = ⟨[1,2,7],[6],[],[],[],0⟩ := rfl
theorem ze8 : G.spec 12 0 = ⟨[0,1,7,8,9],[0,1,4],[],[],[],0⟩ := rfl
theorem zer : G.spec 13 0 = ⟨[0,1,14,15,16],[1,4,5],[],[],[],0⟩ := rfl
theorem qt4 : G.spec 14 0 = ⟨[0,1,5],[4],[],[],[],0⟩ := rfl
theorem z9x : G.spec 15 0 = ⟨[2,3,5],[2,3,4],[],[],[],0⟩ := rfl
theorem z3p : G.spec 15 2 = ⟨[2,3,6],[4],[],[],[],0⟩ := rfl
theorem zao : G.spec 16 0 = ⟨[3,6,42,43,44],[2],[],[],[],0⟩ := rfl
theorem zac : G.spec 16 2 = ⟨[3,6,7,8,9,42,43,44,54,55,56],[2,3,8,42,43,44],[],[],[],0⟩ := rfl
theorem z7o : G.spec 17 0 = ⟨[3,14,15,16],[3],[],[(3,2)],[],0⟩ := rfl
theorem zen : G.spec 18 0 = ⟨[0,1],[],[],[],[],0⟩ := rfl
theorem qz9 : G.spec 19 0 = ⟨[0,14,15,16],[],[],[],[2000],0⟩ := rfl
theorem zes : G.spec 20 0 = ⟨[0,3],[2],[],[],[],0⟩ := rfl
theorem zbj : G.spec 20 2 = ⟨[0,3,4],[0,2,3],[],[],[],0⟩ := rfl
theorem qiz : G.spec 20 4 = ⟨[0,3,4,44,45,46],[0,2,3,4],[],[],[],0⟩ := rfl
theorem qrc : G.spec 21 0 = ⟨[0,2,11,12],[],[],[],[],0⟩ := rfl
theorem z0x : G.spec 21 2 = ⟨[0,2,3,4,11,12,34,35,36],[0,3,4,11,12],[],[(4,1),(4,2)],[],0⟩ := rfl
theorem z5j : G.spec 22 0 = ⟨[0,2,3,9,10,11],[0,2,3],[3],[],[],0⟩ := rfl
theorem qz7 : G.spec 25 0 = ⟨[3,10,11,12],[2],[],[],[],0⟩ := rfl
theorem z3n : G.spec 26 0 = ⟨[3,6,7,8],[3],[3],[],[],0⟩ := rfl
theorem qha : G.spec 27 0 = ⟨[0,7,8,9],[0],[],[],[],0⟩ := rfl
theorem z3e : G.spec 29 0 = ⟨[4,14,15,16],[4],[4],[],[],0⟩ := rfl
theorem zfb : G.spec 30 0 = ⟨[0,1,12,13],[4],[],[],[],0⟩ := rfl
theorem qp4 : G.spec 38 0 = ⟨[0,2,3],[],[],[],[],0⟩ := rfl
theorem zck : G.spec 40 0 = ⟨[0,1,5,10,12,13,14],[0,1,5,10,12],[],[],[],0⟩ := rfl
theorem qid : G.spec 40 2 = ⟨[0,1,5,10,12,91,92,93],[0,10],[],[],[],0⟩ := rfl
theorem qwm : G.spec 43 0 = ⟨[1,2,3,7,8,9],[1,2,3],[3],[],[],0⟩ := rfl
theorem z9i : G.spec 51 0 = ⟨[3,6,7,8],[2,3],[],[],[],0⟩ := rfl
theorem qxu : G.spec 62 0 = ⟨[7,8],[7],[],[],[],0⟩ := rfl
theorem qui : G.spec 64 0 = ⟨[1,5,8,9,10],[5],[5],[],[1],0⟩ := rfl
theorem qra : G.spec 75 0 = ⟨[0,1,2,6,7,8],[0,1,2,6,7],[],[],[],0⟩ := rfl
theorem qg6 : G.spec 75 2 = ⟨[0,1,2,6],[],[],[],[],0⟩ := rfl
theorem qw0 : G.spec 75 4 = ⟨[0,1,2,6,7,8],[0,1,2,6,7],[],[],[],0⟩ := rfl
theorem qv5 : G.spec 76 0 = ⟨[0,1,2,6,7,8],[0,1,2,6,7],[],[],[],0⟩ := rfl
theorem qsa : G.spec 76 2 = ⟨[0,1,2,6],[],[],[],[],0⟩ := rfl
theorem zby : G.spec 76 4 = ⟨[0,1,2,6,7,8],[0,1,2,6,7],[],[],[],0⟩ := rfl
theorem zg0 : G.spec 80 0 = ⟨[0,1,2,6,7,8],[0,1,2,6,7],[],[],[],0⟩ := rfl
theorem z6n : G.spec 80 2 = ⟨[0,1,2,6],[],[],[],[],0⟩ := rfl
theorem zca : G.spec 80 4 = ⟨[0,1,2,6,7,8],[0,1,2,6,7],[],[],[],0⟩ := rfl
theorem zbp : G.spec 84 0 = ⟨[0,1,14,15,16],[0],[],[],[],0⟩ := rfl
theorem za6 : G.spec 95 0 = ⟨[0,1,2,3,8],[],[],[],[],0⟩ := rfl
theorem qig : G.spec 95 2 = ⟨[0,1,2,3,8,9],[0,1,2,3,8],[],[],[],0⟩ := rfl
theorem z9a : G.spec 97 0 = ⟨[0,1,2,3,8],[],[],[],[],0⟩ := rfl
theorem z2z : G.spec 97 2 = ⟨[0,1,2,3,8,9],[0,1,2,3,8],[],[],[],0⟩ := rfl
theorem zbr : G.spec 99 0 = ⟨[0,1,2,3,8],[],[],[],[],0⟩ := rfl
theorem qfh : G.spec 99 2 = ⟨[0,1,2,3,8,9],[0,1,2,3,8],[],[],[],0⟩ := rfl
theorem fz1 : G.frz 1 = false := rfl
theorem fz2 : G.frz 2 = false := rfl
theorem fz3 : G.frz 3 = false := rfl
theorem fz4 : G.frz 4 = false := rfl
theorem fz5 : G.frz 5 = false := rfl
theorem fz6 : G.frz 6 = false := rfl
theorem fz7 : G.frz 7 = false := rfl
theorem fz8 : G.frz 8 = false := rfl
theorem fz9 : G.frz 9 = false := rfl
theorem z0q : G.frz 10 = false := rfl
theorem qt8 : G.frz 11 = false := rfl
theorem qwv : G.frz 12 = false := rfl
theorem qoy : G.frz 13 = false := rfl
theorem qoq : G.frz 14 = false := rfl
theorem qp2 : G.frz 15 = false := rfl
theorem qw6 : G.frz 16 = false := rfl
theorem z3a : G.frz 17 = false := rfl
theorem zew : G.frz 18 = false := rfl
theorem qq0 : G.frz 19 = false := rfl
theorem qw3 : G.frz 20 = false := rfl
theorem zdj : G.frz 21 = false := rfl
theorem zdz : G.frz 22 = false := rfl
theorem qvm : G.frz 23 = false := rfl
theorem zbb : G.frz 24 = false := rfl
theorem qzz : G.frz 25 = false := rfl
theorem qs8 : G.frz 26 = false := rfl
theorem z5f : G.frz 27 = false := rfl
theorem zbo : G.frz 28 = false := rfl
theorem zg6 : G.frz 30 = false := rfl
theorem qlj : G.frz 31 = false := rfl
theorem zfs : G.frz 32 = false := rfl
theorem qge : G.frz 33 = false := rfl
theorem zcv : G.frz 34 = false := rfl
theorem qg0 : G.frz 35 = false := rfl
theorem zch : G.frz 36 = false := rfl
theorem qkz : G.frz 37 = false := rfl
theorem zg1 : G.frz 38 = false := rfl
theorem z8t : G.frz 39 = false := rfl
theorem zc6 : G.frz 40 = false := rfl
theorem qk4 : G.frz 41 = false := rfl
theorem za5 : G.frz 42 = false := rfl
theorem qso : G.frz 43 = false := rfl
theorem qzj : G.frz 44 = false := rfl
theorem qj1 : G.frz 46 = false := rfl
theorem zfx : G.frz 47 = false := rfl
theorem qw4 : G.frz 48 = false := rfl
theorem z0i : G.frz 49 = false := rfl
theorem qld : G.frz 50 = false := rfl
theorem z6z : G.frz 51 = false := rfl
theorem z00 : G.frz 52 = false := rfl
theorem qvz : G.frz 53 = false := rfl
theorem qqg : G.frz 54 = false := rfl
theorem z8o : G.frz 55 = false := rfl
theorem qp1 : G.frz 56 = false := rfl
theorem zb3 : G.frz 57 = false := rfl
theorem qrw : G.frz 58 = false := rfl
theorem z0z : G.frz 59 = false := rfl
theorem zb0 : G.frz 60 = false := rfl
theorem qqu : G.frz 61 = false := rfl
theorem qi5 : G.frz 62 = false := rfl
theorem zdm : G.frz 63 = false := rfl
theorem qf5 : G.frz 64 = false := rfl
theorem qkm : G.frz 65 = false := rfl
theorem qmw : G.frz 66 = false := rfl
theorem z7p : G.frz 67 = false := rfl
theorem qus : G.frz 68 = false := rfl
theorem qxt : G.frz 69 = false := rfl
theorem qfq : G.frz 70 = false := rfl
theorem zf5 : G.frz 71 = false := rfl
theorem z2m : G.frz 72 = false := rfl
theorem qzv : G.frz 73 = false := rfl
theorem qtn : G.frz 74 = false := rfl
theorem zg2 : G.frz 75 = false := rfl
theorem z8u : G.frz 76 = false := rfl
theorem quv : G.frz 77 = false := rfl
theorem z8j : G.frz 78 = false := rfl
theorem z4x : G.frz 79 = false := rfl
theorem qnm : G.frz 80 = false := rfl
theorem qyr : G.frz 81 = false := rfl
theorem zff : G.frz 82 = false := rfl
theorem z8v : G.frz 83 = false := rfl
theorem z4t : G.frz 84 = false := rfl
theorem z9t : G.frz 85 = false := rfl
theorem qwg : G.frz 86 = false := rfl
theorem z0w : G.frz 87 = false := rfl
theorem zct : G.frz 88 = false := rfl
theorem qvt : G.frz 89 = false := rfl
theorem qy6 : G.frz 90 = false := rfl
theorem zco : G.frz 91 = false := rfl
theorem qq1 : G.frz 92 = false := rfl
theorem qy8 : G.frz 94 = false := rfl
theorem qhl : G.frz 95 = false := rfl
theorem qvs : G.frz 96 = false := rfl
theorem z6h : G.frz 97 = false := rfl
theorem qmh : G.frz 98 = false := rfl
theorem qnq : G.frz 99 = false := rfl
theorem qoo : G.frz 100 = false := rfl
theorem z92 : G.frz 101 = false := rfl
theorem zeq : G.frz 102 = false := rfl
theorem qhu : G.frz 103 = false := rfl
theorem z7v : G.frz 104 = false := rfl
theorem z10 : G.frz 105 = false := rfl
theorem qxc : G.frz 106 = false := rfl
theorem za4 : G.frz 107 = false := rfl
theorem zcp : G.frz 108 = false := rfl
theorem qqi : G.frz 109 = false := rfl
theorem qo5 : G.frz 110 = false := rfl
theorem qmo : G.frz 112 = false := rfl
theorem qmy : G.frz 113 = false := rfl
theorem z5d : G.frz 114 = false := rfl
theorem qms : G.frz 115 = false := rfl
theorem qmm : G.frz 116 = false := rfl
theorem qr4 : G.frz 117 = false := rfl
theorem qs6 : G.frz 118 = false := rfl
theorem z2j : G.frz 119 = false := rfl
theorem qju : G.frz 120 = false := rfl
theorem qj8 : G.frz 121 = false := rfl
theorem qkn : G.frz 122 = false := rfl
theorem z8r : G.frz 123 = false := rfl
theorem qk3 : G.frz 124 = false := rfl
theorem zah : G.frz 125 = false := rfl
theorem qho : G.frz 126 = false := rfl
theorem qmg : G.frz 127 = false := rfl
theorem qs4 : G.frz 128 = false := rfl
theorem zfu : G.frz 129 = false := rfl
theorem qy4 : G.frz 130 = false := rfl
theorem zf0 : G.frz 131 = false := rfl
theorem z3t : G.frz 132 = false := rfl
theorem z0p : G.frz 133 = false := rfl
theorem z0a : G.frz 135 = false := rfl
theorem zbq : G.frz 136 = false := rfl
theorem qhf : G.frz 137 = false := rfl
theorem z2l : G.frz 138 = false := rfl
theorem zd6 : G.frz 139 = false := rfl
theorem z7a : G.frz 140 = false := rfl
theorem z94 : G.frz 141 = false := rfl
theorem qkc : G.frz 142 = false := rfl
theorem qwy : G.frz 143 = false := rfl
theorem qkf : G.frz 145 = false := rfl
theorem quh : G.frz 146 = false := rfl
theorem qnn : G.frz 147 = false := rfl
theorem ql6 : G.frz 148 = false := rfl
theorem qwz : G.frz 149 = false := rfl
theorem qoa : G.frz 151 = false := rfl
theorem z7t : G.frz 152 = false := rfl
theorem qr6 : G.frz 153 = false := rfl
theorem qre : G.frz 154 = false := rfl
theorem qgv : G.frz 155 = false := rfl
theorem qy2 : G.frz 157 = false := rfl
theorem zcd : G.frz 158 = false := rfl
theorem qrg : G.frz 159 = false := rfl
theorem qki : G.frz 160 = false := rfl
theorem qrx : G.frz 161 = false := rfl
theorem z6f : G.frz 162 = false := rfl
theorem z3i : G.frz 163 = false := rfl
theorem qqo : G.frz 164 = false := rfl
theorem z7q : G.frz 165 = false := rfl
theorem zef : G.frz 166 = false := rfl
theorem zfh : G.frz 167 = false := rfl
theorem z8s : G.frz 168 = false := rfl
theorem qlu : G.frz 169 = false := rfl
theorem qw9 : G.frz 170 = false := rfl
theorem z7b : G.frz 171 = false := rfl
theorem qi9 : G.frz 172 = false := rfl
theorem qqm : G.frz 173 = false := rfl
theorem z0c : G.frz 174 = false := rfl
theorem qtr : G.frz 176 = false := rfl
theorem qol : G.frz 177 = false := rfl
theorem z0r : G.frz 179 = false := rfl
theorem z0g : G.frz 180 = false := rfl
theorem qkg : G.frz 181 = false := rfl
theorem qfc : G.frz 182 = false := rfl
theorem z5e : G.frz 183 = false := rfl
theorem zd4 : G.frz 184 = false := rfl
theorem zga : G.frz 185 = false := rfl
theorem qhq : G.frz 186 = false := rfl
theorem qvw : G.frz 187 = false := rfl
theorem z7y : G.frz 188 = false := rfl
theorem qw5 : G.frz 189 = false := rfl
theorem zbu : G.frz 191 = false := rfl
theorem zb2 : G.frz 192 = false := rfl
theorem zaa : G.frz 193 = false := rfl
theorem qv1 : G.frz 194 = false := rfl
theorem qml : G.frz 195 = false := rfl
theorem qpp : G.frz 196 = false := rfl
theorem z1a : G.frz 198 = false := rfl
theorem z6y : G.frz 200 = false := rfl
theorem qma : G.frz 201 = false := rfl
theorem qza : G.frz 202 = false := rfl
theorem qss : G.frz 203 = false := rfl
theorem zbd : G.frz 204 = false := rfl
theorem qrp : G.frz 205 = false := rfl
theorem z3j : G.frz 206 = false := rfl
theorem qpe : G.frz 207 = false := rfl
theorem zee : G.frz 208 = false := rfl
theorem qtt : G.frz 210 = false := rfl
theorem zfa : G.frz 211 = false := rfl
theorem qkk : G.frz 212 = false := rfl
theorem zd8 : G.frz 213 = false := rfl
theorem z6r : G.frz 214 = false := rfl
theorem qya : G.frz 215 = false := rfl
theorem qn9 : G.frz 216 = false := rfl
theorem zg3 : G.frz 217 = false := rfl
theorem z9l : G.frz 218 = false := rfl
theorem z4k : G.frz 219 = false := rfl
theorem qx7 : G.frz 220 = false := rfl
theorem qif : G.frz 221 = false := rfl
theorem qhz : G.frz 222 = false := rfl
theorem qtq : G.frz 223 = false := rfl
theorem qgp : G.frz 224 = false := rfl
theorem qvp : G.frz 225 = false := rfl
theorem z4u : G.frz 227 = false := rfl
theorem qfs : G.frz 228 = false := rfl
theorem zau : G.frz 229 = false := rfl
theorem qlh : G.frz 230 = false := rfl
theorem qg3 : G.frz 231 = false := rfl
theorem qzg : G.frz 232 = false := rfl
theorem zbc : G.frz 233 = false := rfl
theorem z7i : G.frz 234 = false := rfl
theorem qhm : G.frz 235 = false := rfl
theorem qsw : G.frz 236 = false := rfl
theorem qlg : G.frz 237 = false := rfl
theorem za8 : G.frz 238 = false := rfl
theorem zfy : G.frz 239 = false := rfl
theorem qnt : G.frz 240 = false := rfl
theorem qgw : G.frz 241 = false := rfl
theorem qk8 : G.frz 242 = false := rfl
theorem zex : G.frz 243 = false := rfl
theorem qk5 : G.frz 244 = false := rfl
theorem qgq : G.frz 245 = false := rfl
theorem zd0 : G.frz 246 = false := rfl
theorem qyu : G.frz 248 = false := rfl
theorem qkl : G.frz 249 = false := rfl
theorem qko : G.frz 250 = false := rfl
theorem qj7 : G.frz 251 = false := rfl
theorem qqk : G.frz 252 = false := rfl
theorem qvi : G.frz 253 = false := rfl
theorem qvu : G.frz 254 = false := rfl
theorem ql5 : G.frz 255 = false := rfl
theorem z9p : G.frz 256 = false := rfl
theorem qyv : G.frz 257 = false := rfl
theorem qn7 : G.frz 258 = false := rfl
theorem zev : G.frz 259 = false := rfl
theorem z7d : G.frz 260 = false := rfl
theorem zbg : G.frz 261 = false := rfl
theorem qm5 : G.frz 262 = false := rfl
theorem qwb : G.frz 263 = false := rfl
theorem qn4 : G.frz 264 = false := rfl
theorem z5w : G.frz 265 = false := rfl
theorem z4y : G.frz 266 = false := rfl
theorem z6w : G.frz 267 = false := rfl
theorem qlm : G.frz 268 = false := rfl
theorem z7n : G.frz 269 = false := rfl
theorem qru : G.frz 270 = false := rfl
theorem z3b : G.frz 271 = false := rfl
theorem zej : G.frz 272 = false := rfl
theorem z1k : G.frz 273 = false := rfl
theorem qfu : G.frz 274 = false := rfl
theorem qjq : G.frz 275 = false := rfl
theorem qj2 : G.frz 276 = false := rfl
theorem z13 : G.frz 277 = false := rfl
theorem z06 : G.frz 278 = false := rfl
theorem z8e : G.frz 279 = false := rfl
theorem qpg : G.frz 280 = false := rfl
theorem qvh : G.frz 281 = false := rfl
theorem qv9 : G.frz 282 = false := rfl
theorem mf1 : G.mrf 1 = false := rfl
theorem mf2 : G.mrf 2 = false := rfl
theorem mf3 : G.mrf 3 = false := rfl
theorem mf4 : G.mrf 4 = false := rfl
theorem mf5 : G.mrf 5 = false := rfl
theorem mf6 : G.mrf 6 = false := rfl
theorem mf7 : G.mrf 7 = false := rfl
theorem mf8 : G.mrf 8 = false := rfl
theorem mf9 : G.mrf 9 = false := rfl
theorem z5p : G.mrf 10 = false := rfl
theorem qta : G.mrf 11 = false := rfl
theorem z0b : G.mrf 12 = false := rfl
theorem qlc : G.mrf 13 = false := rfl
theorem qtu : G.mrf 14 = false := rfl
theorem qkh : G.mrf 15 = false := rfl
theorem qqj : G.mrf 16 = false := rfl
theorem zeg : G.mrf 17 = false := rfl
theorem qtw : G.mrf 18 = false := rfl
theorem qhv : G.mrf 19 = false := rfl
theorem z9q : G.mrf 20 = false := rfl
theorem zd9 : G.mrf 21 = false := rfl
theorem qtj : G.mrf 22 = false := rfl
theorem zfg : G.mrf 23 = false := rfl
theorem qqq : G.mrf 24 = false := rfl
theorem qug : G.mrf 25 = false := rfl
theorem z5v : G.mrf 26 = false := rfl
theorem zcb : G.mrf 27 = false := rfl
theorem qj9 : G.mrf 28 = false := rfl
theorem qih : G.mrf 30 = false := rfl
theorem qx9 : G.mrf 31 = false := rfl
theorem qxf : G.mrf 32 = false := rfl
theorem qo8 : G.mrf 33 = false := rfl
theorem qom : G.mrf 34 = false := rfl
theorem qn6 : G.mrf 35 = false := rfl
theorem qfw : G.mrf 36 = false := rfl
theorem qie : G.mrf 37 = false := rfl
theorem ze7 : G.mrf 38 = false := rfl
theorem qjj : G.mrf 39 = false := rfl
theorem z7h : G.mrf 40 = false := rfl
theorem qjp : G.mrf 41 = false := rfl
theorem zcx : G.mrf 42 = false := rfl
theorem zbs : G.mrf 43 = false := rfl
theorem ze0 : G.mrf 44 = false := rfl
theorem zfr : G.mrf 46 = false := rfl
theorem qhg : G.mrf 47 = false := rfl
theorem qm8 : G.mrf 48 = false := rfl
theorem qhx : G.mrf 49 = false := rfl
theorem qu9 : G.mrf 50 = false := rfl
theorem qp5 : G.mrf 51 = false := rfl
theorem qym : G.mrf 52 = false := rfl
theorem zdu : G.mrf 53 = false := rfl
theorem qul : G.mrf 54 = false := rfl
theorem qwd : G.mrf 55 = false := rfl
theorem qyt : G.mrf 56 = false := rfl
theorem qxx : G.mrf 57 = false := rfl
theorem qwa : G.mrf 58 = false := rfl
theorem qn1 : G.mrf 59 = false := rfl
theorem zcz : G.mrf 60 = false := rfl
theorem z5k : G.mrf 61 = false := rfl
theorem qws : G.mrf 62 = false := rfl
theorem qqa : G.mrf 63 = false := rfl
theorem qpa : G.mrf 64 = false := rfl
theorem zbw : G.mrf 65 = false := rfl
theorem qnp : G.mrf 66 = false := rfl
theorem qn3 : G.mrf 67 = false := rfl
theorem z3c : G.mrf 68 = false := rfl
theorem z9v : G.mrf 69 = false := rfl
theorem qxs : G.mrf 70 = false := rfl
theorem qhw : G.mrf 71 = false := rfl
theorem z0d : G.mrf 72 = false := rfl
theorem qgb : G.mrf 73 = false := rfl
theorem zax : G.mrf 74 = false := rfl
theorem qmc : G.mrf 75 = false := rfl
theorem qv4 : G.mrf 76 = false := rfl
theorem quw : G.mrf 77 = false := rfl
theorem z7z : G.mrf 78 = false := rfl
theorem qic : G.mrf 79 = false := rfl
theorem qxg : G.mrf 80 = false := rfl
theorem z4s : G.mrf 81 = false := rfl
theorem qxd : G.mrf 82 = false := rfl
theorem qqh : G.mrf 83 = false := rfl
theorem z07 : G.mrf 84 = false := rfl
theorem qvg : G.mrf 85 = false := rfl
theorem qz8 : G.mrf 86 = false := rfl
theorem qy7 : G.mrf 87 = false := rfl
theorem qfl : G.mrf 88 = false := rfl
theorem zdo : G.mrf 89 = false := rfl
theorem qo6 : G.mrf 90 = false := rfl
theorem qzp : G.mrf 91 = false := rfl
theorem qgg : G.mrf 92 = false := rfl
theorem quq : G.mrf 94 = false := rfl
theorem z5h : G.mrf 95 = false := rfl
theorem qpf : G.mrf 96 = false := rfl
theorem qxz : G.mrf 97 = false := rfl
theorem qvc : G.mrf 98 = false := rfl
theorem qzm : G.mrf 99 = false := rfl
theorem qsj : G.mrf 100 = false := rfl
theorem qz2 : G.mrf 101 = false := rfl
theorem qr7 : G.mrf 102 = false := rfl
theorem qqr : G.mrf 103 = false := rfl
theorem qqv : G.mrf 104 = false := rfl
theorem z0l : G.mrf 105 = false := rfl
theorem qpy : G.mrf 106 = false := rfl
theorem qj0 : G.mrf 107 = false := rfl
theorem qfv : G.mrf 108 = false := rfl
theorem z8b : G.mrf 109 = false := rfl
theorem z1s : G.mrf 110 = false := rfl
theorem qh5 : G.mrf 112 = false := rfl
theorem qtv : G.mrf 113 = false := rfl
theorem z14 : G.mrf 114 = false := rfl
theorem z8n : G.mrf 115 = false := rfl
theorem z2c : G.mrf 116 = false := rfl
theorem zdn : G.mrf 117 = false := rfl
theorem qq3 : G.mrf 118 = false := rfl
theorem z09 : G.mrf 119 = false := rfl
theorem qwc : G.mrf 120 = false := rfl
theorem z2r : G.mrf 121 = false := rfl
theorem z3s : G.mrf 122 = false := rfl
theorem zcq : G.mrf 123 = false := rfl
theorem qwu : G.mrf 124 = false := rfl
theorem qu0 : G.mrf 125 = false := rfl
theorem z4p : G.mrf 126 = false := rfl
theorem qh6 : G.mrf 127 = false := rfl
theorem qvn : G.mrf 128 = false := rfl
theorem qt5 : G.mrf 129 = false := rfl
theorem qp6 : G.mrf 130 = false := rfl
theorem qy0 : G.mrf 131 = false := rfl
theorem zg7 : G.mrf 132 = false := rfl
theorem qgz : G.mrf 133 = false := rfl
theorem qfd : G.mrf 135 = false := rfl
theorem qkx : G.mrf 136 = false := rfl
theorem qo9 : G.mrf 137 = false := rfl
theorem qrb : G.mrf 138 = false := rfl
theorem qme : G.mrf 139 = false := rfl
theorem z97 : G.mrf 140 = false := rfl
theorem qsz : G.mrf 141 = false := rfl
theorem qfp : G.mrf 142 = false := rfl
theorem qot : G.mrf 143 = false := rfl
theorem zbx : G.mrf 145 = false := rfl
theorem z3f : G.mrf 146 = true := rfl
theorem zfp : G.mrf 147 = false := rfl
theorem z02 : G.mrf 148 = false := rfl
theorem qn8 : G.mrf 149 = false := rfl
theorem qww : G.mrf 151 = false := rfl
theorem zc4 : G.mrf 152 = false := rfl
theorem qox : G.mrf 153 = false := rfl
theorem qt1 : G.mrf 154 = false := rfl
theorem zfc : G.mrf 155 = false := rfl
theorem qfx : G.mrf 157 = false := rfl
theorem ze6 : G.mrf 158 = false := rfl
theorem qyw : G.mrf 159 = false := rfl
theorem qk1 : G.mrf 160 = false := rfl
theorem qny : G.mrf 161 = false := rfl
theorem zf1 : G.mrf 162 = false := rfl
theorem qov : G.mrf 163 = false := rfl
theorem qlr : G.mrf 164 = false := rfl
theorem qna : G.mrf 165 = false := rfl
theorem qx2 : G.mrf 166 = false := rfl
theorem qhb : G.mrf 167 = false := rfl
theorem qpc : G.mrf 168 = false := rfl
theorem qln : G.mrf 169 = false := rfl
theorem zb4 : G.mrf 170 = false := rfl
theorem qzy : G.mrf 171 = false := rfl
theorem z4z : G.mrf 172 = false := rfl
theorem zez : G.mrf 173 = false := rfl
theorem qip : G.mrf 174 = false := rfl
theorem z01 : G.mrf 176 = false := rfl
theorem zcy : G.mrf 177 = false := rfl
theorem qw2 : G.mrf 179 = false := rfl
theorem qn0 : G.mrf 180 = false := rfl
theorem qf9 : G.mrf 181 = false := rfl
theorem qvo : G.mrf 182 = false := rfl
theorem qrk : G.mrf 183 = false := rfl
theorem z7x : G.mrf 184 = false := rfl
theorem qpr : G.mrf 185 = false := rfl
theorem qfi : G.mrf 186 = false := rfl
theorem qkd : G.mrf 187 = false := rfl
theorem qyj : G.mrf 188 = false := rfl
theorem zcs : G.mrf 189 = false := rfl
theorem zfq : G.mrf 191 = false := rfl
theorem z3k : G.mrf 192 = false := rfl
theorem zcr : G.mrf 193 = false := rfl
theorem qfe : G.mrf 194 = false := rfl
theorem ql8 : G.mrf 195 = false := rfl
theorem qz6 : G.mrf 196 = false := rfl
theorem qhr : G.mrf 198 = false := rfl
theorem qua : G.mrf 200 = false := rfl
theorem qut : G.mrf 201 = false := rfl
theorem qnb : G.mrf 202 = false := rfl
theorem quf : G.mrf 203 = false := rfl
theorem qq8 : G.mrf 204 = false := rfl
theorem z7e : G.mrf 205 = false := rfl
theorem qs9 : G.mrf 206 = false := rfl
theorem qqp : G.mrf 207 = false := rfl
theorem z3r : G.mrf 208 = false := rfl
theorem z4j : G.mrf 210 = false := rfl
theorem qur : G.mrf 211 = false := rfl
theorem que : G.mrf 212 = false := rfl
theorem qfj : G.mrf 213 = false := rfl
theorem z04 : G.mrf 214 = false := rfl
theorem zeo : G.mrf 215 = false := rfl
theorem z8y : G.mrf 216 = false := rfl
theorem qh2 : G.mrf 217 = false := rfl
theorem z2y : G.mrf 218 = false := rfl
theorem qgr : G.mrf 219 = false := rfl
theorem qj4 : G.mrf 220 = false := rfl
theorem z88 : G.mrf 221 = false := rfl
theorem qp9 : G.mrf 222 = false := rfl
theorem zg5 : G.mrf 223 = false := rfl
theorem qsn : G.mrf 224 = false := rfl
theorem qx0 : G.mrf 225 = false := rfl
theorem qfg : G.mrf 227 = false := rfl
theorem qjy : G.mrf 228 = false := rfl
theorem z4m : G.mrf 229 = false := rfl
theorem qu4 : G.mrf 230 = false := rfl
theorem qqn : G.mrf 231 = false := rfl
theorem z1t : G.mrf 232 = false := rfl
theorem qgf : G.mrf 233 = false := rfl
theorem qsv : G.mrf 234 = false := rfl
theorem qt7 : G.mrf 235 = false := rfl
theorem z1r : G.mrf 236 = false := rfl
theorem zab : G.mrf 237 = false := rfl
theorem qh8 : G.mrf 238 = false := rfl
theorem z19 : G.mrf 239 = false := rfl
theorem qwx : G.mrf 240 = false := rfl
theorem qrz : G.mrf 241 = false := rfl
theorem qlf : G.mrf 242 = false := rfl
theorem z2q : G.mrf 243 = false := rfl
theorem qi7 : G.mrf 244 = false := rfl
theorem qiy : G.mrf 245 = false := rfl
theorem qtf : G.mrf 246 = false := rfl
theorem z1y : G.mrf 248 = false := rfl
theorem qq6 : G.mrf 249 = false := rfl
theorem z6g : G.mrf 250 = false := rfl
theorem z2u : G.mrf 251 = false := rfl
theorem qon : G.mrf 252 = false := rfl
theorem qwf : G.mrf 253 = false := rfl
theorem zc5 : G.mrf 254 = false := rfl
theorem qmn : G.mrf 255 = false := rfl
theorem qv3 : G.mrf 256 = false := rfl
theorem qph : G.mrf 257 = false := rfl
theorem qx6 : G.mrf 258 = false := rfl
theorem qib : G.mrf 259 = false := rfl
theorem qoh : G.mrf 260 = false := rfl
theorem z9u : G.mrf 261 = false := rfl
theorem zcu : G.mrf 262 = false := rfl
theorem z6d : G.mrf 263 = false := rfl
theorem z4f : G.mrf 264 = false := rfl
theorem z95 : G.mrf 265 = false := rfl
theorem qx3 : G.mrf 266 = false := rfl
theorem zcc : G.mrf 267 = false := rfl
theorem qvv : G.mrf 268 = false := rfl
theorem z2o : G.mrf 269 = false := rfl
theorem qzh : G.mrf 270 = false := rfl
theorem zad : G.mrf 271 = false := rfl
theorem z1g : G.mrf 272 = false := rfl
theorem qzd : G.mrf 273 = false := rfl
theorem qt2 : G.mrf 274 = false := rfl
theorem z0f : G.mrf 275 = false := rfl
theorem zbz : G.mrf 276 = false := rfl
theorem qql : G.mrf 277 = false := rfl
theorem ze1 : G.mrf 278 = false := rfl
theorem z9r : G.mrf 279 = false := rfl
theorem qpv : G.mrf 280 = false := rfl
theorem z1j : G.mrf 281 = false := rfl
theorem qop : G.mrf 282 = false := rfl
theorem ti3 : G.ti 3 = some ⟨1,8,.int .i64,[.int .i64 0],false⟩ := by kernel_rfl
theorem ti9 : G.ti 9 = some ⟨1,16,.string,[.str []],false⟩ := by kernel_rfl
theorem qnc : G.ti 24 = some ⟨1,24,.slice 71,[.sl true 0 []],false⟩ := by kernel_rfl
theorem z6b : G.ti 25 = some ⟨1,24,.slice 39,[.sl true 0 []],false⟩ := by kernel_rfl
theorem qo4 : G.ti 27 = some ⟨3,64,.struct [(0,1,9),(1,1,24),(2,1,25)],[.str [],.sl true 0 [],.sl true 0 []],true⟩ := by kernel_rfl
theorem qpn : G.ti 28 = some ⟨1,8,.int .i64,[.int .i64 0],false⟩ := by kernel_rfl
theorem zdc : G.ti 33 = some ⟨2,16,.struct [(0,1,3),(1,1,3)],[.int .i64 0,.int .i64 0],true⟩ := by kernel_rfl
theorem zbt : G.ti 35 = some ⟨3,32,.struct [(0,2,33),(2,1,9)],[.int .i64 0,.int .i64 0,.str []],false⟩ := by kernel_rfl
theorem qvk : G.ti 37 = some ⟨1,24,.slice 69,[.sl true 0 []],false⟩ := by kernel_rfl
theorem qpx : G.ti 39 = some ⟨2,32,.struct [(0,1,3),(1,1,37)],[.int .i64 0,.sl true 0 []],true⟩ := by kernel_rfl
theorem z9n : G.ti 42 = some ⟨1,24,.slice 35,[.sl true 0 []],false⟩ := by kernel_rfl
theorem z4h : G.ti 51 = some ⟨1,8,.int .u64,[.int .u64 0],false⟩ := by kernel_rfl
theorem qmt : G.ti 69 = some ⟨3,40,.struct [(0,2,33),(2,1,67)],[.int .i64 0,.int .i64 0,.sl true 0 []],false⟩ := by kernel_rfl
theorem qky : G.ti 71 = some ⟨2,16,.struct [(0,1,3),(1,1,3)],[.int .i64 0,.int .i64 0],true⟩ := by kernel_rfl
theorem qjx : G.ti 75 = some ⟨1,24,.slice 33,[.sl true 0 []],false⟩ := by kernel_rfl
theorem qlx : G.ti 83 = some ⟨1,24,.slice 90,[.sl true 0 []],false⟩ := by kernel_rfl
theorem qyf : G.ti 85 = some ⟨3,64,.struct [(0,1,9),(1,1,24),(2,1,83)],[.str [],.sl true 0 [],.sl true 0 []],true⟩ := by kernel_rfl
theorem qs0 : G.ti 88 = some ⟨1,24,.slice 99,[.sl true 0 []],false⟩ := by kernel_rfl
theorem qjd : G.ti 90 = some ⟨3,56,.struct [(0,2,39),(2,1,88)],[.int .i64 0,.sl true 0 [],.sl true 0 []],false⟩ := by kernel_rfl
theorem ze2 : G.ti 96 = some ⟨1,24,.slice 3,[.sl true 0 []],false⟩ := by kernel_rfl
theorem qqx : G.ti 99 = some ⟨1,24,.slice 132,[.sl true 0 []],false⟩ := by kernel_rfl
theorem z5o : G.ti 118 = some ⟨1,24,.slice 120,[.sl true 0 []],false⟩ := by kernel_rfl
theorem qr2 : G.ti 120 = some ⟨2,16,.array 2 3,[.int .i64 0,.int .i64 0],false⟩ := by kernel_rfl
theorem qj5 : G.ti 177 = some ⟨1,8,.int .u64,[.int .u64 0],false⟩ := by kernel_rfl
theorem fn4 : G.fn 4 = some ⟨Tryz.f4.ntmps,Tryz.f4.results.toList,Tryz.f4.body.get!⟩ := by kernel_rfl
theorem fn7 : G.fn 7 = some ⟨Tryz.f7.ntmps,Tryz.f7.results.toList,Tryz.f7.body.get!⟩ := by kernel_rfl
theorem q2v : G.fn 11 = some ⟨Tryz.f11.ntmps,Tryz.f11.results.toList,Tryz.f11.body.get!⟩ := by kernel_rfl
theorem q2a : G.fn 12 = some ⟨Tryz.f12.ntmps,Tryz.f12.results.toList,Tryz.f12.body.get!⟩ := by kernel_rfl
theorem q1t : G.fn 13 = some ⟨Tryz.f13.ntmps,Tryz.f13.results.toList,Tryz.f13.body.get!⟩ := by kernel_rfl
theorem q2t : G.fn 14 = some ⟨Tryz.f14.ntmps,Tryz.f14.results.toList,Tryz.f14.body.get!⟩ := by kernel_rfl
theorem q6a : G.fn 15 = some ⟨Tryz.f15.ntmps,Tryz.f15.results.toList,Tryz.f15.body.get!⟩ := by kernel_rfl
theorem q0x : G.fn 16 = some ⟨Tryz.f16.ntmps,Tryz.f16.results.toList,Tryz.f16.body.get!⟩ := by kernel_rfl
theorem q64 : G.fn 17 = some ⟨Tryz.f17.ntmps,Tryz.f17.results.toList,Tryz.f17.body.get!⟩ := by kernel_rfl
theorem q6d : G.fn 18 = some ⟨Tryz.f18.ntmps,Tryz.f18.results.toList,Tryz.f18.body.get!⟩ := by kernel_rfl
theorem wm : G.fn 19 = some ⟨Tryz.f19.ntmps,Tryz.f19.results.toList,Tryz.f19.body.get!⟩ := by kernel_rfl
theorem q79 : G.fn 20 = some ⟨Tryz.f20.ntmps,Tryz.f20.results.toList,Tryz.f20.body.get!⟩ := by kernel_rfl
theorem q5i : G.fn 21 = some ⟨Tryz.f21.ntmps,Tryz.f21.results.toList,Tryz.f21.body.get!⟩ := by kernel_rfl
theorem q7m : G.fn 22 = some ⟨Tryz.f22.ntmps,Tryz.f22.results.toList,Tryz.f22.body.get!⟩ := by kernel_rfl
theorem qem : G.fn 24 = some ⟨Tryz.f24.ntmps,Tryz.f24.results.toList,Tryz.f24.body.get!⟩ := by kernel_rfl
theorem j6 : G.fn 25 = some ⟨Tryz.f25.ntmps,Tryz.f25.results.toList,Tryz.f25.body.get!⟩ := by kernel_rfl
theorem q9v : G.fn 26 = some ⟨Tryz.f26.ntmps,Tryz.f26.results.toList,Tryz.f26.body.get!⟩ := by kernel_rfl
theorem q9h : G.fn 27 = some ⟨Tryz.f27.ntmps,Tryz.f27.results.toList,Tryz.f27.body.get!⟩ := by kernel_rfl
theorem qmd : G.fn 28 = some ⟨Tryz.f28.ntmps,Tryz.f28.results.toList,Tryz.f28.body.get!⟩ := by kernel_rfl
theorem jv : G.fn 29 = some ⟨Tryz.f29.ntmps,Tryz.f29.results.toList,Tryz.f29.body.get!⟩ := by kernel_rfl
theorem q2r : G.fn 30 = some ⟨Tryz.f30.ntmps,Tryz.f30.results.toList,Tryz.f30.body.get!⟩ := by kernel_rfl
theorem qdy : G.fn 34 = some ⟨Tryz.f34.ntmps,Tryz.f34.results.toList,Tryz.f34.body.get!⟩ := by kernel_rfl
theorem qbs : G.fn 37 = some ⟨Tryz.f37.ntmps,Tryz.f37.results.toList,Tryz.f37.body.get!⟩ := by kernel_rfl
theorem q4p : G.fn 38 = some ⟨Tryz.f38.ntmps,Tryz.f38.results.toList,Tryz.f38.body.get!⟩ := by kernel_rfl
theorem q5g : G.fn 40 = some ⟨Tryz.f40.ntmps,Tryz.f40.results.toList,Tryz.f40.body.get!⟩ := by kernel_rfl
theorem q9j : G.fn 43 = some ⟨Tryz.f43.ntmps,Tryz.f43.results.toList,Tryz.f43.body.get!⟩ := by kernel_rfl
theorem qci : G.fn 45 = some ⟨Tryz.f45.ntmps,Tryz.f45.results.toList,Tryz.f45.body.get!⟩ := by kernel_rfl
theorem qb5 : G.fn 46 = some ⟨Tryz.f46.ntmps,Tryz.f46.results.toList,Tryz.f46.body.get!⟩ := by kernel_rfl
theorem qvb : G.fn 47 = some ⟨Tryz.f47.ntmps,Tryz.f47.results.toList,Tryz.f47.body.get!⟩ := by kernel_rfl
theorem qrm : G.fn 48 = some ⟨Tryz.f48.ntmps,Tryz.f48.results.toList,Tryz.f48.body.get!⟩ := by kernel_rfl
theorem qb2 : G.fn 49 = some ⟨Tryz.f49.ntmps,Tryz.f49.results.toList,Tryz.f49.body.get!⟩ := by kernel_rfl
theorem ze5 : G.fn 50 = some ⟨Tryz.f50.ntmps,Tryz.f50.results.toList,Tryz.f50.body.get!⟩ := by kernel_rfl
theorem q4w : G.fn 51 = some ⟨Tryz.f51.ntmps,Tryz.f51.results.toList,Tryz.f51.body.get!⟩ := by kernel_rfl
theorem q2l : G.fn 52 = some ⟨Tryz.f52.ntmps,Tryz.f52.results.toList,Tryz.f52.body.get!⟩ := by kernel_rfl
theorem zfo : G.fn 53 = some ⟨Tryz.f53.ntmps,Tryz.f53.results.toList,Tryz.f53.body.get!⟩ := by kernel_rfl
theorem qd4 : G.fn 59 = some ⟨Tryz.f59.ntmps,Tryz.f59.results.toList,Tryz.f59.body.get!⟩ := by kernel_rfl
theorem qar : G.fn 60 = some ⟨Tryz.f60.ntmps,Tryz.f60.results.toList,Tryz.f60.body.get!⟩ := by kernel_rfl
theorem qrq : G.fn 61 = some ⟨Tryz.f61.ntmps,Tryz.f61.results.toList,Tryz.f61.body.get!⟩ := by kernel_rfl
theorem qdq : G.fn 62 = some ⟨Tryz.f62.ntmps,Tryz.f62.results.toList,Tryz.f62.body.get!⟩ := by kernel_rfl
theorem q7v : G.fn 64 = some ⟨Tryz.f64.ntmps,Tryz.f64.results.toList,Tryz.f64.body.get!⟩ := by kernel_rfl
theorem w9 : G.fn 75 = some ⟨Tryz.f75.ntmps,Tryz.f75.results.toList,Tryz.f75.body.get!⟩ := by kernel_rfl
theorem jw : G.fn 76 = some ⟨Tryz.f76.ntmps,Tryz.f76.results.toList,Tryz.f76.body.get!⟩ := by kernel_rfl
theorem qm4 : G.fn 77 = some ⟨Tryz.f77.ntmps,Tryz.f77.results.toList,Tryz.f77.body.get!⟩ := by kernel_rfl
theorem ky : G.fn 80 = some ⟨Tryz.f80.ntmps,Tryz.f80.results.toList,Tryz.f80.body.get!⟩ := by kernel_rfl
theorem qqw : G.fn 81 = some ⟨Tryz.f81.ntmps,Tryz.f81.results.toList,Tryz.f81.body.get!⟩ := by kernel_rfl
theorem jy : G.fn 84 = some ⟨Tryz.f84.ntmps,Tryz.f84.results.toList,Tryz.f84.body.get!⟩ := by kernel_rfl
theorem yu : G.fn 95 = some ⟨Tryz.f95.ntmps,Tryz.f95.results.toList,Tryz.f95.body.get!⟩ := by kernel_rfl
theorem vw : G.fn 97 = some ⟨Tryz.f97.ntmps,Tryz.f97.results.toList,Tryz.f97.body.get!⟩ := by kernel_rfl
theorem wy : G.fn 99 = some ⟨Tryz.f99.ntmps,Tryz.f99.results.toList,Tryz.f99.body.get!⟩ := by kernel_rfl
theorem z8z : G.fn 102 = some ⟨Tryz.f102.ntmps,Tryz.f102.results.toList,Tryz.f102.body.get!⟩ := by kernel_rfl
end Go.Proofs.YtkbgphcebakcnaaGreat
