/-
  The tables of the program as the machine reads it.
-/
import Derived.Test.YtdhgdeelagmbpaaGreatRows
import Derived.Test.YtdhgdeelagmbpaaGreatVad
set_option linter.unusedSimpArgs false
set_option linter.unusedVariables false
namespace Go.Proofs.YtdhgdeelagmbpaaGreat
open Go Go.Gm
def spec : FuncId → Nat → q08
 | 4,0 => ⟨[3,5,6],[2],[],[],[],0⟩
 | 4,2 => ⟨[3,5,6,7,8,9],[2,3,5,6,7,8],[],[],[],0⟩
 | 6,0 => ⟨[2,7,8,10,12,13],[6],[],[],[],0⟩
 | 6,2 => ⟨[2,7,8,10,12,13,14,15,16],[2,6,7,8,10,12,13],[],[],[],0⟩
 | 7,0 => ⟨[1,4,9,11,12],[4,11],[],[(11,2)],[],0⟩
 | 9,0 => ⟨[2,5,18,19,20],[4],[],[],[18],0⟩
 | 11,0 => ⟨[2,5],[4],[],[],[],0⟩
 | 11,2 => ⟨[2,5,6,8],[2,4,5],[],[],[],0⟩
 | 12,0 => ⟨[1,3,12,13,14],[1,3],[],[],[1],0⟩
 | 12,2 => ⟨[1,3,6],[6],[6],[],[],0⟩
 | 13,0 => ⟨[0,1,5],[4],[],[],[],0⟩
 | 14,0 => ⟨[1,3,4],[1,3],[],[],[1],0⟩
 | 14,2 => ⟨[1,3,5],[5],[5],[],[],0⟩
 | 14,4 => ⟨[1,3,5,6,7,8],[1,3,5,6,7],[],[],[],0⟩
 | 14,6 => ⟨[1,3,5,6,7,9],[1,3,5,6],[],[],[],0⟩
 | 15,0 => ⟨[1,3],[2],[],[],[],0⟩
 | 15,2 => ⟨[1,3,4],[1,2,3],[],[],[],0⟩
 | 15,4 => ⟨[1,3,4,5,6],[1,3,4,5],[],[],[],0⟩
 | 16,0 => ⟨[3,11,12,13],[3],[],[],[],0⟩
 | 16,2 => ⟨[3,11,12,13,18,19,20],[3,11,12,13],[],[],[],0⟩
 | 17,0 => ⟨[0,5,10,11,12],[5],[5],[],[],0⟩
 | 17,2 => ⟨[0,5,10,11,12,17,18,19],[0,5,10,11,12],[5],[],[],0⟩
 | 18,0 => ⟨[1,2,3,7,8,9,10],[7,8,9],[],[],[],0⟩
 | 19,0 => ⟨[0,4,5],[4],[],[],[],0⟩
 | 20,0 => ⟨[11,12,13],[11,12],[],[],[],0⟩
 | 20,2 => ⟨[15,17,19,20],[15,17,19],[],[],[],0⟩
 | 21,0 => ⟨[0,13,14,15],[4,5],[],[],[],0⟩
 | 23,0 => ⟨[1,2,5],[1,2,4],[],[],[],0⟩
 | 26,0 => ⟨[0,1,2],[6],[],[],[],0⟩
 | 30,0 => ⟨[1,2,5,12,13,14],[5],[],[],[],0⟩
 | 30,2 => ⟨[1,2,5,7,8,12,13,14],[1,2,5,12,13,14],[],[],[],0⟩
 | 31,0 => ⟨[0,1,7,8],[4],[],[],[],0⟩
 | 33,0 => ⟨[0,1,5],[0,1,5],[],[],[],0⟩
 | 34,0 => ⟨[0,1,5],[4],[],[],[],0⟩
 | 35,0 => ⟨[0,1,2,7],[6],[],[],[],0⟩
 | 35,2 => ⟨[0,1,2,7,8],[0,1,2,6,7],[],[],[],0⟩
 | 38,0 => ⟨[0,1,2,8,9],[0,1,2,8,9],[8,9],[],[],2⟩
 | 39,0 => ⟨[0,3,4],[3],[],[],[],0⟩
 | 41,0 => ⟨[0,1,2,6],[],[],[(0,3),(0,4),(0,5)],[],0⟩
 | 42,0 => ⟨[0,2,3],[0,2],[],[],[],0⟩
 | 42,2 => ⟨[0,2,4],[0],[],[],[],0⟩
 | 42,4 => ⟨[0,5,6],[],[5],[],[],0⟩
 | 43,0 => ⟨[0,3],[2],[],[],[],0⟩
 | 43,2 => ⟨[0,3,4,5],[0,3,4],[],[],[],0⟩
 | 44,0 => ⟨[0,1,3,10,11],[8,9,10],[],[(1,0),(1,1)],[],0⟩
 | 45,0 => ⟨[0,1,2,3,5,6,16],[2,6],[2],[],[],0⟩
 | 46,0 => ⟨[0,2,3],[],[],[],[],0⟩
 | 51,0 => ⟨[0,5],[],[],[],[],0⟩
 | 53,0 => ⟨[0,4,7,8],[0,4,7,8],[7],[],[],0⟩
 | 53,2 => ⟨[0,4,12,14],[0,4,5,6,12,14],[],[],[],0⟩
 | 54,0 => ⟨[0,1,6,7],[0,1,6,7],[6,7],[],[],2⟩
 | 56,0 => ⟨[0,3,4],[3],[3],[],[],0⟩
 | 57,0 => ⟨[0,3],[2],[],[],[],0⟩
 | 59,0 => ⟨[0,1,2,7,8,9],[7],[7],[],[],0⟩
 | 60,0 => ⟨[0,1,6],[4,5],[],[],[],0⟩
 | 61,0 => ⟨[0,3,4],[2],[],[],[],0⟩
 | 62,0 => ⟨[0,3,5,8,9,10],[0,3,5,8,9],[],[(9,17)],[],0⟩
 | 63,0 => ⟨[0,1,5],[0,1,4],[],[],[],0⟩
 | 64,0 => ⟨[0,1,5],[4],[],[],[],0⟩
 | 65,0 => ⟨[0,1,5],[4],[],[],[],0⟩
 | 66,0 => ⟨[0,1,2,7],[2],[2],[],[],0⟩
 | 69,0 => ⟨[0,1,2,3,8,9],[],[],[],[],0⟩
 | 71,0 => ⟨[0,1,7,8],[0,1,7,8],[],[],[],0⟩
 | 72,0 => ⟨[0,1,7],[0,1,7],[],[],[],0⟩
 | 74,0 => ⟨[0,1,7],[0,1,7],[7],[],[],0⟩
 | 75,0 => ⟨[2,3,5],[4],[],[],[],0⟩
 | 77,0 => ⟨[0,3],[2],[],[],[],0⟩
 | 79,0 => ⟨[0,1,5],[4],[],[],[],0⟩
 | 81,0 => ⟨[1,3,9,10,14,15,16],[1,6,7,8,10,14,15],[],[],[],0⟩
 | 82,0 => ⟨[0,1,2,6],[],[],[],[],0⟩
 | 82,2 => ⟨[0,1,2,6,7],[0,1,2,6],[],[],[],0⟩
 | 83,0 => ⟨[0,6,7,8,9],[0,6,7,8],[],[],[],0⟩
 | 83,2 => ⟨[0,6,7,10],[],[],[],[],0⟩
 | 84,0 => ⟨[0,1,6,7,8,9],[],[],[],[],0⟩
 | 86,0 => ⟨[0,6,7],[],[],[],[],0⟩
 | 87,0 => ⟨[0,1,2,7,8],[6],[],[],[],0⟩
 | 87,2 => ⟨[0,1,2,7,8],[0,1,2,7,8],[],[],[],0⟩
 | 87,4 => ⟨[0,1,2,7,8,9],[0,1,2,7,8],[],[],[],0⟩
 | 87,6 => ⟨[0,1,2,7,8,10],[0,1,2,7,8],[],[],[],0⟩
 | 89,0 => ⟨[0,1,9,10],[9],[],[],[],0⟩
 | 89,2 => ⟨[0,1,9,10],[0,1,9,10],[],[],[],0⟩
 | 89,4 => ⟨[0,1,9,10],[0,1,9,10],[],[],[],0⟩
 | 90,0 => ⟨[0,1,10,11],[0,1,10,11],[],[],[],0⟩
 | 90,2 => ⟨[0,1,10,11],[0,1,10,11],[],[],[],0⟩
 | 90,4 => ⟨[0,1,10,11],[0,1,11],[],[],[],0⟩
 | 90,6 => ⟨[0,1,10,11],[0,1,10,11],[],[],[],0⟩
 | 90,8 => ⟨[0,1,10,11],[0,1,10,11],[],[],[],0⟩
 | 95,0 => ⟨[0,3,4,5],[3],[3],[],[],0⟩
 | 96,0 => ⟨[0,1,4,6],[4,5],[6],[],[],0⟩
 | 96,2 => ⟨[0,1,4,6,7],[0,1,4,5,6,7],[7],[],[],0⟩
 | 97,1 => ⟨[0,4,8,10,11],[4,5,6],[],[],[],0⟩
 | 100,0 => ⟨[2,3,5],[2,3,4],[],[],[],0⟩
 | 100,2 => ⟨[2,3,6],[4],[],[],[],0⟩
 | 102,0 => ⟨[4,11,12,13],[8,9,10,11,12],[12],[],[],0⟩
 | 104,0 => ⟨[1,3,5,7,8],[3,7],[7],[],[],0⟩
 | 105,0 => ⟨[0,2,3,8],[],[],[],[],0⟩
 | 118,0 => ⟨[0,1,2,9],[0,1,9],[9],[],[],0⟩
 | 120,0 => ⟨[0,3],[2],[],[],[],0⟩
 | 122,0 => ⟨[0,2,4,6],[6,7],[],[],[],0⟩
 | 123,0 => ⟨[0,1,5],[4],[],[],[],0⟩
 | 125,0 => ⟨[0,1,5,6],[5],[],[],[],0⟩
 | 129,0 => ⟨[0,1,5,6],[5],[5],[],[],0⟩
 | 130,0 => ⟨[1,3,4],[3],[],[],[],0⟩
 | 131,0 => ⟨[1,3,4],[1,3],[],[],[],0⟩
 | 132,0 => ⟨[1,3,4],[1,2,3],[],[],[],0⟩
 | 132,3 => ⟨[1,3,5],[1,2,3],[],[],[],0⟩
 | 132,5 => ⟨[1,3,6],[1,2,3],[],[],[],0⟩
 | 133,0 => ⟨[0,3,4],[3],[3],[],[],0⟩
 | 134,0 => ⟨[0,2,4,6,8,9],[0,2,4,6,8],[8],[],[],0⟩
 | 135,1 => ⟨[6,7],[6],[],[],[],0⟩
 | 135,3 => ⟨[6,8],[6],[],[],[],0⟩
 | 135,5 => ⟨[1,9,10,11],[10],[],[],[],0⟩
 | 136,0 => ⟨[0,2,4,5],[2,3,4,5],[5],[],[],0⟩
 | 139,0 => ⟨[0,4,5],[4,5],[],[],[],0⟩
 | 141,0 => ⟨[0,3],[2],[],[],[],0⟩
 | 143,0 => ⟨[1,3,4],[3],[],[],[],0⟩
 | 144,1 => ⟨[0,1,2,3,12,13,14],[0,2,3,12],[],[],[],0⟩
 | 144,3 => ⟨[0,1,2,3,15,16],[8,9,10],[],[],[],0⟩
 | 147,0 => ⟨[0,3,4],[3],[3],[],[],0⟩
 | 149,0 => ⟨[0,3,4],[3],[],[],[3],0⟩
 | 149,2 => ⟨[0,3,4,5,6],[0,3,4,5,6],[],[],[],0⟩
 | 149,4 => ⟨[3,7,8],[7],[7],[],[],0⟩
 | 150,0 => ⟨[3,4],[3],[],[],[],0⟩
 | 156,0 => ⟨[0,1,2,11,12],[0,1,2,11],[],[],[],0⟩
 | 161,0 => ⟨[0,1,5],[4],[],[],[],0⟩
 | 162,0 => ⟨[3,4],[3],[],[],[],0⟩
 | _,_ => {}
def zin (f : FuncId) : Bool := [46,34,35,99,65,66,45].contains f
def zql (f : FuncId) : Bool := [16,121,99,66,45].contains f
def zfb : FuncId → Nat → List Nat
 | 156,7 => [11]
 | _,_ => []
def zks (t : TypeId) : Bool := [211].contains t
def qtv (t : TypeId) : Bool := false
noncomputable def G : GP := qhb Tryz.prog spec zin zql zfb zks qtv
theorem zq2 : G.owned 5 = false := rfl
theorem kp5 : G.keep 5 = false := rfl
theorem pr5 (i : Nat) : G.pre 5 i = [] := rfl
theorem zqq : G.owned 7 = false := rfl
theorem kp7 : G.keep 7 = false := rfl
theorem pr7 (i : Nat) : G.pre 7 i = [] := rfl
theorem qqn : G.owned 8 = false := rfl
theorem kp8 : G.keep 8 = false := rfl
theorem pr8 (i : Nat) : G.pre 8 i = [] := rfl
theorem quk : G.owned 9 = false := rfl
theorem kp9 : G.keep 9 = false := rfl
theorem pr9 (i : Nat) : G.pre 9 i = [] := rfl
theorem qyd : G.owned 15 = false := rfl
theorem zki : G.keep 15 = false := rfl
theorem ziv (i : Nat) : G.pre 15 i = [] := rfl
theorem z2h : G.owned 19 = false := rfl
theorem zfq : G.keep 19 = false := rfl
theorem z3i (i : Nat) : G.pre 19 i = [] := rfl
theorem zp1 : G.owned 20 = false := rfl
theorem z2r : G.keep 20 = false := rfl
theorem zd7 (i : Nat) : G.pre 20 i = [] := rfl
theorem qze : G.owned 22 = false := rfl
theorem zce : G.keep 22 = false := rfl
theorem zbm (i : Nat) : G.pre 22 i = [] := rfl
theorem qte : G.owned 23 = false := rfl
theorem zjk : G.keep 23 = false := rfl
theorem qz9 (i : Nat) : G.pre 23 i = [] := rfl
theorem znd : G.owned 24 = false := rfl
theorem qsq : G.keep 24 = false := rfl
theorem zmp (i : Nat) : G.pre 24 i = [] := rfl
theorem qvs : G.owned 36 = false := rfl
theorem qps : G.keep 36 = false := rfl
theorem zlb (i : Nat) : G.pre 36 i = [] := rfl
theorem qzs : G.owned 37 = false := rfl
theorem z5z : G.keep 37 = false := rfl
theorem qqt (i : Nat) : G.pre 37 i = [] := rfl
theorem zmh : G.owned 38 = false := rfl
theorem qrf : G.keep 38 = false := rfl
theorem z03 (i : Nat) : G.pre 38 i = [] := rfl
theorem qxn : G.owned 39 = false := rfl
theorem z3c : G.keep 39 = false := rfl
theorem zmk (i : Nat) : G.pre 39 i = [] := rfl
theorem qx0 : G.owned 40 = false := rfl
theorem z7b : G.keep 40 = false := rfl
theorem zj7 (i : Nat) : G.pre 40 i = [] := rfl
theorem zne : G.owned 41 = false := rfl
theorem z9k : G.keep 41 = false := rfl
theorem zp0 (i : Nat) : G.pre 41 i = [] := rfl
theorem qum : G.owned 42 = false := rfl
theorem z9g : G.keep 42 = false := rfl
theorem zbi (i : Nat) : G.pre 42 i = [] := rfl
theorem zev : G.owned 43 = false := rfl
theorem qtc : G.keep 43 = false := rfl
theorem zkv (i : Nat) : G.pre 43 i = [] := rfl
theorem qtg : G.owned 44 = false := rfl
theorem zq7 : G.keep 44 = false := rfl
theorem zls (i : Nat) : G.pre 44 i = [] := rfl
theorem qxk : G.owned 45 = true := rfl
theorem z14 : G.keep 45 = true := rfl
theorem zae (i : Nat) : G.pre 45 i = [] := rfl
theorem z1o : G.owned 48 = false := rfl
theorem zhn : G.keep 48 = false := rfl
theorem z0d (i : Nat) : G.pre 48 i = [] := rfl
theorem z10 : G.owned 52 = false := rfl
theorem zl3 : G.keep 52 = false := rfl
theorem z7x (i : Nat) : G.pre 52 i = [] := rfl
theorem zcv : G.owned 53 = false := rfl
theorem zl4 : G.keep 53 = false := rfl
theorem zar (i : Nat) : G.pre 53 i = [] := rfl
theorem zqb : G.owned 54 = false := rfl
theorem zgb : G.keep 54 = false := rfl
theorem quv (i : Nat) : G.pre 54 i = [] := rfl
theorem zqj : G.owned 55 = false := rfl
theorem zcp : G.keep 55 = false := rfl
theorem z18 (i : Nat) : G.pre 55 i = [] := rfl
theorem zc8 : G.owned 56 = false := rfl
theorem z8k : G.keep 56 = false := rfl
theorem z4j (i : Nat) : G.pre 56 i = [] := rfl
theorem z7u : G.owned 57 = false := rfl
theorem zit : G.keep 57 = false := rfl
theorem zh9 (i : Nat) : G.pre 57 i = [] := rfl
theorem zht : G.owned 58 = false := rfl
theorem z9m : G.keep 58 = false := rfl
theorem qt1 (i : Nat) : G.pre 58 i = [] := rfl
theorem zom : G.owned 59 = false := rfl
theorem zed : G.keep 59 = false := rfl
theorem qq3 (i : Nat) : G.pre 59 i = [] := rfl
theorem qvb : G.owned 60 = false := rfl
theorem zok : G.keep 60 = false := rfl
theorem zga (i : Nat) : G.pre 60 i = [] := rfl
theorem zj8 : G.owned 61 = false := rfl
theorem z7f : G.keep 61 = false := rfl
theorem qwp (i : Nat) : G.pre 61 i = [] := rfl
theorem qxb : G.owned 62 = false := rfl
theorem zpw : G.keep 62 = false := rfl
theorem zmi (i : Nat) : G.pre 62 i = [] := rfl
theorem z5i : G.owned 63 = false := rfl
theorem qr9 : G.keep 63 = false := rfl
theorem zcc (i : Nat) : G.pre 63 i = [] := rfl
theorem qrd : G.owned 64 = false := rfl
theorem zcm : G.keep 64 = false := rfl
theorem zi3 (i : Nat) : G.pre 64 i = [] := rfl
theorem qxa : G.owned 65 = true := rfl
theorem qyz : G.keep 65 = false := rfl
theorem z08 (i : Nat) : G.pre 65 i = [] := rfl
theorem zn1 : G.owned 66 = true := rfl
theorem qui : G.keep 66 = true := rfl
theorem z2t (i : Nat) : G.pre 66 i = [] := rfl
theorem zj2 : G.owned 67 = false := rfl
theorem z4s : G.keep 67 = false := rfl
theorem z9b (i : Nat) : G.pre 67 i = [] := rfl
theorem zbv : G.owned 71 = false := rfl
theorem zhw : G.keep 71 = false := rfl
theorem zm9 (i : Nat) : G.pre 71 i = [] := rfl
theorem z0p : G.owned 72 = false := rfl
theorem z6t : G.keep 72 = false := rfl
theorem zmv (i : Nat) : G.pre 72 i = [] := rfl
theorem z4t : G.owned 73 = false := rfl
theorem qyq : G.keep 73 = false := rfl
theorem qzd (i : Nat) : G.pre 73 i = [] := rfl
theorem zis : G.owned 74 = false := rfl
theorem z9f : G.keep 74 = false := rfl
theorem zc4 (i : Nat) : G.pre 74 i = [] := rfl
theorem zd3 : G.owned 75 = false := rfl
theorem zdh : G.keep 75 = false := rfl
theorem qw6 (i : Nat) : G.pre 75 i = [] := rfl
theorem qxp : G.owned 76 = false := rfl
theorem zmg : G.keep 76 = false := rfl
theorem zh2 (i : Nat) : G.pre 76 i = [] := rfl
theorem qqm : G.owned 77 = false := rfl
theorem qpm : G.keep 77 = false := rfl
theorem qve (i : Nat) : G.pre 77 i = [] := rfl
theorem z1c : G.owned 78 = false := rfl
theorem zli : G.keep 78 = false := rfl
theorem zgj (i : Nat) : G.pre 78 i = [] := rfl
theorem qri : G.owned 79 = false := rfl
theorem qpj : G.keep 79 = false := rfl
theorem z5t (i : Nat) : G.pre 79 i = [] := rfl
theorem qvl : G.owned 80 = false := rfl
theorem qvk : G.keep 80 = false := rfl
theorem zcg (i : Nat) : G.pre 80 i = [] := rfl
theorem qqr : G.owned 81 = false := rfl
theorem z8o : G.keep 81 = false := rfl
theorem qvx (i : Nat) : G.pre 81 i = [] := rfl
theorem zjm : G.owned 93 = false := rfl
theorem zh3 : G.keep 93 = false := rfl
theorem z1a (i : Nat) : G.pre 93 i = [] := rfl
theorem zno : G.owned 94 = false := rfl
theorem zq4 : G.keep 94 = false := rfl
theorem qsv (i : Nat) : G.pre 94 i = [] := rfl
theorem zm8 : G.owned 95 = false := rfl
theorem qxh : G.keep 95 = false := rfl
theorem z6c (i : Nat) : G.pre 95 i = [] := rfl
theorem z4d : G.owned 96 = false := rfl
theorem zl1 : G.keep 96 = false := rfl
theorem qul (i : Nat) : G.pre 96 i = [] := rfl
theorem qse : G.owned 97 = false := rfl
theorem zhv : G.keep 97 = false := rfl
theorem qud (i : Nat) : G.pre 97 i = [] := rfl
theorem znl : G.owned 98 = false := rfl
theorem qz2 : G.keep 98 = false := rfl
theorem z0u (i : Nat) : G.pre 98 i = [] := rfl
theorem zaz : G.owned 99 = true := rfl
theorem zaw : G.keep 99 = true := rfl
theorem z6o (i : Nat) : G.pre 99 i = [] := rfl
theorem qta : G.owned 100 = false := rfl
theorem zq3 : G.keep 100 = false := rfl
theorem qxc (i : Nat) : G.pre 100 i = [] := rfl
theorem qvg : G.owned 101 = false := rfl
theorem zgd : G.keep 101 = false := rfl
theorem qzn (i : Nat) : G.pre 101 i = [] := rfl
theorem zd9 : G.owned 102 = false := rfl
theorem zmy : G.keep 102 = false := rfl
theorem zeu (i : Nat) : G.pre 102 i = [] := rfl
theorem zbh : G.owned 103 = false := rfl
theorem zq6 : G.keep 103 = false := rfl
theorem zcn (i : Nat) : G.pre 103 i = [] := rfl
theorem qzr : G.owned 104 = false := rfl
theorem qwc : G.keep 104 = false := rfl
theorem qx1 (i : Nat) : G.pre 104 i = [] := rfl
theorem qqj : G.owned 111 = false := rfl
theorem z2k : G.keep 111 = false := rfl
theorem zpg (i : Nat) : G.pre 111 i = [] := rfl
theorem zcu : G.owned 112 = false := rfl
theorem zkb : G.keep 112 = false := rfl
theorem qwt (i : Nat) : G.pre 112 i = [] := rfl
theorem zjh : G.owned 113 = false := rfl
theorem z3b : G.keep 113 = false := rfl
theorem zde (i : Nat) : G.pre 113 i = [] := rfl
theorem zij : G.owned 114 = false := rfl
theorem zew : G.keep 114 = false := rfl
theorem qvc (i : Nat) : G.pre 114 i = [] := rfl
theorem z7e : G.owned 115 = false := rfl
theorem qsh : G.keep 115 = false := rfl
theorem zan (i : Nat) : G.pre 115 i = [] := rfl
theorem zp7 : G.owned 116 = false := rfl
theorem zq8 : G.keep 116 = false := rfl
theorem zbe (i : Nat) : G.pre 116 i = [] := rfl
theorem zf2 : G.owned 117 = false := rfl
theorem qt7 : G.keep 117 = false := rfl
theorem zfv (i : Nat) : G.pre 117 i = [] := rfl
theorem qy3 : G.owned 118 = false := rfl
theorem z6l : G.keep 118 = false := rfl
theorem zb0 (i : Nat) : G.pre 118 i = [] := rfl
theorem zie : G.owned 119 = false := rfl
theorem qun : G.keep 119 = false := rfl
theorem qxd (i : Nat) : G.pre 119 i = [] := rfl
theorem z19 : G.owned 120 = false := rfl
theorem qu4 : G.keep 120 = false := rfl
theorem zhg (i : Nat) : G.pre 120 i = [] := rfl
theorem qry : G.owned 121 = false := rfl
theorem zme : G.keep 121 = true := rfl
theorem zmc (i : Nat) : G.pre 121 i = [] := rfl
theorem z9i : G.owned 122 = false := rfl
theorem zaq : G.keep 122 = false := rfl
theorem qt0 (i : Nat) : G.pre 122 i = [] := rfl
theorem zjn : G.owned 123 = false := rfl
theorem z9u : G.keep 123 = false := rfl
theorem zpc (i : Nat) : G.pre 123 i = [] := rfl
theorem zqv : G.owned 124 = false := rfl
theorem qv5 : G.keep 124 = false := rfl
theorem qv1 (i : Nat) : G.pre 124 i = [] := rfl
theorem zjt : G.owned 125 = false := rfl
theorem qyi : G.keep 125 = false := rfl
theorem z4u (i : Nat) : G.pre 125 i = [] := rfl
theorem zgp : G.owned 127 = false := rfl
theorem qt4 : G.keep 127 = false := rfl
theorem zcf (i : Nat) : G.pre 127 i = [] := rfl
theorem qrq : G.owned 128 = false := rfl
theorem qza : G.keep 128 = false := rfl
theorem qy5 (i : Nat) : G.pre 128 i = [] := rfl
theorem z3n : G.owned 129 = false := rfl
theorem zni : G.keep 129 = false := rfl
theorem zg1 (i : Nat) : G.pre 129 i = [] := rfl
theorem z9t : G.owned 130 = false := rfl
theorem zl9 : G.keep 130 = false := rfl
theorem zhl (i : Nat) : G.pre 130 i = [] := rfl
theorem ziz : G.owned 131 = false := rfl
theorem qzz : G.keep 131 = false := rfl
theorem z2d (i : Nat) : G.pre 131 i = [] := rfl
theorem zdf : G.owned 132 = false := rfl
theorem zjl : G.keep 132 = false := rfl
theorem zjv (i : Nat) : G.pre 132 i = [] := rfl
theorem zgs : G.owned 133 = false := rfl
theorem qr0 : G.keep 133 = false := rfl
theorem zph (i : Nat) : G.pre 133 i = [] := rfl
theorem qso : G.owned 134 = false := rfl
theorem z9q : G.keep 134 = false := rfl
theorem qt6 (i : Nat) : G.pre 134 i = [] := rfl
theorem zlu : G.owned 135 = false := rfl
theorem qzb : G.keep 135 = false := rfl
theorem qsb (i : Nat) : G.pre 135 i = [] := rfl
theorem zoc : G.owned 136 = false := rfl
theorem zbg : G.keep 136 = false := rfl
theorem zkx (i : Nat) : G.pre 136 i = [] := rfl
theorem z0q : G.owned 137 = false := rfl
theorem zoz : G.keep 137 = false := rfl
theorem qup (i : Nat) : G.pre 137 i = [] := rfl
theorem qqf : G.owned 138 = false := rfl
theorem z6j : G.keep 138 = false := rfl
theorem qyn (i : Nat) : G.pre 138 i = [] := rfl
theorem zi7 : G.owned 139 = false := rfl
theorem zkp : G.keep 139 = false := rfl
theorem zgg (i : Nat) : G.pre 139 i = [] := rfl
theorem z9z : G.owned 140 = false := rfl
theorem qzq : G.keep 140 = false := rfl
theorem z2s (i : Nat) : G.pre 140 i = [] := rfl
theorem zp5 : G.owned 141 = false := rfl
theorem zm6 : G.keep 141 = false := rfl
theorem zf8 (i : Nat) : G.pre 141 i = [] := rfl
theorem z6x : G.owned 142 = false := rfl
theorem qwj : G.keep 142 = false := rfl
theorem qrh (i : Nat) : G.pre 142 i = [] := rfl
theorem z7h : G.owned 143 = false := rfl
theorem zio : G.keep 143 = false := rfl
theorem zcs (i : Nat) : G.pre 143 i = [] := rfl
theorem zho : G.owned 144 = false := rfl
theorem zlt : G.keep 144 = false := rfl
theorem qzu (i : Nat) : G.pre 144 i = [] := rfl
theorem z7c : G.owned 145 = false := rfl
theorem zdi : G.keep 145 = false := rfl
theorem qxq (i : Nat) : G.pre 145 i = [] := rfl
theorem zel : G.owned 146 = false := rfl
theorem qtq : G.keep 146 = false := rfl
theorem zec (i : Nat) : G.pre 146 i = [] := rfl
theorem zdc : G.owned 147 = false := rfl
theorem zp4 : G.keep 147 = false := rfl
theorem zlj (i : Nat) : G.pre 147 i = [] := rfl
theorem zoy : G.owned 148 = false := rfl
theorem z7v : G.keep 148 = false := rfl
theorem z0w (i : Nat) : G.pre 148 i = [] := rfl
theorem qwh : G.owned 149 = false := rfl
theorem quq : G.keep 149 = false := rfl
theorem qts (i : Nat) : G.pre 149 i = [] := rfl
theorem zl2 : G.owned 150 = false := rfl
theorem zke : G.keep 150 = false := rfl
theorem z0g (i : Nat) : G.pre 150 i = [] := rfl
theorem znj : G.owned 151 = false := rfl
theorem zdo : G.keep 151 = false := rfl
theorem zla (i : Nat) : G.pre 151 i = [] := rfl
theorem qrt : G.owned 152 = false := rfl
theorem zhm : G.keep 152 = false := rfl
theorem zqr (i : Nat) : G.pre 152 i = [] := rfl
theorem zkj : G.owned 153 = false := rfl
theorem za9 : G.keep 153 = false := rfl
theorem zdl (i : Nat) : G.pre 153 i = [] := rfl
theorem zhz : G.owned 154 = false := rfl
theorem zjd : G.keep 154 = false := rfl
theorem qyc (i : Nat) : G.pre 154 i = [] := rfl
theorem z9x : G.owned 155 = false := rfl
theorem qyy : G.keep 155 = false := rfl
theorem qxw (i : Nat) : G.pre 155 i = [] := rfl
theorem quh : G.owned 156 = false := rfl
theorem z2l : G.keep 156 = false := rfl
theorem zk3 : G.pre 156 0 = [] := rfl
theorem qpk : G.pre 156 1 = [] := rfl
theorem z9j : G.pre 156 2 = [] := rfl
theorem z07 : G.pre 156 3 = [] := rfl
theorem zh1 : G.pre 156 4 = [] := rfl
theorem qv4 : G.pre 156 5 = [] := rfl
theorem zqy : G.pre 156 6 = [] := rfl
theorem qwf : G.pre 156 7 = [11] := rfl
theorem qww : G.pre 156 8 = [] := rfl
theorem qrp : G.pre 156 9 = [] := rfl
theorem zm5 : G.pre 156 10 = [] := rfl
theorem qux : G.pre 156 11 = [] := rfl
theorem zmu : G.pre 156 12 = [] := rfl
theorem z6y : G.pre 156 13 = [] := rfl
theorem ze9 : G.pre 156 14 = [] := rfl
theorem z1m : G.pre 156 15 = [] := rfl
theorem zen : G.pre 156 16 = [] := rfl
theorem qzg : G.pre 156 17 = [] := rfl
theorem z3f : G.pre 156 18 = [] := rfl
theorem z4f : G.pre 156 19 = [] := rfl
theorem z5v : G.pre 156 20 = [] := rfl
theorem z5g : G.pre 156 21 = [] := rfl
theorem zp8 : G.pre 156 22 = [] := rfl
theorem qw4 : G.pre 156 23 = [] := rfl
theorem z6k : G.pre 156 24 = [] := rfl
theorem zia : G.pre 156 25 = [] := rfl
theorem zax : G.pre 156 26 = [] := rfl
theorem zbq : G.pre 156 27 = [] := rfl
theorem qwo : G.pre 156 28 = [] := rfl
theorem zf5 : G.pre 156 29 = [] := rfl
theorem z0f : G.pre 156 30 = [] := rfl
theorem qw3 : G.pre 156 31 = [] := rfl
theorem qzj : G.pre 156 32 = [] := rfl
theorem zbr : G.pre 156 33 = [] := rfl
theorem z1f : G.pre 156 34 = [] := rfl
theorem qwz : G.pre 156 35 = [] := rfl
theorem ziq : G.pre 156 36 = [] := rfl
theorem z0l : G.pre 156 37 = [] := rfl
theorem qsz : G.pre 156 38 = [] := rfl
theorem zl8 : G.pre 156 39 = [] := rfl
theorem zms : G.pre 156 40 = [] := rfl
theorem zoq : G.pre 156 41 = [] := rfl
theorem zqf : G.pre 156 42 = [] := rfl
theorem znn : G.pre 156 43 = [] := rfl
theorem zee : G.pre 156 44 = [] := rfl
theorem qvy : G.pre 156 45 = [] := rfl
theorem zfx : G.pre 156 46 = [] := rfl
theorem zf4 : G.pre 156 47 = [] := rfl
theorem z1p : G.pre 156 48 = [] := rfl
theorem zpd : G.pre 156 49 = [] := rfl
theorem qty : G.pre 156 50 = [] := rfl
theorem za3 : G.pre 156 51 = [] := rfl
theorem zo5 : G.pre 156 52 = [] := rfl
theorem z95 : G.pre 156 53 = [] := rfl
theorem z5f : G.pre 156 54 = [] := rfl
theorem zll : G.pre 156 55 = [] := rfl
theorem qyo : G.pre 156 56 = [] := rfl
theorem zg2 : G.pre 156 57 = [] := rfl
theorem zpi : G.pre 156 58 = [] := rfl
theorem zep : G.pre 156 59 = [] := rfl
theorem qpt : G.pre 156 60 = [] := rfl
theorem z7o : G.pre 156 61 = [] := rfl
theorem qyj : G.pre 156 62 = [] := rfl
theorem qzv : G.pre 156 63 = [] := rfl
theorem zqx : G.pre 156 64 = [] := rfl
theorem z15 : G.pre 156 65 = [] := rfl
theorem qs6 : G.pre 156 66 = [] := rfl
theorem ze1 : G.owned 157 = false := rfl
theorem zoj : G.keep 157 = false := rfl
theorem zow (i : Nat) : G.pre 157 i = [] := rfl
theorem z2m : G.owned 158 = false := rfl
theorem zk9 : G.keep 158 = false := rfl
theorem z2q (i : Nat) : G.pre 158 i = [] := rfl
theorem zn9 : G.owned 159 = false := rfl
theorem qsr : G.keep 159 = false := rfl
theorem qv7 (i : Nat) : G.pre 159 i = [] := rfl
theorem z8a : G.owned 160 = false := rfl
theorem zh0 : G.keep 160 = false := rfl
theorem z9p (i : Nat) : G.pre 160 i = [] := rfl
theorem zpx : G.owned 161 = false := rfl
theorem z5l : G.keep 161 = false := rfl
theorem z2a (i : Nat) : G.pre 161 i = [] := rfl
theorem qxz : G.owned 162 = false := rfl
theorem qu3 : G.keep 162 = false := rfl
theorem qyh (i : Nat) : G.pre 162 i = [] := rfl
theorem zdj : G.spec 7 0 = ⟨[1,4,9,11,12],[4,11],[],[(11,2)],[],0⟩ := rfl
theorem qxj : G.spec 9 0 = ⟨[2,5,18,19,20],[4],[],[],[18],0⟩ := rfl
theorem z8d : G.spec 15 0 = ⟨[1,3],[2],[],[],[],0⟩ := rfl
theorem qpv : G.spec 15 2 = ⟨[1,3,4],[1,2,3],[],[],[],0⟩ := rfl
theorem zmb : G.spec 15 4 = ⟨[1,3,4,5,6],[1,3,4,5],[],[],[],0⟩ := rfl
theorem qq0 : G.spec 19 0 = ⟨[0,4,5],[4],[],[],[],0⟩ := rfl
theorem qwx : G.spec 20 0 = ⟨[11,12,13],[11,12],[],[],[],0⟩ := rfl
theorem zhx : G.spec 20 2 = ⟨[15,17,19,20],[15,17,19],[],[],[],0⟩ := rfl
theorem z0r : G.spec 23 0 = ⟨[1,2,5],[1,2,4],[],[],[],0⟩ := rfl
theorem zjc : G.spec 38 0 = ⟨[0,1,2,8,9],[0,1,2,8,9],[8,9],[],[],2⟩ := rfl
theorem zon : G.spec 39 0 = ⟨[0,3,4],[3],[],[],[],0⟩ := rfl
theorem qx5 : G.spec 41 0 = ⟨[0,1,2,6],[],[],[(0,3),(0,4),(0,5)],[],0⟩ := rfl
theorem zmt : G.spec 42 0 = ⟨[0,2,3],[0,2],[],[],[],0⟩ := rfl
theorem qwi : G.spec 42 2 = ⟨[0,2,4],[0],[],[],[],0⟩ := rfl
theorem zam : G.spec 42 4 = ⟨[0,5,6],[],[5],[],[],0⟩ := rfl
theorem zjr : G.spec 43 0 = ⟨[0,3],[2],[],[],[],0⟩ := rfl
theorem z6z : G.spec 43 2 = ⟨[0,3,4,5],[0,3,4],[],[],[],0⟩ := rfl
theorem quw : G.spec 44 0 = ⟨[0,1,3,10,11],[8,9,10],[],[(1,0),(1,1)],[],0⟩ := rfl
theorem zba : G.spec 45 0 = ⟨[0,1,2,3,5,6,16],[2,6],[2],[],[],0⟩ := rfl
theorem zmm : G.spec 53 0 = ⟨[0,4,7,8],[0,4,7,8],[7],[],[],0⟩ := rfl
theorem zpv : G.spec 53 2 = ⟨[0,4,12,14],[0,4,5,6,12,14],[],[],[],0⟩ := rfl
theorem zkg : G.spec 54 0 = ⟨[0,1,6,7],[0,1,6,7],[6,7],[],[],2⟩ := rfl
theorem z8s : G.spec 56 0 = ⟨[0,3,4],[3],[3],[],[],0⟩ := rfl
theorem qsu : G.spec 57 0 = ⟨[0,3],[2],[],[],[],0⟩ := rfl
theorem z4r : G.spec 59 0 = ⟨[0,1,2,7,8,9],[7],[7],[],[],0⟩ := rfl
theorem zi0 : G.spec 60 0 = ⟨[0,1,6],[4,5],[],[],[],0⟩ := rfl
theorem z4g : G.spec 61 0 = ⟨[0,3,4],[2],[],[],[],0⟩ := rfl
theorem zbk : G.spec 62 0 = ⟨[0,3,5,8,9,10],[0,3,5,8,9],[],[(9,17)],[],0⟩ := rfl
theorem zlo : G.spec 63 0 = ⟨[0,1,5],[0,1,4],[],[],[],0⟩ := rfl
theorem z7w : G.spec 64 0 = ⟨[0,1,5],[4],[],[],[],0⟩ := rfl
theorem qrb : G.spec 65 0 = ⟨[0,1,5],[4],[],[],[],0⟩ := rfl
theorem qzt : G.spec 66 0 = ⟨[0,1,2,7],[2],[2],[],[],0⟩ := rfl
theorem qss : G.spec 71 0 = ⟨[0,1,7,8],[0,1,7,8],[],[],[],0⟩ := rfl
theorem zn4 : G.spec 72 0 = ⟨[0,1,7],[0,1,7],[],[],[],0⟩ := rfl
theorem zdv : G.spec 74 0 = ⟨[0,1,7],[0,1,7],[7],[],[],0⟩ := rfl
theorem zej : G.spec 75 0 = ⟨[2,3,5],[4],[],[],[],0⟩ := rfl
theorem zgm : G.spec 77 0 = ⟨[0,3],[2],[],[],[],0⟩ := rfl
theorem qsj : G.spec 79 0 = ⟨[0,1,5],[4],[],[],[],0⟩ := rfl
theorem qw9 : G.spec 81 0 = ⟨[1,3,9,10,14,15,16],[1,6,7,8,10,14,15],[],[],[],0⟩ := rfl
theorem ze2 : G.spec 95 0 = ⟨[0,3,4,5],[3],[3],[],[],0⟩ := rfl
theorem zqa : G.spec 96 0 = ⟨[0,1,4,6],[4,5],[6],[],[],0⟩ := rfl
theorem z4z : G.spec 96 2 = ⟨[0,1,4,6,7],[0,1,4,5,6,7],[7],[],[],0⟩ := rfl
theorem zjw : G.spec 97 1 = ⟨[0,4,8,10,11],[4,5,6],[],[],[],0⟩ := rfl
theorem qr5 : G.spec 100 0 = ⟨[2,3,5],[2,3,4],[],[],[],0⟩ := rfl
theorem z8q : G.spec 100 2 = ⟨[2,3,6],[4],[],[],[],0⟩ := rfl
theorem qqh : G.spec 102 0 = ⟨[4,11,12,13],[8,9,10,11,12],[12],[],[],0⟩ := rfl
theorem z3o : G.spec 104 0 = ⟨[1,3,5,7,8],[3,7],[7],[],[],0⟩ := rfl
theorem z1y : G.spec 118 0 = ⟨[0,1,2,9],[0,1,9],[9],[],[],0⟩ := rfl
theorem zpk : G.spec 120 0 = ⟨[0,3],[2],[],[],[],0⟩ := rfl
theorem zny : G.spec 122 0 = ⟨[0,2,4,6],[6,7],[],[],[],0⟩ := rfl
theorem zgf : G.spec 123 0 = ⟨[0,1,5],[4],[],[],[],0⟩ := rfl
theorem zkm : G.spec 125 0 = ⟨[0,1,5,6],[5],[],[],[],0⟩ := rfl
theorem z4l : G.spec 129 0 = ⟨[0,1,5,6],[5],[5],[],[],0⟩ := rfl
theorem z3y : G.spec 130 0 = ⟨[1,3,4],[3],[],[],[],0⟩ := rfl
theorem zoi : G.spec 131 0 = ⟨[1,3,4],[1,3],[],[],[],0⟩ := rfl
theorem z6v : G.spec 132 0 = ⟨[1,3,4],[1,2,3],[],[],[],0⟩ := rfl
theorem zpo : G.spec 132 3 = ⟨[1,3,5],[1,2,3],[],[],[],0⟩ := rfl
theorem z0a : G.spec 132 5 = ⟨[1,3,6],[1,2,3],[],[],[],0⟩ := rfl
theorem zp9 : G.spec 133 0 = ⟨[0,3,4],[3],[3],[],[],0⟩ := rfl
theorem zab : G.spec 134 0 = ⟨[0,2,4,6,8,9],[0,2,4,6,8],[8],[],[],0⟩ := rfl
theorem zfz : G.spec 135 1 = ⟨[6,7],[6],[],[],[],0⟩ := rfl
theorem zk1 : G.spec 135 3 = ⟨[6,8],[6],[],[],[],0⟩ := rfl
theorem znv : G.spec 135 5 = ⟨[1,9,10,11],[10],[],[],[],0⟩ := rfl
theorem qu6 : G.spec 136 0 = ⟨[0,2,4,5],[2,3,4,5],[5],[],[],0⟩ := rfl
theorem zov : G.spec 139 0 = ⟨[0,4,5],[4,5],[],[],[],0⟩ := rfl
theorem zbw : G.spec 141 0 = ⟨[0,3],[2],[],[],[],0⟩ := rfl
theorem z2e : G.spec 143 0 = ⟨[1,3,4],[3],[],[],[],0⟩ := rfl
theorem zdn : G.spec 144 1 = ⟨[0,1,2,3,12,13,14],[0,2,3,12],[],[],[],0⟩ := rfl
theorem zi2 : G.spec 144 3 = ⟨[0,1,2,3,15,16],[8,9,10],[],[],[],0⟩ := rfl
theorem zpu : G.spec 147 0 = ⟨[0,3,4],[3],[3],[],[],0⟩ := rfl
theorem qx2 : G.spec 149 0 = ⟨[0,3,4],[3],[],[],[3],0⟩ := rfl
theorem z7i : G.spec 149 2 = ⟨[0,3,4,5,6],[0,3,4,5,6],[],[],[],0⟩ := rfl
theorem qyu : G.spec 149 4 = ⟨[3,7,8],[7],[7],[],[],0⟩ := rfl
theorem z5e : G.spec 150 0 = ⟨[3,4],[3],[],[],[],0⟩ := rfl
theorem zj9 : G.spec 156 0 = ⟨[0,1,2,11,12],[0,1,2,11],[],[],[],0⟩ := rfl
theorem qwu : G.spec 161 0 = ⟨[0,1,5],[4],[],[],[],0⟩ := rfl
theorem zmj : G.spec 162 0 = ⟨[3,4],[3],[],[],[],0⟩ := rfl
theorem fz1 : G.frz 1 = false := rfl
theorem fz2 : G.frz 2 = false := rfl
theorem fz3 : G.frz 3 = false := rfl
theorem fz4 : G.frz 4 = false := rfl
theorem fz5 : G.frz 5 = false := rfl
theorem fz6 : G.frz 6 = false := rfl
theorem fz7 : G.frz 7 = false := rfl
theorem fz8 : G.frz 8 = false := rfl
theorem fz9 : G.frz 9 = false := rfl
theorem zaa : G.frz 10 = false := rfl
theorem z9v : G.frz 11 = false := rfl
theorem qxi : G.frz 12 = false := rfl
theorem zl0 : G.frz 13 = false := rfl
theorem zlg : G.frz 14 = false := rfl
theorem zao : G.frz 15 = false := rfl
theorem zck : G.frz 16 = false := rfl
theorem zdr : G.frz 17 = false := rfl
theorem zhi : G.frz 18 = false := rfl
theorem qtl : G.frz 19 = false := rfl
theorem qx8 : G.frz 20 = false := rfl
theorem qzm : G.frz 21 = false := rfl
theorem qu7 : G.frz 22 = false := rfl
theorem zko : G.frz 23 = false := rfl
theorem z88 : G.frz 24 = false := rfl
theorem qyt : G.frz 25 = false := rfl
theorem qqa : G.frz 26 = false := rfl
theorem qr8 : G.frz 28 = false := rfl
theorem qwq : G.frz 29 = false := rfl
theorem qql : G.frz 30 = false := rfl
theorem z7l : G.frz 31 = false := rfl
theorem qyx : G.frz 32 = false := rfl
theorem zjg : G.frz 33 = false := rfl
theorem zkh : G.frz 34 = false := rfl
theorem qqd : G.frz 35 = false := rfl
theorem qwg : G.frz 36 = false := rfl
theorem z3k : G.frz 37 = false := rfl
theorem z13 : G.frz 38 = false := rfl
theorem qpi : G.frz 39 = false := rfl
theorem zd2 : G.frz 40 = false := rfl
theorem zpl : G.frz 41 = false := rfl
theorem z3p : G.frz 42 = false := rfl
theorem z0c : G.frz 43 = false := rfl
theorem qsy : G.frz 44 = false := rfl
theorem zmn : G.frz 45 = false := rfl
theorem zlv : G.frz 46 = false := rfl
theorem zkl : G.frz 47 = false := rfl
theorem qxr : G.frz 48 = false := rfl
theorem zjo : G.frz 49 = false := rfl
theorem z5c : G.frz 50 = false := rfl
theorem zdw : G.frz 51 = false := rfl
theorem zhj : G.frz 52 = false := rfl
theorem qt3 : G.frz 53 = false := rfl
theorem z0s : G.frz 54 = false := rfl
theorem zml : G.frz 55 = false := rfl
theorem zd1 : G.frz 56 = false := rfl
theorem z7k : G.frz 58 = false := rfl
theorem qqe : G.frz 60 = false := rfl
theorem z9r : G.frz 62 = false := rfl
theorem zq9 : G.frz 63 = false := rfl
theorem zhu : G.frz 64 = false := rfl
theorem qq5 : G.frz 65 = false := rfl
theorem qv9 : G.frz 66 = false := rfl
theorem z1u : G.frz 67 = false := rfl
theorem z3t : G.frz 68 = false := rfl
theorem znf : G.frz 69 = false := rfl
theorem zgx : G.frz 70 = false := rfl
theorem zfr : G.frz 71 = false := rfl
theorem z7s : G.frz 72 = false := rfl
theorem zcy : G.frz 73 = false := rfl
theorem z8r : G.frz 74 = false := rfl
theorem qs8 : G.frz 75 = false := rfl
theorem z8h : G.frz 76 = false := rfl
theorem qwa : G.frz 77 = false := rfl
theorem z4y : G.frz 78 = false := rfl
theorem z8b : G.frz 79 = false := rfl
theorem zoh : G.frz 80 = false := rfl
theorem qru : G.frz 81 = false := rfl
theorem z8e : G.frz 82 = false := rfl
theorem qz6 : G.frz 83 = false := rfl
theorem qrg : G.frz 85 = false := rfl
theorem zbl : G.frz 87 = false := rfl
theorem qro : G.frz 88 = false := rfl
theorem z8x : G.frz 89 = false := rfl
theorem ziy : G.frz 90 = false := rfl
theorem qu0 : G.frz 91 = false := rfl
theorem z1d : G.frz 92 = false := rfl
theorem qvu : G.frz 93 = false := rfl
theorem quz : G.frz 94 = false := rfl
theorem zh6 : G.frz 95 = false := rfl
theorem z5a : G.frz 96 = false := rfl
theorem zik : G.frz 97 = false := rfl
theorem z0j : G.frz 98 = false := rfl
theorem zgr : G.frz 99 = false := rfl
theorem z5n : G.frz 100 = false := rfl
theorem zku : G.frz 102 = false := rfl
theorem z7q : G.frz 104 = false := rfl
theorem qw0 : G.frz 105 = false := rfl
theorem qpu : G.frz 106 = false := rfl
theorem zcq : G.frz 107 = false := rfl
theorem z05 : G.frz 109 = false := rfl
theorem zka : G.frz 111 = false := rfl
theorem qvt : G.frz 112 = false := rfl
theorem qws : G.frz 113 = false := rfl
theorem zob : G.frz 114 = false := rfl
theorem qu2 : G.frz 115 = false := rfl
theorem zi4 : G.frz 116 = false := rfl
theorem zf6 : G.frz 118 = false := rfl
theorem zn7 : G.frz 119 = false := rfl
theorem que : G.frz 120 = false := rfl
theorem z8g : G.frz 121 = false := rfl
theorem zqo : G.frz 122 = false := rfl
theorem z1z : G.frz 123 = false := rfl
theorem qvv : G.frz 124 = false := rfl
theorem qti : G.frz 125 = false := rfl
theorem z2j : G.frz 126 = false := rfl
theorem zg4 : G.frz 128 = false := rfl
theorem zek : G.frz 130 = false := rfl
theorem zmq : G.frz 132 = false := rfl
theorem zk2 : G.frz 134 = false := rfl
theorem zpy : G.frz 135 = false := rfl
theorem zfp : G.frz 136 = false := rfl
theorem zd4 : G.frz 137 = false := rfl
theorem qx9 : G.frz 138 = false := rfl
theorem ze6 : G.frz 139 = false := rfl
theorem zci : G.frz 141 = false := rfl
theorem qvp : G.frz 142 = false := rfl
theorem zhh : G.frz 143 = false := rfl
theorem zle : G.frz 145 = false := rfl
theorem qyw : G.frz 146 = false := rfl
theorem znh : G.frz 147 = false := rfl
theorem zf3 : G.frz 148 = false := rfl
theorem z5x : G.frz 149 = false := rfl
theorem qwb : G.frz 150 = false := rfl
theorem qtw : G.frz 151 = false := rfl
theorem zot : G.frz 152 = false := rfl
theorem z7t : G.frz 153 = false := rfl
theorem qu8 : G.frz 154 = false := rfl
theorem z4x : G.frz 155 = false := rfl
theorem zgh : G.frz 156 = false := rfl
theorem z2g : G.frz 157 = false := rfl
theorem zea : G.frz 158 = false := rfl
theorem zpe : G.frz 159 = false := rfl
theorem zky : G.frz 160 = false := rfl
theorem zet : G.frz 162 = false := rfl
theorem qye : G.frz 163 = false := rfl
theorem zix : G.frz 164 = false := rfl
theorem zeb : G.frz 165 = false := rfl
theorem zbp : G.frz 166 = false := rfl
theorem zqn : G.frz 168 = false := rfl
theorem z4v : G.frz 169 = false := rfl
theorem qt8 : G.frz 170 = false := rfl
theorem qt9 : G.frz 172 = false := rfl
theorem zk7 : G.frz 173 = false := rfl
theorem qto : G.frz 174 = false := rfl
theorem z8v : G.frz 175 = false := rfl
theorem zjs : G.frz 176 = false := rfl
theorem zgn : G.frz 177 = false := rfl
theorem zpj : G.frz 178 = false := rfl
theorem zlm : G.frz 179 = false := rfl
theorem zfs : G.frz 180 = false := rfl
theorem qr4 : G.frz 181 = false := rfl
theorem zj1 : G.frz 182 = false := rfl
theorem qy7 : G.frz 183 = false := rfl
theorem zgz : G.frz 184 = false := rfl
theorem qqz : G.frz 185 = false := rfl
theorem zmf : G.frz 186 = false := rfl
theorem z2c : G.frz 187 = false := rfl
theorem zc7 : G.frz 188 = false := rfl
theorem z3j : G.frz 189 = false := rfl
theorem zhd : G.frz 190 = false := rfl
theorem zi6 : G.frz 191 = false := rfl
theorem qq1 : G.frz 193 = false := rfl
theorem quu : G.frz 194 = false := rfl
theorem zkw : G.frz 195 = false := rfl
theorem z2n : G.frz 196 = false := rfl
theorem z1e : G.frz 198 = false := rfl
theorem zkq : G.frz 199 = false := rfl
theorem qqu : G.frz 200 = false := rfl
theorem z4a : G.frz 201 = false := rfl
theorem zbc : G.frz 202 = false := rfl
theorem znm : G.frz 203 = false := rfl
theorem zi9 : G.frz 204 = false := rfl
theorem qr1 : G.frz 205 = false := rfl
theorem qz8 : G.frz 206 = false := rfl
theorem qtu : G.frz 208 = false := rfl
theorem z7g : G.frz 209 = false := rfl
theorem qqv : G.frz 210 = false := rfl
theorem zqs : G.frz 211 = true := rfl
theorem zh5 : G.frz 212 = false := rfl
theorem zqc : G.frz 214 = false := rfl
theorem zb5 : G.frz 215 = false := rfl
theorem z8c : G.frz 216 = false := rfl
theorem qqi : G.frz 218 = false := rfl
theorem zg6 : G.frz 219 = false := rfl
theorem z1l : G.frz 220 = false := rfl
theorem zgi : G.frz 221 = false := rfl
theorem qy9 : G.frz 222 = false := rfl
theorem qrj : G.frz 223 = false := rfl
theorem zda : G.frz 224 = false := rfl
theorem qtr : G.frz 225 = false := rfl
theorem zox : G.frz 226 = false := rfl
theorem qug : G.frz 227 = false := rfl
theorem zc5 : G.frz 228 = false := rfl
theorem qzf : G.frz 229 = false := rfl
theorem zfu : G.frz 230 = false := rfl
theorem zdz : G.frz 231 = false := rfl
theorem qtk : G.frz 232 = false := rfl
theorem qx3 : G.frz 233 = false := rfl
theorem zj5 : G.frz 234 = false := rfl
theorem zq1 : G.frz 235 = false := rfl
theorem zqe : G.frz 236 = false := rfl
theorem mf (t : TypeId) : G.mrf t = false := rfl
theorem ti3 : G.ti 3 = some ⟨1,8,.int .i64,[.int .i64 0],false⟩ := by kernel_rfl
theorem ti4 : G.ti 4 = some ⟨1,1,.bool,[.bool false],false⟩ := by kernel_rfl
theorem ti5 : G.ti 5 = some ⟨1,1,.int .u8,[.int .u8 0],false⟩ := by kernel_rfl
theorem ti9 : G.ti 9 = some ⟨1,16,.string,[.str []],false⟩ := by kernel_rfl
theorem zd5 : G.ti 23 = some ⟨2,16,.struct [(0,1,3),(1,1,3)],[.int .i64 0,.int .i64 0],true⟩ := by kernel_rfl
theorem zib : G.ti 24 = some ⟨1,24,.slice 41,[.sl true 0 []],false⟩ := by kernel_rfl
theorem zkt : G.ti 26 = some ⟨3,40,.struct [(0,2,23),(2,1,24)],[.int .i64 0,.int .i64 0,.sl true 0 []],false⟩ := by kernel_rfl
theorem zco : G.ti 32 = some ⟨1,24,.slice 185,[.sl true 0 []],false⟩ := by kernel_rfl
theorem zj0 : G.ti 33 = some ⟨1,24,.slice 35,[.sl true 0 []],false⟩ := by kernel_rfl
theorem zl6 : G.ti 35 = some ⟨8,104,.struct [(0,1,3),(1,1,9),(2,1,4),(3,1,32),(4,1,3),(5,1,3),(6,1,4),(7,1,33)],[.int .i64 0,.str [],.bool false,.sl true 0 [],.int .i64 0,.int .i64 0,.bool false,.sl true 0 []],true⟩ := by kernel_rfl
theorem qz4 : G.ti 36 = some ⟨1,24,.slice 160,[.sl true 0 []],false⟩ := by kernel_rfl
theorem zbt : G.ti 38 = some ⟨11,136,.struct [(0,8,35),(8,1,36),(9,1,4),(10,1,4)],[.int .i64 0,.str [],.bool false,.sl true 0 [],.int .i64 0,.int .i64 0,.bool false,.sl true 0 [],.sl true 0 [],.bool false,.bool false],false⟩ := by kernel_rfl
theorem z6u : G.ti 39 = some ⟨1,24,.slice 9,[.sl true 0 []],false⟩ := by kernel_rfl
theorem zpz : G.ti 41 = some ⟨18,200,.struct [(0,2,23),(2,1,3),(3,1,3),(4,1,4),(5,1,4),(6,11,38),(17,1,39)],[.int .i64 0,.int .i64 0,.int .i64 0,.int .i64 0,.bool false,.bool false,.int .i64 0,.str [],.bool false,.sl true 0 [],.int .i64 0,.int .i64 0,.bool false,.sl true 0 [],.sl true 0 [],.bool false,.bool false,.sl true 0 []],false⟩ := by kernel_rfl
theorem qwd : G.ti 43 = some ⟨1,24,.slice 3,[.sl true 0 []],false⟩ := by kernel_rfl
theorem qpl : G.ti 51 = some ⟨1,24,.slice 23,[.sl true 0 []],false⟩ := by kernel_rfl
theorem zhe : G.ti 55 = some ⟨1,24,.slice 83,[.sl true 0 []],false⟩ := by kernel_rfl
theorem z2v : G.ti 56 = some ⟨1,8,.int .i64,[.int .i64 0],false⟩ := by kernel_rfl
theorem qq7 : G.ti 64 = some ⟨1,8,.map 3 3,[.nilmap],false⟩ := by kernel_rfl
theorem z3h : G.ti 81 = some ⟨3,64,.struct [(0,1,9),(1,1,55),(2,1,43)],[.str [],.sl true 0 [],.sl true 0 []],true⟩ := by kernel_rfl
theorem zby : G.ti 83 = some ⟨18,224,.struct [(0,1,3),(1,1,9),(2,1,3),(3,1,4),(4,1,4),(5,11,38),(16,1,39),(17,1,55)],[.int .i64 0,.str [],.int .i64 0,.bool false,.bool false,.int .i64 0,.str [],.bool false,.sl true 0 [],.int .i64 0,.int .i64 0,.bool false,.sl true 0 [],.sl true 0 [],.bool false,.bool false,.sl true 0 [],.sl true 0 []],false⟩ := by kernel_rfl
theorem z9o : G.ti 89 = some ⟨1,24,.slice 138,[.sl true 0 []],false⟩ := by kernel_rfl
theorem zmz : G.ti 92 = some ⟨1,24,.slice 97,[.sl true 0 []],false⟩ := by kernel_rfl
theorem z2o : G.ti 94 = some ⟨6,128,.struct [(0,1,89),(1,1,9),(2,1,9),(3,1,92),(4,1,43),(5,1,39)],[.sl true 0 [],.str [],.str [],.sl true 0 [],.sl true 0 [],.sl true 0 []],true⟩ := by kernel_rfl
theorem qs7 : G.ti 97 = some ⟨20,216,.struct [(0,1,3),(1,1,9),(2,1,3),(3,1,4),(4,1,4),(5,1,4),(6,11,38),(17,1,39),(18,1,3),(19,1,3)],[.int .i64 0,.str [],.int .i64 0,.bool false,.bool false,.bool false,.int .i64 0,.str [],.bool false,.sl true 0 [],.int .i64 0,.int .i64 0,.bool false,.sl true 0 [],.sl true 0 [],.bool false,.bool false,.sl true 0 [],.int .i64 0,.int .i64 0],false⟩ := by kernel_rfl
theorem z1w : G.ti 100 = some ⟨2,48,.struct [(0,1,43),(1,1,39)],[.sl true 0 [],.sl true 0 []],true⟩ := by kernel_rfl
theorem zod : G.ti 112 = some ⟨1,24,.slice 5,[.sl true 0 []],false⟩ := by kernel_rfl
theorem zk8 : G.ti 138 = some ⟨2,32,.struct [(0,1,9),(1,1,9)],[.str [],.str []],true⟩ := by kernel_rfl
theorem qqo : G.ti 157 = some ⟨2,32,.struct [(0,1,39),(1,1,3)],[.sl true 0 [],.int .i64 0],true⟩ := by kernel_rfl
theorem qs0 : G.ti 160 = some ⟨5,56,.struct [(0,1,3),(1,1,3),(2,1,3),(3,1,9),(4,1,9)],[.int .i64 0,.int .i64 0,.int .i64 0,.str [],.str []],true⟩ := by kernel_rfl
theorem zns : G.ti 166 = some ⟨1,24,.slice 170,[.sl true 0 []],false⟩ := by kernel_rfl
theorem qw8 : G.ti 170 = some ⟨3,40,.struct [(0,2,23),(2,1,51)],[.int .i64 0,.int .i64 0,.sl true 0 []],false⟩ := by kernel_rfl
theorem zo6 : G.ti 185 = some ⟨2,32,.struct [(0,1,9),(1,1,9)],[.str [],.str []],true⟩ := by kernel_rfl
theorem qt5 : G.ti 191 = some ⟨5,72,.struct [(0,1,39),(1,1,43),(2,1,4),(3,1,3),(4,1,4)],[.sl true 0 [],.sl true 0 [],.bool false,.int .i64 0,.bool false],true⟩ := by kernel_rfl
theorem ze5 : G.ti 209 = some ⟨1,8,.ptr,[.nilptr],false⟩ := by kernel_rfl
theorem qs9 : G.ti 211 = some ⟨13,144,.struct [(0,1,3),(1,8,35),(9,1,3),(10,1,3),(11,1,3),(12,1,209)],[.int .i64 0,.int .i64 0,.str [],.bool false,.sl true 0 [],.int .i64 0,.int .i64 0,.bool false,.sl true 0 [],.int .i64 0,.int .i64 0,.int .i64 0,.nilptr],false⟩ := by kernel_rfl
theorem fn5 : G.fn 5 = some ⟨Tryz.f5.ntmps,Tryz.f5.results.toList,Tryz.f5.body.get!⟩ := by kernel_rfl
theorem fn7 : G.fn 7 = some ⟨Tryz.f7.ntmps,Tryz.f7.results.toList,Tryz.f7.body.get!⟩ := by kernel_rfl
theorem fn9 : G.fn 9 = some ⟨Tryz.f9.ntmps,Tryz.f9.results.toList,Tryz.f9.body.get!⟩ := by kernel_rfl
theorem q23 : G.fn 15 = some ⟨Tryz.f15.ntmps,Tryz.f15.results.toList,Tryz.f15.body.get!⟩ := by kernel_rfl
theorem q70 : G.fn 19 = some ⟨Tryz.f19.ntmps,Tryz.f19.results.toList,Tryz.f19.body.get!⟩ := by kernel_rfl
theorem q07 : G.fn 20 = some ⟨Tryz.f20.ntmps,Tryz.f20.results.toList,Tryz.f20.body.get!⟩ := by kernel_rfl
theorem qjl : G.fn 22 = some ⟨Tryz.f22.ntmps,Tryz.f22.results.toList,Tryz.f22.body.get!⟩ := by kernel_rfl
theorem qah : G.fn 23 = some ⟨Tryz.f23.ntmps,Tryz.f23.results.toList,Tryz.f23.body.get!⟩ := by kernel_rfl
theorem qoi : G.fn 24 = some ⟨Tryz.f24.ntmps,Tryz.f24.results.toList,Tryz.f24.body.get!⟩ := by kernel_rfl
theorem zm2 : G.fn 36 = some ⟨Tryz.f36.ntmps,Tryz.f36.results.toList,Tryz.f36.body.get!⟩ := by kernel_rfl
theorem q2o : G.fn 37 = some ⟨Tryz.f37.ntmps,Tryz.f37.results.toList,Tryz.f37.body.get!⟩ := by kernel_rfl
theorem q2j : G.fn 38 = some ⟨Tryz.f38.ntmps,Tryz.f38.results.toList,Tryz.f38.body.get!⟩ := by kernel_rfl
theorem qe6 : G.fn 39 = some ⟨Tryz.f39.ntmps,Tryz.f39.results.toList,Tryz.f39.body.get!⟩ := by kernel_rfl
theorem qp5 : G.fn 40 = some ⟨Tryz.f40.ntmps,Tryz.f40.results.toList,Tryz.f40.body.get!⟩ := by kernel_rfl
theorem yn : G.fn 41 = some ⟨Tryz.f41.ntmps,Tryz.f41.results.toList,Tryz.f41.body.get!⟩ := by kernel_rfl
theorem q00 : G.fn 42 = some ⟨Tryz.f42.ntmps,Tryz.f42.results.toList,Tryz.f42.body.get!⟩ := by kernel_rfl
theorem q2e : G.fn 43 = some ⟨Tryz.f43.ntmps,Tryz.f43.results.toList,Tryz.f43.body.get!⟩ := by kernel_rfl
theorem q0s : G.fn 44 = some ⟨Tryz.f44.ntmps,Tryz.f44.results.toList,Tryz.f44.body.get!⟩ := by kernel_rfl
theorem ma : G.fn 45 = some ⟨Tryz.f45.ntmps,Tryz.f45.results.toList,Tryz.f45.body.get!⟩ := by kernel_rfl
theorem qke : G.fn 48 = some ⟨Tryz.f48.ntmps,Tryz.f48.results.toList,Tryz.f48.body.get!⟩ := by kernel_rfl
theorem qhh : G.fn 52 = some ⟨Tryz.f52.ntmps,Tryz.f52.results.toList,Tryz.f52.body.get!⟩ := by kernel_rfl
theorem yo : G.fn 53 = some ⟨Tryz.f53.ntmps,Tryz.f53.results.toList,Tryz.f53.body.get!⟩ := by kernel_rfl
theorem q7c : G.fn 54 = some ⟨Tryz.f54.ntmps,Tryz.f54.results.toList,Tryz.f54.body.get!⟩ := by kernel_rfl
theorem q9o : G.fn 55 = some ⟨Tryz.f55.ntmps,Tryz.f55.results.toList,Tryz.f55.body.get!⟩ := by kernel_rfl
theorem q67 : G.fn 56 = some ⟨Tryz.f56.ntmps,Tryz.f56.results.toList,Tryz.f56.body.get!⟩ := by kernel_rfl
theorem zg : G.fn 57 = some ⟨Tryz.f57.ntmps,Tryz.f57.results.toList,Tryz.f57.body.get!⟩ := by kernel_rfl
theorem zqu : G.fn 58 = some ⟨Tryz.f58.ntmps,Tryz.f58.results.toList,Tryz.f58.body.get!⟩ := by kernel_rfl
theorem q2r : G.fn 59 = some ⟨Tryz.f59.ntmps,Tryz.f59.results.toList,Tryz.f59.body.get!⟩ := by kernel_rfl
theorem qad : G.fn 60 = some ⟨Tryz.f60.ntmps,Tryz.f60.results.toList,Tryz.f60.body.get!⟩ := by kernel_rfl
theorem qak : G.fn 61 = some ⟨Tryz.f61.ntmps,Tryz.f61.results.toList,Tryz.f61.body.get!⟩ := by kernel_rfl
theorem q0j : G.fn 62 = some ⟨Tryz.f62.ntmps,Tryz.f62.results.toList,Tryz.f62.body.get!⟩ := by kernel_rfl
theorem qbf : G.fn 63 = some ⟨Tryz.f63.ntmps,Tryz.f63.results.toList,Tryz.f63.body.get!⟩ := by kernel_rfl
theorem q6e : G.fn 64 = some ⟨Tryz.f64.ntmps,Tryz.f64.results.toList,Tryz.f64.body.get!⟩ := by kernel_rfl
theorem qb7 : G.fn 65 = some ⟨Tryz.f65.ntmps,Tryz.f65.results.toList,Tryz.f65.body.get!⟩ := by kernel_rfl
theorem q28 : G.fn 66 = some ⟨Tryz.f66.ntmps,Tryz.f66.results.toList,Tryz.f66.body.get!⟩ := by kernel_rfl
theorem q6a : G.fn 67 = some ⟨Tryz.f67.ntmps,Tryz.f67.results.toList,Tryz.f67.body.get!⟩ := by kernel_rfl
theorem q7f : G.fn 71 = some ⟨Tryz.f71.ntmps,Tryz.f71.results.toList,Tryz.f71.body.get!⟩ := by kernel_rfl
theorem q6v : G.fn 72 = some ⟨Tryz.f72.ntmps,Tryz.f72.results.toList,Tryz.f72.body.get!⟩ := by kernel_rfl
theorem qd2 : G.fn 73 = some ⟨Tryz.f73.ntmps,Tryz.f73.results.toList,Tryz.f73.body.get!⟩ := by kernel_rfl
theorem q2b : G.fn 74 = some ⟨Tryz.f74.ntmps,Tryz.f74.results.toList,Tryz.f74.body.get!⟩ := by kernel_rfl
theorem q8l : G.fn 75 = some ⟨Tryz.f75.ntmps,Tryz.f75.results.toList,Tryz.f75.body.get!⟩ := by kernel_rfl
theorem q4o : G.fn 76 = some ⟨Tryz.f76.ntmps,Tryz.f76.results.toList,Tryz.f76.body.get!⟩ := by kernel_rfl
theorem q39 : G.fn 77 = some ⟨Tryz.f77.ntmps,Tryz.f77.results.toList,Tryz.f77.body.get!⟩ := by kernel_rfl
theorem z5j : G.fn 78 = some ⟨Tryz.f78.ntmps,Tryz.f78.results.toList,Tryz.f78.body.get!⟩ := by kernel_rfl
theorem qal : G.fn 79 = some ⟨Tryz.f79.ntmps,Tryz.f79.results.toList,Tryz.f79.body.get!⟩ := by kernel_rfl
theorem qei : G.fn 80 = some ⟨Tryz.f80.ntmps,Tryz.f80.results.toList,Tryz.f80.body.get!⟩ := by kernel_rfl
theorem jf : G.fn 81 = some ⟨Tryz.f81.ntmps,Tryz.f81.results.toList,Tryz.f81.body.get!⟩ := by kernel_rfl
theorem qkk : G.fn 93 = some ⟨Tryz.f93.ntmps,Tryz.f93.results.toList,Tryz.f93.body.get!⟩ := by kernel_rfl
theorem qh6 : G.fn 94 = some ⟨Tryz.f94.ntmps,Tryz.f94.results.toList,Tryz.f94.body.get!⟩ := by kernel_rfl
theorem qaq : G.fn 95 = some ⟨Tryz.f95.ntmps,Tryz.f95.results.toList,Tryz.f95.body.get!⟩ := by kernel_rfl
theorem q1v : G.fn 96 = some ⟨Tryz.f96.ntmps,Tryz.f96.results.toList,Tryz.f96.body.get!⟩ := by kernel_rfl
theorem kz : G.fn 97 = some ⟨Tryz.f97.ntmps,Tryz.f97.results.toList,Tryz.f97.body.get!⟩ := by kernel_rfl
theorem qec : G.fn 98 = some ⟨Tryz.f98.ntmps,Tryz.f98.results.toList,Tryz.f98.body.get!⟩ := by kernel_rfl
theorem qho : G.fn 99 = some ⟨Tryz.f99.ntmps,Tryz.f99.results.toList,Tryz.f99.body.get!⟩ := by kernel_rfl
theorem q2d : G.fn 100 = some ⟨Tryz.f100.ntmps,Tryz.f100.results.toList,Tryz.f100.body.get!⟩ := by kernel_rfl
theorem ql8 : G.fn 101 = some ⟨Tryz.f101.ntmps,Tryz.f101.results.toList,Tryz.f101.body.get!⟩ := by kernel_rfl
theorem q63 : G.fn 102 = some ⟨Tryz.f102.ntmps,Tryz.f102.results.toList,Tryz.f102.body.get!⟩ := by kernel_rfl
theorem qfq : G.fn 103 = some ⟨Tryz.f103.ntmps,Tryz.f103.results.toList,Tryz.f103.body.get!⟩ := by kernel_rfl
theorem qe1 : G.fn 104 = some ⟨Tryz.f104.ntmps,Tryz.f104.results.toList,Tryz.f104.body.get!⟩ := by kernel_rfl
theorem qnu : G.fn 111 = some ⟨Tryz.f111.ntmps,Tryz.f111.results.toList,Tryz.f111.body.get!⟩ := by kernel_rfl
theorem qjc : G.fn 112 = some ⟨Tryz.f112.ntmps,Tryz.f112.results.toList,Tryz.f112.body.get!⟩ := by kernel_rfl
theorem q53 : G.fn 113 = some ⟨Tryz.f113.ntmps,Tryz.f113.results.toList,Tryz.f113.body.get!⟩ := by kernel_rfl
theorem qly : G.fn 114 = some ⟨Tryz.f114.ntmps,Tryz.f114.results.toList,Tryz.f114.body.get!⟩ := by kernel_rfl
theorem qgx : G.fn 115 = some ⟨Tryz.f115.ntmps,Tryz.f115.results.toList,Tryz.f115.body.get!⟩ := by kernel_rfl
theorem qgm : G.fn 116 = some ⟨Tryz.f116.ntmps,Tryz.f116.results.toList,Tryz.f116.body.get!⟩ := by kernel_rfl
theorem q97 : G.fn 117 = some ⟨Tryz.f117.ntmps,Tryz.f117.results.toList,Tryz.f117.body.get!⟩ := by kernel_rfl
theorem q8u : G.fn 118 = some ⟨Tryz.f118.ntmps,Tryz.f118.results.toList,Tryz.f118.body.get!⟩ := by kernel_rfl
theorem qg9 : G.fn 119 = some ⟨Tryz.f119.ntmps,Tryz.f119.results.toList,Tryz.f119.body.get!⟩ := by kernel_rfl
theorem xq : G.fn 120 = some ⟨Tryz.f120.ntmps,Tryz.f120.results.toList,Tryz.f120.body.get!⟩ := by kernel_rfl
theorem qq8 : G.fn 121 = some ⟨Tryz.f121.ntmps,Tryz.f121.results.toList,Tryz.f121.body.get!⟩ := by kernel_rfl
theorem qa4 : G.fn 122 = some ⟨Tryz.f122.ntmps,Tryz.f122.results.toList,Tryz.f122.body.get!⟩ := by kernel_rfl
theorem qaj : G.fn 123 = some ⟨Tryz.f123.ntmps,Tryz.f123.results.toList,Tryz.f123.body.get!⟩ := by kernel_rfl
theorem qnn : G.fn 124 = some ⟨Tryz.f124.ntmps,Tryz.f124.results.toList,Tryz.f124.body.get!⟩ := by kernel_rfl
theorem uh : G.fn 125 = some ⟨Tryz.f125.ntmps,Tryz.f125.results.toList,Tryz.f125.body.get!⟩ := by kernel_rfl
theorem mo : G.fn 127 = some ⟨Tryz.f127.ntmps,Tryz.f127.results.toList,Tryz.f127.body.get!⟩ := by kernel_rfl
theorem q0t : G.fn 128 = some ⟨Tryz.f128.ntmps,Tryz.f128.results.toList,Tryz.f128.body.get!⟩ := by kernel_rfl
theorem qai : G.fn 129 = some ⟨Tryz.f129.ntmps,Tryz.f129.results.toList,Tryz.f129.body.get!⟩ := by kernel_rfl
theorem qhz : G.fn 130 = some ⟨Tryz.f130.ntmps,Tryz.f130.results.toList,Tryz.f130.body.get!⟩ := by kernel_rfl
theorem qdn : G.fn 131 = some ⟨Tryz.f131.ntmps,Tryz.f131.results.toList,Tryz.f131.body.get!⟩ := by kernel_rfl
theorem jb : G.fn 132 = some ⟨Tryz.f132.ntmps,Tryz.f132.results.toList,Tryz.f132.body.get!⟩ := by kernel_rfl
theorem qci : G.fn 133 = some ⟨Tryz.f133.ntmps,Tryz.f133.results.toList,Tryz.f133.body.get!⟩ := by kernel_rfl
theorem qem : G.fn 134 = some ⟨Tryz.f134.ntmps,Tryz.f134.results.toList,Tryz.f134.body.get!⟩ := by kernel_rfl
theorem q0f : G.fn 135 = some ⟨Tryz.f135.ntmps,Tryz.f135.results.toList,Tryz.f135.body.get!⟩ := by kernel_rfl
theorem q1y : G.fn 136 = some ⟨Tryz.f136.ntmps,Tryz.f136.results.toList,Tryz.f136.body.get!⟩ := by kernel_rfl
theorem qa9 : G.fn 137 = some ⟨Tryz.f137.ntmps,Tryz.f137.results.toList,Tryz.f137.body.get!⟩ := by kernel_rfl
theorem qh1 : G.fn 138 = some ⟨Tryz.f138.ntmps,Tryz.f138.results.toList,Tryz.f138.body.get!⟩ := by kernel_rfl
theorem q8s : G.fn 139 = some ⟨Tryz.f139.ntmps,Tryz.f139.results.toList,Tryz.f139.body.get!⟩ := by kernel_rfl
theorem qpc : G.fn 140 = some ⟨Tryz.f140.ntmps,Tryz.f140.results.toList,Tryz.f140.body.get!⟩ := by kernel_rfl
theorem q4w : G.fn 141 = some ⟨Tryz.f141.ntmps,Tryz.f141.results.toList,Tryz.f141.body.get!⟩ := by kernel_rfl
theorem qdj : G.fn 142 = some ⟨Tryz.f142.ntmps,Tryz.f142.results.toList,Tryz.f142.body.get!⟩ := by kernel_rfl
theorem qcu : G.fn 143 = some ⟨Tryz.f143.ntmps,Tryz.f143.results.toList,Tryz.f143.body.get!⟩ := by kernel_rfl
theorem bz : G.fn 144 = some ⟨Tryz.f144.ntmps,Tryz.f144.results.toList,Tryz.f144.body.get!⟩ := by kernel_rfl
theorem qks : G.fn 145 = some ⟨Tryz.f145.ntmps,Tryz.f145.results.toList,Tryz.f145.body.get!⟩ := by kernel_rfl
theorem qne : G.fn 146 = some ⟨Tryz.f146.ntmps,Tryz.f146.results.toList,Tryz.f146.body.get!⟩ := by kernel_rfl
theorem q86 : G.fn 147 = some ⟨Tryz.f147.ntmps,Tryz.f147.results.toList,Tryz.f147.body.get!⟩ := by kernel_rfl
theorem qb6 : G.fn 148 = some ⟨Tryz.f148.ntmps,Tryz.f148.results.toList,Tryz.f148.body.get!⟩ := by kernel_rfl
theorem mr : G.fn 149 = some ⟨Tryz.f149.ntmps,Tryz.f149.results.toList,Tryz.f149.body.get!⟩ := by kernel_rfl
theorem qay : G.fn 150 = some ⟨Tryz.f150.ntmps,Tryz.f150.results.toList,Tryz.f150.body.get!⟩ := by kernel_rfl
theorem qej : G.fn 151 = some ⟨Tryz.f151.ntmps,Tryz.f151.results.toList,Tryz.f151.body.get!⟩ := by kernel_rfl
theorem q2t : G.fn 152 = some ⟨Tryz.f152.ntmps,Tryz.f152.results.toList,Tryz.f152.body.get!⟩ := by kernel_rfl
theorem q1d : G.fn 153 = some ⟨Tryz.f153.ntmps,Tryz.f153.results.toList,Tryz.f153.body.get!⟩ := by kernel_rfl
theorem qbe : G.fn 154 = some ⟨Tryz.f154.ntmps,Tryz.f154.results.toList,Tryz.f154.body.get!⟩ := by kernel_rfl
theorem qou : G.fn 155 = some ⟨Tryz.f155.ntmps,Tryz.f155.results.toList,Tryz.f155.body.get!⟩ := by kernel_rfl
theorem qhm : G.fn 156 = some ⟨Tryz.f156.ntmps,Tryz.f156.results.toList,Tryz.f156.body.get!⟩ := by kernel_rfl
theorem q0n : G.fn 157 = some ⟨Tryz.f157.ntmps,Tryz.f157.results.toList,Tryz.f157.body.get!⟩ := by kernel_rfl
theorem qfr : G.fn 158 = some ⟨Tryz.f158.ntmps,Tryz.f158.results.toList,Tryz.f158.body.get!⟩ := by kernel_rfl
theorem qed : G.fn 159 = some ⟨Tryz.f159.ntmps,Tryz.f159.results.toList,Tryz.f159.body.get!⟩ := by kernel_rfl
theorem qeo : G.fn 160 = some ⟨Tryz.f160.ntmps,Tryz.f160.results.toList,Tryz.f160.body.get!⟩ := by kernel_rfl
theorem q9f : G.fn 161 = some ⟨Tryz.f161.ntmps,Tryz.f161.results.toList,Tryz.f161.body.get!⟩ := by kernel_rfl
theorem qa1 : G.fn 162 = some ⟨Tryz.f162.ntmps,Tryz.f162.results.toList,Tryz.f162.body.get!⟩ := by kernel_rfl
end Go.Proofs.YtdhgdeelagmbpaaGreat
