/-
  The tables of the program as the machine reads it.
-/
import Derived.Test.YtdhgdeelagmbpaaGreatRows
import Derived.Test.YtdhgdeelagmbpaaGreatWad
set_option linter.unusedSimpArgs false
set_option linter.unusedVariables false
namespace Go.Proofs.YtdhgdeelagmbpaaGreat
open Go Go.Gm
def spec : FuncId → Nat → q0b
 | 4,0 => ⟨[3,5,6],[2],[],[],[],0⟩
 | 4,2 => ⟨[3,5,6,7,8,9],[2,3,5,6,7,8],[],[],[],0⟩
 | 6,0 => ⟨[2,7,8,10,12,13],[6],[],[],[],0⟩
 | 6,2 => ⟨[2,7,8,10,12,13,14,15,16],[2,6,7,8,10,12,13],[],[],[],0⟩
 | 7,0 => ⟨[1,4,9,11,12],[4,11],[],[(11,2)],[],0⟩
 | 9,0 => ⟨[2,5,18,19,20],[4],[],[],[],0⟩
 | 11,0 => ⟨[2,5],[4],[],[],[],0⟩
 | 11,2 => ⟨[2,5,6,8],[2,4,5],[],[],[],0⟩
 | 12,0 => ⟨[1,3,12,13,14],[1,3],[],[],[1],0⟩
 | 12,2 => ⟨[1,3,6],[6],[6],[],[],0⟩
 | 13,0 => ⟨[0,1,5],[4],[],[],[],0⟩
 | 14,0 => ⟨[1,3,4],[1,3],[],[],[1],0⟩
 | 14,2 => ⟨[1,3,5],[5],[5],[],[],0⟩
 | 14,4 => ⟨[1,3,5,6,7,8],[1,3,5,6,7],[],[],[],0⟩
 | 14,6 => ⟨[1,3,5,6,7,9],[1,3,5,6],[],[],[],0⟩
 | 15,0 => ⟨[1,3],[2],[],[],[],0⟩
 | 15,2 => ⟨[1,3,4],[1,2,3],[],[],[],0⟩
 | 15,4 => ⟨[1,3,4,5,6],[1,3,4,5],[],[],[],0⟩
 | 16,0 => ⟨[3,11,12,13],[3],[],[],[],0⟩
 | 16,2 => ⟨[3,11,12,13,18,19,20],[3,11,12,13],[],[],[],0⟩
 | 17,0 => ⟨[0,5,10,11,12],[5],[5],[],[],0⟩
 | 17,2 => ⟨[0,5,10,11,12,17,18,19],[0,5,10,11,12],[5],[],[],0⟩
 | 18,0 => ⟨[1,2,3,7,8,9,10],[7,8,9],[],[],[],0⟩
 | 19,0 => ⟨[0,4,5],[4],[],[],[],0⟩
 | 20,0 => ⟨[11,12,13],[11,12],[],[],[],0⟩
 | 20,2 => ⟨[15,17,19,20],[15,17,19],[],[],[],0⟩
 | 21,0 => ⟨[0,13,14,15],[4,5],[],[],[],0⟩
 | 23,0 => ⟨[1,2,5],[1,2,4],[],[],[],0⟩
 | 26,0 => ⟨[0,1,2],[6],[],[],[],0⟩
 | 30,0 => ⟨[1,2,5,12,13,14],[5],[],[],[],0⟩
 | 30,2 => ⟨[1,2,5,7,8,12,13,14],[1,2,5,12,13,14],[],[],[],0⟩
 | 31,0 => ⟨[0,1,7,8],[4],[],[],[],0⟩
 | 33,0 => ⟨[0,1,5],[0,1,5],[],[],[],0⟩
 | 34,0 => ⟨[0,1,5],[4],[],[],[],0⟩
 | 35,0 => ⟨[0,1,2,7],[6],[],[],[],0⟩
 | 35,2 => ⟨[0,1,2,7,8],[0,1,2,6,7],[],[],[],0⟩
 | 38,0 => ⟨[0,1,2,8,9],[0,1,2,8,9],[8,9],[],[],2⟩
 | 39,0 => ⟨[0,3,4],[3],[],[],[],0⟩
 | 41,0 => ⟨[0,1,2,6],[],[],[(0,3),(0,4),(0,5)],[],0⟩
 | 42,0 => ⟨[0,2,3],[0,2],[],[],[],0⟩
 | 42,2 => ⟨[0,2,4],[0],[],[],[],0⟩
 | 42,4 => ⟨[0,5,6],[],[5],[],[],0⟩
 | 43,0 => ⟨[0,3],[2],[],[],[],0⟩
 | 43,2 => ⟨[0,3,4,5],[0,3,4],[],[],[],0⟩
 | 44,0 => ⟨[0,1,3,10,11],[8,9,10],[],[(1,0),(1,1)],[],0⟩
 | 45,0 => ⟨[0,1,2,3,5,6,16],[2,6],[2],[],[],0⟩
 | 46,0 => ⟨[0,2,3],[],[],[],[],0⟩
 | 51,0 => ⟨[0,5],[],[],[],[],0⟩
 | 53,0 => ⟨[0,4,7,8],[0,4,7,8],[7],[],[],0⟩
 | 53,2 => ⟨[0,4,12,14],[0,4,5,6,12,14],[],[],[],0⟩
 | 54,0 => ⟨[0,1,6,7],[0,1,6,7],[6,7],[],[],2⟩
 | 56,0 => ⟨[0,3,4],[3],[3],[],[],0⟩
 | 57,0 => ⟨[0,3],[2],[],[],[],0⟩
 | 59,0 => ⟨[0,1,2,7,8,9],[7],[7],[],[],0⟩
 | 60,0 => ⟨[0,1,6],[4,5],[],[],[],0⟩
 | 61,0 => ⟨[0,3,4],[2],[],[],[],0⟩
 | 62,0 => ⟨[0,3,5,8,9,10],[0,3,5,8,9],[],[(9,17)],[],0⟩
 | 63,0 => ⟨[0,1,5],[0,1,4],[],[],[],0⟩
 | 64,0 => ⟨[0,1,5],[4],[],[],[],0⟩
 | 65,0 => ⟨[0,1,5],[4],[],[],[],0⟩
 | 66,0 => ⟨[0,1,2,7],[2],[2],[],[],0⟩
 | 69,0 => ⟨[0,1,2,3,8,9],[],[],[],[],0⟩
 | 71,0 => ⟨[0,1,7,8],[0,1,7,8],[],[],[],0⟩
 | 72,0 => ⟨[0,1,7],[0,1,7],[],[],[],0⟩
 | 74,0 => ⟨[0,1,7],[0,1,7],[7],[],[],0⟩
 | 75,0 => ⟨[2,3,5],[4],[],[],[],0⟩
 | 77,0 => ⟨[0,3],[2],[],[],[],0⟩
 | 79,0 => ⟨[0,1,5],[4],[],[],[],0⟩
 | 81,0 => ⟨[1,3,9,10,14,15,16],[1,6,7,8,10,14,15],[],[],[],0⟩
 | 82,0 => ⟨[0,1,2,6],[],[],[],[],0⟩
 | 82,2 => ⟨[0,1,2,6,7],[0,1,2,6],[],[],[],0⟩
 | 83,0 => ⟨[0,6,7,8,9],[0,6,7,8],[],[],[],0⟩
 | 83,2 => ⟨[0,6,7,10],[],[],[],[],0⟩
 | 84,0 => ⟨[0,1,6,7,8,9],[],[],[],[],0⟩
 | 86,0 => ⟨[0,6,7],[],[],[],[],0⟩
 | 87,0 => ⟨[0,1,2,7,8],[6],[],[],[],0⟩
 | 87,2 => ⟨[0,1,2,7,8],[0,1,2,7,8],[],[],[],0⟩
 | 87,4 => ⟨[0,1,2,7,8,9],[0,1,2,7,8],[],[],[],0⟩
 | 87,6 => ⟨[0,1,2,7,8,10],[0,1,2,7,8],[],[],[],0⟩
 | 89,0 => ⟨[0,1,9,10],[9],[],[],[],0⟩
 | 89,2 => ⟨[0,1,9,10],[0,1,9,10],[],[],[],0⟩
 | 89,4 => ⟨[0,1,9,10],[0,1,9,10],[],[],[],0⟩
 | 90,0 => ⟨[0,1,10,11],[0,1,10,11],[],[],[],0⟩
 | 90,2 => ⟨[0,1,10,11],[0,1,10,11],[],[],[],0⟩
 | 90,4 => ⟨[0,1,10,11],[0,1,11],[],[],[],0⟩
 | 90,6 => ⟨[0,1,10,11],[0,1,10,11],[],[],[],0⟩
 | 90,8 => ⟨[0,1,10,11],[0,1,10,11],[],[],[],0⟩
 | 95,0 => ⟨[0,3,4,5],[3],[3],[],[],0⟩
 | 96,0 => ⟨[0,1,4,6],[4,5],[6],[],[],0⟩
 | 96,2 => ⟨[0,1,4,6,7],[0,1,4,5,6,7],[7],[],[],0⟩
 | 97,1 => ⟨[0,4,8,10,11],[4,5,6],[],[],[],0⟩
 | 100,0 => ⟨[2,3,5],[2,3,4],[],[],[],0⟩
 | 100,2 => ⟨[2,3,6],[4],[],[],[],0⟩
 | 102,0 => ⟨[4,11,12,13],[8,9,10,11,12],[12],[],[],0⟩
 | 104,0 => ⟨[1,3,5,7,8],[3,7],[7],[],[],0⟩
 | 105,0 => ⟨[0,2,3,8],[],[],[],[],0⟩
 | 118,0 => ⟨[0,1,2,9],[0,1,9],[9],[],[],0⟩
 | 120,0 => ⟨[0,3],[2],[],[],[],0⟩
 | 122,0 => ⟨[0,2,4,6],[6,7],[],[],[],0⟩
 | 123,0 => ⟨[0,1,5],[4],[],[],[],0⟩
 | 125,0 => ⟨[0,1,5,6],[5],[],[],[],0⟩
 | 129,0 => ⟨[0,1,5,6],[5],[5],[],[],0⟩
 | 130,0 => ⟨[1,3,4],[3],[],[],[],0⟩
 | 131,0 => ⟨[1,3,4],[1,3],[],[],[],0⟩
 | 132,0 => ⟨[1,3,4],[1,2,3],[],[],[],0⟩
 | 132,3 => ⟨[1,3,5],[1,2,3],[],[],[],0⟩
 | 132,5 => ⟨[1,3,6],[1,2,3],[],[],[],0⟩
 | 133,0 => ⟨[0,3,4],[3],[3],[],[],0⟩
 | 134,0 => ⟨[0,2,4,6,8,9],[0,2,4,6,8],[8],[],[],0⟩
 | 135,1 => ⟨[6,7],[6],[],[],[],0⟩
 | 135,3 => ⟨[6,8],[6],[],[],[],0⟩
 | 135,5 => ⟨[1,9,10,11],[10],[],[],[],0⟩
 | 136,0 => ⟨[0,2,4,5],[2,3,4,5],[5],[],[],0⟩
 | 139,0 => ⟨[0,4,5],[4,5],[],[],[],0⟩
 | 141,0 => ⟨[0,3],[2],[],[],[],0⟩
 | 143,0 => ⟨[1,3,4],[3],[],[],[],0⟩
 | 144,1 => ⟨[0,1,2,3,12,13,14],[0,2,3,12],[],[],[],0⟩
 | 144,3 => ⟨[0,1,2,3,15,16],[8,9,10],[],[],[],0⟩
 | 147,0 => ⟨[0,3,4],[3],[3],[],[],0⟩
 | 149,0 => ⟨[0,3,4],[3],[],[],[3],0⟩
 | 149,2 => ⟨[0,3,4,5,6],[0,3,4,5,6],[],[],[],0⟩
 | 149,4 => ⟨[3,7,8],[7],[7],[],[],0⟩
 | 150,0 => ⟨[3,4],[3],[],[],[],0⟩
 | 156,0 => ⟨[0,1,2,11,12],[0,1,2,11],[],[],[],0⟩
 | 161,0 => ⟨[0,1,5],[4],[],[],[],0⟩
 | 162,0 => ⟨[3,4],[3],[],[],[],0⟩
 | _,_ => {}
def zjo (f : FuncId) : Bool := [46,34,35,99,65,66,45,9,48,23].contains f
def zkq (f : FuncId) : Bool := [16,121,99,66,45,7].contains f
def qvf : FuncId → Nat → List Nat
 | 3,14 => [9]
 | 156,7 => [11]
 | _,_ => []
def qtr (t : TypeId) : Bool := [211].contains t
noncomputable def G : GP := qfu Tryz.prog spec zjo zkq qvf qtr
theorem qq6 : G.owned 3 = false := rfl
theorem kp3 : G.keep 3 = false := rfl
theorem z4i : G.pre 3 0 = [] := rfl
theorem z7k : G.pre 3 1 = [] := rfl
theorem zck : G.pre 3 2 = [] := rfl
theorem qt1 : G.pre 3 3 = [] := rfl
theorem zei : G.pre 3 4 = [] := rfl
theorem zrq : G.pre 3 5 = [] := rfl
theorem zf8 : G.pre 3 6 = [] := rfl
theorem zji : G.pre 3 7 = [] := rfl
theorem z9r : G.pre 3 8 = [] := rfl
theorem zg9 : G.pre 3 9 = [] := rfl
theorem qst : G.pre 3 10 = [] := rfl
theorem zmj : G.pre 3 11 = [] := rfl
theorem zkd : G.pre 3 12 = [] := rfl
theorem qsi : G.pre 3 13 = [] := rfl
theorem qtf : G.pre 3 14 = [9] := rfl
theorem zsz : G.pre 3 15 = [] := rfl
theorem zjf : G.pre 3 16 = [] := rfl
theorem ze8 : G.pre 3 17 = [] := rfl
theorem zc9 : G.pre 3 18 = [] := rfl
theorem qua : G.pre 3 19 = [] := rfl
theorem zfm : G.pre 3 20 = [] := rfl
theorem z0q : G.pre 3 21 = [] := rfl
theorem zj1 : G.pre 3 22 = [] := rfl
theorem qqh : G.pre 3 23 = [] := rfl
theorem qtt : G.pre 3 24 = [] := rfl
theorem znu : G.pre 3 25 = [] := rfl
theorem qyx : G.pre 3 26 = [] := rfl
theorem z4z : G.pre 3 27 = [] := rfl
theorem qs7 : G.pre 3 28 = [] := rfl
theorem qqn : G.pre 3 29 = [] := rfl
theorem zbb : G.pre 3 30 = [] := rfl
theorem zd0 : G.pre 3 31 = [] := rfl
theorem z6x : G.pre 3 32 = [] := rfl
theorem qpt : G.pre 3 33 = [] := rfl
theorem qs8 : G.pre 3 34 = [] := rfl
theorem qzj : G.pre 3 35 = [] := rfl
theorem zrj : G.pre 3 36 = [] := rfl
theorem zab : G.pre 3 37 = [] := rfl
theorem zd9 : G.pre 3 38 = [] := rfl
theorem qvy : G.pre 3 39 = [] := rfl
theorem z1i : G.pre 3 40 = [] := rfl
theorem qu9 : G.pre 3 41 = [] := rfl
theorem z9o : G.pre 3 42 = [] := rfl
theorem zrb : G.pre 3 43 = [] := rfl
theorem zq3 : G.pre 3 44 = [] := rfl
theorem ze4 : G.pre 3 45 = [] := rfl
theorem zje : G.pre 3 46 = [] := rfl
theorem z4f : G.pre 3 47 = [] := rfl
theorem qpz : G.pre 3 48 = [] := rfl
theorem zr4 : G.pre 3 49 = [] := rfl
theorem qtp : G.pre 3 50 = [] := rfl
theorem zla : G.pre 3 51 = [] := rfl
theorem qvr : G.pre 3 52 = [] := rfl
theorem qtz : G.pre 3 53 = [] := rfl
theorem zbv : G.pre 3 54 = [] := rfl
theorem qye : G.pre 3 55 = [] := rfl
theorem zjy : G.pre 3 56 = [] := rfl
theorem zfy : G.pre 3 57 = [] := rfl
theorem zo5 : G.pre 3 58 = [] := rfl
theorem z03 : G.pre 3 59 = [] := rfl
theorem zn4 : G.pre 3 60 = [] := rfl
theorem zo7 : G.pre 3 61 = [] := rfl
theorem zhc : G.pre 3 62 = [] := rfl
theorem qqt : G.pre 3 63 = [] := rfl
theorem z7t : G.pre 3 64 = [] := rfl
theorem qw5 : G.pre 3 65 = [] := rfl
theorem zcs : G.pre 3 66 = [] := rfl
theorem zh2 : G.pre 3 67 = [] := rfl
theorem qpu : G.pre 3 68 = [] := rfl
theorem zs9 : G.pre 3 69 = [] := rfl
theorem zf4 : G.pre 3 70 = [] := rfl
theorem qve : G.pre 3 71 = [] := rfl
theorem zmt : G.pre 3 72 = [] := rfl
theorem zi5 : G.pre 3 73 = [] := rfl
theorem zt7 : G.owned 7 = false := rfl
theorem kp7 : G.keep 7 = true := rfl
theorem pr7 (i : Nat) : G.pre 7 i = [] := rfl
theorem zeq : G.owned 8 = false := rfl
theorem kp8 : G.keep 8 = false := rfl
theorem pr8 (i : Nat) : G.pre 8 i = [] := rfl
theorem zlu : G.owned 9 = true := rfl
theorem kp9 : G.keep 9 = false := rfl
theorem pr9 (i : Nat) : G.pre 9 i = [] := rfl
theorem z4b : G.owned 10 = false := rfl
theorem qud : G.keep 10 = false := rfl
theorem z2t (i : Nat) : G.pre 10 i = [] := rfl
theorem z4c : G.owned 11 = false := rfl
theorem zgz : G.keep 11 = false := rfl
theorem z01 (i : Nat) : G.pre 11 i = [] := rfl
theorem zaj : G.owned 19 = false := rfl
theorem qxr : G.keep 19 = false := rfl
theorem zgb (i : Nat) : G.pre 19 i = [] := rfl
theorem zsm : G.owned 20 = false := rfl
theorem zdi : G.keep 20 = false := rfl
theorem zbm (i : Nat) : G.pre 20 i = [] := rfl
theorem z5b : G.owned 22 = false := rfl
theorem qqk : G.keep 22 = false := rfl
theorem qwy (i : Nat) : G.pre 22 i = [] := rfl
theorem zrz : G.owned 23 = true := rfl
theorem qvp : G.keep 23 = false := rfl
theorem qrp (i : Nat) : G.pre 23 i = [] := rfl
theorem zcu : G.owned 24 = false := rfl
theorem zn5 : G.keep 24 = false := rfl
theorem zr7 (i : Nat) : G.pre 24 i = [] := rfl
theorem zq5 : G.owned 25 = false := rfl
theorem zm5 : G.keep 25 = false := rfl
theorem zdg (i : Nat) : G.pre 25 i = [] := rfl
theorem zmh : G.owned 26 = false := rfl
theorem qw7 : G.keep 26 = false := rfl
theorem z00 (i : Nat) : G.pre 26 i = [] := rfl
theorem z6v : G.owned 27 = false := rfl
theorem z2i : G.keep 27 = false := rfl
theorem qyz (i : Nat) : G.pre 27 i = [] := rfl
theorem zcc : G.owned 37 = false := rfl
theorem zj4 : G.keep 37 = false := rfl
theorem zo8 (i : Nat) : G.pre 37 i = [] := rfl
theorem zlc : G.owned 38 = false := rfl
theorem zpb : G.keep 38 = false := rfl
theorem zec (i : Nat) : G.pre 38 i = [] := rfl
theorem qyt : G.owned 39 = false := rfl
theorem zka : G.keep 39 = false := rfl
theorem z4y (i : Nat) : G.pre 39 i = [] := rfl
theorem qrk : G.owned 40 = false := rfl
theorem z0m : G.keep 40 = false := rfl
theorem zqb (i : Nat) : G.pre 40 i = [] := rfl
theorem zdh : G.owned 41 = false := rfl
theorem zd2 : G.keep 41 = false := rfl
theorem quy (i : Nat) : G.pre 41 i = [] := rfl
theorem z6q : G.owned 42 = false := rfl
theorem zi4 : G.keep 42 = false := rfl
theorem quj (i : Nat) : G.pre 42 i = [] := rfl
theorem zp2 : G.owned 43 = false := rfl
theorem qtd : G.keep 43 = false := rfl
theorem z3y (i : Nat) : G.pre 43 i = [] := rfl
theorem qro : G.owned 44 = false := rfl
theorem z0x : G.keep 44 = false := rfl
theorem zdw (i : Nat) : G.pre 44 i = [] := rfl
theorem qrj : G.owned 45 = true := rfl
theorem zhx : G.keep 45 = true := rfl
theorem qsq (i : Nat) : G.pre 45 i = [] := rfl
theorem zg2 : G.owned 48 = true := rfl
theorem zsq : G.keep 48 = false := rfl
theorem zjz (i : Nat) : G.pre 48 i = [] := rfl
theorem zea : G.owned 52 = false := rfl
theorem zl9 : G.keep 52 = false := rfl
theorem z0t (i : Nat) : G.pre 52 i = [] := rfl
theorem zki : G.owned 53 = false := rfl
theorem zif : G.keep 53 = false := rfl
theorem qup (i : Nat) : G.pre 53 i = [] := rfl
theorem quq : G.owned 54 = false := rfl
theorem zbs : G.keep 54 = false := rfl
theorem zov (i : Nat) : G.pre 54 i = [] := rfl
theorem zqg : G.owned 55 = false := rfl
theorem z5c : G.keep 55 = false := rfl
theorem zbj (i : Nat) : G.pre 55 i = [] := rfl
theorem zon : G.owned 56 = false := rfl
theorem qv4 : G.keep 56 = false := rfl
theorem za1 (i : Nat) : G.pre 56 i = [] := rfl
theorem qxz : G.owned 57 = false := rfl
theorem z7o : G.keep 57 = false := rfl
theorem zg0 (i : Nat) : G.pre 57 i = [] := rfl
theorem z2x : G.owned 58 = false := rfl
theorem zbl : G.keep 58 = false := rfl
theorem qxu (i : Nat) : G.pre 58 i = [] := rfl
theorem zds : G.owned 59 = false := rfl
theorem z7v : G.keep 59 = false := rfl
theorem zf5 (i : Nat) : G.pre 59 i = [] := rfl
theorem z95 : G.owned 60 = false := rfl
theorem qr7 : G.keep 60 = false := rfl
theorem qtl (i : Nat) : G.pre 60 i = [] := rfl
theorem qya : G.owned 61 = false := rfl
theorem zjn : G.keep 61 = false := rfl
theorem zat (i : Nat) : G.pre 61 i = [] := rfl
theorem qsp : G.owned 62 = false := rfl
theorem z7d : G.keep 62 = false := rfl
theorem zb9 (i : Nat) : G.pre 62 i = [] := rfl
theorem zrf : G.owned 63 = false := rfl
theorem zgk : G.keep 63 = false := rfl
theorem zlr (i : Nat) : G.pre 63 i = [] := rfl
theorem qxg : G.owned 64 = false := rfl
theorem qsy : G.keep 64 = false := rfl
theorem z8r (i : Nat) : G.pre 64 i = [] := rfl
theorem zaa : G.owned 65 = true := rfl
theorem z3d : G.keep 65 = false := rfl
theorem z4j (i : Nat) : G.pre 65 i = [] := rfl
theorem zdu : G.owned 66 = true := rfl
theorem zez : G.keep 66 = true := rfl
theorem znr (i : Nat) : G.pre 66 i = [] := rfl
theorem z0j : G.owned 67 = false := rfl
theorem qsr : G.keep 67 = false := rfl
theorem zss (i : Nat) : G.pre 67 i = [] := rfl
theorem zoj : G.owned 71 = false := rfl
theorem qpv : G.keep 71 = false := rfl
theorem zh3 (i : Nat) : G.pre 71 i = [] := rfl
theorem zl5 : G.owned 72 = false := rfl
theorem zib : G.keep 72 = false := rfl
theorem zba (i : Nat) : G.pre 72 i = [] := rfl
theorem z6e : G.owned 73 = false := rfl
theorem zri : G.keep 73 = false := rfl
theorem zok (i : Nat) : G.pre 73 i = [] := rfl
theorem z1h : G.owned 74 = false := rfl
theorem qqc : G.keep 74 = false := rfl
theorem z18 (i : Nat) : G.pre 74 i = [] := rfl
theorem z1m : G.owned 75 = false := rfl
theorem qs5 : G.keep 75 = false := rfl
theorem qq1 (i : Nat) : G.pre 75 i = [] := rfl
theorem zs6 : G.owned 76 = false := rfl
theorem z2h : G.keep 76 = false := rfl
theorem zph (i : Nat) : G.pre 76 i = [] := rfl
theorem z1u : G.owned 77 = false := rfl
theorem zjd : G.keep 77 = false := rfl
theorem z0s (i : Nat) : G.pre 77 i = [] := rfl
theorem zf9 : G.owned 78 = false := rfl
theorem z4r : G.keep 78 = false := rfl
theorem z9q (i : Nat) : G.pre 78 i = [] := rfl
theorem z1b : G.owned 79 = false := rfl
theorem zqk : G.keep 79 = false := rfl
theorem qxn (i : Nat) : G.pre 79 i = [] := rfl
theorem zli : G.owned 80 = false := rfl
theorem qvk : G.keep 80 = false := rfl
theorem zs5 (i : Nat) : G.pre 80 i = [] := rfl
theorem qwq : G.owned 81 = false := rfl
theorem zjr : G.keep 81 = false := rfl
theorem zir (i : Nat) : G.pre 81 i = [] := rfl
theorem qvm : G.owned 93 = false := rfl
theorem z6r : G.keep 93 = false := rfl
theorem zoa (i : Nat) : G.pre 93 i = [] := rfl
theorem qt8 : G.owned 94 = false := rfl
theorem z6m : G.keep 94 = false := rfl
theorem z6g (i : Nat) : G.pre 94 i = [] := rfl
theorem zqo : G.owned 95 = false := rfl
theorem qrb : G.keep 95 = false := rfl
theorem zke (i : Nat) : G.pre 95 i = [] := rfl
theorem zgt : G.owned 96 = false := rfl
theorem z1v : G.keep 96 = false := rfl
theorem zdv (i : Nat) : G.pre 96 i = [] := rfl
theorem zoy : G.owned 97 = false := rfl
theorem zt3 : G.keep 97 = false := rfl
theorem qq3 (i : Nat) : G.pre 97 i = [] := rfl
theorem zln : G.owned 98 = false := rfl
theorem z9i : G.keep 98 = false := rfl
theorem znl (i : Nat) : G.pre 98 i = [] := rfl
theorem ze6 : G.owned 99 = true := rfl
theorem qwf : G.keep 99 = true := rfl
theorem zot (i : Nat) : G.pre 99 i = [] := rfl
theorem zn0 : G.owned 100 = false := rfl
theorem zfw : G.keep 100 = false := rfl
theorem zmy (i : Nat) : G.pre 100 i = [] := rfl
theorem zml : G.owned 101 = false := rfl
theorem z0k : G.keep 101 = false := rfl
theorem qwt (i : Nat) : G.pre 101 i = [] := rfl
theorem zmc : G.owned 102 = false := rfl
theorem z2z : G.keep 102 = false := rfl
theorem zew (i : Nat) : G.pre 102 i = [] := rfl
theorem z0w : G.owned 103 = false := rfl
theorem qzi : G.keep 103 = false := rfl
theorem zjq (i : Nat) : G.pre 103 i = [] := rfl
theorem z2o : G.owned 104 = false := rfl
theorem z5n : G.keep 104 = false := rfl
theorem znx (i : Nat) : G.pre 104 i = [] := rfl
theorem zkb : G.owned 111 = false := rfl
theorem qrz : G.keep 111 = false := rfl
theorem zpr (i : Nat) : G.pre 111 i = [] := rfl
theorem zhq : G.owned 112 = false := rfl
theorem zj7 : G.keep 112 = false := rfl
theorem zp1 (i : Nat) : G.pre 112 i = [] := rfl
theorem qsx : G.owned 113 = false := rfl
theorem zbx : G.keep 113 = false := rfl
theorem zqt (i : Nat) : G.pre 113 i = [] := rfl
theorem zsi : G.owned 114 = false := rfl
theorem qti : G.keep 114 = false := rfl
theorem qu6 (i : Nat) : G.pre 114 i = [] := rfl
theorem zdt : G.owned 115 = false := rfl
theorem zpn : G.keep 115 = false := rfl
theorem zrx (i : Nat) : G.pre 115 i = [] := rfl
theorem qxs : G.owned 116 = false := rfl
theorem qws : G.keep 116 = false := rfl
theorem qzz (i : Nat) : G.pre 116 i = [] := rfl
theorem qqz : G.owned 117 = false := rfl
theorem z3t : G.keep 117 = false := rfl
theorem z8a (i : Nat) : G.pre 117 i = [] := rfl
theorem zl1 : G.owned 118 = false := rfl
theorem z92 : G.keep 118 = false := rfl
theorem qze (i : Nat) : G.pre 118 i = [] := rfl
theorem qv6 : G.owned 119 = false := rfl
theorem zd5 : G.keep 119 = false := rfl
theorem z6o (i : Nat) : G.pre 119 i = [] := rfl
theorem zis : G.owned 120 = false := rfl
theorem qyj : G.keep 120 = false := rfl
theorem z2y (i : Nat) : G.pre 120 i = [] := rfl
theorem z4v : G.owned 121 = false := rfl
theorem qqd : G.keep 121 = true := rfl
theorem qzp (i : Nat) : G.pre 121 i = [] := rfl
theorem qxc : G.owned 122 = false := rfl
theorem qwm : G.keep 122 = false := rfl
theorem zqx (i : Nat) : G.pre 122 i = [] := rfl
theorem z2w : G.owned 123 = false := rfl
theorem zau : G.keep 123 = false := rfl
theorem qx7 (i : Nat) : G.pre 123 i = [] := rfl
theorem zj9 : G.owned 124 = false := rfl
theorem qtv : G.keep 124 = false := rfl
theorem z7j (i : Nat) : G.pre 124 i = [] := rfl
theorem zl0 : G.owned 125 = false := rfl
theorem zmr : G.keep 125 = false := rfl
theorem z7m (i : Nat) : G.pre 125 i = [] := rfl
theorem zt0 : G.owned 127 = false := rfl
theorem qvc : G.keep 127 = false := rfl
theorem qx4 (i : Nat) : G.pre 127 i = [] := rfl
theorem z0i : G.owned 128 = false := rfl
theorem zp3 : G.keep 128 = false := rfl
theorem z1e (i : Nat) : G.pre 128 i = [] := rfl
theorem qwz : G.owned 129 = false := rfl
theorem qx5 : G.keep 129 = false := rfl
theorem qu3 (i : Nat) : G.pre 129 i = [] := rfl
theorem z8j : G.owned 130 = false := rfl
theorem znp : G.keep 130 = false := rfl
theorem zfi (i : Nat) : G.pre 130 i = [] := rfl
theorem zdc : G.owned 131 = false := rfl
theorem qrr : G.keep 131 = false := rfl
theorem zhn (i : Nat) : G.pre 131 i = [] := rfl
theorem qvz : G.owned 132 = false := rfl
theorem qy7 : G.keep 132 = false := rfl
theorem zp9 (i : Nat) : G.pre 132 i = [] := rfl
theorem zej : G.owned 133 = false := rfl
theorem zbn : G.keep 133 = false := rfl
theorem z1a (i : Nat) : G.pre 133 i = [] := rfl
theorem zbz : G.owned 134 = false := rfl
theorem zse : G.keep 134 = false := rfl
theorem qz9 (i : Nat) : G.pre 134 i = [] := rfl
theorem qul : G.owned 135 = false := rfl
theorem zc7 : G.keep 135 = false := rfl
theorem zcd (i : Nat) : G.pre 135 i = [] := rfl
theorem zjj : G.owned 136 = false := rfl
theorem qub : G.keep 136 = false := rfl
theorem z7l (i : Nat) : G.pre 136 i = [] := rfl
theorem z0g : G.owned 137 = false := rfl
theorem z6c : G.keep 137 = false := rfl
theorem qpw (i : Nat) : G.pre 137 i = [] := rfl
theorem zrn : G.owned 138 = false := rfl
theorem qwa : G.keep 138 = false := rfl
theorem zdz (i : Nat) : G.pre 138 i = [] := rfl
theorem qpn : G.owned 139 = false := rfl
theorem qzu : G.keep 139 = false := rfl
theorem zq1 (i : Nat) : G.pre 139 i = [] := rfl
theorem zqu : G.owned 140 = false := rfl
theorem qqq : G.keep 140 = false := rfl
theorem quf (i : Nat) : G.pre 140 i = [] := rfl
theorem z9m : G.owned 141 = false := rfl
theorem z5i : G.keep 141 = false := rfl
theorem zb4 (i : Nat) : G.pre 141 i = [] := rfl
theorem zbe : G.owned 142 = false := rfl
theorem zer : G.keep 142 = false := rfl
theorem zsx (i : Nat) : G.pre 142 i = [] := rfl
theorem qra : G.owned 143 = false := rfl
theorem z1f : G.keep 143 = false := rfl
theorem zle (i : Nat) : G.pre 143 i = [] := rfl
theorem zmw : G.owned 144 = false := rfl
theorem zol : G.keep 144 = false := rfl
theorem zeh (i : Nat) : G.pre 144 i = [] := rfl
theorem z4o : G.owned 145 = false := rfl
theorem zme : G.keep 145 = false := rfl
theorem zbu (i : Nat) : G.pre 145 i = [] := rfl
theorem zro : G.owned 146 = false := rfl
theorem zoi : G.keep 146 = false := rfl
theorem qsn (i : Nat) : G.pre 146 i = [] := rfl
theorem qwo : G.owned 147 = false := rfl
theorem zrc : G.keep 147 = false := rfl
theorem qu2 (i : Nat) : G.pre 147 i = [] := rfl
theorem zmu : G.owned 148 = false := rfl
theorem quh : G.keep 148 = false := rfl
theorem zn7 (i : Nat) : G.pre 148 i = [] := rfl
theorem zin : G.owned 149 = false := rfl
theorem zcj : G.keep 149 = false := rfl
theorem zp7 (i : Nat) : G.pre 149 i = [] := rfl
theorem qxd : G.owned 150 = false := rfl
theorem qwh : G.keep 150 = false := rfl
theorem zey (i : Nat) : G.pre 150 i = [] := rfl
theorem ze5 : G.owned 151 = false := rfl
theorem z8x : G.keep 151 = false := rfl
theorem qsz (i : Nat) : G.pre 151 i = [] := rfl
theorem zmz : G.owned 152 = false := rfl
theorem zhj : G.keep 152 = false := rfl
theorem zsy (i : Nat) : G.pre 152 i = [] := rfl
theorem ze1 : G.owned 153 = false := rfl
theorem qrf : G.keep 153 = false := rfl
theorem qq7 (i : Nat) : G.pre 153 i = [] := rfl
theorem qrq : G.owned 154 = false := rfl
theorem zik : G.keep 154 = false := rfl
theorem z9e (i : Nat) : G.pre 154 i = [] := rfl
theorem zih : G.owned 155 = false := rfl
theorem qte : G.keep 155 = false := rfl
theorem qvt (i : Nat) : G.pre 155 i = [] := rfl
theorem z3w : G.owned 156 = false := rfl
theorem zi8 : G.keep 156 = false := rfl
theorem qxx : G.pre 156 0 = [] := rfl
theorem z07 : G.pre 156 1 = [] := rfl
theorem zja : G.pre 156 2 = [] := rfl
theorem qw9 : G.pre 156 3 = [] := rfl
theorem z1r : G.pre 156 4 = [] := rfl
theorem z4t : G.pre 156 5 = [] := rfl
theorem zpv : G.pre 156 6 = [] := rfl
theorem qxp : G.pre 156 7 = [11] := rfl
theorem zbp : G.pre 156 8 = [] := rfl
theorem zsf : G.pre 156 9 = [] := rfl
theorem z2f : G.pre 156 10 = [] := rfl
theorem zkn : G.pre 156 11 = [] := rfl
theorem zq2 : G.pre 156 12 = [] := rfl
theorem qyi : G.pre 156 13 = [] := rfl
theorem zr8 : G.pre 156 14 = [] := rfl
theorem zae : G.pre 156 15 = [] := rfl
theorem za7 : G.pre 156 16 = [] := rfl
theorem qr5 : G.pre 156 17 = [] := rfl
theorem z0y : G.pre 156 18 = [] := rfl
theorem zl2 : G.pre 156 19 = [] := rfl
theorem zdj : G.pre 156 20 = [] := rfl
theorem qqv : G.pre 156 21 = [] := rfl
theorem zm1 : G.pre 156 22 = [] := rfl
theorem zsu : G.pre 156 23 = [] := rfl
theorem qrh : G.pre 156 24 = [] := rfl
theorem zn2 : G.pre 156 25 = [] := rfl
theorem z81 : G.pre 156 26 = [] := rfl
theorem qu0 : G.pre 156 27 = [] := rfl
theorem zb2 : G.pre 156 28 = [] := rfl
theorem zai : G.pre 156 29 = [] := rfl
theorem qu4 : G.pre 156 30 = [] := rfl
theorem zn1 : G.pre 156 31 = [] := rfl
theorem z4s : G.pre 156 32 = [] := rfl
theorem qq5 : G.pre 156 33 = [] := rfl
theorem z0h : G.pre 156 34 = [] := rfl
theorem zfb : G.pre 156 35 = [] := rfl
theorem zkf : G.pre 156 36 = [] := rfl
theorem qv7 : G.pre 156 37 = [] := rfl
theorem z0l : G.pre 156 38 = [] := rfl
theorem qw8 : G.pre 156 39 = [] := rfl
theorem zak : G.pre 156 40 = [] := rfl
theorem zr1 : G.pre 156 41 = [] := rfl
theorem qw0 : G.pre 156 42 = [] := rfl
theorem z1k : G.pre 156 43 = [] := rfl
theorem ze3 : G.pre 156 44 = [] := rfl
theorem z6j : G.pre 156 45 = [] := rfl
theorem z2v : G.pre 156 46 = [] := rfl
theorem zgf : G.pre 156 47 = [] := rfl
theorem zct : G.pre 156 48 = [] := rfl
theorem qqi : G.pre 156 49 = [] := rfl
theorem z5w : G.pre 156 50 = [] := rfl
theorem zal : G.pre 156 51 = [] := rfl
theorem z8g : G.pre 156 52 = [] := rfl
theorem zcv : G.pre 156 53 = [] := rfl
theorem zlv : G.pre 156 54 = [] := rfl
theorem zlo : G.pre 156 55 = [] := rfl
theorem zs4 : G.pre 156 56 = [] := rfl
theorem zos : G.pre 156 57 = [] := rfl
theorem qwk : G.pre 156 58 = [] := rfl
theorem qwc : G.pre 156 59 = [] := rfl
theorem qzc : G.pre 156 60 = [] := rfl
theorem z3n : G.pre 156 61 = [] := rfl
theorem qwg : G.pre 156 62 = [] := rfl
theorem z4l : G.pre 156 63 = [] := rfl
theorem qqu : G.pre 156 64 = [] := rfl
theorem zgw : G.pre 156 65 = [] := rfl
theorem zne : G.pre 156 66 = [] := rfl
theorem zpz : G.owned 157 = false := rfl
theorem zii : G.keep 157 = false := rfl
theorem znz (i : Nat) : G.pre 157 i = [] := rfl
theorem qxt : G.owned 158 = false := rfl
theorem zbt : G.keep 158 = false := rfl
theorem quk (i : Nat) : G.pre 158 i = [] := rfl
theorem z9x : G.owned 159 = false := rfl
theorem zc2 : G.keep 159 = false := rfl
theorem zny (i : Nat) : G.pre 159 i = [] := rfl
theorem zg3 : G.owned 160 = false := rfl
theorem qtc : G.keep 160 = false := rfl
theorem qtg (i : Nat) : G.pre 160 i = [] := rfl
theorem zhz : G.owned 161 = false := rfl
theorem z0d : G.keep 161 = false := rfl
theorem qr4 (i : Nat) : G.pre 161 i = [] := rfl
theorem z2j : G.owned 162 = false := rfl
theorem qtj : G.keep 162 = false := rfl
theorem zrw (i : Nat) : G.pre 162 i = [] := rfl
theorem z5t : G.spec 7 0 = ⟨[1,4,9,11,12],[4,11],[],[(11,2)],[],0⟩ := rfl
theorem zhy : G.spec 9 0 = ⟨[2,5,18,19,20],[4],[],[],[],0⟩ := rfl
theorem zgh : G.spec 11 0 = ⟨[2,5],[4],[],[],[],0⟩ := rfl
theorem qty : G.spec 11 2 = ⟨[2,5,6,8],[2,4,5],[],[],[],0⟩ := rfl
theorem qt6 : G.spec 19 0 = ⟨[0,4,5],[4],[],[],[],0⟩ := rfl
theorem zbi : G.spec 20 0 = ⟨[11,12,13],[11,12],[],[],[],0⟩ := rfl
theorem zls : G.spec 20 2 = ⟨[15,17,19,20],[15,17,19],[],[],[],0⟩ := rfl
theorem zee : G.spec 23 0 = ⟨[1,2,5],[1,2,4],[],[],[],0⟩ := rfl
theorem zsd : G.spec 26 0 = ⟨[0,1,2],[6],[],[],[],0⟩ := rfl
theorem zcm : G.spec 38 0 = ⟨[0,1,2,8,9],[0,1,2,8,9],[8,9],[],[],2⟩ := rfl
theorem zi6 : G.spec 39 0 = ⟨[0,3,4],[3],[],[],[],0⟩ := rfl
theorem qvn : G.spec 41 0 = ⟨[0,1,2,6],[],[],[(0,3),(0,4),(0,5)],[],0⟩ := rfl
theorem zm7 : G.spec 42 0 = ⟨[0,2,3],[0,2],[],[],[],0⟩ := rfl
theorem zfl : G.spec 42 2 = ⟨[0,2,4],[0],[],[],[],0⟩ := rfl
theorem zoc : G.spec 42 4 = ⟨[0,5,6],[],[5],[],[],0⟩ := rfl
theorem zqm : G.spec 43 0 = ⟨[0,3],[2],[],[],[],0⟩ := rfl
theorem z3z : G.spec 43 2 = ⟨[0,3,4,5],[0,3,4],[],[],[],0⟩ := rfl
theorem qt2 : G.spec 44 0 = ⟨[0,1,3,10,11],[8,9,10],[],[(1,0),(1,1)],[],0⟩ := rfl
theorem zpw : G.spec 45 0 = ⟨[0,1,2,3,5,6,16],[2,6],[2],[],[],0⟩ := rfl
theorem zpm : G.spec 53 0 = ⟨[0,4,7,8],[0,4,7,8],[7],[],[],0⟩ := rfl
theorem qyk : G.spec 53 2 = ⟨[0,4,12,14],[0,4,5,6,12,14],[],[],[],0⟩ := rfl
theorem qsf : G.spec 54 0 = ⟨[0,1,6,7],[0,1,6,7],[6,7],[],[],2⟩ := rfl
theorem zda : G.spec 56 0 = ⟨[0,3,4],[3],[3],[],[],0⟩ := rfl
theorem zaf : G.spec 57 0 = ⟨[0,3],[2],[],[],[],0⟩ := rfl
theorem z9a : G.spec 59 0 = ⟨[0,1,2,7,8,9],[7],[7],[],[],0⟩ := rfl
theorem qxi : G.spec 60 0 = ⟨[0,1,6],[4,5],[],[],[],0⟩ := rfl
theorem qrm : G.spec 61 0 = ⟨[0,3,4],[2],[],[],[],0⟩ := rfl
theorem zbc : G.spec 62 0 = ⟨[0,3,5,8,9,10],[0,3,5,8,9],[],[(9,17)],[],0⟩ := rfl
theorem z7n : G.spec 63 0 = ⟨[0,1,5],[0,1,4],[],[],[],0⟩ := rfl
theorem zhf : G.spec 64 0 = ⟨[0,1,5],[4],[],[],[],0⟩ := rfl
theorem zl4 : G.spec 65 0 = ⟨[0,1,5],[4],[],[],[],0⟩ := rfl
theorem zs3 : G.spec 66 0 = ⟨[0,1,2,7],[2],[2],[],[],0⟩ := rfl
theorem zf0 : G.spec 71 0 = ⟨[0,1,7,8],[0,1,7,8],[],[],[],0⟩ := rfl
theorem zr0 : G.spec 72 0 = ⟨[0,1,7],[0,1,7],[],[],[],0⟩ := rfl
theorem z5u : G.spec 74 0 = ⟨[0,1,7],[0,1,7],[7],[],[],0⟩ := rfl
theorem zaq : G.spec 75 0 = ⟨[2,3,5],[4],[],[],[],0⟩ := rfl
theorem zpj : G.spec 77 0 = ⟨[0,3],[2],[],[],[],0⟩ := rfl
theorem z5r : G.spec 79 0 = ⟨[0,1,5],[4],[],[],[],0⟩ := rfl
theorem zim : G.spec 81 0 = ⟨[1,3,9,10,14,15,16],[1,6,7,8,10,14,15],[],[],[],0⟩ := rfl
theorem z4n : G.spec 95 0 = ⟨[0,3,4,5],[3],[3],[],[],0⟩ := rfl
theorem zj0 : G.spec 96 0 = ⟨[0,1,4,6],[4,5],[6],[],[],0⟩ := rfl
theorem qq4 : G.spec 96 2 = ⟨[0,1,4,6,7],[0,1,4,5,6,7],[7],[],[],0⟩ := rfl
theorem qpl : G.spec 97 1 = ⟨[0,4,8,10,11],[4,5,6],[],[],[],0⟩ := rfl
theorem z2m : G.spec 100 0 = ⟨[2,3,5],[2,3,4],[],[],[],0⟩ := rfl
theorem qvw : G.spec 100 2 = ⟨[2,3,6],[4],[],[],[],0⟩ := rfl
theorem qz0 : G.spec 102 0 = ⟨[4,11,12,13],[8,9,10,11,12],[12],[],[],0⟩ := rfl
theorem zrs : G.spec 104 0 = ⟨[1,3,5,7,8],[3,7],[7],[],[],0⟩ := rfl
theorem zgn : G.spec 118 0 = ⟨[0,1,2,9],[0,1,9],[9],[],[],0⟩ := rfl
theorem zpx : G.spec 120 0 = ⟨[0,3],[2],[],[],[],0⟩ := rfl
theorem qtx : G.spec 122 0 = ⟨[0,2,4,6],[6,7],[],[],[],0⟩ := rfl
theorem zdn : G.spec 123 0 = ⟨[0,1,5],[4],[],[],[],0⟩ := rfl
theorem zfc : G.spec 125 0 = ⟨[0,1,5,6],[5],[],[],[],0⟩ := rfl
theorem zkt : G.spec 129 0 = ⟨[0,1,5,6],[5],[5],[],[],0⟩ := rfl
theorem qun : G.spec 130 0 = ⟨[1,3,4],[3],[],[],[],0⟩ := rfl
theorem qzk : G.spec 131 0 = ⟨[1,3,4],[1,3],[],[],[],0⟩ := rfl
theorem zom : G.spec 132 0 = ⟨[1,3,4],[1,2,3],[],[],[],0⟩ := rfl
theorem z4g : G.spec 132 3 = ⟨[1,3,5],[1,2,3],[],[],[],0⟩ := rfl
theorem z9s : G.spec 132 5 = ⟨[1,3,6],[1,2,3],[],[],[],0⟩ := rfl
theorem zq9 : G.spec 133 0 = ⟨[0,3,4],[3],[3],[],[],0⟩ := rfl
theorem qwx : G.spec 134 0 = ⟨[0,2,4,6,8,9],[0,2,4,6,8],[8],[],[],0⟩ := rfl
theorem zs2 : G.spec 135 1 = ⟨[6,7],[6],[],[],[],0⟩ := rfl
theorem z4p : G.spec 135 3 = ⟨[6,8],[6],[],[],[],0⟩ := rfl
theorem qwe : G.spec 135 5 = ⟨[1,9,10,11],[10],[],[],[],0⟩ := rfl
theorem zc0 : G.spec 136 0 = ⟨[0,2,4,5],[2,3,4,5],[5],[],[],0⟩ := rfl
theorem zr9 : G.spec 139 0 = ⟨[0,4,5],[4,5],[],[],[],0⟩ := rfl
theorem zm6 : G.spec 141 0 = ⟨[0,3],[2],[],[],[],0⟩ := rfl
theorem zkx : G.spec 143 0 = ⟨[1,3,4],[3],[],[],[],0⟩ := rfl
theorem zjw : G.spec 144 1 = ⟨[0,1,2,3,12,13,14],[0,2,3,12],[],[],[],0⟩ := rfl
theorem zj6 : G.spec 144 3 = ⟨[0,1,2,3,15,16],[8,9,10],[],[],[],0⟩ := rfl
theorem zoq : G.spec 147 0 = ⟨[0,3,4],[3],[3],[],[],0⟩ := rfl
theorem zgv : G.spec 149 0 = ⟨[0,3,4],[3],[],[],[3],0⟩ := rfl
theorem z13 : G.spec 149 2 = ⟨[0,3,4,5,6],[0,3,4,5,6],[],[],[],0⟩ := rfl
theorem qyp : G.spec 149 4 = ⟨[3,7,8],[7],[7],[],[],0⟩ := rfl
theorem zmq : G.spec 150 0 = ⟨[3,4],[3],[],[],[],0⟩ := rfl
theorem z8i : G.spec 156 0 = ⟨[0,1,2,11,12],[0,1,2,11],[],[],[],0⟩ := rfl
theorem zfk : G.spec 161 0 = ⟨[0,1,5],[4],[],[],[],0⟩ := rfl
theorem zdl : G.spec 162 0 = ⟨[3,4],[3],[],[],[],0⟩ := rfl
theorem fz1 : G.frz 1 = false := rfl
theorem fz2 : G.frz 2 = false := rfl
theorem fz3 : G.frz 3 = false := rfl
theorem fz4 : G.frz 4 = false := rfl
theorem fz5 : G.frz 5 = false := rfl
theorem fz6 : G.frz 6 = false := rfl
theorem fz7 : G.frz 7 = false := rfl
theorem fz8 : G.frz 8 = false := rfl
theorem fz9 : G.frz 9 = false := rfl
theorem qqe : G.frz 10 = false := rfl
theorem qrs : G.frz 11 = false := rfl
theorem zpt : G.frz 12 = false := rfl
theorem z5d : G.frz 13 = false := rfl
theorem zpo : G.frz 14 = false := rfl
theorem qvh : G.frz 15 = false := rfl
theorem zfe : G.frz 16 = false := rfl
theorem zkj : G.frz 17 = false := rfl
theorem z3e : G.frz 18 = false := rfl
theorem zky : G.frz 19 = false := rfl
theorem zmp : G.frz 20 = false := rfl
theorem zgu : G.frz 21 = false := rfl
theorem qsw : G.frz 22 = false := rfl
theorem zsv : G.frz 23 = false := rfl
theorem qyq : G.frz 24 = false := rfl
theorem z0u : G.frz 25 = false := rfl
theorem z1d : G.frz 26 = false := rfl
theorem z1g : G.frz 28 = false := rfl
theorem z5e : G.frz 29 = false := rfl
theorem zft : G.frz 30 = false := rfl
theorem zsj : G.frz 31 = false := rfl
theorem qu7 : G.frz 32 = false := rfl
theorem qyw : G.frz 33 = false := rfl
theorem zgd : G.frz 34 = false := rfl
theorem z7b : G.frz 35 = false := rfl
theorem qwp : G.frz 36 = false := rfl
theorem zll : G.frz 37 = false := rfl
theorem z8z : G.frz 38 = false := rfl
theorem zlw : G.frz 39 = false := rfl
theorem zt4 : G.frz 40 = false := rfl
theorem zsw : G.frz 41 = false := rfl
theorem z2n : G.frz 42 = false := rfl
theorem zhs : G.frz 43 = false := rfl
theorem qr3 : G.frz 44 = false := rfl
theorem z08 : G.frz 45 = false := rfl
theorem qpx : G.frz 46 = false := rfl
theorem qtq : G.frz 47 = false := rfl
theorem qsa : G.frz 48 = false := rfl
theorem z8s : G.frz 49 = false := rfl
theorem qtk : G.frz 50 = false := rfl
theorem z5f : G.frz 51 = false := rfl
theorem qsv : G.frz 52 = false := rfl
theorem zff : G.frz 53 = false := rfl
theorem z1t : G.frz 54 = false := rfl
theorem qru : G.frz 55 = false := rfl
theorem qrg : G.frz 56 = false := rfl
theorem qvj : G.frz 58 = false := rfl
theorem zhv : G.frz 60 = false := rfl
theorem qsg : G.frz 62 = false := rfl
theorem zbh : G.frz 63 = false := rfl
theorem zmm : G.frz 64 = false := rfl
theorem zqj : G.frz 65 = false := rfl
theorem zao : G.frz 66 = false := rfl
theorem z0z : G.frz 67 = false := rfl
theorem z7s : G.frz 68 = false := rfl
theorem zho : G.frz 69 = false := rfl
theorem qrv : G.frz 70 = false := rfl
theorem qt3 : G.frz 71 = false := rfl
theorem z2c : G.frz 72 = false := rfl
theorem qx6 : G.frz 73 = false := rfl
theorem qw1 : G.frz 74 = false := rfl
theorem zfa : G.frz 75 = false := rfl
theorem zm9 : G.frz 76 = false := rfl
theorem z1y : G.frz 77 = false := rfl
theorem zcx : G.frz 78 = false := rfl
theorem zjl : G.frz 79 = false := rfl
theorem zh9 : G.frz 80 = false := rfl
theorem z5g : G.frz 81 = false := rfl
theorem qsh : G.frz 82 = false := rfl
theorem zde : G.frz 83 = false := rfl
theorem z9n : G.frz 85 = false := rfl
theorem zbr : G.frz 87 = false := rfl
theorem zno : G.frz 88 = false := rfl
theorem zjs : G.frz 89 = false := rfl
theorem ziw : G.frz 90 = false := rfl
theorem zso : G.frz 91 = false := rfl
theorem zoh : G.frz 92 = false := rfl
theorem zfx : G.frz 93 = false := rfl
theorem zdq : G.frz 94 = false := rfl
theorem qz4 : G.frz 95 = false := rfl
theorem zm2 : G.frz 96 = false := rfl
theorem quu : G.frz 97 = false := rfl
theorem qvu : G.frz 98 = false := rfl
theorem zdf : G.frz 99 = false := rfl
theorem z6a : G.frz 100 = false := rfl
theorem zjk : G.frz 102 = false := rfl
theorem z9z : G.frz 104 = false := rfl
theorem qva : G.frz 105 = false := rfl
theorem qv2 : G.frz 106 = false := rfl
theorem zfp : G.frz 107 = false := rfl
theorem qv0 : G.frz 109 = false := rfl
theorem zgl : G.frz 111 = false := rfl
theorem znq : G.frz 112 = false := rfl
theorem qwv : G.frz 113 = false := rfl
theorem z6n : G.frz 114 = false := rfl
theorem z8b : G.frz 115 = false := rfl
theorem qqo : G.frz 116 = false := rfl
theorem qus : G.frz 118 = false := rfl
theorem z8c : G.frz 119 = false := rfl
theorem zog : G.frz 120 = false := rfl
theorem z0o : G.frz 121 = false := rfl
theorem zor : G.frz 122 = false := rfl
theorem z6b : G.frz 123 = false := rfl
theorem zo0 : G.frz 124 = false := rfl
theorem z04 : G.frz 125 = false := rfl
theorem z1j : G.frz 126 = false := rfl
theorem zko : G.frz 128 = false := rfl
theorem zrp : G.frz 130 = false := rfl
theorem zi3 : G.frz 132 = false := rfl
theorem qzx : G.frz 134 = false := rfl
theorem zn8 : G.frz 135 = false := rfl
theorem qvs : G.frz 136 = false := rfl
theorem zkg : G.frz 137 = false := rfl
theorem qqg : G.frz 138 = false := rfl
theorem zk0 : G.frz 139 = false := rfl
theorem z6z : G.frz 141 = false := rfl
theorem zk6 : G.frz 142 = false := rfl
theorem zrl : G.frz 143 = false := rfl
theorem qzt : G.frz 145 = false := rfl
theorem zhw : G.frz 146 = false := rfl
theorem zry : G.frz 147 = false := rfl
theorem qsj : G.frz 148 = false := rfl
theorem zo6 : G.frz 149 = false := rfl
theorem zcw : G.frz 150 = false := rfl
theorem z2d : G.frz 151 = false := rfl
theorem qss : G.frz 152 = false := rfl
theorem z3i : G.frz 153 = false := rfl
theorem qx9 : G.frz 154 = false := rfl
theorem qr2 : G.frz 155 = false := rfl
theorem zqs : G.frz 156 = false := rfl
theorem znc : G.frz 157 = false := rfl
theorem zha : G.frz 158 = false := rfl
theorem qs1 : G.frz 159 = false := rfl
theorem quz : G.frz 160 = false := rfl
theorem z8t : G.frz 162 = false := rfl
theorem z8q : G.frz 163 = false := rfl
theorem zgi : G.frz 164 = false := rfl
theorem qrt : G.frz 165 = false := rfl
theorem zht : G.frz 166 = false := rfl
theorem z8w : G.frz 168 = false := rfl
theorem zr6 : G.frz 169 = false := rfl
theorem zhr : G.frz 170 = false := rfl
theorem z2r : G.frz 172 = false := rfl
theorem qpy : G.frz 173 = false := rfl
theorem qzn : G.frz 174 = false := rfl
theorem qut : G.frz 175 = false := rfl
theorem qv1 : G.frz 176 = false := rfl
theorem qy9 : G.frz 177 = false := rfl
theorem zah : G.frz 178 = false := rfl
theorem z8v : G.frz 179 = false := rfl
theorem zc3 : G.frz 180 = false := rfl
theorem qu8 : G.frz 181 = false := rfl
theorem zhu : G.frz 182 = false := rfl
theorem qxe : G.frz 183 = false := rfl
theorem zlf : G.frz 184 = false := rfl
theorem qvq : G.frz 185 = false := rfl
theorem z7u : G.frz 186 = false := rfl
theorem qw2 : G.frz 187 = false := rfl
theorem za9 : G.frz 188 = false := rfl
theorem zob : G.frz 189 = false := rfl
theorem z6d : G.frz 190 = false := rfl
theorem znn : G.frz 191 = false := rfl
theorem zl6 : G.frz 193 = false := rfl
theorem z1o : G.frz 194 = false := rfl
theorem zql : G.frz 195 = false := rfl
theorem znj : G.frz 196 = false := rfl
theorem z5a : G.frz 198 = false := rfl
theorem zd6 : G.frz 199 = false := rfl
theorem z8p : G.frz 200 = false := rfl
theorem z9k : G.frz 201 = false := rfl
theorem zlj : G.frz 202 = false := rfl
theorem zq8 : G.frz 203 = false := rfl
theorem zkv : G.frz 204 = false := rfl
theorem za4 : G.frz 205 = false := rfl
theorem zio : G.frz 206 = false := rfl
theorem zsk : G.frz 208 = false := rfl
theorem z5v : G.frz 209 = false := rfl
theorem z97 : G.frz 210 = false := rfl
theorem zsr : G.frz 211 = true := rfl
theorem z9f : G.frz 212 = false := rfl
theorem z7i : G.frz 214 = false := rfl
theorem zby : G.frz 215 = false := rfl
theorem zqq : G.frz 216 = false := rfl
theorem zgc : G.frz 218 = false := rfl
theorem zcq : G.frz 219 = false := rfl
theorem zpe : G.frz 220 = false := rfl
theorem z0a : G.frz 221 = false := rfl
theorem que : G.frz 222 = false := rfl
theorem zfd : G.frz 223 = false := rfl
theorem zpf : G.frz 224 = false := rfl
theorem z3o : G.frz 225 = false := rfl
theorem qy3 : G.frz 226 = false := rfl
theorem qsk : G.frz 227 = false := rfl
theorem zf2 : G.frz 228 = false := rfl
theorem zlg : G.frz 229 = false := rfl
theorem zt1 : G.frz 230 = false := rfl
theorem zsc : G.frz 231 = false := rfl
theorem qzm : G.frz 232 = false := rfl
theorem z2s : G.frz 233 = false := rfl
theorem qt4 : G.frz 234 = false := rfl
theorem z02 : G.frz 235 = false := rfl
theorem z3q : G.frz 236 = false := rfl
theorem ti3 : G.ti 3 = some ⟨1,8,.int .i64,[.int .i64 0],false⟩ := by kernel_rfl
theorem ti4 : G.ti 4 = some ⟨1,1,.bool,[.bool false],false⟩ := by kernel_rfl
theorem ti5 : G.ti 5 = some ⟨1,1,.int .u8,[.int .u8 0],false⟩ := by kernel_rfl
theorem ti9 : G.ti 9 = some ⟨1,16,.string,[.str []],false⟩ := by kernel_rfl
theorem zs7 : G.ti 23 = some ⟨2,16,.struct [(0,1,3),(1,1,3)],[.int .i64 0,.int .i64 0],true⟩ := by kernel_rfl
theorem zax : G.ti 24 = some ⟨1,24,.slice 41,[.sl true 0 []],false⟩ := by kernel_rfl
theorem qy6 : G.ti 26 = some ⟨3,40,.struct [(0,2,23),(2,1,24)],[.int .i64 0,.int .i64 0,.sl true 0 []],false⟩ := by kernel_rfl
theorem zf3 : G.ti 32 = some ⟨1,24,.slice 185,[.sl true 0 []],false⟩ := by kernel_rfl
theorem qzq : G.ti 33 = some ⟨1,24,.slice 35,[.sl true 0 []],false⟩ := by kernel_rfl
theorem z2e : G.ti 35 = some ⟨8,104,.struct [(0,1,3),(1,1,9),(2,1,4),(3,1,32),(4,1,3),(5,1,3),(6,1,4),(7,1,33)],[.int .i64 0,.str [],.bool false,.sl true 0 [],.int .i64 0,.int .i64 0,.bool false,.sl true 0 []],true⟩ := by kernel_rfl
theorem zt5 : G.ti 36 = some ⟨1,24,.slice 160,[.sl true 0 []],false⟩ := by kernel_rfl
theorem qsc : G.ti 38 = some ⟨11,136,.struct [(0,8,35),(8,1,36),(9,1,4),(10,1,4)],[.int .i64 0,.str [],.bool false,.sl true 0 [],.int .i64 0,.int .i64 0,.bool false,.sl true 0 [],.sl true 0 [],.bool false,.bool false],false⟩ := by kernel_rfl
theorem zca : G.ti 39 = some ⟨1,24,.slice 9,[.sl true 0 []],false⟩ := by kernel_rfl
theorem qz7 : G.ti 41 = some ⟨18,200,.struct [(0,2,23),(2,1,3),(3,1,3),(4,1,4),(5,1,4),(6,11,38),(17,1,39)],[.int .i64 0,.int .i64 0,.int .i64 0,.int .i64 0,.bool false,.bool false,.int .i64 0,.str [],.bool false,.sl true 0 [],.int .i64 0,.int .i64 0,.bool false,.sl true 0 [],.sl true 0 [],.bool false,.bool false,.sl true 0 []],false⟩ := by kernel_rfl
theorem qs3 : G.ti 43 = some ⟨1,24,.slice 3,[.sl true 0 []],false⟩ := by kernel_rfl
theorem qy0 : G.ti 51 = some ⟨1,24,.slice 23,[.sl true 0 []],false⟩ := by kernel_rfl
theorem z0p : G.ti 55 = some ⟨1,24,.slice 83,[.sl true 0 []],false⟩ := by kernel_rfl
theorem zay : G.ti 56 = some ⟨1,8,.int .i64,[.int .i64 0],false⟩ := by kernel_rfl
theorem z5k : G.ti 64 = some ⟨1,8,.map 3 3,[.nilmap],false⟩ := by kernel_rfl
theorem ze9 : G.ti 66 = some ⟨1,8,.int .u64,[.int .u64 0],false⟩ := by kernel_rfl
theorem zpy : G.ti 81 = some ⟨3,64,.struct [(0,1,9),(1,1,55),(2,1,43)],[.str [],.sl true 0 [],.sl true 0 []],true⟩ := by kernel_rfl
theorem qxf : G.ti 83 = some ⟨18,224,.struct [(0,1,3),(1,1,9),(2,1,3),(3,1,4),(4,1,4),(5,11,38),(16,1,39),(17,1,55)],[.int .i64 0,.str [],.int .i64 0,.bool false,.bool false,.int .i64 0,.str [],.bool false,.sl true 0 [],.int .i64 0,.int .i64 0,.bool false,.sl true 0 [],.sl true 0 [],.bool false,.bool false,.sl true 0 [],.sl true 0 []],false⟩ := by kernel_rfl
theorem z7w : G.ti 89 = some ⟨1,24,.slice 138,[.sl true 0 []],false⟩ := by kernel_rfl
theorem zch : G.ti 92 = some ⟨1,24,.slice 97,[.sl true 0 []],false⟩ := by kernel_rfl
theorem zrd : G.ti 94 = some ⟨6,128,.struct [(0,1,89),(1,1,9),(2,1,9),(3,1,92),(4,1,43),(5,1,39)],[.sl true 0 [],.str [],.str [],.sl true 0 [],.sl true 0 [],.sl true 0 []],true⟩ := by kernel_rfl
theorem z99 : G.ti 97 = some ⟨20,216,.struct [(0,1,3),(1,1,9),(2,1,3),(3,1,4),(4,1,4),(5,1,4),(6,11,38),(17,1,39),(18,1,3),(19,1,3)],[.int .i64 0,.str [],.int .i64 0,.bool false,.bool false,.bool false,.int .i64 0,.str [],.bool false,.sl true 0 [],.int .i64 0,.int .i64 0,.bool false,.sl true 0 [],.sl true 0 [],.bool false,.bool false,.sl true 0 [],.int .i64 0,.int .i64 0],false⟩ := by kernel_rfl
theorem zof : G.ti 100 = some ⟨2,48,.struct [(0,1,43),(1,1,39)],[.sl true 0 [],.sl true 0 []],true⟩ := by kernel_rfl
theorem qui : G.ti 112 = some ⟨1,24,.slice 5,[.sl true 0 []],false⟩ := by kernel_rfl
theorem zn3 : G.ti 138 = some ⟨2,32,.struct [(0,1,9),(1,1,9)],[.str [],.str []],true⟩ := by kernel_rfl
theorem z1c : G.ti 157 = some ⟨2,32,.struct [(0,1,39),(1,1,3)],[.sl true 0 [],.int .i64 0],true⟩ := by kernel_rfl
theorem za3 : G.ti 160 = some ⟨5,56,.struct [(0,1,3),(1,1,3),(2,1,3),(3,1,9),(4,1,9)],[.int .i64 0,.int .i64 0,.int .i64 0,.str [],.str []],true⟩ := by kernel_rfl
theorem qzs : G.ti 166 = some ⟨1,24,.slice 170,[.sl true 0 []],false⟩ := by kernel_rfl
theorem zgp : G.ti 170 = some ⟨3,40,.struct [(0,2,23),(2,1,51)],[.int .i64 0,.int .i64 0,.sl true 0 []],false⟩ := by kernel_rfl
theorem qyy : G.ti 185 = some ⟨2,32,.struct [(0,1,9),(1,1,9)],[.str [],.str []],true⟩ := by kernel_rfl
theorem qqf : G.ti 191 = some ⟨5,72,.struct [(0,1,39),(1,1,43),(2,1,4),(3,1,3),(4,1,4)],[.sl true 0 [],.sl true 0 [],.bool false,.int .i64 0,.bool false],true⟩ := by kernel_rfl
theorem qse : G.ti 209 = some ⟨1,8,.ptr,[.nilptr],false⟩ := by kernel_rfl
theorem zd1 : G.ti 211 = some ⟨13,144,.struct [(0,1,3),(1,8,35),(9,1,3),(10,1,3),(11,1,3),(12,1,209)],[.int .i64 0,.int .i64 0,.str [],.bool false,.sl true 0 [],.int .i64 0,.int .i64 0,.bool false,.sl true 0 [],.int .i64 0,.int .i64 0,.int .i64 0,.nilptr],false⟩ := by kernel_rfl
theorem fn3 : G.fn 3 = some ⟨Tryz.f3.ntmps,Tryz.f3.results.toList,Tryz.f3.body.get!⟩ := by kernel_rfl
theorem fn7 : G.fn 7 = some ⟨Tryz.f7.ntmps,Tryz.f7.results.toList,Tryz.f7.body.get!⟩ := by kernel_rfl
theorem fn9 : G.fn 9 = some ⟨Tryz.f9.ntmps,Tryz.f9.results.toList,Tryz.f9.body.get!⟩ := by kernel_rfl
theorem qtm : G.fn 10 = some ⟨Tryz.f10.ntmps,Tryz.f10.results.toList,Tryz.f10.body.get!⟩ := by kernel_rfl
theorem zw : G.fn 11 = some ⟨Tryz.f11.ntmps,Tryz.f11.results.toList,Tryz.f11.body.get!⟩ := by kernel_rfl
theorem q6j : G.fn 19 = some ⟨Tryz.f19.ntmps,Tryz.f19.results.toList,Tryz.f19.body.get!⟩ := by kernel_rfl
theorem q05 : G.fn 20 = some ⟨Tryz.f20.ntmps,Tryz.f20.results.toList,Tryz.f20.body.get!⟩ := by kernel_rfl
theorem qly : G.fn 22 = some ⟨Tryz.f22.ntmps,Tryz.f22.results.toList,Tryz.f22.body.get!⟩ := by kernel_rfl
theorem q2h : G.fn 23 = some ⟨Tryz.f23.ntmps,Tryz.f23.results.toList,Tryz.f23.body.get!⟩ := by kernel_rfl
theorem qka : G.fn 24 = some ⟨Tryz.f24.ntmps,Tryz.f24.results.toList,Tryz.f24.body.get!⟩ := by kernel_rfl
theorem qj3 : G.fn 25 = some ⟨Tryz.f25.ntmps,Tryz.f25.results.toList,Tryz.f25.body.get!⟩ := by kernel_rfl
theorem q66 : G.fn 26 = some ⟨Tryz.f26.ntmps,Tryz.f26.results.toList,Tryz.f26.body.get!⟩ := by kernel_rfl
theorem qjd : G.fn 27 = some ⟨Tryz.f27.ntmps,Tryz.f27.results.toList,Tryz.f27.body.get!⟩ := by kernel_rfl
theorem q2r : G.fn 37 = some ⟨Tryz.f37.ntmps,Tryz.f37.results.toList,Tryz.f37.body.get!⟩ := by kernel_rfl
theorem q29 : G.fn 38 = some ⟨Tryz.f38.ntmps,Tryz.f38.results.toList,Tryz.f38.body.get!⟩ := by kernel_rfl
theorem qck : G.fn 39 = some ⟨Tryz.f39.ntmps,Tryz.f39.results.toList,Tryz.f39.body.get!⟩ := by kernel_rfl
theorem qo4 : G.fn 40 = some ⟨Tryz.f40.ntmps,Tryz.f40.results.toList,Tryz.f40.body.get!⟩ := by kernel_rfl
theorem yl : G.fn 41 = some ⟨Tryz.f41.ntmps,Tryz.f41.results.toList,Tryz.f41.body.get!⟩ := by kernel_rfl
theorem q0g : G.fn 42 = some ⟨Tryz.f42.ntmps,Tryz.f42.results.toList,Tryz.f42.body.get!⟩ := by kernel_rfl
theorem q1t : G.fn 43 = some ⟨Tryz.f43.ntmps,Tryz.f43.results.toList,Tryz.f43.body.get!⟩ := by kernel_rfl
theorem q0m : G.fn 44 = some ⟨Tryz.f44.ntmps,Tryz.f44.results.toList,Tryz.f44.body.get!⟩ := by kernel_rfl
theorem mo : G.fn 45 = some ⟨Tryz.f45.ntmps,Tryz.f45.results.toList,Tryz.f45.body.get!⟩ := by kernel_rfl
theorem qd8 : G.fn 48 = some ⟨Tryz.f48.ntmps,Tryz.f48.results.toList,Tryz.f48.body.get!⟩ := by kernel_rfl
theorem qfy : G.fn 52 = some ⟨Tryz.f52.ntmps,Tryz.f52.results.toList,Tryz.f52.body.get!⟩ := by kernel_rfl
theorem uf : G.fn 53 = some ⟨Tryz.f53.ntmps,Tryz.f53.results.toList,Tryz.f53.body.get!⟩ := by kernel_rfl
theorem q60 : G.fn 54 = some ⟨Tryz.f54.ntmps,Tryz.f54.results.toList,Tryz.f54.body.get!⟩ := by kernel_rfl
theorem qan : G.fn 55 = some ⟨Tryz.f55.ntmps,Tryz.f55.results.toList,Tryz.f55.body.get!⟩ := by kernel_rfl
theorem q69 : G.fn 56 = some ⟨Tryz.f56.ntmps,Tryz.f56.results.toList,Tryz.f56.body.get!⟩ := by kernel_rfl
theorem zg : G.fn 57 = some ⟨Tryz.f57.ntmps,Tryz.f57.results.toList,Tryz.f57.body.get!⟩ := by kernel_rfl
theorem zst : G.fn 58 = some ⟨Tryz.f58.ntmps,Tryz.f58.results.toList,Tryz.f58.body.get!⟩ := by kernel_rfl
theorem q2n : G.fn 59 = some ⟨Tryz.f59.ntmps,Tryz.f59.results.toList,Tryz.f59.body.get!⟩ := by kernel_rfl
theorem qak : G.fn 60 = some ⟨Tryz.f60.ntmps,Tryz.f60.results.toList,Tryz.f60.body.get!⟩ := by kernel_rfl
theorem q9v : G.fn 61 = some ⟨Tryz.f61.ntmps,Tryz.f61.results.toList,Tryz.f61.body.get!⟩ := by kernel_rfl
theorem q0v : G.fn 62 = some ⟨Tryz.f62.ntmps,Tryz.f62.results.toList,Tryz.f62.body.get!⟩ := by kernel_rfl
theorem q9x : G.fn 63 = some ⟨Tryz.f63.ntmps,Tryz.f63.results.toList,Tryz.f63.body.get!⟩ := by kernel_rfl
theorem q6k : G.fn 64 = some ⟨Tryz.f64.ntmps,Tryz.f64.results.toList,Tryz.f64.body.get!⟩ := by kernel_rfl
theorem qal : G.fn 65 = some ⟨Tryz.f65.ntmps,Tryz.f65.results.toList,Tryz.f65.body.get!⟩ := by kernel_rfl
theorem q2q : G.fn 66 = some ⟨Tryz.f66.ntmps,Tryz.f66.results.toList,Tryz.f66.body.get!⟩ := by kernel_rfl
theorem q6f : G.fn 67 = some ⟨Tryz.f67.ntmps,Tryz.f67.results.toList,Tryz.f67.body.get!⟩ := by kernel_rfl
theorem q7d : G.fn 71 = some ⟨Tryz.f71.ntmps,Tryz.f71.results.toList,Tryz.f71.body.get!⟩ := by kernel_rfl
theorem q63 : G.fn 72 = some ⟨Tryz.f72.ntmps,Tryz.f72.results.toList,Tryz.f72.body.get!⟩ := by kernel_rfl
theorem qdv : G.fn 73 = some ⟨Tryz.f73.ntmps,Tryz.f73.results.toList,Tryz.f73.body.get!⟩ := by kernel_rfl
theorem q2o : G.fn 74 = some ⟨Tryz.f74.ntmps,Tryz.f74.results.toList,Tryz.f74.body.get!⟩ := by kernel_rfl
theorem q8f : G.fn 75 = some ⟨Tryz.f75.ntmps,Tryz.f75.results.toList,Tryz.f75.body.get!⟩ := by kernel_rfl
theorem q4e : G.fn 76 = some ⟨Tryz.f76.ntmps,Tryz.f76.results.toList,Tryz.f76.body.get!⟩ := by kernel_rfl
theorem q3v : G.fn 77 = some ⟨Tryz.f77.ntmps,Tryz.f77.results.toList,Tryz.f77.body.get!⟩ := by kernel_rfl
theorem zqa : G.fn 78 = some ⟨Tryz.f78.ntmps,Tryz.f78.results.toList,Tryz.f78.body.get!⟩ := by kernel_rfl
theorem qaf : G.fn 79 = some ⟨Tryz.f79.ntmps,Tryz.f79.results.toList,Tryz.f79.body.get!⟩ := by kernel_rfl
theorem qcv : G.fn 80 = some ⟨Tryz.f80.ntmps,Tryz.f80.results.toList,Tryz.f80.body.get!⟩ := by kernel_rfl
theorem jg : G.fn 81 = some ⟨Tryz.f81.ntmps,Tryz.f81.results.toList,Tryz.f81.body.get!⟩ := by kernel_rfl
theorem qiv : G.fn 93 = some ⟨Tryz.f93.ntmps,Tryz.f93.results.toList,Tryz.f93.body.get!⟩ := by kernel_rfl
theorem qfq : G.fn 94 = some ⟨Tryz.f94.ntmps,Tryz.f94.results.toList,Tryz.f94.body.get!⟩ := by kernel_rfl
theorem qca : G.fn 95 = some ⟨Tryz.f95.ntmps,Tryz.f95.results.toList,Tryz.f95.body.get!⟩ := by kernel_rfl
theorem q2e : G.fn 96 = some ⟨Tryz.f96.ntmps,Tryz.f96.results.toList,Tryz.f96.body.get!⟩ := by kernel_rfl
theorem kr : G.fn 97 = some ⟨Tryz.f97.ntmps,Tryz.f97.results.toList,Tryz.f97.body.get!⟩ := by kernel_rfl
theorem qe2 : G.fn 98 = some ⟨Tryz.f98.ntmps,Tryz.f98.results.toList,Tryz.f98.body.get!⟩ := by kernel_rfl
theorem qg7 : G.fn 99 = some ⟨Tryz.f99.ntmps,Tryz.f99.results.toList,Tryz.f99.body.get!⟩ := by kernel_rfl
theorem q2f : G.fn 100 = some ⟨Tryz.f100.ntmps,Tryz.f100.results.toList,Tryz.f100.body.get!⟩ := by kernel_rfl
theorem qmp : G.fn 101 = some ⟨Tryz.f101.ntmps,Tryz.f101.results.toList,Tryz.f101.body.get!⟩ := by kernel_rfl
theorem q4h : G.fn 102 = some ⟨Tryz.f102.ntmps,Tryz.f102.results.toList,Tryz.f102.body.get!⟩ := by kernel_rfl
theorem qgt : G.fn 103 = some ⟨Tryz.f103.ntmps,Tryz.f103.results.toList,Tryz.f103.body.get!⟩ := by kernel_rfl
theorem qdt : G.fn 104 = some ⟨Tryz.f104.ntmps,Tryz.f104.results.toList,Tryz.f104.body.get!⟩ := by kernel_rfl
theorem qpe : G.fn 111 = some ⟨Tryz.f111.ntmps,Tryz.f111.results.toList,Tryz.f111.body.get!⟩ := by kernel_rfl
theorem qkr : G.fn 112 = some ⟨Tryz.f112.ntmps,Tryz.f112.results.toList,Tryz.f112.body.get!⟩ := by kernel_rfl
theorem q5m : G.fn 113 = some ⟨Tryz.f113.ntmps,Tryz.f113.results.toList,Tryz.f113.body.get!⟩ := by kernel_rfl
theorem qoa : G.fn 114 = some ⟨Tryz.f114.ntmps,Tryz.f114.results.toList,Tryz.f114.body.get!⟩ := by kernel_rfl
theorem qh3 : G.fn 115 = some ⟨Tryz.f115.ntmps,Tryz.f115.results.toList,Tryz.f115.body.get!⟩ := by kernel_rfl
theorem qfn : G.fn 116 = some ⟨Tryz.f116.ntmps,Tryz.f116.results.toList,Tryz.f116.body.get!⟩ := by kernel_rfl
theorem q9i : G.fn 117 = some ⟨Tryz.f117.ntmps,Tryz.f117.results.toList,Tryz.f117.body.get!⟩ := by kernel_rfl
theorem q8k : G.fn 118 = some ⟨Tryz.f118.ntmps,Tryz.f118.results.toList,Tryz.f118.body.get!⟩ := by kernel_rfl
theorem qfs : G.fn 119 = some ⟨Tryz.f119.ntmps,Tryz.f119.results.toList,Tryz.f119.body.get!⟩ := by kernel_rfl
theorem xn : G.fn 120 = some ⟨Tryz.f120.ntmps,Tryz.f120.results.toList,Tryz.f120.body.get!⟩ := by kernel_rfl
theorem zac : G.fn 121 = some ⟨Tryz.f121.ntmps,Tryz.f121.results.toList,Tryz.f121.body.get!⟩ := by kernel_rfl
theorem qbq : G.fn 122 = some ⟨Tryz.f122.ntmps,Tryz.f122.results.toList,Tryz.f122.body.get!⟩ := by kernel_rfl
theorem qbw : G.fn 123 = some ⟨Tryz.f123.ntmps,Tryz.f123.results.toList,Tryz.f123.body.get!⟩ := by kernel_rfl
theorem qml : G.fn 124 = some ⟨Tryz.f124.ntmps,Tryz.f124.results.toList,Tryz.f124.body.get!⟩ := by kernel_rfl
theorem uh : G.fn 125 = some ⟨Tryz.f125.ntmps,Tryz.f125.results.toList,Tryz.f125.body.get!⟩ := by kernel_rfl
theorem ma : G.fn 127 = some ⟨Tryz.f127.ntmps,Tryz.f127.results.toList,Tryz.f127.body.get!⟩ := by kernel_rfl
theorem q0n : G.fn 128 = some ⟨Tryz.f128.ntmps,Tryz.f128.results.toList,Tryz.f128.body.get!⟩ := by kernel_rfl
theorem qa8 : G.fn 129 = some ⟨Tryz.f129.ntmps,Tryz.f129.results.toList,Tryz.f129.body.get!⟩ := by kernel_rfl
theorem qgd : G.fn 130 = some ⟨Tryz.f130.ntmps,Tryz.f130.results.toList,Tryz.f130.body.get!⟩ := by kernel_rfl
theorem qco : G.fn 131 = some ⟨Tryz.f131.ntmps,Tryz.f131.results.toList,Tryz.f131.body.get!⟩ := by kernel_rfl
theorem xx : G.fn 132 = some ⟨Tryz.f132.ntmps,Tryz.f132.results.toList,Tryz.f132.body.get!⟩ := by kernel_rfl
theorem qas : G.fn 133 = some ⟨Tryz.f133.ntmps,Tryz.f133.results.toList,Tryz.f133.body.get!⟩ := by kernel_rfl
theorem qdj : G.fn 134 = some ⟨Tryz.f134.ntmps,Tryz.f134.results.toList,Tryz.f134.body.get!⟩ := by kernel_rfl
theorem q0f : G.fn 135 = some ⟨Tryz.f135.ntmps,Tryz.f135.results.toList,Tryz.f135.body.get!⟩ := by kernel_rfl
theorem q2t : G.fn 136 = some ⟨Tryz.f136.ntmps,Tryz.f136.results.toList,Tryz.f136.body.get!⟩ := by kernel_rfl
theorem qb9 : G.fn 137 = some ⟨Tryz.f137.ntmps,Tryz.f137.results.toList,Tryz.f137.body.get!⟩ := by kernel_rfl
theorem qhn : G.fn 138 = some ⟨Tryz.f138.ntmps,Tryz.f138.results.toList,Tryz.f138.body.get!⟩ := by kernel_rfl
theorem q8y : G.fn 139 = some ⟨Tryz.f139.ntmps,Tryz.f139.results.toList,Tryz.f139.body.get!⟩ := by kernel_rfl
theorem qkt : G.fn 140 = some ⟨Tryz.f140.ntmps,Tryz.f140.results.toList,Tryz.f140.body.get!⟩ := by kernel_rfl
theorem q5u : G.fn 141 = some ⟨Tryz.f141.ntmps,Tryz.f141.results.toList,Tryz.f141.body.get!⟩ := by kernel_rfl
theorem qd6 : G.fn 142 = some ⟨Tryz.f142.ntmps,Tryz.f142.results.toList,Tryz.f142.body.get!⟩ := by kernel_rfl
theorem qcj : G.fn 143 = some ⟨Tryz.f143.ntmps,Tryz.f143.results.toList,Tryz.f143.body.get!⟩ := by kernel_rfl
theorem bu : G.fn 144 = some ⟨Tryz.f144.ntmps,Tryz.f144.results.toList,Tryz.f144.body.get!⟩ := by kernel_rfl
theorem qoo : G.fn 145 = some ⟨Tryz.f145.ntmps,Tryz.f145.results.toList,Tryz.f145.body.get!⟩ := by kernel_rfl
theorem qn6 : G.fn 146 = some ⟨Tryz.f146.ntmps,Tryz.f146.results.toList,Tryz.f146.body.get!⟩ := by kernel_rfl
theorem q8s : G.fn 147 = some ⟨Tryz.f147.ntmps,Tryz.f147.results.toList,Tryz.f147.body.get!⟩ := by kernel_rfl
theorem qb4 : G.fn 148 = some ⟨Tryz.f148.ntmps,Tryz.f148.results.toList,Tryz.f148.body.get!⟩ := by kernel_rfl
theorem mq : G.fn 149 = some ⟨Tryz.f149.ntmps,Tryz.f149.results.toList,Tryz.f149.body.get!⟩ := by kernel_rfl
theorem qaw : G.fn 150 = some ⟨Tryz.f150.ntmps,Tryz.f150.results.toList,Tryz.f150.body.get!⟩ := by kernel_rfl
theorem qd0 : G.fn 151 = some ⟨Tryz.f151.ntmps,Tryz.f151.results.toList,Tryz.f151.body.get!⟩ := by kernel_rfl
theorem q2p : G.fn 152 = some ⟨Tryz.f152.ntmps,Tryz.f152.results.toList,Tryz.f152.body.get!⟩ := by kernel_rfl
theorem q1q : G.fn 153 = some ⟨Tryz.f153.ntmps,Tryz.f153.results.toList,Tryz.f153.body.get!⟩ := by kernel_rfl
theorem q9w : G.fn 154 = some ⟨Tryz.f154.ntmps,Tryz.f154.results.toList,Tryz.f154.body.get!⟩ := by kernel_rfl
theorem qk6 : G.fn 155 = some ⟨Tryz.f155.ntmps,Tryz.f155.results.toList,Tryz.f155.body.get!⟩ := by kernel_rfl
theorem qfl : G.fn 156 = some ⟨Tryz.f156.ntmps,Tryz.f156.results.toList,Tryz.f156.body.get!⟩ := by kernel_rfl
theorem q0t : G.fn 157 = some ⟨Tryz.f157.ntmps,Tryz.f157.results.toList,Tryz.f157.body.get!⟩ := by kernel_rfl
theorem qer : G.fn 158 = some ⟨Tryz.f158.ntmps,Tryz.f158.results.toList,Tryz.f158.body.get!⟩ := by kernel_rfl
theorem qdz : G.fn 159 = some ⟨Tryz.f159.ntmps,Tryz.f159.results.toList,Tryz.f159.body.get!⟩ := by kernel_rfl
theorem qcl : G.fn 160 = some ⟨Tryz.f160.ntmps,Tryz.f160.results.toList,Tryz.f160.body.get!⟩ := by kernel_rfl
theorem q8h : G.fn 161 = some ⟨Tryz.f161.ntmps,Tryz.f161.results.toList,Tryz.f161.body.get!⟩ := by kernel_rfl
theorem qac : G.fn 162 = some ⟨Tryz.f162.ntmps,Tryz.f162.results.toList,Tryz.f162.body.get!⟩ := by kernel_rfl
end Go.Proofs.YtdhgdeelagmbpaaGreat
