/-
  The tables of the program as the machine reads it.
-/
import Derived.Test.YtkbgphcebakcnaaGreatRows
import Derived.Test.YtkbgphcebakcnaaGreatEad
set_option linter.unusedSimpArgs false
set_option linter.unusedVariables false
namespace Go.Proofs.YtkbgphcebakcnaaGreat
open Go Go.Gm
def spec : FuncId → Nat → xx
 | 9,0 => ⟨[2,3,5],[4],[],[],[],0⟩
 | 11,0 => ⟨[1,2,7],[6],[],[],[],0⟩
 | 12,0 => ⟨[0,1,7,8,9],[0,1,4],[],[],[],0⟩
 | 13,0 => ⟨[0,1,14,15,16],[1,4,5],[],[],[],0⟩
 | 14,0 => ⟨[0,1,5],[4],[],[],[],0⟩
 | 15,0 => ⟨[2,3,5],[2,3,4],[],[],[],0⟩
 | 15,2 => ⟨[2,3,6],[4],[],[],[],0⟩
 | 16,0 => ⟨[3,6,42,43,44],[2],[],[],[],0⟩
 | 16,2 => ⟨[3,6,7,8,9,42,43,44,54,55,56],[2,3,8,42,43,44],[],[],[],0⟩
 | 17,0 => ⟨[3,14,15,16],[3],[],[(3,2)],[],0⟩
 | 18,0 => ⟨[0,1],[],[],[],[],0⟩
 | 19,0 => ⟨[0,14,15,16],[],[],[],[2000],0⟩
 | 20,0 => ⟨[0,3],[2],[],[],[],0⟩
 | 20,2 => ⟨[0,3,4],[0,2,3],[],[],[],0⟩
 | 20,4 => ⟨[0,3,4,44,45,46],[0,2,3,4],[],[],[],0⟩
 | 21,0 => ⟨[0,2,11,12],[],[],[],[],0⟩
 | 21,2 => ⟨[0,2,3,4,11,12,34,35,36],[0,3,4,11,12],[],[(4,1),(4,2)],[],0⟩
 | 22,0 => ⟨[0,2,3,9,10,11],[0,2,3],[3],[],[],0⟩
 | 23,0 => ⟨[2,3,5],[4],[],[],[],0⟩
 | 25,0 => ⟨[3,10,11,12],[2],[],[],[],0⟩
 | 26,0 => ⟨[3,6,7,8],[3],[3],[],[],0⟩
 | 27,0 => ⟨[0,7,8,9],[0],[],[],[],0⟩
 | 29,0 => ⟨[4,14,15,16],[4],[4],[],[],0⟩
 | 30,0 => ⟨[0,1,12,13],[4],[],[],[],0⟩
 | 31,0 => ⟨[2,5,18,19,20],[4],[],[],[18],0⟩
 | 33,0 => ⟨[0,5,10,11,12],[5],[5],[],[],0⟩
 | 33,2 => ⟨[0,5,10,11,12,17,18,19],[0,5,10,11,12],[5],[],[],0⟩
 | 36,0 => ⟨[2,9,10,11],[4],[],[],[],0⟩
 | 38,0 => ⟨[0,2,3],[],[],[],[],0⟩
 | 39,0 => ⟨[2,3,11,12,13],[4,5],[],[],[],0⟩
 | 39,2 => ⟨[2,3,6,11,12,13,19,20,21],[2,3,4,5,11,12,13],[],[],[],0⟩
 | 40,0 => ⟨[0,1,5,10,12,13,14],[0,1,5,10,12],[],[],[],0⟩
 | 40,2 => ⟨[0,1,5,10,12,91,92,93],[0,10],[],[],[],0⟩
 | 41,0 => ⟨[1,3,12,13,14],[1,3],[],[],[1],0⟩
 | 41,2 => ⟨[1,3,6],[6],[6],[],[],0⟩
 | 42,0 => ⟨[0,1,2,3,9,10,11,47,48,49],[0,1,2,3,9,10,11],[],[],[],0⟩
 | 42,2 => ⟨[0,1,2,3,15,16,17],[8],[],[],[],0⟩
 | 43,0 => ⟨[1,2,3,7,8,9],[1,2,3],[3],[],[],0⟩
 | 51,0 => ⟨[3,6,7,8],[2,3],[],[],[],0⟩
 | 54,0 => ⟨[1,2,5],[1,2,4],[],[],[],0⟩
 | 58,0 => ⟨[2,3,12,13,14],[2,3],[],[(3,2)],[],0⟩
 | 58,2 => ⟨[2,3,6,12,13,14,23,24],[2,3,6,12,13,14],[],[],[],0⟩
 | 62,0 => ⟨[7,8],[7],[],[],[],0⟩
 | 63,0 => ⟨[5,6,12,13,14,34,35,36],[12,14],[],[(14,1),(14,2)],[],0⟩
 | 64,0 => ⟨[1,5,8,9,10],[5],[5],[],[1],0⟩
 | 67,0 => ⟨[1,2,5,12,13,14],[5],[],[],[],0⟩
 | 67,2 => ⟨[1,2,5,7,8,12,13,14],[1,2,5,12,13,14],[],[],[],0⟩
 | 68,0 => ⟨[0,1,7,8],[4],[],[],[],0⟩
 | 70,0 => ⟨[1,2,3,7,8,9,10],[7,8,9],[],[],[],0⟩
 | 71,0 => ⟨[1,3,10,12,13,40,41,42],[1,6,7,8,10,12,13],[12],[],[],0⟩
 | 71,2 => ⟨[1,3,10,12,13,15,16,40,41,42,52,53,54],[1,3,10,12,13,15,16,40,41,42],[16],[],[],0⟩
 | 71,4 => ⟨[1,3,10,12,15,16,40,41,42,74,75,76],[1,3,10,12,15,40,41,42],[12],[],[],0⟩
 | 72,0 => ⟨[1,2,3,10,11,12],[1,2,3],[3],[],[],0⟩
 | 72,2 => ⟨[1,2,3,5,6,10,11,12,17,18,19],[1,2,3,5,6,10,11,12],[6],[],[],0⟩
 | 73,0 => ⟨[2,3,5],[4],[],[],[],0⟩
 | 74,0 => ⟨[0,1,5],[4],[],[],[],0⟩
 | 75,0 => ⟨[0,1,2,6,7,8],[0,1,2,6,7],[],[],[],0⟩
 | 75,2 => ⟨[0,1,2,6],[],[],[],[],0⟩
 | 75,4 => ⟨[0,1,2,6,7,8],[0,1,2,6,7],[],[],[],0⟩
 | 76,0 => ⟨[0,1,2,6,7,8],[0,1,2,6,7],[],[],[],0⟩
 | 76,2 => ⟨[0,1,2,6],[],[],[],[],0⟩
 | 76,4 => ⟨[0,1,2,6,7,8],[0,1,2,6,7],[],[],[],0⟩
 | 79,0 => ⟨[0,1,7,8],[4],[],[],[],0⟩
 | 80,0 => ⟨[0,1,2,6,7,8],[0,1,2,6,7],[],[],[],0⟩
 | 80,2 => ⟨[0,1,2,6],[],[],[],[],0⟩
 | 80,4 => ⟨[0,1,2,6,7,8],[0,1,2,6,7],[],[],[],0⟩
 | 82,0 => ⟨[1,2,4,5,10,11,19,20,21],[1,2,4,5,10,11],[],[],[],1000⟩
 | 82,2 => ⟨[10,11,71,72,73],[10,11],[],[],[],0⟩
 | 83,0 => ⟨[0,2,3,4,6,10,12,13,14,32,33,34],[10,12,13],[13],[(12,2)],[],0⟩
 | 84,0 => ⟨[0,1,14,15,16],[0],[],[],[],0⟩
 | 87,0 => ⟨[0,5],[],[],[],[],0⟩
 | 91,0 => ⟨[1,5,12,13,14],[5],[],[],[],0⟩
 | 94,0 => ⟨[2,3,5],[2,3,4],[],[],[],0⟩
 | 94,2 => ⟨[2,3,6],[4],[],[],[],0⟩
 | 95,0 => ⟨[0,1,2,3,8],[],[],[],[],0⟩
 | 95,2 => ⟨[0,1,2,3,8,9],[0,1,2,3,8],[],[],[],0⟩
 | 96,0 => ⟨[0,1,4,10,11],[0,1,10],[],[],[],0⟩
 | 96,2 => ⟨[0,10,13],[],[],[],[],0⟩
 | 96,4 => ⟨[0,2,4,14,15],[0,2,14],[],[],[],0⟩
 | 96,6 => ⟨[0,14,17],[],[],[],[],0⟩
 | 96,8 => ⟨[0,1,2,3,4,18,19,20,21,22],[0,1,2,3,4,18,19,20],[],[],[],0⟩
 | 97,0 => ⟨[0,1,2,3,8],[],[],[],[],0⟩
 | 97,2 => ⟨[0,1,2,3,8,9],[0,1,2,3,8],[],[],[],0⟩
 | 98,0 => ⟨[0,1,4,10,11],[0,1,10],[],[],[],0⟩
 | 98,2 => ⟨[0,10,13],[],[],[],[],0⟩
 | 98,4 => ⟨[0,2,4,14,15],[0,2,14],[],[],[],0⟩
 | 98,6 => ⟨[0,14,17],[],[],[],[],0⟩
 | 98,8 => ⟨[0,1,2,3,4,18,19,20,21,22],[0,1,2,3,4,18,19,20],[],[],[],0⟩
 | 99,0 => ⟨[0,1,2,3,8],[],[],[],[],0⟩
 | 99,2 => ⟨[0,1,2,3,8,9],[0,1,2,3,8],[],[],[],0⟩
 | 100,0 => ⟨[0,1,4,10,11],[0,1,10],[],[],[],0⟩
 | 100,2 => ⟨[0,10,13],[],[],[],[],0⟩
 | 100,4 => ⟨[0,2,4,14,15],[0,2,14],[],[],[],0⟩
 | 100,6 => ⟨[0,14,17],[],[],[],[],0⟩
 | 100,8 => ⟨[0,1,2,3,4,18,19,20,21,22],[0,1,2,3,4,18,19,20],[],[],[],0⟩
 | 103,0 => ⟨[0,2,3,5,8,9],[0,2,3,5,8],[],[],[],0⟩
 | 103,2 => ⟨[0,3,5,8,10,11],[],[],[],[],0⟩
 | 104,0 => ⟨[0,2,4,6,28,29,30],[],[],[],[],0⟩
 | 108,0 => ⟨[0,1,2,3,8,9],[],[],[],[],0⟩
 | 111,0 => ⟨[0,5,6,7],[2],[],[],[],0⟩
 | 112,0 => ⟨[11,12,13],[8,9,10,11,12],[12],[],[],0⟩
 | 115,1 => ⟨[6,16,17,18],[6],[],[],[],0⟩
 | 115,3 => ⟨[6,31,32,33],[6],[],[],[],0⟩
 | 117,0 => ⟨[1,2,3,11,12,13],[1,2,3],[3],[],[],0⟩
 | 119,0 => ⟨[0,2,4,10,11],[0,2,4,10],[],[],[],0⟩
 | 120,0 => ⟨[0,2,4,10,11],[0,2,4,10],[],[],[],0⟩
 | 121,0 => ⟨[0,2,4,10,11],[0,2,4,10],[],[],[],0⟩
 | 124,0 => ⟨[0,1,2,6],[],[],[],[],0⟩
 | 124,2 => ⟨[0,1,2,6,7],[0,1,2,6],[],[],[],0⟩
 | 125,0 => ⟨[0,6,7,8,9],[0,6,7,8],[],[],[],0⟩
 | 125,2 => ⟨[0,6,7,10],[],[],[],[],0⟩
 | 126,0 => ⟨[0,1,6,7,8,9],[],[],[],[],0⟩
 | 128,0 => ⟨[0,6,7],[],[],[],[],0⟩
 | 129,0 => ⟨[0,1,2,7,8],[6],[],[],[],0⟩
 | 129,2 => ⟨[0,1,2,7,8],[0,1,2,7,8],[],[],[],0⟩
 | 129,4 => ⟨[0,1,2,7,8,9],[0,1,2,7,8],[],[],[],0⟩
 | 129,6 => ⟨[0,1,2,7,8,10],[0,1,2,7,8],[],[],[],0⟩
 | 131,0 => ⟨[0,1,9,10],[9],[],[],[],0⟩
 | 131,2 => ⟨[0,1,9,10],[0,1,9,10],[],[],[],0⟩
 | 131,4 => ⟨[0,1,9,10],[0,1,9,10],[],[],[],0⟩
 | 132,0 => ⟨[0,1,10,11],[0,1,10,11],[],[],[],0⟩
 | 132,2 => ⟨[0,1,10,11],[0,1,10,11],[],[],[],0⟩
 | 132,4 => ⟨[0,1,10,11],[0,1,11],[],[],[],0⟩
 | 132,6 => ⟨[0,1,10,11],[0,1,10,11],[],[],[],0⟩
 | 132,8 => ⟨[0,1,10,11],[0,1,10,11],[],[],[],0⟩
 | 135,0 => ⟨[1,2,31,32,33],[1,6,7],[],[],[],0⟩
 | 138,0 => ⟨[0,1,4],[4,5],[],[],[],0⟩
 | 144,0 => ⟨[0,1,5,6],[5],[],[],[],0⟩
 | 146,0 => ⟨[0,1,2,3,10],[],[],[],[],0⟩
 | 147,0 => ⟨[0,1,2,3,10],[],[],[],[],0⟩
 | 148,0 => ⟨[0,1,2,3,10],[],[],[],[],0⟩
 | 149,0 => ⟨[0,2,3,8],[],[],[],[],0⟩
 | 158,0 => ⟨[0,3,4],[3],[3],[],[],0⟩
 | 159,0 => ⟨[0,3,4],[3],[3],[],[],0⟩
 | 160,0 => ⟨[1,4,5,22,23,24],[1,4,5],[],[(5,8)],[],0⟩
 | 161,0 => ⟨[7,8],[7],[],[],[],0⟩
 | 163,0 => ⟨[0,1,6,7,8],[0,1,6,7],[],[],[],0⟩
 | 171,0 => ⟨[0,5,6,7],[2],[],[],[],0⟩
 | 175,0 => ⟨[0,1],[1],[],[],[],0⟩
 | 176,0 => ⟨[0,4,5],[],[],[],[],0⟩
 | 177,1 => ⟨[0,2,3,29,30,31],[8],[],[],[],0⟩
 | 191,0 => ⟨[0,1,7,8],[4],[],[],[],0⟩
 | 192,0 => ⟨[0,1,7,8],[4],[],[],[],0⟩
 | 196,0 => ⟨[3,8,9,10],[3],[],[],[],0⟩
 | 199,0 => ⟨[1,7,8,9],[4],[],[],[],0⟩
 | 200,0 => ⟨[3,8,9,10],[3],[],[],[],0⟩
 | _,_ => {}
def z6p (f : FuncId) : Bool := [60,80,99,100,38,49,76,97,98,46,75,95,96].contains f
def z0b (f : FuncId) : Bool := [17,82,62,37,59,34,45].contains f
def zfy : FuncId → Nat → List Nat
 | 21,15 => [4]
 | _,_ => []
def zf4 (t : TypeId) : Bool := [].contains t
def z7p (t : TypeId) : Bool := [146].contains t
noncomputable def G : GP := qdj Tryz.prog spec z6p z0b zfy zf4 z7p
theorem zqz : G.owned 3 = false := rfl
theorem kp3 : G.keep 3 = false := rfl
theorem pr3 (i : Nat) : G.pre 3 i = [] := rfl
theorem qs4 : G.owned 5 = false := rfl
theorem kp5 : G.keep 5 = false := rfl
theorem pr5 (i : Nat) : G.pre 5 i = [] := rfl
theorem qqy : G.owned 6 = false := rfl
theorem kp6 : G.keep 6 = false := rfl
theorem pr6 (i : Nat) : G.pre 6 i = [] := rfl
theorem z2c : G.owned 7 = false := rfl
theorem kp7 : G.keep 7 = false := rfl
theorem pr7 (i : Nat) : G.pre 7 i = [] := rfl
theorem qlu : G.owned 8 = false := rfl
theorem kp8 : G.keep 8 = false := rfl
theorem pr8 (i : Nat) : G.pre 8 i = [] := rfl
theorem zh6 : G.owned 9 = false := rfl
theorem kp9 : G.keep 9 = false := rfl
theorem pr9 (i : Nat) : G.pre 9 i = [] := rfl
theorem qmx : G.owned 10 = false := rfl
theorem zhw : G.keep 10 = false := rfl
theorem z4r (i : Nat) : G.pre 10 i = [] := rfl
theorem zfj : G.owned 12 = false := rfl
theorem zhg : G.keep 12 = false := rfl
theorem z2t (i : Nat) : G.pre 12 i = [] := rfl
theorem zdb : G.owned 13 = false := rfl
theorem qno : G.keep 13 = false := rfl
theorem qpj (i : Nat) : G.pre 13 i = [] := rfl
theorem zl1 : G.owned 16 = false := rfl
theorem z9o : G.keep 16 = false := rfl
theorem zl8 (i : Nat) : G.pre 16 i = [] := rfl
theorem qlz : G.owned 17 = false := rfl
theorem zji : G.keep 17 = true := rfl
theorem qt7 (i : Nat) : G.pre 17 i = [] := rfl
theorem z0x : G.owned 18 = false := rfl
theorem qsc : G.keep 18 = false := rfl
theorem zlp (i : Nat) : G.pre 18 i = [] := rfl
theorem qnd : G.owned 19 = false := rfl
theorem zsi : G.keep 19 = false := rfl
theorem za4 (i : Nat) : G.pre 19 i = [] := rfl
theorem zrl : G.owned 20 = false := rfl
theorem qxt : G.keep 20 = false := rfl
theorem z0e (i : Nat) : G.pre 20 i = [] := rfl
theorem ze9 : G.owned 21 = false := rfl
theorem z2h : G.keep 21 = false := rfl
theorem zbq : G.pre 21 0 = [] := rfl
theorem zgd : G.pre 21 1 = [] := rfl
theorem qw4 : G.pre 21 2 = [] := rfl
theorem zg7 : G.pre 21 3 = [] := rfl
theorem zbp : G.pre 21 4 = [] := rfl
theorem qw2 : G.pre 21 5 = [] := rfl
theorem qu0 : G.pre 21 6 = [] := rfl
theorem zb6 : G.pre 21 7 = [] := rfl
theorem zp6 : G.pre 21 8 = [] := rfl
theorem z5k : G.pre 21 9 = [] := rfl
theorem zsb : G.pre 21 10 = [] := rfl
theorem za8 : G.pre 21 11 = [] := rfl
theorem z1g : G.pre 21 12 = [] := rfl
theorem zao : G.pre 21 13 = [] := rfl
theorem qzb : G.pre 21 14 = [] := rfl
theorem qyh : G.pre 21 15 = [4] := rfl
theorem zl3 : G.pre 21 16 = [] := rfl
theorem qys : G.pre 21 17 = [] := rfl
theorem zjq : G.pre 21 18 = [] := rfl
theorem zjm : G.pre 21 19 = [] := rfl
theorem zlt : G.pre 21 20 = [] := rfl
theorem zb5 : G.pre 21 21 = [] := rfl
theorem zie : G.pre 21 22 = [] := rfl
theorem zpi : G.pre 21 23 = [] := rfl
theorem qtk : G.pre 21 24 = [] := rfl
theorem qn9 : G.pre 21 25 = [] := rfl
theorem qr5 : G.pre 21 26 = [] := rfl
theorem zng : G.pre 21 27 = [] := rfl
theorem qpk : G.pre 21 28 = [] := rfl
theorem zp2 : G.pre 21 29 = [] := rfl
theorem qus : G.pre 21 30 = [] := rfl
theorem z6m : G.pre 21 31 = [] := rfl
theorem qym : G.pre 21 32 = [] := rfl
theorem zcc : G.pre 21 33 = [] := rfl
theorem z02 : G.pre 21 34 = [] := rfl
theorem qs5 : G.pre 21 35 = [] := rfl
theorem zaq : G.pre 21 36 = [] := rfl
theorem qx6 : G.pre 21 37 = [] := rfl
theorem z6x : G.pre 21 38 = [] := rfl
theorem zk2 : G.pre 21 39 = [] := rfl
theorem qxj : G.pre 21 40 = [] := rfl
theorem zr6 : G.pre 21 41 = [] := rfl
theorem z7q : G.pre 21 42 = [] := rfl
theorem zl5 : G.pre 21 43 = [] := rfl
theorem zoa : G.pre 21 44 = [] := rfl
theorem zjb : G.pre 21 45 = [] := rfl
theorem zqn : G.pre 21 46 = [] := rfl
theorem zqp : G.pre 21 47 = [] := rfl
theorem quq : G.pre 21 48 = [] := rfl
theorem zg1 : G.pre 21 49 = [] := rfl
theorem qpd : G.pre 21 50 = [] := rfl
theorem quy : G.pre 21 51 = [] := rfl
theorem zj6 : G.pre 21 52 = [] := rfl
theorem z1t : G.pre 21 53 = [] := rfl
theorem zb7 : G.pre 21 54 = [] := rfl
theorem z92 : G.pre 21 55 = [] := rfl
theorem qtw : G.pre 21 56 = [] := rfl
theorem qs9 : G.pre 21 57 = [] := rfl
theorem ze0 : G.pre 21 58 = [] := rfl
theorem qlw : G.pre 21 59 = [] := rfl
theorem zje : G.pre 21 60 = [] := rfl
theorem qml : G.pre 21 61 = [] := rfl
theorem zjt : G.pre 21 62 = [] := rfl
theorem qnj : G.pre 21 63 = [] := rfl
theorem zmv : G.pre 21 64 = [] := rfl
theorem zny : G.pre 21 65 = [] := rfl
theorem qpu : G.pre 21 66 = [] := rfl
theorem zc7 : G.pre 21 67 = [] := rfl
theorem zja : G.pre 21 68 = [] := rfl
theorem qr6 : G.pre 21 69 = [] := rfl
theorem z3z : G.pre 21 70 = [] := rfl
theorem qpz : G.pre 21 71 = [] := rfl
theorem zo9 : G.pre 21 72 = [] := rfl
theorem qw6 : G.pre 21 73 = [] := rfl
theorem qmn : G.pre 21 74 = [] := rfl
theorem zpo : G.owned 22 = false := rfl
theorem zff : G.keep 22 = false := rfl
theorem zl0 (i : Nat) : G.pre 22 i = [] := rfl
theorem z5x : G.owned 23 = false := rfl
theorem qut : G.keep 23 = false := rfl
theorem qu2 (i : Nat) : G.pre 23 i = [] := rfl
theorem z1x : G.owned 24 = false := rfl
theorem qo3 : G.keep 24 = false := rfl
theorem zpg (i : Nat) : G.pre 24 i = [] := rfl
theorem z2r : G.owned 25 = false := rfl
theorem qnn : G.keep 25 = false := rfl
theorem qxb (i : Nat) : G.pre 25 i = [] := rfl
theorem zh3 : G.owned 26 = false := rfl
theorem zch : G.keep 26 = false := rfl
theorem z3b (i : Nat) : G.pre 26 i = [] := rfl
theorem z1s : G.owned 27 = false := rfl
theorem z7o : G.keep 27 = false := rfl
theorem qy0 (i : Nat) : G.pre 27 i = [] := rfl
theorem zsk : G.owned 28 = false := rfl
theorem zeg : G.keep 28 = false := rfl
theorem qmq (i : Nat) : G.pre 28 i = [] := rfl
theorem qrv : G.owned 29 = false := rfl
theorem zd4 : G.keep 29 = false := rfl
theorem qmw (i : Nat) : G.pre 29 i = [] := rfl
theorem qsp : G.owned 30 = false := rfl
theorem zlr : G.keep 30 = false := rfl
theorem zj1 (i : Nat) : G.pre 30 i = [] := rfl
theorem qxy : G.owned 31 = false := rfl
theorem qo7 : G.keep 31 = false := rfl
theorem zqv (i : Nat) : G.pre 31 i = [] := rfl
theorem zdh : G.owned 32 = false := rfl
theorem zg8 : G.keep 32 = false := rfl
theorem zpf (i : Nat) : G.pre 32 i = [] := rfl
theorem zdj : G.owned 33 = false := rfl
theorem qzm : G.keep 33 = false := rfl
theorem z0n (i : Nat) : G.pre 33 i = [] := rfl
theorem z3a : G.owned 34 = false := rfl
theorem zg0 : G.keep 34 = true := rfl
theorem qxu (i : Nat) : G.pre 34 i = [] := rfl
theorem zkz : G.owned 35 = false := rfl
theorem z4b : G.keep 35 = false := rfl
theorem qum (i : Nat) : G.pre 35 i = [] := rfl
theorem znv : G.owned 36 = false := rfl
theorem zpj : G.keep 36 = false := rfl
theorem z7i (i : Nat) : G.pre 36 i = [] := rfl
theorem zlz : G.owned 37 = false := rfl
theorem qo1 : G.keep 37 = true := rfl
theorem zbt (i : Nat) : G.pre 37 i = [] := rfl
theorem zic : G.owned 38 = true := rfl
theorem qvy : G.keep 38 = false := rfl
theorem qta (i : Nat) : G.pre 38 i = [] := rfl
theorem qlh : G.owned 39 = false := rfl
theorem z6n : G.keep 39 = false := rfl
theorem ql6 (i : Nat) : G.pre 39 i = [] := rfl
theorem z6u : G.owned 40 = false := rfl
theorem qy3 : G.keep 40 = false := rfl
theorem zky (i : Nat) : G.pre 40 i = [] := rfl
theorem zaa : G.owned 41 = false := rfl
theorem zkv : G.keep 41 = false := rfl
theorem z0y (i : Nat) : G.pre 41 i = [] := rfl
theorem zd1 : G.owned 42 = false := rfl
theorem zfo : G.keep 42 = false := rfl
theorem qms (i : Nat) : G.pre 42 i = [] := rfl
theorem qsi : G.owned 43 = false := rfl
theorem z5a : G.keep 43 = false := rfl
theorem zqf (i : Nat) : G.pre 43 i = [] := rfl
theorem qnc : G.owned 44 = false := rfl
theorem z8k : G.keep 44 = false := rfl
theorem zde (i : Nat) : G.pre 44 i = [] := rfl
theorem zrk : G.owned 45 = false := rfl
theorem qog : G.keep 45 = true := rfl
theorem qnb (i : Nat) : G.pre 45 i = [] := rfl
theorem qx8 : G.owned 46 = true := rfl
theorem z97 : G.keep 46 = false := rfl
theorem qmt (i : Nat) : G.pre 46 i = [] := rfl
theorem qrn : G.owned 47 = false := rfl
theorem qvn : G.keep 47 = false := rfl
theorem qzl (i : Nat) : G.pre 47 i = [] := rfl
theorem qm7 : G.owned 48 = false := rfl
theorem qrf : G.keep 48 = false := rfl
theorem z0v (i : Nat) : G.pre 48 i = [] := rfl
theorem zk5 : G.owned 49 = true := rfl
theorem qks : G.keep 49 = false := rfl
theorem qt6 (i : Nat) : G.pre 49 i = [] := rfl
theorem qx9 : G.owned 50 = false := rfl
theorem zae : G.keep 50 = false := rfl
theorem qwj (i : Nat) : G.pre 50 i = [] := rfl
theorem zd3 : G.owned 51 = false := rfl
theorem qss : G.keep 51 = false := rfl
theorem zbm (i : Nat) : G.pre 51 i = [] := rfl
theorem z8x : G.owned 52 = false := rfl
theorem z1n : G.keep 52 = false := rfl
theorem qxm (i : Nat) : G.pre 52 i = [] := rfl
theorem zru : G.owned 53 = false := rfl
theorem qyy : G.keep 53 = false := rfl
theorem qyo (i : Nat) : G.pre 53 i = [] := rfl
theorem qmf : G.owned 54 = false := rfl
theorem quw : G.keep 54 = false := rfl
theorem z8y (i : Nat) : G.pre 54 i = [] := rfl
theorem qs7 : G.owned 55 = false := rfl
theorem z0m : G.keep 55 = false := rfl
theorem zlq (i : Nat) : G.pre 55 i = [] := rfl
theorem qp3 : G.owned 56 = false := rfl
theorem qvh : G.keep 56 = false := rfl
theorem z0o (i : Nat) : G.pre 56 i = [] := rfl
theorem zkh : G.owned 57 = false := rfl
theorem zjs : G.keep 57 = false := rfl
theorem z4d (i : Nat) : G.pre 57 i = [] := rfl
theorem z7s : G.owned 58 = false := rfl
theorem zra : G.keep 58 = false := rfl
theorem qsx (i : Nat) : G.pre 58 i = [] := rfl
theorem qup : G.owned 59 = false := rfl
theorem qlm : G.keep 59 = true := rfl
theorem za7 (i : Nat) : G.pre 59 i = [] := rfl
theorem qxl : G.owned 60 = true := rfl
theorem qzx : G.keep 60 = false := rfl
theorem qmp (i : Nat) : G.pre 60 i = [] := rfl
theorem z0l : G.owned 61 = false := rfl
theorem zbr : G.keep 61 = false := rfl
theorem zbi (i : Nat) : G.pre 61 i = [] := rfl
theorem zet : G.owned 62 = false := rfl
theorem qt9 : G.keep 62 = true := rfl
theorem zkr (i : Nat) : G.pre 62 i = [] := rfl
theorem zh4 : G.owned 63 = false := rfl
theorem zhv : G.keep 63 = false := rfl
theorem zhk (i : Nat) : G.pre 63 i = [] := rfl
theorem qly : G.owned 64 = false := rfl
theorem ziz : G.keep 64 = false := rfl
theorem zm0 (i : Nat) : G.pre 64 i = [] := rfl
theorem z8b : G.owned 65 = false := rfl
theorem zme : G.keep 65 = false := rfl
theorem z2p (i : Nat) : G.pre 65 i = [] := rfl
theorem zi7 : G.owned 66 = false := rfl
theorem zbe : G.keep 66 = false := rfl
theorem zps (i : Nat) : G.pre 66 i = [] := rfl
theorem qso : G.owned 67 = false := rfl
theorem qq3 : G.keep 67 = false := rfl
theorem z0j (i : Nat) : G.pre 67 i = [] := rfl
theorem z5b : G.owned 68 = false := rfl
theorem qqa : G.keep 68 = false := rfl
theorem qr2 (i : Nat) : G.pre 68 i = [] := rfl
theorem zjw : G.owned 69 = false := rfl
theorem qy1 : G.keep 69 = false := rfl
theorem qvq (i : Nat) : G.pre 69 i = [] := rfl
theorem zpm : G.owned 70 = false := rfl
theorem z6v : G.keep 70 = false := rfl
theorem zmy (i : Nat) : G.pre 70 i = [] := rfl
theorem qzt : G.owned 72 = false := rfl
theorem zno : G.keep 72 = false := rfl
theorem qn5 (i : Nat) : G.pre 72 i = [] := rfl
theorem z5o : G.owned 73 = false := rfl
theorem z5l : G.keep 73 = false := rfl
theorem qxi (i : Nat) : G.pre 73 i = [] := rfl
theorem qmz : G.owned 74 = false := rfl
theorem zhi : G.keep 74 = false := rfl
theorem z5i (i : Nat) : G.pre 74 i = [] := rfl
theorem zmg : G.owned 75 = true := rfl
theorem zh2 : G.keep 75 = false := rfl
theorem zjr (i : Nat) : G.pre 75 i = [] := rfl
theorem zln : G.owned 76 = true := rfl
theorem qwc : G.keep 76 = false := rfl
theorem zhr (i : Nat) : G.pre 76 i = [] := rfl
theorem z6z : G.owned 77 = false := rfl
theorem z3o : G.keep 77 = false := rfl
theorem qmr (i : Nat) : G.pre 77 i = [] := rfl
theorem qsy : G.owned 78 = false := rfl
theorem zj9 : G.keep 78 = false := rfl
theorem z96 (i : Nat) : G.pre 78 i = [] := rfl
theorem qr7 : G.owned 79 = false := rfl
theorem qqb : G.keep 79 = false := rfl
theorem qu6 (i : Nat) : G.pre 79 i = [] := rfl
theorem zod : G.owned 80 = true := rfl
theorem z3w : G.keep 80 = false := rfl
theorem z7e (i : Nat) : G.pre 80 i = [] := rfl
theorem zci : G.owned 81 = false := rfl
theorem qsd : G.keep 81 = false := rfl
theorem zs8 (i : Nat) : G.pre 81 i = [] := rfl
theorem zc6 : G.owned 82 = false := rfl
theorem qsg : G.keep 82 = true := rfl
theorem zrr (i : Nat) : G.pre 82 i = [] := rfl
theorem zqa : G.owned 83 = false := rfl
theorem zcm : G.keep 83 = false := rfl
theorem z3n (i : Nat) : G.pre 83 i = [] := rfl
theorem zep : G.owned 84 = false := rfl
theorem qll : G.keep 84 = false := rfl
theorem qro (i : Nat) : G.pre 84 i = [] := rfl
theorem z9t : G.owned 92 = false := rfl
theorem qnw : G.keep 92 = false := rfl
theorem qvw (i : Nat) : G.pre 92 i = [] := rfl
theorem z9l : G.owned 93 = false := rfl
theorem ql8 : G.keep 93 = false := rfl
theorem qyx (i : Nat) : G.pre 93 i = [] := rfl
theorem z7w : G.owned 94 = false := rfl
theorem qwg : G.keep 94 = false := rfl
theorem zgr (i : Nat) : G.pre 94 i = [] := rfl
theorem zrc : G.owned 95 = true := rfl
theorem z8a : G.keep 95 = false := rfl
theorem zij (i : Nat) : G.pre 95 i = [] := rfl
theorem zrh : G.owned 97 = true := rfl
theorem z3r : G.keep 97 = false := rfl
theorem qq1 (i : Nat) : G.pre 97 i = [] := rfl
theorem ze7 : G.owned 99 = true := rfl
theorem qzn : G.keep 99 = false := rfl
theorem qoo (i : Nat) : G.pre 99 i = [] := rfl
theorem zdt : G.owned 102 = false := rfl
theorem znr : G.keep 102 = false := rfl
theorem z9y (i : Nat) : G.pre 102 i = [] := rfl
theorem zbn : G.owned 103 = false := rfl
theorem zei : G.keep 103 = false := rfl
theorem qmb (i : Nat) : G.pre 103 i = [] := rfl
theorem qxs : G.owned 104 = false := rfl
theorem qqe : G.keep 104 = false := rfl
theorem z2y (i : Nat) : G.pre 104 i = [] := rfl
theorem zdn : G.owned 105 = false := rfl
theorem zgv : G.keep 105 = false := rfl
theorem z5g (i : Nat) : G.pre 105 i = [] := rfl
theorem zql : G.owned 106 = false := rfl
theorem zj0 : G.keep 106 = false := rfl
theorem qxc (i : Nat) : G.pre 106 i = [] := rfl
theorem qz0 : G.owned 117 = false := rfl
theorem z2e : G.keep 117 = false := rfl
theorem zot (i : Nat) : G.pre 117 i = [] := rfl
theorem zgu : G.owned 118 = false := rfl
theorem zqg : G.keep 118 = false := rfl
theorem zhn (i : Nat) : G.pre 118 i = [] := rfl
theorem qug : G.owned 122 = false := rfl
theorem zah : G.keep 122 = false := rfl
theorem zlh (i : Nat) : G.pre 122 i = [] := rfl
theorem zdc : G.owned 123 = false := rfl
theorem zm5 : G.keep 123 = false := rfl
theorem z9f (i : Nat) : G.pre 123 i = [] := rfl
theorem qoi : G.owned 145 = false := rfl
theorem qnr : G.keep 145 = false := rfl
theorem qzy (i : Nat) : G.pre 145 i = [] := rfl
theorem z7a : G.spec 9 0 = ⟨[2,3,5],[4],[],[],[],0⟩ := rfl
theorem zq5 : G.spec 12 0 = ⟨[0,1,7,8,9],[0,1,4],[],[],[],0⟩ := rfl
theorem qtg : G.spec 13 0 = ⟨[0,1,14,15,16],[1,4,5],[],[],[],0⟩ := rfl
theorem zo6 : G.spec 16 0 = ⟨[3,6,42,43,44],[2],[],[],[],0⟩ := rfl
theorem zsq : G.spec 16 2 = ⟨[3,6,7,8,9,42,43,44,54,55,56],[2,3,8,42,43,44],[],[],[],0⟩ := rfl
theorem qu5 : G.spec 17 0 = ⟨[3,14,15,16],[3],[],[(3,2)],[],0⟩ := rfl
theorem zcx : G.spec 18 0 = ⟨[0,1],[],[],[],[],0⟩ := rfl
theorem zqh : G.spec 19 0 = ⟨[0,14,15,16],[],[],[],[2000],0⟩ := rfl
theorem zog : G.spec 20 0 = ⟨[0,3],[2],[],[],[],0⟩ := rfl
theorem z0u : G.spec 20 2 = ⟨[0,3,4],[0,2,3],[],[],[],0⟩ := rfl
theorem qm1 : G.spec 20 4 = ⟨[0,3,4,44,45,46],[0,2,3,4],[],[],[],0⟩ := rfl
theorem qyp : G.spec 21 0 = ⟨[0,2,11,12],[],[],[],[],0⟩ := rfl
theorem zbo : G.spec 21 2 = ⟨[0,2,3,4,11,12,34,35,36],[0,3,4,11,12],[],[(4,1),(4,2)],[],0⟩ := rfl
theorem zey : G.spec 22 0 = ⟨[0,2,3,9,10,11],[0,2,3],[3],[],[],0⟩ := rfl
theorem z2s : G.spec 23 0 = ⟨[2,3,5],[4],[],[],[],0⟩ := rfl
theorem qyn : G.spec 25 0 = ⟨[3,10,11,12],[2],[],[],[],0⟩ := rfl
theorem zcu : G.spec 26 0 = ⟨[3,6,7,8],[3],[3],[],[],0⟩ := rfl
theorem qmv : G.spec 27 0 = ⟨[0,7,8,9],[0],[],[],[],0⟩ := rfl
theorem zi8 : G.spec 29 0 = ⟨[4,14,15,16],[4],[4],[],[],0⟩ := rfl
theorem zmi : G.spec 30 0 = ⟨[0,1,12,13],[4],[],[],[],0⟩ := rfl
theorem zmz : G.spec 31 0 = ⟨[2,5,18,19,20],[4],[],[],[18],0⟩ := rfl
theorem qmd : G.spec 33 0 = ⟨[0,5,10,11,12],[5],[5],[],[],0⟩ := rfl
theorem qo8 : G.spec 33 2 = ⟨[0,5,10,11,12,17,18,19],[0,5,10,11,12],[5],[],[],0⟩ := rfl
theorem qth : G.spec 36 0 = ⟨[2,9,10,11],[4],[],[],[],0⟩ := rfl
theorem qrm : G.spec 38 0 = ⟨[0,2,3],[],[],[],[],0⟩ := rfl
theorem qns : G.spec 39 0 = ⟨[2,3,11,12,13],[4,5],[],[],[],0⟩ := rfl
theorem z1y : G.spec 39 2 = ⟨[2,3,6,11,12,13,19,20,21],[2,3,4,5,11,12,13],[],[],[],0⟩ := rfl
theorem qo5 : G.spec 40 0 = ⟨[0,1,5,10,12,13,14],[0,1,5,10,12],[],[],[],0⟩ := rfl
theorem zpa : G.spec 40 2 = ⟨[0,1,5,10,12,91,92,93],[0,10],[],[],[],0⟩ := rfl
theorem qvk : G.spec 41 0 = ⟨[1,3,12,13,14],[1,3],[],[],[1],0⟩ := rfl
theorem qtc : G.spec 41 2 = ⟨[1,3,6],[6],[6],[],[],0⟩ := rfl
theorem zrg : G.spec 42 0 = ⟨[0,1,2,3,9,10,11,47,48,49],[0,1,2,3,9,10,11],[],[],[],0⟩ := rfl
theorem zjo : G.spec 42 2 = ⟨[0,1,2,3,15,16,17],[8],[],[],[],0⟩ := rfl
theorem zms : G.spec 43 0 = ⟨[1,2,3,7,8,9],[1,2,3],[3],[],[],0⟩ := rfl
theorem zrd : G.spec 51 0 = ⟨[3,6,7,8],[2,3],[],[],[],0⟩ := rfl
theorem z5r : G.spec 54 0 = ⟨[1,2,5],[1,2,4],[],[],[],0⟩ := rfl
theorem zcf : G.spec 58 0 = ⟨[2,3,12,13,14],[2,3],[],[(3,2)],[],0⟩ := rfl
theorem qyi : G.spec 58 2 = ⟨[2,3,6,12,13,14,23,24],[2,3,6,12,13,14],[],[],[],0⟩ := rfl
theorem zfr : G.spec 62 0 = ⟨[7,8],[7],[],[],[],0⟩ := rfl
theorem z3m : G.spec 63 0 = ⟨[5,6,12,13,14,34,35,36],[12,14],[],[(14,1),(14,2)],[],0⟩ := rfl
theorem qrt : G.spec 64 0 = ⟨[1,5,8,9,10],[5],[5],[],[1],0⟩ := rfl
theorem zlx : G.spec 67 0 = ⟨[1,2,5,12,13,14],[5],[],[],[],0⟩ := rfl
theorem qtj : G.spec 67 2 = ⟨[1,2,5,7,8,12,13,14],[1,2,5,12,13,14],[],[],[],0⟩ := rfl
theorem zfh : G.spec 68 0 = ⟨[0,1,7,8],[4],[],[],[],0⟩ := rfl
theorem zfu : G.spec 70 0 = ⟨[1,2,3,7,8,9,10],[7,8,9],[],[],[],0⟩ := rfl
theorem qxw : G.spec 72 0 = ⟨[1,2,3,10,11,12],[1,2,3],[3],[],[],0⟩ := rfl
theorem qop : G.spec 72 2 = ⟨[1,2,3,5,6,10,11,12,17,18,19],[1,2,3,5,6,10,11,12],[6],[],[],0⟩ := rfl
theorem zh1 : G.spec 73 0 = ⟨[2,3,5],[4],[],[],[],0⟩ := rfl
theorem z01 : G.spec 74 0 = ⟨[0,1,5],[4],[],[],[],0⟩ := rfl
theorem zrv : G.spec 75 0 = ⟨[0,1,2,6,7,8],[0,1,2,6,7],[],[],[],0⟩ := rfl
theorem qyd : G.spec 75 2 = ⟨[0,1,2,6],[],[],[],[],0⟩ := rfl
theorem qp4 : G.spec 75 4 = ⟨[0,1,2,6,7,8],[0,1,2,6,7],[],[],[],0⟩ := rfl
theorem zpb : G.spec 76 0 = ⟨[0,1,2,6,7,8],[0,1,2,6,7],[],[],[],0⟩ := rfl
theorem zjd : G.spec 76 2 = ⟨[0,1,2,6],[],[],[],[],0⟩ := rfl
theorem zg9 : G.spec 76 4 = ⟨[0,1,2,6,7,8],[0,1,2,6,7],[],[],[],0⟩ := rfl
theorem qku : G.spec 79 0 = ⟨[0,1,7,8],[4],[],[],[],0⟩ := rfl
theorem zj3 : G.spec 80 0 = ⟨[0,1,2,6,7,8],[0,1,2,6,7],[],[],[],0⟩ := rfl
theorem zoi : G.spec 80 2 = ⟨[0,1,2,6],[],[],[],[],0⟩ := rfl
theorem zou : G.spec 80 4 = ⟨[0,1,2,6,7,8],[0,1,2,6,7],[],[],[],0⟩ := rfl
theorem zrf : G.spec 82 0 = ⟨[1,2,4,5,10,11,19,20,21],[1,2,4,5,10,11],[],[],[],1000⟩ := rfl
theorem qmg : G.spec 82 2 = ⟨[10,11,71,72,73],[10,11],[],[],[],0⟩ := rfl
theorem qou : G.spec 83 0 = ⟨[0,2,3,4,6,10,12,13,14,32,33,34],[10,12,13],[13],[(12,2)],[],0⟩ := rfl
theorem z6i : G.spec 84 0 = ⟨[0,1,14,15,16],[0],[],[],[],0⟩ := rfl
theorem qrd : G.spec 94 0 = ⟨[2,3,5],[2,3,4],[],[],[],0⟩ := rfl
theorem zp1 : G.spec 94 2 = ⟨[2,3,6],[4],[],[],[],0⟩ := rfl
theorem z6l : G.spec 95 0 = ⟨[0,1,2,3,8],[],[],[],[],0⟩ := rfl
theorem z4z : G.spec 95 2 = ⟨[0,1,2,3,8,9],[0,1,2,3,8],[],[],[],0⟩ := rfl
theorem qzc : G.spec 97 0 = ⟨[0,1,2,3,8],[],[],[],[],0⟩ := rfl
theorem zjz : G.spec 97 2 = ⟨[0,1,2,3,8,9],[0,1,2,3,8],[],[],[],0⟩ := rfl
theorem zda : G.spec 99 0 = ⟨[0,1,2,3,8],[],[],[],[],0⟩ := rfl
theorem qzd : G.spec 99 2 = ⟨[0,1,2,3,8,9],[0,1,2,3,8],[],[],[],0⟩ := rfl
theorem zgq : G.spec 103 0 = ⟨[0,2,3,5,8,9],[0,2,3,5,8],[],[],[],0⟩ := rfl
theorem zl6 : G.spec 103 2 = ⟨[0,3,5,8,10,11],[],[],[],[],0⟩ := rfl
theorem zjk : G.spec 104 0 = ⟨[0,2,4,6,28,29,30],[],[],[],[],0⟩ := rfl
theorem z2u : G.spec 117 0 = ⟨[1,2,3,11,12,13],[1,2,3],[3],[],[],0⟩ := rfl
theorem fz1 : G.frz 1 = false := rfl
theorem fz2 : G.frz 2 = false := rfl
theorem fz3 : G.frz 3 = false := rfl
theorem fz4 : G.frz 4 = false := rfl
theorem fz5 : G.frz 5 = false := rfl
theorem fz6 : G.frz 6 = false := rfl
theorem fz7 : G.frz 7 = false := rfl
theorem fz8 : G.frz 8 = false := rfl
theorem fz9 : G.frz 9 = false := rfl
theorem z5z : G.frz 10 = false := rfl
theorem qm4 : G.frz 11 = false := rfl
theorem zc3 : G.frz 12 = false := rfl
theorem zdk : G.frz 13 = false := rfl
theorem ql4 : G.frz 14 = false := rfl
theorem qln : G.frz 15 = false := rfl
theorem qsq : G.frz 16 = false := rfl
theorem qwt : G.frz 17 = false := rfl
theorem zna : G.frz 18 = false := rfl
theorem znn : G.frz 19 = false := rfl
theorem z8h : G.frz 20 = false := rfl
theorem zaz : G.frz 21 = false := rfl
theorem zjn : G.frz 22 = false := rfl
theorem zsn : G.frz 23 = false := rfl
theorem qye : G.frz 24 = false := rfl
theorem z9i : G.frz 25 = false := rfl
theorem zc1 : G.frz 26 = false := rfl
theorem za3 : G.frz 27 = false := rfl
theorem zku : G.frz 28 = false := rfl
theorem qsh : G.frz 30 = false := rfl
theorem z3i : G.frz 31 = false := rfl
theorem zr8 : G.frz 32 = false := rfl
theorem qua : G.frz 33 = false := rfl
theorem z5d : G.frz 34 = false := rfl
theorem qwu : G.frz 35 = false := rfl
theorem zbl : G.frz 36 = false := rfl
theorem qzw : G.frz 37 = false := rfl
theorem zd5 : G.frz 38 = false := rfl
theorem z3f : G.frz 39 = false := rfl
theorem zdf : G.frz 40 = false := rfl
theorem zak : G.frz 41 = false := rfl
theorem ze2 : G.frz 42 = false := rfl
theorem quu : G.frz 43 = false := rfl
theorem qub : G.frz 44 = false := rfl
theorem qz5 : G.frz 46 = false := rfl
theorem zdr : G.frz 47 = false := rfl
theorem qx7 : G.frz 48 = false := rfl
theorem zpr : G.frz 49 = false := rfl
theorem z3k : G.frz 50 = false := rfl
theorem qv1 : G.frz 51 = false := rfl
theorem zo2 : G.frz 52 = false := rfl
theorem zk4 : G.frz 53 = false := rfl
theorem zgt : G.frz 54 = false := rfl
theorem zj4 : G.frz 55 = false := rfl
theorem qww : G.frz 56 = false := rfl
theorem zeu : G.frz 57 = false := rfl
theorem zd9 : G.frz 58 = false := rfl
theorem zil : G.frz 59 = false := rfl
theorem z0k : G.frz 60 = false := rfl
theorem qv7 : G.frz 61 = false := rfl
theorem zbs : G.frz 62 = false := rfl
theorem qmi : G.frz 63 = false := rfl
theorem zce : G.frz 64 = false := rfl
theorem zh0 : G.frz 65 = false := rfl
theorem qmy : G.frz 66 = false := rfl
theorem ql0 : G.frz 67 = false := rfl
theorem zgi : G.frz 68 = false := rfl
theorem qv2 : G.frz 69 = false := rfl
theorem z5h : G.frz 70 = false := rfl
theorem qq0 : G.frz 71 = false := rfl
theorem za0 : G.frz 72 = false := rfl
theorem qtd : G.frz 73 = false := rfl
theorem z3j : G.frz 74 = false := rfl
theorem qte : G.frz 75 = false := rfl
theorem zl4 : G.frz 76 = false := rfl
theorem zsg : G.frz 77 = false := rfl
theorem z0p : G.frz 78 = false := rfl
theorem qyl : G.frz 79 = false := rfl
theorem zqy : G.frz 80 = false := rfl
theorem zo3 : G.frz 81 = false := rfl
theorem zk8 : G.frz 82 = false := rfl
theorem qnh : G.frz 83 = false := rfl
theorem qp2 : G.frz 84 = false := rfl
theorem zcv : G.frz 85 = false := rfl
theorem zav : G.frz 86 = false := rfl
theorem zn2 : G.frz 87 = false := rfl
theorem qn2 : G.frz 88 = false := rfl
theorem zne : G.frz 89 = false := rfl
theorem qn8 : G.frz 90 = false := rfl
theorem zmt : G.frz 91 = false := rfl
theorem znb : G.frz 92 = false := rfl
theorem z9a : G.frz 94 = false := rfl
theorem qnp : G.frz 95 = false := rfl
theorem z1l : G.frz 96 = false := rfl
theorem z8r : G.frz 97 = false := rfl
theorem zos : G.frz 98 = false := rfl
theorem zqb : G.frz 99 = false := rfl
theorem qqr : G.frz 100 = false := rfl
theorem qni : G.frz 101 = false := rfl
theorem qqw : G.frz 102 = false := rfl
theorem zgg : G.frz 103 = false := rfl
theorem qpo : G.frz 104 = false := rfl
theorem zg2 : G.frz 105 = false := rfl
theorem zr4 : G.frz 106 = false := rfl
theorem z2n : G.frz 107 = false := rfl
theorem zk1 : G.frz 108 = false := rfl
theorem zan : G.frz 109 = false := rfl
theorem quv : G.frz 110 = false := rfl
theorem qtb : G.frz 112 = false := rfl
theorem qpx : G.frz 113 = false := rfl
theorem zm3 : G.frz 114 = false := rfl
theorem z7f : G.frz 115 = false := rfl
theorem qrw : G.frz 116 = false := rfl
theorem qtx : G.frz 117 = false := rfl
theorem zdl : G.frz 118 = false := rfl
theorem zs2 : G.frz 119 = false := rfl
theorem zo1 : G.frz 120 = false := rfl
theorem qyc : G.frz 121 = false := rfl
theorem qm8 : G.frz 122 = false := rfl
theorem zlf : G.frz 123 = false := rfl
theorem zhl : G.frz 124 = false := rfl
theorem zej : G.frz 125 = false := rfl
theorem qp9 : G.frz 126 = false := rfl
theorem quk : G.frz 127 = false := rfl
theorem z3y : G.frz 128 = false := rfl
theorem zbv : G.frz 129 = false := rfl
theorem zo8 : G.frz 130 = false := rfl
theorem zax : G.frz 131 = false := rfl
theorem zh8 : G.frz 132 = false := rfl
theorem z8m : G.frz 133 = false := rfl
theorem qs3 : G.frz 135 = false := rfl
theorem zsm : G.frz 136 = false := rfl
theorem zoz : G.frz 137 = false := rfl
theorem zfe : G.frz 138 = false := rfl
theorem zqi : G.frz 139 = false := rfl
theorem qod : G.frz 140 = false := rfl
theorem qkz : G.frz 141 = false := rfl
theorem qqm : G.frz 142 = false := rfl
theorem znc : G.frz 143 = false := rfl
theorem qvl : G.frz 145 = false := rfl
theorem zdd : G.frz 146 = false := rfl
theorem qt2 : G.frz 147 = false := rfl
theorem qma : G.frz 148 = false := rfl
theorem zel : G.frz 149 = false := rfl
theorem zb3 : G.frz 151 = false := rfl
theorem qz6 : G.frz 152 = false := rfl
theorem zrb : G.frz 153 = false := rfl
theorem zfa : G.frz 154 = false := rfl
theorem z8t : G.frz 155 = false := rfl
theorem qsr : G.frz 157 = false := rfl
theorem qlf : G.frz 158 = false := rfl
theorem znz : G.frz 159 = false := rfl
theorem ze5 : G.frz 160 = false := rfl
theorem zjj : G.frz 161 = false := rfl
theorem zhd : G.frz 162 = false := rfl
theorem zhp : G.frz 163 = false := rfl
theorem zlg : G.frz 164 = false := rfl
theorem zjx : G.frz 165 = false := rfl
theorem qui : G.frz 166 = false := rfl
theorem zqo : G.frz 167 = false := rfl
theorem zq2 : G.frz 168 = false := rfl
theorem zjg : G.frz 169 = false := rfl
theorem qlv : G.frz 170 = false := rfl
theorem qpp : G.frz 171 = false := rfl
theorem zsa : G.frz 172 = false := rfl
theorem zov : G.frz 173 = false := rfl
theorem qn0 : G.frz 174 = false := rfl
theorem zb8 : G.frz 176 = false := rfl
theorem qqk : G.frz 177 = false := rfl
theorem z4h : G.frz 179 = false := rfl
theorem zby : G.frz 180 = false := rfl
theorem qo9 : G.frz 181 = false := rfl
theorem z3t : G.frz 182 = false := rfl
theorem qmu : G.frz 183 = false := rfl
theorem qsb : G.frz 184 = false := rfl
theorem qwp : G.frz 185 = false := rfl
theorem zdg : G.frz 186 = false := rfl
theorem zbd : G.frz 187 = false := rfl
theorem qq9 : G.frz 188 = false := rfl
theorem qoa : G.frz 189 = false := rfl
theorem qnz : G.frz 191 = false := rfl
theorem znp : G.frz 192 = false := rfl
theorem qv8 : G.frz 193 = false := rfl
theorem zn3 : G.frz 194 = false := rfl
theorem qr3 : G.frz 195 = false := rfl
theorem zca : G.frz 196 = false := rfl
theorem qtt : G.frz 198 = false := rfl
theorem zo0 : G.frz 200 = false := rfl
theorem z3p : G.frz 201 = false := rfl
theorem zfi : G.frz 202 = false := rfl
theorem z18 : G.frz 203 = false := rfl
theorem qud : G.frz 204 = false := rfl
theorem qvb : G.frz 205 = false := rfl
theorem zpy : G.frz 206 = false := rfl
theorem qrh : G.frz 207 = false := rfl
theorem zi1 : G.frz 208 = false := rfl
theorem zp3 : G.frz 210 = false := rfl
theorem qm0 : G.frz 211 = false := rfl
theorem z7k : G.frz 212 = false := rfl
theorem qtl : G.frz 213 = false := rfl
theorem qzf : G.frz 214 = false := rfl
theorem zrj : G.frz 215 = false := rfl
theorem zai : G.frz 216 = false := rfl
theorem ziw : G.frz 217 = false := rfl
theorem qph : G.frz 218 = false := rfl
theorem z0i : G.frz 219 = false := rfl
theorem qnk : G.frz 220 = false := rfl
theorem z3q : G.frz 221 = false := rfl
theorem zbb : G.frz 222 = false := rfl
theorem zqd : G.frz 223 = false := rfl
theorem z4y : G.frz 224 = false := rfl
theorem qux : G.frz 225 = false := rfl
theorem zeq : G.frz 227 = false := rfl
theorem z5w : G.frz 228 = false := rfl
theorem zh9 : G.frz 229 = false := rfl
theorem zcr : G.frz 230 = false := rfl
theorem zkp : G.frz 231 = false := rfl
theorem zmm : G.frz 232 = false := rfl
theorem qq2 : G.frz 233 = false := rfl
theorem ql5 : G.frz 234 = false := rfl
theorem z1k : G.frz 235 = false := rfl
theorem zf6 : G.frz 236 = false := rfl
theorem z9e : G.frz 237 = false := rfl
theorem zkn : G.frz 238 = false := rfl
theorem zp4 : G.frz 239 = false := rfl
theorem zr9 : G.frz 240 = false := rfl
theorem zd8 : G.frz 241 = false := rfl
theorem zqm : G.frz 242 = false := rfl
theorem zko : G.frz 243 = false := rfl
theorem qv4 : G.frz 244 = false := rfl
theorem zd0 : G.frz 245 = false := rfl
theorem zmj : G.frz 246 = false := rfl
theorem zmq : G.frz 248 = false := rfl
theorem zes : G.frz 249 = false := rfl
theorem z2z : G.frz 250 = false := rfl
theorem zm6 : G.frz 251 = false := rfl
theorem qqu : G.frz 252 = false := rfl
theorem zpt : G.frz 253 = false := rfl
theorem z5y : G.frz 254 = false := rfl
theorem qny : G.frz 255 = false := rfl
theorem zht : G.frz 256 = false := rfl
theorem zks : G.frz 257 = false := rfl
theorem zlc : G.frz 258 = false := rfl
theorem qxo : G.frz 259 = false := rfl
theorem z4i : G.frz 260 = false := rfl
theorem zpq : G.frz 261 = false := rfl
theorem qoj : G.frz 262 = false := rfl
theorem qz8 : G.frz 263 = false := rfl
theorem z1w : G.frz 264 = false := rfl
theorem zqx : G.frz 265 = false := rfl
theorem qs1 : G.frz 266 = false := rfl
theorem z7v : G.frz 267 = false := rfl
theorem zat : G.frz 268 = false := rfl
theorem za1 : G.frz 269 = false := rfl
theorem qzo : G.frz 270 = false := rfl
theorem zn4 : G.frz 271 = false := rfl
theorem qor : G.frz 272 = false := rfl
theorem qx5 : G.frz 273 = false := rfl
theorem qxq : G.frz 274 = false := rfl
theorem zfk : G.frz 275 = false := rfl
theorem zq8 : G.frz 276 = false := rfl
theorem qql : G.frz 277 = false := rfl
theorem z13 : G.frz 278 = false := rfl
theorem zg6 : G.frz 279 = false := rfl
theorem zaf : G.frz 280 = false := rfl
theorem quh : G.frz 281 = false := rfl
theorem zka : G.frz 282 = false := rfl
theorem mf1 : G.mrf 1 = false := rfl
theorem mf2 : G.mrf 2 = false := rfl
theorem mf3 : G.mrf 3 = false := rfl
theorem mf4 : G.mrf 4 = false := rfl
theorem mf5 : G.mrf 5 = false := rfl
theorem mf6 : G.mrf 6 = false := rfl
theorem mf7 : G.mrf 7 = false := rfl
theorem mf8 : G.mrf 8 = false := rfl
theorem mf9 : G.mrf 9 = false := rfl
theorem zd6 : G.mrf 10 = false := rfl
theorem z1e : G.mrf 11 = false := rfl
theorem qm5 : G.mrf 12 = false := rfl
theorem z9q : G.mrf 13 = false := rfl
theorem z6w : G.mrf 14 = false := rfl
theorem qko : G.mrf 15 = false := rfl
theorem qvt : G.mrf 16 = false := rfl
theorem zio : G.mrf 17 = false := rfl
theorem qxa : G.mrf 18 = false := rfl
theorem zqr : G.mrf 19 = false := rfl
theorem zju : G.mrf 20 = false := rfl
theorem z3u : G.mrf 21 = false := rfl
theorem z2i : G.mrf 22 = false := rfl
theorem qs8 : G.mrf 23 = false := rfl
theorem qyq : G.mrf 24 = false := rfl
theorem qlq : G.mrf 25 = false := rfl
theorem zdy : G.mrf 26 = false := rfl
theorem z1p : G.mrf 27 = false := rfl
theorem qle : G.mrf 28 = false := rfl
theorem zco : G.mrf 30 = false := rfl
theorem zin : G.mrf 31 = false := rfl
theorem z1i : G.mrf 32 = false := rfl
theorem z7j : G.mrf 33 = false := rfl
theorem z2a : G.mrf 34 = false := rfl
theorem qto : G.mrf 35 = false := rfl
theorem qvc : G.mrf 36 = false := rfl
theorem zon : G.mrf 37 = false := rfl
theorem z1z : G.mrf 38 = false := rfl
theorem z1f : G.mrf 39 = false := rfl
theorem qze : G.mrf 40 = false := rfl
theorem zgz : G.mrf 41 = false := rfl
theorem zn0 : G.mrf 42 = false := rfl
theorem qvu : G.mrf 43 = false := rfl
theorem z8s : G.mrf 44 = false := rfl
theorem zb2 : G.mrf 46 = false := rfl
theorem zfb : G.mrf 47 = false := rfl
theorem za2 : G.mrf 48 = false := rfl
theorem ziy : G.mrf 49 = false := rfl
theorem z2g : G.mrf 50 = false := rfl
theorem zr2 : G.mrf 51 = false := rfl
theorem z5j : G.mrf 52 = false := rfl
theorem zj2 : G.mrf 53 = false := rfl
theorem z1h : G.mrf 54 = false := rfl
theorem qwk : G.mrf 55 = false := rfl
theorem qv9 : G.mrf 56 = false := rfl
theorem z2l : G.mrf 57 = false := rfl
theorem qsn : G.mrf 58 = false := rfl
theorem zop : G.mrf 59 = false := rfl
theorem zof : G.mrf 60 = false := rfl
theorem qxr : G.mrf 61 = false := rfl
theorem qo2 : G.mrf 62 = false := rfl
theorem zgm : G.mrf 63 = false := rfl
theorem zir : G.mrf 64 = false := rfl
theorem zq0 : G.mrf 65 = false := rfl
theorem qpn : G.mrf 66 = false := rfl
theorem zc9 : G.mrf 67 = false := rfl
theorem zom : G.mrf 68 = false := rfl
theorem zlo : G.mrf 69 = false := rfl
theorem zn7 : G.mrf 70 = false := rfl
theorem zbk : G.mrf 71 = false := rfl
theorem znq : G.mrf 72 = false := rfl
theorem zbu : G.mrf 73 = false := rfl
theorem zsf : G.mrf 74 = false := rfl
theorem qq7 : G.mrf 75 = false := rfl
theorem qpf : G.mrf 76 = false := rfl
theorem zi3 : G.mrf 77 = false := rfl
theorem qw0 : G.mrf 78 = false := rfl
theorem z4e : G.mrf 79 = false := rfl
theorem zoy : G.mrf 80 = false := rfl
theorem zpn : G.mrf 81 = false := rfl
theorem z0w : G.mrf 82 = false := rfl
theorem qul : G.mrf 83 = false := rfl
theorem zrs : G.mrf 84 = false := rfl
theorem zb4 : G.mrf 85 = false := rfl
theorem zgl : G.mrf 86 = false := rfl
theorem zrn : G.mrf 87 = false := rfl
theorem qvp : G.mrf 88 = false := rfl
theorem zdm : G.mrf 89 = false := rfl
theorem zn5 : G.mrf 90 = false := rfl
theorem qoc : G.mrf 91 = false := rfl
theorem zq9 : G.mrf 92 = false := rfl
theorem z10 : G.mrf 94 = false := rfl
theorem qx3 : G.mrf 95 = false := rfl
theorem zaj : G.mrf 96 = false := rfl
theorem qvm : G.mrf 97 = false := rfl
theorem qra : G.mrf 98 = false := rfl
theorem zl9 : G.mrf 99 = false := rfl
theorem que : G.mrf 100 = false := rfl
theorem z07 : G.mrf 101 = false := rfl
theorem z6o : G.mrf 102 = false := rfl
theorem zeo : G.mrf 103 = false := rfl
theorem zoh : G.mrf 104 = false := rfl
theorem z4w : G.mrf 105 = false := rfl
theorem z7b : G.mrf 106 = false := rfl
theorem qva : G.mrf 107 = false := rfl
theorem zs9 : G.mrf 108 = false := rfl
theorem zqs : G.mrf 109 = false := rfl
theorem znt : G.mrf 110 = false := rfl
theorem zev : G.mrf 112 = false := rfl
theorem zgp : G.mrf 113 = false := rfl
theorem zls : G.mrf 114 = false := rfl
theorem qsu : G.mrf 115 = false := rfl
theorem z6r : G.mrf 116 = false := rfl
theorem zbh : G.mrf 117 = false := rfl
theorem zm4 : G.mrf 118 = false := rfl
theorem zob : G.mrf 119 = false := rfl
theorem zll : G.mrf 120 = false := rfl
theorem z88 : G.mrf 121 = false := rfl
theorem zih : G.mrf 122 = false := rfl
theorem qzi : G.mrf 123 = false := rfl
theorem zdx : G.mrf 124 = false := rfl
theorem zbz : G.mrf 125 = false := rfl
theorem z7r : G.mrf 126 = false := rfl
theorem qvo : G.mrf 127 = false := rfl
theorem zgk : G.mrf 128 = false := rfl
theorem qyt : G.mrf 129 = false := rfl
theorem qr4 : G.mrf 130 = false := rfl
theorem z4l : G.mrf 131 = false := rfl
theorem zoj : G.mrf 132 = false := rfl
theorem znl : G.mrf 133 = false := rfl
theorem qy6 : G.mrf 135 = false := rfl
theorem qmh : G.mrf 136 = false := rfl
theorem zqq : G.mrf 137 = false := rfl
theorem z8u : G.mrf 138 = false := rfl
theorem qn6 : G.mrf 139 = false := rfl
theorem z0d : G.mrf 140 = false := rfl
theorem qoz : G.mrf 141 = false := rfl
theorem z1q : G.mrf 142 = false := rfl
theorem zfm : G.mrf 143 = false := rfl
theorem zhu : G.mrf 145 = false := rfl
theorem zhe : G.mrf 146 = true := rfl
theorem zkj : G.mrf 147 = false := rfl
theorem zgs : G.mrf 148 = false := rfl
theorem qpm : G.mrf 149 = false := rfl
theorem zdu : G.mrf 151 = false := rfl
theorem qy9 : G.mrf 152 = false := rfl
theorem qrr : G.mrf 153 = false := rfl
theorem z8c : G.mrf 154 = false := rfl
theorem zen : G.mrf 155 = false := rfl
theorem zek : G.mrf 157 = false := rfl
theorem zcg : G.mrf 158 = false := rfl
theorem z4q : G.mrf 159 = false := rfl
theorem qqs : G.mrf 160 = false := rfl
theorem zpu : G.mrf 161 = false := rfl
theorem qvd : G.mrf 162 = false := rfl
theorem qmo : G.mrf 163 = false := rfl
theorem zdv : G.mrf 164 = false := rfl
theorem z9m : G.mrf 165 = false := rfl
theorem qli : G.mrf 166 = false := rfl
theorem z7t : G.mrf 167 = false := rfl
theorem z2q : G.mrf 168 = false := rfl
theorem qpa : G.mrf 169 = false := rfl
theorem qw8 : G.mrf 170 = false := rfl
theorem zjh : G.mrf 171 = false := rfl
theorem z3v : G.mrf 172 = false := rfl
theorem zo5 : G.mrf 173 = false := rfl
theorem quf : G.mrf 174 = false := rfl
theorem zr7 : G.mrf 176 = false := rfl
theorem qn4 : G.mrf 177 = false := rfl
theorem qzz : G.mrf 179 = false := rfl
theorem qyf : G.mrf 180 = false := rfl
theorem qvf : G.mrf 181 = false := rfl
theorem qqp : G.mrf 182 = false := rfl
theorem qvj : G.mrf 183 = false := rfl
theorem zft : G.mrf 184 = false := rfl
theorem z4k : G.mrf 185 = false := rfl
theorem z1u : G.mrf 186 = false := rfl
theorem z15 : G.mrf 187 = false := rfl
theorem z6c : G.mrf 188 = false := rfl
theorem ql1 : G.mrf 189 = false := rfl
theorem zrm : G.mrf 191 = false := rfl
theorem qun : G.mrf 192 = false := rfl
theorem qz3 : G.mrf 193 = false := rfl
theorem ql2 : G.mrf 194 = false := rfl
theorem qti : G.mrf 195 = false := rfl
theorem z6s : G.mrf 196 = false := rfl
theorem zcy : G.mrf 198 = false := rfl
theorem qzh : G.mrf 200 = false := rfl
theorem znu : G.mrf 201 = false := rfl
theorem zox : G.mrf 202 = false := rfl
theorem zcd : G.mrf 203 = false := rfl
theorem qyu : G.mrf 204 = false := rfl
theorem qyg : G.mrf 205 = false := rfl
theorem zkm : G.mrf 206 = false := rfl
theorem zgw : G.mrf 207 = false := rfl
theorem zc0 : G.mrf 208 = false := rfl
theorem z4j : G.mrf 210 = false := rfl
theorem zfz : G.mrf 211 = false := rfl
theorem qrc : G.mrf 212 = false := rfl
theorem z5m : G.mrf 213 = false := rfl
theorem z4u : G.mrf 214 = false := rfl
theorem qpb : G.mrf 215 = false := rfl
theorem zmu : G.mrf 216 = false := rfl
theorem zmh : G.mrf 217 = false := rfl
theorem z06 : G.mrf 218 = false := rfl
theorem zi9 : G.mrf 219 = false := rfl
theorem zse : G.mrf 220 = false := rfl
theorem zb9 : G.mrf 221 = false := rfl
theorem zg4 : G.mrf 222 = false := rfl
theorem zok : G.mrf 223 = false := rfl
theorem znx : G.mrf 224 = false := rfl
theorem zd2 : G.mrf 225 = false := rfl
theorem z7y : G.mrf 227 = false := rfl
theorem qse : G.mrf 228 = false := rfl
theorem qzu : G.mrf 229 = false := rfl
theorem zq1 : G.mrf 230 = false := rfl
theorem z5e : G.mrf 231 = false := rfl
theorem qqj : G.mrf 232 = false := rfl
theorem qrs : G.mrf 233 = false := rfl
theorem zs4 : G.mrf 234 = false := rfl
theorem qu7 : G.mrf 235 = false := rfl
theorem qpv : G.mrf 236 = false := rfl
theorem zk0 : G.mrf 237 = false := rfl
theorem z4p : G.mrf 238 = false := rfl
theorem zdq : G.mrf 239 = false := rfl
theorem zoc : G.mrf 240 = false := rfl
theorem qq4 : G.mrf 241 = false := rfl
theorem qqq : G.mrf 242 = false := rfl
theorem zm2 : G.mrf 243 = false := rfl
theorem qmj : G.mrf 244 = false := rfl
theorem z11 : G.mrf 245 = false := rfl
theorem qkq : G.mrf 246 = false := rfl
theorem zkw : G.mrf 248 = false := rfl
theorem qv3 : G.mrf 249 = false := rfl
theorem z1m : G.mrf 250 = false := rfl
theorem qot : G.mrf 251 = false := rfl
theorem qwi : G.mrf 252 = false := rfl
theorem zpp : G.mrf 253 = false := rfl
theorem qsj : G.mrf 254 = false := rfl
theorem qwy : G.mrf 255 = false := rfl
theorem qq6 : G.mrf 256 = false := rfl
theorem qyb : G.mrf 257 = false := rfl
theorem qzs : G.mrf 258 = false := rfl
theorem zck : G.mrf 259 = false := rfl
theorem zdo : G.mrf 260 = false := rfl
theorem z8i : G.mrf 261 = false := rfl
theorem qr9 : G.mrf 262 = false := rfl
theorem zf3 : G.mrf 263 = false := rfl
theorem qxf : G.mrf 264 = false := rfl
theorem z0h : G.mrf 265 = false := rfl
theorem z9h : G.mrf 266 = false := rfl
theorem z4f : G.mrf 267 = false := rfl
theorem z2m : G.mrf 268 = false := rfl
theorem zcz : G.mrf 269 = false := rfl
theorem qky : G.mrf 270 = false := rfl
theorem z04 : G.mrf 271 = false := rfl
theorem qwl : G.mrf 272 = false := rfl
theorem z5n : G.mrf 273 = false := rfl
theorem qr1 : G.mrf 274 = false := rfl
theorem qqg : G.mrf 275 = false := rfl
theorem z2v : G.mrf 276 = false := rfl
theorem zre : G.mrf 277 = false := rfl
theorem zas : G.mrf 278 = false := rfl
theorem qu8 : G.mrf 279 = false := rfl
theorem zab : G.mrf 280 = false := rfl
theorem qs2 : G.mrf 281 = false := rfl
theorem zi6 : G.mrf 282 = false := rfl
theorem ti3 : G.ti 3 = some ⟨1,8,.int .i64,[.int .i64 0],false⟩ := by kernel_rfl
theorem ti4 : G.ti 4 = some ⟨1,1,.bool,[.bool false],false⟩ := by kernel_rfl
theorem ti9 : G.ti 9 = some ⟨1,16,.string,[.str []],false⟩ := by kernel_rfl
theorem zad : G.ti 24 = some ⟨1,24,.slice 71,[.sl true 0 []],false⟩ := by kernel_rfl
theorem z8j : G.ti 25 = some ⟨1,24,.slice 39,[.sl true 0 []],false⟩ := by kernel_rfl
theorem qz2 : G.ti 27 = some ⟨3,64,.struct [(0,1,9),(1,1,24),(2,1,25)],[.str [],.sl true 0 [],.sl true 0 []],true⟩ := by kernel_rfl
theorem zs6 : G.ti 28 = some ⟨1,8,.int .i64,[.int .i64 0],false⟩ := by kernel_rfl
theorem qr8 : G.ti 33 = some ⟨2,16,.struct [(0,1,3),(1,1,3)],[.int .i64 0,.int .i64 0],true⟩ := by kernel_rfl
theorem zp8 : G.ti 35 = some ⟨3,32,.struct [(0,2,33),(2,1,9)],[.int .i64 0,.int .i64 0,.str []],false⟩ := by kernel_rfl
theorem zal : G.ti 37 = some ⟨1,24,.slice 69,[.sl true 0 []],false⟩ := by kernel_rfl
theorem z7d : G.ti 39 = some ⟨2,32,.struct [(0,1,3),(1,1,37)],[.int .i64 0,.sl true 0 []],true⟩ := by kernel_rfl
theorem zd7 : G.ti 42 = some ⟨1,24,.slice 35,[.sl true 0 []],false⟩ := by kernel_rfl
theorem z0q : G.ti 51 = some ⟨1,8,.int .u64,[.int .u64 0],false⟩ := by kernel_rfl
theorem z2j : G.ti 57 = some ⟨1,24,.slice 205,[.sl true 0 []],false⟩ := by kernel_rfl
theorem zcw : G.ti 58 = some ⟨1,24,.slice 60,[.sl true 0 []],false⟩ := by kernel_rfl
theorem zf0 : G.ti 60 = some ⟨8,104,.struct [(0,1,3),(1,1,9),(2,1,4),(3,1,57),(4,1,3),(5,1,3),(6,1,4),(7,1,58)],[.int .i64 0,.str [],.bool false,.sl true 0 [],.int .i64 0,.int .i64 0,.bool false,.sl true 0 []],true⟩ := by kernel_rfl
theorem qrz : G.ti 61 = some ⟨1,24,.slice 163,[.sl true 0 []],false⟩ := by kernel_rfl
theorem qmk : G.ti 63 = some ⟨11,136,.struct [(0,8,60),(8,1,61),(9,1,4),(10,1,4)],[.int .i64 0,.str [],.bool false,.sl true 0 [],.int .i64 0,.int .i64 0,.bool false,.sl true 0 [],.sl true 0 [],.bool false,.bool false],false⟩ := by kernel_rfl
theorem z95 : G.ti 64 = some ⟨1,24,.slice 9,[.sl true 0 []],false⟩ := by kernel_rfl
theorem zg5 : G.ti 66 = some ⟨18,200,.struct [(0,2,33),(2,1,3),(3,1,3),(4,1,4),(5,1,4),(6,11,63),(17,1,64)],[.int .i64 0,.int .i64 0,.int .i64 0,.int .i64 0,.bool false,.bool false,.int .i64 0,.str [],.bool false,.sl true 0 [],.int .i64 0,.int .i64 0,.bool false,.sl true 0 [],.sl true 0 [],.bool false,.bool false,.sl true 0 []],false⟩ := by kernel_rfl
theorem zqj : G.ti 67 = some ⟨1,24,.slice 66,[.sl true 0 []],false⟩ := by kernel_rfl
theorem qw3 : G.ti 69 = some ⟨3,40,.struct [(0,2,33),(2,1,67)],[.int .i64 0,.int .i64 0,.sl true 0 []],false⟩ := by kernel_rfl
theorem z8e : G.ti 71 = some ⟨2,16,.struct [(0,1,3),(1,1,3)],[.int .i64 0,.int .i64 0],true⟩ := by kernel_rfl
theorem zr3 : G.ti 75 = some ⟨1,24,.slice 33,[.sl true 0 []],false⟩ := by kernel_rfl
theorem qtf : G.ti 83 = some ⟨1,24,.slice 90,[.sl true 0 []],false⟩ := by kernel_rfl
theorem ze6 : G.ti 85 = some ⟨3,64,.struct [(0,1,9),(1,1,24),(2,1,83)],[.str [],.sl true 0 [],.sl true 0 []],true⟩ := by kernel_rfl
theorem zqu : G.ti 88 = some ⟨1,24,.slice 99,[.sl true 0 []],false⟩ := by kernel_rfl
theorem z4x : G.ti 90 = some ⟨3,56,.struct [(0,2,39),(2,1,88)],[.int .i64 0,.sl true 0 [],.sl true 0 []],false⟩ := by kernel_rfl
theorem z8n : G.ti 96 = some ⟨1,24,.slice 3,[.sl true 0 []],false⟩ := by kernel_rfl
theorem zia : G.ti 99 = some ⟨1,24,.slice 132,[.sl true 0 []],false⟩ := by kernel_rfl
theorem qxv : G.ti 110 = some ⟨1,8,.map 3 3,[.nilmap],false⟩ := by kernel_rfl
theorem zqc : G.ti 118 = some ⟨1,24,.slice 120,[.sl true 0 []],false⟩ := by kernel_rfl
theorem qzk : G.ti 120 = some ⟨2,16,.array 2 3,[.int .i64 0,.int .i64 0],false⟩ := by kernel_rfl
theorem z6f : G.ti 130 = some ⟨1,24,.slice 4,[.sl true 0 []],false⟩ := by kernel_rfl
theorem qst : G.ti 132 = some ⟨2,16,.struct [(0,1,3),(1,1,4)],[.int .i64 0,.bool false],true⟩ := by kernel_rfl
theorem z8f : G.ti 146 = some ⟨1,24,.slice 96,[.sl true 0 []],false⟩ := by kernel_rfl
theorem z0f : G.ti 148 = some ⟨6,72,.struct [(0,3,35),(3,1,146),(4,1,3),(5,1,3)],[.int .i64 0,.int .i64 0,.str [],.sl true 0 [],.int .i64 0,.int .i64 0],false⟩ := by kernel_rfl
theorem quz : G.ti 163 = some ⟨5,56,.struct [(0,1,3),(1,1,3),(2,1,3),(3,1,9),(4,1,9)],[.int .i64 0,.int .i64 0,.int .i64 0,.str [],.str []],true⟩ := by kernel_rfl
theorem qz1 : G.ti 177 = some ⟨1,8,.int .u64,[.int .u64 0],false⟩ := by kernel_rfl
theorem z7m : G.ti 205 = some ⟨2,32,.struct [(0,1,9),(1,1,9)],[.str [],.str []],true⟩ := by kernel_rfl
theorem fn3 : G.fn 3 = some ⟨Tryz.f3.ntmps,Tryz.f3.results.toList,Tryz.f3.body.get!⟩ := by kernel_rfl
theorem fn6 : G.fn 6 = some ⟨Tryz.f6.ntmps,Tryz.f6.results.toList,Tryz.f6.body.get!⟩ := by kernel_rfl
theorem fn7 : G.fn 7 = some ⟨Tryz.f7.ntmps,Tryz.f7.results.toList,Tryz.f7.body.get!⟩ := by kernel_rfl
theorem fn8 : G.fn 8 = some ⟨Tryz.f8.ntmps,Tryz.f8.results.toList,Tryz.f8.body.get!⟩ := by kernel_rfl
theorem fn9 : G.fn 9 = some ⟨Tryz.f9.ntmps,Tryz.f9.results.toList,Tryz.f9.body.get!⟩ := by kernel_rfl
theorem qhs : G.fn 10 = some ⟨Tryz.f10.ntmps,Tryz.f10.results.toList,Tryz.f10.body.get!⟩ := by kernel_rfl
theorem q2v : G.fn 12 = some ⟨Tryz.f12.ntmps,Tryz.f12.results.toList,Tryz.f12.body.get!⟩ := by kernel_rfl
theorem q3j : G.fn 13 = some ⟨Tryz.f13.ntmps,Tryz.f13.results.toList,Tryz.f13.body.get!⟩ := by kernel_rfl
theorem yh : G.fn 16 = some ⟨Tryz.f16.ntmps,Tryz.f16.results.toList,Tryz.f16.body.get!⟩ := by kernel_rfl
theorem q6i : G.fn 17 = some ⟨Tryz.f17.ntmps,Tryz.f17.results.toList,Tryz.f17.body.get!⟩ := by kernel_rfl
theorem q53 : G.fn 18 = some ⟨Tryz.f18.ntmps,Tryz.f18.results.toList,Tryz.f18.body.get!⟩ := by kernel_rfl
theorem jw : G.fn 19 = some ⟨Tryz.f19.ntmps,Tryz.f19.results.toList,Tryz.f19.body.get!⟩ := by kernel_rfl
theorem gy : G.fn 20 = some ⟨Tryz.f20.ntmps,Tryz.f20.results.toList,Tryz.f20.body.get!⟩ := by kernel_rfl
theorem q2u : G.fn 21 = some ⟨Tryz.f21.ntmps,Tryz.f21.results.toList,Tryz.f21.body.get!⟩ := by kernel_rfl
theorem qdd : G.fn 22 = some ⟨Tryz.f22.ntmps,Tryz.f22.results.toList,Tryz.f22.body.get!⟩ := by kernel_rfl
theorem q51 : G.fn 23 = some ⟨Tryz.f23.ntmps,Tryz.f23.results.toList,Tryz.f23.body.get!⟩ := by kernel_rfl
theorem qk3 : G.fn 24 = some ⟨Tryz.f24.ntmps,Tryz.f24.results.toList,Tryz.f24.body.get!⟩ := by kernel_rfl
theorem ko : G.fn 25 = some ⟨Tryz.f25.ntmps,Tryz.f25.results.toList,Tryz.f25.body.get!⟩ := by kernel_rfl
theorem qb3 : G.fn 26 = some ⟨Tryz.f26.ntmps,Tryz.f26.results.toList,Tryz.f26.body.get!⟩ := by kernel_rfl
theorem qbk : G.fn 27 = some ⟨Tryz.f27.ntmps,Tryz.f27.results.toList,Tryz.f27.body.get!⟩ := by kernel_rfl
theorem zfw : G.fn 28 = some ⟨Tryz.f28.ntmps,Tryz.f28.results.toList,Tryz.f28.body.get!⟩ := by kernel_rfl
theorem uf : G.fn 29 = some ⟨Tryz.f29.ntmps,Tryz.f29.results.toList,Tryz.f29.body.get!⟩ := by kernel_rfl
theorem q4j : G.fn 30 = some ⟨Tryz.f30.ntmps,Tryz.f30.results.toList,Tryz.f30.body.get!⟩ := by kernel_rfl
theorem q0n : G.fn 31 = some ⟨Tryz.f31.ntmps,Tryz.f31.results.toList,Tryz.f31.body.get!⟩ := by kernel_rfl
theorem qol : G.fn 32 = some ⟨Tryz.f32.ntmps,Tryz.f32.results.toList,Tryz.f32.body.get!⟩ := by kernel_rfl
theorem q5w : G.fn 33 = some ⟨Tryz.f33.ntmps,Tryz.f33.results.toList,Tryz.f33.body.get!⟩ := by kernel_rfl
theorem qea : G.fn 34 = some ⟨Tryz.f34.ntmps,Tryz.f34.results.toList,Tryz.f34.body.get!⟩ := by kernel_rfl
theorem qf6 : G.fn 35 = some ⟨Tryz.f35.ntmps,Tryz.f35.results.toList,Tryz.f35.body.get!⟩ := by kernel_rfl
theorem q6s : G.fn 36 = some ⟨Tryz.f36.ntmps,Tryz.f36.results.toList,Tryz.f36.body.get!⟩ := by kernel_rfl
theorem qi7 : G.fn 37 = some ⟨Tryz.f37.ntmps,Tryz.f37.results.toList,Tryz.f37.body.get!⟩ := by kernel_rfl
theorem q77 : G.fn 38 = some ⟨Tryz.f38.ntmps,Tryz.f38.results.toList,Tryz.f38.body.get!⟩ := by kernel_rfl
theorem q0p : G.fn 39 = some ⟨Tryz.f39.ntmps,Tryz.f39.results.toList,Tryz.f39.body.get!⟩ := by kernel_rfl
theorem ma : G.fn 40 = some ⟨Tryz.f40.ntmps,Tryz.f40.results.toList,Tryz.f40.body.get!⟩ := by kernel_rfl
theorem q8k : G.fn 41 = some ⟨Tryz.f41.ntmps,Tryz.f41.results.toList,Tryz.f41.body.get!⟩ := by kernel_rfl
theorem gz : G.fn 42 = some ⟨Tryz.f42.ntmps,Tryz.f42.results.toList,Tryz.f42.body.get!⟩ := by kernel_rfl
theorem qag : G.fn 43 = some ⟨Tryz.f43.ntmps,Tryz.f43.results.toList,Tryz.f43.body.get!⟩ := by kernel_rfl
theorem qby : G.fn 44 = some ⟨Tryz.f44.ntmps,Tryz.f44.results.toList,Tryz.f44.body.get!⟩ := by kernel_rfl
theorem qih : G.fn 45 = some ⟨Tryz.f45.ntmps,Tryz.f45.results.toList,Tryz.f45.body.get!⟩ := by kernel_rfl
theorem qjb : G.fn 46 = some ⟨Tryz.f46.ntmps,Tryz.f46.results.toList,Tryz.f46.body.get!⟩ := by kernel_rfl
theorem znk : G.fn 47 = some ⟨Tryz.f47.ntmps,Tryz.f47.results.toList,Tryz.f47.body.get!⟩ := by kernel_rfl
theorem zpv : G.fn 48 = some ⟨Tryz.f48.ntmps,Tryz.f48.results.toList,Tryz.f48.body.get!⟩ := by kernel_rfl
theorem qf7 : G.fn 49 = some ⟨Tryz.f49.ntmps,Tryz.f49.results.toList,Tryz.f49.body.get!⟩ := by kernel_rfl
theorem qtq : G.fn 50 = some ⟨Tryz.f50.ntmps,Tryz.f50.results.toList,Tryz.f50.body.get!⟩ := by kernel_rfl
theorem q73 : G.fn 51 = some ⟨Tryz.f51.ntmps,Tryz.f51.results.toList,Tryz.f51.body.get!⟩ := by kernel_rfl
theorem q5c : G.fn 52 = some ⟨Tryz.f52.ntmps,Tryz.f52.results.toList,Tryz.f52.body.get!⟩ := by kernel_rfl
theorem qvx : G.fn 53 = some ⟨Tryz.f53.ntmps,Tryz.f53.results.toList,Tryz.f53.body.get!⟩ := by kernel_rfl
theorem q85 : G.fn 54 = some ⟨Tryz.f54.ntmps,Tryz.f54.results.toList,Tryz.f54.body.get!⟩ := by kernel_rfl
theorem qjr : G.fn 55 = some ⟨Tryz.f55.ntmps,Tryz.f55.results.toList,Tryz.f55.body.get!⟩ := by kernel_rfl
theorem zqe : G.fn 56 = some ⟨Tryz.f56.ntmps,Tryz.f56.results.toList,Tryz.f56.body.get!⟩ := by kernel_rfl
theorem qlo : G.fn 57 = some ⟨Tryz.f57.ntmps,Tryz.f57.results.toList,Tryz.f57.body.get!⟩ := by kernel_rfl
theorem q7f : G.fn 58 = some ⟨Tryz.f58.ntmps,Tryz.f58.results.toList,Tryz.f58.body.get!⟩ := by kernel_rfl
theorem qga : G.fn 59 = some ⟨Tryz.f59.ntmps,Tryz.f59.results.toList,Tryz.f59.body.get!⟩ := by kernel_rfl
theorem qjl : G.fn 60 = some ⟨Tryz.f60.ntmps,Tryz.f60.results.toList,Tryz.f60.body.get!⟩ := by kernel_rfl
theorem z5q : G.fn 61 = some ⟨Tryz.f61.ntmps,Tryz.f61.results.toList,Tryz.f61.body.get!⟩ := by kernel_rfl
theorem qk1 : G.fn 62 = some ⟨Tryz.f62.ntmps,Tryz.f62.results.toList,Tryz.f62.body.get!⟩ := by kernel_rfl
theorem q1c : G.fn 63 = some ⟨Tryz.f63.ntmps,Tryz.f63.results.toList,Tryz.f63.body.get!⟩ := by kernel_rfl
theorem qbs : G.fn 64 = some ⟨Tryz.f64.ntmps,Tryz.f64.results.toList,Tryz.f64.body.get!⟩ := by kernel_rfl
theorem qx2 : G.fn 66 = some ⟨Tryz.f66.ntmps,Tryz.f66.results.toList,Tryz.f66.body.get!⟩ := by kernel_rfl
theorem q37 : G.fn 67 = some ⟨Tryz.f67.ntmps,Tryz.f67.results.toList,Tryz.f67.body.get!⟩ := by kernel_rfl
theorem q6t : G.fn 68 = some ⟨Tryz.f68.ntmps,Tryz.f68.results.toList,Tryz.f68.body.get!⟩ := by kernel_rfl
theorem z98 : G.fn 69 = some ⟨Tryz.f69.ntmps,Tryz.f69.results.toList,Tryz.f69.body.get!⟩ := by kernel_rfl
theorem mg : G.fn 70 = some ⟨Tryz.f70.ntmps,Tryz.f70.results.toList,Tryz.f70.body.get!⟩ := by kernel_rfl
theorem q88 : G.fn 72 = some ⟨Tryz.f72.ntmps,Tryz.f72.results.toList,Tryz.f72.body.get!⟩ := by kernel_rfl
theorem q57 : G.fn 73 = some ⟨Tryz.f73.ntmps,Tryz.f73.results.toList,Tryz.f73.body.get!⟩ := by kernel_rfl
theorem q60 : G.fn 74 = some ⟨Tryz.f74.ntmps,Tryz.f74.results.toList,Tryz.f74.body.get!⟩ := by kernel_rfl
theorem ug : G.fn 75 = some ⟨Tryz.f75.ntmps,Tryz.f75.results.toList,Tryz.f75.body.get!⟩ := by kernel_rfl
theorem um : G.fn 76 = some ⟨Tryz.f76.ntmps,Tryz.f76.results.toList,Tryz.f76.body.get!⟩ := by kernel_rfl
theorem zkk : G.fn 77 = some ⟨Tryz.f77.ntmps,Tryz.f77.results.toList,Tryz.f77.body.get!⟩ := by kernel_rfl
theorem qfe : G.fn 78 = some ⟨Tryz.f78.ntmps,Tryz.f78.results.toList,Tryz.f78.body.get!⟩ := by kernel_rfl
theorem q8c : G.fn 79 = some ⟨Tryz.f79.ntmps,Tryz.f79.results.toList,Tryz.f79.body.get!⟩ := by kernel_rfl
theorem uq : G.fn 80 = some ⟨Tryz.f80.ntmps,Tryz.f80.results.toList,Tryz.f80.body.get!⟩ := by kernel_rfl
theorem qsw : G.fn 81 = some ⟨Tryz.f81.ntmps,Tryz.f81.results.toList,Tryz.f81.body.get!⟩ := by kernel_rfl
theorem kr : G.fn 82 = some ⟨Tryz.f82.ntmps,Tryz.f82.results.toList,Tryz.f82.body.get!⟩ := by kernel_rfl
theorem je : G.fn 83 = some ⟨Tryz.f83.ntmps,Tryz.f83.results.toList,Tryz.f83.body.get!⟩ := by kernel_rfl
theorem zz : G.fn 84 = some ⟨Tryz.f84.ntmps,Tryz.f84.results.toList,Tryz.f84.body.get!⟩ := by kernel_rfl
theorem zf5 : G.fn 92 = some ⟨Tryz.f92.ntmps,Tryz.f92.results.toList,Tryz.f92.body.get!⟩ := by kernel_rfl
theorem qg5 : G.fn 93 = some ⟨Tryz.f93.ntmps,Tryz.f93.results.toList,Tryz.f93.body.get!⟩ := by kernel_rfl
theorem tq : G.fn 94 = some ⟨Tryz.f94.ntmps,Tryz.f94.results.toList,Tryz.f94.body.get!⟩ := by kernel_rfl
theorem pg : G.fn 95 = some ⟨Tryz.f95.ntmps,Tryz.f95.results.toList,Tryz.f95.body.get!⟩ := by kernel_rfl
theorem gm : G.fn 97 = some ⟨Tryz.f97.ntmps,Tryz.f97.results.toList,Tryz.f97.body.get!⟩ := by kernel_rfl
theorem gp : G.fn 99 = some ⟨Tryz.f99.ntmps,Tryz.f99.results.toList,Tryz.f99.body.get!⟩ := by kernel_rfl
theorem z9v : G.fn 102 = some ⟨Tryz.f102.ntmps,Tryz.f102.results.toList,Tryz.f102.body.get!⟩ := by kernel_rfl
theorem yo : G.fn 103 = some ⟨Tryz.f103.ntmps,Tryz.f103.results.toList,Tryz.f103.body.get!⟩ := by kernel_rfl
theorem q2m : G.fn 104 = some ⟨Tryz.f104.ntmps,Tryz.f104.results.toList,Tryz.f104.body.get!⟩ := by kernel_rfl
theorem q9a : G.fn 105 = some ⟨Tryz.f105.ntmps,Tryz.f105.results.toList,Tryz.f105.body.get!⟩ := by kernel_rfl
theorem qee : G.fn 106 = some ⟨Tryz.f106.ntmps,Tryz.f106.results.toList,Tryz.f106.body.get!⟩ := by kernel_rfl
theorem qdk : G.fn 117 = some ⟨Tryz.f117.ntmps,Tryz.f117.results.toList,Tryz.f117.body.get!⟩ := by kernel_rfl
theorem qh3 : G.fn 118 = some ⟨Tryz.f118.ntmps,Tryz.f118.results.toList,Tryz.f118.body.get!⟩ := by kernel_rfl
theorem qdh : G.fn 122 = some ⟨Tryz.f122.ntmps,Tryz.f122.results.toList,Tryz.f122.body.get!⟩ := by kernel_rfl
theorem q23 : G.fn 123 = some ⟨Tryz.f123.ntmps,Tryz.f123.results.toList,Tryz.f123.body.get!⟩ := by kernel_rfl
theorem qkk : G.fn 145 = some ⟨Tryz.f145.ntmps,Tryz.f145.results.toList,Tryz.f145.body.get!⟩ := by kernel_rfl
end Go.Proofs.YtkbgphcebakcnaaGreat
