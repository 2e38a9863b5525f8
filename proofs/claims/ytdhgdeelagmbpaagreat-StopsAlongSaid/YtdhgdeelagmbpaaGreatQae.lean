/-
  The tables of the program as the machine reads it.
-/
import Derived.Test.YtdhgdeelagmbpaaGreatRows
import Derived.Test.YtdhgdeelagmbpaaGreatQad
set_option linter.unusedSimpArgs false
set_option linter.unusedVariables false
namespace Go.Proofs.YtdhgdeelagmbpaaGreat
open Go Go.Gm
def spec : FuncId → Nat → q05
 | 4,0 => ⟨[3,5,6],[2],[],[],[],0⟩
 | 4,2 => ⟨[3,5,6,7,8,9],[2,3,5,6,7,8],[],[],[],0⟩
 | 6,0 => ⟨[2,7,8,10,12,13],[6],[],[],[],0⟩
 | 6,2 => ⟨[2,7,8,10,12,13,14,15,16],[2,6,7,8,10,12,13],[],[],[],0⟩
 | 7,0 => ⟨[1,4,9,11,12],[4,11],[],[(11,2)],[],0⟩
 | 9,0 => ⟨[2,5,18,19,20],[4],[],[],[18],0⟩
 | 11,0 => ⟨[2,5],[4],[],[],[],0⟩
 | 11,2 => ⟨[2,5,6,8],[2,4,5],[],[],[],0⟩
 | 12,0 => ⟨[1,3,12,13,14],[1,3],[],[],[1],0⟩
 | 12,2 => ⟨[1,3,6],[6],[6],[],[],0⟩
 | 13,0 => ⟨[0,1,5],[4],[],[],[],0⟩
 | 14,0 => ⟨[1,3,4],[1,3],[],[],[1],0⟩
 | 14,2 => ⟨[1,3,5],[5],[5],[],[],0⟩
 | 14,4 => ⟨[1,3,5,6,7,8],[1,3,5,6,7],[],[],[],0⟩
 | 14,6 => ⟨[1,3,5,6,7,9],[1,3,5,6],[],[],[],0⟩
 | 15,0 => ⟨[1,3],[2],[],[],[],0⟩
 | 15,2 => ⟨[1,3,4],[1,2,3],[],[],[],0⟩
 | 15,4 => ⟨[1,3,4,5,6],[1,3,4,5],[],[],[],0⟩
 | 16,0 => ⟨[3,11,12,13],[3],[],[],[],0⟩
 | 16,2 => ⟨[3,11,12,13,18,19,20],[3,11,12,13],[],[],[],0⟩
 | 17,0 => ⟨[0,5,10,11,12],[5],[5],[],[],0⟩
 | 17,2 => ⟨[0,5,10,11,12,17,18,19],[0,5,10,11,12],[5],[],[],0⟩
 | 18,0 => ⟨[1,2,3,7,8,9,10],[7,8,9],[],[],[],0⟩
 | 19,0 => ⟨[0,4,5],[4],[],[],[],0⟩
 | 20,0 => ⟨[11,12,13],[11,12],[],[],[],0⟩
 | 20,2 => ⟨[15,17,19,20],[15,17,19],[],[],[],0⟩
 | 21,0 => ⟨[0,13,14,15],[4,5],[],[],[],0⟩
 | 23,0 => ⟨[1,2,5],[1,2,4],[],[],[],0⟩
 | 26,0 => ⟨[0,1,2],[6],[],[],[],0⟩
 | 30,0 => ⟨[1,2,5,12,13,14],[5],[],[],[],0⟩
 | 30,2 => ⟨[1,2,5,7,8,12,13,14],[1,2,5,12,13,14],[],[],[],0⟩
 | 31,0 => ⟨[0,1,7,8],[4],[],[],[],0⟩
 | 33,0 => ⟨[0,1,5],[0,1,5],[],[],[],0⟩
 | 34,0 => ⟨[0,1,5],[4],[],[],[],0⟩
 | 35,0 => ⟨[0,1,2,7],[6],[],[],[],0⟩
 | 35,2 => ⟨[0,1,2,7,8],[0,1,2,6,7],[],[],[],0⟩
 | 38,0 => ⟨[0,1,2,8,9],[0,1,2,8,9],[8,9],[],[],2⟩
 | 39,0 => ⟨[0,3,4],[3],[],[],[],0⟩
 | 41,0 => ⟨[0,1,2,6],[],[],[(0,3),(0,4),(0,5)],[],0⟩
 | 42,0 => ⟨[0,2,3],[0,2],[],[],[],0⟩
 | 42,2 => ⟨[0,2,4],[0],[],[],[],0⟩
 | 42,4 => ⟨[0,5,6],[],[5],[],[],0⟩
 | 43,0 => ⟨[0,3],[2],[],[],[],0⟩
 | 43,2 => ⟨[0,3,4,5],[0,3,4],[],[],[],0⟩
 | 44,0 => ⟨[0,1,3,10,11],[8,9,10],[],[(1,0),(1,1)],[],0⟩
 | 45,0 => ⟨[0,1,2,3,5,6,16],[2,6],[2],[],[],0⟩
 | 46,0 => ⟨[0,2,3],[],[],[],[],0⟩
 | 51,0 => ⟨[0,5],[],[],[],[],0⟩
 | 53,0 => ⟨[0,4,7,8],[0,4,7,8],[7],[],[],0⟩
 | 53,2 => ⟨[0,4,12,14],[0,4,5,6,12,14],[],[],[],0⟩
 | 54,0 => ⟨[0,1,6,7],[0,1,6,7],[6,7],[],[],2⟩
 | 56,0 => ⟨[0,3,4],[3],[3],[],[],0⟩
 | 57,0 => ⟨[0,3],[2],[],[],[],0⟩
 | 59,0 => ⟨[0,1,2,7,8,9],[7],[7],[],[],0⟩
 | 60,0 => ⟨[0,1,6],[4,5],[],[],[],0⟩
 | 61,0 => ⟨[0,3,4],[2],[],[],[],0⟩
 | 62,0 => ⟨[0,3,5,8,9,10],[0,3,5,8,9],[],[(9,17)],[],0⟩
 | 63,0 => ⟨[0,1,5],[0,1,4],[],[],[],0⟩
 | 64,0 => ⟨[0,1,5],[4],[],[],[],0⟩
 | 65,0 => ⟨[0,1,5],[4],[],[],[],0⟩
 | 66,0 => ⟨[0,1,2,7],[2],[2],[],[],0⟩
 | 69,0 => ⟨[0,1,2,3,8,9],[],[],[],[],0⟩
 | 71,0 => ⟨[0,1,7,8],[0,1,7,8],[],[],[],0⟩
 | 72,0 => ⟨[0,1,7],[0,1,7],[],[],[],0⟩
 | 74,0 => ⟨[0,1,7],[0,1,7],[7],[],[],0⟩
 | 75,0 => ⟨[2,3,5],[4],[],[],[],0⟩
 | 77,0 => ⟨[0,3],[2],[],[],[],0⟩
 | 79,0 => ⟨[0,1,5],[4],[],[],[],0⟩
 | 81,0 => ⟨[1,3,9,10,14,15,16],[1,6,7,8,10,14,15],[],[],[],0⟩
 | 82,0 => ⟨[0,1,2,6],[],[],[],[],0⟩
 | 82,2 => ⟨[0,1,2,6,7],[0,1,2,6],[],[],[],0⟩
 | 83,0 => ⟨[0,6,7,8,9],[0,6,7,8],[],[],[],0⟩
 | 83,2 => ⟨[0,6,7,10],[],[],[],[],0⟩
 | 84,0 => ⟨[0,1,6,7,8,9],[],[],[],[],0⟩
 | 86,0 => ⟨[0,6,7],[],[],[],[],0⟩
 | 87,0 => ⟨[0,1,2,7,8],[6],[],[],[],0⟩
 | 87,2 => ⟨[0,1,2,7,8],[0,1,2,7,8],[],[],[],0⟩
 | 87,4 => ⟨[0,1,2,7,8,9],[0,1,2,7,8],[],[],[],0⟩
 | 87,6 => ⟨[0,1,2,7,8,10],[0,1,2,7,8],[],[],[],0⟩
 | 89,0 => ⟨[0,1,9,10],[9],[],[],[],0⟩
 | 89,2 => ⟨[0,1,9,10],[0,1,9,10],[],[],[],0⟩
 | 89,4 => ⟨[0,1,9,10],[0,1,9,10],[],[],[],0⟩
 | 90,0 => ⟨[0,1,10,11],[0,1,10,11],[],[],[],0⟩
 | 90,2 => ⟨[0,1,10,11],[0,1,10,11],[],[],[],0⟩
 | 90,4 => ⟨[0,1,10,11],[0,1,11],[],[],[],0⟩
 | 90,6 => ⟨[0,1,10,11],[0,1,10,11],[],[],[],0⟩
 | 90,8 => ⟨[0,1,10,11],[0,1,10,11],[],[],[],0⟩
 | 95,0 => ⟨[0,3,4,5],[3],[3],[],[],0⟩
 | 96,0 => ⟨[0,1,4,6],[4,5],[6],[],[],0⟩
 | 96,2 => ⟨[0,1,4,6,7],[0,1,4,5,6,7],[7],[],[],0⟩
 | 97,1 => ⟨[0,4,8,10,11],[4,5,6],[],[],[],0⟩
 | 100,0 => ⟨[2,3,5],[2,3,4],[],[],[],0⟩
 | 100,2 => ⟨[2,3,6],[4],[],[],[],0⟩
 | 102,0 => ⟨[4,11,12,13],[8,9,10,11,12],[12],[],[],0⟩
 | 104,0 => ⟨[1,3,5,7,8],[3,7],[7],[],[],0⟩
 | 105,0 => ⟨[0,2,3,8],[],[],[],[],0⟩
 | 118,0 => ⟨[0,1,2,9],[0,1,9],[9],[],[],0⟩
 | 120,0 => ⟨[0,3],[2],[],[],[],0⟩
 | 122,0 => ⟨[0,2,4,6],[6,7],[],[],[],0⟩
 | 123,0 => ⟨[0,1,5],[4],[],[],[],0⟩
 | 125,0 => ⟨[0,1,5,6],[5],[],[],[],0⟩
 | 129,0 => ⟨[0,1,5,6],[5],[5],[],[],0⟩
 | 130,0 => ⟨[1,3,4],[3],[],[],[],0⟩
 | 131,0 => ⟨[1,3,4],[1,3],[],[],[],0⟩
 | 132,0 => ⟨[1,3,4],[1,2,3],[],[],[],0⟩
 | 132,3 => ⟨[1,3,5],[1,2,3],[],[],[],0⟩
 | 132,5 => ⟨[1,3,6],[1,2,3],[],[],[],0⟩
 | 133,0 => ⟨[0,3,4],[3],[3],[],[],0⟩
 | 134,0 => ⟨[0,2,4,6,8,9],[0,2,4,6,8],[8],[],[],0⟩
 | 135,1 => ⟨[6,7],[6],[],[],[],0⟩
 | 135,3 => ⟨[6,8],[6],[],[],[],0⟩
 | 135,5 => ⟨[1,9,10,11],[10],[],[],[],0⟩
 | 136,0 => ⟨[0,2,4,5],[2,3,4,5],[5],[],[],0⟩
 | 139,0 => ⟨[0,4,5],[4,5],[],[],[],0⟩
 | 141,0 => ⟨[0,3],[2],[],[],[],0⟩
 | 143,0 => ⟨[1,3,4],[3],[],[],[],0⟩
 | 144,1 => ⟨[0,1,2,3,12,13,14],[0,2,3,12],[],[],[],0⟩
 | 144,3 => ⟨[0,1,2,3,15,16],[8,9,10],[],[],[],0⟩
 | 147,0 => ⟨[0,3,4],[3],[3],[],[],0⟩
 | 149,0 => ⟨[0,3,4],[3],[],[],[3],0⟩
 | 149,2 => ⟨[0,3,4,5,6],[0,3,4,5,6],[],[],[],0⟩
 | 149,4 => ⟨[3,7,8],[7],[7],[],[],0⟩
 | 150,0 => ⟨[3,4],[3],[],[],[],0⟩
 | 156,0 => ⟨[0,1,2,11,12],[0,1,2,11],[],[],[],0⟩
 | 161,0 => ⟨[0,1,5],[4],[],[],[],0⟩
 | 162,0 => ⟨[3,4],[3],[],[],[],0⟩
 | _,_ => {}
def qum (f : FuncId) : Bool := [46,34,35,99,65,66,45].contains f
def zcm (f : FuncId) : Bool := [16,121,99,66,45].contains f
def zoa : FuncId → Nat → List Nat
 | 156,7 => [11]
 | _,_ => []
def z5a (t : TypeId) : Bool := [211].contains t
noncomputable def G : GP := qj7 Tryz.prog spec qum zcm zoa z5a
theorem qxe : G.owned 6 = false := rfl
theorem kp6 : G.keep 6 = false := rfl
theorem pr6 (i : Nat) : G.pre 6 i = [] := rfl
theorem z4u : G.owned 7 = false := rfl
theorem kp7 : G.keep 7 = false := rfl
theorem pr7 (i : Nat) : G.pre 7 i = [] := rfl
theorem z3c : G.owned 8 = false := rfl
theorem kp8 : G.keep 8 = false := rfl
theorem pr8 (i : Nat) : G.pre 8 i = [] := rfl
theorem z4v : G.owned 9 = false := rfl
theorem kp9 : G.keep 9 = false := rfl
theorem pr9 (i : Nat) : G.pre 9 i = [] := rfl
theorem zd1 : G.owned 10 = false := rfl
theorem zf0 : G.keep 10 = false := rfl
theorem z7m (i : Nat) : G.pre 10 i = [] := rfl
theorem z7q : G.owned 12 = false := rfl
theorem zki : G.keep 12 = false := rfl
theorem z2w (i : Nat) : G.pre 12 i = [] := rfl
theorem zep : G.owned 13 = false := rfl
theorem za0 : G.keep 13 = false := rfl
theorem zjd (i : Nat) : G.pre 13 i = [] := rfl
theorem zla : G.owned 16 = false := rfl
theorem ztu : G.keep 16 = true := rfl
theorem qti (i : Nat) : G.pre 16 i = [] := rfl
theorem zkf : G.owned 17 = false := rfl
theorem z5i : G.keep 17 = false := rfl
theorem zjv (i : Nat) : G.pre 17 i = [] := rfl
theorem zst : G.owned 18 = false := rfl
theorem zik : G.keep 18 = false := rfl
theorem ztl (i : Nat) : G.pre 18 i = [] := rfl
theorem quu : G.owned 19 = false := rfl
theorem qv8 : G.keep 19 = false := rfl
theorem qxg (i : Nat) : G.pre 19 i = [] := rfl
theorem zuf : G.owned 20 = false := rfl
theorem qsr : G.keep 20 = false := rfl
theorem z7o (i : Nat) : G.pre 20 i = [] := rfl
theorem z3v : G.owned 22 = false := rfl
theorem zj2 : G.keep 22 = false := rfl
theorem zd8 (i : Nat) : G.pre 22 i = [] := rfl
theorem zpu : G.owned 23 = false := rfl
theorem z4m : G.keep 23 = false := rfl
theorem z8i (i : Nat) : G.pre 23 i = [] := rfl
theorem zn7 : G.owned 24 = false := rfl
theorem qw9 : G.keep 24 = false := rfl
theorem zh4 (i : Nat) : G.pre 24 i = [] := rfl
theorem zci : G.owned 28 = false := rfl
theorem z6r : G.keep 28 = false := rfl
theorem qzj (i : Nat) : G.pre 28 i = [] := rfl
theorem z6e : G.owned 29 = false := rfl
theorem zc1 : G.keep 29 = false := rfl
theorem qvk (i : Nat) : G.pre 29 i = [] := rfl
theorem zaz : G.owned 30 = false := rfl
theorem zes : G.keep 30 = false := rfl
theorem qwv (i : Nat) : G.pre 30 i = [] := rfl
theorem zpl : G.owned 31 = false := rfl
theorem qz1 : G.keep 31 = false := rfl
theorem qzg (i : Nat) : G.pre 31 i = [] := rfl
theorem zir : G.owned 32 = false := rfl
theorem z7s : G.keep 32 = false := rfl
theorem zi0 (i : Nat) : G.pre 32 i = [] := rfl
theorem qty : G.owned 37 = false := rfl
theorem zqj : G.keep 37 = false := rfl
theorem zc9 (i : Nat) : G.pre 37 i = [] := rfl
theorem zkr : G.owned 38 = false := rfl
theorem z6s : G.keep 38 = false := rfl
theorem zse (i : Nat) : G.pre 38 i = [] := rfl
theorem zl1 : G.owned 39 = false := rfl
theorem zt3 : G.keep 39 = false := rfl
theorem qt2 (i : Nat) : G.pre 39 i = [] := rfl
theorem zgn : G.owned 40 = false := rfl
theorem zug : G.keep 40 = false := rfl
theorem zon (i : Nat) : G.pre 40 i = [] := rfl
theorem z1w : G.owned 41 = false := rfl
theorem zs8 : G.keep 41 = false := rfl
theorem za8 (i : Nat) : G.pre 41 i = [] := rfl
theorem qsa : G.owned 42 = false := rfl
theorem quc : G.keep 42 = false := rfl
theorem qwt (i : Nat) : G.pre 42 i = [] := rfl
theorem zbk : G.owned 43 = false := rfl
theorem ze4 : G.keep 43 = false := rfl
theorem qsk (i : Nat) : G.pre 43 i = [] := rfl
theorem qs5 : G.owned 44 = false := rfl
theorem z2p : G.keep 44 = false := rfl
theorem zcn (i : Nat) : G.pre 44 i = [] := rfl
theorem qta : G.owned 45 = true := rfl
theorem zl8 : G.keep 45 = true := rfl
theorem z2n (i : Nat) : G.pre 45 i = [] := rfl
theorem qwd : G.owned 48 = false := rfl
theorem zo1 : G.keep 48 = false := rfl
theorem z8u (i : Nat) : G.pre 48 i = [] := rfl
theorem zp3 : G.owned 52 = false := rfl
theorem qsq : G.keep 52 = false := rfl
theorem zt7 (i : Nat) : G.pre 52 i = [] := rfl
theorem zu3 : G.owned 53 = false := rfl
theorem z0p : G.keep 53 = false := rfl
theorem zut (i : Nat) : G.pre 53 i = [] := rfl
theorem zed : G.owned 54 = false := rfl
theorem qws : G.keep 54 = false := rfl
theorem zc4 (i : Nat) : G.pre 54 i = [] := rfl
theorem ztf : G.owned 55 = false := rfl
theorem z6i : G.keep 55 = false := rfl
theorem zbu (i : Nat) : G.pre 55 i = [] := rfl
theorem znf : G.owned 56 = false := rfl
theorem zqc : G.keep 56 = false := rfl
theorem qz9 (i : Nat) : G.pre 56 i = [] := rfl
theorem ze2 : G.owned 57 = false := rfl
theorem z92 : G.keep 57 = false := rfl
theorem z6g (i : Nat) : G.pre 57 i = [] := rfl
theorem zjq : G.owned 58 = false := rfl
theorem zk9 : G.keep 58 = false := rfl
theorem zln (i : Nat) : G.pre 58 i = [] := rfl
theorem qyq : G.owned 59 = false := rfl
theorem quw : G.keep 59 = false := rfl
theorem z04 (i : Nat) : G.pre 59 i = [] := rfl
theorem zje : G.owned 60 = false := rfl
theorem zhu : G.keep 60 = false := rfl
theorem zv5 (i : Nat) : G.pre 60 i = [] := rfl
theorem zjo : G.owned 61 = false := rfl
theorem zq9 : G.keep 61 = false := rfl
theorem zty (i : Nat) : G.pre 61 i = [] := rfl
theorem zs2 : G.owned 62 = false := rfl
theorem ziu : G.keep 62 = false := rfl
theorem qtc (i : Nat) : G.pre 62 i = [] := rfl
theorem zr7 : G.owned 63 = false := rfl
theorem zco : G.keep 63 = false := rfl
theorem qup (i : Nat) : G.pre 63 i = [] := rfl
theorem zdt : G.owned 64 = false := rfl
theorem z8g : G.keep 64 = false := rfl
theorem z5w (i : Nat) : G.pre 64 i = [] := rfl
theorem z4o : G.owned 65 = true := rfl
theorem zex : G.keep 65 = false := rfl
theorem z8z (i : Nat) : G.pre 65 i = [] := rfl
theorem qsu : G.owned 66 = true := rfl
theorem zf8 : G.keep 66 = true := rfl
theorem z1t (i : Nat) : G.pre 66 i = [] := rfl
theorem zr2 : G.owned 67 = false := rfl
theorem z1f : G.keep 67 = false := rfl
theorem zr3 (i : Nat) : G.pre 67 i = [] := rfl
theorem zav : G.owned 71 = false := rfl
theorem zp1 : G.keep 71 = false := rfl
theorem zhf (i : Nat) : G.pre 71 i = [] := rfl
theorem zm8 : G.owned 72 = false := rfl
theorem z3y : G.keep 72 = false := rfl
theorem z8e (i : Nat) : G.pre 72 i = [] := rfl
theorem zrr : G.owned 73 = false := rfl
theorem zbm : G.keep 73 = false := rfl
theorem qxv (i : Nat) : G.pre 73 i = [] := rfl
theorem zbr : G.owned 74 = false := rfl
theorem z5b : G.keep 74 = false := rfl
theorem zu7 (i : Nat) : G.pre 74 i = [] := rfl
theorem zqs : G.owned 75 = false := rfl
theorem qtx : G.keep 75 = false := rfl
theorem qsm (i : Nat) : G.pre 75 i = [] := rfl
theorem zm1 : G.owned 76 = false := rfl
theorem qvv : G.keep 76 = false := rfl
theorem zsf (i : Nat) : G.pre 76 i = [] := rfl
theorem z9d : G.owned 77 = false := rfl
theorem qua : G.keep 77 = false := rfl
theorem z4h (i : Nat) : G.pre 77 i = [] := rfl
theorem zft : G.owned 78 = false := rfl
theorem zhc : G.keep 78 = false := rfl
theorem qza (i : Nat) : G.pre 78 i = [] := rfl
theorem z6d : G.owned 79 = false := rfl
theorem zlh : G.keep 79 = false := rfl
theorem zc8 (i : Nat) : G.pre 79 i = [] := rfl
theorem zox : G.owned 80 = false := rfl
theorem qtf : G.keep 80 = false := rfl
theorem zpf (i : Nat) : G.pre 80 i = [] := rfl
theorem qsc : G.owned 81 = false := rfl
theorem zv9 : G.keep 81 = false := rfl
theorem qsf (i : Nat) : G.pre 81 i = [] := rfl
theorem zi2 : G.owned 93 = false := rfl
theorem qy0 : G.keep 93 = false := rfl
theorem zct (i : Nat) : G.pre 93 i = [] := rfl
theorem ziw : G.owned 94 = false := rfl
theorem zgj : G.keep 94 = false := rfl
theorem zt2 (i : Nat) : G.pre 94 i = [] := rfl
theorem zi3 : G.owned 95 = false := rfl
theorem qx0 : G.keep 95 = false := rfl
theorem zsm (i : Nat) : G.pre 95 i = [] := rfl
theorem zt8 : G.owned 96 = false := rfl
theorem zhm : G.keep 96 = false := rfl
theorem zdh (i : Nat) : G.pre 96 i = [] := rfl
theorem z1b : G.owned 97 = false := rfl
theorem znk : G.keep 97 = false := rfl
theorem z1e (i : Nat) : G.pre 97 i = [] := rfl
theorem zld : G.owned 98 = false := rfl
theorem znm : G.keep 98 = false := rfl
theorem z9a (i : Nat) : G.pre 98 i = [] := rfl
theorem zil : G.owned 99 = true := rfl
theorem zdp : G.keep 99 = true := rfl
theorem zol (i : Nat) : G.pre 99 i = [] := rfl
theorem z1o : G.owned 100 = false := rfl
theorem qrn : G.keep 100 = false := rfl
theorem zr8 (i : Nat) : G.pre 100 i = [] := rfl
theorem ztq : G.owned 101 = false := rfl
theorem zuh : G.keep 101 = false := rfl
theorem zmp (i : Nat) : G.pre 101 i = [] := rfl
theorem qts : G.owned 102 = false := rfl
theorem zeh : G.keep 102 = false := rfl
theorem zji (i : Nat) : G.pre 102 i = [] := rfl
theorem za9 : G.owned 103 = false := rfl
theorem zbv : G.keep 103 = false := rfl
theorem zlb (i : Nat) : G.pre 103 i = [] := rfl
theorem z7d : G.owned 104 = false := rfl
theorem zee : G.keep 104 = false := rfl
theorem zqm (i : Nat) : G.pre 104 i = [] := rfl
theorem zr4 : G.owned 111 = false := rfl
theorem qy7 : G.keep 111 = false := rfl
theorem zlo (i : Nat) : G.pre 111 i = [] := rfl
theorem zd6 : G.owned 112 = false := rfl
theorem zoh : G.keep 112 = false := rfl
theorem zer (i : Nat) : G.pre 112 i = [] := rfl
theorem z1z : G.owned 113 = false := rfl
theorem z8y : G.keep 113 = false := rfl
theorem qtd (i : Nat) : G.pre 113 i = [] := rfl
theorem zdx : G.owned 114 = false := rfl
theorem zhn : G.keep 114 = false := rfl
theorem zt0 (i : Nat) : G.pre 114 i = [] := rfl
theorem zva : G.owned 115 = false := rfl
theorem qy1 : G.keep 115 = false := rfl
theorem ztw (i : Nat) : G.pre 115 i = [] := rfl
theorem qsv : G.owned 116 = false := rfl
theorem zot : G.keep 116 = false := rfl
theorem zhs (i : Nat) : G.pre 116 i = [] := rfl
theorem zk6 : G.owned 117 = false := rfl
theorem zi8 : G.keep 117 = false := rfl
theorem zra (i : Nat) : G.pre 117 i = [] := rfl
theorem zpp : G.owned 118 = false := rfl
theorem zql : G.keep 118 = false := rfl
theorem zsq (i : Nat) : G.pre 118 i = [] := rfl
theorem z3m : G.owned 119 = false := rfl
theorem zhy : G.keep 119 = false := rfl
theorem zfl (i : Nat) : G.pre 119 i = [] := rfl
theorem zml : G.owned 120 = false := rfl
theorem zif : G.keep 120 = false := rfl
theorem qs2 (i : Nat) : G.pre 120 i = [] := rfl
theorem zpd : G.owned 121 = false := rfl
theorem z9s : G.keep 121 = true := rfl
theorem z4w (i : Nat) : G.pre 121 i = [] := rfl
theorem zrn : G.owned 122 = false := rfl
theorem z9r : G.keep 122 = false := rfl
theorem qry (i : Nat) : G.pre 122 i = [] := rfl
theorem quv : G.owned 123 = false := rfl
theorem qw1 : G.keep 123 = false := rfl
theorem zs5 (i : Nat) : G.pre 123 i = [] := rfl
theorem qzn : G.owned 124 = false := rfl
theorem z5p : G.keep 124 = false := rfl
theorem qsn (i : Nat) : G.pre 124 i = [] := rfl
theorem za6 : G.owned 125 = false := rfl
theorem z6w : G.keep 125 = false := rfl
theorem zq2 (i : Nat) : G.pre 125 i = [] := rfl
theorem qzm : G.owned 127 = false := rfl
theorem qwq : G.keep 127 = false := rfl
theorem z06 (i : Nat) : G.pre 127 i = [] := rfl
theorem zps : G.owned 128 = false := rfl
theorem z3i : G.keep 128 = false := rfl
theorem qux (i : Nat) : G.pre 128 i = [] := rfl
theorem zeg : G.owned 129 = false := rfl
theorem zc0 : G.keep 129 = false := rfl
theorem zj9 (i : Nat) : G.pre 129 i = [] := rfl
theorem z6v : G.owned 130 = false := rfl
theorem z4b : G.keep 130 = false := rfl
theorem qro (i : Nat) : G.pre 130 i = [] := rfl
theorem zjs : G.owned 131 = false := rfl
theorem z6n : G.keep 131 = false := rfl
theorem zhq (i : Nat) : G.pre 131 i = [] := rfl
theorem zec : G.owned 132 = false := rfl
theorem qyp : G.keep 132 = false := rfl
theorem zkl (i : Nat) : G.pre 132 i = [] := rfl
theorem zru : G.owned 133 = false := rfl
theorem zau : G.keep 133 = false := rfl
theorem zsd (i : Nat) : G.pre 133 i = [] := rfl
theorem qtt : G.owned 134 = false := rfl
theorem z3z : G.keep 134 = false := rfl
theorem zab (i : Nat) : G.pre 134 i = [] := rfl
theorem z14 : G.owned 135 = false := rfl
theorem qzt : G.keep 135 = false := rfl
theorem zo2 (i : Nat) : G.pre 135 i = [] := rfl
theorem zmz : G.owned 136 = false := rfl
theorem zrb : G.keep 136 = false := rfl
theorem zl9 (i : Nat) : G.pre 136 i = [] := rfl
theorem zja : G.owned 137 = false := rfl
theorem zqh : G.keep 137 = false := rfl
theorem zsp (i : Nat) : G.pre 137 i = [] := rfl
theorem zdo : G.owned 138 = false := rfl
theorem z9e : G.keep 138 = false := rfl
theorem zqr (i : Nat) : G.pre 138 i = [] := rfl
theorem z5h : G.owned 139 = false := rfl
theorem z95 : G.keep 139 = false := rfl
theorem znc (i : Nat) : G.pre 139 i = [] := rfl
theorem qtk : G.owned 140 = false := rfl
theorem zku : G.keep 140 = false := rfl
theorem zb3 (i : Nat) : G.pre 140 i = [] := rfl
theorem qye : G.owned 141 = false := rfl
theorem z8c : G.keep 141 = false := rfl
theorem qur (i : Nat) : G.pre 141 i = [] := rfl
theorem zg9 : G.owned 142 = false := rfl
theorem zm5 : G.keep 142 = false := rfl
theorem z7g (i : Nat) : G.pre 142 i = [] := rfl
theorem z2e : G.owned 143 = false := rfl
theorem z3r : G.keep 143 = false := rfl
theorem zt6 (i : Nat) : G.pre 143 i = [] := rfl
theorem z4e : G.owned 144 = false := rfl
theorem zj5 : G.keep 144 = false := rfl
theorem zte (i : Nat) : G.pre 144 i = [] := rfl
theorem zo5 : G.owned 145 = false := rfl
theorem qzu : G.keep 145 = false := rfl
theorem qxw (i : Nat) : G.pre 145 i = [] := rfl
theorem znh : G.owned 146 = false := rfl
theorem zv0 : G.keep 146 = false := rfl
theorem zg7 (i : Nat) : G.pre 146 i = [] := rfl
theorem zf3 : G.owned 147 = false := rfl
theorem zfs : G.keep 147 = false := rfl
theorem zpo (i : Nat) : G.pre 147 i = [] := rfl
theorem zha : G.owned 148 = false := rfl
theorem zdu : G.keep 148 = false := rfl
theorem z88 (i : Nat) : G.pre 148 i = [] := rfl
theorem qrm : G.owned 149 = false := rfl
theorem zjt : G.keep 149 = false := rfl
theorem qva (i : Nat) : G.pre 149 i = [] := rfl
theorem zrf : G.owned 150 = false := rfl
theorem zfe : G.keep 150 = false := rfl
theorem zsi (i : Nat) : G.pre 150 i = [] := rfl
theorem zel : G.owned 151 = false := rfl
theorem z6y : G.keep 151 = false := rfl
theorem zoy (i : Nat) : G.pre 151 i = [] := rfl
theorem zky : G.owned 152 = false := rfl
theorem zsw : G.keep 152 = false := rfl
theorem z7c (i : Nat) : G.pre 152 i = [] := rfl
theorem zrw : G.owned 153 = false := rfl
theorem z1x : G.keep 153 = false := rfl
theorem qtb (i : Nat) : G.pre 153 i = [] := rfl
theorem znd : G.owned 154 = false := rfl
theorem zos : G.keep 154 = false := rfl
theorem qwc (i : Nat) : G.pre 154 i = [] := rfl
theorem zmu : G.owned 155 = false := rfl
theorem ze1 : G.keep 155 = false := rfl
theorem zm3 (i : Nat) : G.pre 155 i = [] := rfl
theorem z6p : G.owned 156 = false := rfl
theorem z1m : G.keep 156 = false := rfl
theorem zlp : G.pre 156 0 = [] := rfl
theorem qyl : G.pre 156 1 = [] := rfl
theorem zpt : G.pre 156 2 = [] := rfl
theorem zl7 : G.pre 156 3 = [] := rfl
theorem zqf : G.pre 156 4 = [] := rfl
theorem z0q : G.pre 156 5 = [] := rfl
theorem qy9 : G.pre 156 6 = [] := rfl
theorem qx4 : G.pre 156 7 = [11] := rfl
theorem zh7 : G.pre 156 8 = [] := rfl
theorem qyz : G.pre 156 9 = [] := rfl
theorem qwx : G.pre 156 10 = [] := rfl
theorem zf6 : G.pre 156 11 = [] := rfl
theorem za3 : G.pre 156 12 = [] := rfl
theorem zsn : G.pre 156 13 = [] := rfl
theorem za7 : G.pre 156 14 = [] := rfl
theorem zic : G.pre 156 15 = [] := rfl
theorem z3l : G.pre 156 16 = [] := rfl
theorem z4k : G.pre 156 17 = [] := rfl
theorem qz6 : G.pre 156 18 = [] := rfl
theorem zrp : G.pre 156 19 = [] := rfl
theorem zka : G.pre 156 20 = [] := rfl
theorem z1k : G.pre 156 21 = [] := rfl
theorem z6q : G.pre 156 22 = [] := rfl
theorem qrp : G.pre 156 23 = [] := rfl
theorem qss : G.pre 156 24 = [] := rfl
theorem zg2 : G.pre 156 25 = [] := rfl
theorem zlf : G.pre 156 26 = [] := rfl
theorem qv2 : G.pre 156 27 = [] := rfl
theorem z1s : G.pre 156 28 = [] := rfl
theorem zi6 : G.pre 156 29 = [] := rfl
theorem zff : G.pre 156 30 = [] := rfl
theorem zmw : G.pre 156 31 = [] := rfl
theorem zvd : G.pre 156 32 = [] := rfl
theorem z2f : G.pre 156 33 = [] := rfl
theorem zri : G.pre 156 34 = [] := rfl
theorem zbo : G.pre 156 35 = [] := rfl
theorem zp2 : G.pre 156 36 = [] := rfl
theorem z9i : G.pre 156 37 = [] := rfl
theorem zbi : G.pre 156 38 = [] := rfl
theorem z0m : G.pre 156 39 = [] := rfl
theorem z0z : G.pre 156 40 = [] := rfl
theorem z8v : G.pre 156 41 = [] := rfl
theorem zof : G.pre 156 42 = [] := rfl
theorem zad : G.pre 156 43 = [] := rfl
theorem zuo : G.pre 156 44 = [] := rfl
theorem z1u : G.pre 156 45 = [] := rfl
theorem qyu : G.pre 156 46 = [] := rfl
theorem qz7 : G.pre 156 47 = [] := rfl
theorem zhj : G.pre 156 48 = [] := rfl
theorem qt9 : G.pre 156 49 = [] := rfl
theorem zo7 : G.pre 156 50 = [] := rfl
theorem zgz : G.pre 156 51 = [] := rfl
theorem ze7 : G.pre 156 52 = [] := rfl
theorem z03 : G.pre 156 53 = [] := rfl
theorem zmy : G.pre 156 54 = [] := rfl
theorem zi1 : G.pre 156 55 = [] := rfl
theorem zax : G.pre 156 56 = [] := rfl
theorem znb : G.pre 156 57 = [] := rfl
theorem z7h : G.pre 156 58 = [] := rfl
theorem zk0 : G.pre 156 59 = [] := rfl
theorem ztr : G.pre 156 60 = [] := rfl
theorem zbh : G.pre 156 61 = [] := rfl
theorem qse : G.pre 156 62 = [] := rfl
theorem qv5 : G.pre 156 63 = [] := rfl
theorem zm2 : G.pre 156 64 = [] := rfl
theorem zjz : G.pre 156 65 = [] := rfl
theorem zog : G.pre 156 66 = [] := rfl
theorem qyh : G.owned 157 = false := rfl
theorem zfy : G.keep 157 = false := rfl
theorem zdc (i : Nat) : G.pre 157 i = [] := rfl
theorem zn0 : G.owned 158 = false := rfl
theorem qzv : G.keep 158 = false := rfl
theorem qvp (i : Nat) : G.pre 158 i = [] := rfl
theorem zrk : G.owned 159 = false := rfl
theorem z5t : G.keep 159 = false := rfl
theorem qs0 (i : Nat) : G.pre 159 i = [] := rfl
theorem zsx : G.owned 160 = false := rfl
theorem qvb : G.keep 160 = false := rfl
theorem zre (i : Nat) : G.pre 160 i = [] := rfl
theorem zsj : G.owned 161 = false := rfl
theorem zn2 : G.keep 161 = false := rfl
theorem qs6 (i : Nat) : G.pre 161 i = [] := rfl
theorem zlc : G.owned 162 = false := rfl
theorem zrd : G.keep 162 = false := rfl
theorem zgr (i : Nat) : G.pre 162 i = [] := rfl
theorem zqt : G.spec 6 0 = ⟨[2,7,8,10,12,13],[6],[],[],[],0⟩ := rfl
theorem qut : G.spec 6 2 = ⟨[2,7,8,10,12,13,14,15,16],[2,6,7,8,10,12,13],[],[],[],0⟩ := rfl
theorem zpi : G.spec 7 0 = ⟨[1,4,9,11,12],[4,11],[],[(11,2)],[],0⟩ := rfl
theorem z5v : G.spec 9 0 = ⟨[2,5,18,19,20],[4],[],[],[18],0⟩ := rfl
theorem z0l : G.spec 12 0 = ⟨[1,3,12,13,14],[1,3],[],[],[1],0⟩ := rfl
theorem zjn : G.spec 12 2 = ⟨[1,3,6],[6],[6],[],[],0⟩ := rfl
theorem qub : G.spec 13 0 = ⟨[0,1,5],[4],[],[],[],0⟩ := rfl
theorem zk5 : G.spec 16 0 = ⟨[3,11,12,13],[3],[],[],[],0⟩ := rfl
theorem qz2 : G.spec 16 2 = ⟨[3,11,12,13,18,19,20],[3,11,12,13],[],[],[],0⟩ := rfl
theorem zgw : G.spec 17 0 = ⟨[0,5,10,11,12],[5],[5],[],[],0⟩ := rfl
theorem zcu : G.spec 17 2 = ⟨[0,5,10,11,12,17,18,19],[0,5,10,11,12],[5],[],[],0⟩ := rfl
theorem que : G.spec 18 0 = ⟨[1,2,3,7,8,9,10],[7,8,9],[],[],[],0⟩ := rfl
theorem z6h : G.spec 19 0 = ⟨[0,4,5],[4],[],[],[],0⟩ := rfl
theorem qwj : G.spec 20 0 = ⟨[11,12,13],[11,12],[],[],[],0⟩ := rfl
theorem qyi : G.spec 20 2 = ⟨[15,17,19,20],[15,17,19],[],[],[],0⟩ := rfl
theorem zp5 : G.spec 23 0 = ⟨[1,2,5],[1,2,4],[],[],[],0⟩ := rfl
theorem zfu : G.spec 30 0 = ⟨[1,2,5,12,13,14],[5],[],[],[],0⟩ := rfl
theorem qxj : G.spec 30 2 = ⟨[1,2,5,7,8,12,13,14],[1,2,5,12,13,14],[],[],[],0⟩ := rfl
theorem zvg : G.spec 31 0 = ⟨[0,1,7,8],[4],[],[],[],0⟩ := rfl
theorem zoo : G.spec 38 0 = ⟨[0,1,2,8,9],[0,1,2,8,9],[8,9],[],[],2⟩ := rfl
theorem z2d : G.spec 39 0 = ⟨[0,3,4],[3],[],[],[],0⟩ := rfl
theorem zfk : G.spec 41 0 = ⟨[0,1,2,6],[],[],[(0,3),(0,4),(0,5)],[],0⟩ := rfl
theorem z07 : G.spec 42 0 = ⟨[0,2,3],[0,2],[],[],[],0⟩ := rfl
theorem zu6 : G.spec 42 2 = ⟨[0,2,4],[0],[],[],[],0⟩ := rfl
theorem zgg : G.spec 42 4 = ⟨[0,5,6],[],[5],[],[],0⟩ := rfl
theorem qyy : G.spec 43 0 = ⟨[0,3],[2],[],[],[],0⟩ := rfl
theorem z6b : G.spec 43 2 = ⟨[0,3,4,5],[0,3,4],[],[],[],0⟩ := rfl
theorem zmr : G.spec 44 0 = ⟨[0,1,3,10,11],[8,9,10],[],[(1,0),(1,1)],[],0⟩ := rfl
theorem zgu : G.spec 45 0 = ⟨[0,1,2,3,5,6,16],[2,6],[2],[],[],0⟩ := rfl
theorem zj0 : G.spec 53 0 = ⟨[0,4,7,8],[0,4,7,8],[7],[],[],0⟩ := rfl
theorem qvi : G.spec 53 2 = ⟨[0,4,12,14],[0,4,5,6,12,14],[],[],[],0⟩ := rfl
theorem zp7 : G.spec 54 0 = ⟨[0,1,6,7],[0,1,6,7],[6,7],[],[],2⟩ := rfl
theorem qsw : G.spec 56 0 = ⟨[0,3,4],[3],[3],[],[],0⟩ := rfl
theorem zgl : G.spec 57 0 = ⟨[0,3],[2],[],[],[],0⟩ := rfl
theorem qtr : G.spec 59 0 = ⟨[0,1,2,7,8,9],[7],[7],[],[],0⟩ := rfl
theorem z3g : G.spec 60 0 = ⟨[0,1,6],[4,5],[],[],[],0⟩ := rfl
theorem z0b : G.spec 61 0 = ⟨[0,3,4],[2],[],[],[],0⟩ := rfl
theorem zjf : G.spec 62 0 = ⟨[0,3,5,8,9,10],[0,3,5,8,9],[],[(9,17)],[],0⟩ := rfl
theorem zht : G.spec 63 0 = ⟨[0,1,5],[0,1,4],[],[],[],0⟩ := rfl
theorem z13 : G.spec 64 0 = ⟨[0,1,5],[4],[],[],[],0⟩ := rfl
theorem zd3 : G.spec 65 0 = ⟨[0,1,5],[4],[],[],[],0⟩ := rfl
theorem zan : G.spec 66 0 = ⟨[0,1,2,7],[2],[2],[],[],0⟩ := rfl
theorem zb6 : G.spec 71 0 = ⟨[0,1,7,8],[0,1,7,8],[],[],[],0⟩ := rfl
theorem quy : G.spec 72 0 = ⟨[0,1,7],[0,1,7],[],[],[],0⟩ := rfl
theorem qsd : G.spec 74 0 = ⟨[0,1,7],[0,1,7],[7],[],[],0⟩ := rfl
theorem zlv : G.spec 75 0 = ⟨[2,3,5],[4],[],[],[],0⟩ := rfl
theorem qtg : G.spec 77 0 = ⟨[0,3],[2],[],[],[],0⟩ := rfl
theorem z7w : G.spec 79 0 = ⟨[0,1,5],[4],[],[],[],0⟩ := rfl
theorem qsp : G.spec 81 0 = ⟨[1,3,9,10,14,15,16],[1,6,7,8,10,14,15],[],[],[],0⟩ := rfl
theorem zc7 : G.spec 95 0 = ⟨[0,3,4,5],[3],[3],[],[],0⟩ := rfl
theorem zde : G.spec 96 0 = ⟨[0,1,4,6],[4,5],[6],[],[],0⟩ := rfl
theorem zp0 : G.spec 96 2 = ⟨[0,1,4,6,7],[0,1,4,5,6,7],[7],[],[],0⟩ := rfl
theorem zdr : G.spec 97 1 = ⟨[0,4,8,10,11],[4,5,6],[],[],[],0⟩ := rfl
theorem zdv : G.spec 100 0 = ⟨[2,3,5],[2,3,4],[],[],[],0⟩ := rfl
theorem z1a : G.spec 100 2 = ⟨[2,3,6],[4],[],[],[],0⟩ := rfl
theorem zkz : G.spec 102 0 = ⟨[4,11,12,13],[8,9,10,11,12],[12],[],[],0⟩ := rfl
theorem qyb : G.spec 104 0 = ⟨[1,3,5,7,8],[3,7],[7],[],[],0⟩ := rfl
theorem zbl : G.spec 118 0 = ⟨[0,1,2,9],[0,1,9],[9],[],[],0⟩ := rfl
theorem zfa : G.spec 120 0 = ⟨[0,3],[2],[],[],[],0⟩ := rfl
theorem zmg : G.spec 122 0 = ⟨[0,2,4,6],[6,7],[],[],[],0⟩ := rfl
theorem za5 : G.spec 123 0 = ⟨[0,1,5],[4],[],[],[],0⟩ := rfl
theorem z0t : G.spec 125 0 = ⟨[0,1,5,6],[5],[],[],[],0⟩ := rfl
theorem zr5 : G.spec 129 0 = ⟨[0,1,5,6],[5],[5],[],[],0⟩ := rfl
theorem z5g : G.spec 130 0 = ⟨[1,3,4],[3],[],[],[],0⟩ := rfl
theorem zm6 : G.spec 131 0 = ⟨[1,3,4],[1,3],[],[],[],0⟩ := rfl
theorem zbs : G.spec 132 0 = ⟨[1,3,4],[1,2,3],[],[],[],0⟩ := rfl
theorem zme : G.spec 132 3 = ⟨[1,3,5],[1,2,3],[],[],[],0⟩ := rfl
theorem zux : G.spec 132 5 = ⟨[1,3,6],[1,2,3],[],[],[],0⟩ := rfl
theorem zqo : G.spec 133 0 = ⟨[0,3,4],[3],[3],[],[],0⟩ := rfl
theorem qsz : G.spec 134 0 = ⟨[0,2,4,6,8,9],[0,2,4,6,8],[8],[],[],0⟩ := rfl
theorem qyc : G.spec 135 1 = ⟨[6,7],[6],[],[],[],0⟩ := rfl
theorem zj6 : G.spec 135 3 = ⟨[6,8],[6],[],[],[],0⟩ := rfl
theorem z1d : G.spec 135 5 = ⟨[1,9,10,11],[10],[],[],[],0⟩ := rfl
theorem qz0 : G.spec 136 0 = ⟨[0,2,4,5],[2,3,4,5],[5],[],[],0⟩ := rfl
theorem zss : G.spec 139 0 = ⟨[0,4,5],[4,5],[],[],[],0⟩ := rfl
theorem qs7 : G.spec 141 0 = ⟨[0,3],[2],[],[],[],0⟩ := rfl
theorem zkd : G.spec 143 0 = ⟨[1,3,4],[3],[],[],[],0⟩ := rfl
theorem zbt : G.spec 144 1 = ⟨[0,1,2,3,12,13,14],[0,2,3,12],[],[],[],0⟩ := rfl
theorem qxc : G.spec 144 3 = ⟨[0,1,2,3,15,16],[8,9,10],[],[],[],0⟩ := rfl
theorem z0f : G.spec 147 0 = ⟨[0,3,4],[3],[3],[],[],0⟩ := rfl
theorem zd9 : G.spec 149 0 = ⟨[0,3,4],[3],[],[],[3],0⟩ := rfl
theorem za2 : G.spec 149 2 = ⟨[0,3,4,5,6],[0,3,4,5,6],[],[],[],0⟩ := rfl
theorem zaq : G.spec 149 4 = ⟨[3,7,8],[7],[7],[],[],0⟩ := rfl
theorem ze8 : G.spec 150 0 = ⟨[3,4],[3],[],[],[],0⟩ := rfl
theorem ze0 : G.spec 156 0 = ⟨[0,1,2,11,12],[0,1,2,11],[],[],[],0⟩ := rfl
theorem ztk : G.spec 161 0 = ⟨[0,1,5],[4],[],[],[],0⟩ := rfl
theorem zrh : G.spec 162 0 = ⟨[3,4],[3],[],[],[],0⟩ := rfl
theorem fz1 : G.frz 1 = false := rfl
theorem fz2 : G.frz 2 = false := rfl
theorem fz3 : G.frz 3 = false := rfl
theorem fz4 : G.frz 4 = false := rfl
theorem fz5 : G.frz 5 = false := rfl
theorem fz6 : G.frz 6 = false := rfl
theorem fz7 : G.frz 7 = false := rfl
theorem fz8 : G.frz 8 = false := rfl
theorem fz9 : G.frz 9 = false := rfl
theorem zai : G.frz 10 = false := rfl
theorem qwn : G.frz 11 = false := rfl
theorem z3e : G.frz 12 = false := rfl
theorem zkm : G.frz 13 = false := rfl
theorem qw6 : G.frz 14 = false := rfl
theorem qwg : G.frz 15 = false := rfl
theorem qu6 : G.frz 16 = false := rfl
theorem zni : G.frz 17 = false := rfl
theorem qvd : G.frz 18 = false := rfl
theorem zkg : G.frz 19 = false := rfl
theorem zac : G.frz 20 = false := rfl
theorem zok : G.frz 21 = false := rfl
theorem zcb : G.frz 22 = false := rfl
theorem zmc : G.frz 23 = false := rfl
theorem zdf : G.frz 24 = false := rfl
theorem ztp : G.frz 25 = false := rfl
theorem z6x : G.frz 26 = false := rfl
theorem qy8 : G.frz 28 = false := rfl
theorem zv4 : G.frz 29 = false := rfl
theorem qu0 : G.frz 30 = false := rfl
theorem zro : G.frz 31 = false := rfl
theorem zfp : G.frz 32 = false := rfl
theorem zh9 : G.frz 33 = false := rfl
theorem zcj : G.frz 34 = false := rfl
theorem zm7 : G.frz 35 = false := rfl
theorem z5c : G.frz 36 = false := rfl
theorem zgo : G.frz 37 = false := rfl
theorem zq1 : G.frz 38 = false := rfl
theorem z9o : G.frz 39 = false := rfl
theorem qyt : G.frz 40 = false := rfl
theorem z1p : G.frz 41 = false := rfl
theorem qx3 : G.frz 42 = false := rfl
theorem zl5 : G.frz 43 = false := rfl
theorem zaf : G.frz 44 = false := rfl
theorem zgk : G.frz 45 = false := rfl
theorem qzp : G.frz 46 = false := rfl
theorem zl2 : G.frz 47 = false := rfl
theorem z6k : G.frz 48 = false := rfl
theorem zfd : G.frz 49 = false := rfl
theorem qy6 : G.frz 50 = false := rfl
theorem zg0 : G.frz 51 = false := rfl
theorem zb7 : G.frz 52 = false := rfl
theorem z3k : G.frz 53 = false := rfl
theorem z2v : G.frz 54 = false := rfl
theorem z81 : G.frz 55 = false := rfl
theorem zjj : G.frz 56 = false := rfl
theorem zj8 : G.frz 58 = false := rfl
theorem zjr : G.frz 60 = false := rfl
theorem z0h : G.frz 62 = false := rfl
theorem zlg : G.frz 63 = false := rfl
theorem qzq : G.frz 64 = false := rfl
theorem qrv : G.frz 65 = false := rfl
theorem qwz : G.frz 66 = false := rfl
theorem zeb : G.frz 67 = false := rfl
theorem zdb : G.frz 68 = false := rfl
theorem znu : G.frz 69 = false := rfl
theorem qyj : G.frz 70 = false := rfl
theorem qx8 : G.frz 71 = false := rfl
theorem z5e : G.frz 72 = false := rfl
theorem zb8 : G.frz 73 = false := rfl
theorem zk4 : G.frz 74 = false := rfl
theorem zsu : G.frz 75 = false := rfl
theorem z1h : G.frz 76 = false := rfl
theorem z9n : G.frz 77 = false := rfl
theorem ze6 : G.frz 78 = false := rfl
theorem z4f : G.frz 79 = false := rfl
theorem zqx : G.frz 80 = false := rfl
theorem z2t : G.frz 81 = false := rfl
theorem zsg : G.frz 82 = false := rfl
theorem z6z : G.frz 83 = false := rfl
theorem qx6 : G.frz 85 = false := rfl
theorem zei : G.frz 87 = false := rfl
theorem z4s : G.frz 88 = false := rfl
theorem z8q : G.frz 89 = false := rfl
theorem z0r : G.frz 90 = false := rfl
theorem zl6 : G.frz 91 = false := rfl
theorem zju : G.frz 92 = false := rfl
theorem zqn : G.frz 93 = false := rfl
theorem qun : G.frz 94 = false := rfl
theorem qzs : G.frz 95 = false := rfl
theorem zno : G.frz 96 = false := rfl
theorem zq7 : G.frz 97 = false := rfl
theorem z8d : G.frz 98 = false := rfl
theorem zns : G.frz 99 = false := rfl
theorem zkh : G.frz 100 = false := rfl
theorem zcv : G.frz 102 = false := rfl
theorem qw7 : G.frz 104 = false := rfl
theorem zrm : G.frz 105 = false := rfl
theorem z2l : G.frz 106 = false := rfl
theorem qt1 : G.frz 107 = false := rfl
theorem qww : G.frz 109 = false := rfl
theorem zg5 : G.frz 111 = false := rfl
theorem qys : G.frz 112 = false := rfl
theorem zv1 : G.frz 113 = false := rfl
theorem zdy : G.frz 114 = false := rfl
theorem zb1 : G.frz 115 = false := rfl
theorem qsx : G.frz 116 = false := rfl
theorem z4p : G.frz 118 = false := rfl
theorem qtz : G.frz 119 = false := rfl
theorem z0o : G.frz 120 = false := rfl
theorem qxs : G.frz 121 = false := rfl
theorem z7i : G.frz 122 = false := rfl
theorem zv8 : G.frz 123 = false := rfl
theorem zbn : G.frz 124 = false := rfl
theorem zm9 : G.frz 125 = false := rfl
theorem zce : G.frz 126 = false := rfl
theorem z5d : G.frz 128 = false := rfl
theorem zgt : G.frz 130 = false := rfl
theorem qzz : G.frz 132 = false := rfl
theorem zmn : G.frz 134 = false := rfl
theorem qvc : G.frz 135 = false := rfl
theorem zhd : G.frz 136 = false := rfl
theorem qw2 : G.frz 137 = false := rfl
theorem qt7 : G.frz 138 = false := rfl
theorem zpe : G.frz 139 = false := rfl
theorem zuv : G.frz 141 = false := rfl
theorem zl0 : G.frz 142 = false := rfl
theorem zlz : G.frz 143 = false := rfl
theorem zng : G.frz 145 = false := rfl
theorem zbj : G.frz 146 = false := rfl
theorem qt3 : G.frz 147 = false := rfl
theorem z7v : G.frz 148 = false := rfl
theorem zoc : G.frz 149 = false := rfl
theorem zbb : G.frz 150 = false := rfl
theorem znl : G.frz 151 = false := rfl
theorem z9x : G.frz 152 = false := rfl
theorem zus : G.frz 153 = false := rfl
theorem ztj : G.frz 154 = false := rfl
theorem z9p : G.frz 155 = false := rfl
theorem ziy : G.frz 156 = false := rfl
theorem z4c : G.frz 157 = false := rfl
theorem zmm : G.frz 158 = false := rfl
theorem qvm : G.frz 159 = false := rfl
theorem zaa : G.frz 160 = false := rfl
theorem qwu : G.frz 162 = false := rfl
theorem qwy : G.frz 163 = false := rfl
theorem ztg : G.frz 164 = false := rfl
theorem zhz : G.frz 165 = false := rfl
theorem qxk : G.frz 166 = false := rfl
theorem qyr : G.frz 168 = false := rfl
theorem zda : G.frz 169 = false := rfl
theorem zlm : G.frz 170 = false := rfl
theorem zmi : G.frz 172 = false := rfl
theorem qvq : G.frz 173 = false := rfl
theorem qu5 : G.frz 174 = false := rfl
theorem zr1 : G.frz 175 = false := rfl
theorem qxd : G.frz 176 = false := rfl
theorem qw0 : G.frz 177 = false := rfl
theorem zf2 : G.frz 178 = false := rfl
theorem zom : G.frz 179 = false := rfl
theorem zt1 : G.frz 180 = false := rfl
theorem qxt : G.frz 181 = false := rfl
theorem zd7 : G.frz 182 = false := rfl
theorem qsh : G.frz 183 = false := rfl
theorem zh2 : G.frz 184 = false := rfl
theorem zi9 : G.frz 185 = false := rfl
theorem zf9 : G.frz 186 = false := rfl
theorem qs1 : G.frz 187 = false := rfl
theorem z8n : G.frz 188 = false := rfl
theorem z8r : G.frz 189 = false := rfl
theorem zcf : G.frz 190 = false := rfl
theorem zsc : G.frz 191 = false := rfl
theorem zba : G.frz 193 = false := rfl
theorem z9k : G.frz 194 = false := rfl
theorem z0j : G.frz 195 = false := rfl
theorem zr6 : G.frz 196 = false := rfl
theorem zbq : G.frz 198 = false := rfl
theorem zkv : G.frz 199 = false := rfl
theorem zbf : G.frz 200 = false := rfl
theorem zkk : G.frz 201 = false := rfl
theorem qxy : G.frz 202 = false := rfl
theorem z9f : G.frz 203 = false := rfl
theorem z2y : G.frz 204 = false := rfl
theorem z2j : G.frz 205 = false := rfl
theorem zor : G.frz 206 = false := rfl
theorem qyk : G.frz 208 = false := rfl
theorem z9m : G.frz 209 = false := rfl
theorem ztd : G.frz 210 = false := rfl
theorem ztm : G.frz 211 = true := rfl
theorem zpg : G.frz 212 = false := rfl
theorem zpc : G.frz 214 = false := rfl
theorem zh1 : G.frz 215 = false := rfl
theorem zo8 : G.frz 216 = false := rfl
theorem z6t : G.frz 218 = false := rfl
theorem zlx : G.frz 219 = false := rfl
theorem qw8 : G.frz 220 = false := rfl
theorem zfz : G.frz 221 = false := rfl
theorem zh6 : G.frz 222 = false := rfl
theorem zmq : G.frz 223 = false := rfl
theorem zdn : G.frz 224 = false := rfl
theorem z6o : G.frz 225 = false := rfl
theorem z7r : G.frz 226 = false := rfl
theorem zue : G.frz 227 = false := rfl
theorem zu4 : G.frz 228 = false := rfl
theorem zib : G.frz 229 = false := rfl
theorem zl4 : G.frz 230 = false := rfl
theorem zuu : G.frz 231 = false := rfl
theorem zph : G.frz 232 = false := rfl
theorem zb0 : G.frz 233 = false := rfl
theorem zqk : G.frz 234 = false := rfl
theorem zk3 : G.frz 235 = false := rfl
theorem ztv : G.frz 236 = false := rfl
theorem ti3 : G.ti 3 = some ⟨1,8,.int .i64,[.int .i64 0],false⟩ := by kernel_rfl
theorem ti4 : G.ti 4 = some ⟨1,1,.bool,[.bool false],false⟩ := by kernel_rfl
theorem ti5 : G.ti 5 = some ⟨1,1,.int .u8,[.int .u8 0],false⟩ := by kernel_rfl
theorem ti9 : G.ti 9 = some ⟨1,16,.string,[.str []],false⟩ := by kernel_rfl
theorem zs6 : G.ti 23 = some ⟨2,16,.struct [(0,1,3),(1,1,3)],[.int .i64 0,.int .i64 0],true⟩ := by kernel_rfl
theorem zdg : G.ti 24 = some ⟨1,24,.slice 41,[.sl true 0 []],false⟩ := by kernel_rfl
theorem zfb : G.ti 26 = some ⟨3,40,.struct [(0,2,23),(2,1,24)],[.int .i64 0,.int .i64 0,.sl true 0 []],false⟩ := by kernel_rfl
theorem qto : G.ti 32 = some ⟨1,24,.slice 185,[.sl true 0 []],false⟩ := by kernel_rfl
theorem zqe : G.ti 33 = some ⟨1,24,.slice 35,[.sl true 0 []],false⟩ := by kernel_rfl
theorem zdz : G.ti 35 = some ⟨8,104,.struct [(0,1,3),(1,1,9),(2,1,4),(3,1,32),(4,1,3),(5,1,3),(6,1,4),(7,1,33)],[.int .i64 0,.str [],.bool false,.sl true 0 [],.int .i64 0,.int .i64 0,.bool false,.sl true 0 []],true⟩ := by kernel_rfl
theorem qzw : G.ti 36 = some ⟨1,24,.slice 160,[.sl true 0 []],false⟩ := by kernel_rfl
theorem z5q : G.ti 38 = some ⟨11,136,.struct [(0,8,35),(8,1,36),(9,1,4),(10,1,4)],[.int .i64 0,.str [],.bool false,.sl true 0 [],.int .i64 0,.int .i64 0,.bool false,.sl true 0 [],.sl true 0 [],.bool false,.bool false],false⟩ := by kernel_rfl
theorem z0y : G.ti 39 = some ⟨1,24,.slice 9,[.sl true 0 []],false⟩ := by kernel_rfl
theorem qzx : G.ti 41 = some ⟨18,200,.struct [(0,2,23),(2,1,3),(3,1,3),(4,1,4),(5,1,4),(6,11,38),(17,1,39)],[.int .i64 0,.int .i64 0,.int .i64 0,.int .i64 0,.bool false,.bool false,.int .i64 0,.str [],.bool false,.sl true 0 [],.int .i64 0,.int .i64 0,.bool false,.sl true 0 [],.sl true 0 [],.bool false,.bool false,.sl true 0 []],false⟩ := by kernel_rfl
theorem zqq : G.ti 43 = some ⟨1,24,.slice 3,[.sl true 0 []],false⟩ := by kernel_rfl
theorem zd2 : G.ti 49 = some ⟨1,24,.slice 4,[.sl true 0 []],false⟩ := by kernel_rfl
theorem qud : G.ti 51 = some ⟨1,24,.slice 23,[.sl true 0 []],false⟩ := by kernel_rfl
theorem znw : G.ti 55 = some ⟨1,24,.slice 83,[.sl true 0 []],false⟩ := by kernel_rfl
theorem zfw : G.ti 56 = some ⟨1,8,.int .i64,[.int .i64 0],false⟩ := by kernel_rfl
theorem z7a : G.ti 64 = some ⟨1,8,.map 3 3,[.nilmap],false⟩ := by kernel_rfl
theorem zdj : G.ti 66 = some ⟨1,8,.int .u64,[.int .u64 0],false⟩ := by kernel_rfl
theorem z2x : G.ti 78 = some ⟨1,24,.slice 26,[.sl true 0 []],false⟩ := by kernel_rfl
theorem qy3 : G.ti 81 = some ⟨3,64,.struct [(0,1,9),(1,1,55),(2,1,43)],[.str [],.sl true 0 [],.sl true 0 []],true⟩ := by kernel_rfl
theorem zcw : G.ti 83 = some ⟨18,224,.struct [(0,1,3),(1,1,9),(2,1,3),(3,1,4),(4,1,4),(5,11,38),(16,1,39),(17,1,55)],[.int .i64 0,.str [],.int .i64 0,.bool false,.bool false,.int .i64 0,.str [],.bool false,.sl true 0 [],.int .i64 0,.int .i64 0,.bool false,.sl true 0 [],.sl true 0 [],.bool false,.bool false,.sl true 0 [],.sl true 0 []],false⟩ := by kernel_rfl
theorem z96 : G.ti 89 = some ⟨1,24,.slice 138,[.sl true 0 []],false⟩ := by kernel_rfl
theorem qru : G.ti 92 = some ⟨1,24,.slice 97,[.sl true 0 []],false⟩ := by kernel_rfl
theorem z6c : G.ti 94 = some ⟨6,128,.struct [(0,1,89),(1,1,9),(2,1,9),(3,1,92),(4,1,43),(5,1,39)],[.sl true 0 [],.str [],.str [],.sl true 0 [],.sl true 0 [],.sl true 0 []],true⟩ := by kernel_rfl
theorem zpr : G.ti 97 = some ⟨20,216,.struct [(0,1,3),(1,1,9),(2,1,3),(3,1,4),(4,1,4),(5,1,4),(6,11,38),(17,1,39),(18,1,3),(19,1,3)],[.int .i64 0,.str [],.int .i64 0,.bool false,.bool false,.bool false,.int .i64 0,.str [],.bool false,.sl true 0 [],.int .i64 0,.int .i64 0,.bool false,.sl true 0 [],.sl true 0 [],.bool false,.bool false,.sl true 0 [],.int .i64 0,.int .i64 0],false⟩ := by kernel_rfl
theorem zga : G.ti 100 = some ⟨2,48,.struct [(0,1,43),(1,1,39)],[.sl true 0 [],.sl true 0 []],true⟩ := by kernel_rfl
theorem qv7 : G.ti 112 = some ⟨1,24,.slice 5,[.sl true 0 []],false⟩ := by kernel_rfl
theorem zb4 : G.ti 138 = some ⟨2,32,.struct [(0,1,9),(1,1,9)],[.str [],.str []],true⟩ := by kernel_rfl
theorem z5x : G.ti 157 = some ⟨2,32,.struct [(0,1,39),(1,1,3)],[.sl true 0 [],.int .i64 0],true⟩ := by kernel_rfl
theorem z0w : G.ti 160 = some ⟨5,56,.struct [(0,1,3),(1,1,3),(2,1,3),(3,1,9),(4,1,9)],[.int .i64 0,.int .i64 0,.int .i64 0,.str [],.str []],true⟩ := by kernel_rfl
theorem z0d : G.ti 166 = some ⟨1,24,.slice 170,[.sl true 0 []],false⟩ := by kernel_rfl
theorem zv2 : G.ti 170 = some ⟨3,40,.struct [(0,2,23),(2,1,51)],[.int .i64 0,.int .i64 0,.sl true 0 []],false⟩ := by kernel_rfl
theorem z3b : G.ti 185 = some ⟨2,32,.struct [(0,1,9),(1,1,9)],[.str [],.str []],true⟩ := by kernel_rfl
theorem z9g : G.ti 191 = some ⟨5,72,.struct [(0,1,39),(1,1,43),(2,1,4),(3,1,3),(4,1,4)],[.sl true 0 [],.sl true 0 [],.bool false,.int .i64 0,.bool false],true⟩ := by kernel_rfl
theorem z6u : G.ti 209 = some ⟨1,8,.ptr,[.nilptr],false⟩ := by kernel_rfl
theorem z6f : G.ti 211 = some ⟨13,144,.struct [(0,1,3),(1,8,35),(9,1,3),(10,1,3),(11,1,3),(12,1,209)],[.int .i64 0,.int .i64 0,.str [],.bool false,.sl true 0 [],.int .i64 0,.int .i64 0,.bool false,.sl true 0 [],.int .i64 0,.int .i64 0,.int .i64 0,.nilptr],false⟩ := by kernel_rfl
theorem fn6 : G.fn 6 = some ⟨Tryz.f6.ntmps,Tryz.f6.results.toList,Tryz.f6.body.get!⟩ := by kernel_rfl
theorem fn7 : G.fn 7 = some ⟨Tryz.f7.ntmps,Tryz.f7.results.toList,Tryz.f7.body.get!⟩ := by kernel_rfl
theorem fn9 : G.fn 9 = some ⟨Tryz.f9.ntmps,Tryz.f9.results.toList,Tryz.f9.body.get!⟩ := by kernel_rfl
theorem zmt : G.fn 10 = some ⟨Tryz.f10.ntmps,Tryz.f10.results.toList,Tryz.f10.body.get!⟩ := by kernel_rfl
theorem qbl : G.fn 12 = some ⟨Tryz.f12.ntmps,Tryz.f12.results.toList,Tryz.f12.body.get!⟩ := by kernel_rfl
theorem q0y : G.fn 13 = some ⟨Tryz.f13.ntmps,Tryz.f13.results.toList,Tryz.f13.body.get!⟩ := by kernel_rfl
theorem mi : G.fn 16 = some ⟨Tryz.f16.ntmps,Tryz.f16.results.toList,Tryz.f16.body.get!⟩ := by kernel_rfl
theorem q8o : G.fn 17 = some ⟨Tryz.f17.ntmps,Tryz.f17.results.toList,Tryz.f17.body.get!⟩ := by kernel_rfl
theorem q1i : G.fn 18 = some ⟨Tryz.f18.ntmps,Tryz.f18.results.toList,Tryz.f18.body.get!⟩ := by kernel_rfl
theorem q7v : G.fn 19 = some ⟨Tryz.f19.ntmps,Tryz.f19.results.toList,Tryz.f19.body.get!⟩ := by kernel_rfl
theorem q0a : G.fn 20 = some ⟨Tryz.f20.ntmps,Tryz.f20.results.toList,Tryz.f20.body.get!⟩ := by kernel_rfl
theorem qo9 : G.fn 22 = some ⟨Tryz.f22.ntmps,Tryz.f22.results.toList,Tryz.f22.body.get!⟩ := by kernel_rfl
theorem qbj : G.fn 23 = some ⟨Tryz.f23.ntmps,Tryz.f23.results.toList,Tryz.f23.body.get!⟩ := by kernel_rfl
theorem qpz : G.fn 24 = some ⟨Tryz.f24.ntmps,Tryz.f24.results.toList,Tryz.f24.body.get!⟩ := by kernel_rfl
theorem qz4 : G.fn 29 = some ⟨Tryz.f29.ntmps,Tryz.f29.results.toList,Tryz.f29.body.get!⟩ := by kernel_rfl
theorem q8d : G.fn 30 = some ⟨Tryz.f30.ntmps,Tryz.f30.results.toList,Tryz.f30.body.get!⟩ := by kernel_rfl
theorem qdh : G.fn 31 = some ⟨Tryz.f31.ntmps,Tryz.f31.results.toList,Tryz.f31.body.get!⟩ := by kernel_rfl
theorem zc2 : G.fn 32 = some ⟨Tryz.f32.ntmps,Tryz.f32.results.toList,Tryz.f32.body.get!⟩ := by kernel_rfl
theorem q37 : G.fn 37 = some ⟨Tryz.f37.ntmps,Tryz.f37.results.toList,Tryz.f37.body.get!⟩ := by kernel_rfl
theorem q2n : G.fn 38 = some ⟨Tryz.f38.ntmps,Tryz.f38.results.toList,Tryz.f38.body.get!⟩ := by kernel_rfl
theorem qeb : G.fn 39 = some ⟨Tryz.f39.ntmps,Tryz.f39.results.toList,Tryz.f39.body.get!⟩ := by kernel_rfl
theorem qqz : G.fn 40 = some ⟨Tryz.f40.ntmps,Tryz.f40.results.toList,Tryz.f40.body.get!⟩ := by kernel_rfl
theorem uf : G.fn 41 = some ⟨Tryz.f41.ntmps,Tryz.f41.results.toList,Tryz.f41.body.get!⟩ := by kernel_rfl
theorem q0c : G.fn 42 = some ⟨Tryz.f42.ntmps,Tryz.f42.results.toList,Tryz.f42.body.get!⟩ := by kernel_rfl
theorem q2s : G.fn 43 = some ⟨Tryz.f43.ntmps,Tryz.f43.results.toList,Tryz.f43.body.get!⟩ := by kernel_rfl
theorem q18 : G.fn 44 = some ⟨Tryz.f44.ntmps,Tryz.f44.results.toList,Tryz.f44.body.get!⟩ := by kernel_rfl
theorem tq : G.fn 45 = some ⟨Tryz.f45.ntmps,Tryz.f45.results.toList,Tryz.f45.body.get!⟩ := by kernel_rfl
theorem qmi : G.fn 48 = some ⟨Tryz.f48.ntmps,Tryz.f48.results.toList,Tryz.f48.body.get!⟩ := by kernel_rfl
theorem qie : G.fn 52 = some ⟨Tryz.f52.ntmps,Tryz.f52.results.toList,Tryz.f52.body.get!⟩ := by kernel_rfl
theorem ug : G.fn 53 = some ⟨Tryz.f53.ntmps,Tryz.f53.results.toList,Tryz.f53.body.get!⟩ := by kernel_rfl
theorem q7n : G.fn 54 = some ⟨Tryz.f54.ntmps,Tryz.f54.results.toList,Tryz.f54.body.get!⟩ := by kernel_rfl
theorem qbu : G.fn 55 = some ⟨Tryz.f55.ntmps,Tryz.f55.results.toList,Tryz.f55.body.get!⟩ := by kernel_rfl
theorem q7c : G.fn 56 = some ⟨Tryz.f56.ntmps,Tryz.f56.results.toList,Tryz.f56.body.get!⟩ := by kernel_rfl
theorem zh : G.fn 57 = some ⟨Tryz.f57.ntmps,Tryz.f57.results.toList,Tryz.f57.body.get!⟩ := by kernel_rfl
theorem qvf : G.fn 58 = some ⟨Tryz.f58.ntmps,Tryz.f58.results.toList,Tryz.f58.body.get!⟩ := by kernel_rfl
theorem q2o : G.fn 59 = some ⟨Tryz.f59.ntmps,Tryz.f59.results.toList,Tryz.f59.body.get!⟩ := by kernel_rfl
theorem qc0 : G.fn 60 = some ⟨Tryz.f60.ntmps,Tryz.f60.results.toList,Tryz.f60.body.get!⟩ := by kernel_rfl
theorem qbs : G.fn 61 = some ⟨Tryz.f61.ntmps,Tryz.f61.results.toList,Tryz.f61.body.get!⟩ := by kernel_rfl
theorem q12 : G.fn 62 = some ⟨Tryz.f62.ntmps,Tryz.f62.results.toList,Tryz.f62.body.get!⟩ := by kernel_rfl
theorem qcv : G.fn 63 = some ⟨Tryz.f63.ntmps,Tryz.f63.results.toList,Tryz.f63.body.get!⟩ := by kernel_rfl
theorem q8a : G.fn 64 = some ⟨Tryz.f64.ntmps,Tryz.f64.results.toList,Tryz.f64.body.get!⟩ := by kernel_rfl
theorem qcm : G.fn 65 = some ⟨Tryz.f65.ntmps,Tryz.f65.results.toList,Tryz.f65.body.get!⟩ := by kernel_rfl
theorem q2m : G.fn 66 = some ⟨Tryz.f66.ntmps,Tryz.f66.results.toList,Tryz.f66.body.get!⟩ := by kernel_rfl
theorem q7r : G.fn 67 = some ⟨Tryz.f67.ntmps,Tryz.f67.results.toList,Tryz.f67.body.get!⟩ := by kernel_rfl
theorem q6n : G.fn 71 = some ⟨Tryz.f71.ntmps,Tryz.f71.results.toList,Tryz.f71.body.get!⟩ := by kernel_rfl
theorem q6s : G.fn 72 = some ⟨Tryz.f72.ntmps,Tryz.f72.results.toList,Tryz.f72.body.get!⟩ := by kernel_rfl
theorem qfv : G.fn 73 = some ⟨Tryz.f73.ntmps,Tryz.f73.results.toList,Tryz.f73.body.get!⟩ := by kernel_rfl
theorem q2y : G.fn 74 = some ⟨Tryz.f74.ntmps,Tryz.f74.results.toList,Tryz.f74.body.get!⟩ := by kernel_rfl
theorem qab : G.fn 75 = some ⟨Tryz.f75.ntmps,Tryz.f75.results.toList,Tryz.f75.body.get!⟩ := by kernel_rfl
theorem q6h : G.fn 76 = some ⟨Tryz.f76.ntmps,Tryz.f76.results.toList,Tryz.f76.body.get!⟩ := by kernel_rfl
theorem q4k : G.fn 77 = some ⟨Tryz.f77.ntmps,Tryz.f77.results.toList,Tryz.f77.body.get!⟩ := by kernel_rfl
theorem zhk : G.fn 78 = some ⟨Tryz.f78.ntmps,Tryz.f78.results.toList,Tryz.f78.body.get!⟩ := by kernel_rfl
theorem qd3 : G.fn 79 = some ⟨Tryz.f79.ntmps,Tryz.f79.results.toList,Tryz.f79.body.get!⟩ := by kernel_rfl
theorem qei : G.fn 80 = some ⟨Tryz.f80.ntmps,Tryz.f80.results.toList,Tryz.f80.body.get!⟩ := by kernel_rfl
theorem jm : G.fn 81 = some ⟨Tryz.f81.ntmps,Tryz.f81.results.toList,Tryz.f81.body.get!⟩ := by kernel_rfl
theorem qqt : G.fn 93 = some ⟨Tryz.f93.ntmps,Tryz.f93.results.toList,Tryz.f93.body.get!⟩ := by kernel_rfl
theorem qj2 : G.fn 94 = some ⟨Tryz.f94.ntmps,Tryz.f94.results.toList,Tryz.f94.body.get!⟩ := by kernel_rfl
theorem qd9 : G.fn 95 = some ⟨Tryz.f95.ntmps,Tryz.f95.results.toList,Tryz.f95.body.get!⟩ := by kernel_rfl
theorem q3c : G.fn 96 = some ⟨Tryz.f96.ntmps,Tryz.f96.results.toList,Tryz.f96.body.get!⟩ := by kernel_rfl
theorem wm : G.fn 97 = some ⟨Tryz.f97.ntmps,Tryz.f97.results.toList,Tryz.f97.body.get!⟩ := by kernel_rfl
theorem qe0 : G.fn 98 = some ⟨Tryz.f98.ntmps,Tryz.f98.results.toList,Tryz.f98.body.get!⟩ := by kernel_rfl
theorem qgm : G.fn 99 = some ⟨Tryz.f99.ntmps,Tryz.f99.results.toList,Tryz.f99.body.get!⟩ := by kernel_rfl
theorem q2e : G.fn 100 = some ⟨Tryz.f100.ntmps,Tryz.f100.results.toList,Tryz.f100.body.get!⟩ := by kernel_rfl
theorem qp1 : G.fn 101 = some ⟨Tryz.f101.ntmps,Tryz.f101.results.toList,Tryz.f101.body.get!⟩ := by kernel_rfl
theorem q5q : G.fn 102 = some ⟨Tryz.f102.ntmps,Tryz.f102.results.toList,Tryz.f102.body.get!⟩ := by kernel_rfl
theorem qhi : G.fn 103 = some ⟨Tryz.f103.ntmps,Tryz.f103.results.toList,Tryz.f103.body.get!⟩ := by kernel_rfl
theorem qek : G.fn 104 = some ⟨Tryz.f104.ntmps,Tryz.f104.results.toList,Tryz.f104.body.get!⟩ := by kernel_rfl
theorem qoe : G.fn 111 = some ⟨Tryz.f111.ntmps,Tryz.f111.results.toList,Tryz.f111.body.get!⟩ := by kernel_rfl
theorem qqw : G.fn 112 = some ⟨Tryz.f112.ntmps,Tryz.f112.results.toList,Tryz.f112.body.get!⟩ := by kernel_rfl
theorem q4n : G.fn 113 = some ⟨Tryz.f113.ntmps,Tryz.f113.results.toList,Tryz.f113.body.get!⟩ := by kernel_rfl
theorem qqo : G.fn 114 = some ⟨Tryz.f114.ntmps,Tryz.f114.results.toList,Tryz.f114.body.get!⟩ := by kernel_rfl
theorem qgu : G.fn 115 = some ⟨Tryz.f115.ntmps,Tryz.f115.results.toList,Tryz.f115.body.get!⟩ := by kernel_rfl
theorem qiy : G.fn 116 = some ⟨Tryz.f116.ntmps,Tryz.f116.results.toList,Tryz.f116.body.get!⟩ := by kernel_rfl
theorem q8z : G.fn 117 = some ⟨Tryz.f117.ntmps,Tryz.f117.results.toList,Tryz.f117.body.get!⟩ := by kernel_rfl
theorem q9u : G.fn 118 = some ⟨Tryz.f118.ntmps,Tryz.f118.results.toList,Tryz.f118.body.get!⟩ := by kernel_rfl
theorem qik : G.fn 119 = some ⟨Tryz.f119.ntmps,Tryz.f119.results.toList,Tryz.f119.body.get!⟩ := by kernel_rfl
theorem xu : G.fn 120 = some ⟨Tryz.f120.ntmps,Tryz.f120.results.toList,Tryz.f120.body.get!⟩ := by kernel_rfl
theorem zrs : G.fn 121 = some ⟨Tryz.f121.ntmps,Tryz.f121.results.toList,Tryz.f121.body.get!⟩ := by kernel_rfl
theorem qd1 : G.fn 122 = some ⟨Tryz.f122.ntmps,Tryz.f122.results.toList,Tryz.f122.body.get!⟩ := by kernel_rfl
theorem qdg : G.fn 123 = some ⟨Tryz.f123.ntmps,Tryz.f123.results.toList,Tryz.f123.body.get!⟩ := by kernel_rfl
theorem qrh : G.fn 124 = some ⟨Tryz.f124.ntmps,Tryz.f124.results.toList,Tryz.f124.body.get!⟩ := by kernel_rfl
theorem uw : G.fn 125 = some ⟨Tryz.f125.ntmps,Tryz.f125.results.toList,Tryz.f125.body.get!⟩ := by kernel_rfl
theorem mh : G.fn 127 = some ⟨Tryz.f127.ntmps,Tryz.f127.results.toList,Tryz.f127.body.get!⟩ := by kernel_rfl
theorem q0u : G.fn 128 = some ⟨Tryz.f128.ntmps,Tryz.f128.results.toList,Tryz.f128.body.get!⟩ := by kernel_rfl
theorem qbf : G.fn 129 = some ⟨Tryz.f129.ntmps,Tryz.f129.results.toList,Tryz.f129.body.get!⟩ := by kernel_rfl
theorem qgo : G.fn 130 = some ⟨Tryz.f130.ntmps,Tryz.f130.results.toList,Tryz.f130.body.get!⟩ := by kernel_rfl
theorem qff : G.fn 131 = some ⟨Tryz.f131.ntmps,Tryz.f131.results.toList,Tryz.f131.body.get!⟩ := by kernel_rfl
theorem jc : G.fn 132 = some ⟨Tryz.f132.ntmps,Tryz.f132.results.toList,Tryz.f132.body.get!⟩ := by kernel_rfl
theorem qc9 : G.fn 133 = some ⟨Tryz.f133.ntmps,Tryz.f133.results.toList,Tryz.f133.body.get!⟩ := by kernel_rfl
theorem qdy : G.fn 134 = some ⟨Tryz.f134.ntmps,Tryz.f134.results.toList,Tryz.f134.body.get!⟩ := by kernel_rfl
theorem q0l : G.fn 135 = some ⟨Tryz.f135.ntmps,Tryz.f135.results.toList,Tryz.f135.body.get!⟩ := by kernel_rfl
theorem q2c : G.fn 136 = some ⟨Tryz.f136.ntmps,Tryz.f136.results.toList,Tryz.f136.body.get!⟩ := by kernel_rfl
theorem qcn : G.fn 137 = some ⟨Tryz.f137.ntmps,Tryz.f137.results.toList,Tryz.f137.body.get!⟩ := by kernel_rfl
theorem qhn : G.fn 138 = some ⟨Tryz.f138.ntmps,Tryz.f138.results.toList,Tryz.f138.body.get!⟩ := by kernel_rfl
theorem q9v : G.fn 139 = some ⟨Tryz.f139.ntmps,Tryz.f139.results.toList,Tryz.f139.body.get!⟩ := by kernel_rfl
theorem qly : G.fn 140 = some ⟨Tryz.f140.ntmps,Tryz.f140.results.toList,Tryz.f140.body.get!⟩ := by kernel_rfl
theorem q4o : G.fn 141 = some ⟨Tryz.f141.ntmps,Tryz.f141.results.toList,Tryz.f141.body.get!⟩ := by kernel_rfl
theorem qfh : G.fn 142 = some ⟨Tryz.f142.ntmps,Tryz.f142.results.toList,Tryz.f142.body.get!⟩ := by kernel_rfl
theorem qe7 : G.fn 143 = some ⟨Tryz.f143.ntmps,Tryz.f143.results.toList,Tryz.f143.body.get!⟩ := by kernel_rfl
theorem ng : G.fn 144 = some ⟨Tryz.f144.ntmps,Tryz.f144.results.toList,Tryz.f144.body.get!⟩ := by kernel_rfl
theorem qqe : G.fn 145 = some ⟨Tryz.f145.ntmps,Tryz.f145.results.toList,Tryz.f145.body.get!⟩ := by kernel_rfl
theorem qor : G.fn 146 = some ⟨Tryz.f146.ntmps,Tryz.f146.results.toList,Tryz.f146.body.get!⟩ := by kernel_rfl
theorem q9d : G.fn 147 = some ⟨Tryz.f147.ntmps,Tryz.f147.results.toList,Tryz.f147.body.get!⟩ := by kernel_rfl
theorem qbt : G.fn 148 = some ⟨Tryz.f148.ntmps,Tryz.f148.results.toList,Tryz.f148.body.get!⟩ := by kernel_rfl
theorem mf : G.fn 149 = some ⟨Tryz.f149.ntmps,Tryz.f149.results.toList,Tryz.f149.body.get!⟩ := by kernel_rfl
theorem qcb : G.fn 150 = some ⟨Tryz.f150.ntmps,Tryz.f150.results.toList,Tryz.f150.body.get!⟩ := by kernel_rfl
theorem qez : G.fn 151 = some ⟨Tryz.f151.ntmps,Tryz.f151.results.toList,Tryz.f151.body.get!⟩ := by kernel_rfl
theorem q2l : G.fn 152 = some ⟨Tryz.f152.ntmps,Tryz.f152.results.toList,Tryz.f152.body.get!⟩ := by kernel_rfl
theorem q1v : G.fn 153 = some ⟨Tryz.f153.ntmps,Tryz.f153.results.toList,Tryz.f153.body.get!⟩ := by kernel_rfl
theorem qai : G.fn 154 = some ⟨Tryz.f154.ntmps,Tryz.f154.results.toList,Tryz.f154.body.get!⟩ := by kernel_rfl
theorem qmw : G.fn 155 = some ⟨Tryz.f155.ntmps,Tryz.f155.results.toList,Tryz.f155.body.get!⟩ := by kernel_rfl
theorem qhj : G.fn 156 = some ⟨Tryz.f156.ntmps,Tryz.f156.results.toList,Tryz.f156.body.get!⟩ := by kernel_rfl
theorem q0t : G.fn 157 = some ⟨Tryz.f157.ntmps,Tryz.f157.results.toList,Tryz.f157.body.get!⟩ := by kernel_rfl
theorem qiv : G.fn 158 = some ⟨Tryz.f158.ntmps,Tryz.f158.results.toList,Tryz.f158.body.get!⟩ := by kernel_rfl
theorem qdx : G.fn 159 = some ⟨Tryz.f159.ntmps,Tryz.f159.results.toList,Tryz.f159.body.get!⟩ := by kernel_rfl
theorem qer : G.fn 160 = some ⟨Tryz.f160.ntmps,Tryz.f160.results.toList,Tryz.f160.body.get!⟩ := by kernel_rfl
theorem q9n : G.fn 161 = some ⟨Tryz.f161.ntmps,Tryz.f161.results.toList,Tryz.f161.body.get!⟩ := by kernel_rfl
theorem qd4 : G.fn 162 = some ⟨Tryz.f162.ntmps,Tryz.f162.results.toList,Tryz.f162.body.get!⟩ := by kernel_rfl
end Go.Proofs.YtdhgdeelagmbpaaGreat
