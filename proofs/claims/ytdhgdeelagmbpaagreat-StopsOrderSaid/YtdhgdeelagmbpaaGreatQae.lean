/-
  The tables of the program as the machine reads it.
-/
import Derived.Test.YtdhgdeelagmbpaaGreatRows
import Derived.Test.YtdhgdeelagmbpaaGreatQad
set_option linter.unusedSimpArgs false
set_option linter.unusedVariables false
namespace Go.Proofs.YtdhgdeelagmbpaaGreat
open Go Go.Gm
def spec : FuncId → Nat → q02
 | 4,0 => ⟨[3,5,6],[2],[],[],[],0⟩
 | 4,2 => ⟨[3,5,6,7,8,9],[2,3,5,6,7,8],[],[],[],0⟩
 | 6,0 => ⟨[2,7,8,10,12,13],[6],[],[],[],0⟩
 | 6,2 => ⟨[2,7,8,10,12,13,14,15,16],[2,6,7,8,10,12,13],[],[],[],0⟩
 | 7,0 => ⟨[1,4,9,11,12],[4,11],[],[(11,2)],[],0⟩
 | 9,0 => ⟨[2,5,18,19,20],[4],[],[],[18],0⟩
 | 11,0 => ⟨[2,5],[4],[],[],[],0⟩
 | 11,2 => ⟨[2,5,6,8],[2,4,5],[],[],[],0⟩
 | 12,0 => ⟨[1,3,12,13,14],[1,3],[],[],[1],0⟩
 | 12,2 => ⟨[1,3,6],[6],[6],[],[],0⟩
 | 13,0 => ⟨[0,1,5],[4],[],[],[],0⟩
 | 14,0 => ⟨[1,3,4],[1,3],[],[],[1],0⟩
 | 14,2 => ⟨[1,3,5],[5],[5],[],[],0⟩
 | 14,4 => ⟨[1,3,5,6,7,8],[1,3,5,6,7],[],[],[],0⟩
 | 14,6 => ⟨[1,3,5,6,7,9],[1,3,5,6],[],[],[],0⟩
 | 15,0 => ⟨[1,3],[2],[],[],[],0⟩
 | 15,2 => ⟨[1,3,4],[1,2,3],[],[],[],0⟩
 | 15,4 => ⟨[1,3,4,5,6],[1,3,4,5],[],[],[],0⟩
 | 16,0 => ⟨[3,11,12,13],[3],[],[],[],0⟩
 | 16,2 => ⟨[3,11,12,13,18,19,20],[3,11,12,13],[],[],[],0⟩
 | 17,0 => ⟨[0,5,10,11,12],[5],[5],[],[],0⟩
 | 17,2 => ⟨[0,5,10,11,12,17,18,19],[0,5,10,11,12],[5],[],[],0⟩
 | 18,0 => ⟨[1,2,3,7,8,9,10],[7,8,9],[],[],[],0⟩
 | 19,0 => ⟨[0,4,5],[4],[],[],[],0⟩
 | 20,0 => ⟨[11,12,13],[11,12],[],[],[],0⟩
 | 20,2 => ⟨[15,17,19,20],[15,17,19],[],[],[],0⟩
 | 21,0 => ⟨[0,13,14,15],[4,5],[],[],[],0⟩
 | 23,0 => ⟨[1,2,5],[1,2,4],[],[],[],0⟩
 | 26,0 => ⟨[0,1,2],[6],[],[],[],0⟩
 | 30,0 => ⟨[1,2,5,12,13,14],[5],[],[],[],0⟩
 | 30,2 => ⟨[1,2,5,7,8,12,13,14],[1,2,5,12,13,14],[],[],[],0⟩
 | 31,0 => ⟨[0,1,7,8],[4],[],[],[],0⟩
 | 33,0 => ⟨[0,1,5],[0,1,5],[],[],[],0⟩
 | 34,0 => ⟨[0,1,5],[4],[],[],[],0⟩
 | 35,0 => ⟨[0,1,2,7],[6],[],[],[],0⟩
 | 35,2 => ⟨[0,1,2,7,8],[0,1,2,6,7],[],[],[],0⟩
 | 38,0 => ⟨[0,1,2,8,9],[0,1,2,8,9],[8,9],[],[],2⟩
 | 39,0 => ⟨[0,3,4],[3],[],[],[],0⟩
 | 41,0 => ⟨[0,1,2,6],[],[],[(0,3),(0,4),(0,5)],[],0⟩
 | 42,0 => ⟨[0,2,3],[0,2],[],[],[],0⟩
 | 42,2 => ⟨[0,2,4],[0],[],[],[],0⟩
 | 42,4 => ⟨[0,5,6],[],[5],[],[],0⟩
 | 43,0 => ⟨[0,3],[2],[],[],[],0⟩
 | 43,2 => ⟨[0,3,4,5],[0,3,4],[],[],[],0⟩
 | 44,0 => ⟨[0,1,3,10,11],[8,9,10],[],[(1,0),(1,1)],[],0⟩
 | 45,0 => ⟨[0,1,2,3,5,6,16],[2,6],[2],[],[],0⟩
 | 46,0 => ⟨[0,2,3],[],[],[],[],0⟩
 | 51,0 => ⟨[0,5],[],[],[],[],0⟩
 | 53,0 => ⟨[0,4,7,8],[0,4,7,8],[7],[],[],0⟩
 | 53,2 => ⟨[0,4,12,14],[0,4,5,6,12,14],[],[],[],0⟩
 | 54,0 => ⟨[0,1,6,7],[0,1,6,7],[6,7],[],[],2⟩
 | 56,0 => ⟨[0,3,4],[3],[3],[],[],0⟩
 | 57,0 => ⟨[0,3],[2],[],[],[],0⟩
 | 59,0 => ⟨[0,1,2,7,8,9],[7],[7],[],[],0⟩
 | 60,0 => ⟨[0,1,6],[4,5],[],[],[],0⟩
 | 61,0 => ⟨[0,3,4],[2],[],[],[],0⟩
 | 62,0 => ⟨[0,3,5,8,9,10],[0,3,5,8,9],[],[(9,17)],[],0⟩
 | 63,0 => ⟨[0,1,5],[0,1,4],[],[],[],0⟩
 | 64,0 => ⟨[0,1,5],[4],[],[],[],0⟩
 | 65,0 => ⟨[0,1,5],[4],[],[],[],0⟩
 | 66,0 => ⟨[0,1,2,7],[2],[2],[],[],0⟩
 | 69,0 => ⟨[0,1,2,3,8,9],[],[],[],[],0⟩
 | 71,0 => ⟨[0,1,7,8],[0,1,7,8],[],[],[],0⟩
 | 72,0 => ⟨[0,1,7],[0,1,7],[],[],[],0⟩
 | 74,0 => ⟨[0,1,7],[0,1,7],[7],[],[],0⟩
 | 75,0 => ⟨[2,3,5],[4],[],[],[],0⟩
 | 77,0 => ⟨[0,3],[2],[],[],[],0⟩
 | 79,0 => ⟨[0,1,5],[4],[],[],[],0⟩
 | 81,0 => ⟨[1,3,9,10,14,15,16],[1,6,7,8,10,14,15],[],[],[],0⟩
 | 82,0 => ⟨[0,1,2,6],[],[],[],[],0⟩
 | 82,2 => ⟨[0,1,2,6,7],[0,1,2,6],[],[],[],0⟩
 | 83,0 => ⟨[0,6,7,8,9],[0,6,7,8],[],[],[],0⟩
 | 83,2 => ⟨[0,6,7,10],[],[],[],[],0⟩
 | 84,0 => ⟨[0,1,6,7,8,9],[],[],[],[],0⟩
 | 86,0 => ⟨[0,6,7],[],[],[],[],0⟩
 | 87,0 => ⟨[0,1,2,7,8],[6],[],[],[],0⟩
 | 87,2 => ⟨[0,1,2,7,8],[0,1,2,7,8],[],[],[],0⟩
 | 87,4 => ⟨[0,1,2,7,8,9],[0,1,2,7,8],[],[],[],0⟩
 | 87,6 => ⟨[0,1,2,7,8,10],[0,1,2,7,8],[],[],[],0⟩
 | 89,0 => ⟨[0,1,9,10],[9],[],[],[],0⟩
 | 89,2 => ⟨[0,1,9,10],[0,1,9,10],[],[],[],0⟩
 | 89,4 => ⟨[0,1,9,10],[0,1,9,10],[],[],[],0⟩
 | 90,0 => ⟨[0,1,10,11],[0,1,10,11],[],[],[],0⟩
 | 90,2 => ⟨[0,1,10,11],[0,1,10,11],[],[],[],0⟩
 | 90,4 => ⟨[0,1,10,11],[0,1,11],[],[],[],0⟩
 | 90,6 => ⟨[0,1,10,11],[0,1,10,11],[],[],[],0⟩
 | 90,8 => ⟨[0,1,10,11],[0,1,10,11],[],[],[],0⟩
 | 95,0 => ⟨[0,3,4,5],[3],[3],[],[],0⟩
 | 96,0 => ⟨[0,1,4,6],[4,5],[6],[],[],0⟩
 | 96,2 => ⟨[0,1,4,6,7],[0,1,4,5,6,7],[7],[],[],0⟩
 | 97,1 => ⟨[0,4,8,10,11],[4,5,6],[],[],[],0⟩
 | 100,0 => ⟨[2,3,5],[2,3,4],[],[],[],0⟩
 | 100,2 => ⟨[2,3,6],[4],[],[],[],0⟩
 | 102,0 => ⟨[4,11,12,13],[8,9,10,11,12],[12],[],[],0⟩
 | 104,0 => ⟨[1,3,5,7,8],[3,7],[7],[],[],0⟩
 | 105,0 => ⟨[0,2,3,8],[],[],[],[],0⟩
 | 118,0 => ⟨[0,1,2,9],[0,1,9],[9],[],[],0⟩
 | 120,0 => ⟨[0,3],[2],[],[],[],0⟩
 | 122,0 => ⟨[0,2,4,6],[6,7],[],[],[],0⟩
 | 123,0 => ⟨[0,1,5],[4],[],[],[],0⟩
 | 125,0 => ⟨[0,1,5,6],[5],[],[],[],0⟩
 | 129,0 => ⟨[0,1,5,6],[5],[5],[],[],0⟩
 | 130,0 => ⟨[1,3,4],[3],[],[],[],0⟩
 | 131,0 => ⟨[1,3,4],[1,3],[],[],[],0⟩
 | 132,0 => ⟨[1,3,4],[1,2,3],[],[],[],0⟩
 | 132,3 => ⟨[1,3,5],[1,2,3],[],[],[],0⟩
 | 132,5 => ⟨[1,3,6],[1,2,3],[],[],[],0⟩
 | 133,0 => ⟨[0,3,4],[3],[3],[],[],0⟩
 | 134,0 => ⟨[0,2,4,6,8,9],[0,2,4,6,8],[8],[],[],0⟩
 | 135,1 => ⟨[6,7],[6],[],[],[],0⟩
 | 135,3 => ⟨[6,8],[6],[],[],[],0⟩
 | 135,5 => ⟨[1,9,10,11],[10],[],[],[],0⟩
 | 136,0 => ⟨[0,2,4,5],[2,3,4,5],[5],[],[],0⟩
 | 139,0 => ⟨[0,4,5],[4,5],[],[],[],0⟩
 | 141,0 => ⟨[0,3],[2],[],[],[],0⟩
 | 143,0 => ⟨[1,3,4],[3],[],[],[],0⟩
 | 144,1 => ⟨[0,1,2,3,12,13,14],[0,2,3,12],[],[],[],0⟩
 | 144,3 => ⟨[0,1,2,3,15,16],[8,9,10],[],[],[],0⟩
 | 147,0 => ⟨[0,3,4],[3],[3],[],[],0⟩
 | 149,0 => ⟨[0,3,4],[3],[],[],[3],0⟩
 | 149,2 => ⟨[0,3,4,5,6],[0,3,4,5,6],[],[],[],0⟩
 | 149,4 => ⟨[3,7,8],[7],[7],[],[],0⟩
 | 150,0 => ⟨[3,4],[3],[],[],[],0⟩
 | 156,0 => ⟨[0,1,2,11,12],[0,1,2,11],[],[],[],0⟩
 | 161,0 => ⟨[0,1,5],[4],[],[],[],0⟩
 | 162,0 => ⟨[3,4],[3],[],[],[],0⟩
 | _,_ => {}
def zpx (f : FuncId) : Bool := [46,34,35,99,65,66,45].contains f
def qz2 (f : FuncId) : Bool := [16,121,99,66,45].contains f
def zed : FuncId → Nat → List Nat
 | 156,7 => [11]
 | _,_ => []
def qwf (t : TypeId) : Bool := [211].contains t
noncomputable def G : GP := qic Tryz.prog spec zpx qz2 zed qwf
theorem z2p : G.owned 4 = false := rfl
theorem kp4 : G.keep 4 = false := rfl
theorem pr4 (i : Nat) : G.pre 4 i = [] := rfl
theorem qsk : G.owned 7 = false := rfl
theorem kp7 : G.keep 7 = false := rfl
theorem pr7 (i : Nat) : G.pre 7 i = [] := rfl
theorem qsc : G.owned 8 = false := rfl
theorem kp8 : G.keep 8 = false := rfl
theorem pr8 (i : Nat) : G.pre 8 i = [] := rfl
theorem zfv : G.owned 12 = false := rfl
theorem z1u : G.keep 12 = false := rfl
theorem z90 (i : Nat) : G.pre 12 i = [] := rfl
theorem zck : G.owned 13 = false := rfl
theorem qzt : G.keep 13 = false := rfl
theorem qqo (i : Nat) : G.pre 13 i = [] := rfl
theorem ziv : G.owned 14 = false := rfl
theorem zla : G.keep 14 = false := rfl
theorem qzb (i : Nat) : G.pre 14 i = [] := rfl
theorem z3y : G.owned 19 = false := rfl
theorem qrp : G.keep 19 = false := rfl
theorem z3d (i : Nat) : G.pre 19 i = [] := rfl
theorem qym : G.owned 20 = false := rfl
theorem zrn : G.keep 20 = false := rfl
theorem qtz (i : Nat) : G.pre 20 i = [] := rfl
theorem zpo : G.owned 26 = false := rfl
theorem qv3 : G.keep 26 = false := rfl
theorem z6a (i : Nat) : G.pre 26 i = [] := rfl
theorem qxm : G.owned 28 = false := rfl
theorem zfi : G.keep 28 = false := rfl
theorem zfa (i : Nat) : G.pre 28 i = [] := rfl
theorem qws : G.owned 29 = false := rfl
theorem z6e : G.keep 29 = false := rfl
theorem zn8 (i : Nat) : G.pre 29 i = [] := rfl
theorem z9i : G.owned 30 = false := rfl
theorem zaa : G.keep 30 = false := rfl
theorem zir (i : Nat) : G.pre 30 i = [] := rfl
theorem qyi : G.owned 31 = false := rfl
theorem qt2 : G.keep 31 = false := rfl
theorem z7u (i : Nat) : G.pre 31 i = [] := rfl
theorem zer : G.owned 32 = false := rfl
theorem qso : G.keep 32 = false := rfl
theorem zh3 (i : Nat) : G.pre 32 i = [] := rfl
theorem z1w : G.owned 33 = false := rfl
theorem zcz : G.keep 33 = false := rfl
theorem zsx (i : Nat) : G.pre 33 i = [] := rfl
theorem z2r : G.owned 34 = true := rfl
theorem zsj : G.keep 34 = false := rfl
theorem zmi (i : Nat) : G.pre 34 i = [] := rfl
theorem qx9 : G.owned 35 = true := rfl
theorem z1v : G.keep 35 = false := rfl
theorem z3b (i : Nat) : G.pre 35 i = [] := rfl
theorem zpw : G.owned 37 = false := rfl
theorem z4w : G.keep 37 = false := rfl
theorem za2 (i : Nat) : G.pre 37 i = [] := rfl
theorem zsf : G.owned 38 = false := rfl
theorem zm8 : G.keep 38 = false := rfl
theorem z03 (i : Nat) : G.pre 38 i = [] := rfl
theorem zqj : G.owned 39 = false := rfl
theorem zj3 : G.keep 39 = false := rfl
theorem qv6 (i : Nat) : G.pre 39 i = [] := rfl
theorem qre : G.owned 40 = false := rfl
theorem zj0 : G.keep 40 = false := rfl
theorem zod (i : Nat) : G.pre 40 i = [] := rfl
theorem z0o : G.owned 41 = false := rfl
theorem qwk : G.keep 41 = false := rfl
theorem z4m (i : Nat) : G.pre 41 i = [] := rfl
theorem znq : G.owned 42 = false := rfl
theorem zej : G.keep 42 = false := rfl
theorem z2z (i : Nat) : G.pre 42 i = [] := rfl
theorem zbj : G.owned 43 = false := rfl
theorem zrl : G.keep 43 = false := rfl
theorem zjx (i : Nat) : G.pre 43 i = [] := rfl
theorem zm1 : G.owned 44 = false := rfl
theorem qwi : G.keep 44 = false := rfl
theorem z6k (i : Nat) : G.pre 44 i = [] := rfl
theorem qy8 : G.owned 45 = true := rfl
theorem zgn : G.keep 45 = true := rfl
theorem z3h (i : Nat) : G.pre 45 i = [] := rfl
theorem zco : G.owned 48 = false := rfl
theorem zov : G.keep 48 = false := rfl
theorem z6m (i : Nat) : G.pre 48 i = [] := rfl
theorem z7e : G.owned 52 = false := rfl
theorem zm5 : G.keep 52 = false := rfl
theorem zsn (i : Nat) : G.pre 52 i = [] := rfl
theorem zd6 : G.owned 53 = false := rfl
theorem qtl : G.keep 53 = false := rfl
theorem zdb (i : Nat) : G.pre 53 i = [] := rfl
theorem z99 : G.owned 54 = false := rfl
theorem zib : G.keep 54 = false := rfl
theorem qtn (i : Nat) : G.pre 54 i = [] := rfl
theorem z2l : G.owned 55 = false := rfl
theorem zr0 : G.keep 55 = false := rfl
theorem zft (i : Nat) : G.pre 55 i = [] := rfl
theorem zm2 : G.owned 56 = false := rfl
theorem zbe : G.keep 56 = false := rfl
theorem qs4 (i : Nat) : G.pre 56 i = [] := rfl
theorem qqc : G.owned 57 = false := rfl
theorem zi0 : G.keep 57 = false := rfl
theorem z4t (i : Nat) : G.pre 57 i = [] := rfl
theorem qti : G.owned 58 = false := rfl
theorem qw9 : G.keep 58 = false := rfl
theorem zdg (i : Nat) : G.pre 58 i = [] := rfl
theorem qt3 : G.owned 59 = false := rfl
theorem qy1 : G.keep 59 = false := rfl
theorem zb9 (i : Nat) : G.pre 59 i = [] := rfl
theorem qun : G.owned 60 = false := rfl
theorem qqe : G.keep 60 = false := rfl
theorem qra (i : Nat) : G.pre 60 i = [] := rfl
theorem zi1 : G.owned 61 = false := rfl
theorem zff : G.keep 61 = false := rfl
theorem qs3 (i : Nat) : G.pre 61 i = [] := rfl
theorem zfd : G.owned 62 = false := rfl
theorem qr3 : G.keep 62 = false := rfl
theorem zh2 (i : Nat) : G.pre 62 i = [] := rfl
theorem za6 : G.owned 63 = false := rfl
theorem zhs : G.keep 63 = false := rfl
theorem zdz (i : Nat) : G.pre 63 i = [] := rfl
theorem qul : G.owned 64 = false := rfl
theorem zb0 : G.keep 64 = false := rfl
theorem zpm (i : Nat) : G.pre 64 i = [] := rfl
theorem zid : G.owned 65 = true := rfl
theorem qqw : G.keep 65 = false := rfl
theorem qtp (i : Nat) : G.pre 65 i = [] := rfl
theorem zkf : G.owned 66 = true := rfl
theorem zfl : G.keep 66 = true := rfl
theorem z5u (i : Nat) : G.pre 66 i = [] := rfl
theorem quj : G.owned 67 = false := rfl
theorem zj5 : G.keep 67 = false := rfl
theorem z9l (i : Nat) : G.pre 67 i = [] := rfl
theorem qsw : G.owned 71 = false := rfl
theorem z92 : G.keep 71 = false := rfl
theorem qr0 (i : Nat) : G.pre 71 i = [] := rfl
theorem z2d : G.owned 72 = false := rfl
theorem qqf : G.keep 72 = false := rfl
theorem qxi (i : Nat) : G.pre 72 i = [] := rfl
theorem zbx : G.owned 73 = false := rfl
theorem zt1 : G.keep 73 = false := rfl
theorem z8o (i : Nat) : G.pre 73 i = [] := rfl
theorem zdj : G.owned 74 = false := rfl
theorem qtk : G.keep 74 = false := rfl
theorem znx (i : Nat) : G.pre 74 i = [] := rfl
theorem zsb : G.owned 75 = false := rfl
theorem z3v : G.keep 75 = false := rfl
theorem qy2 (i : Nat) : G.pre 75 i = [] := rfl
theorem qrl : G.owned 76 = false := rfl
theorem zg7 : G.keep 76 = false := rfl
theorem z9d (i : Nat) : G.pre 76 i = [] := rfl
theorem ze5 : G.owned 77 = false := rfl
theorem zkq : G.keep 77 = false := rfl
theorem zb3 (i : Nat) : G.pre 77 i = [] := rfl
theorem z6j : G.owned 78 = false := rfl
theorem zf1 : G.keep 78 = false := rfl
theorem qzg (i : Nat) : G.pre 78 i = [] := rfl
theorem zgj : G.owned 79 = false := rfl
theorem z8e : G.keep 79 = false := rfl
theorem zm4 (i : Nat) : G.pre 79 i = [] := rfl
theorem qtu : G.owned 80 = false := rfl
theorem qx6 : G.keep 80 = false := rfl
theorem zrc (i : Nat) : G.pre 80 i = [] := rfl
theorem zjj : G.owned 81 = false := rfl
theorem qz1 : G.keep 81 = false := rfl
theorem zkn (i : Nat) : G.pre 81 i = [] := rfl
theorem z5b : G.owned 93 = false := rfl
theorem zkg : G.keep 93 = false := rfl
theorem qqv (i : Nat) : G.pre 93 i = [] := rfl
theorem qrw : G.owned 94 = false := rfl
theorem qxo : G.keep 94 = false := rfl
theorem zri (i : Nat) : G.pre 94 i = [] := rfl
theorem z7c : G.owned 95 = false := rfl
theorem z5h : G.keep 95 = false := rfl
theorem zhi (i : Nat) : G.pre 95 i = [] := rfl
theorem zii : G.owned 96 = false := rfl
theorem zl8 : G.keep 96 = false := rfl
theorem zf0 (i : Nat) : G.pre 96 i = [] := rfl
theorem z5o : G.owned 97 = false := rfl
theorem zlh : G.keep 97 = false := rfl
theorem zqs (i : Nat) : G.pre 97 i = [] := rfl
theorem zez : G.owned 98 = false := rfl
theorem qv9 : G.keep 98 = false := rfl
theorem zgu (i : Nat) : G.pre 98 i = [] := rfl
theorem za9 : G.owned 99 = true := rfl
theorem zh5 : G.keep 99 = true := rfl
theorem zn7 (i : Nat) : G.pre 99 i = [] := rfl
theorem zat : G.owned 100 = false := rfl
theorem zls : G.keep 100 = false := rfl
theorem qss (i : Nat) : G.pre 100 i = [] := rfl
theorem z6h : G.owned 101 = false := rfl
theorem z1y : G.keep 101 = false := rfl
theorem zo6 (i : Nat) : G.pre 101 i = [] := rfl
theorem z8d : G.owned 102 = false := rfl
theorem z7f : G.keep 102 = false := rfl
theorem zf8 (i : Nat) : G.pre 102 i = [] := rfl
theorem z2w : G.owned 103 = false := rfl
theorem z7n : G.keep 103 = false := rfl
theorem zal (i : Nat) : G.pre 103 i = [] := rfl
theorem quq : G.owned 104 = false := rfl
theorem zlu : G.keep 104 = false := rfl
theorem z4y (i : Nat) : G.pre 104 i = [] := rfl
theorem z0y : G.owned 111 = false := rfl
theorem zqx : G.keep 111 = false := rfl
theorem que (i : Nat) : G.pre 111 i = [] := rfl
theorem zj2 : G.owned 112 = false := rfl
theorem zbh : G.keep 112 = false := rfl
theorem zc0 (i : Nat) : G.pre 112 i = [] := rfl
theorem qsa : G.owned 113 = false := rfl
theorem qr8 : G.keep 113 = false := rfl
theorem zpq (i : Nat) : G.pre 113 i = [] := rfl
theorem zm9 : G.owned 114 = false := rfl
theorem zcc : G.keep 114 = false := rfl
theorem z7h (i : Nat) : G.pre 114 i = [] := rfl
theorem qsi : G.owned 115 = false := rfl
theorem z1k : G.keep 115 = false := rfl
theorem qud (i : Nat) : G.pre 115 i = [] := rfl
theorem znm : G.owned 116 = false := rfl
theorem zec : G.keep 116 = false := rfl
theorem qt5 (i : Nat) : G.pre 116 i = [] := rfl
theorem z5w : G.owned 117 = false := rfl
theorem qse : G.keep 117 = false := rfl
theorem qq7 (i : Nat) : G.pre 117 i = [] := rfl
theorem z7w : G.owned 118 = false := rfl
theorem zlc : G.keep 118 = false := rfl
theorem zha (i : Nat) : G.pre 118 i = [] := rfl
theorem z1n : G.owned 119 = false := rfl
theorem zbs : G.keep 119 = false := rfl
theorem zio (i : Nat) : G.pre 119 i = [] := rfl
theorem zea : G.owned 120 = false := rfl
theorem qxh : G.keep 120 = false := rfl
theorem qzu (i : Nat) : G.pre 120 i = [] := rfl
theorem zrb : G.owned 121 = false := rfl
theorem z3p : G.keep 121 = true := rfl
theorem zki (i : Nat) : G.pre 121 i = [] := rfl
theorem z4p : G.owned 122 = false := rfl
theorem qyn : G.keep 122 = false := rfl
theorem zgy (i : Nat) : G.pre 122 i = [] := rfl
theorem qzx : G.owned 123 = false := rfl
theorem zml : G.keep 123 = false := rfl
theorem qs6 (i : Nat) : G.pre 123 i = [] := rfl
theorem qyh : G.owned 124 = false := rfl
theorem zhq : G.keep 124 = false := rfl
theorem z3t (i : Nat) : G.pre 124 i = [] := rfl
theorem z97 : G.owned 125 = false := rfl
theorem zpp : G.keep 125 = false := rfl
theorem qzl (i : Nat) : G.pre 125 i = [] := rfl
theorem qug : G.owned 127 = false := rfl
theorem zgl : G.keep 127 = false := rfl
theorem za1 (i : Nat) : G.pre 127 i = [] := rfl
theorem zhn : G.owned 128 = false := rfl
theorem z7p : G.keep 128 = false := rfl
theorem z3r (i : Nat) : G.pre 128 i = [] := rfl
theorem za3 : G.owned 129 = false := rfl
theorem za7 : G.keep 129 = false := rfl
theorem z8f (i : Nat) : G.pre 129 i = [] := rfl
theorem z7z : G.owned 130 = false := rfl
theorem znu : G.keep 130 = false := rfl
theorem zbu (i : Nat) : G.pre 130 i = [] := rfl
theorem z1g : G.owned 131 = false := rfl
theorem zjw : G.keep 131 = false := rfl
theorem zi8 (i : Nat) : G.pre 131 i = [] := rfl
theorem zbd : G.owned 132 = false := rfl
theorem z0d : G.keep 132 = false := rfl
theorem zh1 (i : Nat) : G.pre 132 i = [] := rfl
theorem zob : G.owned 133 = false := rfl
theorem zaj : G.keep 133 = false := rfl
theorem ziw (i : Nat) : G.pre 133 i = [] := rfl
theorem qzq : G.owned 134 = false := rfl
theorem z1f : G.keep 134 = false := rfl
theorem qxj (i : Nat) : G.pre 134 i = [] := rfl
theorem z9w : G.owned 135 = false := rfl
theorem zeu : G.keep 135 = false := rfl
theorem qt4 (i : Nat) : G.pre 135 i = [] := rfl
theorem z9b : G.owned 136 = false := rfl
theorem qyf : G.keep 136 = false := rfl
theorem qwc (i : Nat) : G.pre 136 i = [] := rfl
theorem zl2 : G.owned 137 = false := rfl
theorem zqb : G.keep 137 = false := rfl
theorem zmx (i : Nat) : G.pre 137 i = [] := rfl
theorem qyk : G.owned 138 = false := rfl
theorem zph : G.keep 138 = false := rfl
theorem zq8 (i : Nat) : G.pre 138 i = [] := rfl
theorem qx2 : G.owned 139 = false := rfl
theorem qya : G.keep 139 = false := rfl
theorem qvt (i : Nat) : G.pre 139 i = [] := rfl
theorem z15 : G.owned 140 = false := rfl
theorem znz : G.keep 140 = false := rfl
theorem zjv (i : Nat) : G.pre 140 i = [] := rfl
theorem zl6 : G.owned 141 = false := rfl
theorem qyb : G.keep 141 = false := rfl
theorem znw (i : Nat) : G.pre 141 i = [] := rfl
theorem qts : G.owned 142 = false := rfl
theorem zh6 : G.keep 142 = false := rfl
theorem z3o (i : Nat) : G.pre 142 i = [] := rfl
theorem zjt : G.owned 143 = false := rfl
theorem zs6 : G.keep 143 = false := rfl
theorem qrt (i : Nat) : G.pre 143 i = [] := rfl
theorem qw4 : G.owned 144 = false := rfl
theorem z0q : G.keep 144 = false := rfl
theorem qq2 (i : Nat) : G.pre 144 i = [] := rfl
theorem zij : G.owned 145 = false := rfl
theorem qq1 : G.keep 145 = false := rfl
theorem z3z (i : Nat) : G.pre 145 i = [] := rfl
theorem zkw : G.owned 146 = false := rfl
theorem z0z : G.keep 146 = false := rfl
theorem zmk (i : Nat) : G.pre 146 i = [] := rfl
theorem z6d : G.owned 147 = false := rfl
theorem zmr : G.keep 147 = false := rfl
theorem zf7 (i : Nat) : G.pre 147 i = [] := rfl
theorem zcp : G.owned 148 = false := rfl
theorem z8r : G.keep 148 = false := rfl
theorem zdl (i : Nat) : G.pre 148 i = [] := rfl
theorem z6l : G.owned 149 = false := rfl
theorem qv7 : G.keep 149 = false := rfl
theorem qva (i : Nat) : G.pre 149 i = [] := rfl
theorem qx3 : G.owned 150 = false := rfl
theorem z0e : G.keep 150 = false := rfl
theorem qvh (i : Nat) : G.pre 150 i = [] := rfl
theorem ze2 : G.owned 151 = false := rfl
theorem zmv : G.keep 151 = false := rfl
theorem z1m (i : Nat) : G.pre 151 i = [] := rfl
theorem zi6 : G.owned 152 = false := rfl
theorem z2f : G.keep 152 = false := rfl
theorem z81 (i : Nat) : G.pre 152 i = [] := rfl
theorem z09 : G.owned 153 = false := rfl
theorem zb4 : G.keep 153 = false := rfl
theorem qtg (i : Nat) : G.pre 153 i = [] := rfl
theorem qwl : G.owned 154 = false := rfl
theorem ztc : G.keep 154 = false := rfl
theorem zor (i : Nat) : G.pre 154 i = [] := rfl
theorem znf : G.owned 155 = false := rfl
theorem z4g : G.keep 155 = false := rfl
theorem qqn (i : Nat) : G.pre 155 i = [] := rfl
theorem z6f : G.owned 156 = false := rfl
theorem zen : G.keep 156 = false := rfl
theorem z0p : G.pre 156 0 = [] := rfl
theorem zkx : G.pre 156 1 = [] := rfl
theorem zbo : G.pre 156 2 = [] := rfl
theorem zqc : G.pre 156 3 = [] := rfl
theorem zta : G.pre 156 4 = [] := rfl
theorem zp1 : G.pre 156 5 = [] := rfl
theorem zhv : G.pre 156 6 = [] := rfl
theorem qzo : G.pre 156 7 = [11] := rfl
theorem zfb : G.pre 156 8 = [] := rfl
theorem z6i : G.pre 156 9 = [] := rfl
theorem z2h : G.pre 156 10 = [] := rfl
theorem qyl : G.pre 156 11 = [] := rfl
theorem zdv : G.pre 156 12 = [] := rfl
theorem zfp : G.pre 156 13 = [] := rfl
theorem qy3 : G.pre 156 14 = [] := rfl
theorem z5p : G.pre 156 15 = [] := rfl
theorem qvr : G.pre 156 16 = [] := rfl
theorem qq9 : G.pre 156 17 = [] := rfl
theorem z8b : G.pre 156 18 = [] := rfl
theorem zq7 : G.pre 156 19 = [] := rfl
theorem z1j : G.pre 156 20 = [] := rfl
theorem zf2 : G.pre 156 21 = [] := rfl
theorem zia : G.pre 156 22 = [] := rfl
theorem zfr : G.pre 156 23 = [] := rfl
theorem zt2 : G.pre 156 24 = [] := rfl
theorem zn3 : G.pre 156 25 = [] := rfl
theorem zde : G.pre 156 26 = [] := rfl
theorem zsy : G.pre 156 27 = [] := rfl
theorem qyy : G.pre 156 28 = [] := rfl
theorem z7x : G.pre 156 29 = [] := rfl
theorem z01 : G.pre 156 30 = [] := rfl
theorem zlr : G.pre 156 31 = [] := rfl
theorem zfm : G.pre 156 32 = [] := rfl
theorem zay : G.pre 156 33 = [] := rfl
theorem z1r : G.pre 156 34 = [] := rfl
theorem z2j : G.pre 156 35 = [] := rfl
theorem zcj : G.pre 156 36 = [] := rfl
theorem znl : G.pre 156 37 = [] := rfl
theorem z2v : G.pre 156 38 = [] := rfl
theorem zge : G.pre 156 39 = [] := rfl
theorem zct : G.pre 156 40 = [] := rfl
theorem zgs : G.pre 156 41 = [] := rfl
theorem zks : G.pre 156 42 = [] := rfl
theorem zbf : G.pre 156 43 = [] := rfl
theorem qtt : G.pre 156 44 = [] := rfl
theorem z2s : G.pre 156 45 = [] := rfl
theorem z2q : G.pre 156 46 = [] := rfl
theorem qvy : G.pre 156 47 = [] := rfl
theorem zas : G.pre 156 48 = [] := rfl
theorem zkl : G.pre 156 49 = [] := rfl
theorem zdk : G.pre 156 50 = [] := rfl
theorem qrr : G.pre 156 51 = [] := rfl
theorem zel : G.pre 156 52 = [] := rfl
theorem qrh : G.pre 156 53 = [] := rfl
theorem zjq : G.pre 156 54 = [] := rfl
theorem z2o : G.pre 156 55 = [] := rfl
theorem znv : G.pre 156 56 = [] := rfl
theorem qt9 : G.pre 156 57 = [] := rfl
theorem qry : G.pre 156 58 = [] := rfl
theorem zjs : G.pre 156 59 = [] := rfl
theorem z0a : G.pre 156 60 = [] := rfl
theorem zgh : G.pre 156 61 = [] := rfl
theorem z00 : G.pre 156 62 = [] := rfl
theorem zhc : G.pre 156 63 = [] := rfl
theorem zi9 : G.pre 156 64 = [] := rfl
theorem zqw : G.pre 156 65 = [] := rfl
theorem z8w : G.pre 156 66 = [] := rfl
theorem z7g : G.owned 157 = false := rfl
theorem zol : G.keep 157 = false := rfl
theorem zdn (i : Nat) : G.pre 157 i = [] := rfl
theorem z2n : G.owned 158 = false := rfl
theorem z0s : G.keep 158 = false := rfl
theorem qyw (i : Nat) : G.pre 158 i = [] := rfl
theorem qr2 : G.owned 159 = false := rfl
theorem zkt : G.keep 159 = false := rfl
theorem zt3 (i : Nat) : G.pre 159 i = [] := rfl
theorem zc6 : G.owned 160 = false := rfl
theorem qq8 : G.keep 160 = false := rfl
theorem qqg (i : Nat) : G.pre 160 i = [] := rfl
theorem zq1 : G.owned 161 = false := rfl
theorem z8i : G.keep 161 = false := rfl
theorem zlp (i : Nat) : G.pre 161 i = [] := rfl
theorem qyq : G.owned 162 = false := rfl
theorem zam : G.keep 162 = false := rfl
theorem z1c (i : Nat) : G.pre 162 i = [] := rfl
theorem qq6 : G.spec 4 0 = ⟨[3,5,6],[2],[],[],[],0⟩ := rfl
theorem qwo : G.spec 4 2 = ⟨[3,5,6,7,8,9],[2,3,5,6,7,8],[],[],[],0⟩ := rfl
theorem zc4 : G.spec 7 0 = ⟨[1,4,9,11,12],[4,11],[],[(11,2)],[],0⟩ := rfl
theorem zsp : G.spec 12 0 = ⟨[1,3,12,13,14],[1,3],[],[],[1],0⟩ := rfl
theorem z0u : G.spec 12 2 = ⟨[1,3,6],[6],[6],[],[],0⟩ := rfl
theorem zjy : G.spec 13 0 = ⟨[0,1,5],[4],[],[],[],0⟩ := rfl
theorem zdo : G.spec 14 0 = ⟨[1,3,4],[1,3],[],[],[1],0⟩ := rfl
theorem qyt : G.spec 14 2 = ⟨[1,3,5],[5],[5],[],[],0⟩ := rfl
theorem qsp : G.spec 14 4 = ⟨[1,3,5,6,7,8],[1,3,5,6,7],[],[],[],0⟩ := rfl
theorem zjr : G.spec 14 6 = ⟨[1,3,5,6,7,9],[1,3,5,6],[],[],[],0⟩ := rfl
theorem z19 : G.spec 19 0 = ⟨[0,4,5],[4],[],[],[],0⟩ := rfl
theorem zkv : G.spec 20 0 = ⟨[11,12,13],[11,12],[],[],[],0⟩ := rfl
theorem quu : G.spec 20 2 = ⟨[15,17,19,20],[15,17,19],[],[],[],0⟩ := rfl
theorem zj7 : G.spec 26 0 = ⟨[0,1,2],[6],[],[],[],0⟩ := rfl
theorem qv8 : G.spec 30 0 = ⟨[1,2,5,12,13,14],[5],[],[],[],0⟩ := rfl
theorem zie : G.spec 30 2 = ⟨[1,2,5,7,8,12,13,14],[1,2,5,12,13,14],[],[],[],0⟩ := rfl
theorem qsf : G.spec 31 0 = ⟨[0,1,7,8],[4],[],[],[],0⟩ := rfl
theorem zdi : G.spec 33 0 = ⟨[0,1,5],[0,1,5],[],[],[],0⟩ := rfl
theorem zmn : G.spec 34 0 = ⟨[0,1,5],[4],[],[],[],0⟩ := rfl
theorem qub : G.spec 35 0 = ⟨[0,1,2,7],[6],[],[],[],0⟩ := rfl
theorem zo3 : G.spec 35 2 = ⟨[0,1,2,7,8],[0,1,2,6,7],[],[],[],0⟩ := rfl
theorem qrq : G.spec 38 0 = ⟨[0,1,2,8,9],[0,1,2,8,9],[8,9],[],[],2⟩ := rfl
theorem zee : G.spec 39 0 = ⟨[0,3,4],[3],[],[],[],0⟩ := rfl
theorem zlt : G.spec 41 0 = ⟨[0,1,2,6],[],[],[(0,3),(0,4),(0,5)],[],0⟩ := rfl
theorem zdu : G.spec 42 0 = ⟨[0,2,3],[0,2],[],[],[],0⟩ := rfl
theorem zj8 : G.spec 42 2 = ⟨[0,2,4],[0],[],[],[],0⟩ := rfl
theorem zbc : G.spec 42 4 = ⟨[0,5,6],[],[5],[],[],0⟩ := rfl
theorem zdy : G.spec 43 0 = ⟨[0,3],[2],[],[],[],0⟩ := rfl
theorem qvo : G.spec 43 2 = ⟨[0,3,4,5],[0,3,4],[],[],[],0⟩ := rfl
theorem z4k : G.spec 44 0 = ⟨[0,1,3,10,11],[8,9,10],[],[(1,0),(1,1)],[],0⟩ := rfl
theorem z5c : G.spec 45 0 = ⟨[0,1,2,3,5,6,16],[2,6],[2],[],[],0⟩ := rfl
theorem zpy : G.spec 53 0 = ⟨[0,4,7,8],[0,4,7,8],[7],[],[],0⟩ := rfl
theorem zmd : G.spec 53 2 = ⟨[0,4,12,14],[0,4,5,6,12,14],[],[],[],0⟩ := rfl
theorem quk : G.spec 54 0 = ⟨[0,1,6,7],[0,1,6,7],[6,7],[],[],2⟩ := rfl
theorem zna : G.spec 56 0 = ⟨[0,3,4],[3],[3],[],[],0⟩ := rfl
theorem zj6 : G.spec 57 0 = ⟨[0,3],[2],[],[],[],0⟩ := rfl
theorem qsn : G.spec 59 0 = ⟨[0,1,2,7,8,9],[7],[7],[],[],0⟩ := rfl
theorem zo1 : G.spec 60 0 = ⟨[0,1,6],[4,5],[],[],[],0⟩ := rfl
theorem zni : G.spec 61 0 = ⟨[0,3,4],[2],[],[],[],0⟩ := rfl
theorem zd8 : G.spec 62 0 = ⟨[0,3,5,8,9,10],[0,3,5,8,9],[],[(9,17)],[],0⟩ := rfl
theorem z3f : G.spec 63 0 = ⟨[0,1,5],[0,1,4],[],[],[],0⟩ := rfl
theorem zit : G.spec 64 0 = ⟨[0,1,5],[4],[],[],[],0⟩ := rfl
theorem zgz : G.spec 65 0 = ⟨[0,1,5],[4],[],[],[],0⟩ := rfl
theorem zdp : G.spec 66 0 = ⟨[0,1,2,7],[2],[2],[],[],0⟩ := rfl
theorem z5d : G.spec 71 0 = ⟨[0,1,7,8],[0,1,7,8],[],[],[],0⟩ := rfl
theorem z4h : G.spec 72 0 = ⟨[0,1,7],[0,1,7],[],[],[],0⟩ := rfl
theorem zdd : G.spec 74 0 = ⟨[0,1,7],[0,1,7],[7],[],[],0⟩ := rfl
theorem qxx : G.spec 75 0 = ⟨[2,3,5],[4],[],[],[],0⟩ := rfl
theorem qxq : G.spec 77 0 = ⟨[0,3],[2],[],[],[],0⟩ := rfl
theorem zk3 : G.spec 79 0 = ⟨[0,1,5],[4],[],[],[],0⟩ := rfl
theorem znn : G.spec 81 0 = ⟨[1,3,9,10,14,15,16],[1,6,7,8,10,14,15],[],[],[],0⟩ := rfl
theorem zmg : G.spec 95 0 = ⟨[0,3,4,5],[3],[3],[],[],0⟩ := rfl
theorem z2t : G.spec 96 0 = ⟨[0,1,4,6],[4,5],[6],[],[],0⟩ := rfl
theorem z9n : G.spec 96 2 = ⟨[0,1,4,6,7],[0,1,4,5,6,7],[7],[],[],0⟩ := rfl
theorem zr1 : G.spec 97 1 = ⟨[0,4,8,10,11],[4,5,6],[],[],[],0⟩ := rfl
theorem zh7 : G.spec 100 0 = ⟨[2,3,5],[2,3,4],[],[],[],0⟩ := rfl
theorem za4 : G.spec 100 2 = ⟨[2,3,6],[4],[],[],[],0⟩ := rfl
theorem zoj : G.spec 102 0 = ⟨[4,11,12,13],[8,9,10,11,12],[12],[],[],0⟩ := rfl
theorem zrw : G.spec 104 0 = ⟨[1,3,5,7,8],[3,7],[7],[],[],0⟩ := rfl
theorem z9e : G.spec 118 0 = ⟨[0,1,2,9],[0,1,9],[9],[],[],0⟩ := rfl
theorem zg6 : G.spec 120 0 = ⟨[0,3],[2],[],[],[],0⟩ := rfl
theorem zfk : G.spec 122 0 = ⟨[0,2,4,6],[6,7],[],[],[],0⟩ := rfl
theorem zoy : G.spec 123 0 = ⟨[0,1,5],[4],[],[],[],0⟩ := rfl
theorem zb5 : G.spec 125 0 = ⟨[0,1,5,6],[5],[],[],[],0⟩ := rfl
theorem zbn : G.spec 129 0 = ⟨[0,1,5,6],[5],[5],[],[],0⟩ := rfl
theorem zf6 : G.spec 130 0 = ⟨[1,3,4],[3],[],[],[],0⟩ := rfl
theorem ze1 : G.spec 131 0 = ⟨[1,3,4],[1,3],[],[],[],0⟩ := rfl
theorem z1e : G.spec 132 0 = ⟨[1,3,4],[1,2,3],[],[],[],0⟩ := rfl
theorem qwh : G.spec 132 3 = ⟨[1,3,5],[1,2,3],[],[],[],0⟩ := rfl
theorem zmo : G.spec 132 5 = ⟨[1,3,6],[1,2,3],[],[],[],0⟩ := rfl
theorem zq6 : G.spec 133 0 = ⟨[0,3,4],[3],[3],[],[],0⟩ := rfl
theorem z0v : G.spec 134 0 = ⟨[0,2,4,6,8,9],[0,2,4,6,8],[8],[],[],0⟩ := rfl
theorem qwm : G.spec 135 1 = ⟨[6,7],[6],[],[],[],0⟩ := rfl
theorem qy4 : G.spec 135 3 = ⟨[6,8],[6],[],[],[],0⟩ := rfl
theorem qsj : G.spec 135 5 = ⟨[1,9,10,11],[10],[],[],[],0⟩ := rfl
theorem qtb : G.spec 136 0 = ⟨[0,2,4,5],[2,3,4,5],[5],[],[],0⟩ := rfl
theorem zqv : G.spec 139 0 = ⟨[0,4,5],[4,5],[],[],[],0⟩ := rfl
theorem qq3 : G.spec 141 0 = ⟨[0,3],[2],[],[],[],0⟩ := rfl
theorem zcu : G.spec 143 0 = ⟨[1,3,4],[3],[],[],[],0⟩ := rfl
theorem zan : G.spec 144 1 = ⟨[0,1,2,3,12,13,14],[0,2,3,12],[],[],[],0⟩ := rfl
theorem qtq : G.spec 144 3 = ⟨[0,1,2,3,15,16],[8,9,10],[],[],[],0⟩ := rfl
theorem zg9 : G.spec 147 0 = ⟨[0,3,4],[3],[3],[],[],0⟩ := rfl
theorem zsz : G.spec 149 0 = ⟨[0,3,4],[3],[],[],[3],0⟩ := rfl
theorem z0l : G.spec 149 2 = ⟨[0,3,4,5,6],[0,3,4,5,6],[],[],[],0⟩ := rfl
theorem quf : G.spec 149 4 = ⟨[3,7,8],[7],[7],[],[],0⟩ := rfl
theorem zk5 : G.spec 150 0 = ⟨[3,4],[3],[],[],[],0⟩ := rfl
theorem zh4 : G.spec 156 0 = ⟨[0,1,2,11,12],[0,1,2,11],[],[],[],0⟩ := rfl
theorem qto : G.spec 161 0 = ⟨[0,1,5],[4],[],[],[],0⟩ := rfl
theorem zl3 : G.spec 162 0 = ⟨[3,4],[3],[],[],[],0⟩ := rfl
theorem fz1 : G.frz 1 = false := rfl
theorem fz2 : G.frz 2 = false := rfl
theorem fz3 : G.frz 3 = false := rfl
theorem fz4 : G.frz 4 = false := rfl
theorem fz5 : G.frz 5 = false := rfl
theorem fz6 : G.frz 6 = false := rfl
theorem fz7 : G.frz 7 = false := rfl
theorem fz8 : G.frz 8 = false := rfl
theorem fz9 : G.frz 9 = false := rfl
theorem zoi : G.frz 10 = false := rfl
theorem z2i : G.frz 11 = false := rfl
theorem zix : G.frz 12 = false := rfl
theorem zmq : G.frz 13 = false := rfl
theorem z5m : G.frz 14 = false := rfl
theorem zjg : G.frz 15 = false := rfl
theorem z5j : G.frz 16 = false := rfl
theorem zne : G.frz 17 = false := rfl
theorem qri : G.frz 18 = false := rfl
theorem qtr : G.frz 19 = false := rfl
theorem qq0 : G.frz 20 = false := rfl
theorem ziq : G.frz 21 = false := rfl
theorem zst : G.frz 22 = false := rfl
theorem zkh : G.frz 23 = false := rfl
theorem z5f : G.frz 24 = false := rfl
theorem zrp : G.frz 25 = false := rfl
theorem qxe : G.frz 26 = false := rfl
theorem zrh : G.frz 28 = false := rfl
theorem zra : G.frz 29 = false := rfl
theorem zku : G.frz 30 = false := rfl
theorem z5l : G.frz 31 = false := rfl
theorem zi7 : G.frz 32 = false := rfl
theorem zgq : G.frz 33 = false := rfl
theorem qzi : G.frz 34 = false := rfl
theorem z5k : G.frz 35 = false := rfl
theorem zpj : G.frz 36 = false := rfl
theorem zng : G.frz 37 = false := rfl
theorem zop : G.frz 38 = false := rfl
theorem zl5 : G.frz 39 = false := rfl
theorem zg2 : G.frz 40 = false := rfl
theorem z4c : G.frz 41 = false := rfl
theorem zl1 : G.frz 42 = false := rfl
theorem zaw : G.frz 43 = false := rfl
theorem qus : G.frz 44 = false := rfl
theorem qwx : G.frz 45 = false := rfl
theorem zjk : G.frz 46 = false := rfl
theorem z9q : G.frz 47 = false := rfl
theorem zgf : G.frz 48 = false := rfl
theorem ze8 : G.frz 49 = false := rfl
theorem z7q : G.frz 50 = false := rfl
theorem zre : G.frz 51 = false := rfl
theorem zlb : G.frz 52 = false := rfl
theorem zpv : G.frz 53 = false := rfl
theorem z1p : G.frz 54 = false := rfl
theorem zb2 : G.frz 55 = false := rfl
theorem z2e : G.frz 56 = false := rfl
theorem qt1 : G.frz 58 = false := rfl
theorem z1x : G.frz 60 = false := rfl
theorem zc1 : G.frz 62 = false := rfl
theorem zqr : G.frz 63 = false := rfl
theorem zf5 : G.frz 64 = false := rfl
theorem qu7 : G.frz 65 = false := rfl
theorem zim : G.frz 66 = false := rfl
theorem qro : G.frz 67 = false := rfl
theorem z5e : G.frz 68 = false := rfl
theorem z9x : G.frz 69 = false := rfl
theorem z7k : G.frz 70 = false := rfl
theorem z7s : G.frz 71 = false := rfl
theorem quw : G.frz 72 = false := rfl
theorem qvd : G.frz 73 = false := rfl
theorem zru : G.frz 74 = false := rfl
theorem zo2 : G.frz 75 = false := rfl
theorem z0g : G.frz 76 = false := rfl
theorem z7l : G.frz 77 = false := rfl
theorem zpn : G.frz 78 = false := rfl
theorem zch : G.frz 79 = false := rfl
theorem zmj : G.frz 80 = false := rfl
theorem qxz : G.frz 81 = false := rfl
theorem qx0 : G.frz 82 = false := rfl
theorem zno : G.frz 83 = false := rfl
theorem qt0 : G.frz 85 = false := rfl
theorem qrz : G.frz 87 = false := rfl
theorem z7m : G.frz 88 = false := rfl
theorem zse : G.frz 89 = false := rfl
theorem ze6 : G.frz 90 = false := rfl
theorem qzm : G.frz 91 = false := rfl
theorem z1o : G.frz 92 = false := rfl
theorem qxr : G.frz 93 = false := rfl
theorem zms : G.frz 94 = false := rfl
theorem zkc : G.frz 95 = false := rfl
theorem zgp : G.frz 96 = false := rfl
theorem zgv : G.frz 97 = false := rfl
theorem z1z : G.frz 98 = false := rfl
theorem qqz : G.frz 99 = false := rfl
theorem z4n : G.frz 100 = false := rfl
theorem zk9 : G.frz 102 = false := rfl
theorem zqy : G.frz 104 = false := rfl
theorem zp8 : G.frz 105 = false := rfl
theorem zrv : G.frz 106 = false := rfl
theorem zke : G.frz 107 = false := rfl
theorem zjl : G.frz 109 = false := rfl
theorem zcn : G.frz 111 = false := rfl
theorem z1b : G.frz 112 = false := rfl
theorem z6g : G.frz 113 = false := rfl
theorem zqa : G.frz 114 = false := rfl
theorem zbz : G.frz 115 = false := rfl
theorem zot : G.frz 116 = false := rfl
theorem qsr : G.frz 118 = false := rfl
theorem qwq : G.frz 119 = false := rfl
theorem qxd : G.frz 120 = false := rfl
theorem zd3 : G.frz 121 = false := rfl
theorem z4v : G.frz 122 = false := rfl
theorem z4d : G.frz 123 = false := rfl
theorem qz8 : G.frz 124 = false := rfl
theorem zi5 : G.frz 125 = false := rfl
theorem zc2 : G.frz 126 = false := rfl
theorem zdh : G.frz 128 = false := rfl
theorem qwj : G.frz 130 = false := rfl
theorem zox : G.frz 132 = false := rfl
theorem z5r : G.frz 134 = false := rfl
theorem qvl : G.frz 135 = false := rfl
theorem qrg : G.frz 136 = false := rfl
theorem z6s : G.frz 137 = false := rfl
theorem z8x : G.frz 138 = false := rfl
theorem z0j : G.frz 139 = false := rfl
theorem zja : G.frz 141 = false := rfl
theorem qys : G.frz 142 = false := rfl
theorem z5s : G.frz 143 = false := rfl
theorem qup : G.frz 145 = false := rfl
theorem zds : G.frz 146 = false := rfl
theorem z8v : G.frz 147 = false := rfl
theorem zfu : G.frz 148 = false := rfl
theorem qrn : G.frz 149 = false := rfl
theorem zq4 : G.frz 150 = false := rfl
theorem z6t : G.frz 151 = false := rfl
theorem zpk : G.frz 152 = false := rfl
theorem zso : G.frz 153 = false := rfl
theorem zjh : G.frz 154 = false := rfl
theorem zi4 : G.frz 155 = false := rfl
theorem zb6 : G.frz 156 = false := rfl
theorem qrf : G.frz 157 = false := rfl
theorem z4a : G.frz 158 = false := rfl
theorem zlg : G.frz 159 = false := rfl
theorem zgx : G.frz 160 = false := rfl
theorem zn4 : G.frz 162 = false := rfl
theorem zl9 : G.frz 163 = false := rfl
theorem zdt : G.frz 164 = false := rfl
theorem zma : G.frz 165 = false := rfl
theorem qwe : G.frz 166 = false := rfl
theorem qu9 : G.frz 168 = false := rfl
theorem qs1 : G.frz 169 = false := rfl
theorem z5i : G.frz 170 = false := rfl
theorem zkk : G.frz 172 = false := rfl
theorem zcl : G.frz 173 = false := rfl
theorem zsa : G.frz 174 = false := rfl
theorem zqm : G.frz 175 = false := rfl
theorem qxa : G.frz 176 = false := rfl
theorem zcw : G.frz 177 = false := rfl
theorem qx4 : G.frz 178 = false := rfl
theorem zl4 : G.frz 179 = false := rfl
theorem qqm : G.frz 180 = false := rfl
theorem z9m : G.frz 181 = false := rfl
theorem zn1 : G.frz 182 = false := rfl
theorem zr6 : G.frz 183 = false := rfl
theorem z1t : G.frz 184 = false := rfl
theorem zfj : G.frz 185 = false := rfl
theorem zqh : G.frz 186 = false := rfl
theorem qv0 : G.frz 187 = false := rfl
theorem qxc : G.frz 188 = false := rfl
theorem zog : G.frz 189 = false := rfl
theorem zlz : G.frz 190 = false := rfl
theorem z0i : G.frz 191 = false := rfl
theorem zom : G.frz 193 = false := rfl
theorem qyv : G.frz 194 = false := rfl
theorem zld : G.frz 195 = false := rfl
theorem zln : G.frz 196 = false := rfl
theorem qvf : G.frz 198 = false := rfl
theorem z8s : G.frz 199 = false := rfl
theorem zo0 : G.frz 200 = false := rfl
theorem ze0 : G.frz 201 = false := rfl
theorem zfo : G.frz 202 = false := rfl
theorem zpf : G.frz 203 = false := rfl
theorem ziy : G.frz 204 = false := rfl
theorem zk0 : G.frz 205 = false := rfl
theorem zef : G.frz 206 = false := rfl
theorem zpd : G.frz 208 = false := rfl
theorem qvx : G.frz 209 = false := rfl
theorem z2u : G.frz 210 = false := rfl
theorem z1h : G.frz 211 = true := rfl
theorem qqb : G.frz 212 = false := rfl
theorem qsq : G.frz 214 = false := rfl
theorem qxt : G.frz 215 = false := rfl
theorem z2a : G.frz 216 = false := rfl
theorem z4o : G.frz 218 = false := rfl
theorem qzf : G.frz 219 = false := rfl
theorem zcx : G.frz 220 = false := rfl
theorem zq9 : G.frz 221 = false := rfl
theorem qux : G.frz 222 = false := rfl
theorem zoz : G.frz 223 = false := rfl
theorem z2c : G.frz 224 = false := rfl
theorem z4i : G.frz 225 = false := rfl
theorem ze3 : G.frz 226 = false := rfl
theorem qzc : G.frz 227 = false := rfl
theorem zqd : G.frz 228 = false := rfl
theorem z4q : G.frz 229 = false := rfl
theorem z9g : G.frz 230 = false := rfl
theorem zda : G.frz 231 = false := rfl
theorem ziu : G.frz 232 = false := rfl
theorem qta : G.frz 233 = false := rfl
theorem zqk : G.frz 234 = false := rfl
theorem zcs : G.frz 235 = false := rfl
theorem zga : G.frz 236 = false := rfl
theorem ti3 : G.ti 3 = some ⟨1,8,.int .i64,[.int .i64 0],false⟩ := by kernel_rfl
theorem ti4 : G.ti 4 = some ⟨1,1,.bool,[.bool false],false⟩ := by kernel_rfl
theorem ti5 : G.ti 5 = some ⟨1,1,.int .u8,[.int .u8 0],false⟩ := by kernel_rfl
theorem ti9 : G.ti 9 = some ⟨1,16,.string,[.str []],false⟩ := by kernel_rfl
theorem zsc : G.ti 23 = some ⟨2,16,.struct [(0,1,3),(1,1,3)],[.int .i64 0,.int .i64 0],true⟩ := by kernel_rfl
theorem qx7 : G.ti 24 = some ⟨1,24,.slice 41,[.sl true 0 []],false⟩ := by kernel_rfl
theorem zoe : G.ti 26 = some ⟨3,40,.struct [(0,2,23),(2,1,24)],[.int .i64 0,.int .i64 0,.sl true 0 []],false⟩ := by kernel_rfl
theorem z5v : G.ti 32 = some ⟨1,24,.slice 185,[.sl true 0 []],false⟩ := by kernel_rfl
theorem z6c : G.ti 33 = some ⟨1,24,.slice 35,[.sl true 0 []],false⟩ := by kernel_rfl
theorem znb : G.ti 35 = some ⟨8,104,.struct [(0,1,3),(1,1,9),(2,1,4),(3,1,32),(4,1,3),(5,1,3),(6,1,4),(7,1,33)],[.int .i64 0,.str [],.bool false,.sl true 0 [],.int .i64 0,.int .i64 0,.bool false,.sl true 0 []],true⟩ := by kernel_rfl
theorem zsd : G.ti 36 = some ⟨1,24,.slice 160,[.sl true 0 []],false⟩ := by kernel_rfl
theorem zb7 : G.ti 38 = some ⟨11,136,.struct [(0,8,35),(8,1,36),(9,1,4),(10,1,4)],[.int .i64 0,.str [],.bool false,.sl true 0 [],.int .i64 0,.int .i64 0,.bool false,.sl true 0 [],.sl true 0 [],.bool false,.bool false],false⟩ := by kernel_rfl
theorem zc7 : G.ti 39 = some ⟨1,24,.slice 9,[.sl true 0 []],false⟩ := by kernel_rfl
theorem zhd : G.ti 41 = some ⟨18,200,.struct [(0,2,23),(2,1,3),(3,1,3),(4,1,4),(5,1,4),(6,11,38),(17,1,39)],[.int .i64 0,.int .i64 0,.int .i64 0,.int .i64 0,.bool false,.bool false,.int .i64 0,.str [],.bool false,.sl true 0 [],.int .i64 0,.int .i64 0,.bool false,.sl true 0 [],.sl true 0 [],.bool false,.bool false,.sl true 0 []],false⟩ := by kernel_rfl
theorem zme : G.ti 43 = some ⟨1,24,.slice 3,[.sl true 0 []],false⟩ := by kernel_rfl
theorem zi3 : G.ti 51 = some ⟨1,24,.slice 23,[.sl true 0 []],false⟩ := by kernel_rfl
theorem zro : G.ti 55 = some ⟨1,24,.slice 83,[.sl true 0 []],false⟩ := by kernel_rfl
theorem zca : G.ti 56 = some ⟨1,8,.int .i64,[.int .i64 0],false⟩ := by kernel_rfl
theorem zje : G.ti 64 = some ⟨1,8,.map 3 3,[.nilmap],false⟩ := by kernel_rfl
theorem z3a : G.ti 81 = some ⟨3,64,.struct [(0,1,9),(1,1,55),(2,1,43)],[.str [],.sl true 0 [],.sl true 0 []],true⟩ := by kernel_rfl
theorem qqk : G.ti 83 = some ⟨18,224,.struct [(0,1,3),(1,1,9),(2,1,3),(3,1,4),(4,1,4),(5,11,38),(16,1,39),(17,1,55)],[.int .i64 0,.str [],.int .i64 0,.bool false,.bool false,.int .i64 0,.str [],.bool false,.sl true 0 [],.int .i64 0,.int .i64 0,.bool false,.sl true 0 [],.sl true 0 [],.bool false,.bool false,.sl true 0 [],.sl true 0 []],false⟩ := by kernel_rfl
theorem ze4 : G.ti 89 = some ⟨1,24,.slice 138,[.sl true 0 []],false⟩ := by kernel_rfl
theorem zo9 : G.ti 92 = some ⟨1,24,.slice 97,[.sl true 0 []],false⟩ := by kernel_rfl
theorem zpb : G.ti 94 = some ⟨6,128,.struct [(0,1,89),(1,1,9),(2,1,9),(3,1,92),(4,1,43),(5,1,39)],[.sl true 0 [],.str [],.str [],.sl true 0 [],.sl true 0 [],.sl true 0 []],true⟩ := by kernel_rfl
theorem qu3 : G.ti 97 = some ⟨20,216,.struct [(0,1,3),(1,1,9),(2,1,3),(3,1,4),(4,1,4),(5,1,4),(6,11,38),(17,1,39),(18,1,3),(19,1,3)],[.int .i64 0,.str [],.int .i64 0,.bool false,.bool false,.bool false,.int .i64 0,.str [],.bool false,.sl true 0 [],.int .i64 0,.int .i64 0,.bool false,.sl true 0 [],.sl true 0 [],.bool false,.bool false,.sl true 0 [],.int .i64 0,.int .i64 0],false⟩ := by kernel_rfl
theorem zhu : G.ti 100 = some ⟨2,48,.struct [(0,1,43),(1,1,39)],[.sl true 0 [],.sl true 0 []],true⟩ := by kernel_rfl
theorem qrd : G.ti 112 = some ⟨1,24,.slice 5,[.sl true 0 []],false⟩ := by kernel_rfl
theorem zgr : G.ti 138 = some ⟨2,32,.struct [(0,1,9),(1,1,9)],[.str [],.str []],true⟩ := by kernel_rfl
theorem zpc : G.ti 157 = some ⟨2,32,.struct [(0,1,39),(1,1,3)],[.sl true 0 [],.int .i64 0],true⟩ := by kernel_rfl
theorem zc3 : G.ti 160 = some ⟨5,56,.struct [(0,1,3),(1,1,3),(2,1,3),(3,1,9),(4,1,9)],[.int .i64 0,.int .i64 0,.int .i64 0,.str [],.str []],true⟩ := by kernel_rfl
theorem qwy : G.ti 166 = some ⟨1,24,.slice 170,[.sl true 0 []],false⟩ := by kernel_rfl
theorem zcy : G.ti 170 = some ⟨3,40,.struct [(0,2,23),(2,1,51)],[.int .i64 0,.int .i64 0,.sl true 0 []],false⟩ := by kernel_rfl
theorem z3c : G.ti 185 = some ⟨2,32,.struct [(0,1,9),(1,1,9)],[.str [],.str []],true⟩ := by kernel_rfl
theorem z6v : G.ti 191 = some ⟨5,72,.struct [(0,1,39),(1,1,43),(2,1,4),(3,1,3),(4,1,4)],[.sl true 0 [],.sl true 0 [],.bool false,.int .i64 0,.bool false],true⟩ := by kernel_rfl
theorem zji : G.ti 209 = some ⟨1,8,.ptr,[.nilptr],false⟩ := by kernel_rfl
theorem z8a : G.ti 211 = some ⟨13,144,.struct [(0,1,3),(1,8,35),(9,1,3),(10,1,3),(11,1,3),(12,1,209)],[.int .i64 0,.int .i64 0,.str [],.bool false,.sl true 0 [],.int .i64 0,.int .i64 0,.bool false,.sl true 0 [],.int .i64 0,.int .i64 0,.int .i64 0,.nilptr],false⟩ := by kernel_rfl
theorem fn4 : G.fn 4 = some ⟨Tryz.f4.ntmps,Tryz.f4.results.toList,Tryz.f4.body.get!⟩ := by kernel_rfl
theorem fn7 : G.fn 7 = some ⟨Tryz.f7.ntmps,Tryz.f7.results.toList,Tryz.f7.body.get!⟩ := by kernel_rfl
theorem qb4 : G.fn 12 = some ⟨Tryz.f12.ntmps,Tryz.f12.results.toList,Tryz.f12.body.get!⟩ := by kernel_rfl
theorem q8p : G.fn 13 = some ⟨Tryz.f13.ntmps,Tryz.f13.results.toList,Tryz.f13.body.get!⟩ := by kernel_rfl
theorem q0w : G.fn 14 = some ⟨Tryz.f14.ntmps,Tryz.f14.results.toList,Tryz.f14.body.get!⟩ := by kernel_rfl
theorem q6b : G.fn 19 = some ⟨Tryz.f19.ntmps,Tryz.f19.results.toList,Tryz.f19.body.get!⟩ := by kernel_rfl
theorem q0b : G.fn 20 = some ⟨Tryz.f20.ntmps,Tryz.f20.results.toList,Tryz.f20.body.get!⟩ := by kernel_rfl
theorem q77 : G.fn 26 = some ⟨Tryz.f26.ntmps,Tryz.f26.results.toList,Tryz.f26.body.get!⟩ := by kernel_rfl
theorem ziz : G.fn 29 = some ⟨Tryz.f29.ntmps,Tryz.f29.results.toList,Tryz.f29.body.get!⟩ := by kernel_rfl
theorem q6l : G.fn 30 = some ⟨Tryz.f30.ntmps,Tryz.f30.results.toList,Tryz.f30.body.get!⟩ := by kernel_rfl
theorem qcl : G.fn 31 = some ⟨Tryz.f31.ntmps,Tryz.f31.results.toList,Tryz.f31.body.get!⟩ := by kernel_rfl
theorem qum : G.fn 32 = some ⟨Tryz.f32.ntmps,Tryz.f32.results.toList,Tryz.f32.body.get!⟩ := by kernel_rfl
theorem q8k : G.fn 33 = some ⟨Tryz.f33.ntmps,Tryz.f33.results.toList,Tryz.f33.body.get!⟩ := by kernel_rfl
theorem qba : G.fn 34 = some ⟨Tryz.f34.ntmps,Tryz.f34.results.toList,Tryz.f34.body.get!⟩ := by kernel_rfl
theorem q1e : G.fn 35 = some ⟨Tryz.f35.ntmps,Tryz.f35.results.toList,Tryz.f35.body.get!⟩ := by kernel_rfl
theorem q29 : G.fn 37 = some ⟨Tryz.f37.ntmps,Tryz.f37.results.toList,Tryz.f37.body.get!⟩ := by kernel_rfl
theorem q1w : G.fn 38 = some ⟨Tryz.f38.ntmps,Tryz.f38.results.toList,Tryz.f38.body.get!⟩ := by kernel_rfl
theorem qdu : G.fn 39 = some ⟨Tryz.f39.ntmps,Tryz.f39.results.toList,Tryz.f39.body.get!⟩ := by kernel_rfl
theorem qk6 : G.fn 40 = some ⟨Tryz.f40.ntmps,Tryz.f40.results.toList,Tryz.f40.body.get!⟩ := by kernel_rfl
theorem yu : G.fn 41 = some ⟨Tryz.f41.ntmps,Tryz.f41.results.toList,Tryz.f41.body.get!⟩ := by kernel_rfl
theorem q0a : G.fn 42 = some ⟨Tryz.f42.ntmps,Tryz.f42.results.toList,Tryz.f42.body.get!⟩ := by kernel_rfl
theorem q1y : G.fn 43 = some ⟨Tryz.f43.ntmps,Tryz.f43.results.toList,Tryz.f43.body.get!⟩ := by kernel_rfl
theorem q0p : G.fn 44 = some ⟨Tryz.f44.ntmps,Tryz.f44.results.toList,Tryz.f44.body.get!⟩ := by kernel_rfl
theorem nu : G.fn 45 = some ⟨Tryz.f45.ntmps,Tryz.f45.results.toList,Tryz.f45.body.get!⟩ := by kernel_rfl
theorem qn2 : G.fn 48 = some ⟨Tryz.f48.ntmps,Tryz.f48.results.toList,Tryz.f48.body.get!⟩ := by kernel_rfl
theorem qha : G.fn 52 = some ⟨Tryz.f52.ntmps,Tryz.f52.results.toList,Tryz.f52.body.get!⟩ := by kernel_rfl
theorem yo : G.fn 53 = some ⟨Tryz.f53.ntmps,Tryz.f53.results.toList,Tryz.f53.body.get!⟩ := by kernel_rfl
theorem q78 : G.fn 54 = some ⟨Tryz.f54.ntmps,Tryz.f54.results.toList,Tryz.f54.body.get!⟩ := by kernel_rfl
theorem qbw : G.fn 55 = some ⟨Tryz.f55.ntmps,Tryz.f55.results.toList,Tryz.f55.body.get!⟩ := by kernel_rfl
theorem q7j : G.fn 56 = some ⟨Tryz.f56.ntmps,Tryz.f56.results.toList,Tryz.f56.body.get!⟩ := by kernel_rfl
theorem zh : G.fn 57 = some ⟨Tryz.f57.ntmps,Tryz.f57.results.toList,Tryz.f57.body.get!⟩ := by kernel_rfl
theorem z0c : G.fn 58 = some ⟨Tryz.f58.ntmps,Tryz.f58.results.toList,Tryz.f58.body.get!⟩ := by kernel_rfl
theorem q2k : G.fn 59 = some ⟨Tryz.f59.ntmps,Tryz.f59.results.toList,Tryz.f59.body.get!⟩ := by kernel_rfl
theorem qcs : G.fn 60 = some ⟨Tryz.f60.ntmps,Tryz.f60.results.toList,Tryz.f60.body.get!⟩ := by kernel_rfl
theorem qcm : G.fn 61 = some ⟨Tryz.f61.ntmps,Tryz.f61.results.toList,Tryz.f61.body.get!⟩ := by kernel_rfl
theorem q0y : G.fn 62 = some ⟨Tryz.f62.ntmps,Tryz.f62.results.toList,Tryz.f62.body.get!⟩ := by kernel_rfl
theorem qbb : G.fn 63 = some ⟨Tryz.f63.ntmps,Tryz.f63.results.toList,Tryz.f63.body.get!⟩ := by kernel_rfl
theorem q7x : G.fn 64 = some ⟨Tryz.f64.ntmps,Tryz.f64.results.toList,Tryz.f64.body.get!⟩ := by kernel_rfl
theorem qaq : G.fn 65 = some ⟨Tryz.f65.ntmps,Tryz.f65.results.toList,Tryz.f65.body.get!⟩ := by kernel_rfl
theorem q2q : G.fn 66 = some ⟨Tryz.f66.ntmps,Tryz.f66.results.toList,Tryz.f66.body.get!⟩ := by kernel_rfl
theorem q74 : G.fn 67 = some ⟨Tryz.f67.ntmps,Tryz.f67.results.toList,Tryz.f67.body.get!⟩ := by kernel_rfl
theorem q7v : G.fn 71 = some ⟨Tryz.f71.ntmps,Tryz.f71.results.toList,Tryz.f71.body.get!⟩ := by kernel_rfl
theorem q6x : G.fn 72 = some ⟨Tryz.f72.ntmps,Tryz.f72.results.toList,Tryz.f72.body.get!⟩ := by kernel_rfl
theorem qdo : G.fn 73 = some ⟨Tryz.f73.ntmps,Tryz.f73.results.toList,Tryz.f73.body.get!⟩ := by kernel_rfl
theorem q2n : G.fn 74 = some ⟨Tryz.f74.ntmps,Tryz.f74.results.toList,Tryz.f74.body.get!⟩ := by kernel_rfl
theorem q8w : G.fn 75 = some ⟨Tryz.f75.ntmps,Tryz.f75.results.toList,Tryz.f75.body.get!⟩ := by kernel_rfl
theorem q5t : G.fn 76 = some ⟨Tryz.f76.ntmps,Tryz.f76.results.toList,Tryz.f76.body.get!⟩ := by kernel_rfl
theorem q3w : G.fn 77 = some ⟨Tryz.f77.ntmps,Tryz.f77.results.toList,Tryz.f77.body.get!⟩ := by kernel_rfl
theorem zcq : G.fn 78 = some ⟨Tryz.f78.ntmps,Tryz.f78.results.toList,Tryz.f78.body.get!⟩ := by kernel_rfl
theorem q9z : G.fn 79 = some ⟨Tryz.f79.ntmps,Tryz.f79.results.toList,Tryz.f79.body.get!⟩ := by kernel_rfl
theorem qe2 : G.fn 80 = some ⟨Tryz.f80.ntmps,Tryz.f80.results.toList,Tryz.f80.body.get!⟩ := by kernel_rfl
theorem jh : G.fn 81 = some ⟨Tryz.f81.ntmps,Tryz.f81.results.toList,Tryz.f81.body.get!⟩ := by kernel_rfl
theorem qpq : G.fn 93 = some ⟨Tryz.f93.ntmps,Tryz.f93.results.toList,Tryz.f93.body.get!⟩ := by kernel_rfl
theorem qh9 : G.fn 94 = some ⟨Tryz.f94.ntmps,Tryz.f94.results.toList,Tryz.f94.body.get!⟩ := by kernel_rfl
theorem qb8 : G.fn 95 = some ⟨Tryz.f95.ntmps,Tryz.f95.results.toList,Tryz.f95.body.get!⟩ := by kernel_rfl
theorem q1x : G.fn 96 = some ⟨Tryz.f96.ntmps,Tryz.f96.results.toList,Tryz.f96.body.get!⟩ := by kernel_rfl
theorem kz : G.fn 97 = some ⟨Tryz.f97.ntmps,Tryz.f97.results.toList,Tryz.f97.body.get!⟩ := by kernel_rfl
theorem qei : G.fn 98 = some ⟨Tryz.f98.ntmps,Tryz.f98.results.toList,Tryz.f98.body.get!⟩ := by kernel_rfl
theorem qhc : G.fn 99 = some ⟨Tryz.f99.ntmps,Tryz.f99.results.toList,Tryz.f99.body.get!⟩ := by kernel_rfl
theorem q2u : G.fn 100 = some ⟨Tryz.f100.ntmps,Tryz.f100.results.toList,Tryz.f100.body.get!⟩ := by kernel_rfl
theorem qm6 : G.fn 101 = some ⟨Tryz.f101.ntmps,Tryz.f101.results.toList,Tryz.f101.body.get!⟩ := by kernel_rfl
theorem q5a : G.fn 102 = some ⟨Tryz.f102.ntmps,Tryz.f102.results.toList,Tryz.f102.body.get!⟩ := by kernel_rfl
theorem qfu : G.fn 103 = some ⟨Tryz.f103.ntmps,Tryz.f103.results.toList,Tryz.f103.body.get!⟩ := by kernel_rfl
theorem qdx : G.fn 104 = some ⟨Tryz.f104.ntmps,Tryz.f104.results.toList,Tryz.f104.body.get!⟩ := by kernel_rfl
theorem qlj : G.fn 111 = some ⟨Tryz.f111.ntmps,Tryz.f111.results.toList,Tryz.f111.body.get!⟩ := by kernel_rfl
theorem qly : G.fn 112 = some ⟨Tryz.f112.ntmps,Tryz.f112.results.toList,Tryz.f112.body.get!⟩ := by kernel_rfl
theorem q5i : G.fn 113 = some ⟨Tryz.f113.ntmps,Tryz.f113.results.toList,Tryz.f113.body.get!⟩ := by kernel_rfl
theorem qoy : G.fn 114 = some ⟨Tryz.f114.ntmps,Tryz.f114.results.toList,Tryz.f114.body.get!⟩ := by kernel_rfl
theorem qfi : G.fn 115 = some ⟨Tryz.f115.ntmps,Tryz.f115.results.toList,Tryz.f115.body.get!⟩ := by kernel_rfl
theorem qgq : G.fn 116 = some ⟨Tryz.f116.ntmps,Tryz.f116.results.toList,Tryz.f116.body.get!⟩ := by kernel_rfl
theorem q93 : G.fn 117 = some ⟨Tryz.f117.ntmps,Tryz.f117.results.toList,Tryz.f117.body.get!⟩ := by kernel_rfl
theorem q8o : G.fn 118 = some ⟨Tryz.f118.ntmps,Tryz.f118.results.toList,Tryz.f118.body.get!⟩ := by kernel_rfl
theorem qgk : G.fn 119 = some ⟨Tryz.f119.ntmps,Tryz.f119.results.toList,Tryz.f119.body.get!⟩ := by kernel_rfl
theorem xn : G.fn 120 = some ⟨Tryz.f120.ntmps,Tryz.f120.results.toList,Tryz.f120.body.get!⟩ := by kernel_rfl
theorem qu2 : G.fn 121 = some ⟨Tryz.f121.ntmps,Tryz.f121.results.toList,Tryz.f121.body.get!⟩ := by kernel_rfl
theorem qbl : G.fn 122 = some ⟨Tryz.f122.ntmps,Tryz.f122.results.toList,Tryz.f122.body.get!⟩ := by kernel_rfl
theorem qb6 : G.fn 123 = some ⟨Tryz.f123.ntmps,Tryz.f123.results.toList,Tryz.f123.body.get!⟩ := by kernel_rfl
theorem qmy : G.fn 124 = some ⟨Tryz.f124.ntmps,Tryz.f124.results.toList,Tryz.f124.body.get!⟩ := by kernel_rfl
theorem uj : G.fn 125 = some ⟨Tryz.f125.ntmps,Tryz.f125.results.toList,Tryz.f125.body.get!⟩ := by kernel_rfl
theorem ma : G.fn 127 = some ⟨Tryz.f127.ntmps,Tryz.f127.results.toList,Tryz.f127.body.get!⟩ := by kernel_rfl
theorem q0u : G.fn 128 = some ⟨Tryz.f128.ntmps,Tryz.f128.results.toList,Tryz.f128.body.get!⟩ := by kernel_rfl
theorem qce : G.fn 129 = some ⟨Tryz.f129.ntmps,Tryz.f129.results.toList,Tryz.f129.body.get!⟩ := by kernel_rfl
theorem qhs : G.fn 130 = some ⟨Tryz.f130.ntmps,Tryz.f130.results.toList,Tryz.f130.body.get!⟩ := by kernel_rfl
theorem qdz : G.fn 131 = some ⟨Tryz.f131.ntmps,Tryz.f131.results.toList,Tryz.f131.body.get!⟩ := by kernel_rfl
theorem ja : G.fn 132 = some ⟨Tryz.f132.ntmps,Tryz.f132.results.toList,Tryz.f132.body.get!⟩ := by kernel_rfl
theorem qat : G.fn 133 = some ⟨Tryz.f133.ntmps,Tryz.f133.results.toList,Tryz.f133.body.get!⟩ := by kernel_rfl
theorem qez : G.fn 134 = some ⟨Tryz.f134.ntmps,Tryz.f134.results.toList,Tryz.f134.body.get!⟩ := by kernel_rfl
theorem pg : G.fn 135 = some ⟨Tryz.f135.ntmps,Tryz.f135.results.toList,Tryz.f135.body.get!⟩ := by kernel_rfl
theorem q2o : G.fn 136 = some ⟨Tryz.f136.ntmps,Tryz.f136.results.toList,Tryz.f136.body.get!⟩ := by kernel_rfl
theorem qch : G.fn 137 = some ⟨Tryz.f137.ntmps,Tryz.f137.results.toList,Tryz.f137.body.get!⟩ := by kernel_rfl
theorem qhp : G.fn 138 = some ⟨Tryz.f138.ntmps,Tryz.f138.results.toList,Tryz.f138.body.get!⟩ := by kernel_rfl
theorem q9p : G.fn 139 = some ⟨Tryz.f139.ntmps,Tryz.f139.results.toList,Tryz.f139.body.get!⟩ := by kernel_rfl
theorem qpg : G.fn 140 = some ⟨Tryz.f140.ntmps,Tryz.f140.results.toList,Tryz.f140.body.get!⟩ := by kernel_rfl
theorem q5n : G.fn 141 = some ⟨Tryz.f141.ntmps,Tryz.f141.results.toList,Tryz.f141.body.get!⟩ := by kernel_rfl
theorem qf5 : G.fn 142 = some ⟨Tryz.f142.ntmps,Tryz.f142.results.toList,Tryz.f142.body.get!⟩ := by kernel_rfl
theorem qev : G.fn 143 = some ⟨Tryz.f143.ntmps,Tryz.f143.results.toList,Tryz.f143.body.get!⟩ := by kernel_rfl
theorem gq : G.fn 144 = some ⟨Tryz.f144.ntmps,Tryz.f144.results.toList,Tryz.f144.body.get!⟩ := by kernel_rfl
theorem qnc : G.fn 145 = some ⟨Tryz.f145.ntmps,Tryz.f145.results.toList,Tryz.f145.body.get!⟩ := by kernel_rfl
theorem qjt : G.fn 146 = some ⟨Tryz.f146.ntmps,Tryz.f146.results.toList,Tryz.f146.body.get!⟩ := by kernel_rfl
theorem q8l : G.fn 147 = some ⟨Tryz.f147.ntmps,Tryz.f147.results.toList,Tryz.f147.body.get!⟩ := by kernel_rfl
theorem qa1 : G.fn 148 = some ⟨Tryz.f148.ntmps,Tryz.f148.results.toList,Tryz.f148.body.get!⟩ := by kernel_rfl
theorem mr : G.fn 149 = some ⟨Tryz.f149.ntmps,Tryz.f149.results.toList,Tryz.f149.body.get!⟩ := by kernel_rfl
theorem qbt : G.fn 150 = some ⟨Tryz.f150.ntmps,Tryz.f150.results.toList,Tryz.f150.body.get!⟩ := by kernel_rfl
theorem qde : G.fn 151 = some ⟨Tryz.f151.ntmps,Tryz.f151.results.toList,Tryz.f151.body.get!⟩ := by kernel_rfl
theorem q20 : G.fn 152 = some ⟨Tryz.f152.ntmps,Tryz.f152.results.toList,Tryz.f152.body.get!⟩ := by kernel_rfl
theorem q19 : G.fn 153 = some ⟨Tryz.f153.ntmps,Tryz.f153.results.toList,Tryz.f153.body.get!⟩ := by kernel_rfl
theorem qaf : G.fn 154 = some ⟨Tryz.f154.ntmps,Tryz.f154.results.toList,Tryz.f154.body.get!⟩ := by kernel_rfl
theorem qjr : G.fn 155 = some ⟨Tryz.f155.ntmps,Tryz.f155.results.toList,Tryz.f155.body.get!⟩ := by kernel_rfl
theorem qg9 : G.fn 156 = some ⟨Tryz.f156.ntmps,Tryz.f156.results.toList,Tryz.f156.body.get!⟩ := by kernel_rfl
theorem q0s : G.fn 157 = some ⟨Tryz.f157.ntmps,Tryz.f157.results.toList,Tryz.f157.body.get!⟩ := by kernel_rfl
theorem qhw : G.fn 158 = some ⟨Tryz.f158.ntmps,Tryz.f158.results.toList,Tryz.f158.body.get!⟩ := by kernel_rfl
theorem qdg : G.fn 159 = some ⟨Tryz.f159.ntmps,Tryz.f159.results.toList,Tryz.f159.body.get!⟩ := by kernel_rfl
theorem qdy : G.fn 160 = some ⟨Tryz.f160.ntmps,Tryz.f160.results.toList,Tryz.f160.body.get!⟩ := by kernel_rfl
theorem q8i : G.fn 161 = some ⟨Tryz.f161.ntmps,Tryz.f161.results.toList,Tryz.f161.body.get!⟩ := by kernel_rfl
theorem qcy : G.fn 162 = some ⟨Tryz.f162.ntmps,Tryz.f162.results.toList,Tryz.f162.body.get!⟩ := by kernel_rfl
end Go.Proofs.YtdhgdeelagmbpaaGreat
