/-
  The tables of the program as the machine reads it.
-/
import Derived.Test.YtaglodpkpggdiaaGreatDoorRows
import Derived.Test.YtaglodpkpggdiaaGreatDoorAad
set_option linter.unusedSimpArgs false
set_option linter.unusedVariables false
namespace Go.Proofs.YtaglodpkpggdiaaGreatDoor
open Go Go.Gm
def spec : FuncId → Nat → jy
 | 5,0 => ⟨[1,5,6,7,8],[1,5,6,7],[6],[],[],0⟩
 | 5,2 => ⟨[1,15],[1,15],[],[],[],0⟩
 | 6,0 => ⟨[1,2,7],[6],[],[],[],0⟩
 | 6,2 => ⟨[1,2,7,8],[1,2,7],[],[],[],0⟩
 | 8,0 => ⟨[0,3,4],[3],[3],[],[],0⟩
 | 8,3 => ⟨[0,3,4,5,6],[0,3,4,5],[],[(5,5)],[],0⟩
 | 8,5 => ⟨[0,3,4,5,8],[0,3,4,5],[],[(5,6)],[],0⟩
 | 9,0 => ⟨[1,6,15,16,17],[1,6],[6],[],[],0⟩
 | 9,2 => ⟨[1,6,30,31,32],[1,4,5,6],[6],[],[],0⟩
 | 10,0 => ⟨[0,6,7,8,9],[2,3,4,5,6,7,8,9],[8],[],[],0⟩
 | 11,0 => ⟨[0,1,5],[4],[],[],[],0⟩
 | 12,0 => ⟨[0,1,5],[4],[],[],[],0⟩
 | 14,0 => ⟨[9,10,34,35,36],[10],[],[],[],1000⟩
 | 16,0 => ⟨[0,1,5],[4],[],[],[],0⟩
 | 17,0 => ⟨[1,2,7],[6],[],[],[],0⟩
 | 18,0 => ⟨[0,3,4],[3],[],[],[],1000⟩
 | 20,1 => ⟨[4,5,6,82,83,84],[4,5,6],[],[],[],0⟩
 | 20,3 => ⟨[4,5,6,119,120,121],[4,5,6],[],[],[],0⟩
 | 21,0 => ⟨[0,3],[0,3],[3],[],[],0⟩
 | 22,1 => ⟨[0,2,3],[0,2,3],[],[(3,5)],[],0⟩
 | 22,3 => ⟨[0,2,3],[0,2,3],[],[(3,6)],[],0⟩
 | 23,0 => ⟨[0,1,5],[4],[],[],[],0⟩
 | 24,0 => ⟨[0,1,5],[4],[],[],[],0⟩
 | 25,0 => ⟨[0,6,15,16,17],[0,4,5,6],[],[],[],1000⟩
 | 28,0 => ⟨[0,5,28,29,30],[0,5],[],[],[],1000⟩
 | 28,2 => ⟨[0,46,47,48],[0],[],[],[],1000⟩
 | 28,4 => ⟨[0,9,10,46,47,48,53,54,55],[0,9,10,46,47,48],[],[],[],1000⟩
 | 31,0 => ⟨[0,3],[3],[],[],[],0⟩
 | 33,0 => ⟨[5,6,7],[2],[],[],[],0⟩
 | 35,0 => ⟨[0,5,6,7],[2],[],[],[],0⟩
 | 37,0 => ⟨[0,3],[0,3],[],[],[],0⟩
 | 58,0 => ⟨[1,2,3,7,8,9],[1,2,3],[3],[],[],1000⟩
 | 60,0 => ⟨[0,4,5,6],[0,2,3,4,5,6],[],[],[],0⟩
 | 62,0 => ⟨[0,3],[0,2],[],[],[],1000⟩
 | 64,0 => ⟨[0,1,7,8],[4],[],[],[],1000⟩
 | 66,0 => ⟨[0,6,12,13,14],[0,4,5,6],[6],[],[],1000⟩
 | 69,0 => ⟨[0,1,14,15,16],[1,4,5],[],[],[],1000⟩
 | 71,0 => ⟨[1,2,4,11,13,37,38,39],[4,11],[],[],[],1000⟩
 | 76,0 => ⟨[1,5,13,14,15],[5],[5],[],[],1000⟩
 | 77,0 => ⟨[0,1,5,20,21,22],[5],[5],[],[],1000⟩
 | 77,2 => ⟨[12,73,74,75],[12],[12],[],[],1000⟩
 | 84,0 => ⟨[0,1,7,9,10],[0,1,7,9],[],[],[],1000⟩
 | 84,2 => ⟨[0,1,7,11,65,66,67],[0,1,7],[],[],[],1000⟩
 | 85,0 => ⟨[0,1,4,5],[0,1,4,5],[],[],[],1000⟩
 | 85,2 => ⟨[0,1,4,5,6],[0,1,4,5,6],[],[],[],1000⟩
 | 87,0 => ⟨[1,2,3,10,11,12],[1,2,3],[3],[],[],1000⟩
 | 87,2 => ⟨[1,2,3,5,6,10,11,12,17,18,19],[1,2,3,5,6,10,11,12],[6],[],[],1000⟩
 | 91,0 => ⟨[0,1,2,3],[1,3],[],[],[],1000⟩
 | 94,0 => ⟨[4,14,15,16],[4],[4],[],[],1000⟩
 | 99,0 => ⟨[3,6,42,43,44],[2],[],[],[],1000⟩
 | 99,2 => ⟨[3,6,7,8,9,42,43,44,54,55,56],[2,3,8,42,43,44],[],[],[],1000⟩
 | 100,0 => ⟨[0,1,7,8,9],[0,1,4],[],[],[],1000⟩
 | 101,0 => ⟨[3,14,15,16],[3],[],[(3,2)],[],1000⟩
 | 102,0 => ⟨[0,1],[],[],[],[],1000⟩
 | 103,0 => ⟨[0,14,15,16],[],[],[],[2000],1000⟩
 | 104,0 => ⟨[0,3],[2],[],[],[],1000⟩
 | 104,2 => ⟨[0,3,4],[0,2,3],[],[],[],1000⟩
 | 104,4 => ⟨[0,3,4,44,45,46],[0,2,3,4],[],[],[],1000⟩
 | 105,0 => ⟨[0,2,11,12],[],[],[],[],1000⟩
 | 105,2 => ⟨[0,2,3,4,11,12,34,35,36],[0,3,4,11,12],[],[(4,1),(4,2)],[],1000⟩
 | 106,0 => ⟨[0,2,3,9,10,11],[0,2,3],[3],[],[],1000⟩
 | 108,0 => ⟨[3,10,11,12],[3],[3],[],[],1000⟩
 | 108,2 => ⟨[6,28,29,30],[6],[6],[],[],1000⟩
 | 109,0 => ⟨[0,1,6,7],[0,1,6,7],[7],[],[],1000⟩
 | 110,0 => ⟨[3,7,8,9],[3],[],[],[],1000⟩
 | 111,0 => ⟨[3,6,7,8],[3],[3],[],[],1000⟩
 | 113,0 => ⟨[1,2,11,12,13,39,40,41],[6,7,8,12,13],[12,13],[],[],1000⟩
 | 115,0 => ⟨[1,4,5,6,13,14,15],[4,5],[],[(5,1)],[],1000⟩
 | 115,2 => ⟨[1,4,5,6,8,9,10,13,14,15,36,37,38],[1,4,5,6,8,10,13,14,15],[],[(10,2)],[],1000⟩
 | 117,0 => ⟨[1,2,4,6,7,23,24,25],[1,2,4,6,7],[7],[],[],1000⟩
 | 119,0 => ⟨[0,9,10,11],[4,5],[],[],[],1000⟩
 | 120,0 => ⟨[0,13,14,15],[4,5],[],[],[],1000⟩
 | 121,0 => ⟨[1,2,6,7,14,15,16],[6,7],[6],[],[],1000⟩
 | 121,2 => ⟨[1,2,6,7,10,14,15,16,21,22,23],[1,2,6,7,14,15,16],[6],[],[],1000⟩
 | 122,0 => ⟨[0,7,8,9,23,24,25],[7],[7],[],[],1000⟩
 | 127,0 => ⟨[0,1,5,15,16,17],[0,1,4,5],[5],[],[],1000⟩
 | 127,2 => ⟨[0,1,35,36,37],[],[],[],[],1000⟩
 | 128,0 => ⟨[1,5,8,9,10],[5],[5],[],[1],1000⟩
 | 134,0 => ⟨[0,1,4],[0,1,4],[],[],[],1000⟩
 | 135,0 => ⟨[0,1,3,4,10,11,12,13,14,15,16],[0,1,3,4,10,11,12,13],[],[],[],1000⟩
 | 135,2 => ⟨[0,1,3,4,10,11,12,13,17],[0,1,3,4,10,11,12,13],[],[],[],1000⟩
 | 136,0 => ⟨[0],[0],[],[],[],1000⟩
 | 137,0 => ⟨[0],[0],[],[],[],1000⟩
 | 144,0 => ⟨[3,6,7,8],[2,3],[],[],[],1000⟩
 | 148,0 => ⟨[0,1],[1],[],[],[],1000⟩
 | 149,0 => ⟨[0,1],[1],[],[],[],1000⟩
 | 153,0 => ⟨[0,1],[0,1],[],[],[],1000⟩
 | 153,2 => ⟨[0,1],[1],[],[],[],1000⟩
 | 154,0 => ⟨[0,1],[0,1],[],[],[],1000⟩
 | 154,2 => ⟨[0,1],[1],[],[],[],1000⟩
 | 156,0 => ⟨[0,1,12,13],[4],[],[],[],1000⟩
 | 157,0 => ⟨[2,5,18,19,20],[4],[],[],[18],1000⟩
 | 159,0 => ⟨[0,5,10,11,12],[5],[5],[],[],1000⟩
 | 159,2 => ⟨[0,5,10,11,12,17,18,19],[0,5,10,11,12],[5],[],[],1000⟩
 | 160,0 => ⟨[3,10,11,12],[2],[],[],[],1000⟩
 | 161,0 => ⟨[3,6,7,8],[3],[3],[],[],1000⟩
 | 162,0 => ⟨[0,7,8,9],[0],[],[],[],1000⟩
 | 163,0 => ⟨[2,9,10,11],[4],[],[],[],1000⟩
 | 164,0 => ⟨[0,2,3],[],[],[],[],1000⟩
 | 165,0 => ⟨[2,3,11,12,13],[4,5],[],[],[],1000⟩
 | 165,2 => ⟨[2,3,6,11,12,13,19,20,21],[2,3,4,5,11,12,13],[],[],[],1000⟩
 | 166,0 => ⟨[0,1,5,10,12,13,14],[0,1,5,10,12],[],[],[],1000⟩
 | 166,2 => ⟨[0,1,5,10,12,91,92,93],[0,10],[],[],[],1000⟩
 | 167,0 => ⟨[1,3,12,13,14],[1,3],[],[],[1],1000⟩
 | 167,2 => ⟨[1,3,6],[6],[6],[],[],1000⟩
 | 168,0 => ⟨[0,1,2,3,9,10,11,47,48,49],[0,1,2,3,9,10,11],[],[],[],1000⟩
 | 168,2 => ⟨[0,1,2,3,15,16,17],[8],[],[],[],1000⟩
 | 175,0 => ⟨[0,1,7,8,9],[4],[],[],[],1000⟩
 | 177,0 => ⟨[10,12],[10,12],[],[],[],1000⟩
 | 180,0 => ⟨[3,11,12,13],[3],[],[],[],1000⟩
 | 180,2 => ⟨[3,11,12,13,18,19,20],[3,11,12,13],[],[],[],1000⟩
 | 181,0 => ⟨[2,3,12,13,14],[2,3],[],[(3,2)],[],1000⟩
 | 181,2 => ⟨[2,3,6,12,13,14,23,24],[2,3,6,12,13,14],[],[],[],1000⟩
 | 183,0 => ⟨[0,2,3],[],[],[],[],1000⟩
 | 190,0 => ⟨[0,1,14,15,16],[0],[],[],[],1000⟩
 | 191,0 => ⟨[1,2,3,11,12,13],[1,2,3],[3],[],[],1000⟩
 | 199,0 => ⟨[0,2,3,4],[2,3],[],[],[],1000⟩
 | 201,0 => ⟨[0,1,2,6,7,8],[0,1,2,6,7],[],[],[],1000⟩
 | 201,2 => ⟨[0,1,2,6],[],[],[],[],1000⟩
 | 201,4 => ⟨[0,1,2,6,7,8],[0,1,2,6,7],[],[],[],1000⟩
 | 206,0 => ⟨[1,2,7,8],[6,7],[],[],[],1000⟩
 | 211,0 => ⟨[1,2,5],[1,2,4],[],[],[],1000⟩
 | 216,0 => ⟨[7,8],[7],[],[],[],1000⟩
 | 217,0 => ⟨[5,6,12,13,14,34,35,36],[12,14],[],[(14,1),(14,2)],[],1000⟩
 | 220,0 => ⟨[1,2,5,12,13,14],[5],[],[],[],1000⟩
 | 220,2 => ⟨[1,2,5,7,8,12,13,14],[1,2,5,12,13,14],[],[],[],1000⟩
 | 221,0 => ⟨[0,1,7,8],[4],[],[],[],1000⟩
 | 223,0 => ⟨[1,2,3,7,8,9,10],[7,8,9],[],[],[],1000⟩
 | 224,0 => ⟨[1,3,10,12,13,40,41,42],[1,6,7,8,10,12,13],[12],[],[],1000⟩
 | 224,2 => ⟨[1,3,10,12,13,15,16,40,41,42,52,53,54],[1,3,10,12,13,15,16,40,41,42],[16],[],[],1000⟩
 | 224,4 => ⟨[1,3,10,12,15,16,40,41,42,74,75,76],[1,3,10,12,15,40,41,42],[12],[],[],1000⟩
 | 225,0 => ⟨[0,1,2,6,7,8],[0,1,2,6,7],[],[],[],1000⟩
 | 225,2 => ⟨[0,1,2,6],[],[],[],[],1000⟩
 | 225,4 => ⟨[0,1,2,6,7,8],[0,1,2,6,7],[],[],[],1000⟩
 | 231,0 => ⟨[0,5,6],[0,5,6],[],[],[],1000⟩
 | 231,2 => ⟨[0,5,6],[0,5,6],[],[],[],1000⟩
 | 232,0 => ⟨[0,8,9,10],[4,5],[],[],[],1000⟩
 | 234,0 => ⟨[0,5,8,9,10],[5],[5],[],[],1000⟩
 | 235,0 => ⟨[0,6,7,8],[],[],[],[],1000⟩
 | 236,0 => ⟨[0,2,9,10,11],[6],[],[],[],1000⟩
 | 237,0 => ⟨[0,1,2,12,13],[1,6,7],[1],[],[],1000⟩
 | 238,0 => ⟨[0,1,5,6,12,13,14],[0,1,5,6],[],[],[],1000⟩
 | 238,2 => ⟨[0,1,5,6,37,38,39],[0,1,6],[],[],[],1000⟩
 | 239,0 => ⟨[0,1,3,4,17,18,19],[1],[1],[],[],1000⟩
 | 239,2 => ⟨[0,1,3,4,12,14,17,18,19,52,53,54],[0,1,3,4,12,14,17,18,19],[],[(14,17)],[],1000⟩
 | 240,0 => ⟨[0,1,2,6,7,8],[0,1,2,6,7],[],[],[],1000⟩
 | 240,2 => ⟨[0,1,2,6],[],[],[],[],1000⟩
 | 240,4 => ⟨[0,1,2,6,7,8],[0,1,2,6,7],[],[],[],1000⟩
 | 247,0 => ⟨[0,1,2,3,8],[],[],[],[],1000⟩
 | 247,2 => ⟨[0,1,2,3,8,9],[0,1,2,3,8],[],[],[],1000⟩
 | 248,0 => ⟨[0,1,4,10,11],[0,1,10],[],[],[],1000⟩
 | 248,2 => ⟨[0,10,13],[],[],[],[],1000⟩
 | 248,4 => ⟨[0,2,4,14,15],[0,2,14],[],[],[],1000⟩
 | 248,6 => ⟨[0,14,17],[],[],[],[],1000⟩
 | 248,8 => ⟨[0,1,2,3,4,18,19,20,21,22],[0,1,2,3,4,18,19,20],[],[],[],1000⟩
 | 249,0 => ⟨[1,4,6,7],[4,5,6],[],[],[],1000⟩
 | 251,0 => ⟨[0,1,7,8],[0,6],[],[],[],1000⟩
 | 255,0 => ⟨[0,1,7,8],[4],[],[],[],1000⟩
 | 257,0 => ⟨[1,2,4,5,10,11,19,20,21],[1,2,4,5,10,11],[],[(11,3)],[],1000⟩
 | 257,2 => ⟨[10,11,71,72,73],[10,11],[],[],[],1000⟩
 | 258,0 => ⟨[0,2,3,4,6,10,12,13,14,32,33,34],[10,12,13],[13],[(12,2)],[],1000⟩
 | 261,0 => ⟨[0,5],[],[],[],[],1000⟩
 | 265,0 => ⟨[1,5,12,13,14],[5],[],[],[],1000⟩
 | 266,0 => ⟨[0,1,2,3,8],[],[],[],[],1000⟩
 | 266,2 => ⟨[0,1,2,3,8,9],[0,1,2,3,8],[],[],[],1000⟩
 | 267,0 => ⟨[0,1,4,10,11],[0,1,10],[],[],[],1000⟩
 | 267,2 => ⟨[0,10,13],[],[],[],[],1000⟩
 | 267,4 => ⟨[0,2,4,14,15],[0,2,14],[],[],[],1000⟩
 | 267,6 => ⟨[0,14,17],[],[],[],[],1000⟩
 | 267,8 => ⟨[0,1,2,3,4,18,19,20,21,22],[0,1,2,3,4,18,19,20],[],[],[],1000⟩
 | 270,0 => ⟨[0,4,5],[0,2,3,4,5],[],[],[],1000⟩
 | 271,0 => ⟨[0,4],[0,4],[],[],[],1000⟩
 | 282,0 => ⟨[0,1,2,3,8],[],[],[],[],1000⟩
 | 282,2 => ⟨[0,1,2,3,8,9],[0,1,2,3,8],[],[],[],1000⟩
 | 283,0 => ⟨[0,1,4,10,11],[0,1,10],[],[],[],1000⟩
 | 283,2 => ⟨[0,10,13],[],[],[],[],1000⟩
 | 283,4 => ⟨[0,2,4,14,15],[0,2,14],[],[],[],1000⟩
 | 283,6 => ⟨[0,14,17],[],[],[],[],1000⟩
 | 283,8 => ⟨[0,1,2,3,4,18,19,20,21,22],[0,1,2,3,4,18,19,20],[],[],[],1000⟩
 | 284,0 => ⟨[0,5],[],[],[],[],1000⟩
 | 285,0 => ⟨[0,2,4,10,11],[0,2,4,10],[],[],[],1000⟩
 | 288,0 => ⟨[0,2,3,5,8,9],[0,2,3,5,8],[],[],[],1000⟩
 | 288,2 => ⟨[0,3,5,8,10,11],[],[],[],[],1000⟩
 | 289,0 => ⟨[0,2,4,6,28,29,30],[],[],[],[],1000⟩
 | 293,0 => ⟨[0,1,2,3,8,9],[],[],[],[],1000⟩
 | 296,0 => ⟨[0,5,6,7],[2],[],[],[],1000⟩
 | 297,0 => ⟨[11,12,13],[8,9,10,11,12],[12],[],[],1000⟩
 | 299,1 => ⟨[6,16,17,18],[6],[],[],[],1000⟩
 | 299,3 => ⟨[6,31,32,33],[6],[],[],[],1000⟩
 | 300,0 => ⟨[0,2,4,10,11],[0,2,4,10],[],[],[],1000⟩
 | 301,0 => ⟨[0,4,5],[0,4,5],[4,5],[],[],1000⟩
 | 302,0 => ⟨[0,1,4,7],[0,1,4,7],[7],[],[],1000⟩
 | 305,0 => ⟨[0,1,5],[4],[],[],[],1000⟩
 | 309,0 => ⟨[0,1,2,3,8,9],[],[],[],[],1000⟩
 | 311,0 => ⟨[0,2,4,10,11],[0,2,4,10],[],[],[],1000⟩
 | 312,0 => ⟨[0,1,2,3,10],[],[],[],[],1000⟩
 | 315,0 => ⟨[0,1,2,6],[],[],[],[],1000⟩
 | 315,2 => ⟨[0,1,2,6,7],[0,1,2,6],[],[],[],1000⟩
 | 316,0 => ⟨[0,6,7,8,9],[0,6,7,8],[],[],[],1000⟩
 | 316,2 => ⟨[0,6,7,10],[],[],[],[],1000⟩
 | 317,0 => ⟨[0,1,6,7,8,9],[],[],[],[],1000⟩
 | 319,0 => ⟨[0,6,7],[],[],[],[],1000⟩
 | 320,0 => ⟨[0,1,2,7,8],[6],[],[],[],1000⟩
 | 320,2 => ⟨[0,1,2,7,8],[0,1,2,7,8],[],[],[],1000⟩
 | 320,4 => ⟨[0,1,2,7,8,9],[0,1,2,7,8],[],[],[],1000⟩
 | 320,6 => ⟨[0,1,2,7,8,10],[0,1,2,7,8],[],[],[],1000⟩
 | 322,0 => ⟨[0,1,9,10],[9],[],[],[],1000⟩
 | 322,2 => ⟨[0,1,9,10],[0,1,9,10],[],[],[],1000⟩
 | 322,4 => ⟨[0,1,9,10],[0,1,9,10],[],[],[],1000⟩
 | 323,0 => ⟨[0,1,10,11],[0,1,10,11],[],[],[],1000⟩
 | 323,2 => ⟨[0,1,10,11],[0,1,10,11],[],[],[],1000⟩
 | 323,4 => ⟨[0,1,10,11],[0,1,11],[],[],[],1000⟩
 | 323,6 => ⟨[0,1,10,11],[0,1,10,11],[],[],[],1000⟩
 | 323,8 => ⟨[0,1,10,11],[0,1,10,11],[],[],[],1000⟩
 | 325,0 => ⟨[1,2,31,32,33],[1,6,7],[],[],[],1000⟩
 | 328,0 => ⟨[0,1,4],[4,5],[],[],[],1000⟩
 | 333,0 => ⟨[0,1,5,6],[5],[],[],[],1000⟩
 | 334,0 => ⟨[0,1,2,3,10],[],[],[],[],1000⟩
 | 336,0 => ⟨[0,1,7,8,9],[4,5,6],[],[(7,0),(8,0)],[],1000⟩
 | 338,0 => ⟨[0,1,12,13],[4],[],[],[],1000⟩
 | 340,0 => ⟨[0,1,2,3,10],[],[],[],[],1000⟩
 | 341,0 => ⟨[0,2,3,8],[],[],[],[],1000⟩
 | 350,0 => ⟨[0,3,4],[3],[3],[],[],1000⟩
 | 351,0 => ⟨[0,3,4],[3],[3],[],[],1000⟩
 | 352,0 => ⟨[1,4,5,22,23,24],[1,4,5],[],[(5,8)],[],1000⟩
 | 353,0 => ⟨[7,8],[7],[],[],[],1000⟩
 | 355,0 => ⟨[0,1,6,7,8],[0,1,6,7],[],[],[],1000⟩
 | 359,0 => ⟨[0,2,4,5],[2,3],[4,5],[],[],1000⟩
 | 364,0 => ⟨[0,1,12,13],[4],[],[],[],1000⟩
 | 365,0 => ⟨[1,2,15,16,17],[6],[],[],[],1000⟩
 | 368,0 => ⟨[0,5,6,7],[2],[],[],[],1000⟩
 | 372,0 => ⟨[0,1],[1],[],[],[],1000⟩
 | 373,0 => ⟨[0,4,5],[],[],[],[],1000⟩
 | 374,1 => ⟨[0,2,3,29,30,31],[8],[],[],[],1000⟩
 | 381,0 => ⟨[0,1,7,8],[1,4,5,6,7,8],[],[],[],1000⟩
 | 394,0 => ⟨[0,5,8,9,10],[5],[5],[],[],1000⟩
 | 397,0 => ⟨[0,3],[2],[],[],[],1000⟩
 | 398,0 => ⟨[0,1,2,9],[6,7,8],[9],[],[],1000⟩
 | 399,0 => ⟨[0,1,7,8],[4],[],[],[],1000⟩
 | 400,0 => ⟨[0,1,7,8],[4],[],[],[],1000⟩
 | 404,0 => ⟨[3,8,9,10],[3],[],[],[],1000⟩
 | 409,0 => ⟨[0,2,4,5],[2,3,4,5],[5],[],[],1000⟩
 | 413,0 => ⟨[1,7,8,9],[4],[],[],[],1000⟩
 | 414,0 => ⟨[3,8,9,10],[3],[],[],[],1000⟩
 | 416,0 => ⟨[3,10,11,12],[3],[3],[],[],1000⟩
 | 416,2 => ⟨[6,25,26,27],[6],[6],[],[],1000⟩
 | 419,0 => ⟨[0,4,5,6],[2,3,4,5],[],[],[],1000⟩
 | 423,0 => ⟨[0,1,2,6,7,8],[0,1,2,6,7],[],[],[],1000⟩
 | 423,2 => ⟨[0,1,2,6],[],[],[],[],1000⟩
 | 423,4 => ⟨[0,1,2,6,7,8],[0,1,2,6,7],[],[],[],1000⟩
 | 425,0 => ⟨[0,1,2,3,8],[],[],[],[],1000⟩
 | 425,2 => ⟨[0,1,2,3,8,9],[0,1,2,3,8],[],[],[],1000⟩
 | 426,0 => ⟨[0,1,4,10,11],[0,1,10],[],[],[],1000⟩
 | 426,2 => ⟨[0,10,13],[],[],[],[],1000⟩
 | 426,4 => ⟨[0,2,4,14,15],[0,2,14],[],[],[],1000⟩
 | 426,6 => ⟨[0,14,17],[],[],[],[],1000⟩
 | 426,8 => ⟨[0,1,2,3,4,18,19,20,21,22],[0,1,2,3,4,18,19,20],[],[],[],1000⟩
 | 427,0 => ⟨[0,2,4,10,11],[0,2,4,10],[],[],[],1000⟩
 | 428,0 => ⟨[0,1,2,3,10],[],[],[],[],1000⟩
 | _,_ => {}
def qth (f : FuncId) : Bool := [183,185,240,282,283,164,142,201,247,248,169,225,266,267,173,239,117].contains f
def z9v (f : FuncId) : Bool := [180,101,216,123,184,88,215,173,239,106,58].contains f
def qo2 : FuncId → Nat → List Nat
 | 105,15 => [4]
 | _,_ => []
def qo4 (t : TypeId) : Bool := [].contains t
def z9q (t : TypeId) : Bool := [380,351,354,76].contains t
def qun : FuncId → Nat → List Cmd
 | _,_ => []
noncomputable def G : GP := qbp Tryz.prog spec qth z9v qo2 qo4 z9q qun
theorem cm0 (i : Nat) : G.cmd 0 i = [] := rfl
theorem cm1 (i : Nat) : G.cmd 1 i = [] := rfl
theorem cm2 (i : Nat) : G.cmd 2 i = [] := rfl
theorem zwd : G.owned 3 = false := rfl
theorem kp3 : G.keep 3 = false := rfl
theorem cm3 (i : Nat) : G.cmd 3 i = [] := rfl
theorem pr3 (i : Nat) : G.pre 3 i = [] := rfl
theorem cm4 (i : Nat) : G.cmd 4 i = [] := rfl
theorem cm5 (i : Nat) : G.cmd 5 i = [] := rfl
theorem qp8 : G.owned 6 = false := rfl
theorem kp6 : G.keep 6 = false := rfl
theorem cm6 (i : Nat) : G.cmd 6 i = [] := rfl
theorem pr6 (i : Nat) : G.pre 6 i = [] := rfl
theorem zih : G.owned 7 = false := rfl
theorem kp7 : G.keep 7 = false := rfl
theorem cm7 (i : Nat) : G.cmd 7 i = [] := rfl
theorem pr7 (i : Nat) : G.pre 7 i = [] := rfl
theorem z2h : G.owned 8 = false := rfl
theorem kp8 : G.keep 8 = false := rfl
theorem cm8 (i : Nat) : G.cmd 8 i = [] := rfl
theorem pr8 (i : Nat) : G.pre 8 i = [] := rfl
theorem qvz : G.owned 9 = false := rfl
theorem kp9 : G.keep 9 = false := rfl
theorem cm9 (i : Nat) : G.cmd 9 i = [] := rfl
theorem pr9 (i : Nat) : G.pre 9 i = [] := rfl
theorem z0s : G.owned 10 = false := rfl
theorem znr : G.keep 10 = false := rfl
theorem zrc (i : Nat) : G.cmd 10 i = [] := rfl
theorem qz5 (i : Nat) : G.pre 10 i = [] := rfl
theorem qwg : G.owned 11 = false := rfl
theorem qpm : G.keep 11 = false := rfl
theorem qtg (i : Nat) : G.cmd 11 i = [] := rfl
theorem z0h (i : Nat) : G.pre 11 i = [] := rfl
theorem zdu : G.owned 12 = false := rfl
theorem zhr : G.keep 12 = false := rfl
theorem qka (i : Nat) : G.cmd 12 i = [] := rfl
theorem zl7 (i : Nat) : G.pre 12 i = [] := rfl
theorem zoz : G.owned 13 = false := rfl
theorem z5x : G.keep 13 = false := rfl
theorem x4b (i : Nat) : G.cmd 13 i = [] := rfl
theorem zxj (i : Nat) : G.pre 13 i = [] := rfl
theorem x4p (i : Nat) : G.cmd 14 i = [] := rfl
theorem zi8 (i : Nat) : G.cmd 15 i = [] := rfl
theorem zoj : G.owned 16 = false := rfl
theorem zzi : G.keep 16 = false := rfl
theorem zpc (i : Nat) : G.cmd 16 i = [] := rfl
theorem quu (i : Nat) : G.pre 16 i = [] := rfl
theorem zb2 : G.owned 17 = false := rfl
theorem zxt : G.keep 17 = false := rfl
theorem zqf (i : Nat) : G.cmd 17 i = [] := rfl
theorem qqv (i : Nat) : G.pre 17 i = [] := rfl
theorem qjk (i : Nat) : G.cmd 18 i = [] := rfl
theorem zw3 : G.owned 19 = false := rfl
theorem zch : G.keep 19 = false := rfl
theorem zcg (i : Nat) : G.cmd 19 i = [] := rfl
theorem qsj (i : Nat) : G.pre 19 i = [] := rfl
theorem qj8 : G.owned 20 = false := rfl
theorem zao : G.keep 20 = false := rfl
theorem zx2 (i : Nat) : G.cmd 20 i = [] := rfl
theorem z1b (i : Nat) : G.pre 20 i = [] := rfl
theorem qqw : G.owned 21 = false := rfl
theorem zxk : G.keep 21 = false := rfl
theorem zq4 (i : Nat) : G.cmd 21 i = [] := rfl
theorem qzc (i : Nat) : G.pre 21 i = [] := rfl
theorem qpe : G.owned 22 = false := rfl
theorem zdk : G.keep 22 = false := rfl
theorem zwg (i : Nat) : G.cmd 22 i = [] := rfl
theorem zgr (i : Nat) : G.pre 22 i = [] := rfl
theorem zdq : G.owned 23 = false := rfl
theorem z6u : G.keep 23 = false := rfl
theorem z9d (i : Nat) : G.cmd 23 i = [] := rfl
theorem qna (i : Nat) : G.pre 23 i = [] := rfl
theorem qoh : G.owned 24 = false := rfl
theorem zej : G.keep 24 = false := rfl
theorem z8e (i : Nat) : G.cmd 24 i = [] := rfl
theorem ztp (i : Nat) : G.pre 24 i = [] := rfl
theorem qob (i : Nat) : G.cmd 25 i = [] := rfl
theorem z3f (i : Nat) : G.cmd 26 i = [] := rfl
theorem qvn (i : Nat) : G.cmd 27 i = [] := rfl
theorem qyh (i : Nat) : G.cmd 28 i = [] := rfl
theorem qo1 (i : Nat) : G.cmd 29 i = [] := rfl
theorem ze8 (i : Nat) : G.cmd 30 i = [] := rfl
theorem zsc (i : Nat) : G.cmd 31 i = [] := rfl
theorem qta : G.owned 32 = false := rfl
theorem zd1 : G.keep 32 = false := rfl
theorem quf (i : Nat) : G.cmd 32 i = [] := rfl
theorem zb7 (i : Nat) : G.pre 32 i = [] := rfl
theorem zez : G.owned 33 = false := rfl
theorem qs1 : G.keep 33 = false := rfl
theorem zn6 (i : Nat) : G.cmd 33 i = [] := rfl
theorem x2n (i : Nat) : G.pre 33 i = [] := rfl
theorem zoa : G.owned 34 = false := rfl
theorem zjd : G.keep 34 = false := rfl
theorem x4f (i : Nat) : G.cmd 34 i = [] := rfl
theorem quy (i : Nat) : G.pre 34 i = [] := rfl
theorem zkh : G.owned 35 = false := rfl
theorem qr9 : G.keep 35 = false := rfl
theorem zvp (i : Nat) : G.cmd 35 i = [] := rfl
theorem z8h (i : Nat) : G.pre 35 i = [] := rfl
theorem zsq : G.owned 36 = false := rfl
theorem qk0 : G.keep 36 = false := rfl
theorem x1i (i : Nat) : G.cmd 36 i = [] := rfl
theorem z6m (i : Nat) : G.pre 36 i = [] := rfl
theorem zc6 : G.owned 37 = false := rfl
theorem zgy : G.keep 37 = false := rfl
theorem zzk (i : Nat) : G.cmd 37 i = [] := rfl
theorem qvt (i : Nat) : G.pre 37 i = [] := rfl
theorem zgf : G.owned 38 = false := rfl
theorem z5y : G.keep 38 = false := rfl
theorem zs8 (i : Nat) : G.cmd 38 i = [] := rfl
theorem zyp (i : Nat) : G.pre 38 i = [] := rfl
theorem zjm : G.owned 39 = false := rfl
theorem zks : G.keep 39 = false := rfl
theorem zfz (i : Nat) : G.cmd 39 i = [] := rfl
theorem zk3 (i : Nat) : G.pre 39 i = [] := rfl
theorem qrx : G.owned 40 = false := rfl
theorem z5j : G.keep 40 = false := rfl
theorem qoc (i : Nat) : G.cmd 40 i = [] := rfl
theorem qnf (i : Nat) : G.pre 40 i = [] := rfl
theorem qom : G.owned 41 = false := rfl
theorem qti : G.keep 41 = false := rfl
theorem zka (i : Nat) : G.cmd 41 i = [] := rfl
theorem x4d (i : Nat) : G.pre 41 i = [] := rfl
theorem z8q : G.owned 42 = false := rfl
theorem qvw : G.keep 42 = false := rfl
theorem zxo (i : Nat) : G.cmd 42 i = [] := rfl
theorem x1r (i : Nat) : G.pre 42 i = [] := rfl
theorem zy5 : G.owned 43 = false := rfl
theorem zpr : G.keep 43 = false := rfl
theorem qrb (i : Nat) : G.cmd 43 i = [] := rfl
theorem qwn (i : Nat) : G.pre 43 i = [] := rfl
theorem qvu (i : Nat) : G.cmd 44 i = [] := rfl
theorem z1v (i : Nat) : G.cmd 45 i = [] := rfl
theorem zwj (i : Nat) : G.cmd 46 i = [] := rfl
theorem z5w (i : Nat) : G.cmd 47 i = [] := rfl
theorem ql2 (i : Nat) : G.cmd 48 i = [] := rfl
theorem zne (i : Nat) : G.cmd 49 i = [] := rfl
theorem qn0 (i : Nat) : G.cmd 50 i = [] := rfl
theorem zon (i : Nat) : G.cmd 51 i = [] := rfl
theorem zq3 (i : Nat) : G.cmd 52 i = [] := rfl
theorem qjp (i : Nat) : G.cmd 53 i = [] := rfl
theorem zv0 (i : Nat) : G.cmd 54 i = [] := rfl
theorem zf8 (i : Nat) : G.cmd 55 i = [] := rfl
theorem z9i (i : Nat) : G.cmd 56 i = [] := rfl
theorem z5h (i : Nat) : G.cmd 57 i = [] := rfl
theorem zi0 (i : Nat) : G.cmd 58 i = [] := rfl
theorem qkd (i : Nat) : G.cmd 59 i = [] := rfl
theorem zsv : G.owned 60 = false := rfl
theorem qkk : G.keep 60 = false := rfl
theorem zm8 (i : Nat) : G.cmd 60 i = [] := rfl
theorem zqg (i : Nat) : G.pre 60 i = [] := rfl
theorem qqc : G.owned 61 = false := rfl
theorem zjl : G.keep 61 = false := rfl
theorem quz (i : Nat) : G.cmd 61 i = [] := rfl
theorem x51 (i : Nat) : G.pre 61 i = [] := rfl
theorem zpf (i : Nat) : G.cmd 62 i = [] := rfl
theorem zb4 (i : Nat) : G.cmd 63 i = [] := rfl
theorem zrw (i : Nat) : G.cmd 64 i = [] := rfl
theorem z00 (i : Nat) : G.cmd 65 i = [] := rfl
theorem qkc (i : Nat) : G.cmd 66 i = [] := rfl
theorem zj3 (i : Nat) : G.cmd 67 i = [] := rfl
theorem zrm (i : Nat) : G.cmd 68 i = [] := rfl
theorem z4g (i : Nat) : G.cmd 69 i = [] := rfl
theorem zy2 (i : Nat) : G.cmd 70 i = [] := rfl
theorem qoq (i : Nat) : G.cmd 71 i = [] := rfl
theorem zqe (i : Nat) : G.cmd 72 i = [] := rfl
theorem qll (i : Nat) : G.cmd 73 i = [] := rfl
theorem zno (i : Nat) : G.cmd 74 i = [] := rfl
theorem x2d (i : Nat) : G.cmd 75 i = [] := rfl
theorem qpy (i : Nat) : G.cmd 76 i = [] := rfl
theorem z1a (i : Nat) : G.cmd 77 i = [] := rfl
theorem zpq (i : Nat) : G.cmd 78 i = [] := rfl
theorem zh3 (i : Nat) : G.cmd 79 i = [] := rfl
theorem qla (i : Nat) : G.cmd 80 i = [] := rfl
theorem zli (i : Nat) : G.cmd 81 i = [] := rfl
theorem zy7 (i : Nat) : G.cmd 82 i = [] := rfl
theorem z8y (i : Nat) : G.cmd 83 i = [] := rfl
theorem zt5 (i : Nat) : G.cmd 84 i = [] := rfl
theorem zq2 (i : Nat) : G.cmd 85 i = [] := rfl
theorem zwv (i : Nat) : G.cmd 86 i = [] := rfl
theorem x3e (i : Nat) : G.cmd 87 i = [] := rfl
theorem x4v (i : Nat) : G.cmd 88 i = [] := rfl
theorem z6v (i : Nat) : G.cmd 89 i = [] := rfl
theorem zah (i : Nat) : G.cmd 90 i = [] := rfl
theorem x4x (i : Nat) : G.cmd 91 i = [] := rfl
theorem zl0 (i : Nat) : G.cmd 92 i = [] := rfl
theorem qvm (i : Nat) : G.cmd 93 i = [] := rfl
theorem x4y (i : Nat) : G.cmd 94 i = [] := rfl
theorem zhv (i : Nat) : G.cmd 95 i = [] := rfl
theorem qyj (i : Nat) : G.cmd 96 i = [] := rfl
theorem zzz (i : Nat) : G.cmd 97 i = [] := rfl
theorem x2i (i : Nat) : G.cmd 98 i = [] := rfl
theorem zoi (i : Nat) : G.cmd 99 i = [] := rfl
theorem quc (i : Nat) : G.cmd 100 i = [] := rfl
theorem qmf (i : Nat) : G.cmd 101 i = [] := rfl
theorem qn8 (i : Nat) : G.cmd 102 i = [] := rfl
theorem zqx (i : Nat) : G.cmd 103 i = [] := rfl
theorem zmf (i : Nat) : G.cmd 104 i = [] := rfl
theorem zb0 (i : Nat) : G.cmd 105 i = [] := rfl
theorem zeq (i : Nat) : G.cmd 106 i = [] := rfl
theorem z2j (i : Nat) : G.cmd 107 i = [] := rfl
theorem qp4 (i : Nat) : G.cmd 108 i = [] := rfl
theorem zmj (i : Nat) : G.cmd 109 i = [] := rfl
theorem z4d (i : Nat) : G.cmd 110 i = [] := rfl
theorem zi9 (i : Nat) : G.cmd 111 i = [] := rfl
theorem z3h (i : Nat) : G.cmd 112 i = [] := rfl
theorem zjy (i : Nat) : G.cmd 113 i = [] := rfl
theorem zls (i : Nat) : G.cmd 114 i = [] := rfl
theorem zxa (i : Nat) : G.cmd 115 i = [] := rfl
theorem qtw (i : Nat) : G.cmd 116 i = [] := rfl
theorem z19 (i : Nat) : G.cmd 117 i = [] := rfl
theorem x2e (i : Nat) : G.cmd 118 i = [] := rfl
theorem x1m (i : Nat) : G.cmd 119 i = [] := rfl
theorem zcn (i : Nat) : G.cmd 120 i = [] := rfl
theorem z0r (i : Nat) : G.cmd 121 i = [] := rfl
theorem z4q (i : Nat) : G.cmd 122 i = [] := rfl
theorem zvg (i : Nat) : G.cmd 123 i = [] := rfl
theorem z3g (i : Nat) : G.cmd 124 i = [] := rfl
theorem x4g (i : Nat) : G.cmd 125 i = [] := rfl
theorem qy3 (i : Nat) : G.cmd 126 i = [] := rfl
theorem zx3 (i : Nat) : G.cmd 127 i = [] := rfl
theorem z4i (i : Nat) : G.cmd 128 i = [] := rfl
theorem zds (i : Nat) : G.cmd 129 i = [] := rfl
theorem x1z (i : Nat) : G.cmd 130 i = [] := rfl
theorem znw (i : Nat) : G.cmd 131 i = [] := rfl
theorem zeh (i : Nat) : G.cmd 132 i = [] := rfl
theorem x02 (i : Nat) : G.cmd 133 i = [] := rfl
theorem x01 (i : Nat) : G.cmd 134 i = [] := rfl
theorem zqc (i : Nat) : G.cmd 135 i = [] := rfl
theorem z16 (i : Nat) : G.cmd 136 i = [] := rfl
theorem z3z (i : Nat) : G.cmd 137 i = [] := rfl
theorem z9g (i : Nat) : G.cmd 138 i = [] := rfl
theorem qng (i : Nat) : G.cmd 139 i = [] := rfl
theorem qjh (i : Nat) : G.cmd 140 i = [] := rfl
theorem z3l (i : Nat) : G.cmd 141 i = [] := rfl
theorem zke (i : Nat) : G.cmd 142 i = [] := rfl
theorem zfp (i : Nat) : G.cmd 143 i = [] := rfl
theorem qt5 (i : Nat) : G.cmd 144 i = [] := rfl
theorem ze5 (i : Nat) : G.cmd 145 i = [] := rfl
theorem zyo (i : Nat) : G.cmd 146 i = [] := rfl
theorem qqx (i : Nat) : G.cmd 147 i = [] := rfl
theorem x0f (i : Nat) : G.cmd 148 i = [] := rfl
theorem zmt (i : Nat) : G.cmd 149 i = [] := rfl
theorem qnb (i : Nat) : G.cmd 150 i = [] := rfl
theorem z14 (i : Nat) : G.cmd 151 i = [] := rfl
theorem znq (i : Nat) : G.cmd 152 i = [] := rfl
theorem z05 (i : Nat) : G.cmd 153 i = [] := rfl
theorem z7j (i : Nat) : G.cmd 154 i = [] := rfl
theorem zeb (i : Nat) : G.cmd 155 i = [] := rfl
theorem zfx (i : Nat) : G.cmd 156 i = [] := rfl
theorem zi1 (i : Nat) : G.cmd 157 i = [] := rfl
theorem qtl (i : Nat) : G.cmd 158 i = [] := rfl
theorem z1z (i : Nat) : G.cmd 159 i = [] := rfl
theorem zhi (i : Nat) : G.cmd 160 i = [] := rfl
theorem zyw (i : Nat) : G.cmd 161 i = [] := rfl
theorem qrh (i : Nat) : G.cmd 162 i = [] := rfl
theorem z1g (i : Nat) : G.cmd 163 i = [] := rfl
theorem z7f (i : Nat) : G.cmd 164 i = [] := rfl
theorem quh (i : Nat) : G.cmd 165 i = [] := rfl
theorem zm6 (i : Nat) : G.cmd 166 i = [] := rfl
theorem qyy (i : Nat) : G.cmd 167 i = [] := rfl
theorem zmx (i : Nat) : G.cmd 168 i = [] := rfl
theorem zwh (i : Nat) : G.cmd 169 i = [] := rfl
theorem x3c (i : Nat) : G.cmd 170 i = [] := rfl
theorem qw3 (i : Nat) : G.cmd 171 i = [] := rfl
theorem qns (i : Nat) : G.cmd 172 i = [] := rfl
theorem zzv (i : Nat) : G.cmd 173 i = [] := rfl
theorem zo4 (i : Nat) : G.cmd 174 i = [] := rfl
theorem qv0 (i : Nat) : G.cmd 175 i = [] := rfl
theorem znx (i : Nat) : G.cmd 176 i = [] := rfl
theorem x0o (i : Nat) : G.cmd 177 i = [] := rfl
theorem zwp (i : Nat) : G.cmd 178 i = [] := rfl
theorem x1k (i : Nat) : G.cmd 179 i = [] := rfl
theorem qmg (i : Nat) : G.cmd 180 i = [] := rfl
theorem z0u (i : Nat) : G.cmd 181 i = [] := rfl
theorem zaq (i : Nat) : G.cmd 182 i = [] := rfl
theorem qzr (i : Nat) : G.cmd 183 i = [] := rfl
theorem z7l (i : Nat) : G.cmd 184 i = [] := rfl
theorem za4 (i : Nat) : G.cmd 185 i = [] := rfl
theorem qki (i : Nat) : G.cmd 186 i = [] := rfl
theorem zbu (i : Nat) : G.cmd 187 i = [] := rfl
theorem zns (i : Nat) : G.cmd 188 i = [] := rfl
theorem zql (i : Nat) : G.cmd 189 i = [] := rfl
theorem x2j (i : Nat) : G.cmd 190 i = [] := rfl
theorem zt0 (i : Nat) : G.cmd 191 i = [] := rfl
theorem zuh (i : Nat) : G.cmd 192 i = [] := rfl
theorem za8 (i : Nat) : G.cmd 193 i = [] := rfl
theorem zf0 (i : Nat) : G.cmd 194 i = [] := rfl
theorem qnm (i : Nat) : G.cmd 195 i = [] := rfl
theorem zo5 (i : Nat) : G.cmd 196 i = [] := rfl
theorem zlm (i : Nat) : G.cmd 197 i = [] := rfl
theorem zu4 (i : Nat) : G.cmd 198 i = [] := rfl
theorem qke (i : Nat) : G.cmd 199 i = [] := rfl
theorem x4i (i : Nat) : G.cmd 200 i = [] := rfl
theorem z88 (i : Nat) : G.cmd 201 i = [] := rfl
theorem z1k (i : Nat) : G.cmd 202 i = [] := rfl
theorem qy5 (i : Nat) : G.cmd 203 i = [] := rfl
theorem qts (i : Nat) : G.cmd 204 i = [] := rfl
theorem zjj (i : Nat) : G.cmd 205 i = [] := rfl
theorem x1x (i : Nat) : G.cmd 206 i = [] := rfl
theorem qjt (i : Nat) : G.cmd 207 i = [] := rfl
theorem qro (i : Nat) : G.cmd 208 i = [] := rfl
theorem zs1 (i : Nat) : G.cmd 209 i = [] := rfl
theorem zsm (i : Nat) : G.cmd 210 i = [] := rfl
theorem zgz (i : Nat) : G.cmd 211 i = [] := rfl
theorem x1c (i : Nat) : G.cmd 212 i = [] := rfl
theorem zvb (i : Nat) : G.cmd 213 i = [] := rfl
theorem zjw (i : Nat) : G.cmd 214 i = [] := rfl
theorem zpt (i : Nat) : G.cmd 215 i = [] := rfl
theorem zp1 (i : Nat) : G.cmd 216 i = [] := rfl
theorem quq (i : Nat) : G.cmd 217 i = [] := rfl
theorem qxw (i : Nat) : G.cmd 218 i = [] := rfl
theorem zp3 (i : Nat) : G.cmd 219 i = [] := rfl
theorem z0t (i : Nat) : G.cmd 220 i = [] := rfl
theorem zln (i : Nat) : G.cmd 221 i = [] := rfl
theorem zfk (i : Nat) : G.cmd 222 i = [] := rfl
theorem qso (i : Nat) : G.cmd 223 i = [] := rfl
theorem z5p (i : Nat) : G.cmd 224 i = [] := rfl
theorem qn1 (i : Nat) : G.cmd 225 i = [] := rfl
theorem z5u (i : Nat) : G.cmd 226 i = [] := rfl
theorem qr7 (i : Nat) : G.cmd 227 i = [] := rfl
theorem zsu (i : Nat) : G.cmd 228 i = [] := rfl
theorem qkf (i : Nat) : G.cmd 229 i = [] := rfl
theorem z9t (i : Nat) : G.cmd 230 i = [] := rfl
theorem qkr (i : Nat) : G.cmd 231 i = [] := rfl
theorem zbs (i : Nat) : G.cmd 232 i = [] := rfl
theorem zkt (i : Nat) : G.cmd 233 i = [] := rfl
theorem qqe (i : Nat) : G.cmd 234 i = [] := rfl
theorem ql8 (i : Nat) : G.cmd 235 i = [] := rfl
theorem ztz (i : Nat) : G.cmd 236 i = [] := rfl
theorem z6r (i : Nat) : G.cmd 237 i = [] := rfl
theorem zcp (i : Nat) : G.cmd 238 i = [] := rfl
theorem x0h (i : Nat) : G.cmd 239 i = [] := rfl
theorem zmk (i : Nat) : G.cmd 240 i = [] := rfl
theorem qy8 (i : Nat) : G.cmd 241 i = [] := rfl
theorem zz7 (i : Nat) : G.cmd 242 i = [] := rfl
theorem qv3 (i : Nat) : G.cmd 243 i = [] := rfl
theorem zym (i : Nat) : G.cmd 244 i = [] := rfl
theorem zhd (i : Nat) : G.cmd 245 i = [] := rfl
theorem zrj (i : Nat) : G.cmd 246 i = [] := rfl
theorem qqt (i : Nat) : G.cmd 247 i = [] := rfl
theorem z9e (i : Nat) : G.cmd 248 i = [] := rfl
theorem qu1 (i : Nat) : G.cmd 249 i = [] := rfl
theorem x2g (i : Nat) : G.cmd 250 i = [] := rfl
theorem zys (i : Nat) : G.cmd 251 i = [] := rfl
theorem qyx (i : Nat) : G.cmd 252 i = [] := rfl
theorem qzj (i : Nat) : G.cmd 253 i = [] := rfl
theorem z7i (i : Nat) : G.cmd 254 i = [] := rfl
theorem qtn (i : Nat) : G.cmd 255 i = [] := rfl
theorem zz1 (i : Nat) : G.cmd 256 i = [] := rfl
theorem zbi (i : Nat) : G.cmd 257 i = [] := rfl
theorem zre (i : Nat) : G.cmd 258 i = [] := rfl
theorem qr5 (i : Nat) : G.cmd 259 i = [] := rfl
theorem qyp (i : Nat) : G.cmd 260 i = [] := rfl
theorem z4p (i : Nat) : G.cmd 261 i = [] := rfl
theorem x0t (i : Nat) : G.cmd 262 i = [] := rfl
theorem qoz (i : Nat) : G.cmd 263 i = [] := rfl
theorem x1g (i : Nat) : G.cmd 264 i = [] := rfl
theorem qjv (i : Nat) : G.cmd 265 i = [] := rfl
theorem qmo (i : Nat) : G.cmd 266 i = [] := rfl
theorem z03 (i : Nat) : G.cmd 267 i = [] := rfl
theorem zwr (i : Nat) : G.cmd 268 i = [] := rfl
theorem qry (i : Nat) : G.cmd 269 i = [] := rfl
theorem ztw (i : Nat) : G.cmd 270 i = [] := rfl
theorem zp2 (i : Nat) : G.cmd 271 i = [] := rfl
theorem zur (i : Nat) : G.cmd 272 i = [] := rfl
theorem zmq (i : Nat) : G.cmd 273 i = [] := rfl
theorem zjv (i : Nat) : G.cmd 274 i = [] := rfl
theorem zqq (i : Nat) : G.cmd 275 i = [] := rfl
theorem znm (i : Nat) : G.cmd 276 i = [] := rfl
theorem x12 (i : Nat) : G.cmd 277 i = [] := rfl
theorem qvc (i : Nat) : G.cmd 278 i = [] := rfl
theorem z9o (i : Nat) : G.cmd 279 i = [] := rfl
theorem x2o (i : Nat) : G.cmd 280 i = [] := rfl
theorem zpw (i : Nat) : G.cmd 281 i = [] := rfl
theorem z1p (i : Nat) : G.cmd 282 i = [] := rfl
theorem qlw (i : Nat) : G.cmd 283 i = [] := rfl
theorem qvd (i : Nat) : G.cmd 284 i = [] := rfl
theorem zyi (i : Nat) : G.cmd 285 i = [] := rfl
theorem x2w (i : Nat) : G.cmd 286 i = [] := rfl
theorem zcs (i : Nat) : G.cmd 287 i = [] := rfl
theorem qto (i : Nat) : G.cmd 288 i = [] := rfl
theorem zlz (i : Nat) : G.cmd 289 i = [] := rfl
theorem za0 (i : Nat) : G.cmd 290 i = [] := rfl
theorem zk8 (i : Nat) : G.cmd 291 i = [] := rfl
theorem z2k (i : Nat) : G.cmd 292 i = [] := rfl
theorem zwq (i : Nat) : G.cmd 293 i = [] := rfl
theorem qwc (i : Nat) : G.cmd 294 i = [] := rfl
theorem zxg (i : Nat) : G.cmd 295 i = [] := rfl
theorem x26 (i : Nat) : G.cmd 296 i = [] := rfl
theorem qx4 (i : Nat) : G.cmd 297 i = [] := rfl
theorem qtf (i : Nat) : G.cmd 298 i = [] := rfl
theorem zgu (i : Nat) : G.cmd 299 i = [] := rfl
theorem zw9 (i : Nat) : G.cmd 300 i = [] := rfl
theorem qs3 (i : Nat) : G.cmd 301 i = [] := rfl
theorem zkp (i : Nat) : G.cmd 302 i = [] := rfl
theorem qx2 (i : Nat) : G.cmd 303 i = [] := rfl
theorem zuj (i : Nat) : G.cmd 304 i = [] := rfl
theorem zct (i : Nat) : G.cmd 305 i = [] := rfl
theorem zck (i : Nat) : G.cmd 306 i = [] := rfl
theorem qw4 (i : Nat) : G.cmd 307 i = [] := rfl
theorem qo9 (i : Nat) : G.cmd 308 i = [] := rfl
theorem x0c (i : Nat) : G.cmd 309 i = [] := rfl
theorem z4k (i : Nat) : G.cmd 310 i = [] := rfl
theorem z1f (i : Nat) : G.cmd 311 i = [] := rfl
theorem zby (i : Nat) : G.cmd 312 i = [] := rfl
theorem zl5 (i : Nat) : G.cmd 313 i = [] := rfl
theorem z5l (i : Nat) : G.cmd 314 i = [] := rfl
theorem qwu (i : Nat) : G.cmd 315 i = [] := rfl
theorem zr7 (i : Nat) : G.cmd 316 i = [] := rfl
theorem zzj (i : Nat) : G.cmd 317 i = [] := rfl
theorem qxl (i : Nat) : G.cmd 318 i = [] := rfl
theorem zs2 (i : Nat) : G.cmd 319 i = [] := rfl
theorem zl8 (i : Nat) : G.cmd 320 i = [] := rfl
theorem zff (i : Nat) : G.cmd 321 i = [] := rfl
theorem zty (i : Nat) : G.cmd 322 i = [] := rfl
theorem qyr (i : Nat) : G.cmd 323 i = [] := rfl
theorem zoc (i : Nat) : G.cmd 324 i = [] := rfl
theorem x1u (i : Nat) : G.cmd 325 i = [] := rfl
theorem qkw (i : Nat) : G.cmd 326 i = [] := rfl
theorem qub (i : Nat) : G.cmd 327 i = [] := rfl
theorem zto (i : Nat) : G.cmd 328 i = [] := rfl
theorem zvi (i : Nat) : G.cmd 329 i = [] := rfl
theorem z1l (i : Nat) : G.cmd 330 i = [] := rfl
theorem zkq (i : Nat) : G.cmd 331 i = [] := rfl
theorem z2v (i : Nat) : G.cmd 332 i = [] := rfl
theorem zzf (i : Nat) : G.cmd 333 i = [] := rfl
theorem za6 (i : Nat) : G.cmd 334 i = [] := rfl
theorem qlf (i : Nat) : G.cmd 335 i = [] := rfl
theorem zs6 (i : Nat) : G.cmd 336 i = [] := rfl
theorem zau (i : Nat) : G.cmd 337 i = [] := rfl
theorem zfq (i : Nat) : G.cmd 338 i = [] := rfl
theorem zpn (i : Nat) : G.cmd 339 i = [] := rfl
theorem z1r (i : Nat) : G.cmd 340 i = [] := rfl
theorem zpg (i : Nat) : G.cmd 341 i = [] := rfl
theorem zhl (i : Nat) : G.cmd 342 i = [] := rfl
theorem qr6 (i : Nat) : G.cmd 343 i = [] := rfl
theorem zti (i : Nat) : G.cmd 344 i = [] := rfl
theorem zv1 (i : Nat) : G.cmd 345 i = [] := rfl
theorem qwy (i : Nat) : G.cmd 346 i = [] := rfl
theorem z1e (i : Nat) : G.cmd 347 i = [] := rfl
theorem zy4 (i : Nat) : G.cmd 348 i = [] := rfl
theorem qqq (i : Nat) : G.cmd 349 i = [] := rfl
theorem qk8 (i : Nat) : G.cmd 350 i = [] := rfl
theorem zn3 (i : Nat) : G.cmd 351 i = [] := rfl
theorem qym (i : Nat) : G.cmd 352 i = [] := rfl
theorem zxu (i : Nat) : G.cmd 353 i = [] := rfl
theorem z9p (i : Nat) : G.cmd 354 i = [] := rfl
theorem zpo (i : Nat) : G.cmd 355 i = [] := rfl
theorem zs5 (i : Nat) : G.cmd 356 i = [] := rfl
theorem qpt (i : Nat) : G.cmd 357 i = [] := rfl
theorem z1t (i : Nat) : G.cmd 358 i = [] := rfl
theorem x00 (i : Nat) : G.cmd 359 i = [] := rfl
theorem qlt (i : Nat) : G.cmd 360 i = [] := rfl
theorem zxn (i : Nat) : G.cmd 361 i = [] := rfl
theorem qkt (i : Nat) : G.cmd 362 i = [] := rfl
theorem zzh (i : Nat) : G.cmd 363 i = [] := rfl
theorem qj9 (i : Nat) : G.cmd 364 i = [] := rfl
theorem qkz (i : Nat) : G.cmd 365 i = [] := rfl
theorem z6f (i : Nat) : G.cmd 366 i = [] := rfl
theorem zkk (i : Nat) : G.cmd 367 i = [] := rfl
theorem qw1 (i : Nat) : G.cmd 368 i = [] := rfl
theorem z4f (i : Nat) : G.cmd 369 i = [] := rfl
theorem qxn (i : Nat) : G.cmd 370 i = [] := rfl
theorem zj4 (i : Nat) : G.cmd 371 i = [] := rfl
theorem z3d (i : Nat) : G.cmd 372 i = [] := rfl
theorem qqk (i : Nat) : G.cmd 373 i = [] := rfl
theorem zvj (i : Nat) : G.cmd 374 i = [] := rfl
theorem zec (i : Nat) : G.cmd 375 i = [] := rfl
theorem qxo (i : Nat) : G.cmd 376 i = [] := rfl
theorem qq5 (i : Nat) : G.cmd 377 i = [] := rfl
theorem zh0 (i : Nat) : G.cmd 378 i = [] := rfl
theorem x44 (i : Nat) : G.cmd 379 i = [] := rfl
theorem z0n (i : Nat) : G.cmd 380 i = [] := rfl
theorem x19 (i : Nat) : G.cmd 381 i = [] := rfl
theorem qlj (i : Nat) : G.cmd 382 i = [] := rfl
theorem qwm (i : Nat) : G.cmd 383 i = [] := rfl
theorem zf5 (i : Nat) : G.cmd 384 i = [] := rfl
theorem x2y (i : Nat) : G.cmd 385 i = [] := rfl
theorem qwb (i : Nat) : G.cmd 386 i = [] := rfl
theorem qpr (i : Nat) : G.cmd 387 i = [] := rfl
theorem zi5 (i : Nat) : G.cmd 388 i = [] := rfl
theorem qn5 (i : Nat) : G.cmd 389 i = [] := rfl
theorem x2b (i : Nat) : G.cmd 390 i = [] := rfl
theorem zda (i : Nat) : G.cmd 391 i = [] := rfl
theorem qmm (i : Nat) : G.cmd 392 i = [] := rfl
theorem qxg (i : Nat) : G.cmd 393 i = [] := rfl
theorem z3e (i : Nat) : G.cmd 394 i = [] := rfl
theorem zc2 (i : Nat) : G.cmd 395 i = [] := rfl
theorem qm7 (i : Nat) : G.cmd 396 i = [] := rfl
theorem zcr (i : Nat) : G.cmd 397 i = [] := rfl
theorem x3s (i : Nat) : G.cmd 398 i = [] := rfl
theorem qxh (i : Nat) : G.cmd 399 i = [] := rfl
theorem zg0 (i : Nat) : G.cmd 400 i = [] := rfl
theorem zdo (i : Nat) : G.cmd 401 i = [] := rfl
theorem z3b (i : Nat) : G.cmd 402 i = [] := rfl
theorem qqn (i : Nat) : G.cmd 403 i = [] := rfl
theorem zsp (i : Nat) : G.cmd 404 i = [] := rfl
theorem zbr (i : Nat) : G.cmd 405 i = [] := rfl
theorem qvh (i : Nat) : G.cmd 406 i = [] := rfl
theorem qvo (i : Nat) : G.cmd 407 i = [] := rfl
theorem qtp (i : Nat) : G.cmd 408 i = [] := rfl
theorem qw8 (i : Nat) : G.cmd 409 i = [] := rfl
theorem zqu (i : Nat) : G.cmd 410 i = [] := rfl
theorem zoy (i : Nat) : G.cmd 411 i = [] := rfl
theorem qri (i : Nat) : G.cmd 412 i = [] := rfl
theorem zh4 (i : Nat) : G.cmd 413 i = [] := rfl
theorem qse (i : Nat) : G.cmd 414 i = [] := rfl
theorem zx5 (i : Nat) : G.cmd 415 i = [] := rfl
theorem zy0 (i : Nat) : G.cmd 416 i = [] := rfl
theorem zku (i : Nat) : G.cmd 417 i = [] := rfl
theorem zdl (i : Nat) : G.cmd 418 i = [] := rfl
theorem z6j (i : Nat) : G.cmd 419 i = [] := rfl
theorem qpg (i : Nat) : G.cmd 420 i = [] := rfl
theorem z1q (i : Nat) : G.cmd 421 i = [] := rfl
theorem ztj (i : Nat) : G.cmd 422 i = [] := rfl
theorem x2v (i : Nat) : G.cmd 423 i = [] := rfl
theorem z3i (i : Nat) : G.cmd 424 i = [] := rfl
theorem zj7 (i : Nat) : G.cmd 425 i = [] := rfl
theorem zqd (i : Nat) : G.cmd 426 i = [] := rfl
theorem zxy (i : Nat) : G.cmd 427 i = [] := rfl
theorem qxt (i : Nat) : G.cmd 428 i = [] := rfl
theorem z4s (i : Nat) : G.cmd 429 i = [] := rfl
theorem zaf (i : Nat) : G.cmd 430 i = [] := rfl
theorem zc9 (i : Nat) : G.cmd 431 i = [] := rfl
theorem qty (i : Nat) : G.cmd 432 i = [] := rfl
theorem zce (i : Nat) : G.cmd 433 i = [] := rfl
theorem zea (i : Nat) : G.cmd 434 i = [] := rfl
theorem z1n (i : Nat) : G.cmd 435 i = [] := rfl
theorem zut (i : Nat) : G.cmd 436 i = [] := rfl
theorem qp0 (i : Nat) : G.cmd 437 i = [] := rfl
theorem z01 (i : Nat) : G.cmd 438 i = [] := rfl
theorem qwt (i : Nat) : G.cmd 439 i = [] := rfl
theorem qyc (i : Nat) : G.cmd 440 i = [] := rfl
theorem qwi (i : Nat) : G.cmd 441 i = [] := rfl
theorem zv6 (i : Nat) : G.cmd 442 i = [] := rfl
theorem zyk (i : Nat) : G.cmd 443 i = [] := rfl
theorem qrc (i : Nat) : G.cmd 444 i = [] := rfl
theorem x3r (i : Nat) : G.cmd 445 i = [] := rfl
theorem qsb (i : Nat) : G.cmd 446 i = [] := rfl
theorem x3d (i : Nat) : G.cmd 447 i = [] := rfl
theorem qtk (i : Nat) : G.cmd 448 i = [] := rfl
theorem qko (i : Nat) : G.cmd 449 i = [] := rfl
theorem z7s (i : Nat) : G.cmd 450 i = [] := rfl
theorem qsp (i : Nat) : G.cmd 451 i = [] := rfl
theorem x0e (i : Nat) : G.cmd 452 i = [] := rfl
theorem z2z (i : Nat) : G.cmd 453 i = [] := rfl
theorem zr0 : G.spec 6 0 = ⟨[1,2,7],[6],[],[],[],0⟩ := rfl
theorem zt3 : G.spec 6 2 = ⟨[1,2,7,8],[1,2,7],[],[],[],0⟩ := rfl
theorem qqi : G.spec 8 0 = ⟨[0,3,4],[3],[3],[],[],0⟩ := rfl
theorem x3z : G.spec 8 3 = ⟨[0,3,4,5,6],[0,3,4,5],[],[(5,5)],[],0⟩ := rfl
theorem ze4 : G.spec 8 5 = ⟨[0,3,4,5,8],[0,3,4,5],[],[(5,6)],[],0⟩ := rfl
theorem zky : G.spec 9 0 = ⟨[1,6,15,16,17],[1,6],[6],[],[],0⟩ := rfl
theorem qjy : G.spec 9 2 = ⟨[1,6,30,31,32],[1,4,5,6],[6],[],[],0⟩ := rfl
theorem z7m : G.spec 10 0 = ⟨[0,6,7,8,9],[2,3,4,5,6,7,8,9],[8],[],[],0⟩ := rfl
theorem qvf : G.spec 11 0 = ⟨[0,1,5],[4],[],[],[],0⟩ := rfl
theorem z8f : G.spec 12 0 = ⟨[0,1,5],[4],[],[],[],0⟩ := rfl
theorem zxb : G.spec 16 0 = ⟨[0,1,5],[4],[],[],[],0⟩ := rfl
theorem qjq : G.spec 17 0 = ⟨[1,2,7],[6],[],[],[],0⟩ := rfl
theorem zqv : G.spec 20 1 = ⟨[4,5,6,82,83,84],[4,5,6],[],[],[],0⟩ := rfl
theorem zmb : G.spec 20 3 = ⟨[4,5,6,119,120,121],[4,5,6],[],[],[],0⟩ := rfl
theorem qoj : G.spec 21 0 = ⟨[0,3],[0,3],[3],[],[],0⟩ := rfl
theorem zi7 : G.spec 22 1 = ⟨[0,2,3],[0,2,3],[],[(3,5)],[],0⟩ := rfl
theorem z1m : G.spec 22 3 = ⟨[0,2,3],[0,2,3],[],[(3,6)],[],0⟩ := rfl
theorem zok : G.spec 23 0 = ⟨[0,1,5],[4],[],[],[],0⟩ := rfl
theorem z90 : G.spec 24 0 = ⟨[0,1,5],[4],[],[],[],0⟩ := rfl
theorem z8a : G.spec 33 0 = ⟨[5,6,7],[2],[],[],[],0⟩ := rfl
theorem zeu : G.spec 35 0 = ⟨[0,5,6,7],[2],[],[],[],0⟩ := rfl
theorem zj0 : G.spec 37 0 = ⟨[0,3],[0,3],[],[],[],0⟩ := rfl
theorem zee : G.spec 60 0 = ⟨[0,4,5,6],[0,2,3,4,5,6],[],[],[],0⟩ := rfl
theorem fz1 : G.frz 1 = false := rfl
theorem fz2 : G.frz 2 = false := rfl
theorem fz3 : G.frz 3 = false := rfl
theorem fz4 : G.frz 4 = false := rfl
theorem fz5 : G.frz 5 = false := rfl
theorem fz6 : G.frz 6 = false := rfl
theorem fz7 : G.frz 7 = false := rfl
theorem fz8 : G.frz 8 = false := rfl
theorem fz9 : G.frz 9 = false := rfl
theorem zjr : G.frz 10 = false := rfl
theorem zf3 : G.frz 11 = false := rfl
theorem zei : G.frz 12 = false := rfl
theorem qrj : G.frz 13 = false := rfl
theorem zxv : G.frz 14 = false := rfl
theorem qxm : G.frz 15 = false := rfl
theorem zga : G.frz 16 = false := rfl
theorem qjl : G.frz 17 = false := rfl
theorem z0j : G.frz 18 = false := rfl
theorem zil : G.frz 19 = false := rfl
theorem zit : G.frz 20 = false := rfl
theorem zd0 : G.frz 21 = false := rfl
theorem qzl : G.frz 22 = false := rfl
theorem qqf : G.frz 23 = false := rfl
theorem ze2 : G.frz 24 = false := rfl
theorem zj1 : G.frz 25 = false := rfl
theorem qn3 : G.frz 26 = false := rfl
theorem qn4 : G.frz 27 = false := rfl
theorem zu9 : G.frz 28 = false := rfl
theorem x0w : G.frz 30 = false := rfl
theorem qyg : G.frz 32 = false := rfl
theorem zuk : G.frz 33 = false := rfl
theorem zgo : G.frz 34 = false := rfl
theorem qj7 : G.frz 35 = false := rfl
theorem x2l : G.frz 36 = false := rfl
theorem x2h : G.frz 37 = false := rfl
theorem zhe : G.frz 38 = false := rfl
theorem zek : G.frz 40 = false := rfl
theorem z2o : G.frz 41 = false := rfl
theorem qrz : G.frz 42 = false := rfl
theorem z7q : G.frz 43 = false := rfl
theorem x3o : G.frz 44 = false := rfl
theorem zhj : G.frz 45 = false := rfl
theorem zis : G.frz 46 = false := rfl
theorem x0k : G.frz 47 = false := rfl
theorem x36 : G.frz 48 = false := rfl
theorem zmv : G.frz 49 = false := rfl
theorem qo0 : G.frz 50 = false := rfl
theorem qww : G.frz 51 = false := rfl
theorem zn4 : G.frz 52 = false := rfl
theorem qzi : G.frz 53 = false := rfl
theorem z2e : G.frz 54 = false := rfl
theorem z1i : G.frz 55 = false := rfl
theorem qox : G.frz 56 = false := rfl
theorem zyf : G.frz 58 = false := rfl
theorem zmr : G.frz 59 = false := rfl
theorem zen : G.frz 60 = false := rfl
theorem qy6 : G.frz 61 = false := rfl
theorem qjn : G.frz 62 = false := rfl
theorem z7a : G.frz 63 = false := rfl
theorem z3a : G.frz 64 = false := rfl
theorem qzy : G.frz 65 = false := rfl
theorem zib : G.frz 66 = false := rfl
theorem zpk : G.frz 67 = false := rfl
theorem z2x : G.frz 68 = false := rfl
theorem zj2 : G.frz 69 = false := rfl
theorem x3w : G.frz 71 = false := rfl
theorem qli : G.frz 72 = false := rfl
theorem z0e : G.frz 73 = false := rfl
theorem zzl : G.frz 74 = false := rfl
theorem qqy : G.frz 75 = false := rfl
theorem qtb : G.frz 76 = false := rfl
theorem zz3 : G.frz 77 = false := rfl
theorem zqw : G.frz 78 = false := rfl
theorem qxa : G.frz 79 = false := rfl
theorem zbw : G.frz 80 = false := rfl
theorem qtt : G.frz 81 = false := rfl
theorem zpz : G.frz 82 = false := rfl
theorem zb9 : G.frz 83 = false := rfl
theorem zfe : G.frz 84 = false := rfl
theorem zjt : G.frz 85 = false := rfl
theorem zrn : G.frz 86 = false := rfl
theorem zar : G.frz 87 = false := rfl
theorem x4l : G.frz 88 = false := rfl
theorem z3n : G.frz 89 = false := rfl
theorem zzx : G.frz 90 = false := rfl
theorem qmr : G.frz 91 = false := rfl
theorem zo6 : G.frz 93 = false := rfl
theorem zkr : G.frz 94 = false := rfl
theorem zvr : G.frz 96 = false := rfl
theorem zpi : G.frz 97 = false := rfl
theorem z7n : G.frz 99 = false := rfl
theorem zet : G.frz 100 = false := rfl
theorem qu4 : G.frz 101 = false := rfl
theorem zw6 : G.frz 102 = false := rfl
theorem qx1 : G.frz 103 = false := rfl
theorem x1l : G.frz 104 = false := rfl
theorem za2 : G.frz 105 = false := rfl
theorem zvu : G.frz 106 = false := rfl
theorem zf9 : G.frz 107 = false := rfl
theorem qq9 : G.frz 109 = false := rfl
theorem zr4 : G.frz 110 = false := rfl
theorem x48 : G.frz 111 = false := rfl
theorem zix : G.frz 112 = false := rfl
theorem zx6 : G.frz 114 = false := rfl
theorem zx0 : G.frz 115 = false := rfl
theorem zfg : G.frz 116 = false := rfl
theorem zta : G.frz 117 = false := rfl
theorem qqm : G.frz 118 = false := rfl
theorem zwk : G.frz 119 = false := rfl
theorem x4u : G.frz 120 = false := rfl
theorem z5o : G.frz 121 = false := rfl
theorem zu0 : G.frz 122 = false := rfl
theorem zmg : G.frz 123 = false := rfl
theorem qsu : G.frz 124 = false := rfl
theorem x07 : G.frz 125 = false := rfl
theorem qs4 : G.frz 127 = false := rfl
theorem qnr : G.frz 128 = false := rfl
theorem z4w : G.frz 129 = false := rfl
theorem x2p : G.frz 130 = false := rfl
theorem zy8 : G.frz 131 = false := rfl
theorem zmp : G.frz 132 = false := rfl
theorem qsk : G.frz 133 = false := rfl
theorem z5d : G.frz 135 = false := rfl
theorem zog : G.frz 136 = false := rfl
theorem zlq : G.frz 137 = false := rfl
theorem qp6 : G.frz 138 = false := rfl
theorem zcl : G.frz 139 = false := rfl
theorem ztg : G.frz 140 = false := rfl
theorem qsm : G.frz 141 = false := rfl
theorem x1a : G.frz 142 = false := rfl
theorem qzm : G.frz 143 = false := rfl
theorem qqo : G.frz 144 = false := rfl
theorem qyk : G.frz 145 = false := rfl
theorem z0i : G.frz 147 = false := rfl
theorem zjk : G.frz 148 = false := rfl
theorem qqg : G.frz 150 = false := rfl
theorem zst : G.frz 151 = false := rfl
theorem qkb : G.frz 152 = false := rfl
theorem z1j : G.frz 153 = false := rfl
theorem z2u : G.frz 154 = false := rfl
theorem zup : G.frz 155 = false := rfl
theorem qmw : G.frz 156 = false := rfl
theorem zkx : G.frz 158 = false := rfl
theorem zkn : G.frz 159 = false := rfl
theorem zaj : G.frz 160 = false := rfl
theorem z08 : G.frz 161 = false := rfl
theorem zv2 : G.frz 163 = false := rfl
theorem qs2 : G.frz 164 = false := rfl
theorem zna : G.frz 165 = false := rfl
theorem qsc : G.frz 166 = false := rfl
theorem zr9 : G.frz 167 = false := rfl
theorem zzm : G.frz 168 = false := rfl
theorem zl1 : G.frz 169 = false := rfl
theorem qrp : G.frz 170 = false := rfl
theorem x15 : G.frz 171 = false := rfl
theorem zja : G.frz 172 = false := rfl
theorem zvt : G.frz 173 = false := rfl
theorem zg5 : G.frz 174 = false := rfl
theorem zd4 : G.frz 175 = false := rfl
theorem qo5 : G.frz 176 = false := rfl
theorem qt7 : G.frz 177 = false := rfl
theorem qp3 : G.frz 178 = false := rfl
theorem zdp : G.frz 179 = false := rfl
theorem qzv : G.frz 180 = false := rfl
theorem qzp : G.frz 181 = false := rfl
theorem x4n : G.frz 182 = false := rfl
theorem zow : G.frz 183 = false := rfl
theorem z1c : G.frz 184 = false := rfl
theorem zz6 : G.frz 185 = false := rfl
theorem qnh : G.frz 186 = false := rfl
theorem qup : G.frz 188 = false := rfl
theorem zq9 : G.frz 189 = false := rfl
theorem z1w : G.frz 190 = false := rfl
theorem zlu : G.frz 191 = false := rfl
theorem qn6 : G.frz 192 = false := rfl
theorem qz9 : G.frz 193 = false := rfl
theorem zve : G.frz 194 = false := rfl
theorem zjb : G.frz 195 = false := rfl
theorem z7k : G.frz 197 = false := rfl
theorem ze6 : G.frz 198 = false := rfl
theorem z4m : G.frz 199 = false := rfl
theorem zzd : G.frz 200 = false := rfl
theorem zw5 : G.frz 201 = false := rfl
theorem z10 : G.frz 203 = false := rfl
theorem qrf : G.frz 204 = false := rfl
theorem z0d : G.frz 205 = false := rfl
theorem zuv : G.frz 207 = false := rfl
theorem z6p : G.frz 208 = false := rfl
theorem zhs : G.frz 210 = false := rfl
theorem qop : G.frz 211 = false := rfl
theorem qz6 : G.frz 212 = false := rfl
theorem z4r : G.frz 213 = false := rfl
theorem z5f : G.frz 214 = false := rfl
theorem qwk : G.frz 215 = false := rfl
theorem z3q : G.frz 216 = false := rfl
theorem zqi : G.frz 218 = false := rfl
theorem zwy : G.frz 219 = false := rfl
theorem zn5 : G.frz 220 = false := rfl
theorem zl2 : G.frz 221 = false := rfl
theorem zh7 : G.frz 222 = false := rfl
theorem zi2 : G.frz 223 = false := rfl
theorem qyd : G.frz 224 = false := rfl
theorem zlk : G.frz 225 = false := rfl
theorem ztf : G.frz 226 = false := rfl
theorem qsl : G.frz 227 = false := rfl
theorem znt : G.frz 228 = false := rfl
theorem zjo : G.frz 229 = false := rfl
theorem z3r : G.frz 230 = false := rfl
theorem qu2 : G.frz 231 = false := rfl
theorem zu5 : G.frz 232 = false := rfl
theorem qqz : G.frz 233 = false := rfl
theorem z7d : G.frz 235 = false := rfl
theorem znh : G.frz 236 = false := rfl
theorem z4z : G.frz 238 = false := rfl
theorem z2l : G.frz 239 = false := rfl
theorem z0o : G.frz 240 = false := rfl
theorem ztn : G.frz 241 = false := rfl
theorem qk2 : G.frz 242 = false := rfl
theorem qr2 : G.frz 243 = false := rfl
theorem zmm : G.frz 244 = false := rfl
theorem qwf : G.frz 245 = false := rfl
theorem zol : G.frz 246 = false := rfl
theorem qkv : G.frz 247 = false := rfl
theorem z5q : G.frz 248 = false := rfl
theorem qkx : G.frz 249 = false := rfl
theorem qld : G.frz 250 = false := rfl
theorem qnx : G.frz 251 = false := rfl
theorem zjn : G.frz 252 = false := rfl
theorem qon : G.frz 253 = false := rfl
theorem zgx : G.frz 254 = false := rfl
theorem z7w : G.frz 255 = false := rfl
theorem zry : G.frz 256 = false := rfl
theorem qm8 : G.frz 257 = false := rfl
theorem qmu : G.frz 258 = false := rfl
theorem zvv : G.frz 259 = false := rfl
theorem zs9 : G.frz 260 = false := rfl
theorem zlc : G.frz 261 = false := rfl
theorem zll : G.frz 262 = false := rfl
theorem ziq : G.frz 263 = false := rfl
theorem z2p : G.frz 264 = false := rfl
theorem zml : G.frz 265 = false := rfl
theorem zyb : G.frz 267 = false := rfl
theorem zir : G.frz 268 = false := rfl
theorem zq6 : G.frz 269 = false := rfl
theorem ziy : G.frz 270 = false := rfl
theorem x04 : G.frz 271 = false := rfl
theorem qsx : G.frz 272 = false := rfl
theorem zc8 : G.frz 273 = false := rfl
theorem zzw : G.frz 274 = false := rfl
theorem qr1 : G.frz 275 = false := rfl
theorem z0b : G.frz 277 = false := rfl
theorem z8c : G.frz 278 = false := rfl
theorem zg2 : G.frz 279 = false := rfl
theorem zxz : G.frz 280 = false := rfl
theorem x10 : G.frz 281 = false := rfl
theorem qx7 : G.frz 283 = false := rfl
theorem za7 : G.frz 285 = false := rfl
theorem x2t : G.frz 286 = false := rfl
theorem z0m : G.frz 287 = false := rfl
theorem quj : G.frz 288 = false := rfl
theorem zj5 : G.frz 289 = false := rfl
theorem zw8 : G.frz 290 = false := rfl
theorem z15 : G.frz 291 = false := rfl
theorem x3n : G.frz 292 = false := rfl
theorem z6c : G.frz 293 = false := rfl
theorem x56 : G.frz 294 = false := rfl
theorem z99 : G.frz 295 = false := rfl
theorem zhp : G.frz 296 = false := rfl
theorem x2m : G.frz 297 = false := rfl
theorem zp7 : G.frz 299 = false := rfl
theorem z2m : G.frz 300 = false := rfl
theorem qsq : G.frz 301 = false := rfl
theorem qvx : G.frz 302 = false := rfl
theorem x1b : G.frz 303 = false := rfl
theorem x47 : G.frz 304 = false := rfl
theorem zo3 : G.frz 305 = false := rfl
theorem z09 : G.frz 306 = false := rfl
theorem zzt : G.frz 307 = false := rfl
theorem qtz : G.frz 308 = false := rfl
theorem qms : G.frz 309 = false := rfl
theorem qu8 : G.frz 310 = false := rfl
theorem zqb : G.frz 311 = false := rfl
theorem qjc : G.frz 312 = false := rfl
theorem z11 : G.frz 314 = false := rfl
theorem zrq : G.frz 315 = false := rfl
theorem qlr : G.frz 316 = false := rfl
theorem zzn : G.frz 317 = false := rfl
theorem qkq : G.frz 318 = false := rfl
theorem z9f : G.frz 319 = false := rfl
theorem zio : G.frz 320 = false := rfl
theorem x0r : G.frz 321 = false := rfl
theorem qoa : G.frz 322 = false := rfl
theorem z5k : G.frz 323 = false := rfl
theorem znd : G.frz 324 = false := rfl
theorem z5c : G.frz 325 = false := rfl
theorem qxq : G.frz 326 = false := rfl
theorem z7z : G.frz 327 = false := rfl
theorem ztk : G.frz 328 = false := rfl
theorem qye : G.frz 329 = false := rfl
theorem x2f : G.frz 330 = false := rfl
theorem zex : G.frz 331 = false := rfl
theorem zro : G.frz 332 = false := rfl
theorem zh9 : G.frz 333 = false := rfl
theorem zfd : G.frz 334 = false := rfl
theorem z0x : G.frz 335 = false := rfl
theorem zgq : G.frz 336 = false := rfl
theorem zmz : G.frz 337 = false := rfl
theorem zm9 : G.frz 338 = false := rfl
theorem x2z : G.frz 339 = false := rfl
theorem zlw : G.frz 341 = false := rfl
theorem zbk : G.frz 342 = false := rfl
theorem zob : G.frz 343 = false := rfl
theorem qmp : G.frz 344 = false := rfl
theorem qjf : G.frz 345 = false := rfl
theorem zqt : G.frz 346 = false := rfl
theorem qyz : G.frz 347 = false := rfl
theorem ztc : G.frz 348 = false := rfl
theorem zyj : G.frz 349 = false := rfl
theorem zyl : G.frz 350 = false := rfl
theorem z4n : G.frz 351 = false := rfl
theorem zmo : G.frz 352 = false := rfl
theorem z1y : G.frz 353 = false := rfl
theorem z8i : G.frz 354 = false := rfl
theorem zsz : G.frz 355 = false := rfl
theorem zr5 : G.frz 356 = false := rfl
theorem z8t : G.frz 357 = false := rfl
theorem zbo : G.frz 358 = false := rfl
theorem ztd : G.frz 359 = false := rfl
theorem zm2 : G.frz 360 = false := rfl
theorem qpw : G.frz 361 = false := rfl
theorem x0z : G.frz 362 = false := rfl
theorem qrg : G.frz 363 = false := rfl
theorem zd5 : G.frz 364 = false := rfl
theorem zs7 : G.frz 365 = false := rfl
theorem zs3 : G.frz 366 = false := rfl
theorem za1 : G.frz 367 = false := rfl
theorem qod : G.frz 368 = false := rfl
theorem qjm : G.frz 369 = false := rfl
theorem quv : G.frz 370 = false := rfl
theorem qpc : G.frz 371 = false := rfl
theorem qk5 : G.frz 372 = false := rfl
theorem z95 : G.frz 374 = false := rfl
theorem zfm : G.frz 375 = false := rfl
theorem qx9 : G.frz 376 = false := rfl
theorem zkc : G.frz 377 = false := rfl
theorem zbc : G.frz 379 = false := rfl
theorem z6i : G.frz 380 = false := rfl
theorem qqj : G.frz 381 = false := rfl
theorem z6b : G.frz 382 = false := rfl
theorem x1t : G.frz 383 = false := rfl
theorem ziw : G.frz 385 = false := rfl
theorem zfr : G.frz 386 = false := rfl
theorem qzd : G.frz 387 = false := rfl
theorem qq0 : G.frz 389 = false := rfl
theorem zfv : G.frz 390 = false := rfl
theorem qws : G.frz 391 = false := rfl
theorem qlx : G.frz 392 = false := rfl
theorem que : G.frz 393 = false := rfl
theorem z2t : G.frz 394 = false := rfl
theorem x3m : G.frz 395 = false := rfl
theorem zin : G.frz 396 = false := rfl
theorem z8u : G.frz 397 = false := rfl
theorem zri : G.frz 398 = false := rfl
theorem zbd : G.frz 399 = false := rfl
theorem zth : G.frz 400 = false := rfl
theorem z9x : G.frz 401 = false := rfl
theorem qxv : G.frz 402 = false := rfl
theorem x4e : G.frz 403 = false := rfl
theorem zv7 : G.frz 404 = false := rfl
theorem zu1 : G.frz 405 = false := rfl
theorem zgs : G.frz 406 = false := rfl
theorem qrl : G.frz 408 = false := rfl
theorem zcv : G.frz 410 = false := rfl
theorem zpy : G.frz 411 = false := rfl
theorem zcz : G.frz 412 = false := rfl
theorem z81 : G.frz 413 = false := rfl
theorem x0y : G.frz 414 = false := rfl
theorem qtu : G.frz 415 = false := rfl
theorem zwx : G.frz 416 = false := rfl
theorem x4j : G.frz 417 = false := rfl
theorem z1h : G.frz 418 = false := rfl
theorem zk6 : G.frz 419 = false := rfl
theorem zv4 : G.frz 421 = false := rfl
theorem qzb : G.frz 422 = false := rfl
theorem zbm : G.frz 424 = false := rfl
theorem ztl : G.frz 426 = false := rfl
theorem zuy : G.frz 427 = false := rfl
theorem x1y : G.frz 428 = false := rfl
theorem zun : G.frz 429 = false := rfl
theorem zbv : G.frz 430 = false := rfl
theorem x4q : G.frz 431 = false := rfl
theorem x4h : G.frz 432 = false := rfl
theorem zrk : G.frz 433 = false := rfl
theorem qoy : G.frz 435 = false := rfl
theorem qte : G.frz 436 = false := rfl
theorem qu6 : G.frz 437 = false := rfl
theorem qj1 : G.frz 438 = false := rfl
theorem z8z : G.frz 439 = false := rfl
theorem qr8 : G.frz 440 = false := rfl
theorem zq1 : G.frz 441 = false := rfl
theorem qvq : G.frz 442 = false := rfl
theorem zw2 : G.frz 443 = false := rfl
theorem qz0 : G.frz 444 = false := rfl
theorem qv6 : G.frz 445 = false := rfl
theorem zod : G.frz 446 = false := rfl
theorem zwm : G.frz 447 = false := rfl
theorem qsr : G.frz 449 = false := rfl
theorem zyr : G.frz 450 = false := rfl
theorem zkv : G.frz 451 = false := rfl
theorem x2x : G.frz 452 = false := rfl
theorem zia : G.frz 453 = false := rfl
theorem qus : G.frz 454 = false := rfl
theorem z5t : G.frz 456 = false := rfl
theorem qma : G.frz 458 = false := rfl
theorem zq5 : G.frz 459 = false := rfl
theorem qut : G.frz 460 = false := rfl
theorem za3 : G.frz 461 = false := rfl
theorem zcf : G.frz 462 = false := rfl
theorem z9w : G.frz 464 = false := rfl
theorem x4k : G.frz 465 = false := rfl
theorem qor : G.frz 466 = false := rfl
theorem zvf : G.frz 467 = false := rfl
theorem ziz : G.frz 468 = false := rfl
theorem zg4 : G.frz 469 = false := rfl
theorem z8j : G.frz 470 = false := rfl
theorem z97 : G.frz 471 = false := rfl
theorem qlq : G.frz 472 = false := rfl
theorem qlv : G.frz 473 = false := rfl
theorem z8b : G.frz 474 = false := rfl
theorem z8r : G.frz 475 = false := rfl
theorem zpa : G.frz 476 = false := rfl
theorem zhk : G.frz 477 = false := rfl
theorem zxh : G.frz 478 = false := rfl
theorem z0l : G.frz 479 = false := rfl
theorem qo8 : G.frz 480 = false := rfl
theorem qxr : G.frz 482 = false := rfl
theorem zgn : G.frz 483 = false := rfl
theorem z1d : G.frz 484 = false := rfl
theorem z7r : G.frz 485 = false := rfl
theorem zss : G.frz 486 = false := rfl
theorem zsw : G.frz 487 = false := rfl
theorem zxi : G.frz 488 = false := rfl
theorem z6t : G.frz 489 = false := rfl
theorem qpv : G.frz 490 = false := rfl
theorem qm0 : G.frz 491 = false := rfl
theorem qlo : G.frz 492 = false := rfl
theorem qz1 : G.frz 493 = false := rfl
theorem zps : G.frz 494 = false := rfl
theorem zlo : G.frz 496 = false := rfl
theorem qzf : G.frz 497 = false := rfl
theorem zhn : G.frz 498 = false := rfl
theorem z7o : G.frz 499 = false := rfl
theorem qy1 : G.frz 500 = false := rfl
theorem zts : G.frz 501 = false := rfl
theorem zr6 : G.frz 502 = false := rfl
theorem z9h : G.frz 503 = false := rfl
theorem qkl : G.frz 504 = false := rfl
theorem qu0 : G.frz 505 = false := rfl
theorem zzc : G.frz 507 = false := rfl
theorem zpu : G.frz 508 = false := rfl
theorem z7e : G.frz 509 = false := rfl
theorem qvy : G.frz 510 = false := rfl
theorem zfa : G.frz 511 = false := rfl
theorem z5r : G.frz 512 = false := rfl
theorem qw9 : G.frz 514 = false := rfl
theorem zx4 : G.frz 515 = false := rfl
theorem zj8 : G.frz 517 = false := rfl
theorem x1j : G.frz 518 = false := rfl
theorem zvq : G.frz 519 = false := rfl
theorem za5 : G.frz 520 = false := rfl
theorem zw7 : G.frz 521 = false := rfl
theorem zhu : G.frz 522 = false := rfl
theorem qzx : G.frz 523 = false := rfl
theorem qru : G.frz 524 = false := rfl
theorem z92 : G.frz 525 = false := rfl
theorem ql6 : G.frz 526 = false := rfl
theorem zse : G.frz 527 = false := rfl
theorem zgv : G.frz 528 = false := rfl
theorem qp9 : G.frz 529 = false := rfl
theorem qj2 : G.frz 530 = false := rfl
theorem zm5 : G.frz 531 = false := rfl
theorem qme : G.frz 532 = false := rfl
theorem z6k : G.frz 533 = false := rfl
theorem zrd : G.frz 534 = false := rfl
theorem zsd : G.frz 535 = false := rfl
theorem z4c : G.frz 536 = false := rfl
theorem qow : G.frz 537 = false := rfl
theorem mf1 : G.mrf 1 = false := rfl
theorem mf2 : G.mrf 2 = false := rfl
theorem mf3 : G.mrf 3 = false := rfl
theorem mf4 : G.mrf 4 = false := rfl
theorem mf5 : G.mrf 5 = false := rfl
theorem mf6 : G.mrf 6 = false := rfl
theorem mf7 : G.mrf 7 = false := rfl
theorem mf8 : G.mrf 8 = false := rfl
theorem mf9 : G.mrf 9 = false := rfl
theorem zal : G.mrf 10 = false := rfl
theorem x3q : G.mrf 11 = false := rfl
theorem qys : G.mrf 12 = false := rfl
theorem x4w : G.mrf 13 = false := rfl
theorem zpl : G.mrf 14 = false := rfl
theorem qks : G.mrf 15 = false := rfl
theorem qnl : G.mrf 16 = false := rfl
theorem zyq : G.mrf 17 = false := rfl
theorem zz9 : G.mrf 18 = false := rfl
theorem zm0 : G.mrf 19 = false := rfl
theorem zie : G.mrf 20 = false := rfl
theorem zvs : G.mrf 21 = false := rfl
theorem zm7 : G.mrf 22 = false := rfl
theorem zba : G.mrf 23 = false := rfl
theorem ziu : G.mrf 24 = false := rfl
theorem zdf : G.mrf 25 = false := rfl
theorem qm4 : G.mrf 26 = false := rfl
theorem z9u : G.mrf 27 = false := rfl
theorem qqp : G.mrf 28 = false := rfl
theorem qpk : G.mrf 30 = false := rfl
theorem zof : G.mrf 32 = false := rfl
theorem qwr : G.mrf 33 = false := rfl
theorem z6s : G.mrf 34 = false := rfl
theorem zz4 : G.mrf 35 = false := rfl
theorem qkm : G.mrf 36 = false := rfl
theorem qrm : G.mrf 37 = false := rfl
theorem z7v : G.mrf 38 = false := rfl
theorem qmt : G.mrf 40 = false := rfl
theorem z0g : G.mrf 41 = false := rfl
theorem zot : G.mrf 42 = false := rfl
theorem zh2 : G.mrf 43 = false := rfl
theorem zvw : G.mrf 44 = false := rfl
theorem zc4 : G.mrf 45 = false := rfl
theorem z8p : G.mrf 46 = false := rfl
theorem zua : G.mrf 47 = false := rfl
theorem qwx : G.mrf 48 = false := rfl
theorem zrb : G.mrf 49 = false := rfl
theorem z3m : G.mrf 50 = false := rfl
theorem zxw : G.mrf 51 = false := rfl
theorem qya : G.mrf 52 = false := rfl
theorem z4a : G.mrf 53 = false := rfl
theorem qq7 : G.mrf 54 = false := rfl
theorem zn0 : G.mrf 55 = false := rfl
theorem zd3 : G.mrf 56 = false := rfl
theorem qxp : G.mrf 58 = false := rfl
theorem qnw : G.mrf 59 = false := rfl
theorem qvk : G.mrf 60 = false := rfl
theorem zmc : G.mrf 61 = false := rfl
theorem ztq : G.mrf 62 = false := rfl
theorem zgj : G.mrf 63 = false := rfl
theorem qxk : G.mrf 64 = false := rfl
theorem zzr : G.mrf 65 = false := rfl
theorem zk1 : G.mrf 66 = false := rfl
theorem x1o : G.mrf 67 = false := rfl
theorem zlf : G.mrf 68 = false := rfl
theorem qt2 : G.mrf 69 = false := rfl
theorem z7y : G.mrf 71 = false := rfl
theorem qul : G.mrf 72 = false := rfl
theorem z3u : G.mrf 73 = false := rfl
theorem zk4 : G.mrf 74 = false := rfl
theorem qr4 : G.mrf 75 = false := rfl
theorem qj0 : G.mrf 76 = true := rfl
theorem zer : G.mrf 77 = false := rfl
theorem zly : G.mrf 78 = false := rfl
theorem qrd : G.mrf 79 = false := rfl
theorem z2c : G.mrf 80 = false := rfl
theorem zcq : G.mrf 81 = false := rfl
theorem z0c : G.mrf 82 = false := rfl
theorem zjz : G.mrf 83 = false := rfl
theorem qqa : G.mrf 84 = false := rfl
theorem qw7 : G.mrf 85 = false := rfl
theorem zji : G.mrf 86 = false := rfl
theorem zgc : G.mrf 87 = false := rfl
theorem zxl : G.mrf 88 = false := rfl
theorem zlx : G.mrf 89 = false := rfl
theorem zy1 : G.mrf 90 = false := rfl
theorem qt4 : G.mrf 91 = false := rfl
theorem qpi : G.mrf 93 = false := rfl
theorem qj5 : G.mrf 94 = false := rfl
theorem qv4 : G.mrf 96 = false := rfl
theorem z2n : G.mrf 97 = false := rfl
theorem qkn : G.mrf 99 = false := rfl
theorem zuo : G.mrf 100 = false := rfl
theorem qqr : G.mrf 101 = false := rfl
theorem qjd : G.mrf 102 = false := rfl
theorem x3v : G.mrf 103 = false := rfl
theorem qrs : G.mrf 104 = false := rfl
theorem qxc : G.mrf 105 = false := rfl
theorem qra : G.mrf 106 = false := rfl
theorem zc5 : G.mrf 107 = false := rfl
theorem zt9 : G.mrf 109 = false := rfl
theorem qx0 : G.mrf 110 = false := rfl
theorem zu8 : G.mrf 111 = false := rfl
theorem zkz : G.mrf 112 = false := rfl
theorem z6g : G.mrf 114 = false := rfl
theorem zy3 : G.mrf 115 = false := rfl
theorem qtx : G.mrf 116 = false := rfl
theorem qy7 : G.mrf 117 = false := rfl
theorem qw0 : G.mrf 118 = false := rfl
theorem qz3 : G.mrf 119 = false := rfl
theorem qv1 : G.mrf 120 = false := rfl
theorem zoo : G.mrf 121 = false := rfl
theorem qsi : G.mrf 122 = false := rfl
theorem zxc : G.mrf 123 = false := rfl
theorem qnd : G.mrf 124 = false := rfl
theorem qjs : G.mrf 125 = false := rfl
theorem zn8 : G.mrf 127 = false := rfl
theorem qpf : G.mrf 128 = false := rfl
theorem z6q : G.mrf 129 = false := rfl
theorem z0q : G.mrf 130 = false := rfl
theorem zvn : G.mrf 131 = false := rfl
theorem qlp : G.mrf 132 = false := rfl
theorem zl9 : G.mrf 133 = false := rfl
theorem x1h : G.mrf 135 = false := rfl
theorem zdw : G.mrf 136 = false := rfl
theorem z5g : G.mrf 137 = false := rfl
theorem zus : G.mrf 138 = false := rfl
theorem qwl : G.mrf 139 = false := rfl
theorem zt2 : G.mrf 140 = false := rfl
theorem x4t : G.mrf 141 = false := rfl
theorem znn : G.mrf 142 = false := rfl
theorem zfh : G.mrf 143 = false := rfl
theorem qux : G.mrf 144 = false := rfl
theorem qzt : G.mrf 145 = false := rfl
theorem zhy : G.mrf 147 = false := rfl
theorem z5z : G.mrf 148 = false := rfl
theorem qp5 : G.mrf 150 = false := rfl
theorem qv2 : G.mrf 151 = false := rfl
theorem qn7 : G.mrf 152 = false := rfl
theorem qml : G.mrf 153 = false := rfl
theorem zza : G.mrf 154 = false := rfl
theorem x2s : G.mrf 155 = false := rfl
theorem qxd : G.mrf 156 = false := rfl
theorem z1u : G.mrf 158 = false := rfl
theorem z2y : G.mrf 159 = false := rfl
theorem zbz : G.mrf 160 = false := rfl
theorem zsy : G.mrf 161 = false := rfl
theorem qxi : G.mrf 163 = false := rfl
theorem zik : G.mrf 164 = false := rfl
theorem zos : G.mrf 165 = false := rfl
theorem x33 : G.mrf 166 = false := rfl
theorem qs0 : G.mrf 167 = false := rfl
theorem qve : G.mrf 168 = false := rfl
theorem zt4 : G.mrf 169 = false := rfl
theorem zdr : G.mrf 170 = false := rfl
theorem zi6 : G.mrf 171 = false := rfl
theorem z4x : G.mrf 172 = false := rfl
theorem zzb : G.mrf 173 = false := rfl
theorem qnv : G.mrf 174 = false := rfl
theorem z8m : G.mrf 175 = false := rfl
theorem zgp : G.mrf 176 = false := rfl
theorem qn2 : G.mrf 177 = false := rfl
theorem zn2 : G.mrf 178 = false := rfl
theorem zwu : G.mrf 179 = false := rfl
theorem zyv : G.mrf 180 = false := rfl
theorem zb5 : G.mrf 181 = false := rfl
theorem zcj : G.mrf 182 = false := rfl
theorem qk7 : G.mrf 183 = false := rfl
theorem zsr : G.mrf 184 = false := rfl
theorem ztx : G.mrf 185 = false := rfl
theorem x46 : G.mrf 186 = false := rfl
theorem x2a : G.mrf 188 = false := rfl
theorem qly : G.mrf 189 = false := rfl
theorem zyc : G.mrf 190 = false := rfl
theorem zkg : G.mrf 191 = false := rfl
theorem zdt : G.mrf 192 = false := rfl
theorem zw4 : G.mrf 193 = false := rfl
theorem qsw : G.mrf 194 = false := rfl
theorem x4z : G.mrf 195 = false := rfl
theorem qlh : G.mrf 197 = false := rfl
theorem z0v : G.mrf 198 = false := rfl
theorem zz0 : G.mrf 199 = false := rfl
theorem qm5 : G.mrf 200 = false := rfl
theorem qpj : G.mrf 201 = false := rfl
theorem z4u : G.mrf 203 = false := rfl
theorem x1f : G.mrf 204 = false := rfl
theorem zhx : G.mrf 205 = false := rfl
theorem zab : G.mrf 207 = false := rfl
theorem zt6 : G.mrf 208 = false := rfl
theorem qz7 : G.mrf 210 = false := rfl
theorem qsg : G.mrf 211 = false := rfl
theorem zk7 : G.mrf 212 = false := rfl
theorem zt8 : G.mrf 213 = false := rfl
theorem zhz : G.mrf 214 = false := rfl
theorem qv8 : G.mrf 215 = false := rfl
theorem zms : G.mrf 216 = false := rfl
theorem quw : G.mrf 218 = false := rfl
theorem zwn : G.mrf 219 = false := rfl
theorem znc : G.mrf 220 = false := rfl
theorem qsn : G.mrf 221 = false := rfl
theorem z98 : G.mrf 222 = false := rfl
theorem zmd : G.mrf 223 = false := rfl
theorem z2r : G.mrf 224 = false := rfl
theorem zov : G.mrf 225 = false := rfl
theorem ze0 : G.mrf 226 = false := rfl
theorem qmk : G.mrf 227 = false := rfl
theorem qq3 : G.mrf 228 = false := rfl
theorem x50 : G.mrf 229 = false := rfl
theorem zfo : G.mrf 230 = false := rfl
theorem zh5 : G.mrf 231 = false := rfl
theorem qo6 : G.mrf 232 = false := rfl
theorem zlh : G.mrf 233 = false := rfl
theorem z4t : G.mrf 235 = false := rfl
theorem z2g : G.mrf 236 = false := rfl
theorem zdg : G.mrf 238 = false := rfl
theorem qzg : G.mrf 239 = false := rfl
theorem x1w : G.mrf 240 = false := rfl
theorem x2q : G.mrf 241 = false := rfl
theorem qm9 : G.mrf 242 = false := rfl
theorem zjq : G.mrf 243 = false := rfl
theorem zp4 : G.mrf 244 = false := rfl
theorem zul : G.mrf 245 = false := rfl
theorem z5m : G.mrf 246 = false := rfl
theorem z3v : G.mrf 247 = false := rfl
theorem zxq : G.mrf 248 = false := rfl
theorem z8w : G.mrf 249 = false := rfl
theorem zoe : G.mrf 250 = false := rfl
theorem qq8 : G.mrf 251 = false := rfl
theorem z8g : G.mrf 252 = false := rfl
theorem zqy : G.mrf 253 = false := rfl
theorem z9s : G.mrf 254 = false := rfl
theorem zel : G.mrf 255 = false := rfl
theorem zhf : G.mrf 256 = false := rfl
theorem zya : G.mrf 257 = false := rfl
theorem zq8 : G.mrf 258 = false := rfl
theorem qxs : G.mrf 259 = false := rfl
theorem zf1 : G.mrf 260 = false := rfl
theorem zjh : G.mrf 261 = false := rfl
theorem qm3 : G.mrf 262 = false := rfl
theorem qq4 : G.mrf 263 = false := rfl
theorem qqs : G.mrf 264 = false := rfl
theorem x3j : G.mrf 265 = false := rfl
theorem zeg : G.mrf 267 = false := rfl
theorem x2r : G.mrf 268 = false := rfl
theorem qwj : G.mrf 269 = false := rfl
theorem qj6 : G.mrf 270 = false := rfl
theorem qt9 : G.mrf 271 = false := rfl
theorem zc1 : G.mrf 272 = false := rfl
theorem quk : G.mrf 273 = false := rfl
theorem qze : G.mrf 274 = false := rfl
theorem zwz : G.mrf 275 = false := rfl
theorem z13 : G.mrf 277 = false := rfl
theorem z5b : G.mrf 278 = false := rfl
theorem z3t : G.mrf 279 = false := rfl
theorem z8x : G.mrf 280 = false := rfl
theorem qnq : G.mrf 281 = false := rfl
theorem zso : G.mrf 283 = false := rfl
theorem z9b : G.mrf 285 = false := rfl
theorem x13 : G.mrf 286 = false := rfl
theorem x14 : G.mrf 287 = false := rfl
theorem x0x : G.mrf 288 = false := rfl
theorem qv5 : G.mrf 289 = false := rfl
theorem zzq : G.mrf 290 = false := rfl
theorem zfs : G.mrf 291 = false := rfl
theorem zng : G.mrf 292 = false := rfl
theorem zva : G.mrf 293 = false := rfl
theorem qps : G.mrf 294 = false := rfl
theorem zzy : G.mrf 295 = false := rfl
theorem zf4 : G.mrf 296 = false := rfl
theorem qtc : G.mrf 297 = false := rfl
theorem qzn : G.mrf 299 = false := rfl
theorem ql7 : G.mrf 300 = false := rfl
theorem qmq : G.mrf 301 = false := rfl
theorem x3t : G.mrf 302 = false := rfl
theorem zrx : G.mrf 303 = false := rfl
theorem zxe : G.mrf 304 = false := rfl
theorem zrs : G.mrf 305 = false := rfl
theorem qja : G.mrf 306 = false := rfl
theorem zo7 : G.mrf 307 = false := rfl
theorem qtq : G.mrf 308 = false := rfl
theorem zxx : G.mrf 309 = false := rfl
theorem zgg : G.mrf 310 = false := rfl
theorem zbg : G.mrf 311 = false := rfl
theorem zhq : G.mrf 312 = false := rfl
theorem zyt : G.mrf 314 = false := rfl
theorem zd8 : G.mrf 315 = false := rfl
theorem qj3 : G.mrf 316 = false := rfl
theorem qvp : G.mrf 317 = false := rfl
theorem zk5 : G.mrf 318 = false := rfl
theorem z7b : G.mrf 319 = false := rfl
theorem qs8 : G.mrf 320 = false := rfl
theorem qk6 : G.mrf 321 = false := rfl
theorem x3y : G.mrf 322 = false := rfl
theorem z1x : G.mrf 323 = false := rfl
theorem z6o : G.mrf 324 = false := rfl
theorem zo1 : G.mrf 325 = false := rfl
theorem zjx : G.mrf 326 = false := rfl
theorem qnc : G.mrf 327 = false := rfl
theorem qle : G.mrf 328 = false := rfl
theorem qp2 : G.mrf 329 = false := rfl
theorem x49 : G.mrf 330 = false := rfl
theorem x2k : G.mrf 331 = false := rfl
theorem zd6 : G.mrf 332 = false := rfl
theorem x45 : G.mrf 333 = false := rfl
theorem zpx : G.mrf 334 = false := rfl
theorem zvd : G.mrf 335 = false := rfl
theorem qu3 : G.mrf 336 = false := rfl
theorem zqm : G.mrf 337 = false := rfl
theorem qzk : G.mrf 338 = false := rfl
theorem z6a : G.mrf 339 = false := rfl
theorem qlg : G.mrf 341 = false := rfl
theorem zak : G.mrf 342 = false := rfl
theorem zma : G.mrf 343 = false := rfl
theorem z6n : G.mrf 344 = false := rfl
theorem qv9 : G.mrf 345 = false := rfl
theorem z2f : G.mrf 346 = false := rfl
theorem qov : G.mrf 347 = false := rfl
theorem qyi : G.mrf 348 = false := rfl
theorem zsi : G.mrf 349 = false := rfl
theorem qsz : G.mrf 350 = false := rfl
theorem zas : G.mrf 351 = true := rfl
theorem zru : G.mrf 352 = false := rfl
theorem qyv : G.mrf 353 = false := rfl
theorem qwd : G.mrf 354 = true := rfl
theorem zg8 : G.mrf 355 = false := rfl
theorem zo8 : G.mrf 356 = false := rfl
theorem zca : G.mrf 357 = false := rfl
theorem qje : G.mrf 358 = false := rfl
theorem qzq : G.mrf 359 = false := rfl
theorem qrn : G.mrf 360 = false := rfl
theorem qy9 : G.mrf 361 = false := rfl
theorem z02 : G.mrf 362 = false := rfl
theorem qyu : G.mrf 363 = false := rfl
theorem qlu : G.mrf 364 = false := rfl
theorem zb1 : G.mrf 365 = false := rfl
theorem zu3 : G.mrf 366 = false := rfl
theorem zmh : G.mrf 367 = false := rfl
theorem zsa : G.mrf 368 = false := rfl
theorem qvs : G.mrf 369 = false := rfl
theorem qnp : G.mrf 370 = false := rfl
theorem qpa : G.mrf 371 = false := rfl
theorem z9n : G.mrf 372 = false := rfl
theorem zrt : G.mrf 374 = false := rfl
theorem z5n : G.mrf 375 = false := rfl
theorem zyh : G.mrf 376 = false := rfl
theorem qls : G.mrf 377 = false := rfl
theorem zlg : G.mrf 379 = false := rfl
theorem zai : G.mrf 380 = true := rfl
theorem x05 : G.mrf 381 = false := rfl
theorem z8k : G.mrf 382 = false := rfl
theorem qp7 : G.mrf 383 = false := rfl
theorem ze1 : G.mrf 385 = false := rfl
theorem zc3 : G.mrf 386 = false := rfl
theorem zid : G.mrf 387 = false := rfl
theorem zph : G.mrf 389 = false := rfl
theorem zcd : G.mrf 390 = false := rfl
theorem x52 : G.mrf 391 = false := rfl
theorem qxj : G.mrf 392 = false := rfl
theorem x3f : G.mrf 393 = false := rfl
theorem qqh : G.mrf 394 = false := rfl
theorem ze7 : G.mrf 395 = false := rfl
theorem zfw : G.mrf 396 = false := rfl
theorem z6w : G.mrf 397 = false := rfl
theorem qvv : G.mrf 398 = false := rfl
theorem z9k : G.mrf 399 = false := rfl
theorem zmu : G.mrf 400 = false := rfl
theorem qm2 : G.mrf 401 = false := rfl
theorem x4a : G.mrf 402 = false := rfl
theorem zgh : G.mrf 403 = false := rfl
theorem qsy : G.mrf 404 = false := rfl
theorem zye : G.mrf 405 = false := rfl
theorem zhg : G.mrf 406 = false := rfl
theorem zt1 : G.mrf 408 = false := rfl
theorem zew : G.mrf 410 = false := rfl
theorem z0z : G.mrf 411 = false := rfl
theorem ze9 : G.mrf 412 = false := rfl
theorem qjw : G.mrf 413 = false := rfl
theorem zkd : G.mrf 414 = false := rfl
theorem x17 : G.mrf 415 = false := rfl
theorem ztv : G.mrf 416 = false := rfl
theorem z0p : G.mrf 417 = false := rfl
theorem qy0 : G.mrf 418 = false := rfl
theorem zlj : G.mrf 419 = false := rfl
theorem z04 : G.mrf 421 = false := rfl
theorem qlk : G.mrf 422 = false := rfl
theorem zn9 : G.mrf 424 = false := rfl
theorem qxz : G.mrf 426 = false := rfl
theorem qq1 : G.mrf 427 = false := rfl
theorem qxy : G.mrf 428 = false := rfl
theorem zwe : G.mrf 429 = false := rfl
theorem x1s : G.mrf 430 = false := rfl
theorem z5s : G.mrf 431 = false := rfl
theorem x0m : G.mrf 432 = false := rfl
theorem zxr : G.mrf 433 = false := rfl
theorem qok : G.mrf 435 = false := rfl
theorem zem : G.mrf 436 = false := rfl
theorem zkw : G.mrf 437 = false := rfl
theorem zyg : G.mrf 438 = false := rfl
theorem zdh : G.mrf 439 = false := rfl
theorem zuz : G.mrf 440 = false := rfl
theorem zrf : G.mrf 441 = false := rfl
theorem qmn : G.mrf 442 = false := rfl
theorem qjg : G.mrf 443 = false := rfl
theorem qu7 : G.mrf 444 = false := rfl
theorem zaz : G.mrf 445 = false := rfl
theorem x2c : G.mrf 446 = false := rfl
theorem qp1 : G.mrf 447 = false := rfl
theorem qx5 : G.mrf 449 = false := rfl
theorem zsb : G.mrf 450 = false := rfl
theorem qnk : G.mrf 451 = false := rfl
theorem qmx : G.mrf 452 = false := rfl
theorem qxu : G.mrf 453 = false := rfl
theorem zra : G.mrf 454 = false := rfl
theorem zj9 : G.mrf 456 = false := rfl
theorem qql : G.mrf 458 = false := rfl
theorem qph : G.mrf 459 = false := rfl
theorem z18 : G.mrf 460 = false := rfl
theorem qky : G.mrf 461 = false := rfl
theorem zl4 : G.mrf 462 = false := rfl
theorem zuu : G.mrf 464 = false := rfl
theorem zvo : G.mrf 465 = false := rfl
theorem x0g : G.mrf 466 = false := rfl
theorem qk3 : G.mrf 467 = false := rfl
theorem qou : G.mrf 468 = false := rfl
theorem zd2 : G.mrf 469 = false := rfl
theorem zho : G.mrf 470 = false := rfl
theorem z94 : G.mrf 471 = false := rfl
theorem z9a : G.mrf 472 = false := rfl
theorem ze3 : G.mrf 473 = false := rfl
theorem qpp : G.mrf 474 = false := rfl
theorem qsf : G.mrf 475 = false := rfl
theorem z8n : G.mrf 476 = false := rfl
theorem z1s : G.mrf 477 = false := rfl
theorem zv8 : G.mrf 478 = false := rfl
theorem zrp : G.mrf 479 = false := rfl
theorem z2d : G.mrf 480 = false := rfl
theorem zpb : G.mrf 482 = false := rfl
theorem x0v : G.mrf 483 = false := rfl
theorem z8d : G.mrf 484 = false := rfl
theorem zpd : G.mrf 485 = false := rfl
theorem znz : G.mrf 486 = false := rfl
theorem qyt : G.mrf 487 = false := rfl
theorem x1p : G.mrf 488 = false := rfl
theorem zd7 : G.mrf 489 = false := rfl
theorem zes : G.mrf 490 = false := rfl
theorem qm6 : G.mrf 491 = false := rfl
theorem zl6 : G.mrf 492 = false := rfl
theorem qjz : G.mrf 493 = false := rfl
theorem zwb : G.mrf 494 = false := rfl
theorem z0a : G.mrf 496 = false := rfl
theorem zvc : G.mrf 497 = false := rfl
theorem qoe : G.mrf 498 = false := rfl
theorem zgi : G.mrf 499 = false := rfl
theorem zwi : G.mrf 500 = false := rfl
theorem zny : G.mrf 501 = false := rfl
theorem zp5 : G.mrf 502 = false := rfl
theorem qrk : G.mrf 503 = false := rfl
theorem zzo : G.mrf 504 = false := rfl
theorem qyf : G.mrf 505 = false := rfl
theorem qvg : G.mrf 507 = false := rfl
theorem zsn : G.mrf 508 = false := rfl
theorem zm3 : G.mrf 509 = false := rfl
theorem zoq : G.mrf 510 = false := rfl
theorem qv7 : G.mrf 511 = false := rfl
theorem zlp : G.mrf 512 = false := rfl
theorem zyn : G.mrf 514 = false := rfl
theorem zvl : G.mrf 515 = false := rfl
theorem zz2 : G.mrf 517 = false := rfl
theorem zt7 : G.mrf 518 = false := rfl
theorem qjo : G.mrf 519 = false := rfl
theorem zb8 : G.mrf 520 = false := rfl
theorem zam : G.mrf 521 = false := rfl
theorem zbp : G.mrf 522 = false := rfl
theorem qu9 : G.mrf 523 = false := rfl
theorem x2u : G.mrf 524 = false := rfl
theorem ql3 : G.mrf 525 = false := rfl
theorem qt8 : G.mrf 526 = false := rfl
theorem z5i : G.mrf 527 = false := rfl
theorem ql4 : G.mrf 528 = false := rfl
theorem qrr : G.mrf 529 = false := rfl
theorem x08 : G.mrf 530 = false := rfl
theorem z06 : G.mrf 531 = false := rfl
theorem zp6 : G.mrf 532 = false := rfl
theorem qum : G.mrf 533 = false := rfl
theorem qzu : G.mrf 534 = false := rfl
theorem z4e : G.mrf 535 = false := rfl
theorem zft : G.mrf 536 = false := rfl
theorem zx7 : G.mrf 537 = false := rfl
theorem ti3 : G.ti 3 = some ⟨1,8,.int .i64,[.int .i64 0],false,none⟩ := by kernel_rfl
theorem ti4 : G.ti 4 = some ⟨1,1,.bool,[.bool false],false,none⟩ := by kernel_rfl
theorem ti5 : G.ti 5 = some ⟨1,1,.int .u8,[.int .u8 0],false,none⟩ := by kernel_rfl
theorem ti9 : G.ti 9 = some ⟨1,16,.string,[.str []],false,none⟩ := by kernel_rfl
theorem zae : G.ti 22 = some ⟨1,24,.slice 37,[.sl true 0 []],false,none⟩ := by kernel_rfl
theorem zdd : G.ti 23 = some ⟨1,24,.slice 45,[.sl true 0 []],false,none⟩ := by kernel_rfl
theorem qss : G.ti 24 = some ⟨1,24,.slice 5,[.sl true 0 []],false,none⟩ := by kernel_rfl
theorem qz8 : G.ti 28 = some ⟨1,8,.int .i64,[.int .i64 0],false,none⟩ := by kernel_rfl
theorem z9l : G.ti 36 = some ⟨1,24,.slice 9,[.sl true 0 []],false,none⟩ := by kernel_rfl
theorem qo7 : G.ti 37 = some ⟨1,4,.int .u32,[.int .u32 0],false,none⟩ := by kernel_rfl
theorem qpq : G.ti 42 = some ⟨1,24,.slice 53,[.sl true 0 []],false,none⟩ := by kernel_rfl
theorem qog : G.ti 43 = some ⟨1,24,.slice 56,[.sl true 0 []],false,none⟩ := by kernel_rfl
theorem qyq : G.ti 45 = some ⟨7,104,.struct [(0,1,3),(1,1,9),(2,1,9),(3,1,3),(4,1,4),(5,1,42),(6,1,43)],[.int .i64 0,.str [],.str [],.int .i64 0,.bool false,.sl true 0 [],.sl true 0 []],true,none⟩ := by kernel_rfl
theorem zgm : G.ti 51 = some ⟨2,16,.struct [(0,1,3),(1,1,3)],[.int .i64 0,.int .i64 0],true,none⟩ := by kernel_rfl
theorem z3c : G.ti 53 = some ⟨3,32,.struct [(0,2,51),(2,1,9)],[.int .i64 0,.int .i64 0,.str []],true,none⟩ := by kernel_rfl
theorem zay : G.ti 56 = some ⟨2,16,.struct [(0,1,3),(1,1,3)],[.int .i64 0,.int .i64 0],true,none⟩ := by kernel_rfl
theorem qqd : G.ti 61 = some ⟨2,32,.struct [(0,1,24),(1,1,3)],[.sl true 0 [],.int .i64 0],true,none⟩ := by kernel_rfl
theorem z2a : G.ti 63 = some ⟨3,40,.struct [(0,2,61),(2,1,4)],[.sl true 0 [],.int .i64 0,.bool false],true,none⟩ := by kernel_rfl
theorem zcc : G.ti 68 = some ⟨1,8,.int .u64,[.int .u64 0],false,none⟩ := by kernel_rfl
theorem qug : G.ti 124 = some ⟨1,24,.slice 3,[.sl true 0 []],false,none⟩ := by kernel_rfl
theorem fn3 : G.fn 3 = some ⟨Tryz.f3.ntmps,Tryz.f3.results.toList,Tryz.f3.body.get!⟩ := by kernel_rfl
theorem fn6 : G.fn 6 = some ⟨Tryz.f6.ntmps,Tryz.f6.results.toList,Tryz.f6.body.get!⟩ := by kernel_rfl
theorem fn8 : G.fn 8 = some ⟨Tryz.f8.ntmps,Tryz.f8.results.toList,Tryz.f8.body.get!⟩ := by kernel_rfl
theorem fn9 : G.fn 9 = some ⟨Tryz.f9.ntmps,Tryz.f9.results.toList,Tryz.f9.body.get!⟩ := by kernel_rfl
theorem q2y : G.fn 10 = some ⟨Tryz.f10.ntmps,Tryz.f10.results.toList,Tryz.f10.body.get!⟩ := by kernel_rfl
theorem q6a : G.fn 11 = some ⟨Tryz.f11.ntmps,Tryz.f11.results.toList,Tryz.f11.body.get!⟩ := by kernel_rfl
theorem q34 : G.fn 12 = some ⟨Tryz.f12.ntmps,Tryz.f12.results.toList,Tryz.f12.body.get!⟩ := by kernel_rfl
theorem zdv : G.fn 13 = some ⟨Tryz.f13.ntmps,Tryz.f13.results.toList,Tryz.f13.body.get!⟩ := by kernel_rfl
theorem q6q : G.fn 16 = some ⟨Tryz.f16.ntmps,Tryz.f16.results.toList,Tryz.f16.body.get!⟩ := by kernel_rfl
theorem q5o : G.fn 17 = some ⟨Tryz.f17.ntmps,Tryz.f17.results.toList,Tryz.f17.body.get!⟩ := by kernel_rfl
theorem qof : G.fn 19 = some ⟨Tryz.f19.ntmps,Tryz.f19.results.toList,Tryz.f19.body.get!⟩ := by kernel_rfl
theorem zx : G.fn 20 = some ⟨Tryz.f20.ntmps,Tryz.f20.results.toList,Tryz.f20.body.get!⟩ := by kernel_rfl
theorem q7v : G.fn 21 = some ⟨Tryz.f21.ntmps,Tryz.f21.results.toList,Tryz.f21.body.get!⟩ := by kernel_rfl
theorem j5 : G.fn 22 = some ⟨Tryz.f22.ntmps,Tryz.f22.results.toList,Tryz.f22.body.get!⟩ := by kernel_rfl
theorem q60 : G.fn 23 = some ⟨Tryz.f23.ntmps,Tryz.f23.results.toList,Tryz.f23.body.get!⟩ := by kernel_rfl
theorem q5y : G.fn 24 = some ⟨Tryz.f24.ntmps,Tryz.f24.results.toList,Tryz.f24.body.get!⟩ := by kernel_rfl
theorem q82 : G.fn 33 = some ⟨Tryz.f33.ntmps,Tryz.f33.results.toList,Tryz.f33.body.get!⟩ := by kernel_rfl
theorem x4r : G.fn 34 = some ⟨Tryz.f34.ntmps,Tryz.f34.results.toList,Tryz.f34.body.get!⟩ := by kernel_rfl
theorem q7d : G.fn 35 = some ⟨Tryz.f35.ntmps,Tryz.f35.results.toList,Tryz.f35.body.get!⟩ := by kernel_rfl
theorem qcr : G.fn 36 = some ⟨Tryz.f36.ntmps,Tryz.f36.results.toList,Tryz.f36.body.get!⟩ := by kernel_rfl
theorem q80 : G.fn 37 = some ⟨Tryz.f37.ntmps,Tryz.f37.results.toList,Tryz.f37.body.get!⟩ := by kernel_rfl
theorem qgz : G.fn 38 = some ⟨Tryz.f38.ntmps,Tryz.f38.results.toList,Tryz.f38.body.get!⟩ := by kernel_rfl
theorem qfv : G.fn 39 = some ⟨Tryz.f39.ntmps,Tryz.f39.results.toList,Tryz.f39.body.get!⟩ := by kernel_rfl
theorem qbs : G.fn 40 = some ⟨Tryz.f40.ntmps,Tryz.f40.results.toList,Tryz.f40.body.get!⟩ := by kernel_rfl
theorem qhp : G.fn 41 = some ⟨Tryz.f41.ntmps,Tryz.f41.results.toList,Tryz.f41.body.get!⟩ := by kernel_rfl
theorem qgr : G.fn 42 = some ⟨Tryz.f42.ntmps,Tryz.f42.results.toList,Tryz.f42.body.get!⟩ := by kernel_rfl
theorem q6k : G.fn 43 = some ⟨Tryz.f43.ntmps,Tryz.f43.results.toList,Tryz.f43.body.get!⟩ := by kernel_rfl
theorem q0w : G.fn 60 = some ⟨Tryz.f60.ntmps,Tryz.f60.results.toList,Tryz.f60.body.get!⟩ := by kernel_rfl
theorem qbf : G.fn 61 = some ⟨Tryz.f61.ntmps,Tryz.f61.results.toList,Tryz.f61.body.get!⟩ := by kernel_rfl
end Go.Proofs.YtaglodpkpggdiaaGreatDoor
