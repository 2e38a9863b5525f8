/-
  The tables of the program as the machine reads it.
-/
import Derived.Test.YtaglodpkpggdiaaGreatDoorRows
import Derived.Test.YtaglodpkpggdiaaGreatDoorMad
set_option linter.unusedSimpArgs false
set_option linter.unusedVariables false
namespace Go.Proofs.YtaglodpkpggdiaaGreatDoor
open Go Go.Gm
def spec : FuncId → Nat → jq
 | 5,0 => ⟨[1,5,6,7,8],[1,5,6,7],[6],[],[],0⟩
 | 5,2 => ⟨[1,15],[1,15],[],[],[],0⟩
 | 6,0 => ⟨[1,2,7],[6],[],[],[],0⟩
 | 6,2 => ⟨[1,2,7,8],[1,2,7],[],[],[],0⟩
 | 8,0 => ⟨[0,3,4],[3],[3],[],[],0⟩
 | 8,3 => ⟨[0,3,4,5,6],[0,3,4,5],[],[(5,5)],[],0⟩
 | 8,5 => ⟨[0,3,4,5,8],[0,3,4,5],[],[(5,6)],[],0⟩
 | 9,0 => ⟨[1,6,15,16,17],[1,6],[6],[],[],0⟩
 | 9,2 => ⟨[1,6,30,31,32],[1,4,5,6],[6],[],[],0⟩
 | 10,0 => ⟨[0,6,7,8,9],[2,3,4,5,6,7,8,9],[8],[],[],0⟩
 | 11,0 => ⟨[0,1,5],[4],[],[],[],0⟩
 | 12,0 => ⟨[0,1,5],[4],[],[],[],0⟩
 | 14,0 => ⟨[9,10,34,35,36],[10],[],[],[],1000⟩
 | 16,0 => ⟨[0,1,5],[4],[],[],[],0⟩
 | 17,0 => ⟨[1,2,7],[6],[],[],[],0⟩
 | 18,0 => ⟨[0,3,4],[3],[],[],[],1000⟩
 | 20,1 => ⟨[4,5,6,82,83,84],[4,5,6],[],[],[],0⟩
 | 20,3 => ⟨[4,5,6,119,120,121],[4,5,6],[],[],[],0⟩
 | 21,0 => ⟨[0,3],[0,3],[3],[],[],0⟩
 | 22,1 => ⟨[0,2,3],[0,2,3],[],[(3,5)],[],0⟩
 | 22,3 => ⟨[0,2,3],[0,2,3],[],[(3,6)],[],0⟩
 | 23,0 => ⟨[0,1,5],[4],[],[],[],0⟩
 | 24,0 => ⟨[0,1,5],[4],[],[],[],0⟩
 | 25,0 => ⟨[0,6,15,16,17],[0,4,5,6],[],[],[],1000⟩
 | 28,0 => ⟨[0,5,28,29,30],[0,5],[],[],[],1000⟩
 | 28,2 => ⟨[0,46,47,48],[0],[],[],[],1000⟩
 | 28,4 => ⟨[0,9,10,46,47,48,53,54,55],[0,9,10,46,47,48],[],[],[],1000⟩
 | 31,0 => ⟨[0,3],[3],[],[],[],0⟩
 | 33,0 => ⟨[5,6,7],[2],[],[],[],0⟩
 | 35,0 => ⟨[0,5,6,7],[2],[],[],[],0⟩
 | 37,0 => ⟨[0,3],[0,3],[],[],[],0⟩
 | 58,0 => ⟨[1,2,3,7,8,9],[1,2,3],[3],[],[],1000⟩
 | 60,0 => ⟨[0,4,5,6],[0,2,3,4,5,6],[],[],[],0⟩
 | 62,0 => ⟨[0,3],[0,2],[],[],[],1000⟩
 | 64,0 => ⟨[0,1,7,8],[4],[],[],[],1000⟩
 | 66,0 => ⟨[0,6,12,13,14],[0,4,5,6],[6],[],[],1000⟩
 | 69,0 => ⟨[0,1,14,15,16],[1,4,5],[],[],[],1000⟩
 | 71,0 => ⟨[1,2,4,11,13,37,38,39],[4,11],[],[],[],1000⟩
 | 76,0 => ⟨[1,5,13,14,15],[5],[5],[],[],1000⟩
 | 77,0 => ⟨[0,1,5,20,21,22],[5],[5],[],[],1000⟩
 | 77,2 => ⟨[12,73,74,75],[12],[12],[],[],1000⟩
 | 84,0 => ⟨[0,1,7,9,10],[0,1,7,9],[],[],[],1000⟩
 | 84,2 => ⟨[0,1,7,11,65,66,67],[0,1,7],[],[],[],1000⟩
 | 85,0 => ⟨[0,1,4,5],[0,1,4,5],[],[],[],1000⟩
 | 85,2 => ⟨[0,1,4,5,6],[0,1,4,5,6],[],[],[],1000⟩
 | 87,0 => ⟨[1,2,3,10,11,12],[1,2,3],[3],[],[],1000⟩
 | 87,2 => ⟨[1,2,3,5,6,10,11,12,17,18,19],[1,2,3,5,6,10,11,12],[6],[],[],1000⟩
 | 91,0 => ⟨[0,1,2,3],[1,3],[],[],[],1000⟩
 | 94,0 => ⟨[4,14,15,16],[4],[4],[],[],1000⟩
 | 99,0 => ⟨[3,6,42,43,44],[2],[],[],[],1000⟩
 | 99,2 => ⟨[3,6,7,8,9,42,43,44,54,55,56],[2,3,8,42,43,44],[],[],[],1000⟩
 | 100,0 => ⟨[0,1,7,8,9],[0,1,4],[],[],[],1000⟩
 | 101,0 => ⟨[3,14,15,16],[3],[],[(3,2)],[],1000⟩
 | 102,0 => ⟨[0,1],[],[],[],[],1000⟩
 | 103,0 => ⟨[0,14,15,16],[],[],[],[2000],1000⟩
 | 104,0 => ⟨[0,3],[2],[],[],[],1000⟩
 | 104,2 => ⟨[0,3,4],[0,2,3],[],[],[],1000⟩
 | 104,4 => ⟨[0,3,4,44,45,46],[0,2,3,4],[],[],[],1000⟩
 | 105,0 => ⟨[0,2,11,12],[],[],[],[],1000⟩
 | 105,2 => ⟨[0,2,3,4,11,12,34,35,36],[0,3,4,11,12],[],[(4,1),(4,2)],[],1000⟩
 | 106,0 => ⟨[0,2,3,9,10,11],[0,2,3],[3],[],[],1000⟩
 | 108,0 => ⟨[3,10,11,12],[3],[3],[],[],1000⟩
 | 108,2 => ⟨[6,28,29,30],[6],[6],[],[],1000⟩
 | 109,0 => ⟨[0,1,6,7],[0,1,6,7],[7],[],[],1000⟩
 | 110,0 => ⟨[3,7,8,9],[3],[],[],[],1000⟩
 | 111,0 => ⟨[3,6,7,8],[3],[3],[],[],1000⟩
 | 113,0 => ⟨[1,2,11,12,13,39,40,41],[6,7,8,12,13],[12,13],[],[],1000⟩
 | 115,0 => ⟨[1,4,5,6,13,14,15],[4,5],[],[(5,1)],[],1000⟩
 | 115,2 => ⟨[1,4,5,6,8,9,10,13,14,15,36,37,38],[1,4,5,6,8,10,13,14,15],[],[(10,2)],[],1000⟩
 | 117,0 => ⟨[1,2,4,6,7,23,24,25],[1,2,4,6,7],[7],[],[],1000⟩
 | 119,0 => ⟨[0,9,10,11],[4,5],[],[],[],1000⟩
 | 120,0 => ⟨[0,13,14,15],[4,5],[],[],[],1000⟩
 | 121,0 => ⟨[1,2,6,7,14,15,16],[6,7],[6],[],[],1000⟩
 | 121,2 => ⟨[1,2,6,7,10,14,15,16,21,22,23],[1,2,6,7,14,15,16],[6],[],[],1000⟩
 | 122,0 => ⟨[0,7,8,9,23,24,25],[7],[7],[],[],1000⟩
 | 127,0 => ⟨[0,1,5,15,16,17],[0,1,4,5],[5],[],[],1000⟩
 | 127,2 => ⟨[0,1,35,36,37],[],[],[],[],1000⟩
 | 128,0 => ⟨[1,5,8,9,10],[5],[5],[],[1],1000⟩
 | 134,0 => ⟨[0,1,4],[0,1,4],[],[],[],1000⟩
 | 135,0 => ⟨[0,1,3,4,10,11,12,13,14,15,16],[0,1,3,4,10,11,12,13],[],[],[],1000⟩
 | 135,2 => ⟨[0,1,3,4,10,11,12,13,17],[0,1,3,4,10,11,12,13],[],[],[],1000⟩
 | 136,0 => ⟨[0],[0],[],[],[],1000⟩
 | 137,0 => ⟨[0],[0],[],[],[],1000⟩
 | 144,0 => ⟨[3,6,7,8],[2,3],[],[],[],1000⟩
 | 148,0 => ⟨[0,1],[1],[],[],[],1000⟩
 | 149,0 => ⟨[0,1],[1],[],[],[],1000⟩
 | 153,0 => ⟨[0,1],[0,1],[],[],[],1000⟩
 | 153,2 => ⟨[0,1],[1],[],[],[],1000⟩
 | 154,0 => ⟨[0,1],[0,1],[],[],[],1000⟩
 | 154,2 => ⟨[0,1],[1],[],[],[],1000⟩
 | 156,0 => ⟨[0,1,12,13],[4],[],[],[],1000⟩
 | 157,0 => ⟨[2,5,18,19,20],[4],[],[],[18],1000⟩
 | 159,0 => ⟨[0,5,10,11,12],[5],[5],[],[],1000⟩
 | 159,2 => ⟨[0,5,10,11,12,17,18,19],[0,5,10,11,12],[5],[],[],1000⟩
 | 160,0 => ⟨[3,10,11,12],[2],[],[],[],1000⟩
 | 161,0 => ⟨[3,6,7,8],[3],[3],[],[],1000⟩
 | 162,0 => ⟨[0,7,8,9],[0],[],[],[],1000⟩
 | 163,0 => ⟨[2,9,10,11],[4],[],[],[],1000⟩
 | 164,0 => ⟨[0,2,3],[],[],[],[],1000⟩
 | 165,0 => ⟨[2,3,11,12,13],[4,5],[],[],[],1000⟩
 | 165,2 => ⟨[2,3,6,11,12,13,19,20,21],[2,3,4,5,11,12,13],[],[],[],1000⟩
 | 166,0 => ⟨[0,1,5,10,12,13,14],[0,1,5,10,12],[],[],[],1000⟩
 | 166,2 => ⟨[0,1,5,10,12,91,92,93],[0,10],[],[],[],1000⟩
 | 167,0 => ⟨[1,3,12,13,14],[1,3],[],[],[1],1000⟩
 | 167,2 => ⟨[1,3,6],[6],[6],[],[],1000⟩
 | 168,0 => ⟨[0,1,2,3,9,10,11,47,48,49],[0,1,2,3,9,10,11],[],[],[],1000⟩
 | 168,2 => ⟨[0,1,2,3,15,16,17],[8],[],[],[],1000⟩
 | 175,0 => ⟨[0,1,7,8,9],[4],[],[],[],1000⟩
 | 177,0 => ⟨[10,12],[10,12],[],[],[],1000⟩
 | 180,0 => ⟨[3,11,12,13],[3],[],[],[],1000⟩
 | 180,2 => ⟨[3,11,12,13,18,19,20],[3,11,12,13],[],[],[],1000⟩
 | 181,0 => ⟨[2,3,12,13,14],[2,3],[],[(3,2)],[],1000⟩
 | 181,2 => ⟨[2,3,6,12,13,14,23,24],[2,3,6,12,13,14],[],[],[],1000⟩
 | 183,0 => ⟨[0,2,3],[],[],[],[],1000⟩
 | 190,0 => ⟨[0,1,14,15,16],[0],[],[],[],1000⟩
 | 191,0 => ⟨[1,2,3,11,12,13],[1,2,3],[3],[],[],1000⟩
 | 199,0 => ⟨[0,2,3,4],[2,3],[],[],[],1000⟩
 | 201,0 => ⟨[0,1,2,6,7,8],[0,1,2,6,7],[],[],[],1000⟩
 | 201,2 => ⟨[0,1,2,6],[],[],[],[],1000⟩
 | 201,4 => ⟨[0,1,2,6,7,8],[0,1,2,6,7],[],[],[],1000⟩
 | 206,0 => ⟨[1,2,7,8],[6,7],[],[],[],1000⟩
 | 211,0 => ⟨[1,2,5],[1,2,4],[],[],[],1000⟩
 | 216,0 => ⟨[7,8],[7],[],[],[],1000⟩
 | 217,0 => ⟨[5,6,12,13,14,34,35,36],[12,14],[],[(14,1),(14,2)],[],1000⟩
 | 220,0 => ⟨[1,2,5,12,13,14],[5],[],[],[],1000⟩
 | 220,2 => ⟨[1,2,5,7,8,12,13,14],[1,2,5,12,13,14],[],[],[],1000⟩
 | 221,0 => ⟨[0,1,7,8],[4],[],[],[],1000⟩
 | 223,0 => ⟨[1,2,3,7,8,9,10],[7,8,9],[],[],[],1000⟩
 | 224,0 => ⟨[1,3,10,12,13,40,41,42],[1,6,7,8,10,12,13],[12],[],[],1000⟩
 | 224,2 => ⟨[1,3,10,12,13,15,16,40,41,42,52,53,54],[1,3,10,12,13,15,16,40,41,42],[16],[],[],1000⟩
 | 224,4 => ⟨[1,3,10,12,15,16,40,41,42,74,75,76],[1,3,10,12,15,40,41,42],[12],[],[],1000⟩
 | 225,0 => ⟨[0,1,2,6,7,8],[0,1,2,6,7],[],[],[],1000⟩
 | 225,2 => ⟨[0,1,2,6],[],[],[],[],1000⟩
 | 225,4 => ⟨[0,1,2,6,7,8],[0,1,2,6,7],[],[],[],1000⟩
 | 231,0 => ⟨[0,5,6],[0,5,6],[],[],[],1000⟩
 | 231,2 => ⟨[0,5,6],[0,5,6],[],[],[],1000⟩
 | 232,0 => ⟨[0,8,9,10],[4,5],[],[],[],1000⟩
 | 234,0 => ⟨[0,5,8,9,10],[5],[5],[],[],1000⟩
 | 235,0 => ⟨[0,6,7,8],[],[],[],[],1000⟩
 | 236,0 => ⟨[0,2,9,10,11],[6],[],[],[],1000⟩
 | 237,0 => ⟨[0,1,2,12,13],[1,6,7],[1],[],[],1000⟩
 | 238,0 => ⟨[0,1,5,6,12,13,14],[0,1,5,6],[],[],[],1000⟩
 | 238,2 => ⟨[0,1,5,6,37,38,39],[0,1,6],[],[],[],1000⟩
 | 239,0 => ⟨[0,1,3,4,17,18,19],[1],[1],[],[],1000⟩
 | 239,2 => ⟨[0,1,3,4,12,14,17,18,19,52,53,54],[0,1,3,4,12,14,17,18,19],[],[(14,17)],[],1000⟩
 | 240,0 => ⟨[0,1,2,6,7,8],[0,1,2,6,7],[],[],[],1000⟩
 | 240,2 => ⟨[0,1,2,6],[],[],[],[],1000⟩
 | 240,4 => ⟨[0,1,2,6,7,8],[0,1,2,6,7],[],[],[],1000⟩
 | 247,0 => ⟨[0,1,2,3,8],[],[],[],[],1000⟩
 | 247,2 => ⟨[0,1,2,3,8,9],[0,1,2,3,8],[],[],[],1000⟩
 | 248,0 => ⟨[0,1,4,10,11],[0,1,10],[],[],[],1000⟩
 | 248,2 => ⟨[0,10,13],[],[],[],[],1000⟩
 | 248,4 => ⟨[0,2,4,14,15],[0,2,14],[],[],[],1000⟩
 | 248,6 => ⟨[0,14,17],[],[],[],[],1000⟩
 | 248,8 => ⟨[0,1,2,3,4,18,19,20,21,22],[0,1,2,3,4,18,19,20],[],[],[],1000⟩
 | 249,0 => ⟨[1,4,6,7],[4,5,6],[],[],[],1000⟩
 | 251,0 => ⟨[0,1,7,8],[0,6],[],[],[],1000⟩
 | 255,0 => ⟨[0,1,7,8],[4],[],[],[],1000⟩
 | 257,0 => ⟨[1,2,4,5,10,11,19,20,21],[1,2,4,5,10,11],[],[(11,3)],[],1000⟩
 | 257,2 => ⟨[10,11,71,72,73],[10,11],[],[],[],1000⟩
 | 258,0 => ⟨[0,2,3,4,6,10,12,13,14,32,33,34],[10,12,13],[13],[(12,2)],[],1000⟩
 | 261,0 => ⟨[0,5],[],[],[],[],1000⟩
 | 265,0 => ⟨[1,5,12,13,14],[5],[],[],[],1000⟩
 | 266,0 => ⟨[0,1,2,3,8],[],[],[],[],1000⟩
 | 266,2 => ⟨[0,1,2,3,8,9],[0,1,2,3,8],[],[],[],1000⟩
 | 267,0 => ⟨[0,1,4,10,11],[0,1,10],[],[],[],1000⟩
 | 267,2 => ⟨[0,10,13],[],[],[],[],1000⟩
 | 267,4 => ⟨[0,2,4,14,15],[0,2,14],[],[],[],1000⟩
 | 267,6 => ⟨[0,14,17],[],[],[],[],1000⟩
 | 267,8 => ⟨[0,1,2,3,4,18,19,20,21,22],[0,1,2,3,4,18,19,20],[],[],[],1000⟩
 | 270,0 => ⟨[0,4,5],[0,2,3,4,5],[],[],[],1000⟩
 | 271,0 => ⟨[0,4],[0,4],[],[],[],1000⟩
 | 282,0 => ⟨[0,1,2,3,8],[],[],[],[],1000⟩
 | 282,2 => ⟨[0,1,2,3,8,9],[0,1,2,3,8],[],[],[],1000⟩
 | 283,0 => ⟨[0,1,4,10,11],[0,1,10],[],[],[],1000⟩
 | 283,2 => ⟨[0,10,13],[],[],[],[],1000⟩
 | 283,4 => ⟨[0,2,4,14,15],[0,2,14],[],[],[],1000⟩
 | 283,6 => ⟨[0,14,17],[],[],[],[],1000⟩
 | 283,8 => ⟨[0,1,2,3,4,18,19,20,21,22],[0,1,2,3,4,18,19,20],[],[],[],1000⟩
 | 284,0 => ⟨[0,5],[],[],[],[],1000⟩
 | 285,0 => ⟨[0,2,4,10,11],[0,2,4,10],[],[],[],1000⟩
 | 288,0 => ⟨[0,2,3,5,8,9],[0,2,3,5,8],[],[],[],1000⟩
 | 288,2 => ⟨[0,3,5,8,10,11],[],[],[],[],1000⟩
 | 289,0 => ⟨[0,2,4,6,28,29,30],[],[],[],[],1000⟩
 | 293,0 => ⟨[0,1,2,3,8,9],[],[],[],[],1000⟩
 | 296,0 => ⟨[0,5,6,7],[2],[],[],[],1000⟩
 | 297,0 => ⟨[11,12,13],[8,9,10,11,12],[12],[],[],1000⟩
 | 299,1 => ⟨[6,16,17,18],[6],[],[],[],1000⟩
 | 299,3 => ⟨[6,31,32,33],[6],[],[],[],1000⟩
 | 300,0 => ⟨[0,2,4,10,11],[0,2,4,10],[],[],[],1000⟩
 | 301,0 => ⟨[0,4,5],[0,4,5],[4,5],[],[],1000⟩
 | 302,0 => ⟨[0,1,4,7],[0,1,4,7],[7],[],[],1000⟩
 | 305,0 => ⟨[0,1,5],[4],[],[],[],1000⟩
 | 309,0 => ⟨[0,1,2,3,8,9],[],[],[],[],1000⟩
 | 311,0 => ⟨[0,2,4,10,11],[0,2,4,10],[],[],[],1000⟩
 | 312,0 => ⟨[0,1,2,3,10],[],[],[],[],1000⟩
 | 315,0 => ⟨[0,1,2,6],[],[],[],[],1000⟩
 | 315,2 => ⟨[0,1,2,6,7],[0,1,2,6],[],[],[],1000⟩
 | 316,0 => ⟨[0,6,7,8,9],[0,6,7,8],[],[],[],1000⟩
 | 316,2 => ⟨[0,6,7,10],[],[],[],[],1000⟩
 | 317,0 => ⟨[0,1,6,7,8,9],[],[],[],[],1000⟩
 | 319,0 => ⟨[0,6,7],[],[],[],[],1000⟩
 | 320,0 => ⟨[0,1,2,7,8],[6],[],[],[],1000⟩
 | 320,2 => ⟨[0,1,2,7,8],[0,1,2,7,8],[],[],[],1000⟩
 | 320,4 => ⟨[0,1,2,7,8,9],[0,1,2,7,8],[],[],[],1000⟩
 | 320,6 => ⟨[0,1,2,7,8,10],[0,1,2,7,8],[],[],[],1000⟩
 | 322,0 => ⟨[0,1,9,10],[9],[],[],[],1000⟩
 | 322,2 => ⟨[0,1,9,10],[0,1,9,10],[],[],[],1000⟩
 | 322,4 => ⟨[0,1,9,10],[0,1,9,10],[],[],[],1000⟩
 | 323,0 => ⟨[0,1,10,11],[0,1,10,11],[],[],[],1000⟩
 | 323,2 => ⟨[0,1,10,11],[0,1,10,11],[],[],[],1000⟩
 | 323,4 => ⟨[0,1,10,11],[0,1,11],[],[],[],1000⟩
 | 323,6 => ⟨[0,1,10,11],[0,1,10,11],[],[],[],1000⟩
 | 323,8 => ⟨[0,1,10,11],[0,1,10,11],[],[],[],1000⟩
 | 325,0 => ⟨[1,2,31,32,33],[1,6,7],[],[],[],1000⟩
 | 328,0 => ⟨[0,1,4],[4,5],[],[],[],1000⟩
 | 333,0 => ⟨[0,1,5,6],[5],[],[],[],1000⟩
 | 334,0 => ⟨[0,1,2,3,10],[],[],[],[],1000⟩
 | 336,0 => ⟨[0,1,7,8,9],[4,5,6],[],[(7,0),(8,0)],[],1000⟩
 | 338,0 => ⟨[0,1,12,13],[4],[],[],[],1000⟩
 | 340,0 => ⟨[0,1,2,3,10],[],[],[],[],1000⟩
 | 341,0 => ⟨[0,2,3,8],[],[],[],[],1000⟩
 | 350,0 => ⟨[0,3,4],[3],[3],[],[],1000⟩
 | 351,0 => ⟨[0,3,4],[3],[3],[],[],1000⟩
 | 352,0 => ⟨[1,4,5,22,23,24],[1,4,5],[],[(5,8)],[],1000⟩
 | 353,0 => ⟨[7,8],[7],[],[],[],1000⟩
 | 355,0 => ⟨[0,1,6,7,8],[0,1,6,7],[],[],[],1000⟩
 | 359,0 => ⟨[0,2,4,5],[2,3],[4,5],[],[],1000⟩
 | 364,0 => ⟨[0,1,12,13],[4],[],[],[],1000⟩
 | 365,0 => ⟨[1,2,15,16,17],[6],[],[],[],1000⟩
 | 368,0 => ⟨[0,5,6,7],[2],[],[],[],1000⟩
 | 372,0 => ⟨[0,1],[1],[],[],[],1000⟩
 | 373,0 => ⟨[0,4,5],[],[],[],[],1000⟩
 | 374,1 => ⟨[0,2,3,29,30,31],[8],[],[],[],1000⟩
 | 381,0 => ⟨[0,1,7,8],[1,4,5,6,7,8],[],[],[],1000⟩
 | 394,0 => ⟨[0,5,8,9,10],[5],[5],[],[],1000⟩
 | 397,0 => ⟨[0,3],[2],[],[],[],1000⟩
 | 398,0 => ⟨[0,1,2,9],[6,7,8],[9],[],[],1000⟩
 | 399,0 => ⟨[0,1,7,8],[4],[],[],[],1000⟩
 | 400,0 => ⟨[0,1,7,8],[4],[],[],[],1000⟩
 | 404,0 => ⟨[3,8,9,10],[3],[],[],[],1000⟩
 | 409,0 => ⟨[0,2,4,5],[2,3,4,5],[5],[],[],1000⟩
 | 413,0 => ⟨[1,7,8,9],[4],[],[],[],1000⟩
 | 414,0 => ⟨[3,8,9,10],[3],[],[],[],1000⟩
 | 416,0 => ⟨[3,10,11,12],[3],[3],[],[],1000⟩
 | 416,2 => ⟨[6,25,26,27],[6],[6],[],[],1000⟩
 | 419,0 => ⟨[0,4,5,6],[2,3,4,5],[],[],[],1000⟩
 | 423,0 => ⟨[0,1,2,6,7,8],[0,1,2,6,7],[],[],[],1000⟩
 | 423,2 => ⟨[0,1,2,6],[],[],[],[],1000⟩
 | 423,4 => ⟨[0,1,2,6,7,8],[0,1,2,6,7],[],[],[],1000⟩
 | 425,0 => ⟨[0,1,2,3,8],[],[],[],[],1000⟩
 | 425,2 => ⟨[0,1,2,3,8,9],[0,1,2,3,8],[],[],[],1000⟩
 | 426,0 => ⟨[0,1,4,10,11],[0,1,10],[],[],[],1000⟩
 | 426,2 => ⟨[0,10,13],[],[],[],[],1000⟩
 | 426,4 => ⟨[0,2,4,14,15],[0,2,14],[],[],[],1000⟩
 | 426,6 => ⟨[0,14,17],[],[],[],[],1000⟩
 | 426,8 => ⟨[0,1,2,3,4,18,19,20,21,22],[0,1,2,3,4,18,19,20],[],[],[],1000⟩
 | 427,0 => ⟨[0,2,4,10,11],[0,2,4,10],[],[],[],1000⟩
 | 428,0 => ⟨[0,1,2,3,10],[],[],[],[],1000⟩
 | _,_ => {}
def qi8 (f : FuncId) : Bool := [183,185,240,282,283,164,142,201,247,248,169,225,266,267,173,239,117].contains f
def zth (f : FuncId) : Bool := [180,101,216,123,184,88,215,173,239,106,58].contains f
def z4o : FuncId → Nat → List Nat
 | 105,15 => [4]
 | _,_ => []
def zkv (t : TypeId) : Bool := [].contains t
def qvx (t : TypeId) : Bool := [380,351,354,76].contains t
def z8n : FuncId → Nat → List Cmd
 | _,_ => []
noncomputable def G : GP := qa7 Tryz.prog spec qi8 zth z4o zkv qvx z8n
theorem cm0 (i : Nat) : G.cmd 0 i = [] := rfl
theorem cm1 (i : Nat) : G.cmd 1 i = [] := rfl
theorem cm2 (i : Nat) : G.cmd 2 i = [] := rfl
theorem cm3 (i : Nat) : G.cmd 3 i = [] := rfl
theorem cm4 (i : Nat) : G.cmd 4 i = [] := rfl
theorem zkc : G.owned 5 = false := rfl
theorem kp5 : G.keep 5 = false := rfl
theorem cm5 (i : Nat) : G.cmd 5 i = [] := rfl
theorem pr5 (i : Nat) : G.pre 5 i = [] := rfl
theorem cm6 (i : Nat) : G.cmd 6 i = [] := rfl
theorem z1m : G.owned 7 = false := rfl
theorem kp7 : G.keep 7 = false := rfl
theorem cm7 (i : Nat) : G.cmd 7 i = [] := rfl
theorem pr7 (i : Nat) : G.pre 7 i = [] := rfl
theorem cm8 (i : Nat) : G.cmd 8 i = [] := rfl
theorem zto : G.owned 9 = false := rfl
theorem kp9 : G.keep 9 = false := rfl
theorem cm9 (i : Nat) : G.cmd 9 i = [] := rfl
theorem pr9 (i : Nat) : G.pre 9 i = [] := rfl
theorem qx4 : G.owned 10 = false := rfl
theorem zoj : G.keep 10 = false := rfl
theorem zxe (i : Nat) : G.cmd 10 i = [] := rfl
theorem qzr (i : Nat) : G.pre 10 i = [] := rfl
theorem qqg (i : Nat) : G.cmd 11 i = [] := rfl
theorem z6o (i : Nat) : G.cmd 12 i = [] := rfl
theorem zk5 : G.owned 13 = false := rfl
theorem zjq : G.keep 13 = false := rfl
theorem qpk (i : Nat) : G.cmd 13 i = [] := rfl
theorem qnx (i : Nat) : G.pre 13 i = [] := rfl
theorem zqe (i : Nat) : G.cmd 14 i = [] := rfl
theorem qov : G.owned 15 = false := rfl
theorem znk : G.keep 15 = false := rfl
theorem zeo (i : Nat) : G.cmd 15 i = [] := rfl
theorem qid (i : Nat) : G.pre 15 i = [] := rfl
theorem qml (i : Nat) : G.cmd 16 i = [] := rfl
theorem zhh (i : Nat) : G.cmd 17 i = [] := rfl
theorem zet (i : Nat) : G.cmd 18 i = [] := rfl
theorem zkz : G.owned 19 = false := rfl
theorem zvq : G.keep 19 = false := rfl
theorem zkr (i : Nat) : G.cmd 19 i = [] := rfl
theorem qwq (i : Nat) : G.pre 19 i = [] := rfl
theorem znu : G.owned 20 = false := rfl
theorem zzj : G.keep 20 = false := rfl
theorem zst (i : Nat) : G.cmd 20 i = [] := rfl
theorem zum (i : Nat) : G.pre 20 i = [] := rfl
theorem qrl : G.owned 21 = false := rfl
theorem qjp : G.keep 21 = false := rfl
theorem qt4 (i : Nat) : G.cmd 21 i = [] := rfl
theorem z3e (i : Nat) : G.pre 21 i = [] := rfl
theorem x1x : G.owned 22 = false := rfl
theorem zu8 : G.keep 22 = false := rfl
theorem zg2 (i : Nat) : G.cmd 22 i = [] := rfl
theorem qn8 (i : Nat) : G.pre 22 i = [] := rfl
theorem z2l (i : Nat) : G.cmd 23 i = [] := rfl
theorem zra (i : Nat) : G.cmd 24 i = [] := rfl
theorem z7s (i : Nat) : G.cmd 25 i = [] := rfl
theorem qow (i : Nat) : G.cmd 26 i = [] := rfl
theorem zor (i : Nat) : G.cmd 27 i = [] := rfl
theorem qm7 (i : Nat) : G.cmd 28 i = [] := rfl
theorem zq1 (i : Nat) : G.cmd 29 i = [] := rfl
theorem qzo (i : Nat) : G.cmd 30 i = [] := rfl
theorem z2e : G.owned 31 = false := rfl
theorem z7k : G.keep 31 = false := rfl
theorem x00 (i : Nat) : G.cmd 31 i = [] := rfl
theorem zb6 (i : Nat) : G.pre 31 i = [] := rfl
theorem qk6 : G.owned 32 = false := rfl
theorem z8u : G.keep 32 = false := rfl
theorem zl3 (i : Nat) : G.cmd 32 i = [] := rfl
theorem zvp (i : Nat) : G.pre 32 i = [] := rfl
theorem zei : G.owned 33 = false := rfl
theorem qog : G.keep 33 = false := rfl
theorem zmg (i : Nat) : G.cmd 33 i = [] := rfl
theorem zk0 (i : Nat) : G.pre 33 i = [] := rfl
theorem qqa : G.owned 34 = false := rfl
theorem qzg : G.keep 34 = false := rfl
theorem zq7 (i : Nat) : G.cmd 34 i = [] := rfl
theorem qty (i : Nat) : G.pre 34 i = [] := rfl
theorem zny : G.owned 35 = false := rfl
theorem qlz : G.keep 35 = false := rfl
theorem quc (i : Nat) : G.cmd 35 i = [] := rfl
theorem zcx (i : Nat) : G.pre 35 i = [] := rfl
theorem qk2 : G.owned 36 = false := rfl
theorem x13 : G.keep 36 = false := rfl
theorem zu9 (i : Nat) : G.cmd 36 i = [] := rfl
theorem zex (i : Nat) : G.pre 36 i = [] := rfl
theorem zgr : G.owned 37 = false := rfl
theorem qvu : G.keep 37 = false := rfl
theorem qqf (i : Nat) : G.cmd 37 i = [] := rfl
theorem zt8 (i : Nat) : G.pre 37 i = [] := rfl
theorem qz4 : G.owned 38 = false := rfl
theorem zq8 : G.keep 38 = false := rfl
theorem zle (i : Nat) : G.cmd 38 i = [] := rfl
theorem za2 (i : Nat) : G.pre 38 i = [] := rfl
theorem zcn : G.owned 39 = false := rfl
theorem quu : G.keep 39 = false := rfl
theorem zxg (i : Nat) : G.cmd 39 i = [] := rfl
theorem qki (i : Nat) : G.pre 39 i = [] := rfl
theorem qi6 : G.owned 40 = false := rfl
theorem zo6 : G.keep 40 = false := rfl
theorem qvl (i : Nat) : G.cmd 40 i = [] := rfl
theorem qnf (i : Nat) : G.pre 40 i = [] := rfl
theorem z8c : G.owned 41 = false := rfl
theorem zsp : G.keep 41 = false := rfl
theorem qj7 (i : Nat) : G.cmd 41 i = [] := rfl
theorem qw5 (i : Nat) : G.pre 41 i = [] := rfl
theorem zm5 : G.owned 42 = false := rfl
theorem zk6 : G.keep 42 = false := rfl
theorem zdw (i : Nat) : G.cmd 42 i = [] := rfl
theorem qro (i : Nat) : G.pre 42 i = [] := rfl
theorem zid : G.owned 43 = false := rfl
theorem zbk : G.keep 43 = false := rfl
theorem qlc (i : Nat) : G.cmd 43 i = [] := rfl
theorem zsq (i : Nat) : G.pre 43 i = [] := rfl
theorem zt5 (i : Nat) : G.cmd 44 i = [] := rfl
theorem qz8 (i : Nat) : G.cmd 45 i = [] := rfl
theorem qyz (i : Nat) : G.cmd 46 i = [] := rfl
theorem zps (i : Nat) : G.cmd 47 i = [] := rfl
theorem qp5 (i : Nat) : G.cmd 48 i = [] := rfl
theorem zjx (i : Nat) : G.cmd 49 i = [] := rfl
theorem qkm (i : Nat) : G.cmd 50 i = [] := rfl
theorem zar (i : Nat) : G.cmd 51 i = [] := rfl
theorem z90 (i : Nat) : G.cmd 52 i = [] := rfl
theorem zla (i : Nat) : G.cmd 53 i = [] := rfl
theorem zhm (i : Nat) : G.cmd 54 i = [] := rfl
theorem zzz (i : Nat) : G.cmd 55 i = [] := rfl
theorem zxk (i : Nat) : G.cmd 56 i = [] := rfl
theorem qp4 (i : Nat) : G.cmd 57 i = [] := rfl
theorem qkd (i : Nat) : G.cmd 58 i = [] := rfl
theorem qln (i : Nat) : G.cmd 59 i = [] := rfl
theorem z92 : G.owned 60 = false := rfl
theorem zso : G.keep 60 = false := rfl
theorem z0z (i : Nat) : G.cmd 60 i = [] := rfl
theorem quy (i : Nat) : G.pre 60 i = [] := rfl
theorem qzd : G.owned 61 = false := rfl
theorem qxq : G.keep 61 = false := rfl
theorem x0m (i : Nat) : G.cmd 61 i = [] := rfl
theorem zdu (i : Nat) : G.pre 61 i = [] := rfl
theorem zhn (i : Nat) : G.cmd 62 i = [] := rfl
theorem qp3 (i : Nat) : G.cmd 63 i = [] := rfl
theorem qzp (i : Nat) : G.cmd 64 i = [] := rfl
theorem zkd (i : Nat) : G.cmd 65 i = [] := rfl
theorem qtc (i : Nat) : G.cmd 66 i = [] := rfl
theorem zta (i : Nat) : G.cmd 67 i = [] := rfl
theorem x0i (i : Nat) : G.cmd 68 i = [] := rfl
theorem qip (i : Nat) : G.cmd 69 i = [] := rfl
theorem z8w (i : Nat) : G.cmd 70 i = [] := rfl
theorem zv3 (i : Nat) : G.cmd 71 i = [] := rfl
theorem qvj (i : Nat) : G.cmd 72 i = [] := rfl
theorem z2r (i : Nat) : G.cmd 73 i = [] := rfl
theorem qpi (i : Nat) : G.cmd 74 i = [] := rfl
theorem zix (i : Nat) : G.cmd 75 i = [] := rfl
theorem z7t (i : Nat) : G.cmd 76 i = [] := rfl
theorem qk4 (i : Nat) : G.cmd 77 i = [] := rfl
theorem qxv (i : Nat) : G.cmd 78 i = [] := rfl
theorem qwk (i : Nat) : G.cmd 79 i = [] := rfl
theorem zqk (i : Nat) : G.cmd 80 i = [] := rfl
theorem zg9 (i : Nat) : G.cmd 81 i = [] := rfl
theorem z3m (i : Nat) : G.cmd 82 i = [] := rfl
theorem qva (i : Nat) : G.cmd 83 i = [] := rfl
theorem zsw (i : Nat) : G.cmd 84 i = [] := rfl
theorem zjy (i : Nat) : G.cmd 85 i = [] := rfl
theorem zhs (i : Nat) : G.cmd 86 i = [] := rfl
theorem qvy (i : Nat) : G.cmd 87 i = [] := rfl
theorem x0w (i : Nat) : G.cmd 88 i = [] := rfl
theorem zfr (i : Nat) : G.cmd 89 i = [] := rfl
theorem zx1 (i : Nat) : G.cmd 90 i = [] := rfl
theorem qyo (i : Nat) : G.cmd 91 i = [] := rfl
theorem zeu (i : Nat) : G.cmd 92 i = [] := rfl
theorem zxj (i : Nat) : G.cmd 93 i = [] := rfl
theorem qqq (i : Nat) : G.cmd 94 i = [] := rfl
theorem qnh (i : Nat) : G.cmd 95 i = [] := rfl
theorem ztx (i : Nat) : G.cmd 96 i = [] := rfl
theorem z9d (i : Nat) : G.cmd 97 i = [] := rfl
theorem zmu (i : Nat) : G.cmd 98 i = [] := rfl
theorem qmk (i : Nat) : G.cmd 99 i = [] := rfl
theorem zue (i : Nat) : G.cmd 100 i = [] := rfl
theorem ql3 (i : Nat) : G.cmd 101 i = [] := rfl
theorem zez (i : Nat) : G.cmd 102 i = [] := rfl
theorem zrr (i : Nat) : G.cmd 103 i = [] := rfl
theorem qnl (i : Nat) : G.cmd 104 i = [] := rfl
theorem qtn (i : Nat) : G.cmd 105 i = [] := rfl
theorem zcl (i : Nat) : G.cmd 106 i = [] := rfl
theorem z03 (i : Nat) : G.cmd 107 i = [] := rfl
theorem qpo (i : Nat) : G.cmd 108 i = [] := rfl
theorem zc3 (i : Nat) : G.cmd 109 i = [] := rfl
theorem z8o (i : Nat) : G.cmd 110 i = [] := rfl
theorem zwk (i : Nat) : G.cmd 111 i = [] := rfl
theorem zpk (i : Nat) : G.cmd 112 i = [] := rfl
theorem qkr (i : Nat) : G.cmd 113 i = [] := rfl
theorem qz9 (i : Nat) : G.cmd 114 i = [] := rfl
theorem x1v (i : Nat) : G.cmd 115 i = [] := rfl
theorem zrp (i : Nat) : G.cmd 116 i = [] := rfl
theorem zog (i : Nat) : G.cmd 117 i = [] := rfl
theorem zac (i : Nat) : G.cmd 118 i = [] := rfl
theorem zhi (i : Nat) : G.cmd 119 i = [] := rfl
theorem zrd (i : Nat) : G.cmd 120 i = [] := rfl
theorem z5r (i : Nat) : G.cmd 121 i = [] := rfl
theorem zu7 (i : Nat) : G.cmd 122 i = [] := rfl
theorem zf1 (i : Nat) : G.cmd 123 i = [] := rfl
theorem z6y (i : Nat) : G.cmd 124 i = [] := rfl
theorem zw8 (i : Nat) : G.cmd 125 i = [] := rfl
theorem z9y (i : Nat) : G.cmd 126 i = [] := rfl
theorem zwd (i : Nat) : G.cmd 127 i = [] := rfl
theorem qq7 (i : Nat) : G.cmd 128 i = [] := rfl
theorem qu4 (i : Nat) : G.cmd 129 i = [] := rfl
theorem qy7 (i : Nat) : G.cmd 130 i = [] := rfl
theorem zzf (i : Nat) : G.cmd 131 i = [] := rfl
theorem ze0 (i : Nat) : G.cmd 132 i = [] := rfl
theorem zlw (i : Nat) : G.cmd 133 i = [] := rfl
theorem qq2 (i : Nat) : G.cmd 134 i = [] := rfl
theorem zcs (i : Nat) : G.cmd 135 i = [] := rfl
theorem qw7 (i : Nat) : G.cmd 136 i = [] := rfl
theorem ztt (i : Nat) : G.cmd 137 i = [] := rfl
theorem zel (i : Nat) : G.cmd 138 i = [] := rfl
theorem qrd (i : Nat) : G.cmd 139 i = [] := rfl
theorem zx4 (i : Nat) : G.cmd 140 i = [] := rfl
theorem qz2 (i : Nat) : G.cmd 141 i = [] := rfl
theorem zs1 (i : Nat) : G.cmd 142 i = [] := rfl
theorem zm3 (i : Nat) : G.cmd 143 i = [] := rfl
theorem zdd (i : Nat) : G.cmd 144 i = [] := rfl
theorem qkx (i : Nat) : G.cmd 145 i = [] := rfl
theorem qmg (i : Nat) : G.cmd 146 i = [] := rfl
theorem qu2 (i : Nat) : G.cmd 147 i = [] := rfl
theorem zdt (i : Nat) : G.cmd 148 i = [] := rfl
theorem zkx (i : Nat) : G.cmd 149 i = [] := rfl
theorem zwj (i : Nat) : G.cmd 150 i = [] := rfl
theorem x17 (i : Nat) : G.cmd 151 i = [] := rfl
theorem znx (i : Nat) : G.cmd 152 i = [] := rfl
theorem x0k (i : Nat) : G.cmd 153 i = [] := rfl
theorem qlf (i : Nat) : G.cmd 154 i = [] := rfl
theorem qmb (i : Nat) : G.cmd 155 i = [] := rfl
theorem zqy (i : Nat) : G.cmd 156 i = [] := rfl
theorem zsv (i : Nat) : G.cmd 157 i = [] := rfl
theorem qvz (i : Nat) : G.cmd 158 i = [] := rfl
theorem zun (i : Nat) : G.cmd 159 i = [] := rfl
theorem z2u (i : Nat) : G.cmd 160 i = [] := rfl
theorem zju (i : Nat) : G.cmd 161 i = [] := rfl
theorem zpo (i : Nat) : G.cmd 162 i = [] := rfl
theorem qyx (i : Nat) : G.cmd 163 i = [] := rfl
theorem qtz (i : Nat) : G.cmd 164 i = [] := rfl
theorem z9t (i : Nat) : G.cmd 165 i = [] := rfl
theorem qj0 (i : Nat) : G.cmd 166 i = [] := rfl
theorem qk5 (i : Nat) : G.cmd 167 i = [] := rfl
theorem z5v (i : Nat) : G.cmd 168 i = [] := rfl
theorem z8g (i : Nat) : G.cmd 169 i = [] := rfl
theorem zg6 (i : Nat) : G.cmd 170 i = [] := rfl
theorem zv5 (i : Nat) : G.cmd 171 i = [] := rfl
theorem qyr (i : Nat) : G.cmd 172 i = [] := rfl
theorem qyg (i : Nat) : G.cmd 173 i = [] := rfl
theorem qxr (i : Nat) : G.cmd 174 i = [] := rfl
theorem zyi (i : Nat) : G.cmd 175 i = [] := rfl
theorem zgf (i : Nat) : G.cmd 176 i = [] := rfl
theorem qka (i : Nat) : G.cmd 177 i = [] := rfl
theorem z2q (i : Nat) : G.cmd 178 i = [] := rfl
theorem zlo (i : Nat) : G.cmd 179 i = [] := rfl
theorem qpf (i : Nat) : G.cmd 180 i = [] := rfl
theorem zl5 (i : Nat) : G.cmd 181 i = [] := rfl
theorem zua (i : Nat) : G.cmd 182 i = [] := rfl
theorem qte (i : Nat) : G.cmd 183 i = [] := rfl
theorem qxn (i : Nat) : G.cmd 184 i = [] := rfl
theorem zwp (i : Nat) : G.cmd 185 i = [] := rfl
theorem zq9 (i : Nat) : G.cmd 186 i = [] := rfl
theorem z0v (i : Nat) : G.cmd 187 i = [] := rfl
theorem qy2 (i : Nat) : G.cmd 188 i = [] := rfl
theorem z0r (i : Nat) : G.cmd 189 i = [] := rfl
theorem qmq (i : Nat) : G.cmd 190 i = [] := rfl
theorem qy3 (i : Nat) : G.cmd 191 i = [] := rfl
theorem zt6 (i : Nat) : G.cmd 192 i = [] := rfl
theorem zj6 (i : Nat) : G.cmd 193 i = [] := rfl
theorem zly (i : Nat) : G.cmd 194 i = [] := rfl
theorem qks (i : Nat) : G.cmd 195 i = [] := rfl
theorem zmf (i : Nat) : G.cmd 196 i = [] := rfl
theorem zzq (i : Nat) : G.cmd 197 i = [] := rfl
theorem qtm (i : Nat) : G.cmd 198 i = [] := rfl
theorem zqu (i : Nat) : G.cmd 199 i = [] := rfl
theorem x1r (i : Nat) : G.cmd 200 i = [] := rfl
theorem zjo (i : Nat) : G.cmd 201 i = [] := rfl
theorem qlo (i : Nat) : G.cmd 202 i = [] := rfl
theorem zye (i : Nat) : G.cmd 203 i = [] := rfl
theorem z9c (i : Nat) : G.cmd 204 i = [] := rfl
theorem zfc (i : Nat) : G.cmd 205 i = [] := rfl
theorem zzx (i : Nat) : G.cmd 206 i = [] := rfl
theorem z2c (i : Nat) : G.cmd 207 i = [] := rfl
theorem zu3 (i : Nat) : G.cmd 208 i = [] := rfl
theorem zno (i : Nat) : G.cmd 209 i = [] := rfl
theorem zy1 (i : Nat) : G.cmd 210 i = [] := rfl
theorem qrn (i : Nat) : G.cmd 211 i = [] := rfl
theorem zvk (i : Nat) : G.cmd 212 i = [] := rfl
theorem qrc (i : Nat) : G.cmd 213 i = [] := rfl
theorem z3f (i : Nat) : G.cmd 214 i = [] := rfl
theorem qrq (i : Nat) : G.cmd 215 i = [] := rfl
theorem qy9 (i : Nat) : G.cmd 216 i = [] := rfl
theorem qmw (i : Nat) : G.cmd 217 i = [] := rfl
theorem znh (i : Nat) : G.cmd 218 i = [] := rfl
theorem zry (i : Nat) : G.cmd 219 i = [] := rfl
theorem qrf (i : Nat) : G.cmd 220 i = [] := rfl
theorem zax (i : Nat) : G.cmd 221 i = [] := rfl
theorem qls (i : Nat) : G.cmd 222 i = [] := rfl
theorem qxf (i : Nat) : G.cmd 223 i = [] := rfl
theorem zss (i : Nat) : G.cmd 224 i = [] := rfl
theorem qwr (i : Nat) : G.cmd 225 i = [] := rfl
theorem ztb (i : Nat) : G.cmd 226 i = [] := rfl
theorem qpm (i : Nat) : G.cmd 227 i = [] := rfl
theorem qo8 (i : Nat) : G.cmd 228 i = [] := rfl
theorem qtt (i : Nat) : G.cmd 229 i = [] := rfl
theorem qm0 (i : Nat) : G.cmd 230 i = [] := rfl
theorem z9n (i : Nat) : G.cmd 231 i = [] := rfl
theorem qmx (i : Nat) : G.cmd 232 i = [] := rfl
theorem qmh (i : Nat) : G.cmd 233 i = [] := rfl
theorem zrw (i : Nat) : G.cmd 234 i = [] := rfl
theorem x0e (i : Nat) : G.cmd 235 i = [] := rfl
theorem qjc (i : Nat) : G.cmd 236 i = [] := rfl
theorem zwb (i : Nat) : G.cmd 237 i = [] := rfl
theorem zi8 (i : Nat) : G.cmd 238 i = [] := rfl
theorem zs6 (i : Nat) : G.cmd 239 i = [] := rfl
theorem zz0 (i : Nat) : G.cmd 240 i = [] := rfl
theorem qzi (i : Nat) : G.cmd 241 i = [] := rfl
theorem qkt (i : Nat) : G.cmd 242 i = [] := rfl
theorem z1c (i : Nat) : G.cmd 243 i = [] := rfl
theorem qjf (i : Nat) : G.cmd 244 i = [] := rfl
theorem qkb (i : Nat) : G.cmd 245 i = [] := rfl
theorem zc1 (i : Nat) : G.cmd 246 i = [] := rfl
theorem zjh (i : Nat) : G.cmd 247 i = [] := rfl
theorem zp8 (i : Nat) : G.cmd 248 i = [] := rfl
theorem zgc (i : Nat) : G.cmd 249 i = [] := rfl
theorem qv7 (i : Nat) : G.cmd 250 i = [] := rfl
theorem zhg (i : Nat) : G.cmd 251 i = [] := rfl
theorem qri (i : Nat) : G.cmd 252 i = [] := rfl
theorem zr9 (i : Nat) : G.cmd 253 i = [] := rfl
theorem zct (i : Nat) : G.cmd 254 i = [] := rfl
theorem qxb (i : Nat) : G.cmd 255 i = [] := rfl
theorem ql0 (i : Nat) : G.cmd 256 i = [] := rfl
theorem qjt (i : Nat) : G.cmd 257 i = [] := rfl
theorem qxs (i : Nat) : G.cmd 258 i = [] := rfl
theorem qnj (i : Nat) : G.cmd 259 i = [] := rfl
theorem qsw (i : Nat) : G.cmd 260 i = [] := rfl
theorem ztl (i : Nat) : G.cmd 261 i = [] := rfl
theorem z88 (i : Nat) : G.cmd 262 i = [] := rfl
theorem z2h (i : Nat) : G.cmd 263 i = [] := rfl
theorem zn4 (i : Nat) : G.cmd 264 i = [] := rfl
theorem zqt (i : Nat) : G.cmd 265 i = [] := rfl
theorem qui (i : Nat) : G.cmd 266 i = [] := rfl
theorem qr5 (i : Nat) : G.cmd 267 i = [] := rfl
theorem zsr (i : Nat) : G.cmd 268 i = [] := rfl
theorem qo3 (i : Nat) : G.cmd 269 i = [] := rfl
theorem zvg (i : Nat) : G.cmd 270 i = [] := rfl
theorem zpx (i : Nat) : G.cmd 271 i = [] := rfl
theorem z6h (i : Nat) : G.cmd 272 i = [] := rfl
theorem z8h (i : Nat) : G.cmd 273 i = [] := rfl
theorem qyc (i : Nat) : G.cmd 274 i = [] := rfl
theorem qin (i : Nat) : G.cmd 275 i = [] := rfl
theorem qj4 (i : Nat) : G.cmd 276 i = [] := rfl
theorem zxv (i : Nat) : G.cmd 277 i = [] := rfl
theorem zjt (i : Nat) : G.cmd 278 i = [] := rfl
theorem zb9 (i : Nat) : G.cmd 279 i = [] := rfl
theorem qjx (i : Nat) : G.cmd 280 i = [] := rfl
theorem zev (i : Nat) : G.cmd 281 i = [] := rfl
theorem zn3 (i : Nat) : G.cmd 282 i = [] := rfl
theorem zg5 (i : Nat) : G.cmd 283 i = [] := rfl
theorem zrf (i : Nat) : G.cmd 284 i = [] := rfl
theorem z1y (i : Nat) : G.cmd 285 i = [] := rfl
theorem zc0 (i : Nat) : G.cmd 286 i = [] := rfl
theorem z5h (i : Nat) : G.cmd 287 i = [] := rfl
theorem qsd (i : Nat) : G.cmd 288 i = [] := rfl
theorem z8k (i : Nat) : G.cmd 289 i = [] := rfl
theorem zma (i : Nat) : G.cmd 290 i = [] := rfl
theorem z5g (i : Nat) : G.cmd 291 i = [] := rfl
theorem zfe (i : Nat) : G.cmd 292 i = [] := rfl
theorem qq3 (i : Nat) : G.cmd 293 i = [] := rfl
theorem zxt (i : Nat) : G.cmd 294 i = [] := rfl
theorem qxz (i : Nat) : G.cmd 295 i = [] := rfl
theorem z1w (i : Nat) : G.cmd 296 i = [] := rfl
theorem x1s (i : Nat) : G.cmd 297 i = [] := rfl
theorem zui (i : Nat) : G.cmd 298 i = [] := rfl
theorem qv2 (i : Nat) : G.cmd 299 i = [] := rfl
theorem zkj (i : Nat) : G.cmd 300 i = [] := rfl
theorem qyh (i : Nat) : G.cmd 301 i = [] := rfl
theorem z7l (i : Nat) : G.cmd 302 i = [] := rfl
theorem qzb (i : Nat) : G.cmd 303 i = [] := rfl
theorem qob (i : Nat) : G.cmd 304 i = [] := rfl
theorem qqc (i : Nat) : G.cmd 305 i = [] := rfl
theorem qxt (i : Nat) : G.cmd 306 i = [] := rfl
theorem qnn (i : Nat) : G.cmd 307 i = [] := rfl
theorem z8p (i : Nat) : G.cmd 308 i = [] := rfl
theorem zok (i : Nat) : G.cmd 309 i = [] := rfl
theorem quw (i : Nat) : G.cmd 310 i = [] := rfl
theorem qxj (i : Nat) : G.cmd 311 i = [] := rfl
theorem x03 (i : Nat) : G.cmd 312 i = [] := rfl
theorem zkk (i : Nat) : G.cmd 313 i = [] := rfl
theorem qic (i : Nat) : G.cmd 314 i = [] := rfl
theorem qme (i : Nat) : G.cmd 315 i = [] := rfl
theorem qmm (i : Nat) : G.cmd 316 i = [] := rfl
theorem qqy (i : Nat) : G.cmd 317 i = [] := rfl
theorem zzw (i : Nat) : G.cmd 318 i = [] := rfl
theorem zgm (i : Nat) : G.cmd 319 i = [] := rfl
theorem qmu (i : Nat) : G.cmd 320 i = [] := rfl
theorem qnv (i : Nat) : G.cmd 321 i = [] := rfl
theorem zdc (i : Nat) : G.cmd 322 i = [] := rfl
theorem zes (i : Nat) : G.cmd 323 i = [] := rfl
theorem qsf (i : Nat) : G.cmd 324 i = [] := rfl
theorem zah (i : Nat) : G.cmd 325 i = [] := rfl
theorem z8i (i : Nat) : G.cmd 326 i = [] := rfl
theorem z4m (i : Nat) : G.cmd 327 i = [] := rfl
theorem zdy (i : Nat) : G.cmd 328 i = [] := rfl
theorem z3n (i : Nat) : G.cmd 329 i = [] := rfl
theorem zci (i : Nat) : G.cmd 330 i = [] := rfl
theorem qu8 (i : Nat) : G.cmd 331 i = [] := rfl
theorem x0h (i : Nat) : G.cmd 332 i = [] := rfl
theorem zxx (i : Nat) : G.cmd 333 i = [] := rfl
theorem qxe (i : Nat) : G.cmd 334 i = [] := rfl
theorem qv4 (i : Nat) : G.cmd 335 i = [] := rfl
theorem zha (i : Nat) : G.cmd 336 i = [] := rfl
theorem qm6 (i : Nat) : G.cmd 337 i = [] := rfl
theorem qn6 (i : Nat) : G.cmd 338 i = [] := rfl
theorem zz8 (i : Nat) : G.cmd 339 i = [] := rfl
theorem zq3 (i : Nat) : G.cmd 340 i = [] := rfl
theorem zoe (i : Nat) : G.cmd 341 i = [] := rfl
theorem zln (i : Nat) : G.cmd 342 i = [] := rfl
theorem qis (i : Nat) : G.cmd 343 i = [] := rfl
theorem que (i : Nat) : G.cmd 344 i = [] := rfl
theorem zkp (i : Nat) : G.cmd 345 i = [] := rfl
theorem zu6 (i : Nat) : G.cmd 346 i = [] := rfl
theorem x1e (i : Nat) : G.cmd 347 i = [] := rfl
theorem qx5 (i : Nat) : G.cmd 348 i = [] := rfl
theorem zcc (i : Nat) : G.cmd 349 i = [] := rfl
theorem z6c (i : Nat) : G.cmd 350 i = [] := rfl
theorem zv9 (i : Nat) : G.cmd 351 i = [] := rfl
theorem zoz (i : Nat) : G.cmd 352 i = [] := rfl
theorem z7i (i : Nat) : G.cmd 353 i = [] := rfl
theorem zho (i : Nat) : G.cmd 354 i = [] := rfl
theorem zuw (i : Nat) : G.cmd 355 i = [] := rfl
theorem zw1 (i : Nat) : G.cmd 356 i = [] := rfl
theorem zy4 (i : Nat) : G.cmd 357 i = [] := rfl
theorem x0f (i : Nat) : G.cmd 358 i = [] := rfl
theorem z5m (i : Nat) : G.cmd 359 i = [] := rfl
theorem qug (i : Nat) : G.cmd 360 i = [] := rfl
theorem qj6 (i : Nat) : G.cmd 361 i = [] := rfl
theorem ql6 (i : Nat) : G.cmd 362 i = [] := rfl
theorem qvf (i : Nat) : G.cmd 363 i = [] := rfl
theorem zx7 (i : Nat) : G.cmd 364 i = [] := rfl
theorem zsc (i : Nat) : G.cmd 365 i = [] := rfl
theorem zhl (i : Nat) : G.cmd 366 i = [] := rfl
theorem zek (i : Nat) : G.cmd 367 i = [] := rfl
theorem z4r (i : Nat) : G.cmd 368 i = [] := rfl
theorem zde (i : Nat) : G.cmd 369 i = [] := rfl
theorem zga (i : Nat) : G.cmd 370 i = [] := rfl
theorem qqb (i : Nat) : G.cmd 371 i = [] := rfl
theorem zc9 (i : Nat) : G.cmd 372 i = [] := rfl
theorem qkp (i : Nat) : G.cmd 373 i = [] := rfl
theorem qpw (i : Nat) : G.cmd 374 i = [] := rfl
theorem z3y (i : Nat) : G.cmd 375 i = [] := rfl
theorem zhw (i : Nat) : G.cmd 376 i = [] := rfl
theorem zu5 (i : Nat) : G.cmd 377 i = [] := rfl
theorem zab (i : Nat) : G.cmd 378 i = [] := rfl
theorem zru (i : Nat) : G.cmd 379 i = [] := rfl
theorem qps (i : Nat) : G.cmd 380 i = [] := rfl
theorem zi9 (i : Nat) : G.cmd 381 i = [] := rfl
theorem zgw (i : Nat) : G.cmd 382 i = [] := rfl
theorem zxl (i : Nat) : G.cmd 383 i = [] := rfl
theorem ze8 (i : Nat) : G.cmd 384 i = [] := rfl
theorem zh3 (i : Nat) : G.cmd 385 i = [] := rfl
theorem qkc (i : Nat) : G.cmd 386 i = [] := rfl
theorem zwu (i : Nat) : G.cmd 387 i = [] := rfl
theorem zgo (i : Nat) : G.cmd 388 i = [] := rfl
theorem qlx (i : Nat) : G.cmd 389 i = [] := rfl
theorem z9v (i : Nat) : G.cmd 390 i = [] := rfl
theorem qqj (i : Nat) : G.cmd 391 i = [] := rfl
theorem qif (i : Nat) : G.cmd 392 i = [] := rfl
theorem zx0 (i : Nat) : G.cmd 393 i = [] := rfl
theorem zbt (i : Nat) : G.cmd 394 i = [] := rfl
theorem zsj (i : Nat) : G.cmd 395 i = [] := rfl
theorem x1m (i : Nat) : G.cmd 396 i = [] := rfl
theorem qs2 (i : Nat) : G.cmd 397 i = [] := rfl
theorem qjb (i : Nat) : G.cmd 398 i = [] := rfl
theorem qu0 (i : Nat) : G.cmd 399 i = [] := rfl
theorem qwu (i : Nat) : G.cmd 400 i = [] := rfl
theorem qt1 (i : Nat) : G.cmd 401 i = [] := rfl
theorem znf (i : Nat) : G.cmd 402 i = [] := rfl
theorem qoi (i : Nat) : G.cmd 403 i = [] := rfl
theorem zxy (i : Nat) : G.cmd 404 i = [] := rfl
theorem zi1 (i : Nat) : G.cmd 405 i = [] := rfl
theorem zeb (i : Nat) : G.cmd 406 i = [] := rfl
theorem zke (i : Nat) : G.cmd 407 i = [] := rfl
theorem qwl (i : Nat) : G.cmd 408 i = [] := rfl
theorem zfa (i : Nat) : G.cmd 409 i = [] := rfl
theorem zn2 (i : Nat) : G.cmd 410 i = [] := rfl
theorem zd3 (i : Nat) : G.cmd 411 i = [] := rfl
theorem zsx (i : Nat) : G.cmd 412 i = [] := rfl
theorem qvh (i : Nat) : G.cmd 413 i = [] := rfl
theorem qv5 (i : Nat) : G.cmd 414 i = [] := rfl
theorem zmh (i : Nat) : G.cmd 415 i = [] := rfl
theorem zda (i : Nat) : G.cmd 416 i = [] := rfl
theorem zcw (i : Nat) : G.cmd 417 i = [] := rfl
theorem zf5 (i : Nat) : G.cmd 418 i = [] := rfl
theorem z1k (i : Nat) : G.cmd 419 i = [] := rfl
theorem zh6 (i : Nat) : G.cmd 420 i = [] := rfl
theorem z4f (i : Nat) : G.cmd 421 i = [] := rfl
theorem z2n (i : Nat) : G.cmd 422 i = [] := rfl
theorem qxk (i : Nat) : G.cmd 423 i = [] := rfl
theorem z10 (i : Nat) : G.cmd 424 i = [] := rfl
theorem zvz (i : Nat) : G.cmd 425 i = [] := rfl
theorem zvb (i : Nat) : G.cmd 426 i = [] := rfl
theorem zn5 (i : Nat) : G.cmd 427 i = [] := rfl
theorem za3 (i : Nat) : G.cmd 428 i = [] := rfl
theorem zod (i : Nat) : G.cmd 429 i = [] := rfl
theorem z1e (i : Nat) : G.cmd 430 i = [] := rfl
theorem zqb (i : Nat) : G.cmd 431 i = [] := rfl
theorem qnz (i : Nat) : G.cmd 432 i = [] := rfl
theorem quv (i : Nat) : G.cmd 433 i = [] := rfl
theorem qjl (i : Nat) : G.cmd 434 i = [] := rfl
theorem zng (i : Nat) : G.cmd 435 i = [] := rfl
theorem z7j (i : Nat) : G.cmd 436 i = [] := rfl
theorem zvm (i : Nat) : G.cmd 437 i = [] := rfl
theorem qq5 (i : Nat) : G.cmd 438 i = [] := rfl
theorem z8f (i : Nat) : G.cmd 439 i = [] := rfl
theorem zb7 (i : Nat) : G.cmd 440 i = [] := rfl
theorem qoq (i : Nat) : G.cmd 441 i = [] := rfl
theorem x1q (i : Nat) : G.cmd 442 i = [] := rfl
theorem zuj (i : Nat) : G.cmd 443 i = [] := rfl
theorem qiv (i : Nat) : G.cmd 444 i = [] := rfl
theorem zxb (i : Nat) : G.cmd 445 i = [] := rfl
theorem z0w (i : Nat) : G.cmd 446 i = [] := rfl
theorem zff (i : Nat) : G.cmd 447 i = [] := rfl
theorem z5s (i : Nat) : G.cmd 448 i = [] := rfl
theorem zme (i : Nat) : G.cmd 449 i = [] := rfl
theorem zsm (i : Nat) : G.cmd 450 i = [] := rfl
theorem ze1 (i : Nat) : G.cmd 451 i = [] := rfl
theorem zdk (i : Nat) : G.cmd 452 i = [] := rfl
theorem z4t (i : Nat) : G.cmd 453 i = [] := rfl
theorem zl8 : G.spec 5 0 = ⟨[1,5,6,7,8],[1,5,6,7],[6],[],[],0⟩ := rfl
theorem zdb : G.spec 5 2 = ⟨[1,15],[1,15],[],[],[],0⟩ := rfl
theorem z3b : G.spec 9 0 = ⟨[1,6,15,16,17],[1,6],[6],[],[],0⟩ := rfl
theorem z4p : G.spec 9 2 = ⟨[1,6,30,31,32],[1,4,5,6],[6],[],[],0⟩ := rfl
theorem zdq : G.spec 10 0 = ⟨[0,6,7,8,9],[2,3,4,5,6,7,8,9],[8],[],[],0⟩ := rfl
theorem zdh : G.spec 20 1 = ⟨[4,5,6,82,83,84],[4,5,6],[],[],[],0⟩ := rfl
theorem z5w : G.spec 20 3 = ⟨[4,5,6,119,120,121],[4,5,6],[],[],[],0⟩ := rfl
theorem z9x : G.spec 21 0 = ⟨[0,3],[0,3],[3],[],[],0⟩ := rfl
theorem z8m : G.spec 22 1 = ⟨[0,2,3],[0,2,3],[],[(3,5)],[],0⟩ := rfl
theorem zrl : G.spec 22 3 = ⟨[0,2,3],[0,2,3],[],[(3,6)],[],0⟩ := rfl
theorem z1g : G.spec 31 0 = ⟨[0,3],[3],[],[],[],0⟩ := rfl
theorem ze7 : G.spec 33 0 = ⟨[5,6,7],[2],[],[],[],0⟩ := rfl
theorem zlt : G.spec 35 0 = ⟨[0,5,6,7],[2],[],[],[],0⟩ := rfl
theorem qyu : G.spec 37 0 = ⟨[0,3],[0,3],[],[],[],0⟩ := rfl
theorem x0z : G.spec 60 0 = ⟨[0,4,5,6],[0,2,3,4,5,6],[],[],[],0⟩ := rfl
theorem fz1 : G.frz 1 = false := rfl
theorem fz2 : G.frz 2 = false := rfl
theorem fz3 : G.frz 3 = false := rfl
theorem fz4 : G.frz 4 = false := rfl
theorem fz5 : G.frz 5 = false := rfl
theorem fz6 : G.frz 6 = false := rfl
theorem fz7 : G.frz 7 = false := rfl
theorem fz8 : G.frz 8 = false := rfl
theorem fz9 : G.frz 9 = false := rfl
theorem z0u : G.frz 10 = false := rfl
theorem zlc : G.frz 11 = false := rfl
theorem zmq : G.frz 12 = false := rfl
theorem z1a : G.frz 13 = false := rfl
theorem zxz : G.frz 14 = false := rfl
theorem qnu : G.frz 15 = false := rfl
theorem zf0 : G.frz 16 = false := rfl
theorem qu3 : G.frz 17 = false := rfl
theorem qpt : G.frz 18 = false := rfl
theorem zlp : G.frz 19 = false := rfl
theorem zl0 : G.frz 20 = false := rfl
theorem zgp : G.frz 21 = false := rfl
theorem zpr : G.frz 22 = false := rfl
theorem z1v : G.frz 23 = false := rfl
theorem zkb : G.frz 24 = false := rfl
theorem zdo : G.frz 25 = false := rfl
theorem x1i : G.frz 26 = false := rfl
theorem ztm : G.frz 27 = false := rfl
theorem zay : G.frz 28 = false := rfl
theorem ztq : G.frz 30 = false := rfl
theorem qly : G.frz 32 = false := rfl
theorem zze : G.frz 33 = false := rfl
theorem z8t : G.frz 34 = false := rfl
theorem zvy : G.frz 35 = false := rfl
theorem zn1 : G.frz 36 = false := rfl
theorem x1u : G.frz 37 = false := rfl
theorem zp3 : G.frz 38 = false := rfl
theorem zjd : G.frz 40 = false := rfl
theorem zv7 : G.frz 41 = false := rfl
theorem zgg : G.frz 42 = false := rfl
theorem qub : G.frz 43 = false := rfl
theorem qxy : G.frz 44 = false := rfl
theorem qn7 : G.frz 45 = false := rfl
theorem za0 : G.frz 46 = false := rfl
theorem zxh : G.frz 47 = false := rfl
theorem z0e : G.frz 48 = false := rfl
theorem zbj : G.frz 49 = false := rfl
theorem zu1 : G.frz 50 = false := rfl
theorem zbx : G.frz 51 = false := rfl
theorem qld : G.frz 52 = false := rfl
theorem zgn : G.frz 53 = false := rfl
theorem zvw : G.frz 54 = false := rfl
theorem zlz : G.frz 55 = false := rfl
theorem z3t : G.frz 56 = false := rfl
theorem zy5 : G.frz 58 = false := rfl
theorem zdx : G.frz 59 = false := rfl
theorem zbc : G.frz 60 = false := rfl
theorem z6z : G.frz 61 = false := rfl
theorem zfg : G.frz 62 = false := rfl
theorem qjg : G.frz 63 = false := rfl
theorem qq0 : G.frz 64 = false := rfl
theorem z94 : G.frz 65 = false := rfl
theorem qkv : G.frz 66 = false := rfl
theorem z9i : G.frz 67 = false := rfl
theorem z8j : G.frz 68 = false := rfl
theorem zgs : G.frz 69 = false := rfl
theorem ztd : G.frz 71 = false := rfl
theorem qt7 : G.frz 72 = false := rfl
theorem zlg : G.frz 73 = false := rfl
theorem x1z : G.frz 74 = false := rfl
theorem zyo : G.frz 75 = false := rfl
theorem qns : G.frz 76 = false := rfl
theorem zgz : G.frz 77 = false := rfl
theorem z0b : G.frz 78 = false := rfl
theorem qq6 : G.frz 79 = false := rfl
theorem zrc : G.frz 80 = false := rfl
theorem zuo : G.frz 81 = false := rfl
theorem x1n : G.frz 82 = false := rfl
theorem zbd : G.frz 83 = false := rfl
theorem qy6 : G.frz 84 = false := rfl
theorem zp6 : G.frz 85 = false := rfl
theorem x11 : G.frz 86 = false := rfl
theorem qyj : G.frz 87 = false := rfl
theorem znz : G.frz 88 = false := rfl
theorem zq0 : G.frz 89 = false := rfl
theorem qor : G.frz 90 = false := rfl
theorem qjm : G.frz 91 = false := rfl
theorem z1d : G.frz 93 = false := rfl
theorem zaz : G.frz 94 = false := rfl
theorem zm8 : G.frz 96 = false := rfl
theorem qp6 : G.frz 97 = false := rfl
theorem qm1 : G.frz 99 = false := rfl
theorem zmv : G.frz 100 = false := rfl
theorem qs8 : G.frz 101 = false := rfl
theorem qyb : G.frz 102 = false := rfl
theorem zgj : G.frz 103 = false := rfl
theorem qoy : G.frz 104 = false := rfl
theorem zfo : G.frz 105 = false := rfl
theorem x2a : G.frz 106 = false := rfl
theorem z0g : G.frz 107 = false := rfl
theorem qmn : G.frz 109 = false := rfl
theorem zs7 : G.frz 110 = false := rfl
theorem qs1 : G.frz 111 = false := rfl
theorem qul : G.frz 112 = false := rfl
theorem qvs : G.frz 114 = false := rfl
theorem zmn : G.frz 115 = false := rfl
theorem zp7 : G.frz 116 = false := rfl
theorem qiw : G.frz 117 = false := rfl
theorem x0x : G.frz 118 = false := rfl
theorem zpb : G.frz 119 = false := rfl
theorem x26 : G.frz 120 = false := rfl
theorem qp8 : G.frz 121 = false := rfl
theorem qn3 : G.frz 122 = false := rfl
theorem zeg : G.frz 123 = false := rfl
theorem zyb : G.frz 124 = false := rfl
theorem z2a : G.frz 125 = false := rfl
theorem z7f : G.frz 127 = false := rfl
theorem zo0 : G.frz 128 = false := rfl
theorem z6m : G.frz 129 = false := rfl
theorem x0u : G.frz 130 = false := rfl
theorem zoa : G.frz 131 = false := rfl
theorem ztg : G.frz 132 = false := rfl
theorem qk0 : G.frz 133 = false := rfl
theorem zw5 : G.frz 135 = false := rfl
theorem qoc : G.frz 136 = false := rfl
theorem z97 : G.frz 137 = false := rfl
theorem zl1 : G.frz 138 = false := rfl
theorem qqi : G.frz 139 = false := rfl
theorem zmz : G.frz 140 = false := rfl
theorem zwy : G.frz 141 = false := rfl
theorem ztp : G.frz 142 = false := rfl
theorem zzb : G.frz 143 = false := rfl
theorem qqh : G.frz 144 = false := rfl
theorem z6v : G.frz 145 = false := rfl
theorem qli : G.frz 147 = false := rfl
theorem zqh : G.frz 148 = false := rfl
theorem z3d : G.frz 150 = false := rfl
theorem zn6 : G.frz 151 = false := rfl
theorem zrt : G.frz 152 = false := rfl
theorem zk1 : G.frz 153 = false := rfl
theorem zt7 : G.frz 154 = false := rfl
theorem x10 : G.frz 155 = false := rfl
theorem x0v : G.frz 156 = false := rfl
theorem qym : G.frz 158 = false := rfl
theorem zmk : G.frz 159 = false := rfl
theorem z6i : G.frz 160 = false := rfl
theorem z81 : G.frz 161 = false := rfl
theorem zur : G.frz 163 = false := rfl
theorem zu4 : G.frz 164 = false := rfl
theorem qpp : G.frz 165 = false := rfl
theorem qru : G.frz 166 = false := rfl
theorem z5n : G.frz 167 = false := rfl
theorem qil : G.frz 168 = false := rfl
theorem qph : G.frz 169 = false := rfl
theorem zms : G.frz 170 = false := rfl
theorem qjq : G.frz 171 = false := rfl
theorem zg4 : G.frz 172 = false := rfl
theorem zt1 : G.frz 173 = false := rfl
theorem qrg : G.frz 174 = false := rfl
theorem zan : G.frz 175 = false := rfl
theorem zxp : G.frz 176 = false := rfl
theorem znl : G.frz 177 = false := rfl
theorem zg3 : G.frz 178 = false := rfl
theorem qwy : G.frz 179 = false := rfl
theorem qtl : G.frz 180 = false := rfl
theorem zsz : G.frz 181 = false := rfl
theorem zlq : G.frz 182 = false := rfl
theorem qwx : G.frz 183 = false := rfl
theorem qsb : G.frz 184 = false := rfl
theorem qnb : G.frz 185 = false := rfl
theorem qp2 : G.frz 186 = false := rfl
theorem qtq : G.frz 188 = false := rfl
theorem zd6 : G.frz 189 = false := rfl
theorem qv3 : G.frz 190 = false := rfl
theorem qol : G.frz 191 = false := rfl
theorem qlw : G.frz 192 = false := rfl
theorem zq4 : G.frz 193 = false := rfl
theorem qnk : G.frz 194 = false := rfl
theorem zcy : G.frz 195 = false := rfl
theorem x1o : G.frz 197 = false := rfl
theorem qr7 : G.frz 198 = false := rfl
theorem z0q : G.frz 199 = false := rfl
theorem z7q : G.frz 200 = false := rfl
theorem qut : G.frz 201 = false := rfl
theorem qkn : G.frz 203 = false := rfl
theorem qmi : G.frz 204 = false := rfl
theorem qjh : G.frz 205 = false := rfl
theorem zoh : G.frz 207 = false := rfl
theorem z7p : G.frz 208 = false := rfl
theorem qlj : G.frz 210 = false := rfl
theorem zqx : G.frz 211 = false := rfl
theorem qrr : G.frz 212 = false := rfl
theorem x19 : G.frz 213 = false := rfl
theorem zoq : G.frz 214 = false := rfl
theorem qn9 : G.frz 215 = false := rfl
theorem x1f : G.frz 216 = false := rfl
theorem zpg : G.frz 218 = false := rfl
theorem zfz : G.frz 219 = false := rfl
theorem qpz : G.frz 220 = false := rfl
theorem qwv : G.frz 221 = false := rfl
theorem qwz : G.frz 222 = false := rfl
theorem zbn : G.frz 223 = false := rfl
theorem zyk : G.frz 224 = false := rfl
theorem zqd : G.frz 225 = false := rfl
theorem zzn : G.frz 226 = false := rfl
theorem z6b : G.frz 227 = false := rfl
theorem zzh : G.frz 228 = false := rfl
theorem qlp : G.frz 229 = false := rfl
theorem qkl : G.frz 230 = false := rfl
theorem zrm : G.frz 231 = false := rfl
theorem ztw : G.frz 232 = false := rfl
theorem zh1 : G.frz 233 = false := rfl
theorem z04 : G.frz 235 = false := rfl
theorem zi6 : G.frz 236 = false := rfl
theorem z3o : G.frz 238 = false := rfl
theorem qtb : G.frz 239 = false := rfl
theorem zts : G.frz 240 = false := rfl
theorem zk8 : G.frz 241 = false := rfl
theorem z3v : G.frz 242 = false := rfl
theorem x0t : G.frz 243 = false := rfl
theorem x15 : G.frz 244 = false := rfl
theorem zjk : G.frz 245 = false := rfl
theorem x07 : G.frz 246 = false := rfl
theorem z9m : G.frz 247 = false := rfl
theorem zqa : G.frz 248 = false := rfl
theorem qkq : G.frz 249 = false := rfl
theorem zzv : G.frz 250 = false := rfl
theorem z6l : G.frz 251 = false := rfl
theorem z08 : G.frz 252 = false := rfl
theorem x1a : G.frz 253 = false := rfl
theorem zcp : G.frz 254 = false := rfl
theorem z8x : G.frz 255 = false := rfl
theorem zsa : G.frz 256 = false := rfl
theorem qse : G.frz 257 = false := rfl
theorem qt0 : G.frz 258 = false := rfl
theorem zlx : G.frz 259 = false := rfl
theorem qw8 : G.frz 260 = false := rfl
theorem zz5 : G.frz 261 = false := rfl
theorem quj : G.frz 262 = false := rfl
theorem zmi : G.frz 263 = false := rfl
theorem zbo : G.frz 264 = false := rfl
theorem zzr : G.frz 265 = false := rfl
theorem qke : G.frz 267 = false := rfl
theorem qrj : G.frz 268 = false := rfl
theorem z2s : G.frz 269 = false := rfl
theorem zf3 : G.frz 270 = false := rfl
theorem x1j : G.frz 271 = false := rfl
theorem zdm : G.frz 272 = false := rfl
theorem qo9 : G.frz 273 = false := rfl
theorem qry : G.frz 274 = false := rfl
theorem qyn : G.frz 275 = false := rfl
theorem zhq : G.frz 277 = false := rfl
theorem zep : G.frz 278 = false := rfl
theorem zqf : G.frz 279 = false := rfl
theorem qkj : G.frz 280 = false := rfl
theorem zgi : G.frz 281 = false := rfl
theorem qji : G.frz 283 = false := rfl
theorem zri : G.frz 285 = false := rfl
theorem z5l : G.frz 286 = false := rfl
theorem zae : G.frz 287 = false := rfl
theorem ql1 : G.frz 288 = false := rfl
theorem ze2 : G.frz 289 = false := rfl
theorem qww : G.frz 290 = false := rfl
theorem z16 : G.frz 291 = false := rfl
theorem zen : G.frz 292 = false := rfl
theorem qsy : G.frz 293 = false := rfl
theorem qvk : G.frz 294 = false := rfl
theorem zkh : G.frz 295 = false := rfl
theorem zpq : G.frz 296 = false := rfl
theorem zvc : G.frz 297 = false := rfl
theorem zew : G.frz 299 = false := rfl
theorem qsa : G.frz 300 = false := rfl
theorem x1l : G.frz 301 = false := rfl
theorem zv4 : G.frz 302 = false := rfl
theorem z7e : G.frz 303 = false := rfl
theorem zxs : G.frz 304 = false := rfl
theorem zp4 : G.frz 305 = false := rfl
theorem ztj : G.frz 306 = false := rfl
theorem zk9 : G.frz 307 = false := rfl
theorem zvt : G.frz 308 = false := rfl
theorem zcd : G.frz 309 = false := rfl
theorem z1p : G.frz 310 = false := rfl
theorem za8 : G.frz 311 = false := rfl
theorem qzw : G.frz 312 = false := rfl
theorem zqr : G.frz 314 = false := rfl
theorem zj3 : G.frz 315 = false := rfl
theorem zpn : G.frz 316 = false := rfl
theorem qx3 : G.frz 317 = false := rfl
theorem qny : G.frz 318 = false := rfl
theorem z8v : G.frz 319 = false := rfl
theorem zpc : G.frz 320 = false := rfl
theorem zd7 : G.frz 321 = false := rfl
theorem qkk : G.frz 322 = false := rfl
theorem zji : G.frz 323 = false := rfl
theorem zsn : G.frz 324 = false := rfl
theorem zfn : G.frz 325 = false := rfl
theorem qom : G.frz 326 = false := rfl
theorem z4x : G.frz 327 = false := rfl
theorem z1t : G.frz 328 = false := rfl
theorem ze9 : G.frz 329 = false := rfl
theorem qr3 : G.frz 330 = false := rfl
theorem z1l : G.frz 331 = false := rfl
theorem qvr : G.frz 332 = false := rfl
theorem zol : G.frz 333 = false := rfl
theorem zks : G.frz 334 = false := rfl
theorem zyz : G.frz 335 = false := rfl
theorem qz0 : G.frz 336 = false := rfl
theorem qu5 : G.frz 337 = false := rfl
theorem zp5 : G.frz 338 = false := rfl
theorem z4u : G.frz 339 = false := rfl
theorem x1c : G.frz 341 = false := rfl
theorem ql8 : G.frz 342 = false := rfl
theorem qpg : G.frz 343 = false := rfl
theorem zzl : G.frz 344 = false := rfl
theorem zao : G.frz 345 = false := rfl
theorem z05 : G.frz 346 = false := rfl
theorem zxu : G.frz 347 = false := rfl
theorem z5z : G.frz 348 = false := rfl
theorem z9k : G.frz 349 = false := rfl
theorem zwn : G.frz 350 = false := rfl
theorem zzt : G.frz 351 = false := rfl
theorem z7g : G.frz 352 = false := rfl
theorem zi2 : G.frz 353 = false := rfl
theorem qx0 : G.frz 354 = false := rfl
theorem qyf : G.frz 355 = false := rfl
theorem zgl : G.frz 356 = false := rfl
theorem qij : G.frz 357 = false := rfl
theorem qot : G.frz 358 = false := rfl
theorem zwl : G.frz 359 = false := rfl
theorem zhf : G.frz 360 = false := rfl
theorem qxl : G.frz 361 = false := rfl
theorem zj5 : G.frz 362 = false := rfl
theorem qoa : G.frz 363 = false := rfl
theorem zf2 : G.frz 364 = false := rfl
theorem zvj : G.frz 365 = false := rfl
theorem qun : G.frz 366 = false := rfl
theorem qrz : G.frz 367 = false := rfl
theorem zmw : G.frz 368 = false := rfl
theorem zou : G.frz 369 = false := rfl
theorem zfs : G.frz 370 = false := rfl
theorem x14 : G.frz 371 = false := rfl
theorem zau : G.frz 372 = false := rfl
theorem z9r : G.frz 374 = false := rfl
theorem qtr : G.frz 375 = false := rfl
theorem qi9 : G.frz 376 = false := rfl
theorem qwp : G.frz 377 = false := rfl
theorem zbe : G.frz 379 = false := rfl
theorem qyd : G.frz 380 = false := rfl
theorem zz1 : G.frz 381 = false := rfl
theorem zco : G.frz 382 = false := rfl
theorem qix : G.frz 383 = false := rfl
theorem zw7 : G.frz 385 = false := rfl
theorem qzs : G.frz 386 = false := rfl
theorem qmp : G.frz 387 = false := rfl
theorem qiq : G.frz 389 = false := rfl
theorem qjn : G.frz 390 = false := rfl
theorem zz6 : G.frz 391 = false := rfl
theorem z1s : G.frz 392 = false := rfl
theorem zht : G.frz 393 = false := rfl
theorem z4b : G.frz 394 = false := rfl
theorem ztf : G.frz 395 = false := rfl
theorem zgk : G.frz 396 = false := rfl
theorem zj4 : G.frz 397 = false := rfl
theorem zgv : G.frz 398 = false := rfl
theorem qpx : G.frz 399 = false := rfl
theorem z7u : G.frz 400 = false := rfl
theorem qqk : G.frz 401 = false := rfl
theorem z9p : G.frz 402 = false := rfl
theorem zmb : G.frz 403 = false := rfl
theorem z2z : G.frz 404 = false := rfl
theorem z9o : G.frz 405 = false := rfl
theorem zn8 : G.frz 406 = false := rfl
theorem z9h : G.frz 408 = false := rfl
theorem zl9 : G.frz 410 = false := rfl
theorem x01 : G.frz 411 = false := rfl
theorem zc8 : G.frz 412 = false := rfl
theorem zse : G.frz 413 = false := rfl
theorem zvv : G.frz 414 = false := rfl
theorem zpa : G.frz 415 = false := rfl
theorem qp1 : G.frz 416 = false := rfl
theorem z99 : G.frz 417 = false := rfl
theorem zii : G.frz 418 = false := rfl
theorem zka : G.frz 419 = false := rfl
theorem x2c : G.frz 421 = false := rfl
theorem z0k : G.frz 422 = false := rfl
theorem zll : G.frz 424 = false := rfl
theorem zbu : G.frz 426 = false := rfl
theorem zhv : G.frz 427 = false := rfl
theorem z2f : G.frz 428 = false := rfl
theorem qpv : G.frz 429 = false := rfl
theorem z6n : G.frz 430 = false := rfl
theorem zm0 : G.frz 431 = false := rfl
theorem qoe : G.frz 432 = false := rfl
theorem zqo : G.frz 433 = false := rfl
theorem zh7 : G.frz 435 = false := rfl
theorem z1n : G.frz 436 = false := rfl
theorem qi7 : G.frz 437 = false := rfl
theorem zdf : G.frz 438 = false := rfl
theorem zad : G.frz 439 = false := rfl
theorem zxd : G.frz 440 = false := rfl
theorem qjo : G.frz 441 = false := rfl
theorem qzy : G.frz 442 = false := rfl
theorem qvw : G.frz 443 = false := rfl
theorem z8y : G.frz 444 = false := rfl
theorem qqv : G.frz 445 = false := rfl
theorem znr : G.frz 446 = false := rfl
theorem za1 : G.frz 447 = false := rfl
theorem zs3 : G.frz 449 = false := rfl
theorem z1r : G.frz 450 = false := rfl
theorem zug : G.frz 451 = false := rfl
theorem qxc : G.frz 452 = false := rfl
theorem qwb : G.frz 453 = false := rfl
theorem znj : G.frz 454 = false := rfl
theorem zbv : G.frz 456 = false := rfl
theorem zr6 : G.frz 458 = false := rfl
theorem z18 : G.frz 459 = false := rfl
theorem z95 : G.frz 460 = false := rfl
theorem zz9 : G.frz 461 = false := rfl
theorem zqg : G.frz 462 = false := rfl
theorem zpl : G.frz 464 = false := rfl
theorem zr7 : G.frz 465 = false := rfl
theorem qnt : G.frz 466 = false := rfl
theorem zw3 : G.frz 467 = false := rfl
theorem z9j : G.frz 468 = false := rfl
theorem zv8 : G.frz 469 = false := rfl
theorem z1o : G.frz 470 = false := rfl
theorem zaa : G.frz 471 = false := rfl
theorem zzm : G.frz 472 = false := rfl
theorem z4q : G.frz 473 = false := rfl
theorem zz3 : G.frz 474 = false := rfl
theorem z4k : G.frz 475 = false := rfl
theorem x23 : G.frz 476 = false := rfl
theorem qs9 : G.frz 477 = false := rfl
theorem zea : G.frz 478 = false := rfl
theorem zxi : G.frz 479 = false := rfl
theorem qm8 : G.frz 480 = false := rfl
theorem qpb : G.frz 482 = false := rfl
theorem zr2 : G.frz 483 = false := rfl
theorem zyp : G.frz 484 = false := rfl
theorem zd8 : G.frz 485 = false := rfl
theorem zba : G.frz 486 = false := rfl
theorem zpf : G.frz 487 = false := rfl
theorem qr6 : G.frz 488 = false := rfl
theorem qll : G.frz 489 = false := rfl
theorem qql : G.frz 490 = false := rfl
theorem zfw : G.frz 491 = false := rfl
theorem zoo : G.frz 492 = false := rfl
theorem zhc : G.frz 493 = false := rfl
theorem z8a : G.frz 494 = false := rfl
theorem qko : G.frz 496 = false := rfl
theorem zcq : G.frz 497 = false := rfl
theorem z9q : G.frz 498 = false := rfl
theorem zqw : G.frz 499 = false := rfl
theorem quh : G.frz 500 = false := rfl
theorem qlr : G.frz 501 = false := rfl
theorem zj2 : G.frz 502 = false := rfl
theorem zm1 : G.frz 503 = false := rfl
theorem zit : G.frz 504 = false := rfl
theorem zyu : G.frz 505 = false := rfl
theorem qve : G.frz 507 = false := rfl
theorem qsl : G.frz 508 = false := rfl
theorem zdv : G.frz 509 = false := rfl
theorem zo2 : G.frz 510 = false := rfl
theorem zi4 : G.frz 511 = false := rfl
theorem zkw : G.frz 512 = false := rfl
theorem zvh : G.frz 514 = false := rfl
theorem x1b : G.frz 515 = false := rfl
theorem qy0 : G.frz 517 = false := rfl
theorem qqm : G.frz 518 = false := rfl
theorem zzy : G.frz 519 = false := rfl
theorem z7x : G.frz 520 = false := rfl
theorem qoo : G.frz 521 = false := rfl
theorem z1f : G.frz 522 = false := rfl
theorem qqd : G.frz 523 = false := rfl
theorem qwc : G.frz 524 = false := rfl
theorem zey : G.frz 525 = false := rfl
theorem qss : G.frz 526 = false := rfl
theorem qz5 : G.frz 527 = false := rfl
theorem zh8 : G.frz 528 = false := rfl
theorem qjd : G.frz 529 = false := rfl
theorem qlb : G.frz 530 = false := rfl
theorem zlm : G.frz 531 = false := rfl
theorem z8q : G.frz 532 = false := rfl
theorem qz3 : G.frz 533 = false := rfl
theorem zuv : G.frz 534 = false := rfl
theorem zpt : G.frz 535 = false := rfl
theorem zmd : G.frz 536 = false := rfl
theorem zc4 : G.frz 537 = false := rfl
theorem mf1 : G.mrf 1 = false := rfl
theorem mf2 : G.mrf 2 = false := rfl
theorem mf3 : G.mrf 3 = false := rfl
theorem mf4 : G.mrf 4 = false := rfl
theorem mf5 : G.mrf 5 = false := rfl
theorem mf6 : G.mrf 6 = false := rfl
theorem mf7 : G.mrf 7 = false := rfl
theorem mf8 : G.mrf 8 = false := rfl
theorem mf9 : G.mrf 9 = false := rfl
theorem z3s : G.mrf 10 = false := rfl
theorem za5 : G.mrf 11 = false := rfl
theorem ztr : G.mrf 12 = false := rfl
theorem zbr : G.mrf 13 = false := rfl
theorem qzz : G.mrf 14 = false := rfl
theorem z9w : G.mrf 15 = false := rfl
theorem z4a : G.mrf 16 = false := rfl
theorem qu6 : G.mrf 17 = false := rfl
theorem zx3 : G.mrf 18 = false := rfl
theorem zr8 : G.mrf 19 = false := rfl
theorem zyv : G.mrf 20 = false := rfl
theorem x05 : G.mrf 21 = false := rfl
theorem x1p : G.mrf 22 = false := rfl
theorem ziu : G.mrf 23 = false := rfl
theorem qu1 : G.mrf 24 = false := rfl
theorem z5y : G.mrf 25 = false := rfl
theorem zx5 : G.mrf 26 = false := rfl
theorem zmt : G.mrf 27 = false := rfl
theorem zfb : G.mrf 28 = false := rfl
theorem qzv : G.mrf 30 = false := rfl
theorem qiy : G.mrf 32 = false := rfl
theorem qxm : G.mrf 33 = false := rfl
theorem zo3 : G.mrf 34 = false := rfl
theorem zh9 : G.mrf 35 = false := rfl
theorem zkt : G.mrf 36 = false := rfl
theorem qof : G.mrf 37 = false := rfl
theorem qvg : G.mrf 38 = false := rfl
theorem zy2 : G.mrf 40 = false := rfl
theorem zw9 : G.mrf 41 = false := rfl
theorem qs6 : G.mrf 42 = false := rfl
theorem z9e : G.mrf 43 = false := rfl
theorem zg0 : G.mrf 44 = false := rfl
theorem zal : G.mrf 45 = false := rfl
theorem qu9 : G.mrf 46 = false := rfl
theorem qj5 : G.mrf 47 = false := rfl
theorem qqx : G.mrf 48 = false := rfl
theorem qw3 : G.mrf 49 = false := rfl
theorem z5i : G.mrf 50 = false := rfl
theorem z0p : G.mrf 51 = false := rfl
theorem qth : G.mrf 52 = false := rfl
theorem zqp : G.mrf 53 = false := rfl
theorem z2o : G.mrf 54 = false := rfl
theorem qsv : G.mrf 55 = false := rfl
theorem qrh : G.mrf 56 = false := rfl
theorem qoz : G.mrf 58 = false := rfl
theorem zdp : G.mrf 59 = false := rfl
theorem zsi : G.mrf 60 = false := rfl
theorem zyx : G.mrf 61 = false := rfl
theorem zov : G.mrf 62 = false := rfl
theorem z2y : G.mrf 63 = false := rfl
theorem x06 : G.mrf 64 = false := rfl
theorem zne : G.mrf 65 = false := rfl
theorem qii : G.mrf 66 = false := rfl
theorem z7h : G.mrf 67 = false := rfl
theorem zd0 : G.mrf 68 = false := rfl
theorem ztz : G.mrf 69 = false := rfl
theorem zzc : G.mrf 71 = false := rfl
theorem zk2 : G.mrf 72 = false := rfl
theorem znv : G.mrf 73 = false := rfl
theorem zxm : G.mrf 74 = false := rfl
theorem zil : G.mrf 75 = false := rfl
theorem zz7 : G.mrf 76 = true := rfl
theorem zwx : G.mrf 77 = false := rfl
theorem z0j : G.mrf 78 = false := rfl
theorem z6u : G.mrf 79 = false := rfl
theorem qma : G.mrf 80 = false := rfl
theorem x12 : G.mrf 81 = false := rfl
theorem qnq : G.mrf 82 = false := rfl
theorem z4w : G.mrf 83 = false := rfl
theorem zcf : G.mrf 84 = false := rfl
theorem qod : G.mrf 85 = false := rfl
theorem qpn : G.mrf 86 = false := rfl
theorem x0p : G.mrf 87 = false := rfl
theorem qrk : G.mrf 88 = false := rfl
theorem z9u : G.mrf 89 = false := rfl
theorem zwv : G.mrf 90 = false := rfl
theorem zhu : G.mrf 91 = false := rfl
theorem zus : G.mrf 93 = false := rfl
theorem qo2 : G.mrf 94 = false := rfl
theorem zh4 : G.mrf 96 = false := rfl
theorem zlb : G.mrf 97 = false := rfl
theorem zh5 : G.mrf 99 = false := rfl
theorem qkw : G.mrf 100 = false := rfl
theorem z0y : G.mrf 101 = false := rfl
theorem z0l : G.mrf 102 = false := rfl
theorem zgu : G.mrf 103 = false := rfl
theorem zzp : G.mrf 104 = false := rfl
theorem zed : G.mrf 105 = false := rfl
theorem z6p : G.mrf 106 = false := rfl
theorem qs3 : G.mrf 107 = false := rfl
theorem zxn : G.mrf 109 = false := rfl
theorem zhb : G.mrf 110 = false := rfl
theorem zdj : G.mrf 111 = false := rfl
theorem zfh : G.mrf 112 = false := rfl
theorem zsh : G.mrf 114 = false := rfl
theorem zf7 : G.mrf 115 = false := rfl
theorem zrh : G.mrf 116 = false := rfl
theorem zcu : G.mrf 117 = false := rfl
theorem zam : G.mrf 118 = false := rfl
theorem zpu : G.mrf 119 = false := rfl
theorem qr8 : G.mrf 120 = false := rfl
theorem zj7 : G.mrf 121 = false := rfl
theorem zjz : G.mrf 122 = false := rfl
theorem zb1 : G.mrf 123 = false := rfl
theorem z9a : G.mrf 124 = false := rfl
theorem qng : G.mrf 125 = false := rfl
theorem x1w : G.mrf 127 = false := rfl
theorem z7v : G.mrf 128 = false := rfl
theorem z6k : G.mrf 129 = false := rfl
theorem ztk : G.mrf 130 = false := rfl
theorem qqw : G.mrf 131 = false := rfl
theorem qkh : G.mrf 132 = false := rfl
theorem qur : G.mrf 133 = false := rfl
theorem qxu : G.mrf 135 = false := rfl
theorem zca : G.mrf 136 = false := rfl
theorem zsy : G.mrf 137 = false := rfl
theorem z5x : G.mrf 138 = false := rfl
theorem zoy : G.mrf 139 = false := rfl
theorem qlk : G.mrf 140 = false := rfl
theorem zoc : G.mrf 141 = false := rfl
theorem z5d : G.mrf 142 = false := rfl
theorem zwe : G.mrf 143 = false := rfl
theorem z2j : G.mrf 144 = false := rfl
theorem z8b : G.mrf 145 = false := rfl
theorem zkl : G.mrf 147 = false := rfl
theorem qq4 : G.mrf 148 = false := rfl
theorem qo0 : G.mrf 150 = false := rfl
theorem qqt : G.mrf 151 = false := rfl
theorem z9f : G.mrf 152 = false := rfl
theorem zav : G.mrf 153 = false := rfl
theorem zbl : G.mrf 154 = false := rfl
theorem z2v : G.mrf 155 = false := rfl
theorem zkf : G.mrf 156 = false := rfl
theorem ziy : G.mrf 158 = false := rfl
theorem qkf : G.mrf 159 = false := rfl
theorem zo7 : G.mrf 160 = false := rfl
theorem z1u : G.mrf 161 = false := rfl
theorem qzf : G.mrf 163 = false := rfl
theorem qyy : G.mrf 164 = false := rfl
theorem zyr : G.mrf 165 = false := rfl
theorem qn2 : G.mrf 166 = false := rfl
theorem z2k : G.mrf 167 = false := rfl
theorem zir : G.mrf 168 = false := rfl
theorem zef : G.mrf 169 = false := rfl
theorem qwi : G.mrf 170 = false := rfl
theorem zyq : G.mrf 171 = false := rfl
theorem ze3 : G.mrf 172 = false := rfl
theorem zs9 : G.mrf 173 = false := rfl
theorem z7n : G.mrf 174 = false := rfl
theorem zlh : G.mrf 175 = false := rfl
theorem x02 : G.mrf 176 = false := rfl
theorem zrn : G.mrf 177 = false := rfl
theorem zk3 : G.mrf 178 = false := rfl
theorem zp2 : G.mrf 179 = false := rfl
theorem zdi : G.mrf 180 = false := rfl
theorem z4d : G.mrf 181 = false := rfl
theorem zfu : G.mrf 182 = false := rfl
theorem z3z : G.mrf 183 = false := rfl
theorem qux : G.mrf 184 = false := rfl
theorem zim : G.mrf 185 = false := rfl
theorem zm4 : G.mrf 186 = false := rfl
theorem zqc : G.mrf 188 = false := rfl
theorem zjc : G.mrf 189 = false := rfl
theorem zo8 : G.mrf 190 = false := rfl
theorem qlv : G.mrf 191 = false := rfl
theorem qoj : G.mrf 192 = false := rfl
theorem qkg : G.mrf 193 = false := rfl
theorem qjr : G.mrf 194 = false := rfl
theorem qvc : G.mrf 195 = false := rfl
theorem qwh : G.mrf 197 = false := rfl
theorem qyk : G.mrf 198 = false := rfl
theorem zwm : G.mrf 199 = false := rfl
theorem qx6 : G.mrf 200 = false := rfl
theorem zlu : G.mrf 201 = false := rfl
theorem zup : G.mrf 203 = false := rfl
theorem zwz : G.mrf 204 = false := rfl
theorem zzd : G.mrf 205 = false := rfl
theorem z1q : G.mrf 207 = false := rfl
theorem zkq : G.mrf 208 = false := rfl
theorem ziq : G.mrf 210 = false := rfl
theorem x0b : G.mrf 211 = false := rfl
theorem qo1 : G.mrf 212 = false := rfl
theorem zch : G.mrf 213 = false := rfl
theorem qou : G.mrf 214 = false := rfl
theorem x1g : G.mrf 215 = false := rfl
theorem qpr : G.mrf 216 = false := rfl
theorem zxa : G.mrf 218 = false := rfl
theorem zqj : G.mrf 219 = false := rfl
theorem qzj : G.mrf 220 = false := rfl
theorem zob : G.mrf 221 = false := rfl
theorem zbb : G.mrf 222 = false := rfl
theorem qwm : G.mrf 223 = false := rfl
theorem zhz : G.mrf 224 = false := rfl
theorem zt0 : G.mrf 225 = false := rfl
theorem z2g : G.mrf 226 = false := rfl
theorem zp1 : G.mrf 227 = false := rfl
theorem qya : G.mrf 228 = false := rfl
theorem zs8 : G.mrf 229 = false := rfl
theorem z8l : G.mrf 230 = false := rfl
theorem zmm : G.mrf 231 = false := rfl
theorem zv0 : G.mrf 232 = false := rfl
theorem zpp : G.mrf 233 = false := rfl
theorem zj8 : G.mrf 235 = false := rfl
theorem z4j : G.mrf 236 = false := rfl
theorem qsg : G.mrf 238 = false := rfl
theorem x1t : G.mrf 239 = false := rfl
theorem qzm : G.mrf 240 = false := rfl
theorem z7o : G.mrf 241 = false := rfl
theorem qts : G.mrf 242 = false := rfl
theorem qtf : G.mrf 243 = false := rfl
theorem qz6 : G.mrf 244 = false := rfl
theorem zvx : G.mrf 245 = false := rfl
theorem z4s : G.mrf 246 = false := rfl
theorem zmr : G.mrf 247 = false := rfl
theorem zvn : G.mrf 248 = false := rfl
theorem qrv : G.mrf 249 = false := rfl
theorem zdr : G.mrf 250 = false := rfl
theorem z5j : G.mrf 251 = false := rfl
theorem znq : G.mrf 252 = false := rfl
theorem zfi : G.mrf 253 = false := rfl
theorem qqz : G.mrf 254 = false := rfl
theorem zfy : G.mrf 255 = false := rfl
theorem zph : G.mrf 256 = false := rfl
theorem z02 : G.mrf 257 = false := rfl
theorem zww : G.mrf 258 = false := rfl
theorem zsu : G.mrf 259 = false := rfl
theorem zki : G.mrf 260 = false := rfl
theorem qp0 : G.mrf 261 = false := rfl
theorem zfk : G.mrf 262 = false := rfl
theorem zqs : G.mrf 263 = false := rfl
theorem zm6 : G.mrf 264 = false := rfl
theorem qlm : G.mrf 265 = false := rfl
theorem qvq : G.mrf 267 = false := rfl
theorem zut : G.mrf 268 = false := rfl
theorem zti : G.mrf 269 = false := rfl
theorem qms : G.mrf 270 = false := rfl
theorem qyi : G.mrf 271 = false := rfl
theorem zx9 : G.mrf 272 = false := rfl
theorem z4y : G.mrf 273 = false := rfl
theorem zo9 : G.mrf 274 = false := rfl
theorem zia : G.mrf 275 = false := rfl
theorem zsb : G.mrf 277 = false := rfl
theorem z4l : G.mrf 278 = false := rfl
theorem zro : G.mrf 279 = false := rfl
theorem z3l : G.mrf 280 = false := rfl
theorem qvi : G.mrf 281 = false := rfl
theorem qno : G.mrf 283 = false := rfl
theorem qsc : G.mrf 285 = false := rfl
theorem quk : G.mrf 286 = false := rfl
theorem z6a : G.mrf 287 = false := rfl
theorem qsx : G.mrf 288 = false := rfl
theorem qit : G.mrf 289 = false := rfl
theorem zc5 : G.mrf 290 = false := rfl
theorem qx1 : G.mrf 291 = false := rfl
theorem zmc : G.mrf 292 = false := rfl
theorem z6q : G.mrf 293 = false := rfl
theorem zl7 : G.mrf 294 = false := rfl
theorem qw9 : G.mrf 295 = false := rfl
theorem qna : G.mrf 296 = false := rfl
theorem zrx : G.mrf 297 = false := rfl
theorem zn0 : G.mrf 299 = false := rfl
theorem z4g : G.mrf 300 = false := rfl
theorem qwn : G.mrf 301 = false := rfl
theorem zhx : G.mrf 302 = false := rfl
theorem qsm : G.mrf 303 = false := rfl
theorem qio : G.mrf 304 = false := rfl
theorem qtp : G.mrf 305 = false := rfl
theorem z09 : G.mrf 306 = false := rfl
theorem zak : G.mrf 307 = false := rfl
theorem zqv : G.mrf 308 = false := rfl
theorem z5b : G.mrf 309 = false := rfl
theorem zqm : G.mrf 310 = false := rfl
theorem zn9 : G.mrf 311 = false := rfl
theorem zql : G.mrf 312 = false := rfl
theorem zij : G.mrf 314 = false := rfl
theorem qle : G.mrf 315 = false := rfl
theorem zgb : G.mrf 316 = false := rfl
theorem qlq : G.mrf 317 = false := rfl
theorem ztv : G.mrf 318 = false := rfl
theorem qz1 : G.mrf 319 = false := rfl
theorem z4h : G.mrf 320 = false := rfl
theorem x0o : G.mrf 321 = false := rfl
theorem zs2 : G.mrf 322 = false := rfl
theorem z2m : G.mrf 323 = false := rfl
theorem zjs : G.mrf 324 = false := rfl
theorem z13 : G.mrf 325 = false := rfl
theorem qtk : G.mrf 326 = false := rfl
theorem qmc : G.mrf 327 = false := rfl
theorem zja : G.mrf 328 = false := rfl
theorem qk7 : G.mrf 329 = false := rfl
theorem zxo : G.mrf 330 = false := rfl
theorem zx6 : G.mrf 331 = false := rfl
theorem z8d : G.mrf 332 = false := rfl
theorem zrg : G.mrf 333 = false := rfl
theorem zik : G.mrf 334 = false := rfl
theorem qrx : G.mrf 335 = false := rfl
theorem zvd : G.mrf 336 = false := rfl
theorem zw4 : G.mrf 337 = false := rfl
theorem z6s : G.mrf 338 = false := rfl
theorem qxg : G.mrf 339 = false := rfl
theorem zvi : G.mrf 341 = false := rfl
theorem z7a : G.mrf 342 = false := rfl
theorem qlg : G.mrf 343 = false := rfl
theorem z3x : G.mrf 344 = false := rfl
theorem qt9 : G.mrf 345 = false := rfl
theorem zsd : G.mrf 346 = false := rfl
theorem qjv : G.mrf 347 = false := rfl
theorem qj9 : G.mrf 348 = false := rfl
theorem zom : G.mrf 349 = false := rfl
theorem zaf : G.mrf 350 = false := rfl
theorem zfp : G.mrf 351 = true := rfl
theorem zmy : G.mrf 352 = false := rfl
theorem qsp : G.mrf 353 = false := rfl
theorem qjy : G.mrf 354 = true := rfl
theorem z06 : G.mrf 355 = false := rfl
theorem x18 : G.mrf 356 = false := rfl
theorem qta : G.mrf 357 = false := rfl
theorem z0t : G.mrf 358 = false := rfl
theorem zfl : G.mrf 359 = false := rfl
theorem z0n : G.mrf 360 = false := rfl
theorem qsq : G.mrf 361 = false := rfl
theorem zbq : G.mrf 362 = false := rfl
theorem ztu : G.mrf 363 = false := rfl
theorem zb0 : G.mrf 364 = false := rfl
theorem qt3 : G.mrf 365 = false := rfl
theorem qm4 : G.mrf 366 = false := rfl
theorem qz7 : G.mrf 367 = false := rfl
theorem qku : G.mrf 368 = false := rfl
theorem zwr : G.mrf 369 = false := rfl
theorem qn5 : G.mrf 370 = false := rfl
theorem zbi : G.mrf 371 = false := rfl
theorem z4c : G.mrf 372 = false := rfl
theorem zz4 : G.mrf 374 = false := rfl
theorem z4e : G.mrf 375 = false := rfl
theorem zyt : G.mrf 376 = false := rfl
theorem ze4 : G.mrf 377 = false := rfl
theorem qw0 : G.mrf 379 = false := rfl
theorem zwh : G.mrf 380 = true := rfl
theorem zbg : G.mrf 381 = false := rfl
theorem qk8 : G.mrf 382 = false := rfl
theorem zq5 : G.mrf 383 = false := rfl
theorem qj3 : G.mrf 385 = false := rfl
theorem zlk : G.mrf 386 = false := rfl
theorem zr4 : G.mrf 387 = false := rfl
theorem qp7 : G.mrf 389 = false := rfl
theorem zoi : G.mrf 390 = false := rfl
theorem zbs : G.mrf 391 = false := rfl
theorem qzt : G.mrf 392 = false := rfl
theorem z5p : G.mrf 393 = false := rfl
theorem zwa : G.mrf 394 = false := rfl
theorem zcz : G.mrf 395 = false := rfl
theorem zt3 : G.mrf 396 = false := rfl
theorem zw6 : G.mrf 397 = false := rfl
theorem zxr : G.mrf 398 = false := rfl
theorem qt8 : G.mrf 399 = false := rfl
theorem qtj : G.mrf 400 = false := rfl
theorem z0h : G.mrf 401 = false := rfl
theorem z14 : G.mrf 402 = false := rfl
theorem qx9 : G.mrf 403 = false := rfl
theorem zt2 : G.mrf 404 = false := rfl
theorem qwa : G.mrf 405 = false := rfl
theorem z6t : G.mrf 406 = false := rfl
theorem qiu : G.mrf 408 = false := rfl
theorem qy5 : G.mrf 410 = false := rfl
theorem z3u : G.mrf 411 = false := rfl
theorem z9l : G.mrf 412 = false := rfl
theorem zsf : G.mrf 413 = false := rfl
theorem zhe : G.mrf 414 = false := rfl
theorem qxw : G.mrf 415 = false := rfl
theorem zaj : G.mrf 416 = false := rfl
theorem qo6 : G.mrf 417 = false := rfl
theorem qx2 : G.mrf 418 = false := rfl
theorem z9z : G.mrf 419 = false := rfl
theorem zaw : G.mrf 421 = false := rfl
theorem qk9 : G.mrf 422 = false := rfl
theorem qtv : G.mrf 424 = false := rfl
theorem zv1 : G.mrf 426 = false := rfl
theorem z6f : G.mrf 427 = false := rfl
theorem x0n : G.mrf 428 = false := rfl
theorem zlj : G.mrf 429 = false := rfl
theorem zcm : G.mrf 430 = false := rfl
theorem z3h : G.mrf 431 = false := rfl
theorem x0s : G.mrf 432 = false := rfl
theorem x0r : G.mrf 433 = false := rfl
theorem qzx : G.mrf 435 = false := rfl
theorem qvp : G.mrf 436 = false := rfl
theorem zs4 : G.mrf 437 = false := rfl
theorem z6d : G.mrf 438 = false := rfl
theorem zfq : G.mrf 439 = false := rfl
theorem qir : G.mrf 440 = false := rfl
theorem zd4 : G.mrf 441 = false := rfl
theorem zk4 : G.mrf 442 = false := rfl
theorem qt5 : G.mrf 443 = false := rfl
theorem qvo : G.mrf 444 = false := rfl
theorem zpy : G.mrf 445 = false := rfl
theorem zbp : G.mrf 446 = false := rfl
theorem z6g : G.mrf 447 = false := rfl
theorem qzq : G.mrf 449 = false := rfl
theorem zgy : G.mrf 450 = false := rfl
theorem qzl : G.mrf 451 = false := rfl
theorem qrw : G.mrf 452 = false := rfl
theorem zd2 : G.mrf 453 = false := rfl
theorem z1j : G.mrf 454 = false := rfl
theorem qzu : G.mrf 456 = false := rfl
theorem zl2 : G.mrf 458 = false := rfl
theorem x16 : G.mrf 459 = false := rfl
theorem qtw : G.mrf 460 = false := rfl
theorem znb : G.mrf 461 = false := rfl
theorem zft : G.mrf 462 = false := rfl
theorem znd : G.mrf 464 = false := rfl
theorem z1b : G.mrf 465 = false := rfl
theorem qye : G.mrf 466 = false := rfl
theorem zot : G.mrf 467 = false := rfl
theorem zf6 : G.mrf 468 = false := rfl
theorem x08 : G.mrf 469 = false := rfl
theorem ql4 : G.mrf 470 = false := rfl
theorem zrz : G.mrf 471 = false := rfl
theorem zqq : G.mrf 472 = false := rfl
theorem x0j : G.mrf 473 = false := rfl
theorem zrk : G.mrf 474 = false := rfl
theorem zcg : G.mrf 475 = false := rfl
theorem z7w : G.mrf 476 = false := rfl
theorem z3j : G.mrf 477 = false := rfl
theorem zyw : G.mrf 478 = false := rfl
theorem za7 : G.mrf 479 = false := rfl
theorem z5k : G.mrf 480 = false := rfl
theorem zm7 : G.mrf 482 = false := rfl
theorem zbz : G.mrf 483 = false := rfl
theorem zt9 : G.mrf 484 = false := rfl
theorem zul : G.mrf 485 = false := rfl
theorem qv9 : G.mrf 486 = false := rfl
theorem z7b : G.mrf 487 = false := rfl
theorem z7m : G.mrf 488 = false := rfl
theorem zie : G.mrf 489 = false := rfl
theorem zgd : G.mrf 490 = false := rfl
theorem zcj : G.mrf 491 = false := rfl
theorem zfj : G.mrf 492 = false := rfl
theorem qj1 : G.mrf 493 = false := rfl
theorem qw1 : G.mrf 494 = false := rfl
theorem z8e : G.mrf 496 = false := rfl
theorem qm5 : G.mrf 497 = false := rfl
theorem qqn : G.mrf 498 = false := rfl
theorem zj0 : G.mrf 499 = false := rfl
theorem z0i : G.mrf 500 = false := rfl
theorem z15 : G.mrf 501 = false := rfl
theorem qyv : G.mrf 502 = false := rfl
theorem qw4 : G.mrf 503 = false := rfl
theorem qnr : G.mrf 504 = false := rfl
theorem qst : G.mrf 505 = false := rfl
theorem qwd : G.mrf 507 = false := rfl
theorem qmd : G.mrf 508 = false := rfl
theorem z7d : G.mrf 509 = false := rfl
theorem qum : G.mrf 510 = false := rfl
theorem zai : G.mrf 511 = false := rfl
theorem zr3 : G.mrf 512 = false := rfl
theorem qmr : G.mrf 514 = false := rfl
theorem zyj : G.mrf 515 = false := rfl
theorem zi7 : G.mrf 517 = false := rfl
theorem qw2 : G.mrf 518 = false := rfl
theorem zow : G.mrf 519 = false := rfl
theorem zis : G.mrf 520 = false := rfl
theorem zuk : G.mrf 521 = false := rfl
theorem zej : G.mrf 522 = false := rfl
theorem qr9 : G.mrf 523 = false := rfl
theorem ztn : G.mrf 524 = false := rfl
theorem zio : G.mrf 525 = false := rfl
theorem z2i : G.mrf 526 = false := rfl
theorem ql9 : G.mrf 527 = false := rfl
theorem qyp : G.mrf 528 = false := rfl
theorem qja : G.mrf 529 = false := rfl
theorem z2w : G.mrf 530 = false := rfl
theorem qpj : G.mrf 531 = false := rfl
theorem qq9 : G.mrf 532 = false := rfl
theorem qxh : G.mrf 533 = false := rfl
theorem qxa : G.mrf 534 = false := rfl
theorem zas : G.mrf 535 = false := rfl
theorem qzc : G.mrf 536 = false := rfl
theorem z98 : G.mrf 537 = false := rfl
theorem ti3 : G.ti 3 = some ⟨1,8,.int .i64,[.int .i64 0],false,none⟩ := by kernel_rfl
theorem ti4 : G.ti 4 = some ⟨1,1,.bool,[.bool false],false,none⟩ := by kernel_rfl
theorem ti5 : G.ti 5 = some ⟨1,1,.int .u8,[.int .u8 0],false,none⟩ := by kernel_rfl
theorem ti9 : G.ti 9 = some ⟨1,16,.string,[.str []],false,none⟩ := by kernel_rfl
theorem qup : G.ti 22 = some ⟨1,24,.slice 37,[.sl true 0 []],false,none⟩ := by kernel_rfl
theorem zkm : G.ti 23 = some ⟨1,24,.slice 45,[.sl true 0 []],false,none⟩ := by kernel_rfl
theorem znn : G.ti 24 = some ⟨1,24,.slice 5,[.sl true 0 []],false,none⟩ := by kernel_rfl
theorem zjj : G.ti 28 = some ⟨1,8,.int .i64,[.int .i64 0],false,none⟩ := by kernel_rfl
theorem qo4 : G.ti 36 = some ⟨1,24,.slice 9,[.sl true 0 []],false,none⟩ := by kernel_rfl
theorem zee : G.ti 37 = some ⟨1,4,.int .u32,[.int .u32 0],false,none⟩ := by kernel_rfl
theorem z0a : G.ti 42 = some ⟨1,24,.slice 53,[.sl true 0 []],false,none⟩ := by kernel_rfl
theorem x2b : G.ti 43 = some ⟨1,24,.slice 56,[.sl true 0 []],false,none⟩ := by kernel_rfl
theorem zh2 : G.ti 45 = some ⟨7,104,.struct [(0,1,3),(1,1,9),(2,1,9),(3,1,3),(4,1,4),(5,1,42),(6,1,43)],[.int .i64 0,.str [],.str [],.int .i64 0,.bool false,.sl true 0 [],.sl true 0 []],true,none⟩ := by kernel_rfl
theorem zc6 : G.ti 51 = some ⟨2,16,.struct [(0,1,3),(1,1,3)],[.int .i64 0,.int .i64 0],true,none⟩ := by kernel_rfl
theorem x0y : G.ti 53 = some ⟨3,32,.struct [(0,2,51),(2,1,9)],[.int .i64 0,.int .i64 0,.str []],true,none⟩ := by kernel_rfl
theorem zgq : G.ti 56 = some ⟨2,16,.struct [(0,1,3),(1,1,3)],[.int .i64 0,.int .i64 0],true,none⟩ := by kernel_rfl
theorem qmt : G.ti 61 = some ⟨2,32,.struct [(0,1,24),(1,1,3)],[.sl true 0 [],.int .i64 0],true,none⟩ := by kernel_rfl
theorem z0s : G.ti 63 = some ⟨3,40,.struct [(0,2,61),(2,1,4)],[.sl true 0 [],.int .i64 0,.bool false],true,none⟩ := by kernel_rfl
theorem zce : G.ti 68 = some ⟨1,8,.int .u64,[.int .u64 0],false,none⟩ := by kernel_rfl
theorem qti : G.ti 124 = some ⟨1,24,.slice 3,[.sl true 0 []],false,none⟩ := by kernel_rfl
theorem fn5 : G.fn 5 = some ⟨Tryz.f5.ntmps,Tryz.f5.results.toList,Tryz.f5.body.get!⟩ := by kernel_rfl
theorem fn9 : G.fn 9 = some ⟨Tryz.f9.ntmps,Tryz.f9.results.toList,Tryz.f9.body.get!⟩ := by kernel_rfl
theorem q2y : G.fn 10 = some ⟨Tryz.f10.ntmps,Tryz.f10.results.toList,Tryz.f10.body.get!⟩ := by kernel_rfl
theorem qok : G.fn 13 = some ⟨Tryz.f13.ntmps,Tryz.f13.results.toList,Tryz.f13.body.get!⟩ := by kernel_rfl
theorem qd6 : G.fn 15 = some ⟨Tryz.f15.ntmps,Tryz.f15.results.toList,Tryz.f15.body.get!⟩ := by kernel_rfl
theorem zif : G.fn 19 = some ⟨Tryz.f19.ntmps,Tryz.f19.results.toList,Tryz.f19.body.get!⟩ := by kernel_rfl
theorem zw : G.fn 20 = some ⟨Tryz.f20.ntmps,Tryz.f20.results.toList,Tryz.f20.body.get!⟩ := by kernel_rfl
theorem q64 : G.fn 21 = some ⟨Tryz.f21.ntmps,Tryz.f21.results.toList,Tryz.f21.body.get!⟩ := by kernel_rfl
theorem xu : G.fn 22 = some ⟨Tryz.f22.ntmps,Tryz.f22.results.toList,Tryz.f22.body.get!⟩ := by kernel_rfl
theorem qam : G.fn 31 = some ⟨Tryz.f31.ntmps,Tryz.f31.results.toList,Tryz.f31.body.get!⟩ := by kernel_rfl
theorem q68 : G.fn 33 = some ⟨Tryz.f33.ntmps,Tryz.f33.results.toList,Tryz.f33.body.get!⟩ := by kernel_rfl
theorem z5c : G.fn 34 = some ⟨Tryz.f34.ntmps,Tryz.f34.results.toList,Tryz.f34.body.get!⟩ := by kernel_rfl
theorem q65 : G.fn 35 = some ⟨Tryz.f35.ntmps,Tryz.f35.results.toList,Tryz.f35.body.get!⟩ := by kernel_rfl
theorem qfi : G.fn 36 = some ⟨Tryz.f36.ntmps,Tryz.f36.results.toList,Tryz.f36.body.get!⟩ := by kernel_rfl
theorem q6y : G.fn 37 = some ⟨Tryz.f37.ntmps,Tryz.f37.results.toList,Tryz.f37.body.get!⟩ := by kernel_rfl
theorem qeq : G.fn 38 = some ⟨Tryz.f38.ntmps,Tryz.f38.results.toList,Tryz.f38.body.get!⟩ := by kernel_rfl
theorem qbp : G.fn 39 = some ⟨Tryz.f39.ntmps,Tryz.f39.results.toList,Tryz.f39.body.get!⟩ := by kernel_rfl
theorem qa8 : G.fn 40 = some ⟨Tryz.f40.ntmps,Tryz.f40.results.toList,Tryz.f40.body.get!⟩ := by kernel_rfl
theorem qh9 : G.fn 41 = some ⟨Tryz.f41.ntmps,Tryz.f41.results.toList,Tryz.f41.body.get!⟩ := by kernel_rfl
theorem qgv : G.fn 42 = some ⟨Tryz.f42.ntmps,Tryz.f42.results.toList,Tryz.f42.body.get!⟩ := by kernel_rfl
theorem q57 : G.fn 43 = some ⟨Tryz.f43.ntmps,Tryz.f43.results.toList,Tryz.f43.body.get!⟩ := by kernel_rfl
theorem q0e : G.fn 60 = some ⟨Tryz.f60.ntmps,Tryz.f60.results.toList,Tryz.f60.body.get!⟩ := by kernel_rfl
theorem qad : G.fn 61 = some ⟨Tryz.f61.ntmps,Tryz.f61.results.toList,Tryz.f61.body.get!⟩ := by kernel_rfl
end Go.Proofs.YtaglodpkpggdiaaGreatDoor
