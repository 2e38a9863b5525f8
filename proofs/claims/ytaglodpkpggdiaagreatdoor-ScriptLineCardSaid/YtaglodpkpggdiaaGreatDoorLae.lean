/-
  The tables of the program as the machine reads it.
-/
import Derived.Test.YtaglodpkpggdiaaGreatDoorRows
import Derived.Test.YtaglodpkpggdiaaGreatDoorLad
set_option linter.unusedSimpArgs false
set_option linter.unusedVariables false
namespace Go.Proofs.YtaglodpkpggdiaaGreatDoor
open Go Go.Gm
def spec : FuncId → Nat → jq
 | 5,0 => ⟨[1,5,6,7,8],[1,5,6,7],[6],[],[],0⟩
 | 5,2 => ⟨[1,15],[1,15],[],[],[],0⟩
 | 6,0 => ⟨[1,2,7],[6],[],[],[],0⟩
 | 6,2 => ⟨[1,2,7,8],[1,2,7],[],[],[],0⟩
 | 8,0 => ⟨[0,3,4],[3],[3],[],[],0⟩
 | 8,3 => ⟨[0,3,4,5,6],[0,3,4,5],[],[(5,5)],[],0⟩
 | 8,5 => ⟨[0,3,4,5,8],[0,3,4,5],[],[(5,6)],[],0⟩
 | 9,0 => ⟨[1,6,15,16,17],[1,6],[6],[],[],0⟩
 | 9,2 => ⟨[1,6,30,31,32],[1,4,5,6],[6],[],[],0⟩
 | 10,0 => ⟨[0,6,7,8,9],[2,3,4,5,6,7,8,9],[8],[],[],0⟩
 | 11,0 => ⟨[0,1,5],[4],[],[],[],0⟩
 | 12,0 => ⟨[0,1,5],[4],[],[],[],0⟩
 | 14,0 => ⟨[9,10,34,35,36],[10],[],[],[],1000⟩
 | 16,0 => ⟨[0,1,5],[4],[],[],[],0⟩
 | 17,0 => ⟨[1,2,7],[6],[],[],[],0⟩
 | 18,0 => ⟨[0,3,4],[3],[],[],[],1000⟩
 | 20,1 => ⟨[4,5,6,82,83,84],[4,5,6],[],[],[],0⟩
 | 20,3 => ⟨[4,5,6,119,120,121],[4,5,6],[],[],[],0⟩
 | 21,0 => ⟨[0,3],[0,3],[3],[],[],0⟩
 | 22,1 => ⟨[0,2,3],[0,2,3],[],[(3,5)],[],0⟩
 | 22,3 => ⟨[0,2,3],[0,2,3],[],[(3,6)],[],0⟩
 | 23,0 => ⟨[0,1,5],[4],[],[],[],0⟩
 | 24,0 => ⟨[0,1,5],[4],[],[],[],0⟩
 | 25,0 => ⟨[0,6,15,16,17],[0,4,5,6],[],[],[],1000⟩
 | 28,0 => ⟨[0,5,28,29,30],[0,5],[],[],[],1000⟩
 | 28,2 => ⟨[0,46,47,48],[0],[],[],[],1000⟩
 | 28,4 => ⟨[0,9,10,46,47,48,53,54,55],[0,9,10,46,47,48],[],[],[],1000⟩
 | 31,0 => ⟨[0,3],[3],[],[],[],0⟩
 | 33,0 => ⟨[5,6,7],[2],[],[],[],0⟩
 | 35,0 => ⟨[0,5,6,7],[2],[],[],[],0⟩
 | 37,0 => ⟨[0,3],[0,3],[],[],[],0⟩
 | 58,0 => ⟨[1,2,3,7,8,9],[1,2,3],[3],[],[],1000⟩
 | 60,0 => ⟨[0,4,5,6],[0,2,3,4,5,6],[],[],[],0⟩
 | 62,0 => ⟨[0,3],[0,2],[],[],[],1000⟩
 | 64,0 => ⟨[0,1,7,8],[4],[],[],[],1000⟩
 | 66,0 => ⟨[0,6,12,13,14],[0,4,5,6],[6],[],[],1000⟩
 | 69,0 => ⟨[0,1,14,15,16],[1,4,5],[],[],[],1000⟩
 | 71,0 => ⟨[1,2,4,11,13,37,38,39],[4,11],[],[],[],1000⟩
 | 76,0 => ⟨[1,5,13,14,15],[5],[5],[],[],1000⟩
 | 77,0 => ⟨[0,1,5,20,21,22],[5],[5],[],[],1000⟩
 | 77,2 => ⟨[12,73,74,75],[12],[12],[],[],1000⟩
 | 84,0 => ⟨[0,1,7,9,10],[0,1,7,9],[],[],[],1000⟩
 | 84,2 => ⟨[0,1,7,11,65,66,67],[0,1,7],[],[],[],1000⟩
 | 85,0 => ⟨[0,1,4,5],[0,1,4,5],[],[],[],1000⟩
 | 85,2 => ⟨[0,1,4,5,6],[0,1,4,5,6],[],[],[],1000⟩
 | 87,0 => ⟨[1,2,3,10,11,12],[1,2,3],[3],[],[],1000⟩
 | 87,2 => ⟨[1,2,3,5,6,10,11,12,17,18,19],[1,2,3,5,6,10,11,12],[6],[],[],1000⟩
 | 91,0 => ⟨[0,1,2,3],[1,3],[],[],[],1000⟩
 | 94,0 => ⟨[4,14,15,16],[4],[4],[],[],1000⟩
 | 99,0 => ⟨[3,6,42,43,44],[2],[],[],[],1000⟩
 | 99,2 => ⟨[3,6,7,8,9,42,43,44,54,55,56],[2,3,8,42,43,44],[],[],[],1000⟩
 | 100,0 => ⟨[0,1,7,8,9],[0,1,4],[],[],[],1000⟩
 | 101,0 => ⟨[3,14,15,16],[3],[],[(3,2)],[],1000⟩
 | 102,0 => ⟨[0,1],[],[],[],[],1000⟩
 | 103,0 => ⟨[0,14,15,16],[],[],[],[2000],1000⟩
 | 104,0 => ⟨[0,3],[2],[],[],[],1000⟩
 | 104,2 => ⟨[0,3,4],[0,2,3],[],[],[],1000⟩
 | 104,4 => ⟨[0,3,4,44,45,46],[0,2,3,4],[],[],[],1000⟩
 | 105,0 => ⟨[0,2,11,12],[],[],[],[],1000⟩
 | 105,2 => ⟨[0,2,3,4,11,12,34,35,36],[0,3,4,11,12],[],[(4,1),(4,2)],[],1000⟩
 | 106,0 => ⟨[0,2,3,9,10,11],[0,2,3],[3],[],[],1000⟩
 | 108,0 => ⟨[3,10,11,12],[3],[3],[],[],1000⟩
 | 108,2 => ⟨[6,28,29,30],[6],[6],[],[],1000⟩
 | 109,0 => ⟨[0,1,6,7],[0,1,6,7],[7],[],[],1000⟩
 | 110,0 => ⟨[3,7,8,9],[3],[],[],[],1000⟩
 | 111,0 => ⟨[3,6,7,8],[3],[3],[],[],1000⟩
 | 113,0 => ⟨[1,2,11,12,13,39,40,41],[6,7,8,12,13],[12,13],[],[],1000⟩
 | 115,0 => ⟨[1,4,5,6,13,14,15],[4,5],[],[(5,1)],[],1000⟩
 | 115,2 => ⟨[1,4,5,6,8,9,10,13,14,15,36,37,38],[1,4,5,6,8,10,13,14,15],[],[(10,2)],[],1000⟩
 | 117,0 => ⟨[1,2,4,6,7,23,24,25],[1,2,4,6,7],[7],[],[],1000⟩
 | 119,0 => ⟨[0,9,10,11],[4,5],[],[],[],1000⟩
 | 120,0 => ⟨[0,13,14,15],[4,5],[],[],[],1000⟩
 | 121,0 => ⟨[1,2,6,7,14,15,16],[6,7],[6],[],[],1000⟩
 | 121,2 => ⟨[1,2,6,7,10,14,15,16,21,22,23],[1,2,6,7,14,15,16],[6],[],[],1000⟩
 | 122,0 => ⟨[0,7,8,9,23,24,25],[7],[7],[],[],1000⟩
 | 127,0 => ⟨[0,1,5,15,16,17],[0,1,4,5],[5],[],[],1000⟩
 | 127,2 => ⟨[0,1,35,36,37],[],[],[],[],1000⟩
 | 128,0 => ⟨[1,5,8,9,10],[5],[5],[],[1],1000⟩
 | 134,0 => ⟨[0,1,4],[0,1,4],[],[],[],1000⟩
 | 135,0 => ⟨[0,1,3,4,10,11,12,13,14,15,16],[0,1,3,4,10,11,12,13],[],[],[],1000⟩
 | 135,2 => ⟨[0,1,3,4,10,11,12,13,17],[0,1,3,4,10,11,12,13],[],[],[],1000⟩
 | 136,0 => ⟨[0],[0],[],[],[],1000⟩
 | 137,0 => ⟨[0],[0],[],[],[],1000⟩
 | 144,0 => ⟨[3,6,7,8],[2,3],[],[],[],1000⟩
 | 148,0 => ⟨[0,1],[1],[],[],[],1000⟩
 | 149,0 => ⟨[0,1],[1],[],[],[],1000⟩
 | 153,0 => ⟨[0,1],[0,1],[],[],[],1000⟩
 | 153,2 => ⟨[0,1],[1],[],[],[],1000⟩
 | 154,0 => ⟨[0,1],[0,1],[],[],[],1000⟩
 | 154,2 => ⟨[0,1],[1],[],[],[],1000⟩
 | 156,0 => ⟨[0,1,12,13],[4],[],[],[],1000⟩
 | 157,0 => ⟨[2,5,18,19,20],[4],[],[],[18],1000⟩
 | 159,0 => ⟨[0,5,10,11,12],[5],[5],[],[],1000⟩
 | 159,2 => ⟨[0,5,10,11,12,17,18,19],[0,5,10,11,12],[5],[],[],1000⟩
 | 160,0 => ⟨[3,10,11,12],[2],[],[],[],1000⟩
 | 161,0 => ⟨[3,6,7,8],[3],[3],[],[],1000⟩
 | 162,0 => ⟨[0,7,8,9],[0],[],[],[],1000⟩
 | 163,0 => ⟨[2,9,10,11],[4],[],[],[],1000⟩
 | 164,0 => ⟨[0,2,3],[],[],[],[],1000⟩
 | 165,0 => ⟨[2,3,11,12,13],[4,5],[],[],[],1000⟩
 | 165,2 => ⟨[2,3,6,11,12,13,19,20,21],[2,3,4,5,11,12,13],[],[],[],1000⟩
 | 166,0 => ⟨[0,1,5,10,12,13,14],[0,1,5,10,12],[],[],[],1000⟩
 | 166,2 => ⟨[0,1,5,10,12,91,92,93],[0,10],[],[],[],1000⟩
 | 167,0 => ⟨[1,3,12,13,14],[1,3],[],[],[1],1000⟩
 | 167,2 => ⟨[1,3,6],[6],[6],[],[],1000⟩
 | 168,0 => ⟨[0,1,2,3,9,10,11,47,48,49],[0,1,2,3,9,10,11],[],[],[],1000⟩
 | 168,2 => ⟨[0,1,2,3,15,16,17],[8],[],[],[],1000⟩
 | 175,0 => ⟨[0,1,7,8,9],[4],[],[],[],1000⟩
 | 177,0 => ⟨[10,12],[10,12],[],[],[],1000⟩
 | 180,0 => ⟨[3,11,12,13],[3],[],[],[],1000⟩
 | 180,2 => ⟨[3,11,12,13,18,19,20],[3,11,12,13],[],[],[],1000⟩
 | 181,0 => ⟨[2,3,12,13,14],[2,3],[],[(3,2)],[],1000⟩
 | 181,2 => ⟨[2,3,6,12,13,14,23,24],[2,3,6,12,13,14],[],[],[],1000⟩
 | 183,0 => ⟨[0,2,3],[],[],[],[],1000⟩
 | 190,0 => ⟨[0,1,14,15,16],[0],[],[],[],1000⟩
 | 191,0 => ⟨[1,2,3,11,12,13],[1,2,3],[3],[],[],1000⟩
 | 199,0 => ⟨[0,2,3,4],[2,3],[],[],[],1000⟩
 | 201,0 => ⟨[0,1,2,6,7,8],[0,1,2,6,7],[],[],[],1000⟩
 | 201,2 => ⟨[0,1,2,6],[],[],[],[],1000⟩
 | 201,4 => ⟨[0,1,2,6,7,8],[0,1,2,6,7],[],[],[],1000⟩
 | 206,0 => ⟨[1,2,7,8],[6,7],[],[],[],1000⟩
 | 211,0 => ⟨[1,2,5],[1,2,4],[],[],[],1000⟩
 | 216,0 => ⟨[7,8],[7],[],[],[],1000⟩
 | 217,0 => ⟨[5,6,12,13,14,34,35,36],[12,14],[],[(14,1),(14,2)],[],1000⟩
 | 220,0 => ⟨[1,2,5,12,13,14],[5],[],[],[],1000⟩
 | 220,2 => ⟨[1,2,5,7,8,12,13,14],[1,2,5,12,13,14],[],[],[],1000⟩
 | 221,0 => ⟨[0,1,7,8],[4],[],[],[],1000⟩
 | 223,0 => ⟨[1,2,3,7,8,9,10],[7,8,9],[],[],[],1000⟩
 | 224,0 => ⟨[1,3,10,12,13,40,41,42],[1,6,7,8,10,12,13],[12],[],[],1000⟩
 | 224,2 => ⟨[1,3,10,12,13,15,16,40,41,42,52,53,54],[1,3,10,12,13,15,16,40,41,42],[16],[],[],1000⟩
 | 224,4 => ⟨[1,3,10,12,15,16,40,41,42,74,75,76],[1,3,10,12,15,40,41,42],[12],[],[],1000⟩
 | 225,0 => ⟨[0,1,2,6,7,8],[0,1,2,6,7],[],[],[],1000⟩
 | 225,2 => ⟨[0,1,2,6],[],[],[],[],1000⟩
 | 225,4 => ⟨[0,1,2,6,7,8],[0,1,2,6,7],[],[],[],1000⟩
 | 231,0 => ⟨[0,5,6],[0,5,6],[],[],[],1000⟩
 | 231,2 => ⟨[0,5,6],[0,5,6],[],[],[],1000⟩
 | 232,0 => ⟨[0,8,9,10],[4,5],[],[],[],1000⟩
 | 234,0 => ⟨[0,5,8,9,10],[5],[5],[],[],1000⟩
 | 235,0 => ⟨[0,6,7,8],[],[],[],[],1000⟩
 | 236,0 => ⟨[0,2,9,10,11],[6],[],[],[],1000⟩
 | 237,0 => ⟨[0,1,2,12,13],[1,6,7],[1],[],[],1000⟩
 | 238,0 => ⟨[0,1,5,6,12,13,14],[0,1,5,6],[],[],[],1000⟩
 | 238,2 => ⟨[0,1,5,6,37,38,39],[0,1,6],[],[],[],1000⟩
 | 239,0 => ⟨[0,1,3,4,17,18,19],[1],[1],[],[],1000⟩
 | 239,2 => ⟨[0,1,3,4,12,14,17,18,19,52,53,54],[0,1,3,4,12,14,17,18,19],[],[(14,17)],[],1000⟩
 | 240,0 => ⟨[0,1,2,6,7,8],[0,1,2,6,7],[],[],[],1000⟩
 | 240,2 => ⟨[0,1,2,6],[],[],[],[],1000⟩
 | 240,4 => ⟨[0,1,2,6,7,8],[0,1,2,6,7],[],[],[],1000⟩
 | 247,0 => ⟨[0,1,2,3,8],[],[],[],[],1000⟩
 | 247,2 => ⟨[0,1,2,3,8,9],[0,1,2,3,8],[],[],[],1000⟩
 | 248,0 => ⟨[0,1,4,10,11],[0,1,10],[],[],[],1000⟩
 | 248,2 => ⟨[0,10,13],[],[],[],[],1000⟩
 | 248,4 => ⟨[0,2,4,14,15],[0,2,14],[],[],[],1000⟩
 | 248,6 => ⟨[0,14,17],[],[],[],[],1000⟩
 | 248,8 => ⟨[0,1,2,3,4,18,19,20,21,22],[0,1,2,3,4,18,19,20],[],[],[],1000⟩
 | 249,0 => ⟨[1,4,6,7],[4,5,6],[],[],[],1000⟩
 | 251,0 => ⟨[0,1,7,8],[0,6],[],[],[],1000⟩
 | 255,0 => ⟨[0,1,7,8],[4],[],[],[],1000⟩
 | 257,0 => ⟨[1,2,4,5,10,11,19,20,21],[1,2,4,5,10,11],[],[(11,3)],[],1000⟩
 | 257,2 => ⟨[10,11,71,72,73],[10,11],[],[],[],1000⟩
 | 258,0 => ⟨[0,2,3,4,6,10,12,13,14,32,33,34],[10,12,13],[13],[(12,2)],[],1000⟩
 | 261,0 => ⟨[0,5],[],[],[],[],1000⟩
 | 265,0 => ⟨[1,5,12,13,14],[5],[],[],[],1000⟩
 | 266,0 => ⟨[0,1,2,3,8],[],[],[],[],1000⟩
 | 266,2 => ⟨[0,1,2,3,8,9],[0,1,2,3,8],[],[],[],1000⟩
 | 267,0 => ⟨[0,1,4,10,11],[0,1,10],[],[],[],1000⟩
 | 267,2 => ⟨[0,10,13],[],[],[],[],1000⟩
 | 267,4 => ⟨[0,2,4,14,15],[0,2,14],[],[],[],1000⟩
 | 267,6 => ⟨[0,14,17],[],[],[],[],1000⟩
 | 267,8 => ⟨[0,1,2,3,4,18,19,20,21,22],[0,1,2,3,4,18,19,20],[],[],[],1000⟩
 | 270,0 => ⟨[0,4,5],[0,2,3,4,5],[],[],[],1000⟩
 | 271,0 => ⟨[0,4],[0,4],[],[],[],1000⟩
 | 282,0 => ⟨[0,1,2,3,8],[],[],[],[],1000⟩
 | 282,2 => ⟨[0,1,2,3,8,9],[0,1,2,3,8],[],[],[],1000⟩
 | 283,0 => ⟨[0,1,4,10,11],[0,1,10],[],[],[],1000⟩
 | 283,2 => ⟨[0,10,13],[],[],[],[],1000⟩
 | 283,4 => ⟨[0,2,4,14,15],[0,2,14],[],[],[],1000⟩
 | 283,6 => ⟨[0,14,17],[],[],[],[],1000⟩
 | 283,8 => ⟨[0,1,2,3,4,18,19,20,21,22],[0,1,2,3,4,18,19,20],[],[],[],1000⟩
 | 284,0 => ⟨[0,5],[],[],[],[],1000⟩
 | 285,0 => ⟨[0,2,4,10,11],[0,2,4,10],[],[],[],1000⟩
 | 288,0 => ⟨[0,2,3,5,8,9],[0,2,3,5,8],[],[],[],1000⟩
 | 288,2 => ⟨[0,3,5,8,10,11],[],[],[],[],1000⟩
 | 289,0 => ⟨[0,2,4,6,28,29,30],[],[],[],[],1000⟩
 | 293,0 => ⟨[0,1,2,3,8,9],[],[],[],[],1000⟩
 | 296,0 => ⟨[0,5,6,7],[2],[],[],[],1000⟩
 | 297,0 => ⟨[11,12,13],[8,9,10,11,12],[12],[],[],1000⟩
 | 299,1 => ⟨[6,16,17,18],[6],[],[],[],1000⟩
 | 299,3 => ⟨[6,31,32,33],[6],[],[],[],1000⟩
 | 300,0 => ⟨[0,2,4,10,11],[0,2,4,10],[],[],[],1000⟩
 | 301,0 => ⟨[0,4,5],[0,4,5],[4,5],[],[],1000⟩
 | 302,0 => ⟨[0,1,4,7],[0,1,4,7],[7],[],[],1000⟩
 | 305,0 => ⟨[0,1,5],[4],[],[],[],1000⟩
 | 309,0 => ⟨[0,1,2,3,8,9],[],[],[],[],1000⟩
 | 311,0 => ⟨[0,2,4,10,11],[0,2,4,10],[],[],[],1000⟩
 | 312,0 => ⟨[0,1,2,3,10],[],[],[],[],1000⟩
 | 315,0 => ⟨[0,1,2,6],[],[],[],[],1000⟩
 | 315,2 => ⟨[0,1,2,6,7],[0,1,2,6],[],[],[],1000⟩
 | 316,0 => ⟨[0,6,7,8,9],[0,6,7,8],[],[],[],1000⟩
 | 316,2 => ⟨[0,6,7,10],[],[],[],[],1000⟩
 | 317,0 => ⟨[0,1,6,7,8,9],[],[],[],[],1000⟩
 | 319,0 => ⟨[0,6,7],[],[],[],[],1000⟩
 | 320,0 => ⟨[0,1,2,7,8],[6],[],[],[],1000⟩
 | 320,2 => ⟨[0,1,2,7,8],[0,1,2,7,8],[],[],[],1000⟩
 | 320,4 => ⟨[0,1,2,7,8,9],[0,1,2,7,8],[],[],[],1000⟩
 | 320,6 => ⟨[0,1,2,7,8,10],[0,1,2,7,8],[],[],[],1000⟩
 | 322,0 => ⟨[0,1,9,10],[9],[],[],[],1000⟩
 | 322,2 => ⟨[0,1,9,10],[0,1,9,10],[],[],[],1000⟩
 | 322,4 => ⟨[0,1,9,10],[0,1,9,10],[],[],[],1000⟩
 | 323,0 => ⟨[0,1,10,11],[0,1,10,11],[],[],[],1000⟩
 | 323,2 => ⟨[0,1,10,11],[0,1,10,11],[],[],[],1000⟩
 | 323,4 => ⟨[0,1,10,11],[0,1,11],[],[],[],1000⟩
 | 323,6 => ⟨[0,1,10,11],[0,1,10,11],[],[],[],1000⟩
 | 323,8 => ⟨[0,1,10,11],[0,1,10,11],[],[],[],1000⟩
 | 325,0 => ⟨[1,2,31,32,33],[1,6,7],[],[],[],1000⟩
 | 328,0 => ⟨[0,1,4],[4,5],[],[],[],1000⟩
 | 333,0 => ⟨[0,1,5,6],[5],[],[],[],1000⟩
 | 334,0 => ⟨[0,1,2,3,10],[],[],[],[],1000⟩
 | 336,0 => ⟨[0,1,7,8,9],[4,5,6],[],[(7,0),(8,0)],[],1000⟩
 | 338,0 => ⟨[0,1,12,13],[4],[],[],[],1000⟩
 | 340,0 => ⟨[0,1,2,3,10],[],[],[],[],1000⟩
 | 341,0 => ⟨[0,2,3,8],[],[],[],[],1000⟩
 | 350,0 => ⟨[0,3,4],[3],[3],[],[],1000⟩
 | 351,0 => ⟨[0,3,4],[3],[3],[],[],1000⟩
 | 352,0 => ⟨[1,4,5,22,23,24],[1,4,5],[],[(5,8)],[],1000⟩
 | 353,0 => ⟨[7,8],[7],[],[],[],1000⟩
 | 355,0 => ⟨[0,1,6,7,8],[0,1,6,7],[],[],[],1000⟩
 | 359,0 => ⟨[0,2,4,5],[2,3],[4,5],[],[],1000⟩
 | 364,0 => ⟨[0,1,12,13],[4],[],[],[],1000⟩
 | 365,0 => ⟨[1,2,15,16,17],[6],[],[],[],1000⟩
 | 368,0 => ⟨[0,5,6,7],[2],[],[],[],1000⟩
 | 372,0 => ⟨[0,1],[1],[],[],[],1000⟩
 | 373,0 => ⟨[0,4,5],[],[],[],[],1000⟩
 | 374,1 => ⟨[0,2,3,29,30,31],[8],[],[],[],1000⟩
 | 381,0 => ⟨[0,1,7,8],[1,4,5,6,7,8],[],[],[],1000⟩
 | 394,0 => ⟨[0,5,8,9,10],[5],[5],[],[],1000⟩
 | 397,0 => ⟨[0,3],[2],[],[],[],1000⟩
 | 398,0 => ⟨[0,1,2,9],[6,7,8],[9],[],[],1000⟩
 | 399,0 => ⟨[0,1,7,8],[4],[],[],[],1000⟩
 | 400,0 => ⟨[0,1,7,8],[4],[],[],[],1000⟩
 | 404,0 => ⟨[3,8,9,10],[3],[],[],[],1000⟩
 | 409,0 => ⟨[0,2,4,5],[2,3,4,5],[5],[],[],1000⟩
 | 413,0 => ⟨[1,7,8,9],[4],[],[],[],1000⟩
 | 414,0 => ⟨[3,8,9,10],[3],[],[],[],1000⟩
 | 416,0 => ⟨[3,10,11,12],[3],[3],[],[],1000⟩
 | 416,2 => ⟨[6,25,26,27],[6],[6],[],[],1000⟩
 | 419,0 => ⟨[0,4,5,6],[2,3,4,5],[],[],[],1000⟩
 | 423,0 => ⟨[0,1,2,6,7,8],[0,1,2,6,7],[],[],[],1000⟩
 | 423,2 => ⟨[0,1,2,6],[],[],[],[],1000⟩
 | 423,4 => ⟨[0,1,2,6,7,8],[0,1,2,6,7],[],[],[],1000⟩
 | 425,0 => ⟨[0,1,2,3,8],[],[],[],[],1000⟩
 | 425,2 => ⟨[0,1,2,3,8,9],[0,1,2,3,8],[],[],[],1000⟩
 | 426,0 => ⟨[0,1,4,10,11],[0,1,10],[],[],[],1000⟩
 | 426,2 => ⟨[0,10,13],[],[],[],[],1000⟩
 | 426,4 => ⟨[0,2,4,14,15],[0,2,14],[],[],[],1000⟩
 | 426,6 => ⟨[0,14,17],[],[],[],[],1000⟩
 | 426,8 => ⟨[0,1,2,3,4,18,19,20,21,22],[0,1,2,3,4,18,19,20],[],[],[],1000⟩
 | 427,0 => ⟨[0,2,4,10,11],[0,2,4,10],[],[],[],1000⟩
 | 428,0 => ⟨[0,1,2,3,10],[],[],[],[],1000⟩
 | _,_ => {}
def qv6 (f : FuncId) : Bool := [183,185,240,282,283,164,142,201,247,248,169,225,266,267,173,239,117].contains f
def qsg (f : FuncId) : Bool := [180,101,216,123,184,88,215,173,239,106,58].contains f
def zf0 : FuncId → Nat → List Nat
 | 105,15 => [4]
 | _,_ => []
def zwr (t : TypeId) : Bool := [].contains t
def x3i (t : TypeId) : Bool := [380,351,354,76].contains t
def qmy : FuncId → Nat → List Cmd
 | _,_ => []
noncomputable def G : GP := q9l Tryz.prog spec qv6 qsg zf0 zwr x3i qmy
theorem cm0 (i : Nat) : G.cmd 0 i = [] := rfl
theorem cm1 (i : Nat) : G.cmd 1 i = [] := rfl
theorem cm2 (i : Nat) : G.cmd 2 i = [] := rfl
theorem cm3 (i : Nat) : G.cmd 3 i = [] := rfl
theorem z3q : G.owned 4 = false := rfl
theorem kp4 : G.keep 4 = false := rfl
theorem cm4 (i : Nat) : G.cmd 4 i = [] := rfl
theorem pr4 (i : Nat) : G.pre 4 i = [] := rfl
theorem cm5 (i : Nat) : G.cmd 5 i = [] := rfl
theorem qoo : G.owned 6 = false := rfl
theorem kp6 : G.keep 6 = false := rfl
theorem cm6 (i : Nat) : G.cmd 6 i = [] := rfl
theorem pr6 (i : Nat) : G.pre 6 i = [] := rfl
theorem zr8 : G.owned 7 = false := rfl
theorem kp7 : G.keep 7 = false := rfl
theorem cm7 (i : Nat) : G.cmd 7 i = [] := rfl
theorem pr7 (i : Nat) : G.pre 7 i = [] := rfl
theorem zmj : G.owned 8 = false := rfl
theorem kp8 : G.keep 8 = false := rfl
theorem cm8 (i : Nat) : G.cmd 8 i = [] := rfl
theorem pr8 (i : Nat) : G.pre 8 i = [] := rfl
theorem z4o : G.owned 9 = false := rfl
theorem kp9 : G.keep 9 = false := rfl
theorem cm9 (i : Nat) : G.cmd 9 i = [] := rfl
theorem pr9 (i : Nat) : G.pre 9 i = [] := rfl
theorem zor : G.owned 10 = false := rfl
theorem zg6 : G.keep 10 = false := rfl
theorem z4u (i : Nat) : G.cmd 10 i = [] := rfl
theorem qyo (i : Nat) : G.pre 10 i = [] := rfl
theorem zih (i : Nat) : G.cmd 11 i = [] := rfl
theorem qmq (i : Nat) : G.cmd 12 i = [] := rfl
theorem z4g : G.owned 13 = false := rfl
theorem zol : G.keep 13 = false := rfl
theorem zk4 (i : Nat) : G.cmd 13 i = [] := rfl
theorem zbt (i : Nat) : G.pre 13 i = [] := rfl
theorem zcu : G.owned 14 = false := rfl
theorem zy8 : G.keep 14 = false := rfl
theorem x37 (i : Nat) : G.cmd 14 i = [] := rfl
theorem qk9 (i : Nat) : G.pre 14 i = [] := rfl
theorem z6e (i : Nat) : G.cmd 15 i = [] := rfl
theorem qs6 : G.owned 16 = false := rfl
theorem qv0 : G.keep 16 = false := rfl
theorem z2e (i : Nat) : G.cmd 16 i = [] := rfl
theorem qtf (i : Nat) : G.pre 16 i = [] := rfl
theorem x2q : G.owned 17 = false := rfl
theorem zps : G.keep 17 = false := rfl
theorem qz5 (i : Nat) : G.cmd 17 i = [] := rfl
theorem x21 (i : Nat) : G.pre 17 i = [] := rfl
theorem zld (i : Nat) : G.cmd 18 i = [] := rfl
theorem zon : G.owned 19 = false := rfl
theorem zrv : G.keep 19 = false := rfl
theorem za1 (i : Nat) : G.cmd 19 i = [] := rfl
theorem z7d (i : Nat) : G.pre 19 i = [] := rfl
theorem zl1 : G.owned 20 = false := rfl
theorem qp5 : G.keep 20 = false := rfl
theorem zal (i : Nat) : G.cmd 20 i = [] := rfl
theorem z0g (i : Nat) : G.pre 20 i = [] := rfl
theorem zp6 : G.owned 21 = false := rfl
theorem zgh : G.keep 21 = false := rfl
theorem zli (i : Nat) : G.cmd 21 i = [] := rfl
theorem qzp (i : Nat) : G.pre 21 i = [] := rfl
theorem zot : G.owned 22 = false := rfl
theorem x04 : G.keep 22 = false := rfl
theorem z3l (i : Nat) : G.cmd 22 i = [] := rfl
theorem zba (i : Nat) : G.pre 22 i = [] := rfl
theorem zsh (i : Nat) : G.cmd 23 i = [] := rfl
theorem zdu (i : Nat) : G.cmd 24 i = [] := rfl
theorem zb3 (i : Nat) : G.cmd 25 i = [] := rfl
theorem zt9 (i : Nat) : G.cmd 26 i = [] := rfl
theorem zqz (i : Nat) : G.cmd 27 i = [] := rfl
theorem zyv (i : Nat) : G.cmd 28 i = [] := rfl
theorem zvx (i : Nat) : G.cmd 29 i = [] := rfl
theorem qjk (i : Nat) : G.cmd 30 i = [] := rfl
theorem z7h (i : Nat) : G.cmd 31 i = [] := rfl
theorem zkb : G.owned 32 = false := rfl
theorem zoz : G.keep 32 = false := rfl
theorem x03 (i : Nat) : G.cmd 32 i = [] := rfl
theorem znv (i : Nat) : G.pre 32 i = [] := rfl
theorem z00 : G.owned 33 = false := rfl
theorem x26 : G.keep 33 = false := rfl
theorem zm7 (i : Nat) : G.cmd 33 i = [] := rfl
theorem zu7 (i : Nat) : G.pre 33 i = [] := rfl
theorem zds : G.owned 34 = false := rfl
theorem zn0 : G.keep 34 = false := rfl
theorem ze2 (i : Nat) : G.cmd 34 i = [] := rfl
theorem zta (i : Nat) : G.pre 34 i = [] := rfl
theorem z8v : G.owned 35 = false := rfl
theorem qkb : G.keep 35 = false := rfl
theorem zfj (i : Nat) : G.cmd 35 i = [] := rfl
theorem z2y (i : Nat) : G.pre 35 i = [] := rfl
theorem qv8 : G.owned 36 = false := rfl
theorem qrj : G.keep 36 = false := rfl
theorem zx3 (i : Nat) : G.cmd 36 i = [] := rfl
theorem qrz (i : Nat) : G.pre 36 i = [] := rfl
theorem z7c : G.owned 37 = false := rfl
theorem x2r : G.keep 37 = false := rfl
theorem zxg (i : Nat) : G.cmd 37 i = [] := rfl
theorem zcy (i : Nat) : G.pre 37 i = [] := rfl
theorem z1z : G.owned 38 = false := rfl
theorem x3a : G.keep 38 = false := rfl
theorem ztg (i : Nat) : G.cmd 38 i = [] := rfl
theorem zzg (i : Nat) : G.pre 38 i = [] := rfl
theorem qk3 : G.owned 39 = false := rfl
theorem zwi : G.keep 39 = false := rfl
theorem zqw (i : Nat) : G.cmd 39 i = [] := rfl
theorem z04 (i : Nat) : G.pre 39 i = [] := rfl
theorem zmb : G.owned 40 = false := rfl
theorem zr9 : G.keep 40 = false := rfl
theorem za8 (i : Nat) : G.cmd 40 i = [] := rfl
theorem ze8 (i : Nat) : G.pre 40 i = [] := rfl
theorem qtx : G.owned 41 = false := rfl
theorem x14 : G.keep 41 = false := rfl
theorem z7k (i : Nat) : G.cmd 41 i = [] := rfl
theorem zyk (i : Nat) : G.pre 41 i = [] := rfl
theorem qz7 : G.owned 42 = false := rfl
theorem zkq : G.keep 42 = false := rfl
theorem qo5 (i : Nat) : G.cmd 42 i = [] := rfl
theorem zo2 (i : Nat) : G.pre 42 i = [] := rfl
theorem qrx : G.owned 43 = false := rfl
theorem zx7 : G.keep 43 = false := rfl
theorem zpv (i : Nat) : G.cmd 43 i = [] := rfl
theorem z4q (i : Nat) : G.pre 43 i = [] := rfl
theorem z9d (i : Nat) : G.cmd 44 i = [] := rfl
theorem qn6 (i : Nat) : G.cmd 45 i = [] := rfl
theorem zzh (i : Nat) : G.cmd 46 i = [] := rfl
theorem qk5 (i : Nat) : G.cmd 47 i = [] := rfl
theorem zbu (i : Nat) : G.cmd 48 i = [] := rfl
theorem ql1 (i : Nat) : G.cmd 49 i = [] := rfl
theorem zsd (i : Nat) : G.cmd 50 i = [] := rfl
theorem qot (i : Nat) : G.cmd 51 i = [] := rfl
theorem qod (i : Nat) : G.cmd 52 i = [] := rfl
theorem zqm (i : Nat) : G.cmd 53 i = [] := rfl
theorem zuz (i : Nat) : G.cmd 54 i = [] := rfl
theorem z5i (i : Nat) : G.cmd 55 i = [] := rfl
theorem x1p (i : Nat) : G.cmd 56 i = [] := rfl
theorem z4y (i : Nat) : G.cmd 57 i = [] := rfl
theorem zs6 (i : Nat) : G.cmd 58 i = [] := rfl
theorem zx5 (i : Nat) : G.cmd 59 i = [] := rfl
theorem zkn : G.owned 60 = false := rfl
theorem zaw : G.keep 60 = false := rfl
theorem zlm (i : Nat) : G.cmd 60 i = [] := rfl
theorem zfx (i : Nat) : G.pre 60 i = [] := rfl
theorem zs9 : G.owned 61 = false := rfl
theorem qwt : G.keep 61 = false := rfl
theorem qkl (i : Nat) : G.cmd 61 i = [] := rfl
theorem qj8 (i : Nat) : G.pre 61 i = [] := rfl
theorem ql7 (i : Nat) : G.cmd 62 i = [] := rfl
theorem zfu (i : Nat) : G.cmd 63 i = [] := rfl
theorem quh (i : Nat) : G.cmd 64 i = [] := rfl
theorem zyj (i : Nat) : G.cmd 65 i = [] := rfl
theorem qzj (i : Nat) : G.cmd 66 i = [] := rfl
theorem qpa (i : Nat) : G.cmd 67 i = [] := rfl
theorem x3l (i : Nat) : G.cmd 68 i = [] := rfl
theorem qs5 (i : Nat) : G.cmd 69 i = [] := rfl
theorem z2q (i : Nat) : G.cmd 70 i = [] := rfl
theorem zbr (i : Nat) : G.cmd 71 i = [] := rfl
theorem zxs (i : Nat) : G.cmd 72 i = [] := rfl
theorem z11 (i : Nat) : G.cmd 73 i = [] := rfl
theorem z2m (i : Nat) : G.cmd 74 i = [] := rfl
theorem qsv (i : Nat) : G.cmd 75 i = [] := rfl
theorem qt8 (i : Nat) : G.cmd 76 i = [] := rfl
theorem qqe (i : Nat) : G.cmd 77 i = [] := rfl
theorem zbn (i : Nat) : G.cmd 78 i = [] := rfl
theorem z1y (i : Nat) : G.cmd 79 i = [] := rfl
theorem zp5 (i : Nat) : G.cmd 80 i = [] := rfl
theorem zfa (i : Nat) : G.cmd 81 i = [] := rfl
theorem qsl (i : Nat) : G.cmd 82 i = [] := rfl
theorem zbh (i : Nat) : G.cmd 83 i = [] := rfl
theorem z05 (i : Nat) : G.cmd 84 i = [] := rfl
theorem znn (i : Nat) : G.cmd 85 i = [] := rfl
theorem qqp (i : Nat) : G.cmd 86 i = [] := rfl
theorem qxf (i : Nat) : G.cmd 87 i = [] := rfl
theorem zgn (i : Nat) : G.cmd 88 i = [] := rfl
theorem zpj (i : Nat) : G.cmd 89 i = [] := rfl
theorem zgx (i : Nat) : G.cmd 90 i = [] := rfl
theorem zfk (i : Nat) : G.cmd 91 i = [] := rfl
theorem qxs (i : Nat) : G.cmd 92 i = [] := rfl
theorem zdo (i : Nat) : G.cmd 93 i = [] := rfl
theorem qtc (i : Nat) : G.cmd 94 i = [] := rfl
theorem zku (i : Nat) : G.cmd 95 i = [] := rfl
theorem qoe (i : Nat) : G.cmd 96 i = [] := rfl
theorem x11 (i : Nat) : G.cmd 97 i = [] := rfl
theorem ztz (i : Nat) : G.cmd 98 i = [] := rfl
theorem zi7 (i : Nat) : G.cmd 99 i = [] := rfl
theorem qyd (i : Nat) : G.cmd 100 i = [] := rfl
theorem zc6 (i : Nat) : G.cmd 101 i = [] := rfl
theorem x0w (i : Nat) : G.cmd 102 i = [] := rfl
theorem x0d (i : Nat) : G.cmd 103 i = [] := rfl
theorem zmm (i : Nat) : G.cmd 104 i = [] := rfl
theorem qin (i : Nat) : G.cmd 105 i = [] := rfl
theorem ztx (i : Nat) : G.cmd 106 i = [] := rfl
theorem zb4 (i : Nat) : G.cmd 107 i = [] := rfl
theorem ql0 (i : Nat) : G.cmd 108 i = [] := rfl
theorem zed (i : Nat) : G.cmd 109 i = [] := rfl
theorem zgo (i : Nat) : G.cmd 110 i = [] := rfl
theorem zdz (i : Nat) : G.cmd 111 i = [] := rfl
theorem zaj (i : Nat) : G.cmd 112 i = [] := rfl
theorem qwi (i : Nat) : G.cmd 113 i = [] := rfl
theorem zqn (i : Nat) : G.cmd 114 i = [] := rfl
theorem zzr (i : Nat) : G.cmd 115 i = [] := rfl
theorem qvq (i : Nat) : G.cmd 116 i = [] := rfl
theorem zgk (i : Nat) : G.cmd 117 i = [] := rfl
theorem za5 (i : Nat) : G.cmd 118 i = [] := rfl
theorem qnr (i : Nat) : G.cmd 119 i = [] := rfl
theorem z4j (i : Nat) : G.cmd 120 i = [] := rfl
theorem ziu (i : Nat) : G.cmd 121 i = [] := rfl
theorem qk1 (i : Nat) : G.cmd 122 i = [] := rfl
theorem zco (i : Nat) : G.cmd 123 i = [] := rfl
theorem zyn (i : Nat) : G.cmd 124 i = [] := rfl
theorem z2o (i : Nat) : G.cmd 125 i = [] := rfl
theorem z96 (i : Nat) : G.cmd 126 i = [] := rfl
theorem zpn (i : Nat) : G.cmd 127 i = [] := rfl
theorem ze0 (i : Nat) : G.cmd 128 i = [] := rfl
theorem qx4 (i : Nat) : G.cmd 129 i = [] := rfl
theorem z5k (i : Nat) : G.cmd 130 i = [] := rfl
theorem qjf (i : Nat) : G.cmd 131 i = [] := rfl
theorem qme (i : Nat) : G.cmd 132 i = [] := rfl
theorem qtl (i : Nat) : G.cmd 133 i = [] := rfl
theorem zsr (i : Nat) : G.cmd 134 i = [] := rfl
theorem x0m (i : Nat) : G.cmd 135 i = [] := rfl
theorem qx2 (i : Nat) : G.cmd 136 i = [] := rfl
theorem zkt (i : Nat) : G.cmd 137 i = [] := rfl
theorem zok (i : Nat) : G.cmd 138 i = [] := rfl
theorem qk4 (i : Nat) : G.cmd 139 i = [] := rfl
theorem qvp (i : Nat) : G.cmd 140 i = [] := rfl
theorem zbk (i : Nat) : G.cmd 141 i = [] := rfl
theorem zmx (i : Nat) : G.cmd 142 i = [] := rfl
theorem z18 (i : Nat) : G.cmd 143 i = [] := rfl
theorem z7e (i : Nat) : G.cmd 144 i = [] := rfl
theorem zk6 (i : Nat) : G.cmd 145 i = [] := rfl
theorem z7r (i : Nat) : G.cmd 146 i = [] := rfl
theorem zdv (i : Nat) : G.cmd 147 i = [] := rfl
theorem zq5 (i : Nat) : G.cmd 148 i = [] := rfl
theorem z4r (i : Nat) : G.cmd 149 i = [] := rfl
theorem quj (i : Nat) : G.cmd 150 i = [] := rfl
theorem x0o (i : Nat) : G.cmd 151 i = [] := rfl
theorem x0e (i : Nat) : G.cmd 152 i = [] := rfl
theorem qy3 (i : Nat) : G.cmd 153 i = [] := rfl
theorem x1c (i : Nat) : G.cmd 154 i = [] := rfl
theorem zbs (i : Nat) : G.cmd 155 i = [] := rfl
theorem zyx (i : Nat) : G.cmd 156 i = [] := rfl
theorem qql (i : Nat) : G.cmd 157 i = [] := rfl
theorem qkn (i : Nat) : G.cmd 158 i = [] := rfl
theorem z03 (i : Nat) : G.cmd 159 i = [] := rfl
theorem z92 (i : Nat) : G.cmd 160 i = [] := rfl
theorem zq1 (i : Nat) : G.cmd 161 i = [] := rfl
theorem zsf (i : Nat) : G.cmd 162 i = [] := rfl
theorem zzi (i : Nat) : G.cmd 163 i = [] := rfl
theorem z3z (i : Nat) : G.cmd 164 i = [] := rfl
theorem qlv (i : Nat) : G.cmd 165 i = [] := rfl
theorem qoc (i : Nat) : G.cmd 166 i = [] := rfl
theorem qtp (i : Nat) : G.cmd 167 i = [] := rfl
theorem zmf (i : Nat) : G.cmd 168 i = [] := rfl
theorem ztf (i : Nat) : G.cmd 169 i = [] := rfl
theorem z3c (i : Nat) : G.cmd 170 i = [] := rfl
theorem zxf (i : Nat) : G.cmd 171 i = [] := rfl
theorem z4w (i : Nat) : G.cmd 172 i = [] := rfl
theorem zz6 (i : Nat) : G.cmd 173 i = [] := rfl
theorem zaz (i : Nat) : G.cmd 174 i = [] := rfl
theorem qvc (i : Nat) : G.cmd 175 i = [] := rfl
theorem qn9 (i : Nat) : G.cmd 176 i = [] := rfl
theorem qzq (i : Nat) : G.cmd 177 i = [] := rfl
theorem x1e (i : Nat) : G.cmd 178 i = [] := rfl
theorem z8x (i : Nat) : G.cmd 179 i = [] := rfl
theorem zsw (i : Nat) : G.cmd 180 i = [] := rfl
theorem zw7 (i : Nat) : G.cmd 181 i = [] := rfl
theorem zqb (i : Nat) : G.cmd 182 i = [] := rfl
theorem qvv (i : Nat) : G.cmd 183 i = [] := rfl
theorem zq2 (i : Nat) : G.cmd 184 i = [] := rfl
theorem za2 (i : Nat) : G.cmd 185 i = [] := rfl
theorem znw (i : Nat) : G.cmd 186 i = [] := rfl
theorem zbf (i : Nat) : G.cmd 187 i = [] := rfl
theorem qz4 (i : Nat) : G.cmd 188 i = [] := rfl
theorem qms (i : Nat) : G.cmd 189 i = [] := rfl
theorem zy9 (i : Nat) : G.cmd 190 i = [] := rfl
theorem qlm (i : Nat) : G.cmd 191 i = [] := rfl
theorem zul (i : Nat) : G.cmd 192 i = [] := rfl
theorem zk1 (i : Nat) : G.cmd 193 i = [] := rfl
theorem x10 (i : Nat) : G.cmd 194 i = [] := rfl
theorem qim (i : Nat) : G.cmd 195 i = [] := rfl
theorem zvi (i : Nat) : G.cmd 196 i = [] := rfl
theorem zkv (i : Nat) : G.cmd 197 i = [] := rfl
theorem x2x (i : Nat) : G.cmd 198 i = [] := rfl
theorem ql2 (i : Nat) : G.cmd 199 i = [] := rfl
theorem x2k (i : Nat) : G.cmd 200 i = [] := rfl
theorem qqw (i : Nat) : G.cmd 201 i = [] := rfl
theorem qzk (i : Nat) : G.cmd 202 i = [] := rfl
theorem zlb (i : Nat) : G.cmd 203 i = [] := rfl
theorem zqq (i : Nat) : G.cmd 204 i = [] := rfl
theorem qvt (i : Nat) : G.cmd 205 i = [] := rfl
theorem zax (i : Nat) : G.cmd 206 i = [] := rfl
theorem x2b (i : Nat) : G.cmd 207 i = [] := rfl
theorem x0z (i : Nat) : G.cmd 208 i = [] := rfl
theorem zbq (i : Nat) : G.cmd 209 i = [] := rfl
theorem qve (i : Nat) : G.cmd 210 i = [] := rfl
theorem zxm (i : Nat) : G.cmd 211 i = [] := rfl
theorem z0i (i : Nat) : G.cmd 212 i = [] := rfl
theorem ze9 (i : Nat) : G.cmd 213 i = [] := rfl
theorem qke (i : Nat) : G.cmd 214 i = [] := rfl
theorem zno (i : Nat) : G.cmd 215 i = [] := rfl
theorem zjw (i : Nat) : G.cmd 216 i = [] := rfl
theorem zbi (i : Nat) : G.cmd 217 i = [] := rfl
theorem z4n (i : Nat) : G.cmd 218 i = [] := rfl
theorem qsn (i : Nat) : G.cmd 219 i = [] := rfl
theorem zex (i : Nat) : G.cmd 220 i = [] := rfl
theorem zf2 (i : Nat) : G.cmd 221 i = [] := rfl
theorem qqi (i : Nat) : G.cmd 222 i = [] := rfl
theorem z90 (i : Nat) : G.cmd 223 i = [] := rfl
theorem zt6 (i : Nat) : G.cmd 224 i = [] := rfl
theorem qtb (i : Nat) : G.cmd 225 i = [] := rfl
theorem z7v (i : Nat) : G.cmd 226 i = [] := rfl
theorem zqa (i : Nat) : G.cmd 227 i = [] := rfl
theorem zjz (i : Nat) : G.cmd 228 i = [] := rfl
theorem zl9 (i : Nat) : G.cmd 229 i = [] := rfl
theorem zwy (i : Nat) : G.cmd 230 i = [] := rfl
theorem qpo (i : Nat) : G.cmd 231 i = [] := rfl
theorem z9b (i : Nat) : G.cmd 232 i = [] := rfl
theorem qj2 (i : Nat) : G.cmd 233 i = [] := rfl
theorem qoa (i : Nat) : G.cmd 234 i = [] := rfl
theorem zpz (i : Nat) : G.cmd 235 i = [] := rfl
theorem zze (i : Nat) : G.cmd 236 i = [] := rfl
theorem zm3 (i : Nat) : G.cmd 237 i = [] := rfl
theorem zai (i : Nat) : G.cmd 238 i = [] := rfl
theorem z3r (i : Nat) : G.cmd 239 i = [] := rfl
theorem zqp (i : Nat) : G.cmd 240 i = [] := rfl
theorem qvm (i : Nat) : G.cmd 241 i = [] := rfl
theorem znc (i : Nat) : G.cmd 242 i = [] := rfl
theorem x1v (i : Nat) : G.cmd 243 i = [] := rfl
theorem qyl (i : Nat) : G.cmd 244 i = [] := rfl
theorem qzm (i : Nat) : G.cmd 245 i = [] := rfl
theorem qwu (i : Nat) : G.cmd 246 i = [] := rfl
theorem qiu (i : Nat) : G.cmd 247 i = [] := rfl
theorem z5h (i : Nat) : G.cmd 248 i = [] := rfl
theorem zib (i : Nat) : G.cmd 249 i = [] := rfl
theorem zjj (i : Nat) : G.cmd 250 i = [] := rfl
theorem zio (i : Nat) : G.cmd 251 i = [] := rfl
theorem zar (i : Nat) : G.cmd 252 i = [] := rfl
theorem z8g (i : Nat) : G.cmd 253 i = [] := rfl
theorem qp1 (i : Nat) : G.cmd 254 i = [] := rfl
theorem qis (i : Nat) : G.cmd 255 i = [] := rfl
theorem zy7 (i : Nat) : G.cmd 256 i = [] := rfl
theorem zmk (i : Nat) : G.cmd 257 i = [] := rfl
theorem zq3 (i : Nat) : G.cmd 258 i = [] := rfl
theorem qkw (i : Nat) : G.cmd 259 i = [] := rfl
theorem zir (i : Nat) : G.cmd 260 i = [] := rfl
theorem zm4 (i : Nat) : G.cmd 261 i = [] := rfl
theorem qul (i : Nat) : G.cmd 262 i = [] := rfl
theorem zrl (i : Nat) : G.cmd 263 i = [] := rfl
theorem zhu (i : Nat) : G.cmd 264 i = [] := rfl
theorem x2f (i : Nat) : G.cmd 265 i = [] := rfl
theorem zgm (i : Nat) : G.cmd 266 i = [] := rfl
theorem qjd (i : Nat) : G.cmd 267 i = [] := rfl
theorem qpi (i : Nat) : G.cmd 268 i = [] := rfl
theorem zd2 (i : Nat) : G.cmd 269 i = [] := rfl
theorem zvt (i : Nat) : G.cmd 270 i = [] := rfl
theorem x2m (i : Nat) : G.cmd 271 i = [] := rfl
theorem zxa (i : Nat) : G.cmd 272 i = [] := rfl
theorem qld (i : Nat) : G.cmd 273 i = [] := rfl
theorem qum (i : Nat) : G.cmd 274 i = [] := rfl
theorem ql6 (i : Nat) : G.cmd 275 i = [] := rfl
theorem ztk (i : Nat) : G.cmd 276 i = [] := rfl
theorem zzl (i : Nat) : G.cmd 277 i = [] := rfl
theorem z9v (i : Nat) : G.cmd 278 i = [] := rfl
theorem qz9 (i : Nat) : G.cmd 279 i = [] := rfl
theorem zab (i : Nat) : G.cmd 280 i = [] := rfl
theorem qnk (i : Nat) : G.cmd 281 i = [] := rfl
theorem quz (i : Nat) : G.cmd 282 i = [] := rfl
theorem zlc (i : Nat) : G.cmd 283 i = [] := rfl
theorem z0d (i : Nat) : G.cmd 284 i = [] := rfl
theorem zk8 (i : Nat) : G.cmd 285 i = [] := rfl
theorem zen (i : Nat) : G.cmd 286 i = [] := rfl
theorem zxd (i : Nat) : G.cmd 287 i = [] := rfl
theorem x3g (i : Nat) : G.cmd 288 i = [] := rfl
theorem z4k (i : Nat) : G.cmd 289 i = [] := rfl
theorem zpm (i : Nat) : G.cmd 290 i = [] := rfl
theorem zzz (i : Nat) : G.cmd 291 i = [] := rfl
theorem zn9 (i : Nat) : G.cmd 292 i = [] := rfl
theorem z1k (i : Nat) : G.cmd 293 i = [] := rfl
theorem qif (i : Nat) : G.cmd 294 i = [] := rfl
theorem z7z (i : Nat) : G.cmd 295 i = [] := rfl
theorem qzl (i : Nat) : G.cmd 296 i = [] := rfl
theorem zrp (i : Nat) : G.cmd 297 i = [] := rfl
theorem zz3 (i : Nat) : G.cmd 298 i = [] := rfl
theorem zv7 (i : Nat) : G.cmd 299 i = [] := rfl
theorem ql4 (i : Nat) : G.cmd 300 i = [] := rfl
theorem zda (i : Nat) : G.cmd 301 i = [] := rfl
theorem zic (i : Nat) : G.cmd 302 i = [] := rfl
theorem zel (i : Nat) : G.cmd 303 i = [] := rfl
theorem zj7 (i : Nat) : G.cmd 304 i = [] := rfl
theorem qvh (i : Nat) : G.cmd 305 i = [] := rfl
theorem qwh (i : Nat) : G.cmd 306 i = [] := rfl
theorem zup (i : Nat) : G.cmd 307 i = [] := rfl
theorem qxc (i : Nat) : G.cmd 308 i = [] := rfl
theorem qob (i : Nat) : G.cmd 309 i = [] := rfl
theorem qpj (i : Nat) : G.cmd 310 i = [] := rfl
theorem zzx (i : Nat) : G.cmd 311 i = [] := rfl
theorem zdp (i : Nat) : G.cmd 312 i = [] := rfl
theorem z88 (i : Nat) : G.cmd 313 i = [] := rfl
theorem zrt (i : Nat) : G.cmd 314 i = [] := rfl
theorem qw9 (i : Nat) : G.cmd 315 i = [] := rfl
theorem zkl (i : Nat) : G.cmd 316 i = [] := rfl
theorem qzh (i : Nat) : G.cmd 317 i = [] := rfl
theorem qo0 (i : Nat) : G.cmd 318 i = [] := rfl
theorem zat (i : Nat) : G.cmd 319 i = [] := rfl
theorem z7i (i : Nat) : G.cmd 320 i = [] := rfl
theorem zfe (i : Nat) : G.cmd 321 i = [] := rfl
theorem x15 (i : Nat) : G.cmd 322 i = [] := rfl
theorem zuj (i : Nat) : G.cmd 323 i = [] := rfl
theorem qwp (i : Nat) : G.cmd 324 i = [] := rfl
theorem zpg (i : Nat) : G.cmd 325 i = [] := rfl
theorem x0x (i : Nat) : G.cmd 326 i = [] := rfl
theorem qrl (i : Nat) : G.cmd 327 i = [] := rfl
theorem z6r (i : Nat) : G.cmd 328 i = [] := rfl
theorem qqf (i : Nat) : G.cmd 329 i = [] := rfl
theorem quc (i : Nat) : G.cmd 330 i = [] := rfl
theorem qt5 (i : Nat) : G.cmd 331 i = [] := rfl
theorem qwz (i : Nat) : G.cmd 332 i = [] := rfl
theorem x16 (i : Nat) : G.cmd 333 i = [] := rfl
theorem z08 (i : Nat) : G.cmd 334 i = [] := rfl
theorem zth (i : Nat) : G.cmd 335 i = [] := rfl
theorem zpa (i : Nat) : G.cmd 336 i = [] := rfl
theorem zlu (i : Nat) : G.cmd 337 i = [] := rfl
theorem qnp (i : Nat) : G.cmd 338 i = [] := rfl
theorem qwr (i : Nat) : G.cmd 339 i = [] := rfl
theorem qog (i : Nat) : G.cmd 340 i = [] := rfl
theorem qlo (i : Nat) : G.cmd 341 i = [] := rfl
theorem zhb (i : Nat) : G.cmd 342 i = [] := rfl
theorem zb8 (i : Nat) : G.cmd 343 i = [] := rfl
theorem z2s (i : Nat) : G.cmd 344 i = [] := rfl
theorem qsw (i : Nat) : G.cmd 345 i = [] := rfl
theorem zv4 (i : Nat) : G.cmd 346 i = [] := rfl
theorem zy0 (i : Nat) : G.cmd 347 i = [] := rfl
theorem qvu (i : Nat) : G.cmd 348 i = [] := rfl
theorem zu5 (i : Nat) : G.cmd 349 i = [] := rfl
theorem zu9 (i : Nat) : G.cmd 350 i = [] := rfl
theorem qka (i : Nat) : G.cmd 351 i = [] := rfl
theorem zwx (i : Nat) : G.cmd 352 i = [] := rfl
theorem x0k (i : Nat) : G.cmd 353 i = [] := rfl
theorem qoj (i : Nat) : G.cmd 354 i = [] := rfl
theorem z1e (i : Nat) : G.cmd 355 i = [] := rfl
theorem zj0 (i : Nat) : G.cmd 356 i = [] := rfl
theorem x3y (i : Nat) : G.cmd 357 i = [] := rfl
theorem zj5 (i : Nat) : G.cmd 358 i = [] := rfl
theorem qp8 (i : Nat) : G.cmd 359 i = [] := rfl
theorem zoj (i : Nat) : G.cmd 360 i = [] := rfl
theorem qw3 (i : Nat) : G.cmd 361 i = [] := rfl
theorem zph (i : Nat) : G.cmd 362 i = [] := rfl
theorem qvd (i : Nat) : G.cmd 363 i = [] := rfl
theorem zru (i : Nat) : G.cmd 364 i = [] := rfl
theorem qid (i : Nat) : G.cmd 365 i = [] := rfl
theorem zqt (i : Nat) : G.cmd 366 i = [] := rfl
theorem zha (i : Nat) : G.cmd 367 i = [] := rfl
theorem zkc (i : Nat) : G.cmd 368 i = [] := rfl
theorem z9i (i : Nat) : G.cmd 369 i = [] := rfl
theorem zue (i : Nat) : G.cmd 370 i = [] := rfl
theorem zng (i : Nat) : G.cmd 371 i = [] := rfl
theorem zsu (i : Nat) : G.cmd 372 i = [] := rfl
theorem zlq (i : Nat) : G.cmd 373 i = [] := rfl
theorem qrv (i : Nat) : G.cmd 374 i = [] := rfl
theorem zdg (i : Nat) : G.cmd 375 i = [] := rfl
theorem z3e (i : Nat) : G.cmd 376 i = [] := rfl
theorem z0v (i : Nat) : G.cmd 377 i = [] := rfl
theorem zzy (i : Nat) : G.cmd 378 i = [] := rfl
theorem x3d (i : Nat) : G.cmd 379 i = [] := rfl
theorem x00 (i : Nat) : G.cmd 380 i = [] := rfl
theorem zc3 (i : Nat) : G.cmd 381 i = [] := rfl
theorem zoh (i : Nat) : G.cmd 382 i = [] := rfl
theorem z09 (i : Nat) : G.cmd 383 i = [] := rfl
theorem zms (i : Nat) : G.cmd 384 i = [] := rfl
theorem zpb (i : Nat) : G.cmd 385 i = [] := rfl
theorem qnv (i : Nat) : G.cmd 386 i = [] := rfl
theorem zff (i : Nat) : G.cmd 387 i = [] := rfl
theorem qq3 (i : Nat) : G.cmd 388 i = [] := rfl
theorem zgv (i : Nat) : G.cmd 389 i = [] := rfl
theorem z0e (i : Nat) : G.cmd 390 i = [] := rfl
theorem zl5 (i : Nat) : G.cmd 391 i = [] := rfl
theorem x44 (i : Nat) : G.cmd 392 i = [] := rfl
theorem zla (i : Nat) : G.cmd 393 i = [] := rfl
theorem x1z (i : Nat) : G.cmd 394 i = [] := rfl
theorem zfg (i : Nat) : G.cmd 395 i = [] := rfl
theorem z6b (i : Nat) : G.cmd 396 i = [] := rfl
theorem z0r (i : Nat) : G.cmd 397 i = [] := rfl
theorem zav (i : Nat) : G.cmd 398 i = [] := rfl
theorem qsj (i : Nat) : G.cmd 399 i = [] := rfl
theorem qtr (i : Nat) : G.cmd 400 i = [] := rfl
theorem zlf (i : Nat) : G.cmd 401 i = [] := rfl
theorem ztv (i : Nat) : G.cmd 402 i = [] := rfl
theorem qkt (i : Nat) : G.cmd 403 i = [] := rfl
theorem zjn (i : Nat) : G.cmd 404 i = [] := rfl
theorem qls (i : Nat) : G.cmd 405 i = [] := rfl
theorem zvg (i : Nat) : G.cmd 406 i = [] := rfl
theorem zde (i : Nat) : G.cmd 407 i = [] := rfl
theorem z3p (i : Nat) : G.cmd 408 i = [] := rfl
theorem qu7 (i : Nat) : G.cmd 409 i = [] := rfl
theorem zka (i : Nat) : G.cmd 410 i = [] := rfl
theorem x3e (i : Nat) : G.cmd 411 i = [] := rfl
theorem zcx (i : Nat) : G.cmd 412 i = [] := rfl
theorem x2l (i : Nat) : G.cmd 413 i = [] := rfl
theorem zji (i : Nat) : G.cmd 414 i = [] := rfl
theorem zcp (i : Nat) : G.cmd 415 i = [] := rfl
theorem zk5 (i : Nat) : G.cmd 416 i = [] := rfl
theorem z1c (i : Nat) : G.cmd 417 i = [] := rfl
theorem qxh (i : Nat) : G.cmd 418 i = [] := rfl
theorem qnu (i : Nat) : G.cmd 419 i = [] := rfl
theorem qky (i : Nat) : G.cmd 420 i = [] := rfl
theorem zft (i : Nat) : G.cmd 421 i = [] := rfl
theorem x0y (i : Nat) : G.cmd 422 i = [] := rfl
theorem qse (i : Nat) : G.cmd 423 i = [] := rfl
theorem zwn (i : Nat) : G.cmd 424 i = [] := rfl
theorem qmt (i : Nat) : G.cmd 425 i = [] := rfl
theorem qo3 (i : Nat) : G.cmd 426 i = [] := rfl
theorem qvw (i : Nat) : G.cmd 427 i = [] := rfl
theorem zs8 (i : Nat) : G.cmd 428 i = [] := rfl
theorem qxd (i : Nat) : G.cmd 429 i = [] := rfl
theorem zkm (i : Nat) : G.cmd 430 i = [] := rfl
theorem zhy (i : Nat) : G.cmd 431 i = [] := rfl
theorem x2w (i : Nat) : G.cmd 432 i = [] := rfl
theorem qiy (i : Nat) : G.cmd 433 i = [] := rfl
theorem zcm (i : Nat) : G.cmd 434 i = [] := rfl
theorem x0p (i : Nat) : G.cmd 435 i = [] := rfl
theorem qnf (i : Nat) : G.cmd 436 i = [] := rfl
theorem z4l (i : Nat) : G.cmd 437 i = [] := rfl
theorem ztn (i : Nat) : G.cmd 438 i = [] := rfl
theorem zgw (i : Nat) : G.cmd 439 i = [] := rfl
theorem zm8 (i : Nat) : G.cmd 440 i = [] := rfl
theorem zmr (i : Nat) : G.cmd 441 i = [] := rfl
theorem zbg (i : Nat) : G.cmd 442 i = [] := rfl
theorem qy6 (i : Nat) : G.cmd 443 i = [] := rfl
theorem qks (i : Nat) : G.cmd 444 i = [] := rfl
theorem qov (i : Nat) : G.cmd 445 i = [] := rfl
theorem qkm (i : Nat) : G.cmd 446 i = [] := rfl
theorem z5v (i : Nat) : G.cmd 447 i = [] := rfl
theorem qpn (i : Nat) : G.cmd 448 i = [] := rfl
theorem qro (i : Nat) : G.cmd 449 i = [] := rfl
theorem z1j (i : Nat) : G.cmd 450 i = [] := rfl
theorem qrt (i : Nat) : G.cmd 451 i = [] := rfl
theorem zvm (i : Nat) : G.cmd 452 i = [] := rfl
theorem zpl (i : Nat) : G.cmd 453 i = [] := rfl
theorem zqs : G.spec 6 0 = ⟨[1,2,7],[6],[],[],[],0⟩ := rfl
theorem qrg : G.spec 6 2 = ⟨[1,2,7,8],[1,2,7],[],[],[],0⟩ := rfl
theorem z8s : G.spec 8 0 = ⟨[0,3,4],[3],[3],[],[],0⟩ := rfl
theorem x1o : G.spec 8 3 = ⟨[0,3,4,5,6],[0,3,4,5],[],[(5,5)],[],0⟩ := rfl
theorem zwm : G.spec 8 5 = ⟨[0,3,4,5,8],[0,3,4,5],[],[(5,6)],[],0⟩ := rfl
theorem zy6 : G.spec 9 0 = ⟨[1,6,15,16,17],[1,6],[6],[],[],0⟩ := rfl
theorem zt7 : G.spec 9 2 = ⟨[1,6,30,31,32],[1,4,5,6],[6],[],[],0⟩ := rfl
theorem z9w : G.spec 10 0 = ⟨[0,6,7,8,9],[2,3,4,5,6,7,8,9],[8],[],[],0⟩ := rfl
theorem zsb : G.spec 14 0 = ⟨[9,10,34,35,36],[10],[],[],[],1000⟩ := rfl
theorem qwb : G.spec 16 0 = ⟨[0,1,5],[4],[],[],[],0⟩ := rfl
theorem qyv : G.spec 17 0 = ⟨[1,2,7],[6],[],[],[],0⟩ := rfl
theorem x3z : G.spec 20 1 = ⟨[4,5,6,82,83,84],[4,5,6],[],[],[],0⟩ := rfl
theorem qqu : G.spec 20 3 = ⟨[4,5,6,119,120,121],[4,5,6],[],[],[],0⟩ := rfl
theorem zzm : G.spec 21 0 = ⟨[0,3],[0,3],[3],[],[],0⟩ := rfl
theorem z6n : G.spec 22 1 = ⟨[0,2,3],[0,2,3],[],[(3,5)],[],0⟩ := rfl
theorem zdj : G.spec 22 3 = ⟨[0,2,3],[0,2,3],[],[(3,6)],[],0⟩ := rfl
theorem x1m : G.spec 33 0 = ⟨[5,6,7],[2],[],[],[],0⟩ := rfl
theorem ziq : G.spec 35 0 = ⟨[0,5,6,7],[2],[],[],[],0⟩ := rfl
theorem zv8 : G.spec 37 0 = ⟨[0,3],[0,3],[],[],[],0⟩ := rfl
theorem zg1 : G.spec 60 0 = ⟨[0,4,5,6],[0,2,3,4,5,6],[],[],[],0⟩ := rfl
theorem fz1 : G.frz 1 = false := rfl
theorem fz2 : G.frz 2 = false := rfl
theorem fz3 : G.frz 3 = false := rfl
theorem fz4 : G.frz 4 = false := rfl
theorem fz5 : G.frz 5 = false := rfl
theorem fz6 : G.frz 6 = false := rfl
theorem fz7 : G.frz 7 = false := rfl
theorem fz8 : G.frz 8 = false := rfl
theorem fz9 : G.frz 9 = false := rfl
theorem zq7 : G.frz 10 = false := rfl
theorem zw2 : G.frz 11 = false := rfl
theorem x01 : G.frz 12 = false := rfl
theorem zjl : G.frz 13 = false := rfl
theorem z3n : G.frz 14 = false := rfl
theorem qxj : G.frz 15 = false := rfl
theorem zpd : G.frz 16 = false := rfl
theorem qw8 : G.frz 17 = false := rfl
theorem qsp : G.frz 18 = false := rfl
theorem z6p : G.frz 19 = false := rfl
theorem x0i : G.frz 20 = false := rfl
theorem qmp : G.frz 21 = false := rfl
theorem zbl : G.frz 22 = false := rfl
theorem zac : G.frz 23 = false := rfl
theorem qu9 : G.frz 24 = false := rfl
theorem qta : G.frz 25 = false := rfl
theorem zj6 : G.frz 26 = false := rfl
theorem qmh : G.frz 27 = false := rfl
theorem x0l : G.frz 28 = false := rfl
theorem zgy : G.frz 30 = false := rfl
theorem zbd : G.frz 32 = false := rfl
theorem zgd : G.frz 33 = false := rfl
theorem zkf : G.frz 34 = false := rfl
theorem qrb : G.frz 35 = false := rfl
theorem zkx : G.frz 36 = false := rfl
theorem qki : G.frz 37 = false := rfl
theorem z10 : G.frz 38 = false := rfl
theorem qts : G.frz 40 = false := rfl
theorem z9s : G.frz 41 = false := rfl
theorem zv0 : G.frz 42 = false := rfl
theorem zmg : G.frz 43 = false := rfl
theorem zrd : G.frz 44 = false := rfl
theorem x0u : G.frz 45 = false := rfl
theorem zii : G.frz 46 = false := rfl
theorem zwp : G.frz 47 = false := rfl
theorem x02 : G.frz 48 = false := rfl
theorem qsh : G.frz 49 = false := rfl
theorem zaf : G.frz 50 = false := rfl
theorem qm0 : G.frz 51 = false := rfl
theorem qwf : G.frz 52 = false := rfl
theorem zr0 : G.frz 53 = false := rfl
theorem qth : G.frz 54 = false := rfl
theorem qu1 : G.frz 55 = false := rfl
theorem zgp : G.frz 56 = false := rfl
theorem zl7 : G.frz 58 = false := rfl
theorem qkf : G.frz 59 = false := rfl
theorem zvn : G.frz 60 = false := rfl
theorem zfr : G.frz 61 = false := rfl
theorem zsc : G.frz 62 = false := rfl
theorem qzr : G.frz 63 = false := rfl
theorem qq6 : G.frz 64 = false := rfl
theorem x3t : G.frz 65 = false := rfl
theorem zxp : G.frz 66 = false := rfl
theorem zq4 : G.frz 67 = false := rfl
theorem qnn : G.frz 68 = false := rfl
theorem zu0 : G.frz 69 = false := rfl
theorem zw3 : G.frz 71 = false := rfl
theorem zek : G.frz 72 = false := rfl
theorem zpw : G.frz 73 = false := rfl
theorem z6k : G.frz 74 = false := rfl
theorem zs2 : G.frz 75 = false := rfl
theorem qvg : G.frz 76 = false := rfl
theorem qpq : G.frz 77 = false := rfl
theorem zmq : G.frz 78 = false := rfl
theorem qof : G.frz 79 = false := rfl
theorem z3i : G.frz 80 = false := rfl
theorem zqu : G.frz 81 = false := rfl
theorem x1u : G.frz 82 = false := rfl
theorem qok : G.frz 83 = false := rfl
theorem zfc : G.frz 84 = false := rfl
theorem qko : G.frz 85 = false := rfl
theorem quf : G.frz 86 = false := rfl
theorem zpu : G.frz 87 = false := rfl
theorem z9f : G.frz 88 = false := rfl
theorem zmp : G.frz 89 = false := rfl
theorem zo4 : G.frz 90 = false := rfl
theorem zij : G.frz 91 = false := rfl
theorem qx7 : G.frz 93 = false := rfl
theorem zcv : G.frz 94 = false := rfl
theorem zql : G.frz 96 = false := rfl
theorem zq6 : G.frz 97 = false := rfl
theorem qk7 : G.frz 99 = false := rfl
theorem zy3 : G.frz 100 = false := rfl
theorem z6j : G.frz 101 = false := rfl
theorem zj8 : G.frz 102 = false := rfl
theorem zu3 : G.frz 103 = false := rfl
theorem zhd : G.frz 104 = false := rfl
theorem qrc : G.frz 105 = false := rfl
theorem zrj : G.frz 106 = false := rfl
theorem x3k : G.frz 107 = false := rfl
theorem qvl : G.frz 109 = false := rfl
theorem zye : G.frz 110 = false := rfl
theorem zb5 : G.frz 111 = false := rfl
theorem zvo : G.frz 112 = false := rfl
theorem zd7 : G.frz 114 = false := rfl
theorem que : G.frz 115 = false := rfl
theorem zfz : G.frz 116 = false := rfl
theorem zlt : G.frz 117 = false := rfl
theorem zie : G.frz 118 = false := rfl
theorem qy8 : G.frz 119 = false := rfl
theorem qkx : G.frz 120 = false := rfl
theorem zxn : G.frz 121 = false := rfl
theorem zm2 : G.frz 122 = false := rfl
theorem qqr : G.frz 123 = false := rfl
theorem z97 : G.frz 124 = false := rfl
theorem z0b : G.frz 125 = false := rfl
theorem ziw : G.frz 127 = false := rfl
theorem zg0 : G.frz 128 = false := rfl
theorem x3p : G.frz 129 = false := rfl
theorem zgj : G.frz 130 = false := rfl
theorem qm8 : G.frz 131 = false := rfl
theorem x1x : G.frz 132 = false := rfl
theorem qu8 : G.frz 133 = false := rfl
theorem z2n : G.frz 135 = false := rfl
theorem z6g : G.frz 136 = false := rfl
theorem zxy : G.frz 137 = false := rfl
theorem z9t : G.frz 138 = false := rfl
theorem zuf : G.frz 139 = false := rfl
theorem qu0 : G.frz 140 = false := rfl
theorem qmc : G.frz 141 = false := rfl
theorem z0o : G.frz 142 = false := rfl
theorem zkd : G.frz 143 = false := rfl
theorem zr1 : G.frz 144 = false := rfl
theorem z4z : G.frz 145 = false := rfl
theorem qp6 : G.frz 147 = false := rfl
theorem zzq : G.frz 148 = false := rfl
theorem zoe : G.frz 150 = false := rfl
theorem qt0 : G.frz 151 = false := rfl
theorem z3t : G.frz 152 = false := rfl
theorem zmd : G.frz 153 = false := rfl
theorem z7m : G.frz 154 = false := rfl
theorem qyj : G.frz 155 = false := rfl
theorem z2x : G.frz 156 = false := rfl
theorem z6m : G.frz 158 = false := rfl
theorem zhj : G.frz 159 = false := rfl
theorem zs1 : G.frz 160 = false := rfl
theorem ztu : G.frz 161 = false := rfl
theorem zl2 : G.frz 163 = false := rfl
theorem zhn : G.frz 164 = false := rfl
theorem qva : G.frz 165 = false := rfl
theorem zmh : G.frz 166 = false := rfl
theorem zfw : G.frz 167 = false := rfl
theorem x12 : G.frz 168 = false := rfl
theorem x0t : G.frz 169 = false := rfl
theorem z9g : G.frz 170 = false := rfl
theorem z8n : G.frz 171 = false := rfl
theorem zhh : G.frz 172 = false := rfl
theorem x3v : G.frz 173 = false := rfl
theorem zi3 : G.frz 174 = false := rfl
theorem qzw : G.frz 175 = false := rfl
theorem zgq : G.frz 176 = false := rfl
theorem zn3 : G.frz 177 = false := rfl
theorem z1d : G.frz 178 = false := rfl
theorem zam : G.frz 179 = false := rfl
theorem qt4 : G.frz 180 = false := rfl
theorem zcr : G.frz 181 = false := rfl
theorem qsi : G.frz 182 = false := rfl
theorem zsz : G.frz 183 = false := rfl
theorem zev : G.frz 184 = false := rfl
theorem qt1 : G.frz 185 = false := rfl
theorem zg4 : G.frz 186 = false := rfl
theorem zmc : G.frz 188 = false := rfl
theorem z3u : G.frz 189 = false := rfl
theorem qpx : G.frz 190 = false := rfl
theorem qoh : G.frz 191 = false := rfl
theorem qyb : G.frz 192 = false := rfl
theorem qrr : G.frz 193 = false := rfl
theorem z8u : G.frz 194 = false := rfl
theorem zd6 : G.frz 195 = false := rfl
theorem qom : G.frz 197 = false := rfl
theorem qtz : G.frz 198 = false := rfl
theorem qrw : G.frz 199 = false := rfl
theorem zvc : G.frz 200 = false := rfl
theorem zkw : G.frz 201 = false := rfl
theorem zfq : G.frz 203 = false := rfl
theorem zc0 : G.frz 204 = false := rfl
theorem zml : G.frz 205 = false := rfl
theorem qu4 : G.frz 207 = false := rfl
theorem ql9 : G.frz 208 = false := rfl
theorem qiz : G.frz 210 = false := rfl
theorem zm5 : G.frz 211 = false := rfl
theorem qrn : G.frz 212 = false := rfl
theorem qsf : G.frz 213 = false := rfl
theorem qmi : G.frz 214 = false := rfl
theorem zh1 : G.frz 215 = false := rfl
theorem zhv : G.frz 216 = false := rfl
theorem qvx : G.frz 218 = false := rfl
theorem qir : G.frz 219 = false := rfl
theorem zpo : G.frz 220 = false := rfl
theorem qqg : G.frz 221 = false := rfl
theorem qxu : G.frz 222 = false := rfl
theorem znp : G.frz 223 = false := rfl
theorem zi9 : G.frz 224 = false := rfl
theorem z0t : G.frz 225 = false := rfl
theorem zrw : G.frz 226 = false := rfl
theorem zsk : G.frz 227 = false := rfl
theorem qzb : G.frz 228 = false := rfl
theorem qwg : G.frz 229 = false := rfl
theorem qxp : G.frz 230 = false := rfl
theorem zzj : G.frz 231 = false := rfl
theorem qpv : G.frz 232 = false := rfl
theorem zm0 : G.frz 233 = false := rfl
theorem qtn : G.frz 235 = false := rfl
theorem z5p : G.frz 236 = false := rfl
theorem x2s : G.frz 238 = false := rfl
theorem zyl : G.frz 239 = false := rfl
theorem zk9 : G.frz 240 = false := rfl
theorem qle : G.frz 241 = false := rfl
theorem zvk : G.frz 242 = false := rfl
theorem qmb : G.frz 243 = false := rfl
theorem qpd : G.frz 244 = false := rfl
theorem qy1 : G.frz 245 = false := rfl
theorem zmn : G.frz 246 = false := rfl
theorem zee : G.frz 247 = false := rfl
theorem zju : G.frz 248 = false := rfl
theorem qxk : G.frz 249 = false := rfl
theorem zrz : G.frz 250 = false := rfl
theorem qvy : G.frz 251 = false := rfl
theorem qnx : G.frz 252 = false := rfl
theorem zv6 : G.frz 253 = false := rfl
theorem z6v : G.frz 254 = false := rfl
theorem qz0 : G.frz 255 = false := rfl
theorem zae : G.frz 256 = false := rfl
theorem qp3 : G.frz 257 = false := rfl
theorem zjb : G.frz 258 = false := rfl
theorem qq9 : G.frz 259 = false := rfl
theorem zvu : G.frz 260 = false := rfl
theorem zto : G.frz 261 = false := rfl
theorem ql8 : G.frz 262 = false := rfl
theorem zfv : G.frz 263 = false := rfl
theorem x2o : G.frz 264 = false := rfl
theorem qw0 : G.frz 265 = false := rfl
theorem zix : G.frz 267 = false := rfl
theorem x2c : G.frz 268 = false := rfl
theorem zrh : G.frz 269 = false := rfl
theorem qup : G.frz 270 = false := rfl
theorem z5e : G.frz 271 = false := rfl
theorem z0u : G.frz 272 = false := rfl
theorem qyc : G.frz 273 = false := rfl
theorem z2d : G.frz 274 = false := rfl
theorem zvb : G.frz 275 = false := rfl
theorem qrq : G.frz 277 = false := rfl
theorem z6s : G.frz 278 = false := rfl
theorem qj5 : G.frz 279 = false := rfl
theorem zoi : G.frz 280 = false := rfl
theorem zea : G.frz 281 = false := rfl
theorem zz2 : G.frz 283 = false := rfl
theorem qji : G.frz 285 = false := rfl
theorem qyk : G.frz 286 = false := rfl
theorem zjf : G.frz 287 = false := rfl
theorem z9j : G.frz 288 = false := rfl
theorem zxc : G.frz 289 = false := rfl
theorem qn1 : G.frz 290 = false := rfl
theorem zsx : G.frz 291 = false := rfl
theorem zvh : G.frz 292 = false := rfl
theorem zj1 : G.frz 293 = false := rfl
theorem qo8 : G.frz 294 = false := rfl
theorem z6i : G.frz 295 = false := rfl
theorem qmj : G.frz 296 = false := rfl
theorem ziz : G.frz 297 = false := rfl
theorem qm5 : G.frz 299 = false := rfl
theorem zn1 : G.frz 300 = false := rfl
theorem z6c : G.frz 301 = false := rfl
theorem qun : G.frz 302 = false := rfl
theorem zqf : G.frz 303 = false := rfl
theorem qzg : G.frz 304 = false := rfl
theorem qr8 : G.frz 305 = false := rfl
theorem x0r : G.frz 306 = false := rfl
theorem zfm : G.frz 307 = false := rfl
theorem qkr : G.frz 308 = false := rfl
theorem qra : G.frz 309 = false := rfl
theorem zob : G.frz 310 = false := rfl
theorem qm9 : G.frz 311 = false := rfl
theorem qwy : G.frz 312 = false := rfl
theorem zlh : G.frz 314 = false := rfl
theorem qlc : G.frz 315 = false := rfl
theorem zlz : G.frz 316 = false := rfl
theorem zq8 : G.frz 317 = false := rfl
theorem z2k : G.frz 318 = false := rfl
theorem zt3 : G.frz 319 = false := rfl
theorem qpe : G.frz 320 = false := rfl
theorem ztq : G.frz 321 = false := rfl
theorem qvf : G.frz 322 = false := rfl
theorem zwf : G.frz 323 = false := rfl
theorem qkc : G.frz 324 = false := rfl
theorem qtk : G.frz 325 = false := rfl
theorem z5j : G.frz 326 = false := rfl
theorem zw1 : G.frz 327 = false := rfl
theorem zcb : G.frz 328 = false := rfl
theorem qjn : G.frz 329 = false := rfl
theorem z4b : G.frz 330 = false := rfl
theorem zct : G.frz 331 = false := rfl
theorem zwe : G.frz 332 = false := rfl
theorem qqn : G.frz 333 = false := rfl
theorem zcc : G.frz 334 = false := rfl
theorem zt8 : G.frz 335 = false := rfl
theorem qnb : G.frz 336 = false := rfl
theorem zr5 : G.frz 337 = false := rfl
theorem quu : G.frz 338 = false := rfl
theorem qv5 : G.frz 339 = false := rfl
theorem z6h : G.frz 341 = false := rfl
theorem qpm : G.frz 342 = false := rfl
theorem z7q : G.frz 343 = false := rfl
theorem qp4 : G.frz 344 = false := rfl
theorem ztl : G.frz 345 = false := rfl
theorem z14 : G.frz 346 = false := rfl
theorem zhi : G.frz 347 = false := rfl
theorem zdc : G.frz 348 = false := rfl
theorem zls : G.frz 349 = false := rfl
theorem qst : G.frz 350 = false := rfl
theorem zlx : G.frz 351 = false := rfl
theorem zo7 : G.frz 352 = false := rfl
theorem qpt : G.frz 353 = false := rfl
theorem z9x : G.frz 354 = false := rfl
theorem zzb : G.frz 355 = false := rfl
theorem qwl : G.frz 356 = false := rfl
theorem qlg : G.frz 357 = false := rfl
theorem z7n : G.frz 358 = false := rfl
theorem z1f : G.frz 359 = false := rfl
theorem qq1 : G.frz 360 = false := rfl
theorem zwj : G.frz 361 = false := rfl
theorem zdk : G.frz 362 = false := rfl
theorem zxz : G.frz 363 = false := rfl
theorem zti : G.frz 364 = false := rfl
theorem qt9 : G.frz 365 = false := rfl
theorem zrb : G.frz 366 = false := rfl
theorem z2r : G.frz 367 = false := rfl
theorem qjg : G.frz 368 = false := rfl
theorem zpy : G.frz 369 = false := rfl
theorem qpf : G.frz 370 = false := rfl
theorem zvw : G.frz 371 = false := rfl
theorem ztp : G.frz 372 = false := rfl
theorem x0f : G.frz 374 = false := rfl
theorem z6x : G.frz 375 = false := rfl
theorem qua : G.frz 376 = false := rfl
theorem z8d : G.frz 377 = false := rfl
theorem qjt : G.frz 379 = false := rfl
theorem qm3 : G.frz 380 = false := rfl
theorem zvy : G.frz 381 = false := rfl
theorem zv3 : G.frz 382 = false := rfl
theorem qoq : G.frz 383 = false := rfl
theorem zp8 : G.frz 385 = false := rfl
theorem ze5 : G.frz 386 = false := rfl
theorem qq7 : G.frz 387 = false := rfl
theorem zj4 : G.frz 389 = false := rfl
theorem ziy : G.frz 390 = false := rfl
theorem zmu : G.frz 391 = false := rfl
theorem qvj : G.frz 392 = false := rfl
theorem ztc : G.frz 393 = false := rfl
theorem zgt : G.frz 394 = false := rfl
theorem qn5 : G.frz 395 = false := rfl
theorem qq8 : G.frz 396 = false := rfl
theorem qur : G.frz 397 = false := rfl
theorem qp7 : G.frz 398 = false := rfl
theorem qj6 : G.frz 399 = false := rfl
theorem qp0 : G.frz 400 = false := rfl
theorem znx : G.frz 401 = false := rfl
theorem zjy : G.frz 402 = false := rfl
theorem qjo : G.frz 403 = false := rfl
theorem zc7 : G.frz 404 = false := rfl
theorem z4e : G.frz 405 = false := rfl
theorem zyh : G.frz 406 = false := rfl
theorem qze : G.frz 408 = false := rfl
theorem zp4 : G.frz 410 = false := rfl
theorem zve : G.frz 411 = false := rfl
theorem zh7 : G.frz 412 = false := rfl
theorem x1r : G.frz 413 = false := rfl
theorem zz4 : G.frz 414 = false := rfl
theorem qjs : G.frz 415 = false := rfl
theorem x3q : G.frz 416 = false := rfl
theorem z15 : G.frz 417 = false := rfl
theorem zf1 : G.frz 418 = false := rfl
theorem ztt : G.frz 419 = false := rfl
theorem zrn : G.frz 421 = false := rfl
theorem zu1 : G.frz 422 = false := rfl
theorem x2d : G.frz 424 = false := rfl
theorem qqj : G.frz 426 = false := rfl
theorem zhp : G.frz 427 = false := rfl
theorem zis : G.frz 428 = false := rfl
theorem qqx : G.frz 429 = false := rfl
theorem qs1 : G.frz 430 = false := rfl
theorem qyp : G.frz 431 = false := rfl
theorem qxv : G.frz 432 = false := rfl
theorem z06 : G.frz 433 = false := rfl
theorem zi2 : G.frz 435 = false := rfl
theorem qwv : G.frz 436 = false := rfl
theorem z2a : G.frz 437 = false := rfl
theorem z4p : G.frz 438 = false := rfl
theorem zro : G.frz 439 = false := rfl
theorem qni : G.frz 440 = false := rfl
theorem zfh : G.frz 441 = false := rfl
theorem zsq : G.frz 442 = false := rfl
theorem qr9 : G.frz 443 = false := rfl
theorem qud : G.frz 444 = false := rfl
theorem x1d : G.frz 445 = false := rfl
theorem znd : G.frz 446 = false := rfl
theorem x1l : G.frz 447 = false := rfl
theorem zmy : G.frz 449 = false := rfl
theorem zwz : G.frz 450 = false := rfl
theorem z5b : G.frz 451 = false := rfl
theorem x33 : G.frz 452 = false := rfl
theorem ztb : G.frz 453 = false := rfl
theorem zv9 : G.frz 454 = false := rfl
theorem qlj : G.frz 456 = false := rfl
theorem qw6 : G.frz 458 = false := rfl
theorem z4t : G.frz 459 = false := rfl
theorem zak : G.frz 460 = false := rfl
theorem zxv : G.frz 461 = false := rfl
theorem qnq : G.frz 462 = false := rfl
theorem zq0 : G.frz 464 = false := rfl
theorem qjh : G.frz 465 = false := rfl
theorem qqy : G.frz 466 = false := rfl
theorem zr2 : G.frz 467 = false := rfl
theorem qv9 : G.frz 468 = false := rfl
theorem zne : G.frz 469 = false := rfl
theorem zn8 : G.frz 470 = false := rfl
theorem zyy : G.frz 471 = false := rfl
theorem zlo : G.frz 472 = false := rfl
theorem zof : G.frz 473 = false := rfl
theorem zcj : G.frz 474 = false := rfl
theorem z6u : G.frz 475 = false := rfl
theorem qjm : G.frz 476 = false := rfl
theorem zbc : G.frz 477 = false := rfl
theorem zt0 : G.frz 478 = false := rfl
theorem z6y : G.frz 479 = false := rfl
theorem z5w : G.frz 480 = false := rfl
theorem zf3 : G.frz 482 = false := rfl
theorem zmz : G.frz 483 = false := rfl
theorem z81 : G.frz 484 = false := rfl
theorem z4c : G.frz 485 = false := rfl
theorem zhq : G.frz 486 = false := rfl
theorem zin : G.frz 487 = false := rfl
theorem zwh : G.frz 488 = false := rfl
theorem qpp : G.frz 489 = false := rfl
theorem zug : G.frz 490 = false := rfl
theorem qzu : G.frz 491 = false := rfl
theorem zly : G.frz 492 = false := rfl
theorem qtt : G.frz 493 = false := rfl
theorem x2g : G.frz 494 = false := rfl
theorem qsu : G.frz 496 = false := rfl
theorem qjx : G.frz 497 = false := rfl
theorem zeo : G.frz 498 = false := rfl
theorem zgu : G.frz 499 = false := rfl
theorem z5z : G.frz 500 = false := rfl
theorem zhw : G.frz 501 = false := rfl
theorem zck : G.frz 502 = false := rfl
theorem qm7 : G.frz 503 = false := rfl
theorem qk0 : G.frz 504 = false := rfl
theorem z5f : G.frz 505 = false := rfl
theorem zfo : G.frz 507 = false := rfl
theorem z9y : G.frz 508 = false := rfl
theorem zxx : G.frz 509 = false := rfl
theorem qo4 : G.frz 510 = false := rfl
theorem qnc : G.frz 511 = false := rfl
theorem zn2 : G.frz 512 = false := rfl
theorem qkg : G.frz 514 = false := rfl
theorem qm4 : G.frz 515 = false := rfl
theorem znu : G.frz 517 = false := rfl
theorem zxe : G.frz 518 = false := rfl
theorem zeh : G.frz 519 = false := rfl
theorem zb9 : G.frz 520 = false := rfl
theorem z8j : G.frz 521 = false := rfl
theorem zit : G.frz 522 = false := rfl
theorem zwc : G.frz 523 = false := rfl
theorem zy4 : G.frz 524 = false := rfl
theorem zuw : G.frz 525 = false := rfl
theorem qs4 : G.frz 526 = false := rfl
theorem zh0 : G.frz 527 = false := rfl
theorem qri : G.frz 528 = false := rfl
theorem ziv : G.frz 529 = false := rfl
theorem zcw : G.frz 530 = false := rfl
theorem qnw : G.frz 531 = false := rfl
theorem zky : G.frz 532 = false := rfl
theorem zdw : G.frz 533 = false := rfl
theorem zmv : G.frz 534 = false := rfl
theorem zuh : G.frz 535 = false := rfl
theorem z3k : G.frz 536 = false := rfl
theorem z5r : G.frz 537 = false := rfl
theorem mf1 : G.mrf 1 = false := rfl
theorem mf2 : G.mrf 2 = false := rfl
theorem mf3 : G.mrf 3 = false := rfl
theorem mf4 : G.mrf 4 = false := rfl
theorem mf5 : G.mrf 5 = false := rfl
theorem mf6 : G.mrf 6 = false := rfl
theorem mf7 : G.mrf 7 = false := rfl
theorem mf8 : G.mrf 8 = false := rfl
theorem mf9 : G.mrf 9 = false := rfl
theorem qwj : G.mrf 10 = false := rfl
theorem z7u : G.mrf 11 = false := rfl
theorem zwk : G.mrf 12 = false := rfl
theorem zdx : G.mrf 13 = false := rfl
theorem qyg : G.mrf 14 = false := rfl
theorem zn6 : G.mrf 15 = false := rfl
theorem x3j : G.mrf 16 = false := rfl
theorem zhm : G.mrf 17 = false := rfl
theorem zd3 : G.mrf 18 = false := rfl
theorem z7o : G.mrf 19 = false := rfl
theorem z5s : G.mrf 20 = false := rfl
theorem zty : G.mrf 21 = false := rfl
theorem qsx : G.mrf 22 = false := rfl
theorem zzk : G.mrf 23 = false := rfl
theorem z8r : G.mrf 24 = false := rfl
theorem qll : G.mrf 25 = false := rfl
theorem zsi : G.mrf 26 = false := rfl
theorem zzf : G.mrf 27 = false := rfl
theorem qo2 : G.mrf 28 = false := rfl
theorem zxt : G.mrf 30 = false := rfl
theorem zuk : G.mrf 32 = false := rfl
theorem zu4 : G.mrf 33 = false := rfl
theorem zm1 : G.mrf 34 = false := rfl
theorem qo1 : G.mrf 35 = false := rfl
theorem zx6 : G.mrf 36 = false := rfl
theorem qux : G.mrf 37 = false := rfl
theorem zf8 : G.mrf 38 = false := rfl
theorem zsj : G.mrf 40 = false := rfl
theorem zri : G.mrf 41 = false := rfl
theorem qpr : G.mrf 42 = false := rfl
theorem zqr : G.mrf 43 = false := rfl
theorem zd8 : G.mrf 44 = false := rfl
theorem qty : G.mrf 45 = false := rfl
theorem zik : G.mrf 46 = false := rfl
theorem qno : G.mrf 47 = false := rfl
theorem zf7 : G.mrf 48 = false := rfl
theorem qjp : G.mrf 49 = false := rfl
theorem x1q : G.mrf 50 = false := rfl
theorem zey : G.mrf 51 = false := rfl
theorem z8p : G.mrf 52 = false := rfl
theorem zh8 : G.mrf 53 = false := rfl
theorem x17 : G.mrf 54 = false := rfl
theorem zui : G.mrf 55 = false := rfl
theorem zqg : G.mrf 56 = false := rfl
theorem zou : G.mrf 58 = false := rfl
theorem zdq : G.mrf 59 = false := rfl
theorem x06 : G.mrf 60 = false := rfl
theorem zbp : G.mrf 61 = false := rfl
theorem qiq : G.mrf 62 = false := rfl
theorem zjc : G.mrf 63 = false := rfl
theorem qon : G.mrf 64 = false := rfl
theorem z6o : G.mrf 65 = false := rfl
theorem zg5 : G.mrf 66 = false := rfl
theorem z5g : G.mrf 67 = false := rfl
theorem z6t : G.mrf 68 = false := rfl
theorem zjr : G.mrf 69 = false := rfl
theorem z6q : G.mrf 71 = false := rfl
theorem zht : G.mrf 72 = false := rfl
theorem zxj : G.mrf 73 = false := rfl
theorem qyu : G.mrf 74 = false := rfl
theorem za9 : G.mrf 75 = false := rfl
theorem zc9 : G.mrf 76 = true := rfl
theorem zoa : G.mrf 77 = false := rfl
theorem zmw : G.mrf 78 = false := rfl
theorem zua : G.mrf 79 = false := rfl
theorem z7s : G.mrf 80 = false := rfl
theorem zx0 : G.mrf 81 = false := rfl
theorem qxe : G.mrf 82 = false := rfl
theorem qyt : G.mrf 83 = false := rfl
theorem z1b : G.mrf 84 = false := rfl
theorem qpk : G.mrf 85 = false := rfl
theorem z07 : G.mrf 86 = false := rfl
theorem zys : G.mrf 87 = false := rfl
theorem qqm : G.mrf 88 = false := rfl
theorem qrs : G.mrf 89 = false := rfl
theorem zjv : G.mrf 90 = false := rfl
theorem zh2 : G.mrf 91 = false := rfl
theorem zl0 : G.mrf 93 = false := rfl
theorem zw0 : G.mrf 94 = false := rfl
theorem zcn : G.mrf 96 = false := rfl
theorem z5q : G.mrf 97 = false := rfl
theorem qye : G.mrf 99 = false := rfl
theorem qii : G.mrf 100 = false := rfl
theorem zw6 : G.mrf 101 = false := rfl
theorem zjg : G.mrf 102 = false := rfl
theorem qxn : G.mrf 103 = false := rfl
theorem z4s : G.mrf 104 = false := rfl
theorem x2i : G.mrf 105 = false := rfl
theorem zi8 : G.mrf 106 = false := rfl
theorem zw4 : G.mrf 107 = false := rfl
theorem zvs : G.mrf 109 = false := rfl
theorem zus : G.mrf 110 = false := rfl
theorem zfs : G.mrf 111 = false := rfl
theorem zil : G.mrf 112 = false := rfl
theorem qwq : G.mrf 114 = false := rfl
theorem zxk : G.mrf 115 = false := rfl
theorem zz8 : G.mrf 116 = false := rfl
theorem zmi : G.mrf 117 = false := rfl
theorem z6d : G.mrf 118 = false := rfl
theorem znr : G.mrf 119 = false := rfl
theorem zv1 : G.mrf 120 = false := rfl
theorem zxi : G.mrf 121 = false := rfl
theorem qie : G.mrf 122 = false := rfl
theorem qjq : G.mrf 123 = false := rfl
theorem zdd : G.mrf 124 = false := rfl
theorem qja : G.mrf 125 = false := rfl
theorem qvs : G.mrf 127 = false := rfl
theorem z9m : G.mrf 128 = false := rfl
theorem zpi : G.mrf 129 = false := rfl
theorem zow : G.mrf 130 = false := rfl
theorem zq9 : G.mrf 131 = false := rfl
theorem qrf : G.mrf 132 = false := rfl
theorem z1t : G.mrf 133 = false := rfl
theorem z3s : G.mrf 135 = false := rfl
theorem zr7 : G.mrf 136 = false := rfl
theorem zdi : G.mrf 137 = false := rfl
theorem qih : G.mrf 138 = false := rfl
theorem z0m : G.mrf 139 = false := rfl
theorem z1r : G.mrf 140 = false := rfl
theorem qre : G.mrf 141 = false := rfl
theorem znf : G.mrf 142 = false := rfl
theorem zl3 : G.mrf 143 = false := rfl
theorem znq : G.mrf 144 = false := rfl
theorem qmv : G.mrf 145 = false := rfl
theorem zpe : G.mrf 147 = false := rfl
theorem zah : G.mrf 148 = false := rfl
theorem za0 : G.mrf 150 = false := rfl
theorem qig : G.mrf 151 = false := rfl
theorem z3x : G.mrf 152 = false := rfl
theorem zby : G.mrf 153 = false := rfl
theorem zrr : G.mrf 154 = false := rfl
theorem qn3 : G.mrf 155 = false := rfl
theorem ztw : G.mrf 156 = false := rfl
theorem zay : G.mrf 158 = false := rfl
theorem qz3 : G.mrf 159 = false := rfl
theorem zww : G.mrf 160 = false := rfl
theorem zlk : G.mrf 161 = false := rfl
theorem z4h : G.mrf 163 = false := rfl
theorem zhr : G.mrf 164 = false := rfl
theorem zo0 : G.mrf 165 = false := rfl
theorem qnz : G.mrf 166 = false := rfl
theorem zrg : G.mrf 167 = false := rfl
theorem zkp : G.mrf 168 = false := rfl
theorem qsm : G.mrf 169 = false := rfl
theorem zop : G.mrf 170 = false := rfl
theorem qwk : G.mrf 171 = false := rfl
theorem qsq : G.mrf 172 = false := rfl
theorem zox : G.mrf 173 = false := rfl
theorem qx9 : G.mrf 174 = false := rfl
theorem zb0 : G.mrf 175 = false := rfl
theorem zc4 : G.mrf 176 = false := rfl
theorem zzd : G.mrf 177 = false := rfl
theorem qu5 : G.mrf 178 = false := rfl
theorem z0x : G.mrf 179 = false := rfl
theorem qsc : G.mrf 180 = false := rfl
theorem zoo : G.mrf 181 = false := rfl
theorem qxl : G.mrf 182 = false := rfl
theorem qwa : G.mrf 183 = false := rfl
theorem z0z : G.mrf 184 = false := rfl
theorem zvr : G.mrf 185 = false := rfl
theorem zbe : G.mrf 186 = false := rfl
theorem x3o : G.mrf 188 = false := rfl
theorem qlq : G.mrf 189 = false := rfl
theorem qzx : G.mrf 190 = false := rfl
theorem x1s : G.mrf 191 = false := rfl
theorem z3m : G.mrf 192 = false := rfl
theorem zya : G.mrf 193 = false := rfl
theorem z2h : G.mrf 194 = false := rfl
theorem x2e : G.mrf 195 = false := rfl
theorem ze1 : G.mrf 197 = false := rfl
theorem qwd : G.mrf 198 = false := rfl
theorem z2t : G.mrf 199 = false := rfl
theorem zt1 : G.mrf 200 = false := rfl
theorem qxx : G.mrf 201 = false := rfl
theorem x2h : G.mrf 203 = false := rfl
theorem zd9 : G.mrf 204 = false := rfl
theorem zce : G.mrf 205 = false := rfl
theorem qyw : G.mrf 207 = false := rfl
theorem qmd : G.mrf 208 = false := rfl
theorem qxq : G.mrf 210 = false := rfl
theorem zaq : G.mrf 211 = false := rfl
theorem zxl : G.mrf 212 = false := rfl
theorem qsk : G.mrf 213 = false := rfl
theorem zi0 : G.mrf 214 = false := rfl
theorem qt3 : G.mrf 215 = false := rfl
theorem z3y : G.mrf 216 = false := rfl
theorem zs7 : G.mrf 218 = false := rfl
theorem zbb : G.mrf 219 = false := rfl
theorem zg7 : G.mrf 220 = false := rfl
theorem zi5 : G.mrf 221 = false := rfl
theorem zyb : G.mrf 222 = false := rfl
theorem qmn : G.mrf 223 = false := rfl
theorem z9n : G.mrf 224 = false := rfl
theorem qp2 : G.mrf 225 = false := rfl
theorem ze3 : G.mrf 226 = false := rfl
theorem x1f : G.mrf 227 = false := rfl
theorem qtd : G.mrf 228 = false := rfl
theorem zyi : G.mrf 229 = false := rfl
theorem zn4 : G.mrf 230 = false := rfl
theorem qil : G.mrf 231 = false := rfl
theorem zh9 : G.mrf 232 = false := rfl
theorem zlw : G.mrf 233 = false := rfl
theorem zp2 : G.mrf 235 = false := rfl
theorem zm9 : G.mrf 236 = false := rfl
theorem zn7 : G.mrf 238 = false := rfl
theorem zjd : G.mrf 239 = false := rfl
theorem qw4 : G.mrf 240 = false := rfl
theorem zqj : G.mrf 241 = false := rfl
theorem x18 : G.mrf 242 = false := rfl
theorem zjx : G.mrf 243 = false := rfl
theorem zw9 : G.mrf 244 = false := rfl
theorem zd5 : G.mrf 245 = false := rfl
theorem zjk : G.mrf 246 = false := rfl
theorem z5m : G.mrf 247 = false := rfl
theorem zrq : G.mrf 248 = false := rfl
theorem zau : G.mrf 249 = false := rfl
theorem qzf : G.mrf 250 = false := rfl
theorem zch : G.mrf 251 = false := rfl
theorem zgb : G.mrf 252 = false := rfl
theorem qr1 : G.mrf 253 = false := rfl
theorem zfd : G.mrf 254 = false := rfl
theorem z8t : G.mrf 255 = false := rfl
theorem qry : G.mrf 256 = false := rfl
theorem qpu : G.mrf 257 = false := rfl
theorem qpw : G.mrf 258 = false := rfl
theorem qij : G.mrf 259 = false := rfl
theorem zeq : G.mrf 260 = false := rfl
theorem z8k : G.mrf 261 = false := rfl
theorem zb7 : G.mrf 262 = false := rfl
theorem zdn : G.mrf 263 = false := rfl
theorem qpg : G.mrf 264 = false := rfl
theorem zyf : G.mrf 265 = false := rfl
theorem qus : G.mrf 267 = false := rfl
theorem zan : G.mrf 268 = false := rfl
theorem za3 : G.mrf 269 = false := rfl
theorem qte : G.mrf 270 = false := rfl
theorem x1j : G.mrf 271 = false := rfl
theorem qjb : G.mrf 272 = false := rfl
theorem zrs : G.mrf 273 = false := rfl
theorem zvp : G.mrf 274 = false := rfl
theorem zy5 : G.mrf 275 = false := rfl
theorem z2v : G.mrf 277 = false := rfl
theorem qxw : G.mrf 278 = false := rfl
theorem zsg : G.mrf 279 = false := rfl
theorem zss : G.mrf 280 = false := rfl
theorem zc5 : G.mrf 281 = false := rfl
theorem zkg : G.mrf 283 = false := rfl
theorem qkz : G.mrf 285 = false := rfl
theorem zgs : G.mrf 286 = false := rfl
theorem qyz : G.mrf 287 = false := rfl
theorem z2l : G.mrf 288 = false := rfl
theorem zg3 : G.mrf 289 = false := rfl
theorem qzy : G.mrf 290 = false := rfl
theorem qj9 : G.mrf 291 = false := rfl
theorem zi6 : G.mrf 292 = false := rfl
theorem qmw : G.mrf 293 = false := rfl
theorem qvb : G.mrf 294 = false := rfl
theorem z4x : G.mrf 295 = false := rfl
theorem qtm : G.mrf 296 = false := rfl
theorem zp0 : G.mrf 297 = false := rfl
theorem qvr : G.mrf 299 = false := rfl
theorem zt4 : G.mrf 300 = false := rfl
theorem zpp : G.mrf 301 = false := rfl
theorem qr7 : G.mrf 302 = false := rfl
theorem zi1 : G.mrf 303 = false := rfl
theorem zcl : G.mrf 304 = false := rfl
theorem qlp : G.mrf 305 = false := rfl
theorem qzd : G.mrf 306 = false := rfl
theorem qvo : G.mrf 307 = false := rfl
theorem zfp : G.mrf 308 = false := rfl
theorem zzs : G.mrf 309 = false := rfl
theorem qk6 : G.mrf 310 = false := rfl
theorem zd4 : G.mrf 311 = false := rfl
theorem zwq : G.mrf 312 = false := rfl
theorem zdy : G.mrf 314 = false := rfl
theorem zg2 : G.mrf 315 = false := rfl
theorem zko : G.mrf 316 = false := rfl
theorem zo5 : G.mrf 317 = false := rfl
theorem zsv : G.mrf 318 = false := rfl
theorem qlf : G.mrf 319 = false := rfl
theorem zse : G.mrf 320 = false := rfl
theorem z6w : G.mrf 321 = false := rfl
theorem qlk : G.mrf 322 = false := rfl
theorem x1h : G.mrf 323 = false := rfl
theorem zj9 : G.mrf 324 = false := rfl
theorem zyp : G.mrf 325 = false := rfl
theorem z3j : G.mrf 326 = false := rfl
theorem zke : G.mrf 327 = false := rfl
theorem zbj : G.mrf 328 = false := rfl
theorem zvz : G.mrf 329 = false := rfl
theorem z7p : G.mrf 330 = false := rfl
theorem qkq : G.mrf 331 = false := rfl
theorem qqz : G.mrf 332 = false := rfl
theorem zyg : G.mrf 333 = false := rfl
theorem znk : G.mrf 334 = false := rfl
theorem x36 : G.mrf 335 = false := rfl
theorem z02 : G.mrf 336 = false := rfl
theorem qvi : G.mrf 337 = false := rfl
theorem z5u : G.mrf 338 = false := rfl
theorem zkh : G.mrf 339 = false := rfl
theorem qk2 : G.mrf 341 = false := rfl
theorem zzc : G.mrf 342 = false := rfl
theorem zrx : G.mrf 343 = false := rfl
theorem zxq : G.mrf 344 = false := rfl
theorem qwx : G.mrf 345 = false := rfl
theorem zwo : G.mrf 346 = false := rfl
theorem zbw : G.mrf 347 = false := rfl
theorem zec : G.mrf 348 = false := rfl
theorem z1g : G.mrf 349 = false := rfl
theorem qoz : G.mrf 350 = false := rfl
theorem zz9 : G.mrf 351 = true := rfl
theorem zgg : G.mrf 352 = false := rfl
theorem qqq : G.mrf 353 = false := rfl
theorem zmo : G.mrf 354 = true := rfl
theorem ql3 : G.mrf 355 = false := rfl
theorem zkz : G.mrf 356 = false := rfl
theorem zjt : G.mrf 357 = false := rfl
theorem z1i : G.mrf 358 = false := rfl
theorem qlh : G.mrf 359 = false := rfl
theorem zxo : G.mrf 360 = false := rfl
theorem qnm : G.mrf 361 = false := rfl
theorem qn7 : G.mrf 362 = false := rfl
theorem zhz : G.mrf 363 = false := rfl
theorem zyd : G.mrf 364 = false := rfl
theorem zei : G.mrf 365 = false := rfl
theorem z7a : G.mrf 366 = false := rfl
theorem qww : G.mrf 367 = false := rfl
theorem z7x : G.mrf 368 = false := rfl
theorem qt6 : G.mrf 369 = false := rfl
theorem x0s : G.mrf 370 = false := rfl
theorem qwc : G.mrf 371 = false := rfl
theorem qor : G.mrf 372 = false := rfl
theorem zs3 : G.mrf 374 = false := rfl
theorem qk8 : G.mrf 375 = false := rfl
theorem zjs : G.mrf 376 = false := rfl
theorem zh5 : G.mrf 377 = false := rfl
theorem zn5 : G.mrf 379 = false := rfl
theorem x3u : G.mrf 380 = true := rfl
theorem qmz : G.mrf 381 = false := rfl
theorem zeg : G.mrf 382 = false := rfl
theorem zyc : G.mrf 383 = false := rfl
theorem z5l : G.mrf 385 = false := rfl
theorem qw7 : G.mrf 386 = false := rfl
theorem x1g : G.mrf 387 = false := rfl
theorem zif : G.mrf 389 = false := rfl
theorem zxh : G.mrf 390 = false := rfl
theorem z5c : G.mrf 391 = false := rfl
theorem zr4 : G.mrf 392 = false := rfl
theorem qla : G.mrf 393 = false := rfl
theorem qrh : G.mrf 394 = false := rfl
theorem qys : G.mrf 395 = false := rfl
theorem zog : G.mrf 396 = false := rfl
theorem z7t : G.mrf 397 = false := rfl
theorem zaa : G.mrf 398 = false := rfl
theorem x2t : G.mrf 399 = false := rfl
theorem zqx : G.mrf 400 = false := rfl
theorem qq4 : G.mrf 401 = false := rfl
theorem qu6 : G.mrf 402 = false := rfl
theorem zbx : G.mrf 403 = false := rfl
theorem qzn : G.mrf 404 = false := rfl
theorem qs3 : G.mrf 405 = false := rfl
theorem zny : G.mrf 406 = false := rfl
theorem zhg : G.mrf 408 = false := rfl
theorem z8y : G.mrf 410 = false := rfl
theorem qox : G.mrf 411 = false := rfl
theorem qv2 : G.mrf 412 = false := rfl
theorem quw : G.mrf 413 = false := rfl
theorem zh3 : G.mrf 414 = false := rfl
theorem zja : G.mrf 415 = false := rfl
theorem zza : G.mrf 416 = false := rfl
theorem zwa : G.mrf 417 = false := rfl
theorem zxb : G.mrf 418 = false := rfl
theorem zpx : G.mrf 419 = false := rfl
theorem x2n : G.mrf 421 = false := rfl
theorem qqb : G.mrf 422 = false := rfl
theorem qqd : G.mrf 424 = false := rfl
theorem zpt : G.mrf 426 = false := rfl
theorem zsn : G.mrf 427 = false := rfl
theorem zfi : G.mrf 428 = false := rfl
theorem qlu : G.mrf 429 = false := rfl
theorem qxa : G.mrf 430 = false := rfl
theorem qjj : G.mrf 431 = false := rfl
theorem zo8 : G.mrf 432 = false := rfl
theorem qto : G.mrf 433 = false := rfl
theorem qpy : G.mrf 435 = false := rfl
theorem zxr : G.mrf 436 = false := rfl
theorem x2z : G.mrf 437 = false := rfl
theorem zes : G.mrf 438 = false := rfl
theorem qvn : G.mrf 439 = false := rfl
theorem qqt : G.mrf 440 = false := rfl
theorem z0a : G.mrf 441 = false := rfl
theorem x0g : G.mrf 442 = false := rfl
theorem zte : G.mrf 443 = false := rfl
theorem qso : G.mrf 444 = false := rfl
theorem quv : G.mrf 445 = false := rfl
theorem qlt : G.mrf 446 = false := rfl
theorem z5a : G.mrf 447 = false := rfl
theorem qr5 : G.mrf 449 = false := rfl
theorem qu2 : G.mrf 450 = false := rfl
theorem zt2 : G.mrf 451 = false := rfl
theorem x1i : G.mrf 452 = false := rfl
theorem qph : G.mrf 453 = false := rfl
theorem qy9 : G.mrf 454 = false := rfl
theorem z2w : G.mrf 456 = false := rfl
theorem z8o : G.mrf 458 = false := rfl
theorem qnj : G.mrf 459 = false := rfl
theorem x2u : G.mrf 460 = false := rfl
theorem zef : G.mrf 461 = false := rfl
theorem zc8 : G.mrf 462 = false := rfl
theorem z9r : G.mrf 464 = false := rfl
theorem qrd : G.mrf 465 = false := rfl
theorem x3m : G.mrf 466 = false := rfl
theorem zy2 : G.mrf 467 = false := rfl
theorem x07 : G.mrf 468 = false := rfl
theorem z0q : G.mrf 469 = false := rfl
theorem qow : G.mrf 470 = false := rfl
theorem z1p : G.mrf 471 = false := rfl
theorem qz6 : G.mrf 472 = false := rfl
theorem zz1 : G.mrf 473 = false := rfl
theorem z3w : G.mrf 474 = false := rfl
theorem z9o : G.mrf 475 = false := rfl
theorem x0c : G.mrf 476 = false := rfl
theorem qs9 : G.mrf 477 = false := rfl
theorem qy7 : G.mrf 478 = false := rfl
theorem zzo : G.mrf 479 = false := rfl
theorem znz : G.mrf 480 = false := rfl
theorem x1w : G.mrf 482 = false := rfl
theorem zma : G.mrf 483 = false := rfl
theorem qxi : G.mrf 484 = false := rfl
theorem x0q : G.mrf 485 = false := rfl
theorem quk : G.mrf 486 = false := rfl
theorem z5d : G.mrf 487 = false := rfl
theorem z8l : G.mrf 488 = false := rfl
theorem qr2 : G.mrf 489 = false := rfl
theorem qws : G.mrf 490 = false := rfl
theorem qo9 : G.mrf 491 = false := rfl
theorem qx8 : G.mrf 492 = false := rfl
theorem qxm : G.mrf 493 = false := rfl
theorem z1m : G.mrf 494 = false := rfl
theorem zyo : G.mrf 496 = false := rfl
theorem zo9 : G.mrf 497 = false := rfl
theorem qwe : G.mrf 498 = false := rfl
theorem z6l : G.mrf 499 = false := rfl
theorem zvq : G.mrf 500 = false := rfl
theorem zqv : G.mrf 501 = false := rfl
theorem zts : G.mrf 502 = false := rfl
theorem qyh : G.mrf 503 = false := rfl
theorem qss : G.mrf 504 = false := rfl
theorem x1y : G.mrf 505 = false := rfl
theorem qv3 : G.mrf 507 = false := rfl
theorem z4d : G.mrf 508 = false := rfl
theorem zyz : G.mrf 509 = false := rfl
theorem zvj : G.mrf 510 = false := rfl
theorem zvv : G.mrf 511 = false := rfl
theorem z1n : G.mrf 512 = false := rfl
theorem zwv : G.mrf 514 = false := rfl
theorem zfl : G.mrf 515 = false := rfl
theorem qq0 : G.mrf 517 = false := rfl
theorem zwu : G.mrf 518 = false := rfl
theorem zep : G.mrf 519 = false := rfl
theorem zz5 : G.mrf 520 = false := rfl
theorem qlb : G.mrf 521 = false := rfl
theorem znj : G.mrf 522 = false := rfl
theorem qne : G.mrf 523 = false := rfl
theorem zgc : G.mrf 524 = false := rfl
theorem qt7 : G.mrf 525 = false := rfl
theorem z9h : G.mrf 526 = false := rfl
theorem qvz : G.mrf 527 = false := rfl
theorem qik : G.mrf 528 = false := rfl
theorem zvf : G.mrf 529 = false := rfl
theorem qsz : G.mrf 530 = false := rfl
theorem qyr : G.mrf 531 = false := rfl
theorem qpz : G.mrf 532 = false := rfl
theorem z5n : G.mrf 533 = false := rfl
theorem zer : G.mrf 534 = false := rfl
theorem qzz : G.mrf 535 = false := rfl
theorem z3a : G.mrf 536 = false := rfl
theorem z7j : G.mrf 537 = false := rfl
theorem ti3 : G.ti 3 = some ⟨1,8,.int .i64,[.int .i64 0],false,none⟩ := by kernel_rfl
theorem ti4 : G.ti 4 = some ⟨1,1,.bool,[.bool false],false,none⟩ := by kernel_rfl
theorem ti5 : G.ti 5 = some ⟨1,1,.int .u8,[.int .u8 0],false,none⟩ := by kernel_rfl
theorem ti9 : G.ti 9 = some ⟨1,16,.string,[.str []],false,none⟩ := by kernel_rfl
theorem zbv : G.ti 22 = some ⟨1,24,.slice 37,[.sl true 0 []],false,none⟩ := by kernel_rfl
theorem zz0 : G.ti 23 = some ⟨1,24,.slice 45,[.sl true 0 []],false,none⟩ := by kernel_rfl
theorem zx4 : G.ti 24 = some ⟨1,24,.slice 5,[.sl true 0 []],false,none⟩ := by kernel_rfl
theorem zyt : G.ti 28 = some ⟨1,8,.int .i64,[.int .i64 0],false,none⟩ := by kernel_rfl
theorem z9u : G.ti 36 = some ⟨1,24,.slice 9,[.sl true 0 []],false,none⟩ := by kernel_rfl
theorem zg9 : G.ti 37 = some ⟨1,4,.int .u32,[.int .u32 0],false,none⟩ := by kernel_rfl
theorem qzo : G.ti 42 = some ⟨1,24,.slice 53,[.sl true 0 []],false,none⟩ := by kernel_rfl
theorem qqc : G.ti 43 = some ⟨1,24,.slice 56,[.sl true 0 []],false,none⟩ := by kernel_rfl
theorem qym : G.ti 45 = some ⟨7,104,.struct [(0,1,3),(1,1,9),(2,1,9),(3,1,3),(4,1,4),(5,1,42),(6,1,43)],[.int .i64 0,.str [],.str [],.int .i64 0,.bool false,.sl true 0 [],.sl true 0 []],true,none⟩ := by kernel_rfl
theorem zga : G.ti 51 = some ⟨2,16,.struct [(0,1,3),(1,1,3)],[.int .i64 0,.int .i64 0],true,none⟩ := by kernel_rfl
theorem z0j : G.ti 53 = some ⟨3,32,.struct [(0,2,51),(2,1,9)],[.int .i64 0,.int .i64 0,.str []],true,none⟩ := by kernel_rfl
theorem zre : G.ti 56 = some ⟨2,16,.struct [(0,1,3),(1,1,3)],[.int .i64 0,.int .i64 0],true,none⟩ := by kernel_rfl
theorem z4i : G.ti 61 = some ⟨2,32,.struct [(0,1,24),(1,1,3)],[.sl true 0 [],.int .i64 0],true,none⟩ := by kernel_rfl
theorem z3d : G.ti 63 = some ⟨3,40,.struct [(0,2,61),(2,1,4)],[.sl true 0 [],.int .i64 0,.bool false],true,none⟩ := by kernel_rfl
theorem zu8 : G.ti 68 = some ⟨1,8,.int .u64,[.int .u64 0],false,none⟩ := by kernel_rfl
theorem ze6 : G.ti 124 = some ⟨1,24,.slice 3,[.sl true 0 []],false,none⟩ := by kernel_rfl
theorem fn4 : G.fn 4 = some ⟨Tryz.f4.ntmps,Tryz.f4.results.toList,Tryz.f4.body.get!⟩ := by kernel_rfl
theorem fn6 : G.fn 6 = some ⟨Tryz.f6.ntmps,Tryz.f6.results.toList,Tryz.f6.body.get!⟩ := by kernel_rfl
theorem fn8 : G.fn 8 = some ⟨Tryz.f8.ntmps,Tryz.f8.results.toList,Tryz.f8.body.get!⟩ := by kernel_rfl
theorem fn9 : G.fn 9 = some ⟨Tryz.f9.ntmps,Tryz.f9.results.toList,Tryz.f9.body.get!⟩ := by kernel_rfl
theorem q2q : G.fn 10 = some ⟨Tryz.f10.ntmps,Tryz.f10.results.toList,Tryz.f10.body.get!⟩ := by kernel_rfl
theorem qm1 : G.fn 13 = some ⟨Tryz.f13.ntmps,Tryz.f13.results.toList,Tryz.f13.body.get!⟩ := by kernel_rfl
theorem zgf : G.fn 14 = some ⟨Tryz.f14.ntmps,Tryz.f14.results.toList,Tryz.f14.body.get!⟩ := by kernel_rfl
theorem q7q : G.fn 16 = some ⟨Tryz.f16.ntmps,Tryz.f16.results.toList,Tryz.f16.body.get!⟩ := by kernel_rfl
theorem q68 : G.fn 17 = some ⟨Tryz.f17.ntmps,Tryz.f17.results.toList,Tryz.f17.body.get!⟩ := by kernel_rfl
theorem qoi : G.fn 19 = some ⟨Tryz.f19.ntmps,Tryz.f19.results.toList,Tryz.f19.body.get!⟩ := by kernel_rfl
theorem zy : G.fn 20 = some ⟨Tryz.f20.ntmps,Tryz.f20.results.toList,Tryz.f20.body.get!⟩ := by kernel_rfl
theorem q7i : G.fn 21 = some ⟨Tryz.f21.ntmps,Tryz.f21.results.toList,Tryz.f21.body.get!⟩ := by kernel_rfl
theorem xy : G.fn 22 = some ⟨Tryz.f22.ntmps,Tryz.f22.results.toList,Tryz.f22.body.get!⟩ := by kernel_rfl
theorem q7f : G.fn 33 = some ⟨Tryz.f33.ntmps,Tryz.f33.results.toList,Tryz.f33.body.get!⟩ := by kernel_rfl
theorem zbm : G.fn 34 = some ⟨Tryz.f34.ntmps,Tryz.f34.results.toList,Tryz.f34.body.get!⟩ := by kernel_rfl
theorem q7p : G.fn 35 = some ⟨Tryz.f35.ntmps,Tryz.f35.results.toList,Tryz.f35.body.get!⟩ := by kernel_rfl
theorem qh2 : G.fn 36 = some ⟨Tryz.f36.ntmps,Tryz.f36.results.toList,Tryz.f36.body.get!⟩ := by kernel_rfl
theorem q6o : G.fn 37 = some ⟨Tryz.f37.ntmps,Tryz.f37.results.toList,Tryz.f37.body.get!⟩ := by kernel_rfl
theorem qhn : G.fn 38 = some ⟨Tryz.f38.ntmps,Tryz.f38.results.toList,Tryz.f38.body.get!⟩ := by kernel_rfl
theorem qgl : G.fn 39 = some ⟨Tryz.f39.ntmps,Tryz.f39.results.toList,Tryz.f39.body.get!⟩ := by kernel_rfl
theorem qag : G.fn 40 = some ⟨Tryz.f40.ntmps,Tryz.f40.results.toList,Tryz.f40.body.get!⟩ := by kernel_rfl
theorem qd9 : G.fn 41 = some ⟨Tryz.f41.ntmps,Tryz.f41.results.toList,Tryz.f41.body.get!⟩ := by kernel_rfl
theorem qh9 : G.fn 42 = some ⟨Tryz.f42.ntmps,Tryz.f42.results.toList,Tryz.f42.body.get!⟩ := by kernel_rfl
theorem q54 : G.fn 43 = some ⟨Tryz.f43.ntmps,Tryz.f43.results.toList,Tryz.f43.body.get!⟩ := by kernel_rfl
theorem q0t : G.fn 60 = some ⟨Tryz.f60.ntmps,Tryz.f60.results.toList,Tryz.f60.body.get!⟩ := by kernel_rfl
theorem qa7 : G.fn 61 = some ⟨Tryz.f61.ntmps,Tryz.f61.results.toList,Tryz.f61.body.get!⟩ := by kernel_rfl
end Go.Proofs.YtaglodpkpggdiaaGreatDoor
