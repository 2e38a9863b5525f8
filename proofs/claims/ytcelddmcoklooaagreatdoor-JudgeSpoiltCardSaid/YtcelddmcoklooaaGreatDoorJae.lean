/-
  The tables of the program as the machine reads it.
-/
import Derived.Test.YtcelddmcoklooaaGreatDoorRows
import Derived.Test.YtcelddmcoklooaaGreatDoorJad
set_option linter.unusedSimpArgs false
set_option linter.unusedVariables false
namespace Go.Proofs.YtcelddmcoklooaaGreatDoor
open Go Go.Gm
def spec : FuncId → Nat → jc
 | 7,0 => ⟨[0,6,19,20,21],[0,4,5,6],[],[],[],1000⟩
 | 7,2 => ⟨[6,10,11,43,44,45],[10,11],[10,11],[],[],1000⟩
 | 8,0 => ⟨[1,7,9,10,30,31,32],[1,6],[],[],[],1000⟩
 | 10,0 => ⟨[3,6,42,43,44],[2],[],[],[],0⟩
 | 10,2 => ⟨[3,6,7,8,9,42,43,44,54,55,56],[2,3,8,42,43,44],[],[],[],0⟩
 | 11,0 => ⟨[1,10,11,12],[4],[],[],[],0⟩
 | 11,2 => ⟨[1,6,10,11,12,17,18,19],[1,4,10,11,12],[],[],[],0⟩
 | 13,0 => ⟨[0,3,12,13,14],[4],[],[],[],0⟩
 | 13,2 => ⟨[0,3,7,12,13,14,22,23,24],[0,3,4,12,13,14],[],[],[],0⟩
 | 15,0 => ⟨[0,3,13,14,15],[4],[],[],[],0⟩
 | 19,0 => ⟨[3,11,12,13],[3],[],[],[],0⟩
 | 19,2 => ⟨[3,11,12,13,18,19,20],[3,11,12,13],[],[],[],0⟩
 | 22,0 => ⟨[1,2,3,7,8,9],[1,2,3],[3],[],[],1000⟩
 | 23,0 => ⟨[0,6,15,16,17],[0,4,5,6],[],[],[],1000⟩
 | 27,0 => ⟨[0,1,12,13],[4],[],[],[],0⟩
 | 28,0 => ⟨[1,2,15,16,17],[6],[],[],[],1000⟩
 | 30,0 => ⟨[0,1,14,15,16],[1,4,5],[],[],[],0⟩
 | 31,0 => ⟨[2,5,18,19,20],[4],[],[],[18],0⟩
 | 33,0 => ⟨[0,5,10,11,12],[5],[5],[],[],0⟩
 | 33,2 => ⟨[0,5,10,11,12,17,18,19],[0,5,10,11,12],[5],[],[],0⟩
 | 34,0 => ⟨[1,2,3,7,8,9,10],[7,8,9],[],[],[],0⟩
 | 35,0 => ⟨[1,3,10,12,13,40,41,42],[1,6,7,8,10,12,13],[12],[],[],0⟩
 | 35,2 => ⟨[1,3,10,12,13,15,16,40,41,42,52,53,54],[1,3,10,12,13,15,16,40,41,42],[16],[],[],0⟩
 | 35,4 => ⟨[1,3,10,12,15,16,40,41,42,74,75,76],[1,3,10,12,15,40,41,42],[12],[],[],0⟩
 | 36,0 => ⟨[0,1,7,8],[4],[],[],[],0⟩
 | 37,0 => ⟨[0,1,7,8],[4],[],[],[],0⟩
 | 40,0 => ⟨[0,3],[0,2],[],[],[],1000⟩
 | 42,0 => ⟨[0,1,7,8],[4],[],[],[],1000⟩
 | 45,0 => ⟨[1,2,4,11,13,37,38,39],[4,11],[],[],[],1000⟩
 | 49,0 => ⟨[1,2,3,10,11,12],[1,2,3],[3],[],[],1000⟩
 | 49,2 => ⟨[1,2,3,5,6,10,11,12,17,18,19],[1,2,3,5,6,10,11,12],[6],[],[],1000⟩
 | 62,0 => ⟨[1,2,15,16,17],[6],[],[],[],1000⟩
 | 66,0 => ⟨[4,14,15,16],[4],[4],[],[],0⟩
 | 67,0 => ⟨[1,2,5],[1,2,4],[],[],[],0⟩
 | 74,0 => ⟨[1,5,12,13,14],[5],[],[],[],0⟩
 | 77,0 => ⟨[0,5],[],[],[],[],0⟩
 | 83,0 => ⟨[0,6,12,13,14],[0,4,5,6],[6],[],[],1000⟩
 | 87,0 => ⟨[1,5,12,13,14],[5],[5],[],[],1000⟩
 | 88,0 => ⟨[1,5,6,19,20,21],[5],[5],[],[],1000⟩
 | 88,2 => ⟨[10,63,64,65],[10],[10],[],[],1000⟩
 | 100,0 => ⟨[1,5,13,14,15],[5],[5],[],[],1000⟩
 | 101,0 => ⟨[0,1,5,20,21,22],[5],[5],[],[],1000⟩
 | 101,2 => ⟨[12,73,74,75],[12],[12],[],[],1000⟩
 | 102,0 => ⟨[0,1,7,9,10],[0,1,7,9],[],[],[],1000⟩
 | 102,2 => ⟨[0,1,7,11,65,66,67],[0,1,7],[],[],[],1000⟩
 | 103,0 => ⟨[0,1,4,5],[0,1,4,5],[],[],[],1000⟩
 | 103,2 => ⟨[0,1,4,5,6],[0,1,4,5,6],[],[],[],1000⟩
 | 104,0 => ⟨[1,2,15,16,17],[6],[],[],[],1000⟩
 | 108,0 => ⟨[3,6,7,8],[2,3],[],[],[],0⟩
 | 112,0 => ⟨[0,1,7,8],[4],[],[],[],0⟩
 | 114,0 => ⟨[0,5,6,7],[2],[],[],[],0⟩
 | 115,0 => ⟨[11,12,13],[8,9,10,11,12],[12],[],[],0⟩
 | 118,1 => ⟨[6,16,17,18],[6],[],[],[],0⟩
 | 118,3 => ⟨[6,31,32,33],[6],[],[],[],0⟩
 | 121,0 => ⟨[0,1,2,3,8,9],[],[],[],[],0⟩
 | 126,0 => ⟨[0,1],[1],[],[],[],1000⟩
 | 127,0 => ⟨[0,1],[1],[],[],[],1000⟩
 | 131,0 => ⟨[0,1],[0,1],[],[],[],1000⟩
 | 131,2 => ⟨[0,1],[1],[],[],[],1000⟩
 | 132,0 => ⟨[0,1],[0,1],[],[],[],1000⟩
 | 132,2 => ⟨[0,1],[1],[],[],[],1000⟩
 | 133,0 => ⟨[0,1,2,3],[1,3],[],[],[],1000⟩
 | 134,0 => ⟨[0,1,7,8,9],[0,1,4],[],[],[],1000⟩
 | 135,0 => ⟨[3,14,15,16],[3],[],[(3,2)],[],1000⟩
 | 136,0 => ⟨[0,1],[],[],[],[],1000⟩
 | 137,0 => ⟨[0,14,15,16],[],[],[],[2000],1000⟩
 | 138,0 => ⟨[0,3],[2],[],[],[],1000⟩
 | 138,2 => ⟨[0,3,4],[0,2,3],[],[],[],1000⟩
 | 138,4 => ⟨[0,3,4,44,45,46],[0,2,3,4],[],[],[],1000⟩
 | 139,0 => ⟨[0,2,11,12],[],[],[],[],1000⟩
 | 139,2 => ⟨[0,2,3,4,11,12,34,35,36],[0,3,4,11,12],[],[(4,1),(4,2)],[],1000⟩
 | 140,0 => ⟨[0,2,3,9,10,11],[0,2,3],[3],[],[],1000⟩
 | 142,0 => ⟨[3,10,11,12],[3],[3],[],[],1000⟩
 | 142,2 => ⟨[6,28,29,30],[6],[6],[],[],1000⟩
 | 143,0 => ⟨[0,1,6,7],[0,1,6,7],[7],[],[],1000⟩
 | 144,0 => ⟨[3,7,8,9],[3],[],[],[],1000⟩
 | 145,0 => ⟨[3,6,7,8],[3],[3],[],[],1000⟩
 | 147,0 => ⟨[1,2,11,12,13,39,40,41],[6,7,8,12,13],[12,13],[],[],1000⟩
 | 149,0 => ⟨[1,4,5,6,13,14,15],[4,5],[],[(5,1)],[],1000⟩
 | 149,2 => ⟨[1,4,5,6,8,9,10,13,14,15,36,37,38],[1,4,5,6,8,10,13,14,15],[],[(10,2)],[],1000⟩
 | 151,0 => ⟨[1,2,4,6,7,23,24,25],[1,2,4,6,7],[7],[],[],1000⟩
 | 153,0 => ⟨[0,9,10,11],[4,5],[],[],[],1000⟩
 | 154,0 => ⟨[0,13,14,15],[4,5],[],[],[],1000⟩
 | 155,0 => ⟨[1,2,6,7,14,15,16],[6,7],[6],[],[],1000⟩
 | 155,2 => ⟨[1,2,6,7,10,14,15,16,21,22,23],[1,2,6,7,14,15,16],[6],[],[],1000⟩
 | 156,0 => ⟨[1,2,3,11,12,13],[1,2,3],[3],[],[],1000⟩
 | 158,0 => ⟨[0,7,8,9,23,24,25],[7],[7],[],[],1000⟩
 | 163,0 => ⟨[0,1,5,15,16,17],[0,1,4,5],[5],[],[],1000⟩
 | 163,2 => ⟨[0,1,35,36,37],[],[],[],[],1000⟩
 | 164,0 => ⟨[1,5,8,9,10],[5],[5],[],[1],1000⟩
 | 166,0 => ⟨[0,1,12,13],[4],[],[],[],1000⟩
 | 167,0 => ⟨[0,1,2,6,7,8],[0,1,2,6,7],[],[],[],0⟩
 | 167,2 => ⟨[0,1,2,6],[],[],[],[],0⟩
 | 167,4 => ⟨[0,1,2,6,7,8],[0,1,2,6,7],[],[],[],0⟩
 | 169,0 => ⟨[1,2,31,32,33],[1,6,7],[],[],[],0⟩
 | 172,0 => ⟨[0,1,4],[4,5],[],[],[],0⟩
 | 178,0 => ⟨[0,1,5,6],[5],[],[],[],0⟩
 | 179,0 => ⟨[0,1,2,6],[],[],[],[],0⟩
 | 179,2 => ⟨[0,1,2,6,7],[0,1,2,6],[],[],[],0⟩
 | 180,0 => ⟨[0,6,7,8,9],[0,6,7,8],[],[],[],0⟩
 | 180,2 => ⟨[0,6,7,10],[],[],[],[],0⟩
 | 181,0 => ⟨[0,1,6,7,8,9],[],[],[],[],0⟩
 | 183,0 => ⟨[0,6,7],[],[],[],[],0⟩
 | 184,0 => ⟨[0,1,2,7,8],[6],[],[],[],0⟩
 | 184,2 => ⟨[0,1,2,7,8],[0,1,2,7,8],[],[],[],0⟩
 | 184,4 => ⟨[0,1,2,7,8,9],[0,1,2,7,8],[],[],[],0⟩
 | 184,6 => ⟨[0,1,2,7,8,10],[0,1,2,7,8],[],[],[],0⟩
 | 186,0 => ⟨[0,1,9,10],[9],[],[],[],0⟩
 | 186,2 => ⟨[0,1,9,10],[0,1,9,10],[],[],[],0⟩
 | 186,4 => ⟨[0,1,9,10],[0,1,9,10],[],[],[],0⟩
 | 187,0 => ⟨[0,1,10,11],[0,1,10,11],[],[],[],0⟩
 | 187,2 => ⟨[0,1,10,11],[0,1,10,11],[],[],[],0⟩
 | 187,4 => ⟨[0,1,10,11],[0,1,11],[],[],[],0⟩
 | 187,6 => ⟨[0,1,10,11],[0,1,10,11],[],[],[],0⟩
 | 187,8 => ⟨[0,1,10,11],[0,1,10,11],[],[],[],0⟩
 | 194,0 => ⟨[1,2,7,8],[6,7],[],[],[],1000⟩
 | 199,0 => ⟨[0],[0],[],[],[],1000⟩
 | 200,0 => ⟨[0],[0],[],[],[],1000⟩
 | 205,0 => ⟨[3,10,11,12],[2],[],[],[],1000⟩
 | 206,0 => ⟨[3,6,7,8],[3],[3],[],[],1000⟩
 | 207,0 => ⟨[0,7,8,9],[0],[],[],[],1000⟩
 | 208,0 => ⟨[2,9,10,11],[4],[],[],[],1000⟩
 | 209,0 => ⟨[0,2,3],[],[],[],[],1000⟩
 | 210,0 => ⟨[2,3,11,12,13],[4,5],[],[],[],1000⟩
 | 210,2 => ⟨[2,3,6,11,12,13,19,20,21],[2,3,4,5,11,12,13],[],[],[],1000⟩
 | 211,0 => ⟨[0,1,5,10,12,13,14],[0,1,5,10,12],[],[],[],1000⟩
 | 211,2 => ⟨[0,1,5,10,12,91,92,93],[0,10],[],[],[],1000⟩
 | 212,0 => ⟨[1,3,12,13,14],[1,3],[],[],[1],1000⟩
 | 212,2 => ⟨[1,3,6],[6],[6],[],[],1000⟩
 | 213,0 => ⟨[0,1,2,3,9,10,11,47,48,49],[0,1,2,3,9,10,11],[],[],[],1000⟩
 | 213,2 => ⟨[0,1,2,3,15,16,17],[8],[],[],[],1000⟩
 | 220,0 => ⟨[0,1,7,8,9],[4],[],[],[],1000⟩
 | 222,0 => ⟨[10,12],[10,12],[],[],[],1000⟩
 | 225,0 => ⟨[2,3,12,13,14],[2,3],[],[(3,2)],[],1000⟩
 | 225,2 => ⟨[2,3,6,12,13,14,23,24],[2,3,6,12,13,14],[],[],[],1000⟩
 | 227,0 => ⟨[0,2,3],[],[],[],[],1000⟩
 | 235,0 => ⟨[0,1,14,15,16],[0],[],[],[],1000⟩
 | 237,0 => ⟨[0,1,12,13],[4],[],[],[],1000⟩
 | 238,0 => ⟨[0,1,2,3,8],[],[],[],[],0⟩
 | 238,2 => ⟨[0,1,2,3,8,9],[0,1,2,3,8],[],[],[],0⟩
 | 239,0 => ⟨[0,1,4,10,11],[0,1,10],[],[],[],0⟩
 | 239,2 => ⟨[0,10,13],[],[],[],[],0⟩
 | 239,4 => ⟨[0,2,4,14,15],[0,2,14],[],[],[],0⟩
 | 239,6 => ⟨[0,14,17],[],[],[],[],0⟩
 | 239,8 => ⟨[0,1,2,3,4,18,19,20,21,22],[0,1,2,3,4,18,19,20],[],[],[],0⟩
 | 244,0 => ⟨[0,3,4],[3],[3],[],[],0⟩
 | 245,0 => ⟨[0,3,4],[3],[3],[],[],0⟩
 | 246,0 => ⟨[1,4,5,22,23,24],[1,4,5],[],[(5,8)],[],0⟩
 | 247,0 => ⟨[7,8],[7],[],[],[],0⟩
 | 249,0 => ⟨[0,1,6,7,8],[0,1,6,7],[],[],[],0⟩
 | 254,0 => ⟨[0,2,3,8],[],[],[],[],0⟩
 | 259,0 => ⟨[1,4,6,7],[4,5,6],[],[],[],1000⟩
 | 261,0 => ⟨[0,1,7,8],[0,6],[],[],[],1000⟩
 | 265,0 => ⟨[0,2,3,4],[2,3],[],[],[],1000⟩
 | 268,0 => ⟨[7,8],[7],[],[],[],1000⟩
 | 269,0 => ⟨[5,6,12,13,14,34,35,36],[12,14],[],[(14,1),(14,2)],[],1000⟩
 | 270,0 => ⟨[1,2,5,12,13,14],[5],[],[],[],1000⟩
 | 270,2 => ⟨[1,2,5,7,8,12,13,14],[1,2,5,12,13,14],[],[],[],1000⟩
 | 271,0 => ⟨[0,1,7,8],[4],[],[],[],1000⟩
 | 273,0 => ⟨[0,1,2,6,7,8],[0,1,2,6,7],[],[],[],1000⟩
 | 273,2 => ⟨[0,1,2,6],[],[],[],[],1000⟩
 | 273,4 => ⟨[0,1,2,6,7,8],[0,1,2,6,7],[],[],[],1000⟩
 | 279,0 => ⟨[0,5,6],[0,5,6],[],[],[],1000⟩
 | 279,2 => ⟨[0,5,6],[0,5,6],[],[],[],1000⟩
 | 281,0 => ⟨[0,8,9,10],[4,5],[],[],[],1000⟩
 | 283,0 => ⟨[0,5,8,9,10],[5],[5],[],[],1000⟩
 | 284,0 => ⟨[0,6,7,8],[],[],[],[],1000⟩
 | 285,0 => ⟨[0,2,9,10,11],[6],[],[],[],1000⟩
 | 286,0 => ⟨[0,1,2,12,13],[1,6,7],[1],[],[],1000⟩
 | 287,0 => ⟨[0,1,5,6,12,13,14],[0,1,5,6],[],[],[],1000⟩
 | 287,2 => ⟨[0,1,5,6,37,38,39],[0,1,6],[],[],[],1000⟩
 | 288,0 => ⟨[0,1,3,4,17,18,19],[1],[1],[],[],1000⟩
 | 288,2 => ⟨[0,1,3,4,12,14,17,18,19,52,53,54],[0,1,3,4,12,14,17,18,19],[],[(14,17)],[],1000⟩
 | 289,0 => ⟨[0,1,2,6,7,8],[0,1,2,6,7],[],[],[],1000⟩
 | 289,2 => ⟨[0,1,2,6],[],[],[],[],1000⟩
 | 289,4 => ⟨[0,1,2,6,7,8],[0,1,2,6,7],[],[],[],1000⟩
 | 291,0 => ⟨[0,1,12,13],[4],[],[],[],1000⟩
 | 292,0 => ⟨[1,2,15,16,17],[6],[],[],[],1000⟩
 | 293,0 => ⟨[0,2,4,10,11],[0,2,4,10],[],[],[],0⟩
 | 296,0 => ⟨[0,5,6,7],[2],[],[],[],0⟩
 | 300,0 => ⟨[0,1],[1],[],[],[],0⟩
 | 302,0 => ⟨[0,4,5],[],[],[],[],0⟩
 | 303,1 => ⟨[0,2,3,29,30,31],[8],[],[],[],0⟩
 | 309,0 => ⟨[1,2,4,5,10,11,19,20,21],[1,2,4,5,10,11],[],[(11,3)],[],1000⟩
 | 309,2 => ⟨[10,11,71,72,73],[10,11],[],[],[],1000⟩
 | 310,0 => ⟨[0,2,3,4,6,10,12,13,14,32,33,34],[10,12,13],[13],[(12,2)],[],1000⟩
 | 311,0 => ⟨[0,1,2,3,8],[],[],[],[],1000⟩
 | 311,2 => ⟨[0,1,2,3,8,9],[0,1,2,3,8],[],[],[],1000⟩
 | 312,0 => ⟨[0,1,4,10,11],[0,1,10],[],[],[],1000⟩
 | 312,2 => ⟨[0,10,13],[],[],[],[],1000⟩
 | 312,4 => ⟨[0,2,4,14,15],[0,2,14],[],[],[],1000⟩
 | 312,6 => ⟨[0,14,17],[],[],[],[],1000⟩
 | 312,8 => ⟨[0,1,2,3,4,18,19,20,21,22],[0,1,2,3,4,18,19,20],[],[],[],1000⟩
 | 315,0 => ⟨[0,4,5],[0,2,3,4,5],[],[],[],1000⟩
 | 316,0 => ⟨[0,4],[0,4],[],[],[],1000⟩
 | 328,0 => ⟨[0,1,2,3,8],[],[],[],[],1000⟩
 | 328,2 => ⟨[0,1,2,3,8,9],[0,1,2,3,8],[],[],[],1000⟩
 | 329,0 => ⟨[0,1,4,10,11],[0,1,10],[],[],[],1000⟩
 | 329,2 => ⟨[0,10,13],[],[],[],[],1000⟩
 | 329,4 => ⟨[0,2,4,14,15],[0,2,14],[],[],[],1000⟩
 | 329,6 => ⟨[0,14,17],[],[],[],[],1000⟩
 | 329,8 => ⟨[0,1,2,3,4,18,19,20,21,22],[0,1,2,3,4,18,19,20],[],[],[],1000⟩
 | 330,0 => ⟨[0,5],[],[],[],[],1000⟩
 | 331,0 => ⟨[0,1,2,3,10],[],[],[],[],0⟩
 | 344,0 => ⟨[0,2,3,5,8,9],[0,2,3,5,8],[],[],[],1000⟩
 | 344,2 => ⟨[0,3,5,8,10,11],[],[],[],[],1000⟩
 | 345,0 => ⟨[0,2,4,6,28,29,30],[],[],[],[],1000⟩
 | 348,0 => ⟨[0,2,4,10,11],[0,2,4,10],[],[],[],1000⟩
 | 349,0 => ⟨[0,4,5],[0,4,5],[4,5],[],[],1000⟩
 | 350,0 => ⟨[0,1,4,7],[0,1,4,7],[7],[],[],1000⟩
 | 353,0 => ⟨[0,1,5],[4],[],[],[],1000⟩
 | 357,0 => ⟨[0,1,2,3,8,9],[],[],[],[],1000⟩
 | 359,0 => ⟨[0,2,4,10,11],[0,2,4,10],[],[],[],1000⟩
 | 360,0 => ⟨[0,1,7,8],[4],[],[],[],0⟩
 | 364,0 => ⟨[3,8,9,10],[3],[],[],[],0⟩
 | 369,0 => ⟨[0,1,2,3,10],[],[],[],[],1000⟩
 | 371,0 => ⟨[0,1,7,8,9],[4,5,6],[],[(7,0),(8,0)],[],1000⟩
 | 374,0 => ⟨[0,1,4],[0,1,4],[],[],[],1000⟩
 | 375,0 => ⟨[0,1,3,4,10,11,12,13,14,15,16],[0,1,3,4,10,11,12,13],[],[],[],1000⟩
 | 375,2 => ⟨[0,1,3,4,10,11,12,13,17],[0,1,3,4,10,11,12,13],[],[],[],1000⟩
 | 377,0 => ⟨[0,1,2,3,10],[],[],[],[],1000⟩
 | 378,0 => ⟨[1,7,8,9],[4],[],[],[],0⟩
 | 379,0 => ⟨[3,8,9,10],[3],[],[],[],0⟩
 | 380,0 => ⟨[0,2,4,5],[2,3],[4,5],[],[],1000⟩
 | 392,0 => ⟨[0,1,7,8],[1,4,5,6,7,8],[],[],[],1000⟩
 | 397,0 => ⟨[0,5,8,9,10],[5],[5],[],[],1000⟩
 | 400,0 => ⟨[0,3],[2],[],[],[],1000⟩
 | 401,0 => ⟨[0,1,2,9],[6,7,8],[9],[],[],1000⟩
 | 404,0 => ⟨[0,2,4,5],[2,3,4,5],[5],[],[],1000⟩
 | 409,0 => ⟨[3,10,11,12],[3],[3],[],[],1000⟩
 | 409,2 => ⟨[6,25,26,27],[6],[6],[],[],1000⟩
 | 412,0 => ⟨[0,4,5,6],[2,3,4,5],[],[],[],1000⟩
 | 416,0 => ⟨[0,1,2,6,7,8],[0,1,2,6,7],[],[],[],1000⟩
 | 416,2 => ⟨[0,1,2,6],[],[],[],[],1000⟩
 | 416,4 => ⟨[0,1,2,6,7,8],[0,1,2,6,7],[],[],[],1000⟩
 | 418,0 => ⟨[0,1,2,3,8],[],[],[],[],1000⟩
 | 418,2 => ⟨[0,1,2,3,8,9],[0,1,2,3,8],[],[],[],1000⟩
 | 419,0 => ⟨[0,1,4,10,11],[0,1,10],[],[],[],1000⟩
 | 419,2 => ⟨[0,10,13],[],[],[],[],1000⟩
 | 419,4 => ⟨[0,2,4,14,15],[0,2,14],[],[],[],1000⟩
 | 419,6 => ⟨[0,14,17],[],[],[],[],1000⟩
 | 419,8 => ⟨[0,1,2,3,4,18,19,20,21,22],[0,1,2,3,4,18,19,20],[],[],[],1000⟩
 | 420,0 => ⟨[0,2,4,10,11],[0,2,4,10],[],[],[],1000⟩
 | 421,0 => ⟨[0,1,2,3,10],[],[],[],[],1000⟩
 | _,_ => {}
def zjj (f : FuncId) : Bool := [227,230,289,328,329,209,106,167,238,239,214,273,311,312,218,288,151,5,10,11,16,36].contains f
def qjr (f : FuncId) : Bool := [19,135,268,159,229,50,267,218,288,140,22].contains f
def qoy : FuncId → Nat → List Nat
 | 21,20 => [0]
 | 48,3 => [0,999999]
 | 48,7 => [0,999999]
 | 48,9 => [0,999999]
 | 48,14 => [0,999999]
 | 48,22 => [0,999999]
 | 139,15 => [4]
 | _,_ => []
def zfp (t : TypeId) : Bool := [].contains t
def qm6 (t : TypeId) : Bool := [436,408,411,211].contains t
def zhx : FuncId → Nat → List Cmd
 | 3,11 => [.frz 2011]
 | _,_ => []
noncomputable def G : GP := qa7 Tryz.prog spec zjj qjr qoy zfp qm6 zhx
theorem cm0 (i : Nat) : G.cmd 0 i = [] := rfl
theorem cm1 (i : Nat) : G.cmd 1 i = [] := rfl
theorem cm2 (i : Nat) : G.cmd 2 i = [] := rfl
theorem zs6 : G.owned 3 = false := rfl
theorem kp3 : G.keep 3 = false := rfl
theorem qp6 : G.cmd 3 0 = [] := rfl
theorem x2v : G.cmd 3 1 = [] := rfl
theorem zte : G.cmd 3 2 = [] := rfl
theorem zc4 : G.cmd 3 3 = [] := rfl
theorem zix : G.cmd 3 4 = [] := rfl
theorem z6d : G.cmd 3 5 = [] := rfl
theorem z0m : G.cmd 3 6 = [] := rfl
theorem ql6 : G.cmd 3 7 = [] := rfl
theorem zfh : G.cmd 3 8 = [] := rfl
theorem qzq : G.cmd 3 9 = [] := rfl
theorem qs2 : G.cmd 3 10 = [] := rfl
theorem zqg : G.cmd 3 11 = [.frz 2011] := rfl
theorem qu9 : G.cmd 3 12 = [] := rfl
theorem zv4 : G.cmd 3 13 = [] := rfl
theorem zec : G.cmd 3 14 = [] := rfl
theorem zcy : G.cmd 3 15 = [] := rfl
theorem x1j : G.cmd 3 16 = [] := rfl
theorem zao : G.cmd 3 17 = [] := rfl
theorem z06 : G.cmd 3 18 = [] := rfl
theorem qqd : G.cmd 3 19 = [] := rfl
theorem z7t : G.cmd 3 20 = [] := rfl
theorem zpd : G.cmd 3 21 = [] := rfl
theorem z2r : G.cmd 3 22 = [] := rfl
theorem zm7 : G.cmd 3 23 = [] := rfl
theorem qi1 : G.cmd 3 24 = [] := rfl
theorem zgr : G.cmd 3 25 = [] := rfl
theorem x0m : G.cmd 3 26 = [] := rfl
theorem zsk : G.cmd 3 27 = [] := rfl
theorem z2i : G.cmd 3 28 = [] := rfl
theorem zn8 : G.cmd 3 29 = [] := rfl
theorem zm5 : G.cmd 3 30 = [] := rfl
theorem zc1 : G.cmd 3 31 = [] := rfl
theorem qxz : G.cmd 3 32 = [] := rfl
theorem zui : G.cmd 3 33 = [] := rfl
theorem qk9 : G.cmd 3 34 = [] := rfl
theorem qu7 : G.cmd 3 35 = [] := rfl
theorem z5v : G.cmd 3 36 = [] := rfl
theorem qvf : G.cmd 3 37 = [] := rfl
theorem zmw : G.cmd 3 38 = [] := rfl
theorem z16 : G.cmd 3 39 = [] := rfl
theorem zm3 : G.cmd 3 40 = [] := rfl
theorem z8h : G.cmd 3 41 = [] := rfl
theorem qpc : G.cmd 3 42 = [] := rfl
theorem qjj : G.cmd 3 43 = [] := rfl
theorem zvp : G.cmd 3 44 = [] := rfl
theorem zwn : G.cmd 3 45 = [] := rfl
theorem zcw : G.cmd 3 46 = [] := rfl
theorem qnf : G.cmd 3 47 = [] := rfl
theorem qwp : G.cmd 3 48 = [] := rfl
theorem qng : G.cmd 3 49 = [] := rfl
theorem x5j : G.cmd 3 50 = [] := rfl
theorem zmu : G.cmd 3 51 = [] := rfl
theorem qot : G.cmd 3 52 = [] := rfl
theorem zib : G.cmd 3 53 = [] := rfl
theorem z5w : G.cmd 3 54 = [] := rfl
theorem qrw : G.cmd 3 55 = [] := rfl
theorem qnq : G.cmd 3 56 = [] := rfl
theorem x3l : G.cmd 3 57 = [] := rfl
theorem zmv : G.cmd 3 58 = [] := rfl
theorem qsv : G.cmd 3 59 = [] := rfl
theorem zmq : G.cmd 3 60 = [] := rfl
theorem zym : G.cmd 3 61 = [] := rfl
theorem zk7 : G.cmd 3 62 = [] := rfl
theorem zun : G.cmd 3 63 = [] := rfl
theorem zky : G.cmd 3 64 = [] := rfl
theorem x6o : G.cmd 3 65 = [] := rfl
theorem z6j : G.cmd 3 66 = [] := rfl
theorem qrm : G.cmd 3 67 = [] := rfl
theorem zvt : G.cmd 3 68 = [] := rfl
theorem x1k : G.cmd 3 69 = [] := rfl
theorem zhg : G.cmd 3 70 = [] := rfl
theorem z8s : G.cmd 3 71 = [] := rfl
theorem x3m : G.cmd 3 72 = [] := rfl
theorem qgx : G.cmd 3 73 = [] := rfl
theorem z3z : G.cmd 3 74 = [] := rfl
theorem qpi : G.cmd 3 75 = [] := rfl
theorem zie : G.cmd 3 76 = [] := rfl
theorem zxl : G.cmd 3 77 = [] := rfl
theorem zq4 : G.cmd 3 78 = [] := rfl
theorem qx6 : G.cmd 3 79 = [] := rfl
theorem z9m : G.cmd 3 80 = [] := rfl
theorem zyn : G.cmd 3 81 = [] := rfl
theorem z4x : G.cmd 3 82 = [] := rfl
theorem zpr : G.cmd 3 83 = [] := rfl
theorem z0x : G.cmd 3 84 = [] := rfl
theorem qyj : G.cmd 3 85 = [] := rfl
theorem zhe : G.cmd 3 86 = [] := rfl
theorem zx7 : G.cmd 3 87 = [] := rfl
theorem qmr : G.cmd 3 88 = [] := rfl
theorem qvp : G.cmd 3 89 = [] := rfl
theorem zg2 : G.cmd 3 90 = [] := rfl
theorem z6l : G.cmd 3 91 = [] := rfl
theorem qz1 : G.cmd 3 92 = [] := rfl
theorem x4u : G.cmd 3 93 = [] := rfl
theorem qtj : G.cmd 3 94 = [] := rfl
theorem qxk : G.cmd 3 95 = [] := rfl
theorem zvn : G.cmd 3 96 = [] := rfl
theorem zcu : G.cmd 3 97 = [] := rfl
theorem zq8 : G.cmd 3 98 = [] := rfl
theorem qsc : G.cmd 3 99 = [] := rfl
theorem x3n : G.cmd 3 100 = [] := rfl
theorem zyu : G.cmd 3 101 = [] := rfl
theorem zyw : G.cmd 3 102 = [] := rfl
theorem zwa : G.cmd 3 103 = [] := rfl
theorem x6e : G.cmd 3 104 = [] := rfl
theorem qjv : G.cmd 3 105 = [] := rfl
theorem qjx : G.cmd 3 106 = [] := rfl
theorem zct : G.cmd 3 107 = [] := rfl
theorem zut : G.cmd 3 108 = [] := rfl
theorem zlz : G.cmd 3 109 = [] := rfl
theorem znf : G.cmd 3 110 = [] := rfl
theorem zwb : G.cmd 3 111 = [] := rfl
theorem x0j : G.cmd 3 112 = [] := rfl
theorem qvj : G.cmd 3 113 = [] := rfl
theorem qtx : G.cmd 3 114 = [] := rfl
theorem zqa : G.cmd 3 115 = [] := rfl
theorem x0u : G.cmd 3 116 = [] := rfl
theorem qw6 : G.cmd 3 117 = [] := rfl
theorem zmn : G.cmd 3 118 = [] := rfl
theorem z9e : G.cmd 3 119 = [] := rfl
theorem qzo : G.cmd 3 999999 = [] := rfl
theorem pr3 (i : Nat) : G.pre 3 i = [] := rfl
theorem qj3 : G.owned 4 = false := rfl
theorem kp4 : G.keep 4 = false := rfl
theorem cm4 (i : Nat) : G.cmd 4 i = [] := rfl
theorem pr4 (i : Nat) : G.pre 4 i = [] := rfl
theorem zw2 : G.owned 5 = true := rfl
theorem kp5 : G.keep 5 = false := rfl
theorem cm5 (i : Nat) : G.cmd 5 i = [] := rfl
theorem pr5 (i : Nat) : G.pre 5 i = [] := rfl
theorem zwz : G.owned 6 = false := rfl
theorem kp6 : G.keep 6 = false := rfl
theorem cm6 (i : Nat) : G.cmd 6 i = [] := rfl
theorem pr6 (i : Nat) : G.pre 6 i = [] := rfl
theorem cm7 (i : Nat) : G.cmd 7 i = [] := rfl
theorem cm8 (i : Nat) : G.cmd 8 i = [] := rfl
theorem cm9 (i : Nat) : G.cmd 9 i = [] := rfl
theorem zak : G.owned 10 = true := rfl
theorem zu0 : G.keep 10 = false := rfl
theorem qjm (i : Nat) : G.cmd 10 i = [] := rfl
theorem x6z (i : Nat) : G.pre 10 i = [] := rfl
theorem qvo : G.owned 11 = true := rfl
theorem x5g : G.keep 11 = false := rfl
theorem z1v (i : Nat) : G.cmd 11 i = [] := rfl
theorem x18 (i : Nat) : G.pre 11 i = [] := rfl
theorem qhd : G.owned 12 = false := rfl
theorem zbe : G.keep 12 = false := rfl
theorem zio (i : Nat) : G.cmd 12 i = [] := rfl
theorem qja (i : Nat) : G.pre 12 i = [] := rfl
theorem z5r : G.owned 13 = false := rfl
theorem qpn : G.keep 13 = false := rfl
theorem z9r (i : Nat) : G.cmd 13 i = [] := rfl
theorem zxv (i : Nat) : G.pre 13 i = [] := rfl
theorem z5l : G.owned 14 = false := rfl
theorem zns : G.keep 14 = false := rfl
theorem qn3 (i : Nat) : G.cmd 14 i = [] := rfl
theorem z04 (i : Nat) : G.pre 14 i = [] := rfl
theorem qws : G.owned 15 = false := rfl
theorem zkm : G.keep 15 = false := rfl
theorem z8f (i : Nat) : G.cmd 15 i = [] := rfl
theorem qse (i : Nat) : G.pre 15 i = [] := rfl
theorem zl3 : G.owned 16 = true := rfl
theorem z8a : G.keep 16 = false := rfl
theorem ziy (i : Nat) : G.cmd 16 i = [] := rfl
theorem qtn (i : Nat) : G.pre 16 i = [] := rfl
theorem zi2 : G.owned 17 = false := rfl
theorem zug : G.keep 17 = false := rfl
theorem zfu (i : Nat) : G.cmd 17 i = [] := rfl
theorem x45 (i : Nat) : G.pre 17 i = [] := rfl
theorem zkk : G.owned 18 = false := rfl
theorem zbv : G.keep 18 = false := rfl
theorem qyd (i : Nat) : G.cmd 18 i = [] := rfl
theorem qxp (i : Nat) : G.pre 18 i = [] := rfl
theorem zp0 : G.owned 19 = false := rfl
theorem znp : G.keep 19 = true := rfl
theorem zsm (i : Nat) : G.cmd 19 i = [] := rfl
theorem x1i (i : Nat) : G.pre 19 i = [] := rfl
theorem zwv (i : Nat) : G.cmd 20 i = [] := rfl
theorem z6v (i : Nat) : G.cmd 21 i = [] := rfl
theorem qs1 (i : Nat) : G.cmd 22 i = [] := rfl
theorem zqb (i : Nat) : G.cmd 23 i = [] := rfl
theorem zv0 (i : Nat) : G.cmd 24 i = [] := rfl
theorem x2d (i : Nat) : G.cmd 25 i = [] := rfl
theorem qhv (i : Nat) : G.cmd 26 i = [] := rfl
theorem zh8 : G.owned 27 = false := rfl
theorem z3b : G.keep 27 = false := rfl
theorem x6t (i : Nat) : G.cmd 27 i = [] := rfl
theorem zfz (i : Nat) : G.pre 27 i = [] := rfl
theorem x76 (i : Nat) : G.cmd 28 i = [] := rfl
theorem x4t (i : Nat) : G.cmd 29 i = [] := rfl
theorem zzh : G.owned 30 = false := rfl
theorem z0r : G.keep 30 = false := rfl
theorem x3h (i : Nat) : G.cmd 30 i = [] := rfl
theorem zev (i : Nat) : G.pre 30 i = [] := rfl
theorem zxz : G.owned 31 = false := rfl
theorem zwf : G.keep 31 = false := rfl
theorem qyt (i : Nat) : G.cmd 31 i = [] := rfl
theorem qp7 (i : Nat) : G.pre 31 i = [] := rfl
theorem zh4 : G.owned 32 = false := rfl
theorem qvn : G.keep 32 = false := rfl
theorem qvy (i : Nat) : G.cmd 32 i = [] := rfl
theorem zvb (i : Nat) : G.pre 32 i = [] := rfl
theorem x4j : G.owned 33 = false := rfl
theorem ztu : G.keep 33 = false := rfl
theorem zqh (i : Nat) : G.cmd 33 i = [] := rfl
theorem zyt (i : Nat) : G.pre 33 i = [] := rfl
theorem qwh : G.owned 34 = false := rfl
theorem zw0 : G.keep 34 = false := rfl
theorem zd4 (i : Nat) : G.cmd 34 i = [] := rfl
theorem z97 (i : Nat) : G.pre 34 i = [] := rfl
theorem qj4 (i : Nat) : G.cmd 35 i = [] := rfl
theorem zn9 : G.owned 36 = true := rfl
theorem zmk : G.keep 36 = false := rfl
theorem qm1 (i : Nat) : G.cmd 36 i = [] := rfl
theorem x3p (i : Nat) : G.pre 36 i = [] := rfl
theorem x33 : G.owned 37 = false := rfl
theorem z7a : G.keep 37 = false := rfl
theorem zqz (i : Nat) : G.cmd 37 i = [] := rfl
theorem zin (i : Nat) : G.pre 37 i = [] := rfl
theorem zra : G.owned 38 = false := rfl
theorem qoq : G.keep 38 = false := rfl
theorem qvz (i : Nat) : G.cmd 38 i = [] := rfl
theorem qrf (i : Nat) : G.pre 38 i = [] := rfl
theorem zpl : G.owned 39 = false := rfl
theorem ql2 : G.keep 39 = false := rfl
theorem x2c (i : Nat) : G.cmd 39 i = [] := rfl
theorem zbn (i : Nat) : G.pre 39 i = [] := rfl
theorem z0f (i : Nat) : G.cmd 40 i = [] := rfl
theorem zuw (i : Nat) : G.cmd 41 i = [] := rfl
theorem qht (i : Nat) : G.cmd 42 i = [] := rfl
theorem qkn (i : Nat) : G.cmd 43 i = [] := rfl
theorem z1l (i : Nat) : G.cmd 44 i = [] := rfl
theorem zkh (i : Nat) : G.cmd 45 i = [] := rfl
theorem zmx (i : Nat) : G.cmd 46 i = [] := rfl
theorem zpm (i : Nat) : G.cmd 47 i = [] := rfl
theorem zrb (i : Nat) : G.cmd 48 i = [] := rfl
theorem z7u (i : Nat) : G.cmd 49 i = [] := rfl
theorem qwt : G.owned 50 = false := rfl
theorem zv2 : G.keep 50 = true := rfl
theorem zn7 (i : Nat) : G.cmd 50 i = [] := rfl
theorem zzb (i : Nat) : G.pre 50 i = [] := rfl
theorem zdx (i : Nat) : G.cmd 51 i = [] := rfl
theorem x6v (i : Nat) : G.cmd 52 i = [] := rfl
theorem z6w (i : Nat) : G.cmd 53 i = [] := rfl
theorem x3x (i : Nat) : G.cmd 54 i = [] := rfl
theorem x0d (i : Nat) : G.cmd 55 i = [] := rfl
theorem z5o (i : Nat) : G.cmd 56 i = [] := rfl
theorem qw4 (i : Nat) : G.cmd 57 i = [] := rfl
theorem x3u (i : Nat) : G.cmd 58 i = [] := rfl
theorem x0n (i : Nat) : G.cmd 59 i = [] := rfl
theorem zwi (i : Nat) : G.cmd 60 i = [] := rfl
theorem qya (i : Nat) : G.cmd 61 i = [] := rfl
theorem zxq (i : Nat) : G.cmd 62 i = [] := rfl
theorem qzb (i : Nat) : G.cmd 63 i = [] := rfl
theorem z5p : G.owned 64 = false := rfl
theorem zdt : G.keep 64 = false := rfl
theorem qo6 (i : Nat) : G.cmd 64 i = [] := rfl
theorem x5z (i : Nat) : G.pre 64 i = [] := rfl
theorem zor : G.owned 65 = false := rfl
theorem z0b : G.keep 65 = false := rfl
theorem x7a (i : Nat) : G.cmd 65 i = [] := rfl
theorem zh5 (i : Nat) : G.pre 65 i = [] := rfl
theorem zyi : G.owned 66 = false := rfl
theorem z4o : G.keep 66 = false := rfl
theorem zby (i : Nat) : G.cmd 66 i = [] := rfl
theorem qqs (i : Nat) : G.pre 66 i = [] := rfl
theorem qpt : G.owned 67 = false := rfl
theorem qlo : G.keep 67 = false := rfl
theorem qqn (i : Nat) : G.cmd 67 i = [] := rfl
theorem zod (i : Nat) : G.pre 67 i = [] := rfl
theorem qsy : G.owned 68 = false := rfl
theorem zc2 : G.keep 68 = false := rfl
theorem qki (i : Nat) : G.cmd 68 i = [] := rfl
theorem zkc (i : Nat) : G.pre 68 i = [] := rfl
theorem za8 : G.owned 69 = false := rfl
theorem x5k : G.keep 69 = false := rfl
theorem zo5 (i : Nat) : G.cmd 69 i = [] := rfl
theorem za5 (i : Nat) : G.pre 69 i = [] := rfl
theorem qoj : G.owned 70 = false := rfl
theorem qsm : G.keep 70 = false := rfl
theorem z02 (i : Nat) : G.cmd 70 i = [] := rfl
theorem qh7 (i : Nat) : G.pre 70 i = [] := rfl
theorem qzu (i : Nat) : G.cmd 71 i = [] := rfl
theorem qk1 (i : Nat) : G.cmd 72 i = [] := rfl
theorem qka (i : Nat) : G.cmd 73 i = [] := rfl
theorem x12 (i : Nat) : G.cmd 74 i = [] := rfl
theorem z1z (i : Nat) : G.cmd 75 i = [] := rfl
theorem zj0 (i : Nat) : G.cmd 76 i = [] := rfl
theorem z2m (i : Nat) : G.cmd 77 i = [] := rfl
theorem x3y (i : Nat) : G.cmd 78 i = [] := rfl
theorem x4x (i : Nat) : G.cmd 79 i = [] := rfl
theorem zgs (i : Nat) : G.cmd 80 i = [] := rfl
theorem qjo (i : Nat) : G.cmd 81 i = [] := rfl
theorem ze0 (i : Nat) : G.cmd 82 i = [] := rfl
theorem zzr (i : Nat) : G.cmd 83 i = [] := rfl
theorem zz1 (i : Nat) : G.cmd 84 i = [] := rfl
theorem qob (i : Nat) : G.cmd 85 i = [] := rfl
theorem zr0 (i : Nat) : G.cmd 86 i = [] := rfl
theorem qid (i : Nat) : G.cmd 87 i = [] := rfl
theorem z7e (i : Nat) : G.cmd 88 i = [] := rfl
theorem z05 (i : Nat) : G.cmd 89 i = [] := rfl
theorem qkt (i : Nat) : G.cmd 90 i = [] := rfl
theorem zi3 (i : Nat) : G.cmd 91 i = [] := rfl
theorem qrg (i : Nat) : G.cmd 92 i = [] := rfl
theorem zgu (i : Nat) : G.cmd 93 i = [] := rfl
theorem za6 (i : Nat) : G.cmd 94 i = [] := rfl
theorem zxa (i : Nat) : G.cmd 95 i = [] := rfl
theorem x1h (i : Nat) : G.cmd 96 i = [] := rfl
theorem zna (i : Nat) : G.cmd 97 i = [] := rfl
theorem qye (i : Nat) : G.cmd 98 i = [] := rfl
theorem qxw (i : Nat) : G.cmd 99 i = [] := rfl
theorem z8d (i : Nat) : G.cmd 100 i = [] := rfl
theorem zzs (i : Nat) : G.cmd 101 i = [] := rfl
theorem qqc (i : Nat) : G.cmd 102 i = [] := rfl
theorem z5s (i : Nat) : G.cmd 103 i = [] := rfl
theorem zkv (i : Nat) : G.cmd 104 i = [] := rfl
theorem qmd (i : Nat) : G.cmd 105 i = [] := rfl
theorem zpn : G.owned 106 = true := rfl
theorem zeo : G.keep 106 = false := rfl
theorem zcv (i : Nat) : G.cmd 106 i = [] := rfl
theorem zmi (i : Nat) : G.pre 106 i = [] := rfl
theorem qnd : G.owned 107 = false := rfl
theorem zkx : G.keep 107 = false := rfl
theorem zdd (i : Nat) : G.cmd 107 i = [] := rfl
theorem zvq (i : Nat) : G.pre 107 i = [] := rfl
theorem qhw : G.owned 108 = false := rfl
theorem qze : G.keep 108 = false := rfl
theorem z2j (i : Nat) : G.cmd 108 i = [] := rfl
theorem zto (i : Nat) : G.pre 108 i = [] := rfl
theorem qn4 : G.owned 109 = false := rfl
theorem qvs : G.keep 109 = false := rfl
theorem x3w (i : Nat) : G.cmd 109 i = [] := rfl
theorem zfg (i : Nat) : G.pre 109 i = [] := rfl
theorem ze2 : G.owned 110 = false := rfl
theorem qqo : G.keep 110 = false := rfl
theorem x50 (i : Nat) : G.cmd 110 i = [] := rfl
theorem zwd (i : Nat) : G.pre 110 i = [] := rfl
theorem qr8 : G.owned 111 = false := rfl
theorem zo6 : G.keep 111 = false := rfl
theorem ql7 (i : Nat) : G.cmd 111 i = [] := rfl
theorem z8i (i : Nat) : G.pre 111 i = [] := rfl
theorem z6t : G.owned 112 = false := rfl
theorem zz6 : G.keep 112 = false := rfl
theorem z1x (i : Nat) : G.cmd 112 i = [] := rfl
theorem zjt (i : Nat) : G.pre 112 i = [] := rfl
theorem zv9 (i : Nat) : G.cmd 113 i = [] := rfl
theorem x1m (i : Nat) : G.cmd 114 i = [] := rfl
theorem qp0 (i : Nat) : G.cmd 115 i = [] := rfl
theorem zm8 (i : Nat) : G.cmd 116 i = [] := rfl
theorem zax (i : Nat) : G.cmd 117 i = [] := rfl
theorem qi6 (i : Nat) : G.cmd 118 i = [] := rfl
theorem ziq (i : Nat) : G.cmd 119 i = [] := rfl
theorem zdy (i : Nat) : G.cmd 120 i = [] := rfl
theorem qlc (i : Nat) : G.cmd 121 i = [] := rfl
theorem zqk (i : Nat) : G.cmd 122 i = [] := rfl
theorem znt (i : Nat) : G.cmd 123 i = [] := rfl
theorem zid (i : Nat) : G.cmd 124 i = [] := rfl
theorem zj6 (i : Nat) : G.cmd 125 i = [] := rfl
theorem z0l (i : Nat) : G.cmd 126 i = [] := rfl
theorem qsb (i : Nat) : G.cmd 127 i = [] := rfl
theorem zmj (i : Nat) : G.cmd 128 i = [] := rfl
theorem zlg (i : Nat) : G.cmd 129 i = [] := rfl
theorem zbl (i : Nat) : G.cmd 130 i = [] := rfl
theorem qy4 (i : Nat) : G.cmd 131 i = [] := rfl
theorem zmf (i : Nat) : G.cmd 132 i = [] := rfl
theorem zpi (i : Nat) : G.cmd 133 i = [] := rfl
theorem qpx (i : Nat) : G.cmd 134 i = [] := rfl
theorem z9w (i : Nat) : G.cmd 135 i = [] := rfl
theorem qoz (i : Nat) : G.cmd 136 i = [] := rfl
theorem qww (i : Nat) : G.cmd 137 i = [] := rfl
theorem qjy (i : Nat) : G.cmd 138 i = [] := rfl
theorem z8r (i : Nat) : G.cmd 139 i = [] := rfl
theorem z6m (i : Nat) : G.cmd 140 i = [] := rfl
theorem x5t (i : Nat) : G.cmd 141 i = [] := rfl
theorem z0i (i : Nat) : G.cmd 142 i = [] := rfl
theorem qyp (i : Nat) : G.cmd 143 i = [] := rfl
theorem zox (i : Nat) : G.cmd 144 i = [] := rfl
theorem znl (i : Nat) : G.cmd 145 i = [] := rfl
theorem z9n (i : Nat) : G.cmd 146 i = [] := rfl
theorem qib (i : Nat) : G.cmd 147 i = [] := rfl
theorem qup (i : Nat) : G.cmd 148 i = [] := rfl
theorem zkz (i : Nat) : G.cmd 149 i = [] := rfl
theorem qzw (i : Nat) : G.cmd 150 i = [] := rfl
theorem qub (i : Nat) : G.cmd 151 i = [] := rfl
theorem ze7 (i : Nat) : G.cmd 152 i = [] := rfl
theorem zx5 (i : Nat) : G.cmd 153 i = [] := rfl
theorem zyj (i : Nat) : G.cmd 154 i = [] := rfl
theorem zfn (i : Nat) : G.cmd 155 i = [] := rfl
theorem qlu (i : Nat) : G.cmd 156 i = [] := rfl
theorem zu5 (i : Nat) : G.cmd 157 i = [] := rfl
theorem qo5 (i : Nat) : G.cmd 158 i = [] := rfl
theorem qtl (i : Nat) : G.cmd 159 i = [] := rfl
theorem zvh (i : Nat) : G.cmd 160 i = [] := rfl
theorem qp1 (i : Nat) : G.cmd 161 i = [] := rfl
theorem z5g (i : Nat) : G.cmd 162 i = [] := rfl
theorem z0o (i : Nat) : G.cmd 163 i = [] := rfl
theorem qyl (i : Nat) : G.cmd 164 i = [] := rfl
theorem zo8 (i : Nat) : G.cmd 165 i = [] := rfl
theorem zog (i : Nat) : G.cmd 166 i = [] := rfl
theorem zr6 : G.owned 167 = true := rfl
theorem zgh : G.keep 167 = false := rfl
theorem qy3 (i : Nat) : G.cmd 167 i = [] := rfl
theorem z4v (i : Nat) : G.pre 167 i = [] := rfl
theorem z7w : G.owned 168 = false := rfl
theorem z94 : G.keep 168 = false := rfl
theorem zkt (i : Nat) : G.cmd 168 i = [] := rfl
theorem qtw (i : Nat) : G.pre 168 i = [] := rfl
theorem qu6 (i : Nat) : G.cmd 169 i = [] := rfl
theorem z99 (i : Nat) : G.cmd 170 i = [] := rfl
theorem zwj (i : Nat) : G.cmd 171 i = [] := rfl
theorem zil (i : Nat) : G.cmd 172 i = [] := rfl
theorem ql4 (i : Nat) : G.cmd 173 i = [] := rfl
theorem zcp (i : Nat) : G.cmd 174 i = [] := rfl
theorem qsr (i : Nat) : G.cmd 175 i = [] := rfl
theorem z8p (i : Nat) : G.cmd 176 i = [] := rfl
theorem qn7 (i : Nat) : G.cmd 177 i = [] := rfl
theorem x02 (i : Nat) : G.cmd 178 i = [] := rfl
theorem qxh (i : Nat) : G.cmd 179 i = [] := rfl
theorem z9b (i : Nat) : G.cmd 180 i = [] := rfl
theorem znu (i : Nat) : G.cmd 181 i = [] := rfl
theorem qmt (i : Nat) : G.cmd 182 i = [] := rfl
theorem x4v (i : Nat) : G.cmd 183 i = [] := rfl
theorem zvi (i : Nat) : G.cmd 184 i = [] := rfl
theorem qwq (i : Nat) : G.cmd 185 i = [] := rfl
theorem zoh (i : Nat) : G.cmd 186 i = [] := rfl
theorem qlp (i : Nat) : G.cmd 187 i = [] := rfl
theorem qpo (i : Nat) : G.cmd 188 i = [] := rfl
theorem x5x (i : Nat) : G.cmd 189 i = [] := rfl
theorem zfb (i : Nat) : G.cmd 190 i = [] := rfl
theorem x5l (i : Nat) : G.cmd 191 i = [] := rfl
theorem z3c (i : Nat) : G.cmd 192 i = [] := rfl
theorem x4o (i : Nat) : G.cmd 193 i = [] := rfl
theorem z5h (i : Nat) : G.cmd 194 i = [] := rfl
theorem z9j (i : Nat) : G.cmd 195 i = [] := rfl
theorem qry (i : Nat) : G.cmd 196 i = [] := rfl
theorem z0d (i : Nat) : G.cmd 197 i = [] := rfl
theorem z7c (i : Nat) : G.cmd 198 i = [] := rfl
theorem qsn (i : Nat) : G.cmd 199 i = [] := rfl
theorem zx8 (i : Nat) : G.cmd 200 i = [] := rfl
theorem zzv (i : Nat) : G.cmd 201 i = [] := rfl
theorem zlr (i : Nat) : G.cmd 202 i = [] := rfl
theorem x3r (i : Nat) : G.cmd 203 i = [] := rfl
theorem zmp (i : Nat) : G.cmd 204 i = [] := rfl
theorem qzm (i : Nat) : G.cmd 205 i = [] := rfl
theorem x2q (i : Nat) : G.cmd 206 i = [] := rfl
theorem qlx (i : Nat) : G.cmd 207 i = [] := rfl
theorem qtu (i : Nat) : G.cmd 208 i = [] := rfl
theorem z3e (i : Nat) : G.cmd 209 i = [] := rfl
theorem x2s (i : Nat) : G.cmd 210 i = [] := rfl
theorem z1t (i : Nat) : G.cmd 211 i = [] := rfl
theorem x60 (i : Nat) : G.cmd 212 i = [] := rfl
theorem qk7 (i : Nat) : G.cmd 213 i = [] := rfl
theorem x2w (i : Nat) : G.cmd 214 i = [] := rfl
theorem zjq (i : Nat) : G.cmd 215 i = [] := rfl
theorem qxt (i : Nat) : G.cmd 216 i = [] := rfl
theorem zq2 (i : Nat) : G.cmd 217 i = [] := rfl
theorem z1e (i : Nat) : G.cmd 218 i = [] := rfl
theorem zp3 (i : Nat) : G.cmd 219 i = [] := rfl
theorem x6h (i : Nat) : G.cmd 220 i = [] := rfl
theorem z9k (i : Nat) : G.cmd 221 i = [] := rfl
theorem zwh (i : Nat) : G.cmd 222 i = [] := rfl
theorem zet (i : Nat) : G.cmd 223 i = [] := rfl
theorem zzg (i : Nat) : G.cmd 224 i = [] := rfl
theorem zob (i : Nat) : G.cmd 225 i = [] := rfl
theorem qri (i : Nat) : G.cmd 226 i = [] := rfl
theorem x0e (i : Nat) : G.cmd 227 i = [] := rfl
theorem zc7 (i : Nat) : G.cmd 228 i = [] := rfl
theorem qqb (i : Nat) : G.cmd 229 i = [] := rfl
theorem qv8 (i : Nat) : G.cmd 230 i = [] := rfl
theorem z09 (i : Nat) : G.cmd 231 i = [] := rfl
theorem qml (i : Nat) : G.cmd 232 i = [] := rfl
theorem qrr (i : Nat) : G.cmd 233 i = [] := rfl
theorem z9x (i : Nat) : G.cmd 234 i = [] := rfl
theorem qhj (i : Nat) : G.cmd 235 i = [] := rfl
theorem zhq (i : Nat) : G.cmd 236 i = [] := rfl
theorem z0p (i : Nat) : G.cmd 237 i = [] := rfl
theorem qv6 : G.owned 238 = true := rfl
theorem zmc : G.keep 238 = false := rfl
theorem znm (i : Nat) : G.cmd 238 i = [] := rfl
theorem qte (i : Nat) : G.pre 238 i = [] := rfl
theorem zam (i : Nat) : G.cmd 239 i = [] := rfl
theorem qq9 (i : Nat) : G.cmd 240 i = [] := rfl
theorem quc (i : Nat) : G.cmd 241 i = [] := rfl
theorem zue (i : Nat) : G.cmd 242 i = [] := rfl
theorem qq8 (i : Nat) : G.cmd 243 i = [] := rfl
theorem zdj (i : Nat) : G.cmd 244 i = [] := rfl
theorem qir (i : Nat) : G.cmd 245 i = [] := rfl
theorem z2p (i : Nat) : G.cmd 246 i = [] := rfl
theorem zvx (i : Nat) : G.cmd 247 i = [] := rfl
theorem qko (i : Nat) : G.cmd 248 i = [] := rfl
theorem qom (i : Nat) : G.cmd 249 i = [] := rfl
theorem zhn (i : Nat) : G.cmd 250 i = [] := rfl
theorem qw0 (i : Nat) : G.cmd 251 i = [] := rfl
theorem zco (i : Nat) : G.cmd 252 i = [] := rfl
theorem zjf (i : Nat) : G.cmd 253 i = [] := rfl
theorem qnk (i : Nat) : G.cmd 254 i = [] := rfl
theorem zda (i : Nat) : G.cmd 255 i = [] := rfl
theorem zca (i : Nat) : G.cmd 256 i = [] := rfl
theorem zff (i : Nat) : G.cmd 257 i = [] := rfl
theorem qxc (i : Nat) : G.cmd 258 i = [] := rfl
theorem x0k (i : Nat) : G.cmd 259 i = [] := rfl
theorem z8q (i : Nat) : G.cmd 260 i = [] := rfl
theorem zdm (i : Nat) : G.cmd 261 i = [] := rfl
theorem zgy (i : Nat) : G.cmd 262 i = [] := rfl
theorem zg4 (i : Nat) : G.cmd 263 i = [] := rfl
theorem qps (i : Nat) : G.cmd 264 i = [] := rfl
theorem qmw (i : Nat) : G.cmd 265 i = [] := rfl
theorem x7p (i : Nat) : G.cmd 266 i = [] := rfl
theorem x7b (i : Nat) : G.cmd 267 i = [] := rfl
theorem qvv (i : Nat) : G.cmd 268 i = [] := rfl
theorem qwi (i : Nat) : G.cmd 269 i = [] := rfl
theorem qut (i : Nat) : G.cmd 270 i = [] := rfl
theorem x56 (i : Nat) : G.cmd 271 i = [] := rfl
theorem x7c (i : Nat) : G.cmd 272 i = [] := rfl
theorem ze3 (i : Nat) : G.cmd 273 i = [] := rfl
theorem zhp (i : Nat) : G.cmd 274 i = [] := rfl
theorem qkv (i : Nat) : G.cmd 275 i = [] := rfl
theorem qod (i : Nat) : G.cmd 276 i = [] := rfl
theorem qts (i : Nat) : G.cmd 277 i = [] := rfl
theorem x1x (i : Nat) : G.cmd 278 i = [] := rfl
theorem qjf (i : Nat) : G.cmd 279 i = [] := rfl
theorem qpk (i : Nat) : G.cmd 280 i = [] := rfl
theorem zng (i : Nat) : G.cmd 281 i = [] := rfl
theorem x79 (i : Nat) : G.cmd 282 i = [] := rfl
theorem z6i (i : Nat) : G.cmd 283 i = [] := rfl
theorem x7h (i : Nat) : G.cmd 284 i = [] := rfl
theorem zom (i : Nat) : G.cmd 285 i = [] := rfl
theorem qv5 (i : Nat) : G.cmd 286 i = [] := rfl
theorem zlq (i : Nat) : G.cmd 287 i = [] := rfl
theorem qrx (i : Nat) : G.cmd 288 i = [] := rfl
theorem zbm (i : Nat) : G.cmd 289 i = [] := rfl
theorem z00 (i : Nat) : G.cmd 290 i = [] := rfl
theorem zqo (i : Nat) : G.cmd 291 i = [] := rfl
theorem x4l (i : Nat) : G.cmd 292 i = [] := rfl
theorem qu2 (i : Nat) : G.cmd 293 i = [] := rfl
theorem qz7 (i : Nat) : G.cmd 294 i = [] := rfl
theorem zbr (i : Nat) : G.cmd 295 i = [] := rfl
theorem zso (i : Nat) : G.cmd 296 i = [] := rfl
theorem qvc (i : Nat) : G.cmd 297 i = [] := rfl
theorem zst (i : Nat) : G.cmd 298 i = [] := rfl
theorem qw2 (i : Nat) : G.cmd 299 i = [] := rfl
theorem qzn (i : Nat) : G.cmd 300 i = [] := rfl
theorem zgd (i : Nat) : G.cmd 301 i = [] := rfl
theorem qt2 (i : Nat) : G.cmd 302 i = [] := rfl
theorem qph (i : Nat) : G.cmd 303 i = [] := rfl
theorem z8g (i : Nat) : G.cmd 304 i = [] := rfl
theorem qti (i : Nat) : G.cmd 305 i = [] := rfl
theorem z4j (i : Nat) : G.cmd 306 i = [] := rfl
theorem ztg (i : Nat) : G.cmd 307 i = [] := rfl
theorem qvx (i : Nat) : G.cmd 308 i = [] := rfl
theorem zdf (i : Nat) : G.cmd 309 i = [] := rfl
theorem qt9 (i : Nat) : G.cmd 310 i = [] := rfl
theorem x3d (i : Nat) : G.cmd 311 i = [] := rfl
theorem z2s (i : Nat) : G.cmd 312 i = [] := rfl
theorem qu8 (i : Nat) : G.cmd 313 i = [] := rfl
theorem qqq (i : Nat) : G.cmd 314 i = [] := rfl
theorem zze (i : Nat) : G.cmd 315 i = [] := rfl
theorem qm5 (i : Nat) : G.cmd 316 i = [] := rfl
theorem z6b (i : Nat) : G.cmd 317 i = [] := rfl
theorem qy6 (i : Nat) : G.cmd 318 i = [] := rfl
theorem zzj (i : Nat) : G.cmd 319 i = [] := rfl
theorem z7d (i : Nat) : G.cmd 320 i = [] := rfl
theorem qn6 (i : Nat) : G.cmd 321 i = [] := rfl
theorem qip (i : Nat) : G.cmd 322 i = [] := rfl
theorem zf2 (i : Nat) : G.cmd 323 i = [] := rfl
theorem zgl (i : Nat) : G.cmd 324 i = [] := rfl
theorem qn0 (i : Nat) : G.cmd 325 i = [] := rfl
theorem qkg (i : Nat) : G.cmd 326 i = [] := rfl
theorem z1m (i : Nat) : G.cmd 327 i = [] := rfl
theorem qil (i : Nat) : G.cmd 328 i = [] := rfl
theorem z4z (i : Nat) : G.cmd 329 i = [] := rfl
theorem qqg (i : Nat) : G.cmd 330 i = [] := rfl
theorem qh9 (i : Nat) : G.cmd 331 i = [] := rfl
theorem ztm (i : Nat) : G.cmd 332 i = [] := rfl
theorem x6d (i : Nat) : G.cmd 333 i = [] := rfl
theorem zuz (i : Nat) : G.cmd 334 i = [] := rfl
theorem x6p (i : Nat) : G.cmd 335 i = [] := rfl
theorem x3a (i : Nat) : G.cmd 336 i = [] := rfl
theorem zcd (i : Nat) : G.cmd 337 i = [] := rfl
theorem qyu (i : Nat) : G.cmd 338 i = [] := rfl
theorem qrz (i : Nat) : G.cmd 339 i = [] := rfl
theorem x6x (i : Nat) : G.cmd 340 i = [] := rfl
theorem zo9 (i : Nat) : G.cmd 341 i = [] := rfl
theorem zrz (i : Nat) : G.cmd 342 i = [] := rfl
theorem zjk (i : Nat) : G.cmd 343 i = [] := rfl
theorem zqr (i : Nat) : G.cmd 344 i = [] := rfl
theorem z5z (i : Nat) : G.cmd 345 i = [] := rfl
theorem x2m (i : Nat) : G.cmd 346 i = [] := rfl
theorem z8z (i : Nat) : G.cmd 347 i = [] := rfl
theorem zl8 (i : Nat) : G.cmd 348 i = [] := rfl
theorem zht (i : Nat) : G.cmd 349 i = [] := rfl
theorem qn1 (i : Nat) : G.cmd 350 i = [] := rfl
theorem zre (i : Nat) : G.cmd 351 i = [] := rfl
theorem zyc (i : Nat) : G.cmd 352 i = [] := rfl
theorem zzx (i : Nat) : G.cmd 353 i = [] := rfl
theorem zyx (i : Nat) : G.cmd 354 i = [] := rfl
theorem z5t (i : Nat) : G.cmd 355 i = [] := rfl
theorem zae (i : Nat) : G.cmd 356 i = [] := rfl
theorem qx7 (i : Nat) : G.cmd 357 i = [] := rfl
theorem qvb (i : Nat) : G.cmd 358 i = [] := rfl
theorem zpw (i : Nat) : G.cmd 359 i = [] := rfl
theorem qo0 (i : Nat) : G.cmd 360 i = [] := rfl
theorem qlt (i : Nat) : G.cmd 361 i = [] := rfl
theorem x49 (i : Nat) : G.cmd 362 i = [] := rfl
theorem zn5 (i : Nat) : G.cmd 363 i = [] := rfl
theorem qm0 (i : Nat) : G.cmd 364 i = [] := rfl
theorem z2a (i : Nat) : G.cmd 365 i = [] := rfl
theorem qpa (i : Nat) : G.cmd 366 i = [] := rfl
theorem zjc (i : Nat) : G.cmd 367 i = [] := rfl
theorem zsu (i : Nat) : G.cmd 368 i = [] := rfl
theorem x03 (i : Nat) : G.cmd 369 i = [] := rfl
theorem zgf (i : Nat) : G.cmd 370 i = [] := rfl
theorem zc6 (i : Nat) : G.cmd 371 i = [] := rfl
theorem zoo (i : Nat) : G.cmd 372 i = [] := rfl
theorem zz4 (i : Nat) : G.cmd 373 i = [] := rfl
theorem zl6 (i : Nat) : G.cmd 374 i = [] := rfl
theorem zyz (i : Nat) : G.cmd 375 i = [] := rfl
theorem zh0 (i : Nat) : G.cmd 376 i = [] := rfl
theorem qq4 (i : Nat) : G.cmd 377 i = [] := rfl
theorem zds (i : Nat) : G.cmd 378 i = [] := rfl
theorem qxu (i : Nat) : G.cmd 379 i = [] := rfl
theorem qp4 (i : Nat) : G.cmd 380 i = [] := rfl
theorem qr5 (i : Nat) : G.cmd 381 i = [] := rfl
theorem zd8 (i : Nat) : G.cmd 382 i = [] := rfl
theorem z4n (i : Nat) : G.cmd 383 i = [] := rfl
theorem zw6 (i : Nat) : G.cmd 384 i = [] := rfl
theorem zvo (i : Nat) : G.cmd 385 i = [] := rfl
theorem zcl (i : Nat) : G.cmd 386 i = [] := rfl
theorem zw1 (i : Nat) : G.cmd 387 i = [] := rfl
theorem z0k (i : Nat) : G.cmd 388 i = [] := rfl
theorem qsk (i : Nat) : G.cmd 389 i = [] := rfl
theorem zoz (i : Nat) : G.cmd 390 i = [] := rfl
theorem z3h (i : Nat) : G.cmd 391 i = [] := rfl
theorem qt3 (i : Nat) : G.cmd 392 i = [] := rfl
theorem zim (i : Nat) : G.cmd 393 i = [] := rfl
theorem x6c (i : Nat) : G.cmd 394 i = [] := rfl
theorem qy7 (i : Nat) : G.cmd 395 i = [] := rfl
theorem qum (i : Nat) : G.cmd 396 i = [] := rfl
theorem zzu (i : Nat) : G.cmd 397 i = [] := rfl
theorem zuo (i : Nat) : G.cmd 398 i = [] := rfl
theorem z6q (i : Nat) : G.cmd 399 i = [] := rfl
theorem z4h (i : Nat) : G.cmd 400 i = [] := rfl
theorem z6o (i : Nat) : G.cmd 401 i = [] := rfl
theorem ztc (i : Nat) : G.cmd 402 i = [] := rfl
theorem zuq (i : Nat) : G.cmd 403 i = [] := rfl
theorem zit (i : Nat) : G.cmd 404 i = [] := rfl
theorem quh (i : Nat) : G.cmd 405 i = [] := rfl
theorem zxg (i : Nat) : G.cmd 406 i = [] := rfl
theorem zy7 (i : Nat) : G.cmd 407 i = [] := rfl
theorem qp2 (i : Nat) : G.cmd 408 i = [] := rfl
theorem z3m (i : Nat) : G.cmd 409 i = [] := rfl
theorem qth (i : Nat) : G.cmd 410 i = [] := rfl
theorem zan (i : Nat) : G.cmd 411 i = [] := rfl
theorem zzt (i : Nat) : G.cmd 412 i = [] := rfl
theorem znv (i : Nat) : G.cmd 413 i = [] := rfl
theorem x7d (i : Nat) : G.cmd 414 i = [] := rfl
theorem x42 (i : Nat) : G.cmd 415 i = [] := rfl
theorem qpy (i : Nat) : G.cmd 416 i = [] := rfl
theorem zp4 (i : Nat) : G.cmd 417 i = [] := rfl
theorem x6n (i : Nat) : G.cmd 418 i = [] := rfl
theorem qie (i : Nat) : G.cmd 419 i = [] := rfl
theorem qw8 (i : Nat) : G.cmd 420 i = [] := rfl
theorem x15 (i : Nat) : G.cmd 421 i = [] := rfl
theorem zc5 (i : Nat) : G.cmd 422 i = [] := rfl
theorem z4y (i : Nat) : G.cmd 423 i = [] := rfl
theorem zpq (i : Nat) : G.cmd 424 i = [] := rfl
theorem zp8 (i : Nat) : G.cmd 425 i = [] := rfl
theorem qnp (i : Nat) : G.cmd 426 i = [] := rfl
theorem zwo (i : Nat) : G.cmd 427 i = [] := rfl
theorem zj2 (i : Nat) : G.cmd 428 i = [] := rfl
theorem qwj (i : Nat) : G.cmd 429 i = [] := rfl
theorem x5e (i : Nat) : G.cmd 430 i = [] := rfl
theorem zrs (i : Nat) : G.cmd 431 i = [] := rfl
theorem qx9 (i : Nat) : G.cmd 432 i = [] := rfl
theorem ql0 (i : Nat) : G.cmd 433 i = [] := rfl
theorem qkp (i : Nat) : G.cmd 434 i = [] := rfl
theorem zny (i : Nat) : G.cmd 435 i = [] := rfl
theorem quj (i : Nat) : G.cmd 436 i = [] := rfl
theorem qij (i : Nat) : G.cmd 437 i = [] := rfl
theorem z5n (i : Nat) : G.cmd 438 i = [] := rfl
theorem zvf (i : Nat) : G.cmd 439 i = [] := rfl
theorem ze8 (i : Nat) : G.cmd 440 i = [] := rfl
theorem qox (i : Nat) : G.cmd 441 i = [] := rfl
theorem zsy (i : Nat) : G.cmd 442 i = [] := rfl
theorem zu1 (i : Nat) : G.cmd 443 i = [] := rfl
theorem qqh (i : Nat) : G.cmd 444 i = [] := rfl
theorem z6x (i : Nat) : G.cmd 445 i = [] := rfl
theorem zm0 (i : Nat) : G.cmd 446 i = [] := rfl
theorem z8j : G.spec 10 0 = ⟨[3,6,42,43,44],[2],[],[],[],0⟩ := rfl
theorem qwa : G.spec 10 2 = ⟨[3,6,7,8,9,42,43,44,54,55,56],[2,3,8,42,43,44],[],[],[],0⟩ := rfl
theorem qkc : G.spec 11 0 = ⟨[1,10,11,12],[4],[],[],[],0⟩ := rfl
theorem zs1 : G.spec 11 2 = ⟨[1,6,10,11,12,17,18,19],[1,4,10,11,12],[],[],[],0⟩ := rfl
theorem zmh : G.spec 13 0 = ⟨[0,3,12,13,14],[4],[],[],[],0⟩ := rfl
theorem z7v : G.spec 13 2 = ⟨[0,3,7,12,13,14,22,23,24],[0,3,4,12,13,14],[],[],[],0⟩ := rfl
theorem zjh : G.spec 15 0 = ⟨[0,3,13,14,15],[4],[],[],[],0⟩ := rfl
theorem x0g : G.spec 19 0 = ⟨[3,11,12,13],[3],[],[],[],0⟩ := rfl
theorem que : G.spec 19 2 = ⟨[3,11,12,13,18,19,20],[3,11,12,13],[],[],[],0⟩ := rfl
theorem qr6 : G.spec 27 0 = ⟨[0,1,12,13],[4],[],[],[],0⟩ := rfl
theorem z1o : G.spec 30 0 = ⟨[0,1,14,15,16],[1,4,5],[],[],[],0⟩ := rfl
theorem zq9 : G.spec 31 0 = ⟨[2,5,18,19,20],[4],[],[],[18],0⟩ := rfl
theorem qt7 : G.spec 33 0 = ⟨[0,5,10,11,12],[5],[5],[],[],0⟩ := rfl
theorem qky : G.spec 33 2 = ⟨[0,5,10,11,12,17,18,19],[0,5,10,11,12],[5],[],[],0⟩ := rfl
theorem qjp : G.spec 34 0 = ⟨[1,2,3,7,8,9,10],[7,8,9],[],[],[],0⟩ := rfl
theorem zgm : G.spec 36 0 = ⟨[0,1,7,8],[4],[],[],[],0⟩ := rfl
theorem zc3 : G.spec 37 0 = ⟨[0,1,7,8],[4],[],[],[],0⟩ := rfl
theorem zgn : G.spec 66 0 = ⟨[4,14,15,16],[4],[4],[],[],0⟩ := rfl
theorem qju : G.spec 67 0 = ⟨[1,2,5],[1,2,4],[],[],[],0⟩ := rfl
theorem z9z : G.spec 108 0 = ⟨[3,6,7,8],[2,3],[],[],[],0⟩ := rfl
theorem z2d : G.spec 112 0 = ⟨[0,1,7,8],[4],[],[],[],0⟩ := rfl
theorem zpg : G.spec 167 0 = ⟨[0,1,2,6,7,8],[0,1,2,6,7],[],[],[],0⟩ := rfl
theorem zvr : G.spec 167 2 = ⟨[0,1,2,6],[],[],[],[],0⟩ := rfl
theorem zqd : G.spec 167 4 = ⟨[0,1,2,6,7,8],[0,1,2,6,7],[],[],[],0⟩ := rfl
theorem x58 : G.spec 238 0 = ⟨[0,1,2,3,8],[],[],[],[],0⟩ := rfl
theorem zdu : G.spec 238 2 = ⟨[0,1,2,3,8,9],[0,1,2,3,8],[],[],[],0⟩ := rfl
theorem fz1 : G.frz 1 = false := rfl
theorem fz2 : G.frz 2 = false := rfl
theorem fz3 : G.frz 3 = false := rfl
theorem fz4 : G.frz 4 = false := rfl
theorem fz5 : G.frz 5 = false := rfl
theorem fz6 : G.frz 6 = false := rfl
theorem fz7 : G.frz 7 = false := rfl
theorem fz8 : G.frz 8 = false := rfl
theorem fz9 : G.frz 9 = false := rfl
theorem zhb : G.frz 10 = false := rfl
theorem x7i : G.frz 11 = false := rfl
theorem qlq : G.frz 12 = false := rfl
theorem zvl : G.frz 13 = false := rfl
theorem x16 : G.frz 14 = false := rfl
theorem z5m : G.frz 15 = false := rfl
theorem zqi : G.frz 16 = false := rfl
theorem zq7 : G.frz 17 = false := rfl
theorem x04 : G.frz 18 = false := rfl
theorem qla : G.frz 19 = false := rfl
theorem qsh : G.frz 20 = false := rfl
theorem z2l : G.frz 21 = false := rfl
theorem z7z : G.frz 22 = false := rfl
theorem z2g : G.frz 23 = false := rfl
theorem zal : G.frz 24 = false := rfl
theorem qt6 : G.frz 25 = false := rfl
theorem zmg : G.frz 26 = false := rfl
theorem znb : G.frz 27 = false := rfl
theorem zdc : G.frz 28 = false := rfl
theorem zj7 : G.frz 29 = false := rfl
theorem z0a : G.frz 30 = false := rfl
theorem qhe : G.frz 31 = false := rfl
theorem zwt : G.frz 32 = false := rfl
theorem zv8 : G.frz 33 = false := rfl
theorem zqm : G.frz 34 = false := rfl
theorem zyv : G.frz 35 = false := rfl
theorem z5i : G.frz 36 = false := rfl
theorem zfa : G.frz 37 = false := rfl
theorem zm1 : G.frz 38 = false := rfl
theorem qjl : G.frz 39 = false := rfl
theorem qo9 : G.frz 40 = false := rfl
theorem zb0 : G.frz 41 = false := rfl
theorem zcf : G.frz 42 = false := rfl
theorem qy0 : G.frz 43 = false := rfl
theorem qha : G.frz 44 = false := rfl
theorem qhc : G.frz 45 = false := rfl
theorem zbg : G.frz 46 = false := rfl
theorem x1n : G.frz 47 = false := rfl
theorem qw3 : G.frz 48 = false := rfl
theorem zj4 : G.frz 49 = false := rfl
theorem zrn : G.frz 50 = false := rfl
theorem zjm : G.frz 51 = false := rfl
theorem zc0 : G.frz 52 = false := rfl
theorem zj8 : G.frz 54 = false := rfl
theorem qmx : G.frz 55 = false := rfl
theorem z5f : G.frz 56 = false := rfl
theorem qkr : G.frz 57 = false := rfl
theorem zon : G.frz 58 = false := rfl
theorem x6q : G.frz 59 = false := rfl
theorem quz : G.frz 60 = false := rfl
theorem x7m : G.frz 61 = false := rfl
theorem zks : G.frz 62 = false := rfl
theorem qym : G.frz 63 = false := rfl
theorem zcj : G.frz 64 = false := rfl
theorem zhu : G.frz 65 = false := rfl
theorem qrs : G.frz 66 = false := rfl
theorem qsi : G.frz 67 = false := rfl
theorem zql : G.frz 68 = false := rfl
theorem zyf : G.frz 69 = false := rfl
theorem x7g : G.frz 70 = false := rfl
theorem z8t : G.frz 71 = false := rfl
theorem qyn : G.frz 72 = false := rfl
theorem qra : G.frz 73 = false := rfl
theorem x37 : G.frz 74 = false := rfl
theorem qlw : G.frz 75 = false := rfl
theorem zo3 : G.frz 76 = false := rfl
theorem qqa : G.frz 77 = false := rfl
theorem qp3 : G.frz 78 = false := rfl
theorem qiq : G.frz 79 = false := rfl
theorem quv : G.frz 81 = false := rfl
theorem zn3 : G.frz 82 = false := rfl
theorem zpu : G.frz 83 = false := rfl
theorem ztl : G.frz 84 = false := rfl
theorem x6f : G.frz 86 = false := rfl
theorem zck : G.frz 87 = false := rfl
theorem z2w : G.frz 88 = false := rfl
theorem zcc : G.frz 89 = false := rfl
theorem z2u : G.frz 90 = false := rfl
theorem z4k : G.frz 91 = false := rfl
theorem x0s : G.frz 92 = false := rfl
theorem ztr : G.frz 94 = false := rfl
theorem z11 : G.frz 95 = false := rfl
theorem qls : G.frz 96 = false := rfl
theorem znd : G.frz 97 = false := rfl
theorem z6p : G.frz 98 = false := rfl
theorem zs4 : G.frz 99 = false := rfl
theorem zd6 : G.frz 101 = false := rfl
theorem x1v : G.frz 102 = false := rfl
theorem qq7 : G.frz 103 = false := rfl
theorem zww : G.frz 104 = false := rfl
theorem qpu : G.frz 105 = false := rfl
theorem qx1 : G.frz 106 = false := rfl
theorem x4y : G.frz 107 = false := rfl
theorem z0u : G.frz 108 = false := rfl
theorem z9p : G.frz 109 = false := rfl
theorem qy1 : G.frz 110 = false := rfl
theorem zpj : G.frz 111 = false := rfl
theorem qkf : G.frz 112 = false := rfl
theorem zu9 : G.frz 113 = false := rfl
theorem x0y : G.frz 114 = false := rfl
theorem qo7 : G.frz 115 = false := rfl
theorem zqn : G.frz 116 = false := rfl
theorem zsz : G.frz 117 = false := rfl
theorem zms : G.frz 118 = false := rfl
theorem zq0 : G.frz 119 = false := rfl
theorem z7y : G.frz 120 = false := rfl
theorem zlp : G.frz 122 = false := rfl
theorem ziv : G.frz 123 = false := rfl
theorem zy2 : G.frz 124 = false := rfl
theorem qoi : G.frz 125 = false := rfl
theorem x48 : G.frz 127 = false := rfl
theorem zxy : G.frz 128 = false := rfl
theorem qvu : G.frz 130 = false := rfl
theorem qw5 : G.frz 131 = false := rfl
theorem qrj : G.frz 132 = false := rfl
theorem qtq : G.frz 133 = false := rfl
theorem zs9 : G.frz 134 = false := rfl
theorem zdw : G.frz 135 = false := rfl
theorem qv1 : G.frz 136 = false := rfl
theorem zcx : G.frz 137 = false := rfl
theorem zk5 : G.frz 138 = false := rfl
theorem qtk : G.frz 139 = false := rfl
theorem z8c : G.frz 140 = false := rfl
theorem qj0 : G.frz 141 = false := rfl
theorem z9a : G.frz 142 = false := rfl
theorem qvq : G.frz 143 = false := rfl
theorem qn5 : G.frz 144 = false := rfl
theorem qn2 : G.frz 146 = false := rfl
theorem zxi : G.frz 147 = false := rfl
theorem zko : G.frz 148 = false := rfl
theorem qr4 : G.frz 149 = false := rfl
theorem zw9 : G.frz 150 = false := rfl
theorem zia : G.frz 151 = false := rfl
theorem z8k : G.frz 153 = false := rfl
theorem zry : G.frz 154 = false := rfl
theorem z95 : G.frz 155 = false := rfl
theorem zed : G.frz 156 = false := rfl
theorem ztx : G.frz 157 = false := rfl
theorem qtc : G.frz 158 = false := rfl
theorem qt0 : G.frz 159 = false := rfl
theorem qpf : G.frz 160 = false := rfl
theorem zfo : G.frz 161 = false := rfl
theorem zln : G.frz 162 = false := rfl
theorem qyy : G.frz 163 = false := rfl
theorem qyf : G.frz 164 = false := rfl
theorem x3i : G.frz 165 = false := rfl
theorem qkw : G.frz 166 = false := rfl
theorem z2x : G.frz 168 = false := rfl
theorem qoo : G.frz 169 = false := rfl
theorem qmo : G.frz 170 = false := rfl
theorem zhy : G.frz 171 = false := rfl
theorem zow : G.frz 172 = false := rfl
theorem zyk : G.frz 173 = false := rfl
theorem zxd : G.frz 174 = false := rfl
theorem zyl : G.frz 176 = false := rfl
theorem zdv : G.frz 177 = false := rfl
theorem zs5 : G.frz 178 = false := rfl
theorem x6a : G.frz 179 = false := rfl
theorem z6e : G.frz 180 = false := rfl
theorem z4i : G.frz 181 = false := rfl
theorem zhz : G.frz 182 = false := rfl
theorem zly : G.frz 183 = false := rfl
theorem zkp : G.frz 184 = false := rfl
theorem x57 : G.frz 185 = false := rfl
theorem qiz : G.frz 186 = false := rfl
theorem qvt : G.frz 187 = false := rfl
theorem z9u : G.frz 189 = false := rfl
theorem z7f : G.frz 190 = false := rfl
theorem zr7 : G.frz 191 = false := rfl
theorem qkk : G.frz 193 = false := rfl
theorem zbc : G.frz 194 = false := rfl
theorem zhi : G.frz 195 = false := rfl
theorem zjy : G.frz 196 = false := rfl
theorem x1u : G.frz 197 = false := rfl
theorem z9q : G.frz 198 = false := rfl
theorem z6z : G.frz 199 = false := rfl
theorem qk6 : G.frz 200 = false := rfl
theorem z0j : G.frz 201 = false := rfl
theorem qlr : G.frz 202 = false := rfl
theorem zz5 : G.frz 203 = false := rfl
theorem zdz : G.frz 204 = false := rfl
theorem qiw : G.frz 205 = false := rfl
theorem qo1 : G.frz 206 = false := rfl
theorem zzk : G.frz 208 = false := rfl
theorem zsv : G.frz 209 = false := rfl
theorem zwp : G.frz 210 = false := rfl
theorem z1y : G.frz 211 = false := rfl
theorem qnu : G.frz 212 = false := rfl
theorem zoc : G.frz 213 = false := rfl
theorem qj7 : G.frz 215 = false := rfl
theorem zye : G.frz 217 = false := rfl
theorem z7o : G.frz 218 = false := rfl
theorem qpe : G.frz 219 = false := rfl
theorem zw7 : G.frz 220 = false := rfl
theorem qm3 : G.frz 221 = false := rfl
theorem qtb : G.frz 222 = false := rfl
theorem zu8 : G.frz 223 = false := rfl
theorem qol : G.frz 224 = false := rfl
theorem x4h : G.frz 226 = false := rfl
theorem z7h : G.frz 227 = false := rfl
theorem qyr : G.frz 228 = false := rfl
theorem qzk : G.frz 229 = false := rfl
theorem qz5 : G.frz 230 = false := rfl
theorem qtf : G.frz 231 = false := rfl
theorem zlc : G.frz 232 = false := rfl
theorem qkj : G.frz 233 = false := rfl
theorem qzx : G.frz 234 = false := rfl
theorem x4i : G.frz 235 = false := rfl
theorem zs7 : G.frz 236 = false := rfl
theorem qsu : G.frz 237 = false := rfl
theorem qmy : G.frz 238 = false := rfl
theorem zts : G.frz 239 = false := rfl
theorem zdh : G.frz 240 = false := rfl
theorem x05 : G.frz 241 = false := rfl
theorem zkb : G.frz 242 = false := rfl
theorem qnn : G.frz 244 = false := rfl
theorem qlj : G.frz 245 = false := rfl
theorem zta : G.frz 246 = false := rfl
theorem qmm : G.frz 247 = false := rfl
theorem qmc : G.frz 248 = false := rfl
theorem qzp : G.frz 250 = false := rfl
theorem qme : G.frz 251 = false := rfl
theorem qwy : G.frz 252 = false := rfl
theorem qyo : G.frz 254 = false := rfl
theorem zbw : G.frz 255 = false := rfl
theorem qx2 : G.frz 257 = false := rfl
theorem qn8 : G.frz 258 = false := rfl
theorem x51 : G.frz 259 = false := rfl
theorem qhy : G.frz 260 = false := rfl
theorem qvl : G.frz 261 = false := rfl
theorem z2c : G.frz 262 = false := rfl
theorem zqw : G.frz 263 = false := rfl
theorem qwk : G.frz 264 = false := rfl
theorem zxj : G.frz 265 = false := rfl
theorem qy5 : G.frz 266 = false := rfl
theorem zbj : G.frz 267 = false := rfl
theorem z3q : G.frz 268 = false := rfl
theorem zfe : G.frz 269 = false := rfl
theorem qto : G.frz 270 = false := rfl
theorem zh3 : G.frz 271 = false := rfl
theorem qmz : G.frz 272 = false := rfl
theorem qug : G.frz 273 = false := rfl
theorem zav : G.frz 274 = false := rfl
theorem z03 : G.frz 275 = false := rfl
theorem x53 : G.frz 276 = false := rfl
theorem zov : G.frz 277 = false := rfl
theorem qz4 : G.frz 278 = false := rfl
theorem x2x : G.frz 279 = false := rfl
theorem qyc : G.frz 280 = false := rfl
theorem zej : G.frz 282 = false := rfl
theorem zy5 : G.frz 283 = false := rfl
theorem znw : G.frz 284 = false := rfl
theorem qq1 : G.frz 285 = false := rfl
theorem quy : G.frz 286 = false := rfl
theorem zg5 : G.frz 287 = false := rfl
theorem ztj : G.frz 288 = false := rfl
theorem zbf : G.frz 289 = false := rfl
theorem z1d : G.frz 290 = false := rfl
theorem z7g : G.frz 292 = false := rfl
theorem x2k : G.frz 293 = false := rfl
theorem z4l : G.frz 294 = false := rfl
theorem qmq : G.frz 295 = false := rfl
theorem zfq : G.frz 296 = false := rfl
theorem qs0 : G.frz 297 = false := rfl
theorem zk0 : G.frz 298 = false := rfl
theorem zv5 : G.frz 299 = false := rfl
theorem ze9 : G.frz 300 = false := rfl
theorem zuj : G.frz 301 = false := rfl
theorem ze6 : G.frz 302 = false := rfl
theorem qlk : G.frz 303 = false := rfl
theorem zeq : G.frz 304 = false := rfl
theorem z8x : G.frz 305 = false := rfl
theorem zcs : G.frz 306 = false := rfl
theorem qy8 : G.frz 308 = false := rfl
theorem qp8 : G.frz 309 = false := rfl
theorem z88 : G.frz 310 = false := rfl
theorem ziz : G.frz 312 = false := rfl
theorem z3v : G.frz 313 = false := rfl
theorem zyg : G.frz 314 = false := rfl
theorem qiv : G.frz 315 = false := rfl
theorem ql3 : G.frz 316 = false := rfl
theorem zsx : G.frz 317 = false := rfl
theorem qpm : G.frz 318 = false := rfl
theorem z7k : G.frz 319 = false := rfl
theorem zgj : G.frz 320 = false := rfl
theorem qim : G.frz 321 = false := rfl
theorem x6s : G.frz 322 = false := rfl
theorem zfi : G.frz 323 = false := rfl
theorem zi4 : G.frz 324 = false := rfl
theorem qwb : G.frz 326 = false := rfl
theorem znh : G.frz 327 = false := rfl
theorem qm9 : G.frz 328 = false := rfl
theorem zje : G.frz 329 = false := rfl
theorem zee : G.frz 330 = false := rfl
theorem x3k : G.frz 331 = false := rfl
theorem zmb : G.frz 332 = false := rfl
theorem z2e : G.frz 333 = false := rfl
theorem qty : G.frz 334 = false := rfl
theorem qj1 : G.frz 336 = false := rfl
theorem x6r : G.frz 337 = false := rfl
theorem qia : G.frz 338 = false := rfl
theorem qtr : G.frz 339 = false := rfl
theorem qo8 : G.frz 340 = false := rfl
theorem qr2 : G.frz 341 = false := rfl
theorem qxs : G.frz 343 = false := rfl
theorem x78 : G.frz 344 = false := rfl
theorem x2u : G.frz 345 = false := rfl
theorem z3a : G.frz 346 = false := rfl
theorem zbo : G.frz 347 = false := rfl
theorem ztn : G.frz 348 = false := rfl
theorem zvj : G.frz 349 = false := rfl
theorem qr3 : G.frz 350 = false := rfl
theorem qr7 : G.frz 351 = false := rfl
theorem ql5 : G.frz 352 = false := rfl
theorem qll : G.frz 353 = false := rfl
theorem zi0 : G.frz 354 = false := rfl
theorem qjd : G.frz 355 = false := rfl
theorem z7s : G.frz 356 = false := rfl
theorem x4r : G.frz 358 = false := rfl
theorem z6s : G.frz 359 = false := rfl
theorem qrk : G.frz 360 = false := rfl
theorem x2r : G.frz 361 = false := rfl
theorem zyr : G.frz 362 = false := rfl
theorem zrl : G.frz 363 = false := rfl
theorem z3l : G.frz 364 = false := rfl
theorem z9i : G.frz 365 = false := rfl
theorem zjv : G.frz 366 = false := rfl
theorem x4n : G.frz 367 = false := rfl
theorem zqs : G.frz 368 = false := rfl
theorem qne : G.frz 370 = false := rfl
theorem qt1 : G.frz 371 = false := rfl
theorem qy2 : G.frz 372 = false := rfl
theorem qwe : G.frz 373 = false := rfl
theorem zr3 : G.frz 374 = false := rfl
theorem qo2 : G.frz 375 = false := rfl
theorem z3o : G.frz 376 = false := rfl
theorem z5b : G.frz 378 = false := rfl
theorem zbs : G.frz 379 = false := rfl
theorem qif : G.frz 380 = false := rfl
theorem x23 : G.frz 381 = false := rfl
theorem qtv : G.frz 382 = false := rfl
theorem z0q : G.frz 383 = false := rfl
theorem zy0 : G.frz 384 = false := rfl
theorem qof : G.frz 385 = false := rfl
theorem qsx : G.frz 386 = false := rfl
theorem x2f : G.frz 387 = false := rfl
theorem zu4 : G.frz 388 = false := rfl
theorem zxu : G.frz 389 = false := rfl
theorem x0o : G.frz 390 = false := rfl
theorem x3e : G.frz 391 = false := rfl
theorem qhn : G.frz 392 = false := rfl
theorem qsz : G.frz 393 = false := rfl
theorem zka : G.frz 394 = false := rfl
theorem qu5 : G.frz 395 = false := rfl
theorem qjw : G.frz 397 = false := rfl
theorem zd5 : G.frz 398 = false := rfl
theorem qrb : G.frz 399 = false := rfl
theorem x6m : G.frz 400 = false := rfl
theorem qur : G.frz 402 = false := rfl
theorem zd9 : G.frz 403 = false := rfl
theorem qpr : G.frz 404 = false := rfl
theorem qnl : G.frz 405 = false := rfl
theorem qpz : G.frz 406 = false := rfl
theorem qrh : G.frz 407 = false := rfl
theorem x3j : G.frz 408 = false := rfl
theorem x1a : G.frz 409 = false := rfl
theorem qx3 : G.frz 410 = false := rfl
theorem qj8 : G.frz 411 = false := rfl
theorem qvd : G.frz 412 = false := rfl
theorem qss : G.frz 413 = false := rfl
theorem z5d : G.frz 414 = false := rfl
theorem qo4 : G.frz 415 = false := rfl
theorem x5q : G.frz 416 = false := rfl
theorem qus : G.frz 418 = false := rfl
theorem qjs : G.frz 419 = false := rfl
theorem zkd : G.frz 420 = false := rfl
theorem zz0 : G.frz 421 = false := rfl
theorem zlm : G.frz 422 = false := rfl
theorem qhl : G.frz 423 = false := rfl
theorem zaz : G.frz 424 = false := rfl
theorem zcz : G.frz 425 = false := rfl
theorem qxr : G.frz 426 = false := rfl
theorem qq0 : G.frz 427 = false := rfl
theorem zy8 : G.frz 429 = false := rfl
theorem qh0 : G.frz 430 = false := rfl
theorem zl9 : G.frz 431 = false := rfl
theorem qwc : G.frz 432 = false := rfl
theorem zxe : G.frz 433 = false := rfl
theorem z1n : G.frz 434 = false := rfl
theorem qkb : G.frz 435 = false := rfl
theorem zve : G.frz 436 = false := rfl
theorem zt0 : G.frz 437 = false := rfl
theorem zsf : G.frz 438 = false := rfl
theorem zha : G.frz 439 = false := rfl
theorem qzz : G.frz 441 = false := rfl
theorem zdp : G.frz 442 = false := rfl
theorem z2t : G.frz 443 = false := rfl
theorem qpl : G.frz 444 = false := rfl
theorem qh6 : G.frz 445 = false := rfl
theorem zn4 : G.frz 446 = false := rfl
theorem qgy : G.frz 447 = false := rfl
theorem z9y : G.frz 448 = false := rfl
theorem quw : G.frz 449 = false := rfl
theorem zsh : G.frz 450 = false := rfl
theorem z4w : G.frz 451 = false := rfl
theorem zf5 : G.frz 452 = false := rfl
theorem x6j : G.frz 453 = false := rfl
theorem z3j : G.frz 454 = false := rfl
theorem zv7 : G.frz 455 = false := rfl
theorem x52 : G.frz 456 = false := rfl
theorem ztf : G.frz 458 = false := rfl
theorem qrt : G.frz 460 = false := rfl
theorem z5c : G.frz 461 = false := rfl
theorem zhm : G.frz 462 = false := rfl
theorem zgg : G.frz 463 = false := rfl
theorem zvm : G.frz 464 = false := rfl
theorem zva : G.frz 465 = false := rfl
theorem qq2 : G.frz 466 = false := rfl
theorem zb7 : G.frz 467 = false := rfl
theorem zmd : G.frz 469 = false := rfl
theorem qs8 : G.frz 471 = false := rfl
theorem qow : G.frz 472 = false := rfl
theorem zfv : G.frz 473 = false := rfl
theorem qqf : G.frz 474 = false := rfl
theorem x5m : G.frz 475 = false := rfl
theorem zzo : G.frz 476 = false := rfl
theorem x7j : G.frz 477 = false := rfl
theorem qhb : G.frz 478 = false := rfl
theorem zih : G.frz 479 = false := rfl
theorem qis : G.frz 481 = false := rfl
theorem znq : G.frz 483 = false := rfl
theorem qz8 : G.frz 484 = false := rfl
theorem qrn : G.frz 485 = false := rfl
theorem qt8 : G.frz 487 = false := rfl
theorem qi7 : G.frz 488 = false := rfl
theorem zpf : G.frz 489 = false := rfl
theorem qsg : G.frz 491 = false := rfl
theorem qve : G.frz 492 = false := rfl
theorem zd3 : G.frz 493 = false := rfl
theorem zxr : G.frz 494 = false := rfl
theorem zu6 : G.frz 495 = false := rfl
theorem qit : G.frz 496 = false := rfl
theorem zwu : G.frz 497 = false := rfl
theorem x62 : G.frz 499 = false := rfl
theorem zq5 : G.frz 500 = false := rfl
theorem zxs : G.frz 501 = false := rfl
theorem qs7 : G.frz 502 = false := rfl
theorem qi3 : G.frz 503 = false := rfl
theorem qoe : G.frz 504 = false := rfl
theorem x6y : G.frz 505 = false := rfl
theorem zj9 : G.frz 507 = false := rfl
theorem qx4 : G.frz 508 = false := rfl
theorem zrm : G.frz 509 = false := rfl
theorem qu0 : G.frz 510 = false := rfl
theorem z6g : G.frz 511 = false := rfl
theorem zfr : G.frz 513 = false := rfl
theorem zoa : G.frz 514 = false := rfl
theorem z3p : G.frz 515 = false := rfl
theorem z9f : G.frz 516 = false := rfl
theorem x36 : G.frz 518 = false := rfl
theorem x3v : G.frz 519 = false := rfl
theorem qiy : G.frz 521 = false := rfl
theorem za9 : G.frz 522 = false := rfl
theorem x14 : G.frz 523 = false := rfl
theorem qhs : G.frz 524 = false := rfl
theorem zaf : G.frz 525 = false := rfl
theorem z1r : G.frz 526 = false := rfl
theorem zq6 : G.frz 527 = false := rfl
theorem ztw : G.frz 528 = false := rfl
theorem qw1 : G.frz 529 = false := rfl
theorem zwe : G.frz 530 = false := rfl
theorem qld : G.frz 531 = false := rfl
theorem zlk : G.frz 532 = false := rfl
theorem zw8 : G.frz 533 = false := rfl
theorem zse : G.frz 534 = false := rfl
theorem x1d : G.frz 535 = false := rfl
theorem zxm : G.frz 536 = false := rfl
theorem zf3 : G.frz 537 = false := rfl
theorem z5j : G.frz 538 = false := rfl
theorem zh6 : G.frz 539 = false := rfl
theorem qru : G.frz 540 = false := rfl
theorem quf : G.frz 541 = false := rfl
theorem mf1 : G.mrf 1 = false := rfl
theorem mf2 : G.mrf 2 = false := rfl
theorem mf3 : G.mrf 3 = false := rfl
theorem mf4 : G.mrf 4 = false := rfl
theorem mf5 : G.mrf 5 = false := rfl
theorem mf6 : G.mrf 6 = false := rfl
theorem mf7 : G.mrf 7 = false := rfl
theorem mf8 : G.mrf 8 = false := rfl
theorem mf9 : G.mrf 9 = false := rfl
theorem x5c : G.mrf 10 = false := rfl
theorem qyw : G.mrf 11 = false := rfl
theorem zjn : G.mrf 12 = false := rfl
theorem zic : G.mrf 13 = false := rfl
theorem zw5 : G.mrf 14 = false := rfl
theorem z8b : G.mrf 15 = false := rfl
theorem ql9 : G.mrf 16 = false := rfl
theorem x08 : G.mrf 17 = false := rfl
theorem qpq : G.mrf 18 = false := rfl
theorem zc9 : G.mrf 19 = false := rfl
theorem qvi : G.mrf 20 = false := rfl
theorem zhd : G.mrf 21 = false := rfl
theorem x5v : G.mrf 22 = false := rfl
theorem qv9 : G.mrf 23 = false := rfl
theorem zqy : G.mrf 24 = false := rfl
theorem x2t : G.mrf 25 = false := rfl
theorem zu3 : G.mrf 26 = false := rfl
theorem z8l : G.mrf 27 = false := rfl
theorem qs9 : G.mrf 28 = false := rfl
theorem z3k : G.mrf 29 = false := rfl
theorem zxb : G.mrf 30 = false := rfl
theorem qzs : G.mrf 31 = false := rfl
theorem zep : G.mrf 32 = false := rfl
theorem x4p : G.mrf 33 = false := rfl
theorem qkz : G.mrf 34 = false := rfl
theorem qih : G.mrf 35 = false := rfl
theorem z0y : G.mrf 36 = false := rfl
theorem qu3 : G.mrf 37 = false := rfl
theorem zq3 : G.mrf 38 = false := rfl
theorem qkd : G.mrf 39 = false := rfl
theorem x4d : G.mrf 40 = false := rfl
theorem z0g : G.mrf 41 = false := rfl
theorem zgo : G.mrf 42 = false := rfl
theorem z2y : G.mrf 43 = false := rfl
theorem x7o : G.mrf 44 = false := rfl
theorem zlt : G.mrf 45 = false := rfl
theorem qpd : G.mrf 46 = false := rfl
theorem zel : G.mrf 47 = false := rfl
theorem qi5 : G.mrf 48 = false := rfl
theorem zi1 : G.mrf 49 = false := rfl
theorem zoq : G.mrf 50 = false := rfl
theorem qly : G.mrf 51 = false := rfl
theorem x6w : G.mrf 52 = false := rfl
theorem zth : G.mrf 54 = false := rfl
theorem zx2 : G.mrf 55 = false := rfl
theorem z13 : G.mrf 56 = false := rfl
theorem zfx : G.mrf 57 = false := rfl
theorem qmf : G.mrf 58 = false := rfl
theorem z1b : G.mrf 59 = false := rfl
theorem z0s : G.mrf 60 = false := rfl
theorem qji : G.mrf 61 = false := rfl
theorem x2h : G.mrf 62 = false := rfl
theorem zwq : G.mrf 63 = false := rfl
theorem qnr : G.mrf 64 = false := rfl
theorem zoi : G.mrf 65 = false := rfl
theorem x1s : G.mrf 66 = false := rfl
theorem qtg : G.mrf 67 = false := rfl
theorem x5h : G.mrf 68 = false := rfl
theorem z4b : G.mrf 69 = false := rfl
theorem z9v : G.mrf 70 = false := rfl
theorem x01 : G.mrf 71 = false := rfl
theorem znk : G.mrf 72 = false := rfl
theorem zkl : G.mrf 73 = false := rfl
theorem zd1 : G.mrf 74 = false := rfl
theorem qi4 : G.mrf 75 = false := rfl
theorem ztt : G.mrf 76 = false := rfl
theorem qi2 : G.mrf 77 = false := rfl
theorem z0h : G.mrf 78 = false := rfl
theorem zld : G.mrf 79 = false := rfl
theorem qx8 : G.mrf 81 = false := rfl
theorem zge : G.mrf 82 = false := rfl
theorem zou : G.mrf 83 = false := rfl
theorem zzn : G.mrf 84 = false := rfl
theorem zpz : G.mrf 86 = false := rfl
theorem zbz : G.mrf 87 = false := rfl
theorem z6h : G.mrf 88 = false := rfl
theorem zn6 : G.mrf 89 = false := rfl
theorem zdi : G.mrf 90 = false := rfl
theorem zo7 : G.mrf 91 = false := rfl
theorem qny : G.mrf 92 = false := rfl
theorem zok : G.mrf 94 = false := rfl
theorem x6i : G.mrf 95 = false := rfl
theorem qsw : G.mrf 96 = false := rfl
theorem zpe : G.mrf 97 = false := rfl
theorem zi8 : G.mrf 98 = false := rfl
theorem ql1 : G.mrf 99 = false := rfl
theorem z0w : G.mrf 101 = false := rfl
theorem zcn : G.mrf 102 = false := rfl
theorem x2e : G.mrf 103 = false := rfl
theorem qqu : G.mrf 104 = false := rfl
theorem ztp : G.mrf 105 = false := rfl
theorem qtm : G.mrf 106 = false := rfl
theorem zfj : G.mrf 107 = false := rfl
theorem zgp : G.mrf 108 = false := rfl
theorem z2v : G.mrf 109 = false := rfl
theorem z1s : G.mrf 110 = false := rfl
theorem x5s : G.mrf 111 = false := rfl
theorem zb9 : G.mrf 112 = false := rfl
theorem zw3 : G.mrf 113 = false := rfl
theorem z7x : G.mrf 114 = false := rfl
theorem x5r : G.mrf 115 = false := rfl
theorem qk4 : G.mrf 116 = false := rfl
theorem z9g : G.mrf 117 = false := rfl
theorem x59 : G.mrf 118 = false := rfl
theorem zl7 : G.mrf 119 = false := rfl
theorem qs3 : G.mrf 120 = false := rfl
theorem qul : G.mrf 122 = false := rfl
theorem zek : G.mrf 123 = false := rfl
theorem zei : G.mrf 124 = false := rfl
theorem z1f : G.mrf 125 = false := rfl
theorem x0r : G.mrf 127 = false := rfl
theorem qlm : G.mrf 128 = false := rfl
theorem qta : G.mrf 130 = false := rfl
theorem zes : G.mrf 131 = false := rfl
theorem qro : G.mrf 132 = false := rfl
theorem zyy : G.mrf 133 = false := rfl
theorem zvc : G.mrf 134 = false := rfl
theorem zjw : G.mrf 135 = false := rfl
theorem x4z : G.mrf 136 = false := rfl
theorem zpa : G.mrf 137 = false := rfl
theorem zmz : G.mrf 138 = false := rfl
theorem zpt : G.mrf 139 = false := rfl
theorem ztv : G.mrf 140 = false := rfl
theorem zuy : G.mrf 141 = false := rfl
theorem qzj : G.mrf 142 = false := rfl
theorem zaj : G.mrf 143 = false := rfl
theorem zjz : G.mrf 144 = false := rfl
theorem z4t : G.mrf 146 = false := rfl
theorem zt8 : G.mrf 147 = false := rfl
theorem zgw : G.mrf 148 = false := rfl
theorem qyv : G.mrf 149 = false := rfl
theorem zjx : G.mrf 150 = false := rfl
theorem zau : G.mrf 151 = false := rfl
theorem x63 : G.mrf 153 = false := rfl
theorem x0i : G.mrf 154 = false := rfl
theorem qsd : G.mrf 155 = false := rfl
theorem zf1 : G.mrf 156 = false := rfl
theorem zr1 : G.mrf 157 = false := rfl
theorem znn : G.mrf 158 = false := rfl
theorem z6n : G.mrf 159 = false := rfl
theorem x1y : G.mrf 160 = false := rfl
theorem x1o : G.mrf 161 = false := rfl
theorem zf6 : G.mrf 162 = false := rfl
theorem qns : G.mrf 163 = false := rfl
theorem ze1 : G.mrf 164 = false := rfl
theorem qxi : G.mrf 165 = false := rfl
theorem zrv : G.mrf 166 = false := rfl
theorem qnx : G.mrf 168 = false := rfl
theorem zma : G.mrf 169 = false := rfl
theorem qxm : G.mrf 170 = false := rfl
theorem x2n : G.mrf 171 = false := rfl
theorem qh8 : G.mrf 172 = false := rfl
theorem zii : G.mrf 173 = false := rfl
theorem zga : G.mrf 174 = false := rfl
theorem qs4 : G.mrf 176 = false := rfl
theorem z98 : G.mrf 177 = false := rfl
theorem z1w : G.mrf 178 = false := rfl
theorem x64 : G.mrf 179 = false := rfl
theorem qmb : G.mrf 180 = false := rfl
theorem x2y : G.mrf 181 = false := rfl
theorem qh4 : G.mrf 182 = false := rfl
theorem zsi : G.mrf 183 = false := rfl
theorem x21 : G.mrf 184 = false := rfl
theorem qwx : G.mrf 185 = false := rfl
theorem x47 : G.mrf 186 = false := rfl
theorem zp7 : G.mrf 187 = false := rfl
theorem z81 : G.mrf 189 = false := rfl
theorem zdk : G.mrf 190 = false := rfl
theorem z4d : G.mrf 191 = false := rfl
theorem qle : G.mrf 193 = false := rfl
theorem zkj : G.mrf 194 = false := rfl
theorem zyd : G.mrf 195 = false := rfl
theorem zzy : G.mrf 196 = false := rfl
theorem zfc : G.mrf 197 = false := rfl
theorem qw9 : G.mrf 198 = false := rfl
theorem quq : G.mrf 199 = false := rfl
theorem zqt : G.mrf 200 = false := rfl
theorem qgz : G.mrf 201 = false := rfl
theorem x0f : G.mrf 202 = false := rfl
theorem zea : G.mrf 203 = false := rfl
theorem z1u : G.mrf 204 = false := rfl
theorem zcg : G.mrf 205 = false := rfl
theorem zvk : G.mrf 206 = false := rfl
theorem z2n : G.mrf 208 = false := rfl
theorem zdb : G.mrf 209 = false := rfl
theorem zo1 : G.mrf 210 = false := rfl
theorem x6g : G.mrf 211 = true := rfl
theorem qjg : G.mrf 212 = false := rfl
theorem zvv : G.mrf 213 = false := rfl
theorem zne : G.mrf 215 = false := rfl
theorem qxo : G.mrf 217 = false := rfl
theorem qik : G.mrf 218 = false := rfl
theorem qre : G.mrf 219 = false := rfl
theorem x00 : G.mrf 220 = false := rfl
theorem qw7 : G.mrf 221 = false := rfl
theorem z5x : G.mrf 222 = false := rfl
theorem zys : G.mrf 223 = false := rfl
theorem zgx : G.mrf 224 = false := rfl
theorem zen : G.mrf 226 = false := rfl
theorem zk8 : G.mrf 227 = false := rfl
theorem qho : G.mrf 228 = false := rfl
theorem x4w : G.mrf 229 = false := rfl
theorem qwm : G.mrf 230 = false := rfl
theorem qxf : G.mrf 231 = false := rfl
theorem zxn : G.mrf 232 = false := rfl
theorem x0t : G.mrf 233 = false := rfl
theorem z7b : G.mrf 234 = false := rfl
theorem zg1 : G.mrf 235 = false := rfl
theorem qi0 : G.mrf 236 = false := rfl
theorem z4c : G.mrf 237 = false := rfl
theorem x2z : G.mrf 238 = false := rfl
theorem qr9 : G.mrf 239 = false := rfl
theorem zyo : G.mrf 240 = false := rfl
theorem x06 : G.mrf 241 = false := rfl
theorem z8v : G.mrf 242 = false := rfl
theorem zbk : G.mrf 244 = false := rfl
theorem zhl : G.mrf 245 = false := rfl
theorem x2j : G.mrf 246 = false := rfl
theorem z5y : G.mrf 247 = false := rfl
theorem zuv : G.mrf 248 = false := rfl
theorem zgz : G.mrf 250 = false := rfl
theorem z0v : G.mrf 251 = false := rfl
theorem zkn : G.mrf 252 = false := rfl
theorem zah : G.mrf 254 = false := rfl
theorem zaw : G.mrf 255 = false := rfl
theorem qzl : G.mrf 257 = false := rfl
theorem znj : G.mrf 258 = false := rfl
theorem zaq : G.mrf 259 = false := rfl
theorem zu7 : G.mrf 260 = false := rfl
theorem za2 : G.mrf 261 = false := rfl
theorem zhh : G.mrf 262 = false := rfl
theorem zpv : G.mrf 263 = false := rfl
theorem zkr : G.mrf 264 = false := rfl
theorem qh2 : G.mrf 265 = false := rfl
theorem qhr : G.mrf 266 = false := rfl
theorem zzc : G.mrf 267 = false := rfl
theorem x4c : G.mrf 268 = false := rfl
theorem qj2 : G.mrf 269 = false := rfl
theorem zf7 : G.mrf 270 = false := rfl
theorem z9l : G.mrf 271 = false := rfl
theorem zcq : G.mrf 272 = false := rfl
theorem qsj : G.mrf 273 = false := rfl
theorem qu1 : G.mrf 274 = false := rfl
theorem z1c : G.mrf 275 = false := rfl
theorem qjz : G.mrf 276 = false := rfl
theorem x0p : G.mrf 277 = false := rfl
theorem qkq : G.mrf 278 = false := rfl
theorem qtt : G.mrf 279 = false := rfl
theorem qy9 : G.mrf 280 = false := rfl
theorem zni : G.mrf 282 = false := rfl
theorem qrc : G.mrf 283 = false := rfl
theorem zef : G.mrf 284 = false := rfl
theorem zke : G.mrf 285 = false := rfl
theorem zk3 : G.mrf 286 = false := rfl
theorem z1a : G.mrf 287 = false := rfl
theorem zsp : G.mrf 288 = false := rfl
theorem zgi : G.mrf 289 = false := rfl
theorem zjg : G.mrf 290 = false := rfl
theorem zrd : G.mrf 292 = false := rfl
theorem zac : G.mrf 293 = false := rfl
theorem zc8 : G.mrf 294 = false := rfl
theorem x1g : G.mrf 295 = false := rfl
theorem zkf : G.mrf 296 = false := rfl
theorem qnh : G.mrf 297 = false := rfl
theorem qlv : G.mrf 298 = false := rfl
theorem quu : G.mrf 299 = false := rfl
theorem x2i : G.mrf 300 = false := rfl
theorem zr2 : G.mrf 301 = false := rfl
theorem zqq : G.mrf 302 = false := rfl
theorem qk5 : G.mrf 303 = false := rfl
theorem qke : G.mrf 304 = false := rfl
theorem z3g : G.mrf 305 = false := rfl
theorem qsf : G.mrf 306 = false := rfl
theorem zhj : G.mrf 308 = false := rfl
theorem z1k : G.mrf 309 = false := rfl
theorem qma : G.mrf 310 = false := rfl
theorem qhg : G.mrf 312 = false := rfl
theorem z9t : G.mrf 313 = false := rfl
theorem zhf : G.mrf 314 = false := rfl
theorem zbx : G.mrf 315 = false := rfl
theorem zhr : G.mrf 316 = false := rfl
theorem z2f : G.mrf 317 = false := rfl
theorem x0z : G.mrf 318 = false := rfl
theorem qv7 : G.mrf 319 = false := rfl
theorem zir : G.mrf 320 = false := rfl
theorem qrv : G.mrf 321 = false := rfl
theorem qm4 : G.mrf 322 = false := rfl
theorem zpb : G.mrf 323 = false := rfl
theorem qjb : G.mrf 324 = false := rfl
theorem zt1 : G.mrf 326 = false := rfl
theorem z7i : G.mrf 327 = false := rfl
theorem qj9 : G.mrf 328 = false := rfl
theorem qst : G.mrf 329 = false := rfl
theorem x0x : G.mrf 330 = false := rfl
theorem ztb : G.mrf 331 = false := rfl
theorem zo0 : G.mrf 332 = false := rfl
theorem x7n : G.mrf 333 = false := rfl
theorem zos : G.mrf 334 = false := rfl
theorem qua : G.mrf 336 = false := rfl
theorem zy6 : G.mrf 337 = false := rfl
theorem qv0 : G.mrf 338 = false := rfl
theorem z9c : G.mrf 339 = false := rfl
theorem qj6 : G.mrf 340 = false := rfl
theorem x4a : G.mrf 341 = false := rfl
theorem qys : G.mrf 343 = false := rfl
theorem z8m : G.mrf 344 = false := rfl
theorem zro : G.mrf 345 = false := rfl
theorem x5i : G.mrf 346 = false := rfl
theorem x19 : G.mrf 347 = false := rfl
theorem zs8 : G.mrf 348 = false := rfl
theorem z3y : G.mrf 349 = false := rfl
theorem zba : G.mrf 350 = false := rfl
theorem qoc : G.mrf 351 = false := rfl
theorem qln : G.mrf 352 = false := rfl
theorem zoe : G.mrf 353 = false := rfl
theorem qnm : G.mrf 354 = false := rfl
theorem z4p : G.mrf 355 = false := rfl
theorem qin : G.mrf 356 = false := rfl
theorem qkx : G.mrf 358 = false := rfl
theorem x5u : G.mrf 359 = false := rfl
theorem zyp : G.mrf 360 = false := rfl
theorem zri : G.mrf 361 = false := rfl
theorem zf0 : G.mrf 362 = false := rfl
theorem zx3 : G.mrf 363 = false := rfl
theorem zsw : G.mrf 364 = false := rfl
theorem znc : G.mrf 365 = false := rfl
theorem qhx : G.mrf 366 = false := rfl
theorem zew : G.mrf 367 = false := rfl
theorem qno : G.mrf 368 = false := rfl
theorem x7e : G.mrf 370 = false := rfl
theorem qix : G.mrf 371 = false := rfl
theorem x22 : G.mrf 372 = false := rfl
theorem qoh : G.mrf 373 = false := rfl
theorem qio : G.mrf 374 = false := rfl
theorem qs5 : G.mrf 375 = false := rfl
theorem zyq : G.mrf 376 = false := rfl
theorem qhp : G.mrf 378 = false := rfl
theorem zde : G.mrf 379 = false := rfl
theorem zps : G.mrf 380 = false := rfl
theorem x1w : G.mrf 381 = false := rfl
theorem qvm : G.mrf 382 = false := rfl
theorem zhs : G.mrf 383 = false := rfl
theorem zeh : G.mrf 384 = false := rfl
theorem zer : G.mrf 385 = false := rfl
theorem x1p : G.mrf 386 = false := rfl
theorem zur : G.mrf 387 = false := rfl
theorem x35 : G.mrf 388 = false := rfl
theorem z3n : G.mrf 389 = false := rfl
theorem zml : G.mrf 390 = false := rfl
theorem x3b : G.mrf 391 = false := rfl
theorem x4m : G.mrf 392 = false := rfl
theorem zwk : G.mrf 393 = false := rfl
theorem zb2 : G.mrf 394 = false := rfl
theorem ztq : G.mrf 395 = false := rfl
theorem zft : G.mrf 397 = false := rfl
theorem zsc : G.mrf 398 = false := rfl
theorem zlj : G.mrf 399 = false := rfl
theorem z6r : G.mrf 400 = false := rfl
theorem zws : G.mrf 402 = false := rfl
theorem znx : G.mrf 403 = false := rfl
theorem zqp : G.mrf 404 = false := rfl
theorem zup : G.mrf 405 = false := rfl
theorem zxw : G.mrf 406 = false := rfl
theorem qh5 : G.mrf 407 = false := rfl
theorem qyx : G.mrf 408 = true := rfl
theorem x44 : G.mrf 409 = false := rfl
theorem zdl : G.mrf 410 = false := rfl
theorem qva : G.mrf 411 = true := rfl
theorem qlz : G.mrf 412 = false := rfl
theorem zh1 : G.mrf 413 = false := rfl
theorem zzi : G.mrf 414 = false := rfl
theorem zli : G.mrf 415 = false := rfl
theorem za1 : G.mrf 416 = false := rfl
theorem zf4 : G.mrf 418 = false := rfl
theorem x5p : G.mrf 419 = false := rfl
theorem qun : G.mrf 420 = false := rfl
theorem qjc : G.mrf 421 = false := rfl
theorem qmu : G.mrf 422 = false := rfl
theorem zgt : G.mrf 423 = false := rfl
theorem zuu : G.mrf 424 = false := rfl
theorem ziw : G.mrf 425 = false := rfl
theorem zpy : G.mrf 426 = false := rfl
theorem qig : G.mrf 427 = false := rfl
theorem zdo : G.mrf 429 = false := rfl
theorem zdn : G.mrf 430 = false := rfl
theorem qpb : G.mrf 431 = false := rfl
theorem qxn : G.mrf 432 = false := rfl
theorem zm9 : G.mrf 433 = false := rfl
theorem zhk : G.mrf 434 = false := rfl
theorem qwd : G.mrf 435 = false := rfl
theorem zf8 : G.mrf 436 = true := rfl
theorem x65 : G.mrf 437 = false := rfl
theorem qpg : G.mrf 438 = false := rfl
theorem zx4 : G.mrf 439 = false := rfl
theorem zya : G.mrf 441 = false := rfl
theorem zuh : G.mrf 442 = false := rfl
theorem zz8 : G.mrf 443 = false := rfl
theorem zp1 : G.mrf 444 = false := rfl
theorem zt2 : G.mrf 445 = false := rfl
theorem qj5 : G.mrf 446 = false := rfl
theorem z4m : G.mrf 447 = false := rfl
theorem x5b : G.mrf 448 = false := rfl
theorem qud : G.mrf 449 = false := rfl
theorem z6c : G.mrf 450 = false := rfl
theorem qq5 : G.mrf 451 = false := rfl
theorem qmg : G.mrf 452 = false := rfl
theorem x61 : G.mrf 453 = false := rfl
theorem qzi : G.mrf 454 = false := rfl
theorem zll : G.mrf 455 = false := rfl
theorem zvz : G.mrf 456 = false := rfl
theorem z0z : G.mrf 458 = false := rfl
theorem z4a : G.mrf 460 = false := rfl
theorem z9h : G.mrf 461 = false := rfl
theorem znr : G.mrf 462 = false := rfl
theorem qor : G.mrf 463 = false := rfl
theorem z1g : G.mrf 464 = false := rfl
theorem zr4 : G.mrf 465 = false := rfl
theorem z7l : G.mrf 466 = false := rfl
theorem zzw : G.mrf 467 = false := rfl
theorem qyq : G.mrf 469 = false := rfl
theorem zr5 : G.mrf 471 = false := rfl
theorem zgk : G.mrf 472 = false := rfl
theorem zr9 : G.mrf 473 = false := rfl
theorem zzm : G.mrf 474 = false := rfl
theorem z6y : G.mrf 475 = false := rfl
theorem x72 : G.mrf 476 = false := rfl
theorem x4f : G.mrf 477 = false := rfl
theorem zg6 : G.mrf 478 = false := rfl
theorem qqw : G.mrf 479 = false := rfl
theorem x6k : G.mrf 481 = false := rfl
theorem zj5 : G.mrf 483 = false := rfl
theorem zl0 : G.mrf 484 = false := rfl
theorem qql : G.mrf 485 = false := rfl
theorem zgc : G.mrf 487 = false := rfl
theorem x5o : G.mrf 488 = false := rfl
theorem qnc : G.mrf 489 = false := rfl
theorem qoa : G.mrf 491 = false := rfl
theorem z7m : G.mrf 492 = false := rfl
theorem qwu : G.mrf 493 = false := rfl
theorem qxj : G.mrf 494 = false := rfl
theorem qxv : G.mrf 495 = false := rfl
theorem qso : G.mrf 496 = false := rfl
theorem zch : G.mrf 497 = false := rfl
theorem ql8 : G.mrf 499 = false := rfl
theorem x0q : G.mrf 500 = false := rfl
theorem x1e : G.mrf 501 = false := rfl
theorem qi9 : G.mrf 502 = false := rfl
theorem zoy : G.mrf 503 = false := rfl
theorem zvw : G.mrf 504 = false := rfl
theorem zxk : G.mrf 505 = false := rfl
theorem zi9 : G.mrf 507 = false := rfl
theorem za7 : G.mrf 508 = false := rfl
theorem qqr : G.mrf 509 = false := rfl
theorem zwr : G.mrf 510 = false := rfl
theorem qxg : G.mrf 511 = false := rfl
theorem zk9 : G.mrf 513 = false := rfl
theorem zph : G.mrf 514 = false := rfl
theorem x74 : G.mrf 515 = false := rfl
theorem zy9 : G.mrf 516 = false := rfl
theorem x1c : G.mrf 518 = false := rfl
theorem qv4 : G.mrf 519 = false := rfl
theorem z9s : G.mrf 521 = false := rfl
theorem z1j : G.mrf 522 = false := rfl
theorem zgb : G.mrf 523 = false := rfl
theorem qhh : G.mrf 524 = false := rfl
theorem qpj : G.mrf 525 = false := rfl
theorem z4f : G.mrf 526 = false := rfl
theorem z8e : G.mrf 527 = false := rfl
theorem z9o : G.mrf 528 = false := rfl
theorem zh9 : G.mrf 529 = false := rfl
theorem z2k : G.mrf 530 = false := rfl
theorem qui : G.mrf 531 = false := rfl
theorem zt7 : G.mrf 532 = false := rfl
theorem zyb : G.mrf 533 = false := rfl
theorem qqt : G.mrf 534 = false := rfl
theorem z4e : G.mrf 535 = false := rfl
theorem zp6 : G.mrf 536 = false := rfl
theorem qo3 : G.mrf 537 = false := rfl
theorem qzy : G.mrf 538 = false := rfl
theorem zb1 : G.mrf 539 = false := rfl
theorem zex : G.mrf 540 = false := rfl
theorem zx0 : G.mrf 541 = false := rfl
theorem ti3 : G.ti 3 = some ⟨1,8,.int .i64,[.int .i64 0],false,none⟩ := by kernel_rfl
theorem ti4 : G.ti 4 = some ⟨1,1,.bool,[.bool false],false,none⟩ := by kernel_rfl
theorem ti5 : G.ti 5 = some ⟨1,1,.int .u8,[.int .u8 0],false,none⟩ := by kernel_rfl
theorem ti9 : G.ti 9 = some ⟨1,16,.string,[.str []],false,none⟩ := by kernel_rfl
theorem x75 : G.ti 24 = some ⟨2,16,.struct [(0,1,3),(1,1,3)],[.int .i64 0,.int .i64 0],true,none⟩ := by kernel_rfl
theorem zno : G.ti 34 = some ⟨18,200,.struct [(0,2,24),(2,1,3),(3,1,3),(4,1,4),(5,1,4),(6,11,31),(17,1,32)],[.int .i64 0,.int .i64 0,.int .i64 0,.int .i64 0,.bool false,.bool false,.int .i64 0,.str [],.bool false,.sl true 0 [],.int .i64 0,.int .i64 0,.bool false,.sl true 0 [],.sl true 0 [],.bool false,.bool false,.sl true 0 []],true,none⟩ := by kernel_rfl
theorem zrp : G.ti 35 = some ⟨1,24,.slice 34,[.sl true 0 []],false,none⟩ := by kernel_rfl
theorem z18 : G.ti 37 = some ⟨3,40,.struct [(0,2,24),(2,1,35)],[.int .i64 0,.int .i64 0,.sl true 0 []],true,none⟩ := by kernel_rfl
theorem zn1 : G.ti 39 = some ⟨2,16,.struct [(0,1,3),(1,1,3)],[.int .i64 0,.int .i64 0],true,none⟩ := by kernel_rfl
theorem x7l : G.ti 40 = some ⟨1,24,.slice 39,[.sl true 0 []],false,none⟩ := by kernel_rfl
theorem zrj : G.ti 41 = some ⟨1,24,.slice 37,[.sl true 0 []],false,none⟩ := by kernel_rfl
theorem zgq : G.ti 43 = some ⟨2,32,.struct [(0,1,3),(1,1,41)],[.int .i64 0,.sl true 0 []],true,none⟩ := by kernel_rfl
theorem z5q : G.ti 44 = some ⟨1,24,.slice 43,[.sl true 0 []],false,none⟩ := by kernel_rfl
theorem zti : G.ti 46 = some ⟨3,64,.struct [(0,1,9),(1,1,40),(2,1,44)],[.str [],.sl true 0 [],.sl true 0 []],true,none⟩ := by kernel_rfl
theorem qwz : G.ti 49 = some ⟨1,24,.slice 5,[.sl true 0 []],false,none⟩ := by kernel_rfl
theorem qwf : G.ti 69 = some ⟨1,24,.slice 3,[.sl true 0 []],false,none⟩ := by kernel_rfl
theorem qjh : G.ti 72 = some ⟨1,8,.int .u64,[.int .u64 0],false,none⟩ := by kernel_rfl
theorem qk2 : G.ti 79 = some ⟨1,8,.int .i64,[.int .i64 0],false,none⟩ := by kernel_rfl
theorem x0w : G.ti 95 = some ⟨1,24,.slice 24,[.sl true 0 []],false,none⟩ := by kernel_rfl
theorem zme : G.ti 104 = some ⟨1,8,.map 3 3,[.nilmap],false,none⟩ := by kernel_rfl
theorem qxd : G.ti 149 = some ⟨1,24,.slice 4,[.sl true 0 []],false,none⟩ := by kernel_rfl
theorem fn3 : G.fn 3 = some ⟨Tryz.f3.ntmps,Tryz.f3.results.toList,Tryz.f3.body.get!⟩ := by kernel_rfl
theorem fn5 : G.fn 5 = some ⟨Tryz.f5.ntmps,Tryz.f5.results.toList,Tryz.f5.body.get!⟩ := by kernel_rfl
theorem fn6 : G.fn 6 = some ⟨Tryz.f6.ntmps,Tryz.f6.results.toList,Tryz.f6.body.get!⟩ := by kernel_rfl
theorem xc : G.fn 10 = some ⟨Tryz.f10.ntmps,Tryz.f10.results.toList,Tryz.f10.body.get!⟩ := by kernel_rfl
theorem zl : G.fn 11 = some ⟨Tryz.f11.ntmps,Tryz.f11.results.toList,Tryz.f11.body.get!⟩ := by kernel_rfl
theorem qel : G.fn 12 = some ⟨Tryz.f12.ntmps,Tryz.f12.results.toList,Tryz.f12.body.get!⟩ := by kernel_rfl
theorem q1q : G.fn 13 = some ⟨Tryz.f13.ntmps,Tryz.f13.results.toList,Tryz.f13.body.get!⟩ := by kernel_rfl
theorem qfx : G.fn 14 = some ⟨Tryz.f14.ntmps,Tryz.f14.results.toList,Tryz.f14.body.get!⟩ := by kernel_rfl
theorem q6q : G.fn 15 = some ⟨Tryz.f15.ntmps,Tryz.f15.results.toList,Tryz.f15.body.get!⟩ := by kernel_rfl
theorem qcl : G.fn 16 = some ⟨Tryz.f16.ntmps,Tryz.f16.results.toList,Tryz.f16.body.get!⟩ := by kernel_rfl
theorem zhw : G.fn 17 = some ⟨Tryz.f17.ntmps,Tryz.f17.results.toList,Tryz.f17.body.get!⟩ := by kernel_rfl
theorem z3r : G.fn 18 = some ⟨Tryz.f18.ntmps,Tryz.f18.results.toList,Tryz.f18.body.get!⟩ := by kernel_rfl
theorem q34 : G.fn 19 = some ⟨Tryz.f19.ntmps,Tryz.f19.results.toList,Tryz.f19.body.get!⟩ := by kernel_rfl
theorem q4v : G.fn 27 = some ⟨Tryz.f27.ntmps,Tryz.f27.results.toList,Tryz.f27.body.get!⟩ := by kernel_rfl
theorem q2t : G.fn 30 = some ⟨Tryz.f30.ntmps,Tryz.f30.results.toList,Tryz.f30.body.get!⟩ := by kernel_rfl
theorem q0y : G.fn 31 = some ⟨Tryz.f31.ntmps,Tryz.f31.results.toList,Tryz.f31.body.get!⟩ := by kernel_rfl
theorem qr1 : G.fn 32 = some ⟨Tryz.f32.ntmps,Tryz.f32.results.toList,Tryz.f32.body.get!⟩ := by kernel_rfl
theorem q3t : G.fn 33 = some ⟨Tryz.f33.ntmps,Tryz.f33.results.toList,Tryz.f33.body.get!⟩ := by kernel_rfl
theorem ni : G.fn 34 = some ⟨Tryz.f34.ntmps,Tryz.f34.results.toList,Tryz.f34.body.get!⟩ := by kernel_rfl
theorem q00 : G.fn 36 = some ⟨Tryz.f36.ntmps,Tryz.f36.results.toList,Tryz.f36.body.get!⟩ := by kernel_rfl
theorem q5u : G.fn 37 = some ⟨Tryz.f37.ntmps,Tryz.f37.results.toList,Tryz.f37.body.get!⟩ := by kernel_rfl
theorem zqf : G.fn 39 = some ⟨Tryz.f39.ntmps,Tryz.f39.results.toList,Tryz.f39.body.get!⟩ := by kernel_rfl
theorem qfc : G.fn 50 = some ⟨Tryz.f50.ntmps,Tryz.f50.results.toList,Tryz.f50.body.get!⟩ := by kernel_rfl
theorem qgq : G.fn 64 = some ⟨Tryz.f64.ntmps,Tryz.f64.results.toList,Tryz.f64.body.get!⟩ := by kernel_rfl
theorem zl1 : G.fn 65 = some ⟨Tryz.f65.ntmps,Tryz.f65.results.toList,Tryz.f65.body.get!⟩ := by kernel_rfl
theorem uq : G.fn 66 = some ⟨Tryz.f66.ntmps,Tryz.f66.results.toList,Tryz.f66.body.get!⟩ := by kernel_rfl
theorem q6o : G.fn 67 = some ⟨Tryz.f67.ntmps,Tryz.f67.results.toList,Tryz.f67.body.get!⟩ := by kernel_rfl
theorem qfj : G.fn 68 = some ⟨Tryz.f68.ntmps,Tryz.f68.results.toList,Tryz.f68.body.get!⟩ := by kernel_rfl
theorem zvd : G.fn 69 = some ⟨Tryz.f69.ntmps,Tryz.f69.results.toList,Tryz.f69.body.get!⟩ := by kernel_rfl
theorem zot : G.fn 70 = some ⟨Tryz.f70.ntmps,Tryz.f70.results.toList,Tryz.f70.body.get!⟩ := by kernel_rfl
theorem qgt : G.fn 106 = some ⟨Tryz.f106.ntmps,Tryz.f106.results.toList,Tryz.f106.body.get!⟩ := by kernel_rfl
theorem zpp : G.fn 107 = some ⟨Tryz.f107.ntmps,Tryz.f107.results.toList,Tryz.f107.body.get!⟩ := by kernel_rfl
theorem q5b : G.fn 108 = some ⟨Tryz.f108.ntmps,Tryz.f108.results.toList,Tryz.f108.body.get!⟩ := by kernel_rfl
theorem q4o : G.fn 109 = some ⟨Tryz.f109.ntmps,Tryz.f109.results.toList,Tryz.f109.body.get!⟩ := by kernel_rfl
theorem x07 : G.fn 110 = some ⟨Tryz.f110.ntmps,Tryz.f110.results.toList,Tryz.f110.body.get!⟩ := by kernel_rfl
theorem qen : G.fn 111 = some ⟨Tryz.f111.ntmps,Tryz.f111.results.toList,Tryz.f111.body.get!⟩ := by kernel_rfl
theorem q66 : G.fn 112 = some ⟨Tryz.f112.ntmps,Tryz.f112.results.toList,Tryz.f112.body.get!⟩ := by kernel_rfl
theorem yz : G.fn 167 = some ⟨Tryz.f167.ntmps,Tryz.f167.results.toList,Tryz.f167.body.get!⟩ := by kernel_rfl
theorem zwc : G.fn 168 = some ⟨Tryz.f168.ntmps,Tryz.f168.results.toList,Tryz.f168.body.get!⟩ := by kernel_rfl
theorem nu : G.fn 238 = some ⟨Tryz.f238.ntmps,Tryz.f238.results.toList,Tryz.f238.body.get!⟩ := by kernel_rfl
end Go.Proofs.YtcelddmcoklooaaGreatDoor
