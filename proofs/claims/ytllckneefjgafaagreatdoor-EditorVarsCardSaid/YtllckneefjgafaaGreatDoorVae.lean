/-
  The tables of the program as the machine reads it.
-/
import Derived.Test.YtllckneefjgafaaGreatDoorRows
import Derived.Test.YtllckneefjgafaaGreatDoorVad
set_option linter.unusedSimpArgs false
set_option linter.unusedVariables false
namespace Go.Proofs.YtllckneefjgafaaGreatDoor
open Go Go.Gm
def spec : FuncId → Nat → xy
 | 5,0 => ⟨[0,6,15,16,17],[0,4,5,6],[],[],[],1000⟩
 | 10,0 => ⟨[0,1,8,9],[0,1,6,7,8],[],[],[],0⟩
 | 11,0 => ⟨[0,1,5],[4],[],[],[],0⟩
 | 24,0 => ⟨[1,2,3,7,8,9],[1,2,3],[3],[],[],1000⟩
 | 26,0 => ⟨[0,3],[2],[],[],[],0⟩
 | 27,0 => ⟨[0,3],[0,2],[],[],[],0⟩
 | 28,0 => ⟨[0,1,7,8],[4],[],[],[],0⟩
 | 30,0 => ⟨[0,6,12,13,14],[0,4,5,6],[6],[],[],1000⟩
 | 33,0 => ⟨[0,1,14,15,16],[1,4,5],[],[],[],1000⟩
 | 35,0 => ⟨[1,2,4,11,13,37,38,39],[4,11],[],[],[],1000⟩
 | 40,0 => ⟨[1,5,13,14,15],[5],[5],[],[],1000⟩
 | 41,0 => ⟨[0,1,5,20,21,22],[5],[5],[],[],1000⟩
 | 41,2 => ⟨[12,73,74,75],[12],[12],[],[],1000⟩
 | 48,0 => ⟨[0,1,7,9,10],[0,1,7,9],[],[],[],1000⟩
 | 48,2 => ⟨[0,1,7,11,65,66,67],[0,1,7],[],[],[],1000⟩
 | 49,0 => ⟨[0,1,4,5],[0,1,4,5],[],[],[],1000⟩
 | 49,2 => ⟨[0,1,4,5,6],[0,1,4,5,6],[],[],[],1000⟩
 | 50,0 => ⟨[1,2,3,10,11,12],[1,2,3],[3],[],[],1000⟩
 | 50,2 => ⟨[1,2,3,5,6,10,11,12,17,18,19],[1,2,3,5,6,10,11,12],[6],[],[],1000⟩
 | 55,0 => ⟨[0,1,2,3],[1,3],[],[],[],1000⟩
 | 58,0 => ⟨[4,14,15,16],[4],[4],[],[],1000⟩
 | 63,0 => ⟨[3,6,42,43,44],[2],[],[],[],1000⟩
 | 63,2 => ⟨[3,6,7,8,9,42,43,44,54,55,56],[2,3,8,42,43,44],[],[],[],1000⟩
 | 64,0 => ⟨[0,1,7,8,9],[0,1,4],[],[],[],1000⟩
 | 65,0 => ⟨[3,14,15,16],[3],[],[(3,2)],[],1000⟩
 | 66,0 => ⟨[0,1],[],[],[],[],1000⟩
 | 67,0 => ⟨[0,14,15,16],[],[],[],[2000],1000⟩
 | 68,0 => ⟨[0,3],[2],[],[],[],1000⟩
 | 68,2 => ⟨[0,3,4],[0,2,3],[],[],[],1000⟩
 | 68,4 => ⟨[0,3,4,44,45,46],[0,2,3,4],[],[],[],1000⟩
 | 69,0 => ⟨[0,2,11,12],[],[],[],[],1000⟩
 | 69,2 => ⟨[0,2,3,4,11,12,34,35,36],[0,3,4,11,12],[],[(4,1),(4,2)],[],1000⟩
 | 70,0 => ⟨[0,2,3,9,10,11],[0,2,3],[3],[],[],1000⟩
 | 72,0 => ⟨[3,10,11,12],[3],[3],[],[],1000⟩
 | 72,2 => ⟨[6,28,29,30],[6],[6],[],[],1000⟩
 | 73,0 => ⟨[0,1,6,7],[0,1,6,7],[7],[],[],1000⟩
 | 74,0 => ⟨[3,7,8,9],[3],[],[],[],1000⟩
 | 75,0 => ⟨[3,6,7,8],[3],[3],[],[],1000⟩
 | 77,0 => ⟨[1,2,11,12,13,39,40,41],[6,7,8,12,13],[12,13],[],[],1000⟩
 | 79,0 => ⟨[1,4,5,6,13,14,15],[4,5],[],[(5,1)],[],1000⟩
 | 79,2 => ⟨[1,4,5,6,8,9,10,13,14,15,36,37,38],[1,4,5,6,8,10,13,14,15],[],[(10,2)],[],1000⟩
 | 81,0 => ⟨[1,2,4,6,7,23,24,25],[1,2,4,6,7],[7],[],[],1000⟩
 | 83,0 => ⟨[0,9,10,11],[4,5],[],[],[],1000⟩
 | 84,0 => ⟨[0,13,14,15],[4,5],[],[],[],1000⟩
 | 85,0 => ⟨[1,2,6,7,14,15,16],[6,7],[6],[],[],1000⟩
 | 85,2 => ⟨[1,2,6,7,10,14,15,16,21,22,23],[1,2,6,7,14,15,16],[6],[],[],1000⟩
 | 86,0 => ⟨[0,7,8,9,23,24,25],[7],[7],[],[],1000⟩
 | 91,0 => ⟨[0,1,5,15,16,17],[0,1,4,5],[5],[],[],1000⟩
 | 91,2 => ⟨[0,1,35,36,37],[],[],[],[],1000⟩
 | 92,0 => ⟨[1,5,8,9,10],[5],[5],[],[1],1000⟩
 | 95,0 => ⟨[0],[0],[],[],[],1000⟩
 | 96,0 => ⟨[0],[0],[],[],[],1000⟩
 | 103,0 => ⟨[3,6,7,8],[2,3],[],[],[],1000⟩
 | 107,0 => ⟨[0,1],[1],[],[],[],1000⟩
 | 108,0 => ⟨[0,1],[1],[],[],[],1000⟩
 | 112,0 => ⟨[0,1],[0,1],[],[],[],1000⟩
 | 112,2 => ⟨[0,1],[1],[],[],[],1000⟩
 | 113,0 => ⟨[0,1],[0,1],[],[],[],1000⟩
 | 113,2 => ⟨[0,1],[1],[],[],[],1000⟩
 | 115,0 => ⟨[0,1,12,13],[4],[],[],[],1000⟩
 | 116,0 => ⟨[2,5,18,19,20],[4],[],[],[18],1000⟩
 | 118,0 => ⟨[0,5,10,11,12],[5],[5],[],[],1000⟩
 | 118,2 => ⟨[0,5,10,11,12,17,18,19],[0,5,10,11,12],[5],[],[],1000⟩
 | 119,0 => ⟨[3,10,11,12],[2],[],[],[],1000⟩
 | 120,0 => ⟨[3,6,7,8],[3],[3],[],[],1000⟩
 | 121,0 => ⟨[0,7,8,9],[0],[],[],[],1000⟩
 | 122,0 => ⟨[2,9,10,11],[4],[],[],[],1000⟩
 | 123,0 => ⟨[0,2,3],[],[],[],[],1000⟩
 | 124,0 => ⟨[2,3,11,12,13],[4,5],[],[],[],1000⟩
 | 124,2 => ⟨[2,3,6,11,12,13,19,20,21],[2,3,4,5,11,12,13],[],[],[],1000⟩
 | 125,0 => ⟨[0,1,5,10,12,13,14],[0,1,5,10,12],[],[],[],1000⟩
 | 125,2 => ⟨[0,1,5,10,12,91,92,93],[0,10],[],[],[],1000⟩
 | 126,0 => ⟨[1,3,12,13,14],[1,3],[],[],[1],1000⟩
 | 126,2 => ⟨[1,3,6],[6],[6],[],[],1000⟩
 | 127,0 => ⟨[0,1,2,3,9,10,11,47,48,49],[0,1,2,3,9,10,11],[],[],[],1000⟩
 | 127,2 => ⟨[0,1,2,3,15,16,17],[8],[],[],[],1000⟩
 | 134,0 => ⟨[0,1,7,8,9],[4],[],[],[],1000⟩
 | 136,0 => ⟨[10,12],[10,12],[],[],[],1000⟩
 | 139,0 => ⟨[3,11,12,13],[3],[],[],[],1000⟩
 | 139,2 => ⟨[3,11,12,13,18,19,20],[3,11,12,13],[],[],[],1000⟩
 | 140,0 => ⟨[2,3,12,13,14],[2,3],[],[(3,2)],[],1000⟩
 | 140,2 => ⟨[2,3,6,12,13,14,23,24],[2,3,6,12,13,14],[],[],[],1000⟩
 | 142,0 => ⟨[0,2,3],[],[],[],[],1000⟩
 | 149,0 => ⟨[0,1,14,15,16],[0],[],[],[],1000⟩
 | 150,0 => ⟨[1,2,3,11,12,13],[1,2,3],[3],[],[],1000⟩
 | 153,0 => ⟨[0,2,3,4],[2,3],[],[],[],1000⟩
 | 155,0 => ⟨[0,1,2,6,7,8],[0,1,2,6,7],[],[],[],1000⟩
 | 155,2 => ⟨[0,1,2,6],[],[],[],[],1000⟩
 | 155,4 => ⟨[0,1,2,6,7,8],[0,1,2,6,7],[],[],[],1000⟩
 | 160,0 => ⟨[1,2,7,8],[6,7],[],[],[],1000⟩
 | 165,0 => ⟨[1,2,5],[1,2,4],[],[],[],1000⟩
 | 170,0 => ⟨[7,8],[7],[],[],[],1000⟩
 | 171,0 => ⟨[5,6,12,13,14,34,35,36],[12,14],[],[(14,1),(14,2)],[],1000⟩
 | 174,0 => ⟨[1,2,5,12,13,14],[5],[],[],[],1000⟩
 | 174,2 => ⟨[1,2,5,7,8,12,13,14],[1,2,5,12,13,14],[],[],[],1000⟩
 | 175,0 => ⟨[0,1,7,8],[4],[],[],[],1000⟩
 | 177,0 => ⟨[1,2,3,7,8,9,10],[7,8,9],[],[],[],1000⟩
 | 178,0 => ⟨[1,3,10,12,13,40,41,42],[1,6,7,8,10,12,13],[12],[],[],1000⟩
 | 178,2 => ⟨[1,3,10,12,13,15,16,40,41,42,52,53,54],[1,3,10,12,13,15,16,40,41,42],[16],[],[],1000⟩
 | 178,4 => ⟨[1,3,10,12,15,16,40,41,42,74,75,76],[1,3,10,12,15,40,41,42],[12],[],[],1000⟩
 | 179,0 => ⟨[0,1,2,6,7,8],[0,1,2,6,7],[],[],[],1000⟩
 | 179,2 => ⟨[0,1,2,6],[],[],[],[],1000⟩
 | 179,4 => ⟨[0,1,2,6,7,8],[0,1,2,6,7],[],[],[],1000⟩
 | 185,0 => ⟨[0,5,6],[0,5,6],[],[],[],1000⟩
 | 185,2 => ⟨[0,5,6],[0,5,6],[],[],[],1000⟩
 | 187,0 => ⟨[0,8,9,10],[4,5],[],[],[],1000⟩
 | 189,0 => ⟨[0,5,8,9,10],[5],[5],[],[],1000⟩
 | 190,0 => ⟨[0,6,7,8],[],[],[],[],1000⟩
 | 191,0 => ⟨[0,2,9,10,11],[6],[],[],[],1000⟩
 | 192,0 => ⟨[0,1,2,12,13],[1,6,7],[1],[],[],1000⟩
 | 193,0 => ⟨[0,1,5,6,12,13,14],[0,1,5,6],[],[],[],1000⟩
 | 193,2 => ⟨[0,1,5,6,37,38,39],[0,1,6],[],[],[],1000⟩
 | 194,0 => ⟨[0,1,3,4,17,18,19],[1],[1],[],[],1000⟩
 | 194,2 => ⟨[0,1,3,4,12,14,17,18,19,52,53,54],[0,1,3,4,12,14,17,18,19],[],[(14,17)],[],1000⟩
 | 195,0 => ⟨[0,1,2,6,7,8],[0,1,2,6,7],[],[],[],1000⟩
 | 195,2 => ⟨[0,1,2,6],[],[],[],[],1000⟩
 | 195,4 => ⟨[0,1,2,6,7,8],[0,1,2,6,7],[],[],[],1000⟩
 | 200,0 => ⟨[0,1,2,3,8],[],[],[],[],1000⟩
 | 200,2 => ⟨[0,1,2,3,8,9],[0,1,2,3,8],[],[],[],1000⟩
 | 201,0 => ⟨[0,1,4,10,11],[0,1,10],[],[],[],1000⟩
 | 201,2 => ⟨[0,10,13],[],[],[],[],1000⟩
 | 201,4 => ⟨[0,2,4,14,15],[0,2,14],[],[],[],1000⟩
 | 201,6 => ⟨[0,14,17],[],[],[],[],1000⟩
 | 201,8 => ⟨[0,1,2,3,4,18,19,20,21,22],[0,1,2,3,4,18,19,20],[],[],[],1000⟩
 | 202,0 => ⟨[1,4,6,7],[4,5,6],[],[],[],1000⟩
 | 204,0 => ⟨[0,1,7,8],[0,6],[],[],[],1000⟩
 | 208,0 => ⟨[0,1,7,8],[4],[],[],[],1000⟩
 | 210,0 => ⟨[1,2,4,5,10,11,19,20,21],[1,2,4,5,10,11],[],[(11,3)],[],1000⟩
 | 210,2 => ⟨[10,11,71,72,73],[10,11],[],[],[],1000⟩
 | 211,0 => ⟨[0,2,3,4,6,10,12,13,14,32,33,34],[10,12,13],[13],[(12,2)],[],1000⟩
 | 214,0 => ⟨[0,5],[],[],[],[],1000⟩
 | 218,0 => ⟨[1,5,12,13,14],[5],[],[],[],1000⟩
 | 219,0 => ⟨[0,1,2,3,8],[],[],[],[],1000⟩
 | 219,2 => ⟨[0,1,2,3,8,9],[0,1,2,3,8],[],[],[],1000⟩
 | 220,0 => ⟨[0,1,4,10,11],[0,1,10],[],[],[],1000⟩
 | 220,2 => ⟨[0,10,13],[],[],[],[],1000⟩
 | 220,4 => ⟨[0,2,4,14,15],[0,2,14],[],[],[],1000⟩
 | 220,6 => ⟨[0,14,17],[],[],[],[],1000⟩
 | 220,8 => ⟨[0,1,2,3,4,18,19,20,21,22],[0,1,2,3,4,18,19,20],[],[],[],1000⟩
 | 223,0 => ⟨[0,4,5],[0,2,3,4,5],[],[],[],1000⟩
 | 224,0 => ⟨[0,4],[0,4],[],[],[],1000⟩
 | 236,0 => ⟨[0,1,2,3,8],[],[],[],[],1000⟩
 | 236,2 => ⟨[0,1,2,3,8,9],[0,1,2,3,8],[],[],[],1000⟩
 | 237,0 => ⟨[0,1,4,10,11],[0,1,10],[],[],[],1000⟩
 | 237,2 => ⟨[0,10,13],[],[],[],[],1000⟩
 | 237,4 => ⟨[0,2,4,14,15],[0,2,14],[],[],[],1000⟩
 | 237,6 => ⟨[0,14,17],[],[],[],[],1000⟩
 | 237,8 => ⟨[0,1,2,3,4,18,19,20,21,22],[0,1,2,3,4,18,19,20],[],[],[],1000⟩
 | 238,0 => ⟨[0,5],[],[],[],[],1000⟩
 | 239,0 => ⟨[0,2,4,10,11],[0,2,4,10],[],[],[],1000⟩
 | 242,0 => ⟨[0,2,3,5,8,9],[0,2,3,5,8],[],[],[],1000⟩
 | 242,2 => ⟨[0,3,5,8,10,11],[],[],[],[],1000⟩
 | 243,0 => ⟨[0,2,4,6,28,29,30],[],[],[],[],1000⟩
 | 247,0 => ⟨[0,1,2,3,8,9],[],[],[],[],1000⟩
 | 250,0 => ⟨[0,5,6,7],[2],[],[],[],1000⟩
 | 251,0 => ⟨[11,12,13],[8,9,10,11,12],[12],[],[],1000⟩
 | 254,1 => ⟨[6,16,17,18],[6],[],[],[],1000⟩
 | 254,3 => ⟨[6,31,32,33],[6],[],[],[],1000⟩
 | 256,0 => ⟨[0,2,4,10,11],[0,2,4,10],[],[],[],1000⟩
 | 257,0 => ⟨[0,4,5],[0,4,5],[4,5],[],[],1000⟩
 | 258,0 => ⟨[0,1,4,7],[0,1,4,7],[7],[],[],1000⟩
 | 262,0 => ⟨[0,1,5],[4],[],[],[],1000⟩
 | 266,0 => ⟨[0,1,2,3,8,9],[],[],[],[],1000⟩
 | 268,0 => ⟨[0,2,4,10,11],[0,2,4,10],[],[],[],1000⟩
 | 269,0 => ⟨[0,1,2,3,10],[],[],[],[],1000⟩
 | 272,0 => ⟨[0,1,2,6],[],[],[],[],1000⟩
 | 272,2 => ⟨[0,1,2,6,7],[0,1,2,6],[],[],[],1000⟩
 | 273,0 => ⟨[0,6,7,8,9],[0,6,7,8],[],[],[],1000⟩
 | 273,2 => ⟨[0,6,7,10],[],[],[],[],1000⟩
 | 274,0 => ⟨[0,1,6,7,8,9],[],[],[],[],1000⟩
 | 276,0 => ⟨[0,6,7],[],[],[],[],1000⟩
 | 277,0 => ⟨[0,1,2,7,8],[6],[],[],[],1000⟩
 | 277,2 => ⟨[0,1,2,7,8],[0,1,2,7,8],[],[],[],1000⟩
 | 277,4 => ⟨[0,1,2,7,8,9],[0,1,2,7,8],[],[],[],1000⟩
 | 277,6 => ⟨[0,1,2,7,8,10],[0,1,2,7,8],[],[],[],1000⟩
 | 279,0 => ⟨[0,1,9,10],[9],[],[],[],1000⟩
 | 279,2 => ⟨[0,1,9,10],[0,1,9,10],[],[],[],1000⟩
 | 279,4 => ⟨[0,1,9,10],[0,1,9,10],[],[],[],1000⟩
 | 280,0 => ⟨[0,1,10,11],[0,1,10,11],[],[],[],1000⟩
 | 280,2 => ⟨[0,1,10,11],[0,1,10,11],[],[],[],1000⟩
 | 280,4 => ⟨[0,1,10,11],[0,1,11],[],[],[],1000⟩
 | 280,6 => ⟨[0,1,10,11],[0,1,10,11],[],[],[],1000⟩
 | 280,8 => ⟨[0,1,10,11],[0,1,10,11],[],[],[],1000⟩
 | 283,0 => ⟨[1,2,31,32,33],[1,6,7],[],[],[],1000⟩
 | 286,0 => ⟨[0,1,4],[4,5],[],[],[],1000⟩
 | 292,0 => ⟨[0,1,5,6],[5],[],[],[],1000⟩
 | 293,0 => ⟨[0,1,2,3,10],[],[],[],[],1000⟩
 | 295,0 => ⟨[0,1,7,8,9],[4,5,6],[],[(7,0),(8,0)],[],1000⟩
 | 297,0 => ⟨[0,1,12,13],[4],[],[],[],1000⟩
 | 300,0 => ⟨[0,1,4],[0,1,4],[],[],[],1000⟩
 | 301,0 => ⟨[0,1,3,4,10,11,12,13,14,15,16],[0,1,3,4,10,11,12,13],[],[],[],1000⟩
 | 301,2 => ⟨[0,1,3,4,10,11,12,13,17],[0,1,3,4,10,11,12,13],[],[],[],1000⟩
 | 303,0 => ⟨[0,1,2,3,10],[],[],[],[],1000⟩
 | 304,0 => ⟨[0,2,3,8],[],[],[],[],1000⟩
 | 313,0 => ⟨[0,3,4],[3],[3],[],[],1000⟩
 | 314,0 => ⟨[0,3,4],[3],[3],[],[],1000⟩
 | 315,0 => ⟨[1,4,5,22,23,24],[1,4,5],[],[(5,8)],[],1000⟩
 | 316,0 => ⟨[7,8],[7],[],[],[],1000⟩
 | 318,0 => ⟨[0,1,6,7,8],[0,1,6,7],[],[],[],1000⟩
 | 324,0 => ⟨[0,2,4,5],[2,3],[4,5],[],[],1000⟩
 | 329,0 => ⟨[0,1,12,13],[4],[],[],[],1000⟩
 | 330,0 => ⟨[1,2,15,16,17],[6],[],[],[],1000⟩
 | 337,0 => ⟨[0,5,6,7],[2],[],[],[],1000⟩
 | 341,0 => ⟨[0,1],[1],[],[],[],1000⟩
 | 342,0 => ⟨[0,4,5],[],[],[],[],1000⟩
 | 343,1 => ⟨[0,2,3,29,30,31],[8],[],[],[],1000⟩
 | 350,0 => ⟨[0,1,7,8],[1,4,5,6,7,8],[],[],[],1000⟩
 | 365,0 => ⟨[0,5,8,9,10],[5],[5],[],[],1000⟩
 | 368,0 => ⟨[0,3],[2],[],[],[],1000⟩
 | 369,0 => ⟨[0,1,2,9],[6,7,8],[9],[],[],1000⟩
 | 370,0 => ⟨[0,1,7,8],[4],[],[],[],1000⟩
 | 371,0 => ⟨[0,1,7,8],[4],[],[],[],1000⟩
 | 375,0 => ⟨[3,8,9,10],[3],[],[],[],1000⟩
 | 380,0 => ⟨[0,2,4,5],[2,3,4,5],[5],[],[],1000⟩
 | 384,0 => ⟨[1,7,8,9],[4],[],[],[],1000⟩
 | 385,0 => ⟨[3,8,9,10],[3],[],[],[],1000⟩
 | 387,0 => ⟨[3,10,11,12],[3],[3],[],[],1000⟩
 | 387,2 => ⟨[6,25,26,27],[6],[6],[],[],1000⟩
 | 390,0 => ⟨[0,4,5,6],[2,3,4,5],[],[],[],1000⟩
 | 394,0 => ⟨[0,1,2,6,7,8],[0,1,2,6,7],[],[],[],1000⟩
 | 394,2 => ⟨[0,1,2,6],[],[],[],[],1000⟩
 | 394,4 => ⟨[0,1,2,6,7,8],[0,1,2,6,7],[],[],[],1000⟩
 | 396,0 => ⟨[0,1,2,3,8],[],[],[],[],1000⟩
 | 396,2 => ⟨[0,1,2,3,8,9],[0,1,2,3,8],[],[],[],1000⟩
 | 397,0 => ⟨[0,1,4,10,11],[0,1,10],[],[],[],1000⟩
 | 397,2 => ⟨[0,10,13],[],[],[],[],1000⟩
 | 397,4 => ⟨[0,2,4,14,15],[0,2,14],[],[],[],1000⟩
 | 397,6 => ⟨[0,14,17],[],[],[],[],1000⟩
 | 397,8 => ⟨[0,1,2,3,4,18,19,20,21,22],[0,1,2,3,4,18,19,20],[],[],[],1000⟩
 | 398,0 => ⟨[0,2,4,10,11],[0,2,4,10],[],[],[],1000⟩
 | 399,0 => ⟨[0,1,2,3,10],[],[],[],[],1000⟩
 | _,_ => {}
def qey (f : FuncId) : Bool := [142,144,195,236,237,123,101,155,200,201,128,179,219,220,132,194,81,28,11].contains f
def zdb (f : FuncId) : Bool := [139,65,170,87,143,51,169,132,194,70,24,25,8,9].contains f
def qo6 : FuncId → Nat → List Nat
 | 69,15 => [4]
 | _,_ => []
def z8p (t : TypeId) : Bool := [].contains t
def zrw (t : TypeId) : Bool := [331,301,304,377].contains t
def qih : FuncId → Nat → List Cmd
 | _,_ => []
noncomputable def G : GP := q7i Tryz.prog spec qey zdb qo6 z8p zrw qih
theorem cm0 (i : Nat) : G.cmd 0 i = [] := rfl
theorem cm1 (i : Nat) : G.cmd 1 i = [] := rfl
theorem cm2 (i : Nat) : G.cmd 2 i = [] := rfl
theorem qm3 : G.owned 3 = false := rfl
theorem kp3 : G.keep 3 = false := rfl
theorem cm3 (i : Nat) : G.cmd 3 i = [] := rfl
theorem pr3 (i : Nat) : G.pre 3 i = [] := rfl
theorem zbg : G.owned 4 = false := rfl
theorem kp4 : G.keep 4 = false := rfl
theorem cm4 (i : Nat) : G.cmd 4 i = [] := rfl
theorem pr4 (i : Nat) : G.pre 4 i = [] := rfl
theorem qk3 : G.owned 5 = false := rfl
theorem kp5 : G.keep 5 = false := rfl
theorem cm5 (i : Nat) : G.cmd 5 i = [] := rfl
theorem pr5 (i : Nat) : G.pre 5 i = [] := rfl
theorem zhv : G.owned 6 = false := rfl
theorem kp6 : G.keep 6 = false := rfl
theorem cm6 (i : Nat) : G.cmd 6 i = [] := rfl
theorem pr6 (i : Nat) : G.pre 6 i = [] := rfl
theorem z7q : G.owned 7 = false := rfl
theorem kp7 : G.keep 7 = false := rfl
theorem cm7 (i : Nat) : G.cmd 7 i = [] := rfl
theorem pr7 (i : Nat) : G.pre 7 i = [] := rfl
theorem qg4 : G.owned 8 = false := rfl
theorem kp8 : G.keep 8 = true := rfl
theorem cm8 (i : Nat) : G.cmd 8 i = [] := rfl
theorem pr8 (i : Nat) : G.pre 8 i = [] := rfl
theorem qdx : G.owned 9 = false := rfl
theorem kp9 : G.keep 9 = true := rfl
theorem cm9 (i : Nat) : G.cmd 9 i = [] := rfl
theorem pr9 (i : Nat) : G.pre 9 i = [] := rfl
theorem qga : G.owned 10 = false := rfl
theorem z5w : G.keep 10 = false := rfl
theorem qsa (i : Nat) : G.cmd 10 i = [] := rfl
theorem zqs (i : Nat) : G.pre 10 i = [] := rfl
theorem zpf : G.owned 11 = true := rfl
theorem zph : G.keep 11 = false := rfl
theorem zcs (i : Nat) : G.cmd 11 i = [] := rfl
theorem zsg (i : Nat) : G.pre 11 i = [] := rfl
theorem ql8 : G.owned 12 = false := rfl
theorem zk9 : G.keep 12 = false := rfl
theorem qkv (i : Nat) : G.cmd 12 i = [] := rfl
theorem qe3 (i : Nat) : G.pre 12 i = [] := rfl
theorem qno (i : Nat) : G.cmd 13 i = [] := rfl
theorem zlp (i : Nat) : G.cmd 14 i = [] := rfl
theorem qrd (i : Nat) : G.cmd 15 i = [] := rfl
theorem z5h (i : Nat) : G.cmd 16 i = [] := rfl
theorem znk (i : Nat) : G.cmd 17 i = [] := rfl
theorem qiq (i : Nat) : G.cmd 18 i = [] := rfl
theorem qvd (i : Nat) : G.cmd 19 i = [] := rfl
theorem z7c (i : Nat) : G.cmd 20 i = [] := rfl
theorem qdm (i : Nat) : G.cmd 21 i = [] := rfl
theorem qnh (i : Nat) : G.cmd 22 i = [] := rfl
theorem z8h (i : Nat) : G.cmd 23 i = [] := rfl
theorem zb8 (i : Nat) : G.cmd 24 i = [] := rfl
theorem qlp : G.owned 25 = false := rfl
theorem qwz : G.keep 25 = true := rfl
theorem qpu (i : Nat) : G.cmd 25 i = [] := rfl
theorem z6n (i : Nat) : G.pre 25 i = [] := rfl
theorem za0 : G.owned 26 = false := rfl
theorem zbd : G.keep 26 = false := rfl
theorem zi3 (i : Nat) : G.cmd 26 i = [] := rfl
theorem qy0 (i : Nat) : G.pre 26 i = [] := rfl
theorem qvm : G.owned 27 = false := rfl
theorem qz6 : G.keep 27 = false := rfl
theorem qgi (i : Nat) : G.cmd 27 i = [] := rfl
theorem zbx (i : Nat) : G.pre 27 i = [] := rfl
theorem zdm : G.owned 28 = true := rfl
theorem z8y : G.keep 28 = false := rfl
theorem z2t (i : Nat) : G.cmd 28 i = [] := rfl
theorem z9g (i : Nat) : G.pre 28 i = [] := rfl
theorem zsy : G.owned 29 = false := rfl
theorem z9h : G.keep 29 = false := rfl
theorem qts (i : Nat) : G.cmd 29 i = [] := rfl
theorem z1y (i : Nat) : G.pre 29 i = [] := rfl
theorem zsp (i : Nat) : G.cmd 30 i = [] := rfl
theorem qnz (i : Nat) : G.cmd 31 i = [] := rfl
theorem z3m (i : Nat) : G.cmd 32 i = [] := rfl
theorem qo9 (i : Nat) : G.cmd 33 i = [] := rfl
theorem qt4 (i : Nat) : G.cmd 34 i = [] := rfl
theorem z0x (i : Nat) : G.cmd 35 i = [] := rfl
theorem zci (i : Nat) : G.cmd 36 i = [] := rfl
theorem qz4 (i : Nat) : G.cmd 37 i = [] := rfl
theorem z92 (i : Nat) : G.cmd 38 i = [] := rfl
theorem qux (i : Nat) : G.cmd 39 i = [] := rfl
theorem zif (i : Nat) : G.cmd 40 i = [] := rfl
theorem qjl (i : Nat) : G.cmd 41 i = [] := rfl
theorem qyg (i : Nat) : G.cmd 42 i = [] := rfl
theorem qq3 (i : Nat) : G.cmd 43 i = [] := rfl
theorem qmi (i : Nat) : G.cmd 44 i = [] := rfl
theorem zge (i : Nat) : G.cmd 45 i = [] := rfl
theorem zdf (i : Nat) : G.cmd 46 i = [] := rfl
theorem znm (i : Nat) : G.cmd 47 i = [] := rfl
theorem zdx (i : Nat) : G.cmd 48 i = [] := rfl
theorem qpc (i : Nat) : G.cmd 49 i = [] := rfl
theorem qil (i : Nat) : G.cmd 50 i = [] := rfl
theorem zdw (i : Nat) : G.cmd 51 i = [] := rfl
theorem qgw : G.owned 52 = false := rfl
theorem ze7 : G.keep 52 = false := rfl
theorem zbm (i : Nat) : G.cmd 52 i = [] := rfl
theorem qeg (i : Nat) : G.pre 52 i = [] := rfl
theorem zcd : G.owned 53 = false := rfl
theorem z2x : G.keep 53 = false := rfl
theorem z0b (i : Nat) : G.cmd 53 i = [] := rfl
theorem zl7 (i : Nat) : G.pre 53 i = [] := rfl
theorem zoo : G.owned 54 = false := rfl
theorem qdc : G.keep 54 = false := rfl
theorem z2j (i : Nat) : G.cmd 54 i = [] := rfl
theorem qry (i : Nat) : G.pre 54 i = [] := rfl
theorem zir (i : Nat) : G.cmd 55 i = [] := rfl
theorem qgk (i : Nat) : G.cmd 56 i = [] := rfl
theorem qiu (i : Nat) : G.cmd 57 i = [] := rfl
theorem qll (i : Nat) : G.cmd 58 i = [] := rfl
theorem zp8 (i : Nat) : G.cmd 59 i = [] := rfl
theorem zdp (i : Nat) : G.cmd 60 i = [] := rfl
theorem zei (i : Nat) : G.cmd 61 i = [] := rfl
theorem zsu (i : Nat) : G.cmd 62 i = [] := rfl
theorem z5g (i : Nat) : G.cmd 63 i = [] := rfl
theorem z9i (i : Nat) : G.cmd 64 i = [] := rfl
theorem zey (i : Nat) : G.cmd 65 i = [] := rfl
theorem qdy (i : Nat) : G.cmd 66 i = [] := rfl
theorem qwg (i : Nat) : G.cmd 67 i = [] := rfl
theorem qhs (i : Nat) : G.cmd 68 i = [] := rfl
theorem qdk (i : Nat) : G.cmd 69 i = [] := rfl
theorem zcc (i : Nat) : G.cmd 70 i = [] := rfl
theorem qzg (i : Nat) : G.cmd 71 i = [] := rfl
theorem ztd (i : Nat) : G.cmd 72 i = [] := rfl
theorem zod (i : Nat) : G.cmd 73 i = [] := rfl
theorem z1b (i : Nat) : G.cmd 74 i = [] := rfl
theorem zry (i : Nat) : G.cmd 75 i = [] := rfl
theorem qvp (i : Nat) : G.cmd 76 i = [] := rfl
theorem qpz (i : Nat) : G.cmd 77 i = [] := rfl
theorem za3 (i : Nat) : G.cmd 78 i = [] := rfl
theorem zf8 (i : Nat) : G.cmd 79 i = [] := rfl
theorem qxm (i : Nat) : G.cmd 80 i = [] := rfl
theorem qwk (i : Nat) : G.cmd 81 i = [] := rfl
theorem zkq (i : Nat) : G.cmd 82 i = [] := rfl
theorem qsb (i : Nat) : G.cmd 83 i = [] := rfl
theorem z3d (i : Nat) : G.cmd 84 i = [] := rfl
theorem zm3 (i : Nat) : G.cmd 85 i = [] := rfl
theorem qin (i : Nat) : G.cmd 86 i = [] := rfl
theorem zs7 (i : Nat) : G.cmd 87 i = [] := rfl
theorem qr0 (i : Nat) : G.cmd 88 i = [] := rfl
theorem qr3 (i : Nat) : G.cmd 89 i = [] := rfl
theorem qfm (i : Nat) : G.cmd 90 i = [] := rfl
theorem qde (i : Nat) : G.cmd 91 i = [] := rfl
theorem zed (i : Nat) : G.cmd 92 i = [] := rfl
theorem z2h (i : Nat) : G.cmd 93 i = [] := rfl
theorem qmh (i : Nat) : G.cmd 94 i = [] := rfl
theorem z9d (i : Nat) : G.cmd 95 i = [] := rfl
theorem z3h (i : Nat) : G.cmd 96 i = [] := rfl
theorem z3y (i : Nat) : G.cmd 97 i = [] := rfl
theorem zhc (i : Nat) : G.cmd 98 i = [] := rfl
theorem zcj (i : Nat) : G.cmd 99 i = [] := rfl
theorem zmu (i : Nat) : G.cmd 100 i = [] := rfl
theorem z09 (i : Nat) : G.cmd 101 i = [] := rfl
theorem qgb (i : Nat) : G.cmd 102 i = [] := rfl
theorem qgc (i : Nat) : G.cmd 103 i = [] := rfl
theorem qjk (i : Nat) : G.cmd 104 i = [] := rfl
theorem ql9 (i : Nat) : G.cmd 105 i = [] := rfl
theorem qg7 (i : Nat) : G.cmd 106 i = [] := rfl
theorem quf (i : Nat) : G.cmd 107 i = [] := rfl
theorem zmb (i : Nat) : G.cmd 108 i = [] := rfl
theorem qod (i : Nat) : G.cmd 109 i = [] := rfl
theorem z3z (i : Nat) : G.cmd 110 i = [] := rfl
theorem zea (i : Nat) : G.cmd 111 i = [] := rfl
theorem qw4 (i : Nat) : G.cmd 112 i = [] := rfl
theorem zh7 (i : Nat) : G.cmd 113 i = [] := rfl
theorem qir (i : Nat) : G.cmd 114 i = [] := rfl
theorem z8n (i : Nat) : G.cmd 115 i = [] := rfl
theorem qdi (i : Nat) : G.cmd 116 i = [] := rfl
theorem qye (i : Nat) : G.cmd 117 i = [] := rfl
theorem zp6 (i : Nat) : G.cmd 118 i = [] := rfl
theorem qtg (i : Nat) : G.cmd 119 i = [] := rfl
theorem qx6 (i : Nat) : G.cmd 120 i = [] := rfl
theorem qxv (i : Nat) : G.cmd 121 i = [] := rfl
theorem qti (i : Nat) : G.cmd 122 i = [] := rfl
theorem qn9 (i : Nat) : G.cmd 123 i = [] := rfl
theorem zis (i : Nat) : G.cmd 124 i = [] := rfl
theorem qqz (i : Nat) : G.cmd 125 i = [] := rfl
theorem qgm (i : Nat) : G.cmd 126 i = [] := rfl
theorem qzv (i : Nat) : G.cmd 127 i = [] := rfl
theorem zqt (i : Nat) : G.cmd 128 i = [] := rfl
theorem zq6 (i : Nat) : G.cmd 129 i = [] := rfl
theorem qlc (i : Nat) : G.cmd 130 i = [] := rfl
theorem qfp (i : Nat) : G.cmd 131 i = [] := rfl
theorem qxn (i : Nat) : G.cmd 132 i = [] := rfl
theorem zl1 (i : Nat) : G.cmd 133 i = [] := rfl
theorem zr6 (i : Nat) : G.cmd 134 i = [] := rfl
theorem zm5 (i : Nat) : G.cmd 135 i = [] := rfl
theorem qdt (i : Nat) : G.cmd 136 i = [] := rfl
theorem zpa (i : Nat) : G.cmd 137 i = [] := rfl
theorem qel (i : Nat) : G.cmd 138 i = [] := rfl
theorem qlw (i : Nat) : G.cmd 139 i = [] := rfl
theorem z0h (i : Nat) : G.cmd 140 i = [] := rfl
theorem z7t (i : Nat) : G.cmd 141 i = [] := rfl
theorem zji (i : Nat) : G.cmd 142 i = [] := rfl
theorem qna (i : Nat) : G.cmd 143 i = [] := rfl
theorem zc2 (i : Nat) : G.cmd 144 i = [] := rfl
theorem qyi (i : Nat) : G.cmd 145 i = [] := rfl
theorem z1w (i : Nat) : G.cmd 146 i = [] := rfl
theorem qnl (i : Nat) : G.cmd 147 i = [] := rfl
theorem za7 (i : Nat) : G.cmd 148 i = [] := rfl
theorem zk4 (i : Nat) : G.cmd 149 i = [] := rfl
theorem zdg (i : Nat) : G.cmd 150 i = [] := rfl
theorem z9c (i : Nat) : G.cmd 151 i = [] := rfl
theorem zd1 (i : Nat) : G.cmd 152 i = [] := rfl
theorem zqe (i : Nat) : G.cmd 153 i = [] := rfl
theorem qyp (i : Nat) : G.cmd 154 i = [] := rfl
theorem qeu (i : Nat) : G.cmd 155 i = [] := rfl
theorem qnb (i : Nat) : G.cmd 156 i = [] := rfl
theorem zdv (i : Nat) : G.cmd 157 i = [] := rfl
theorem qtl (i : Nat) : G.cmd 158 i = [] := rfl
theorem qhy (i : Nat) : G.cmd 159 i = [] := rfl
theorem zfk (i : Nat) : G.cmd 160 i = [] := rfl
theorem qk6 (i : Nat) : G.cmd 161 i = [] := rfl
theorem qg8 (i : Nat) : G.cmd 162 i = [] := rfl
theorem zs5 (i : Nat) : G.cmd 163 i = [] := rfl
theorem qd6 (i : Nat) : G.cmd 164 i = [] := rfl
theorem qo1 (i : Nat) : G.cmd 165 i = [] := rfl
theorem zb7 (i : Nat) : G.cmd 166 i = [] := rfl
theorem z5z (i : Nat) : G.cmd 167 i = [] := rfl
theorem zoc (i : Nat) : G.cmd 168 i = [] := rfl
theorem qx8 (i : Nat) : G.cmd 169 i = [] := rfl
theorem z0r (i : Nat) : G.cmd 170 i = [] := rfl
theorem z9y (i : Nat) : G.cmd 171 i = [] := rfl
theorem zfu (i : Nat) : G.cmd 172 i = [] := rfl
theorem qd3 (i : Nat) : G.cmd 173 i = [] := rfl
theorem zjt (i : Nat) : G.cmd 174 i = [] := rfl
theorem qdh (i : Nat) : G.cmd 175 i = [] := rfl
theorem zg6 (i : Nat) : G.cmd 176 i = [] := rfl
theorem z7k (i : Nat) : G.cmd 177 i = [] := rfl
theorem z6j (i : Nat) : G.cmd 178 i = [] := rfl
theorem qe8 (i : Nat) : G.cmd 179 i = [] := rfl
theorem zsc (i : Nat) : G.cmd 180 i = [] := rfl
theorem z81 (i : Nat) : G.cmd 181 i = [] := rfl
theorem qsj (i : Nat) : G.cmd 182 i = [] := rfl
theorem zgx (i : Nat) : G.cmd 183 i = [] := rfl
theorem qnv (i : Nat) : G.cmd 184 i = [] := rfl
theorem qfw (i : Nat) : G.cmd 185 i = [] := rfl
theorem zhj (i : Nat) : G.cmd 186 i = [] := rfl
theorem zlv (i : Nat) : G.cmd 187 i = [] := rfl
theorem zki (i : Nat) : G.cmd 188 i = [] := rfl
theorem zjf (i : Nat) : G.cmd 189 i = [] := rfl
theorem z8t (i : Nat) : G.cmd 190 i = [] := rfl
theorem qox (i : Nat) : G.cmd 191 i = [] := rfl
theorem zob (i : Nat) : G.cmd 192 i = [] := rfl
theorem zkp (i : Nat) : G.cmd 193 i = [] := rfl
theorem qxs (i : Nat) : G.cmd 194 i = [] := rfl
theorem zie (i : Nat) : G.cmd 195 i = [] := rfl
theorem z4h (i : Nat) : G.cmd 196 i = [] := rfl
theorem z7w (i : Nat) : G.cmd 197 i = [] := rfl
theorem zkt (i : Nat) : G.cmd 198 i = [] := rfl
theorem zfh (i : Nat) : G.cmd 199 i = [] := rfl
theorem qiv (i : Nat) : G.cmd 200 i = [] := rfl
theorem qz2 (i : Nat) : G.cmd 201 i = [] := rfl
theorem qt2 (i : Nat) : G.cmd 202 i = [] := rfl
theorem zfd (i : Nat) : G.cmd 203 i = [] := rfl
theorem z8a (i : Nat) : G.cmd 204 i = [] := rfl
theorem z9r (i : Nat) : G.cmd 205 i = [] := rfl
theorem zhx (i : Nat) : G.cmd 206 i = [] := rfl
theorem qw6 (i : Nat) : G.cmd 207 i = [] := rfl
theorem z6i (i : Nat) : G.cmd 208 i = [] := rfl
theorem quh (i : Nat) : G.cmd 209 i = [] := rfl
theorem qtq (i : Nat) : G.cmd 210 i = [] := rfl
theorem qem (i : Nat) : G.cmd 211 i = [] := rfl
theorem qhr (i : Nat) : G.cmd 212 i = [] := rfl
theorem qpm (i : Nat) : G.cmd 213 i = [] := rfl
theorem qgd (i : Nat) : G.cmd 214 i = [] := rfl
theorem zdt (i : Nat) : G.cmd 215 i = [] := rfl
theorem znp (i : Nat) : G.cmd 216 i = [] := rfl
theorem zn5 (i : Nat) : G.cmd 217 i = [] := rfl
theorem zaw (i : Nat) : G.cmd 218 i = [] := rfl
theorem zdc (i : Nat) : G.cmd 219 i = [] := rfl
theorem zpe (i : Nat) : G.cmd 220 i = [] := rfl
theorem qse (i : Nat) : G.cmd 221 i = [] := rfl
theorem qu4 (i : Nat) : G.cmd 222 i = [] := rfl
theorem zf0 (i : Nat) : G.cmd 223 i = [] := rfl
theorem qtf (i : Nat) : G.cmd 224 i = [] := rfl
theorem qhq (i : Nat) : G.cmd 225 i = [] := rfl
theorem qpr (i : Nat) : G.cmd 226 i = [] := rfl
theorem z9m (i : Nat) : G.cmd 227 i = [] := rfl
theorem qwx (i : Nat) : G.cmd 228 i = [] := rfl
theorem zq4 (i : Nat) : G.cmd 229 i = [] := rfl
theorem z8g (i : Nat) : G.cmd 230 i = [] := rfl
theorem qyv (i : Nat) : G.cmd 231 i = [] := rfl
theorem zp9 (i : Nat) : G.cmd 232 i = [] := rfl
theorem qul (i : Nat) : G.cmd 233 i = [] := rfl
theorem qsk (i : Nat) : G.cmd 234 i = [] := rfl
theorem qoa (i : Nat) : G.cmd 235 i = [] := rfl
theorem qi0 (i : Nat) : G.cmd 236 i = [] := rfl
theorem zc0 (i : Nat) : G.cmd 237 i = [] := rfl
theorem zrc (i : Nat) : G.cmd 238 i = [] := rfl
theorem qr4 (i : Nat) : G.cmd 239 i = [] := rfl
theorem qg5 (i : Nat) : G.cmd 240 i = [] := rfl
theorem qk4 (i : Nat) : G.cmd 241 i = [] := rfl
theorem zjq (i : Nat) : G.cmd 242 i = [] := rfl
theorem zbq (i : Nat) : G.cmd 243 i = [] := rfl
theorem z8i (i : Nat) : G.cmd 244 i = [] := rfl
theorem qt9 (i : Nat) : G.cmd 245 i = [] := rfl
theorem zi4 (i : Nat) : G.cmd 246 i = [] := rfl
theorem qsd (i : Nat) : G.cmd 247 i = [] := rfl
theorem qsn (i : Nat) : G.cmd 248 i = [] := rfl
theorem qxi (i : Nat) : G.cmd 249 i = [] := rfl
theorem za6 (i : Nat) : G.cmd 250 i = [] := rfl
theorem znz (i : Nat) : G.cmd 251 i = [] := rfl
theorem qiz (i : Nat) : G.cmd 252 i = [] := rfl
theorem qze (i : Nat) : G.cmd 253 i = [] := rfl
theorem qkt (i : Nat) : G.cmd 254 i = [] := rfl
theorem qyq (i : Nat) : G.cmd 255 i = [] := rfl
theorem zd7 (i : Nat) : G.cmd 256 i = [] := rfl
theorem qpg (i : Nat) : G.cmd 257 i = [] := rfl
theorem zk0 (i : Nat) : G.cmd 258 i = [] := rfl
theorem zim (i : Nat) : G.cmd 259 i = [] := rfl
theorem qdr (i : Nat) : G.cmd 260 i = [] := rfl
theorem qzy (i : Nat) : G.cmd 261 i = [] := rfl
theorem zra (i : Nat) : G.cmd 262 i = [] := rfl
theorem qju (i : Nat) : G.cmd 263 i = [] := rfl
theorem z0j (i : Nat) : G.cmd 264 i = [] := rfl
theorem qz3 (i : Nat) : G.cmd 265 i = [] := rfl
theorem qfi (i : Nat) : G.cmd 266 i = [] := rfl
theorem zqg (i : Nat) : G.cmd 267 i = [] := rfl
theorem qx1 (i : Nat) : G.cmd 268 i = [] := rfl
theorem qfu (i : Nat) : G.cmd 269 i = [] := rfl
theorem z08 (i : Nat) : G.cmd 270 i = [] := rfl
theorem zcg (i : Nat) : G.cmd 271 i = [] := rfl
theorem z4e (i : Nat) : G.cmd 272 i = [] := rfl
theorem qtv (i : Nat) : G.cmd 273 i = [] := rfl
theorem z97 (i : Nat) : G.cmd 274 i = [] := rfl
theorem qle (i : Nat) : G.cmd 275 i = [] := rfl
theorem qj2 (i : Nat) : G.cmd 276 i = [] := rfl
theorem qhb (i : Nat) : G.cmd 277 i = [] := rfl
theorem z7d (i : Nat) : G.cmd 278 i = [] := rfl
theorem qro (i : Nat) : G.cmd 279 i = [] := rfl
theorem zhr (i : Nat) : G.cmd 280 i = [] := rfl
theorem zk8 (i : Nat) : G.cmd 281 i = [] := rfl
theorem zqq (i : Nat) : G.cmd 282 i = [] := rfl
theorem z8v (i : Nat) : G.cmd 283 i = [] := rfl
theorem zqu (i : Nat) : G.cmd 284 i = [] := rfl
theorem qor (i : Nat) : G.cmd 285 i = [] := rfl
theorem qpw (i : Nat) : G.cmd 286 i = [] := rfl
theorem znh (i : Nat) : G.cmd 287 i = [] := rfl
theorem zqy (i : Nat) : G.cmd 288 i = [] := rfl
theorem znr (i : Nat) : G.cmd 289 i = [] := rfl
theorem qxp (i : Nat) : G.cmd 290 i = [] := rfl
theorem qui (i : Nat) : G.cmd 291 i = [] := rfl
theorem qyj (i : Nat) : G.cmd 292 i = [] := rfl
theorem znb (i : Nat) : G.cmd 293 i = [] := rfl
theorem zog (i : Nat) : G.cmd 294 i = [] := rfl
theorem z8d (i : Nat) : G.cmd 295 i = [] := rfl
theorem z0w (i : Nat) : G.cmd 296 i = [] := rfl
theorem qe0 (i : Nat) : G.cmd 297 i = [] := rfl
theorem qso (i : Nat) : G.cmd 298 i = [] := rfl
theorem z6p (i : Nat) : G.cmd 299 i = [] := rfl
theorem qs2 (i : Nat) : G.cmd 300 i = [] := rfl
theorem qvc (i : Nat) : G.cmd 301 i = [] := rfl
theorem qtt (i : Nat) : G.cmd 302 i = [] := rfl
theorem z8b (i : Nat) : G.cmd 303 i = [] := rfl
theorem qge (i : Nat) : G.cmd 304 i = [] := rfl
theorem qlj (i : Nat) : G.cmd 305 i = [] := rfl
theorem qqr (i : Nat) : G.cmd 306 i = [] := rfl
theorem qqo (i : Nat) : G.cmd 307 i = [] := rfl
theorem zks (i : Nat) : G.cmd 308 i = [] := rfl
theorem z2p (i : Nat) : G.cmd 309 i = [] := rfl
theorem qjp (i : Nat) : G.cmd 310 i = [] := rfl
theorem qng (i : Nat) : G.cmd 311 i = [] := rfl
theorem qyl (i : Nat) : G.cmd 312 i = [] := rfl
theorem qm9 (i : Nat) : G.cmd 313 i = [] := rfl
theorem qfc (i : Nat) : G.cmd 314 i = [] := rfl
theorem ze3 (i : Nat) : G.cmd 315 i = [] := rfl
theorem zs9 (i : Nat) : G.cmd 316 i = [] := rfl
theorem qzr (i : Nat) : G.cmd 317 i = [] := rfl
theorem zc5 (i : Nat) : G.cmd 318 i = [] := rfl
theorem qjt (i : Nat) : G.cmd 319 i = [] := rfl
theorem zg1 (i : Nat) : G.cmd 320 i = [] := rfl
theorem zck (i : Nat) : G.cmd 321 i = [] := rfl
theorem ztg (i : Nat) : G.cmd 322 i = [] := rfl
theorem zoj (i : Nat) : G.cmd 323 i = [] := rfl
theorem zbr (i : Nat) : G.cmd 324 i = [] := rfl
theorem zmj (i : Nat) : G.cmd 325 i = [] := rfl
theorem znf (i : Nat) : G.cmd 326 i = [] := rfl
theorem qj3 (i : Nat) : G.cmd 327 i = [] := rfl
theorem qj8 (i : Nat) : G.cmd 328 i = [] := rfl
theorem zsd (i : Nat) : G.cmd 329 i = [] := rfl
theorem zbi (i : Nat) : G.cmd 330 i = [] := rfl
theorem zlr (i : Nat) : G.cmd 331 i = [] := rfl
theorem qfd (i : Nat) : G.cmd 332 i = [] := rfl
theorem z7m (i : Nat) : G.cmd 333 i = [] := rfl
theorem zcn (i : Nat) : G.cmd 334 i = [] := rfl
theorem qei (i : Nat) : G.cmd 335 i = [] := rfl
theorem zh9 (i : Nat) : G.cmd 336 i = [] := rfl
theorem zf2 (i : Nat) : G.cmd 337 i = [] := rfl
theorem qv5 (i : Nat) : G.cmd 338 i = [] := rfl
theorem zhh (i : Nat) : G.cmd 339 i = [] := rfl
theorem zni (i : Nat) : G.cmd 340 i = [] := rfl
theorem zax (i : Nat) : G.cmd 341 i = [] := rfl
theorem z7a (i : Nat) : G.cmd 342 i = [] := rfl
theorem zj5 (i : Nat) : G.cmd 343 i = [] := rfl
theorem zi7 (i : Nat) : G.cmd 344 i = [] := rfl
theorem qxw (i : Nat) : G.cmd 345 i = [] := rfl
theorem zpj (i : Nat) : G.cmd 346 i = [] := rfl
theorem qgo (i : Nat) : G.cmd 347 i = [] := rfl
theorem znj (i : Nat) : G.cmd 348 i = [] := rfl
theorem qq6 (i : Nat) : G.cmd 349 i = [] := rfl
theorem zkf (i : Nat) : G.cmd 350 i = [] := rfl
theorem zp4 (i : Nat) : G.cmd 351 i = [] := rfl
theorem z2q (i : Nat) : G.cmd 352 i = [] := rfl
theorem qzd (i : Nat) : G.cmd 353 i = [] := rfl
theorem z0n (i : Nat) : G.cmd 354 i = [] := rfl
theorem z4q (i : Nat) : G.cmd 355 i = [] := rfl
theorem qqw (i : Nat) : G.cmd 356 i = [] := rfl
theorem qjd (i : Nat) : G.cmd 357 i = [] := rfl
theorem qhc (i : Nat) : G.cmd 358 i = [] := rfl
theorem zou (i : Nat) : G.cmd 359 i = [] := rfl
theorem zfr (i : Nat) : G.cmd 360 i = [] := rfl
theorem z2g (i : Nat) : G.cmd 361 i = [] := rfl
theorem qgx (i : Nat) : G.cmd 362 i = [] := rfl
theorem qu7 (i : Nat) : G.cmd 363 i = [] := rfl
theorem zjv (i : Nat) : G.cmd 364 i = [] := rfl
theorem qsr (i : Nat) : G.cmd 365 i = [] := rfl
theorem z3n (i : Nat) : G.cmd 366 i = [] := rfl
theorem qys (i : Nat) : G.cmd 367 i = [] := rfl
theorem zsw (i : Nat) : G.cmd 368 i = [] := rfl
theorem zcl (i : Nat) : G.cmd 369 i = [] := rfl
theorem zoh (i : Nat) : G.cmd 370 i = [] := rfl
theorem z01 (i : Nat) : G.cmd 371 i = [] := rfl
theorem qs6 (i : Nat) : G.cmd 372 i = [] := rfl
theorem qzz (i : Nat) : G.cmd 373 i = [] := rfl
theorem qup (i : Nat) : G.cmd 374 i = [] := rfl
theorem zae (i : Nat) : G.cmd 375 i = [] := rfl
theorem qqe (i : Nat) : G.cmd 376 i = [] := rfl
theorem qls (i : Nat) : G.cmd 377 i = [] := rfl
theorem zhs (i : Nat) : G.cmd 378 i = [] := rfl
theorem qms (i : Nat) : G.cmd 379 i = [] := rfl
theorem zay (i : Nat) : G.cmd 380 i = [] := rfl
theorem qje (i : Nat) : G.cmd 381 i = [] := rfl
theorem qqb (i : Nat) : G.cmd 382 i = [] := rfl
theorem qw7 (i : Nat) : G.cmd 383 i = [] := rfl
theorem zsa (i : Nat) : G.cmd 384 i = [] := rfl
theorem qfa (i : Nat) : G.cmd 385 i = [] := rfl
theorem qtu (i : Nat) : G.cmd 386 i = [] := rfl
theorem zgr (i : Nat) : G.cmd 387 i = [] := rfl
theorem qtw (i : Nat) : G.cmd 388 i = [] := rfl
theorem qlb (i : Nat) : G.cmd 389 i = [] := rfl
theorem zak (i : Nat) : G.cmd 390 i = [] := rfl
theorem zgv (i : Nat) : G.cmd 391 i = [] := rfl
theorem zfz (i : Nat) : G.cmd 392 i = [] := rfl
theorem z05 (i : Nat) : G.cmd 393 i = [] := rfl
theorem zn1 (i : Nat) : G.cmd 394 i = [] := rfl
theorem qto (i : Nat) : G.cmd 395 i = [] := rfl
theorem qxg (i : Nat) : G.cmd 396 i = [] := rfl
theorem zpd (i : Nat) : G.cmd 397 i = [] := rfl
theorem zal (i : Nat) : G.cmd 398 i = [] := rfl
theorem qf0 (i : Nat) : G.cmd 399 i = [] := rfl
theorem qhp (i : Nat) : G.cmd 400 i = [] := rfl
theorem qrx (i : Nat) : G.cmd 401 i = [] := rfl
theorem ze1 (i : Nat) : G.cmd 402 i = [] := rfl
theorem qtc (i : Nat) : G.cmd 403 i = [] := rfl
theorem z1z (i : Nat) : G.cmd 404 i = [] := rfl
theorem qvu (i : Nat) : G.cmd 405 i = [] := rfl
theorem zbb (i : Nat) : G.cmd 406 i = [] := rfl
theorem zlm (i : Nat) : G.cmd 407 i = [] := rfl
theorem qq7 (i : Nat) : G.cmd 408 i = [] := rfl
theorem zmd (i : Nat) : G.cmd 409 i = [] := rfl
theorem qnw (i : Nat) : G.cmd 410 i = [] := rfl
theorem qnx (i : Nat) : G.cmd 411 i = [] := rfl
theorem z2k (i : Nat) : G.cmd 412 i = [] := rfl
theorem z9f (i : Nat) : G.cmd 413 i = [] := rfl
theorem zsj (i : Nat) : G.cmd 414 i = [] := rfl
theorem qyw (i : Nat) : G.cmd 415 i = [] := rfl
theorem qdp (i : Nat) : G.cmd 416 i = [] := rfl
theorem qgg (i : Nat) : G.cmd 417 i = [] := rfl
theorem ql2 (i : Nat) : G.cmd 418 i = [] := rfl
theorem zdz (i : Nat) : G.cmd 419 i = [] := rfl
theorem zmo (i : Nat) : G.cmd 420 i = [] := rfl
theorem z8c (i : Nat) : G.cmd 421 i = [] := rfl
theorem z11 (i : Nat) : G.cmd 422 i = [] := rfl
theorem zqd (i : Nat) : G.cmd 423 i = [] := rfl
theorem qd8 (i : Nat) : G.cmd 424 i = [] := rfl
theorem zsr : G.spec 5 0 = ⟨[0,6,15,16,17],[0,4,5,6],[],[],[],1000⟩ := rfl
theorem qfe : G.spec 10 0 = ⟨[0,1,8,9],[0,1,6,7,8],[],[],[],0⟩ := rfl
theorem qkd : G.spec 11 0 = ⟨[0,1,5],[4],[],[],[],0⟩ := rfl
theorem qsq : G.spec 26 0 = ⟨[0,3],[2],[],[],[],0⟩ := rfl
theorem zqn : G.spec 27 0 = ⟨[0,3],[0,2],[],[],[],0⟩ := rfl
theorem zlq : G.spec 28 0 = ⟨[0,1,7,8],[4],[],[],[],0⟩ := rfl
theorem fz1 : G.frz 1 = false := rfl
theorem fz2 : G.frz 2 = false := rfl
theorem fz3 : G.frz 3 = false := rfl
theorem fz4 : G.frz 4 = false := rfl
theorem fz5 : G.frz 5 = false := rfl
theorem fz6 : G.frz 6 = false := rfl
theorem fz7 : G.frz 7 = false := rfl
theorem fz8 : G.frz 8 = false := rfl
theorem fz9 : G.frz 9 = false := rfl
theorem qmj : G.frz 10 = false := rfl
theorem zbv : G.frz 11 = false := rfl
theorem qlr : G.frz 12 = false := rfl
theorem zh4 : G.frz 13 = false := rfl
theorem qom : G.frz 14 = false := rfl
theorem zm8 : G.frz 15 = false := rfl
theorem zh8 : G.frz 16 = false := rfl
theorem zrz : G.frz 17 = false := rfl
theorem qis : G.frz 18 = false := rfl
theorem zkg : G.frz 19 = false := rfl
theorem qzc : G.frz 20 = false := rfl
theorem qsz : G.frz 21 = false := rfl
theorem zrn : G.frz 22 = false := rfl
theorem zfl : G.frz 23 = false := rfl
theorem z3p : G.frz 24 = false := rfl
theorem zna : G.frz 25 = false := rfl
theorem qdu : G.frz 26 = false := rfl
theorem z9e : G.frz 27 = false := rfl
theorem qpx : G.frz 28 = false := rfl
theorem zr8 : G.frz 30 = false := rfl
theorem z4m : G.frz 31 = false := rfl
theorem zpz : G.frz 32 = false := rfl
theorem qrs : G.frz 33 = false := rfl
theorem qds : G.frz 34 = false := rfl
theorem qjo : G.frz 35 = false := rfl
theorem qxk : G.frz 36 = false := rfl
theorem quu : G.frz 37 = false := rfl
theorem z9u : G.frz 38 = false := rfl
theorem zeq : G.frz 39 = false := rfl
theorem qh3 : G.frz 40 = false := rfl
theorem zrp : G.frz 41 = false := rfl
theorem zn7 : G.frz 42 = false := rfl
theorem z04 : G.frz 44 = false := rfl
theorem zcw : G.frz 45 = false := rfl
theorem qoe : G.frz 46 = false := rfl
theorem z0e : G.frz 47 = false := rfl
theorem zmf : G.frz 48 = false := rfl
theorem zgg : G.frz 49 = false := rfl
theorem zic : G.frz 50 = false := rfl
theorem z2w : G.frz 52 = false := rfl
theorem qcz : G.frz 53 = false := rfl
theorem zn2 : G.frz 55 = false := rfl
theorem qnd : G.frz 56 = false := rfl
theorem z7n : G.frz 57 = false := rfl
theorem qzj : G.frz 58 = false := rfl
theorem ql1 : G.frz 59 = false := rfl
theorem zdu : G.frz 60 = false := rfl
theorem z1s : G.frz 61 = false := rfl
theorem qn8 : G.frz 62 = false := rfl
theorem zr3 : G.frz 63 = false := rfl
theorem qv7 : G.frz 64 = false := rfl
theorem qr6 : G.frz 66 = false := rfl
theorem qft : G.frz 67 = false := rfl
theorem qp8 : G.frz 68 = false := rfl
theorem zi6 : G.frz 69 = false := rfl
theorem qmq : G.frz 70 = false := rfl
theorem qqg : G.frz 71 = false := rfl
theorem z5a : G.frz 72 = false := rfl
theorem qoc : G.frz 73 = false := rfl
theorem zjn : G.frz 75 = false := rfl
theorem z0m : G.frz 76 = false := rfl
theorem z8x : G.frz 77 = false := rfl
theorem qrr : G.frz 78 = false := rfl
theorem zq8 : G.frz 79 = false := rfl
theorem zev : G.frz 80 = false := rfl
theorem qtk : G.frz 81 = false := rfl
theorem qdn : G.frz 82 = false := rfl
theorem qgj : G.frz 83 = false := rfl
theorem zja : G.frz 84 = false := rfl
theorem qfb : G.frz 85 = false := rfl
theorem qfq : G.frz 87 = false := rfl
theorem zo3 : G.frz 88 = false := rfl
theorem qqx : G.frz 89 = false := rfl
theorem qhl : G.frz 91 = false := rfl
theorem qrp : G.frz 92 = false := rfl
theorem qpn : G.frz 93 = false := rfl
theorem z10 : G.frz 94 = false := rfl
theorem qg0 : G.frz 95 = false := rfl
theorem zmg : G.frz 96 = false := rfl
theorem z2e : G.frz 97 = false := rfl
theorem qtj : G.frz 98 = false := rfl
theorem qep : G.frz 100 = false := rfl
theorem zo1 : G.frz 101 = false := rfl
theorem quv : G.frz 102 = false := rfl
theorem zbf : G.frz 103 = false := rfl
theorem zpg : G.frz 105 = false := rfl
theorem zns : G.frz 106 = false := rfl
theorem qw0 : G.frz 107 = false := rfl
theorem qss : G.frz 108 = false := rfl
theorem z4r : G.frz 109 = false := rfl
theorem qn3 : G.frz 110 = false := rfl
theorem qmg : G.frz 111 = false := rfl
theorem z0s : G.frz 112 = false := rfl
theorem qen : G.frz 113 = false := rfl
theorem qlv : G.frz 114 = false := rfl
theorem qp4 : G.frz 115 = false := rfl
theorem zmp : G.frz 116 = false := rfl
theorem qw5 : G.frz 117 = false := rfl
theorem z2y : G.frz 118 = false := rfl
theorem zo9 : G.frz 119 = false := rfl
theorem qmu : G.frz 120 = false := rfl
theorem z7e : G.frz 121 = false := rfl
theorem qji : G.frz 122 = false := rfl
theorem z4b : G.frz 123 = false := rfl
theorem qst : G.frz 124 = false := rfl
theorem qw9 : G.frz 125 = false := rfl
theorem zpi : G.frz 126 = false := rfl
theorem qvs : G.frz 127 = false := rfl
theorem qix : G.frz 128 = false := rfl
theorem zg4 : G.frz 129 = false := rfl
theorem qy9 : G.frz 130 = false := rfl
theorem zeb : G.frz 131 = false := rfl
theorem qky : G.frz 132 = false := rfl
theorem qtx : G.frz 133 = false := rfl
theorem zs2 : G.frz 134 = false := rfl
theorem zh5 : G.frz 135 = false := rfl
theorem z3q : G.frz 136 = false := rfl
theorem qk7 : G.frz 137 = false := rfl
theorem z8q : G.frz 139 = false := rfl
theorem z7f : G.frz 140 = false := rfl
theorem zlk : G.frz 141 = false := rfl
theorem zqr : G.frz 142 = false := rfl
theorem zc9 : G.frz 143 = false := rfl
theorem qrz : G.frz 144 = false := rfl
theorem zn6 : G.frz 145 = false := rfl
theorem zai : G.frz 146 = false := rfl
theorem zor : G.frz 148 = false := rfl
theorem ze6 : G.frz 149 = false := rfl
theorem zt5 : G.frz 150 = false := rfl
theorem z4j : G.frz 151 = false := rfl
theorem qy6 : G.frz 152 = false := rfl
theorem qyt : G.frz 154 = false := rfl
theorem zol : G.frz 155 = false := rfl
theorem zi8 : G.frz 156 = false := rfl
theorem zmq : G.frz 158 = false := rfl
theorem zam : G.frz 160 = false := rfl
theorem z99 : G.frz 162 = false := rfl
theorem z3j : G.frz 163 = false := rfl
theorem qhi : G.frz 164 = false := rfl
theorem qvl : G.frz 165 = false := rfl
theorem qvw : G.frz 166 = false := rfl
theorem zls : G.frz 167 = false := rfl
theorem zdl : G.frz 168 = false := rfl
theorem ze4 : G.frz 169 = false := rfl
theorem z8z : G.frz 170 = false := rfl
theorem zbz : G.frz 171 = false := rfl
theorem z3b : G.frz 172 = false := rfl
theorem zcq : G.frz 173 = false := rfl
theorem zsn : G.frz 174 = false := rfl
theorem qql : G.frz 175 = false := rfl
theorem qm7 : G.frz 176 = false := rfl
theorem z9x : G.frz 177 = false := rfl
theorem qpp : G.frz 178 = false := rfl
theorem zop : G.frz 179 = false := rfl
theorem qf1 : G.frz 180 = false := rfl
theorem qht : G.frz 181 = false := rfl
theorem zil : G.frz 182 = false := rfl
theorem z8j : G.frz 183 = false := rfl
theorem zke : G.frz 185 = false := rfl
theorem zit : G.frz 186 = false := rfl
theorem z1e : G.frz 187 = false := rfl
theorem zm2 : G.frz 188 = false := rfl
theorem zd0 : G.frz 189 = false := rfl
theorem zqj : G.frz 190 = false := rfl
theorem qwv : G.frz 191 = false := rfl
theorem qnu : G.frz 192 = false := rfl
theorem qjv : G.frz 193 = false := rfl
theorem qfx : G.frz 194 = false := rfl
theorem qkj : G.frz 195 = false := rfl
theorem qmz : G.frz 196 = false := rfl
theorem zt4 : G.frz 197 = false := rfl
theorem zih : G.frz 198 = false := rfl
theorem qwm : G.frz 199 = false := rfl
theorem zct : G.frz 200 = false := rfl
theorem qi7 : G.frz 201 = false := rfl
theorem qt7 : G.frz 202 = false := rfl
theorem zkb : G.frz 203 = false := rfl
theorem z6o : G.frz 204 = false := rfl
theorem zhi : G.frz 205 = false := rfl
theorem qmr : G.frz 206 = false := rfl
theorem qnp : G.frz 207 = false := rfl
theorem za1 : G.frz 208 = false := rfl
theorem zqv : G.frz 209 = false := rfl
theorem z5l : G.frz 210 = false := rfl
theorem qva : G.frz 211 = false := rfl
theorem zi0 : G.frz 212 = false := rfl
theorem qml : G.frz 213 = false := rfl
theorem zqk : G.frz 214 = false := rfl
theorem zmx : G.frz 216 = false := rfl
theorem qda : G.frz 217 = false := rfl
theorem qoz : G.frz 218 = false := rfl
theorem zmy : G.frz 219 = false := rfl
theorem z9v : G.frz 220 = false := rfl
theorem zdi : G.frz 221 = false := rfl
theorem z02 : G.frz 222 = false := rfl
theorem qf7 : G.frz 223 = false := rfl
theorem qvv : G.frz 224 = false := rfl
theorem qsc : G.frz 225 = false := rfl
theorem zkn : G.frz 227 = false := rfl
theorem qd0 : G.frz 228 = false := rfl
theorem qpj : G.frz 229 = false := rfl
theorem zen : G.frz 230 = false := rfl
theorem zov : G.frz 231 = false := rfl
theorem qhn : G.frz 233 = false := rfl
theorem qke : G.frz 235 = false := rfl
theorem qrv : G.frz 236 = false := rfl
theorem qxz : G.frz 237 = false := rfl
theorem zpy : G.frz 238 = false := rfl
theorem qh2 : G.frz 239 = false := rfl
theorem zio : G.frz 240 = false := rfl
theorem qlx : G.frz 241 = false := rfl
theorem qzo : G.frz 242 = false := rfl
theorem qz0 : G.frz 243 = false := rfl
theorem qqj : G.frz 244 = false := rfl
theorem zhl : G.frz 245 = false := rfl
theorem qd9 : G.frz 246 = false := rfl
theorem zar : G.frz 247 = false := rfl
theorem qi5 : G.frz 248 = false := rfl
theorem qta : G.frz 250 = false := rfl
theorem qjz : G.frz 251 = false := rfl
theorem qf8 : G.frz 252 = false := rfl
theorem zco : G.frz 253 = false := rfl
theorem qkl : G.frz 254 = false := rfl
theorem zho : G.frz 255 = false := rfl
theorem qow : G.frz 256 = false := rfl
theorem z2c : G.frz 257 = false := rfl
theorem z5j : G.frz 258 = false := rfl
theorem zhf : G.frz 259 = false := rfl
theorem qvr : G.frz 261 = false := rfl
theorem zn9 : G.frz 262 = false := rfl
theorem qdz : G.frz 263 = false := rfl
theorem qrh : G.frz 264 = false := rfl
theorem qe2 : G.frz 265 = false := rfl
theorem zmk : G.frz 266 = false := rfl
theorem zoz : G.frz 267 = false := rfl
theorem zrd : G.frz 268 = false := rfl
theorem qxt : G.frz 269 = false := rfl
theorem z7z : G.frz 270 = false := rfl
theorem z5u : G.frz 271 = false := rfl
theorem zkw : G.frz 272 = false := rfl
theorem qnk : G.frz 273 = false := rfl
theorem zhq : G.frz 274 = false := rfl
theorem z1v : G.frz 275 = false := rfl
theorem zp3 : G.frz 276 = false := rfl
theorem zse : G.frz 277 = false := rfl
theorem qmo : G.frz 278 = false := rfl
theorem zf3 : G.frz 279 = false := rfl
theorem qk5 : G.frz 280 = false := rfl
theorem qdd : G.frz 282 = false := rfl
theorem z18 : G.frz 283 = false := rfl
theorem ziq : G.frz 284 = false := rfl
theorem qm5 : G.frz 285 = false := rfl
theorem zmw : G.frz 286 = false := rfl
theorem zsh : G.frz 287 = false := rfl
theorem qdo : G.frz 289 = false := rfl
theorem qon : G.frz 290 = false := rfl
theorem zjh : G.frz 291 = false := rfl
theorem z6g : G.frz 292 = false := rfl
theorem qwa : G.frz 293 = false := rfl
theorem z9q : G.frz 295 = false := rfl
theorem zbt : G.frz 296 = false := rfl
theorem zo4 : G.frz 297 = false := rfl
theorem zbj : G.frz 298 = false := rfl
theorem qh5 : G.frz 299 = false := rfl
theorem qxj : G.frz 300 = false := rfl
theorem qv0 : G.frz 301 = false := rfl
theorem z9p : G.frz 302 = false := rfl
theorem qpq : G.frz 303 = false := rfl
theorem zoy : G.frz 304 = false := rfl
theorem qwp : G.frz 305 = false := rfl
theorem zs6 : G.frz 306 = false := rfl
theorem qvi : G.frz 307 = false := rfl
theorem qov : G.frz 308 = false := rfl
theorem z5c : G.frz 309 = false := rfl
theorem zq2 : G.frz 311 = false := rfl
theorem z5s : G.frz 312 = false := rfl
theorem qpl : G.frz 313 = false := rfl
theorem qk2 : G.frz 314 = false := rfl
theorem zrv : G.frz 315 = false := rfl
theorem zbo : G.frz 316 = false := rfl
theorem zfe : G.frz 317 = false := rfl
theorem zly : G.frz 318 = false := rfl
theorem zhe : G.frz 319 = false := rfl
theorem quj : G.frz 320 = false := rfl
theorem zq7 : G.frz 321 = false := rfl
theorem zld : G.frz 322 = false := rfl
theorem qi4 : G.frz 324 = false := rfl
theorem qq9 : G.frz 325 = false := rfl
theorem qq4 : G.frz 326 = false := rfl
theorem zli : G.frz 327 = false := rfl
theorem qp2 : G.frz 328 = false := rfl
theorem zet : G.frz 330 = false := rfl
theorem qua : G.frz 331 = false := rfl
theorem z98 : G.frz 332 = false := rfl
theorem znd : G.frz 333 = false := rfl
theorem zko : G.frz 334 = false := rfl
theorem qe5 : G.frz 336 = false := rfl
theorem zlf : G.frz 337 = false := rfl
theorem qpv : G.frz 338 = false := rfl
theorem qh1 : G.frz 340 = false := rfl
theorem z2a : G.frz 341 = false := rfl
theorem qd4 : G.frz 342 = false := rfl
theorem qho : G.frz 343 = false := rfl
theorem zhw : G.frz 344 = false := rfl
theorem zf9 : G.frz 345 = false := rfl
theorem qgq : G.frz 346 = false := rfl
theorem zno : G.frz 347 = false := rfl
theorem zfm : G.frz 348 = false := rfl
theorem zm1 : G.frz 349 = false := rfl
theorem zk3 : G.frz 350 = false := rfl
theorem zht : G.frz 351 = false := rfl
theorem zgb : G.frz 352 = false := rfl
theorem qpt : G.frz 353 = false := rfl
theorem qf9 : G.frz 354 = false := rfl
theorem qw1 : G.frz 355 = false := rfl
theorem zbk : G.frz 356 = false := rfl
theorem zqp : G.frz 357 = false := rfl
theorem qd5 : G.frz 359 = false := rfl
theorem qwq : G.frz 360 = false := rfl
theorem zo2 : G.frz 362 = false := rfl
theorem qyx : G.frz 363 = false := rfl
theorem zgy : G.frz 364 = false := rfl
theorem zex : G.frz 365 = false := rfl
theorem qfo : G.frz 366 = false := rfl
theorem qqq : G.frz 367 = false := rfl
theorem ze0 : G.frz 368 = false := rfl
theorem qnt : G.frz 369 = false := rfl
theorem quq : G.frz 370 = false := rfl
theorem zle : G.frz 371 = false := rfl
theorem z8s : G.frz 372 = false := rfl
theorem qnj : G.frz 374 = false := rfl
theorem z5t : G.frz 375 = false := rfl
theorem z8u : G.frz 376 = false := rfl
theorem zrh : G.frz 377 = false := rfl
theorem qd7 : G.frz 378 = false := rfl
theorem zka : G.frz 379 = false := rfl
theorem zso : G.frz 381 = false := rfl
theorem zce : G.frz 382 = false := rfl
theorem qya : G.frz 384 = false := rfl
theorem zq9 : G.frz 386 = false := rfl
theorem z4u : G.frz 387 = false := rfl
theorem qcw : G.frz 388 = false := rfl
theorem qev : G.frz 389 = false := rfl
theorem zti : G.frz 390 = false := rfl
theorem zny : G.frz 391 = false := rfl
theorem zms : G.frz 392 = false := rfl
theorem z3u : G.frz 393 = false := rfl
theorem z4i : G.frz 394 = false := rfl
theorem qfz : G.frz 396 = false := rfl
theorem qeb : G.frz 397 = false := rfl
theorem z4z : G.frz 398 = false := rfl
theorem z7j : G.frz 399 = false := rfl
theorem qph : G.frz 400 = false := rfl
theorem z6t : G.frz 401 = false := rfl
theorem qki : G.frz 402 = false := rfl
theorem qf5 : G.frz 403 = false := rfl
theorem qtb : G.frz 404 = false := rfl
theorem z90 : G.frz 405 = false := rfl
theorem zeo : G.frz 406 = false := rfl
theorem qrk : G.frz 407 = false := rfl
theorem qyz : G.frz 408 = false := rfl
theorem zjl : G.frz 409 = false := rfl
theorem qmv : G.frz 410 = false := rfl
theorem zn3 : G.frz 412 = false := rfl
theorem z3c : G.frz 413 = false := rfl
theorem qqp : G.frz 414 = false := rfl
theorem qib : G.frz 415 = false := rfl
theorem qtm : G.frz 416 = false := rfl
theorem qns : G.frz 417 = false := rfl
theorem z7p : G.frz 418 = false := rfl
theorem z0y : G.frz 420 = false := rfl
theorem qr9 : G.frz 422 = false := rfl
theorem qpa : G.frz 423 = false := rfl
theorem z5e : G.frz 424 = false := rfl
theorem zgs : G.frz 425 = false := rfl
theorem qhf : G.frz 426 = false := rfl
theorem qm0 : G.frz 428 = false := rfl
theorem zmv : G.frz 429 = false := rfl
theorem qy5 : G.frz 430 = false := rfl
theorem zo0 : G.frz 432 = false := rfl
theorem z3k : G.frz 433 = false := rfl
theorem zds : G.frz 434 = false := rfl
theorem qlk : G.frz 435 = false := rfl
theorem qn6 : G.frz 436 = false := rfl
theorem qln : G.frz 437 = false := rfl
theorem qhm : G.frz 438 = false := rfl
theorem znq : G.frz 439 = false := rfl
theorem zlx : G.frz 440 = false := rfl
theorem qs0 : G.frz 441 = false := rfl
theorem za4 : G.frz 442 = false := rfl
theorem qob : G.frz 444 = false := rfl
theorem qk9 : G.frz 445 = false := rfl
theorem zjy : G.frz 446 = false := rfl
theorem zq1 : G.frz 447 = false := rfl
theorem qid : G.frz 448 = false := rfl
theorem qkp : G.frz 449 = false := rfl
theorem qs3 : G.frz 450 = false := rfl
theorem qkh : G.frz 451 = false := rfl
theorem zt9 : G.frz 453 = false := rfl
theorem qxf : G.frz 454 = false := rfl
theorem zlc : G.frz 455 = false := rfl
theorem z5r : G.frz 456 = false := rfl
theorem qfj : G.frz 457 = false := rfl
theorem qs5 : G.frz 458 = false := rfl
theorem qp9 : G.frz 459 = false := rfl
theorem qn2 : G.frz 460 = false := rfl
theorem zp0 : G.frz 461 = false := rfl
theorem qyr : G.frz 462 = false := rfl
theorem zac : G.frz 463 = false := rfl
theorem qzh : G.frz 464 = false := rfl
theorem zd4 : G.frz 465 = false := rfl
theorem qm1 : G.frz 466 = false := rfl
theorem qr5 : G.frz 467 = false := rfl
theorem zcu : G.frz 468 = false := rfl
theorem qty : G.frz 470 = false := rfl
theorem qtd : G.frz 471 = false := rfl
theorem z2z : G.frz 472 = false := rfl
theorem qt8 : G.frz 473 = false := rfl
theorem qu8 : G.frz 474 = false := rfl
theorem zez : G.frz 475 = false := rfl
theorem zll : G.frz 476 = false := rfl
theorem z6k : G.frz 477 = false := rfl
theorem z3f : G.frz 478 = false := rfl
theorem qzq : G.frz 479 = false := rfl
theorem qex : G.frz 480 = false := rfl
theorem qfg : G.frz 482 = false := rfl
theorem zes : G.frz 483 = false := rfl
theorem zpv : G.frz 484 = false := rfl
theorem qjw : G.frz 485 = false := rfl
theorem qog : G.frz 486 = false := rfl
theorem zpx : G.frz 487 = false := rfl
theorem zl8 : G.frz 488 = false := rfl
theorem qgf : G.frz 489 = false := rfl
theorem qww : G.frz 490 = false := rfl
theorem qwo : G.frz 492 = false := rfl
theorem zh3 : G.frz 493 = false := rfl
theorem qgl : G.frz 495 = false := rfl
theorem qjb : G.frz 496 = false := rfl
theorem z4s : G.frz 497 = false := rfl
theorem quy : G.frz 498 = false := rfl
theorem z0t : G.frz 499 = false := rfl
theorem qum : G.frz 500 = false := rfl
theorem zab : G.frz 501 = false := rfl
theorem z8e : G.frz 502 = false := rfl
theorem qe6 : G.frz 503 = false := rfl
theorem z3o : G.frz 504 = false := rfl
theorem zsi : G.frz 505 = false := rfl
theorem zby : G.frz 506 = false := rfl
theorem z0i : G.frz 507 = false := rfl
theorem zat : G.frz 508 = false := rfl
theorem zcr : G.frz 509 = false := rfl
theorem zb0 : G.frz 510 = false := rfl
theorem qqv : G.frz 511 = false := rfl
theorem zik : G.frz 512 = false := rfl
theorem qd1 : G.frz 513 = false := rfl
theorem zh0 : G.frz 514 = false := rfl
theorem zmz : G.frz 515 = false := rfl
theorem mf1 : G.mrf 1 = false := rfl
theorem mf2 : G.mrf 2 = false := rfl
theorem mf3 : G.mrf 3 = false := rfl
theorem mf4 : G.mrf 4 = false := rfl
theorem mf5 : G.mrf 5 = false := rfl
theorem mf6 : G.mrf 6 = false := rfl
theorem mf7 : G.mrf 7 = false := rfl
theorem mf8 : G.mrf 8 = false := rfl
theorem mf9 : G.mrf 9 = false := rfl
theorem znn : G.mrf 10 = false := rfl
theorem zgz : G.mrf 11 = false := rfl
theorem z2u : G.mrf 12 = false := rfl
theorem zhn : G.mrf 13 = false := rfl
theorem qj7 : G.mrf 14 = false := rfl
theorem qgy : G.mrf 15 = false := rfl
theorem zqi : G.mrf 16 = false := rfl
theorem zaz : G.mrf 17 = false := rfl
theorem zb4 : G.mrf 18 = false := rfl
theorem qsp : G.mrf 19 = false := rfl
theorem qwy : G.mrf 20 = false := rfl
theorem qyo : G.mrf 21 = false := rfl
theorem qoi : G.mrf 22 = false := rfl
theorem zjk : G.mrf 23 = false := rfl
theorem zcv : G.mrf 24 = false := rfl
theorem z9w : G.mrf 25 = false := rfl
theorem qrl : G.mrf 26 = false := rfl
theorem z2o : G.mrf 27 = false := rfl
theorem qq5 : G.mrf 28 = false := rfl
theorem qzx : G.mrf 30 = false := rfl
theorem qy2 : G.mrf 31 = false := rfl
theorem zlw : G.mrf 32 = false := rfl
theorem qzk : G.mrf 33 = false := rfl
theorem zgl : G.mrf 34 = false := rfl
theorem zn8 : G.mrf 35 = false := rfl
theorem qoh : G.mrf 36 = false := rfl
theorem qm2 : G.mrf 37 = false := rfl
theorem qdg : G.mrf 38 = false := rfl
theorem qjx : G.mrf 39 = false := rfl
theorem z1f : G.mrf 40 = false := rfl
theorem z3i : G.mrf 41 = false := rfl
theorem qed : G.mrf 42 = false := rfl
theorem zao : G.mrf 44 = false := rfl
theorem z1m : G.mrf 45 = false := rfl
theorem qjn : G.mrf 46 = false := rfl
theorem z1o : G.mrf 47 = false := rfl
theorem zeg : G.mrf 48 = false := rfl
theorem qkg : G.mrf 49 = false := rfl
theorem qqt : G.mrf 50 = false := rfl
theorem qg6 : G.mrf 52 = false := rfl
theorem zta : G.mrf 53 = false := rfl
theorem zro : G.mrf 55 = false := rfl
theorem ziv : G.mrf 56 = false := rfl
theorem qv1 : G.mrf 57 = false := rfl
theorem zj1 : G.mrf 58 = false := rfl
theorem qzb : G.mrf 59 = false := rfl
theorem qjq : G.mrf 60 = false := rfl
theorem qxx : G.mrf 61 = false := rfl
theorem zfs : G.mrf 62 = false := rfl
theorem z0a : G.mrf 63 = false := rfl
theorem z1u : G.mrf 64 = false := rfl
theorem zk5 : G.mrf 66 = false := rfl
theorem qnm : G.mrf 67 = false := rfl
theorem qqy : G.mrf 68 = false := rfl
theorem zfb : G.mrf 69 = false := rfl
theorem znv : G.mrf 70 = false := rfl
theorem z6y : G.mrf 71 = false := rfl
theorem z2v : G.mrf 72 = false := rfl
theorem qpf : G.mrf 73 = false := rfl
theorem zom : G.mrf 75 = false := rfl
theorem zbe : G.mrf 76 = false := rfl
theorem z6f : G.mrf 77 = false := rfl
theorem znt : G.mrf 78 = false := rfl
theorem zt6 : G.mrf 79 = false := rfl
theorem qj9 : G.mrf 80 = false := rfl
theorem qff : G.mrf 81 = false := rfl
theorem zon : G.mrf 82 = false := rfl
theorem zl9 : G.mrf 83 = false := rfl
theorem zr4 : G.mrf 84 = false := rfl
theorem z8k : G.mrf 85 = false := rfl
theorem qj0 : G.mrf 87 = false := rfl
theorem qzm : G.mrf 88 = false := rfl
theorem zss : G.mrf 89 = false := rfl
theorem qs4 : G.mrf 91 = false := rfl
theorem zo7 : G.mrf 92 = false := rfl
theorem zrs : G.mrf 93 = false := rfl
theorem z4f : G.mrf 94 = false := rfl
theorem z8l : G.mrf 95 = false := rfl
theorem qks : G.mrf 96 = false := rfl
theorem zl5 : G.mrf 97 = false := rfl
theorem zfi : G.mrf 98 = false := rfl
theorem zl6 : G.mrf 100 = false := rfl
theorem zkh : G.mrf 101 = false := rfl
theorem z1k : G.mrf 102 = false := rfl
theorem qfy : G.mrf 103 = false := rfl
theorem zbu : G.mrf 105 = false := rfl
theorem z6z : G.mrf 106 = false := rfl
theorem zo8 : G.mrf 107 = false := rfl
theorem z6w : G.mrf 108 = false := rfl
theorem z96 : G.mrf 109 = false := rfl
theorem qqc : G.mrf 110 = false := rfl
theorem qj6 : G.mrf 111 = false := rfl
theorem qq0 : G.mrf 112 = false := rfl
theorem z7r : G.mrf 113 = false := rfl
theorem qj5 : G.mrf 114 = false := rfl
theorem qhz : G.mrf 115 = false := rfl
theorem z07 : G.mrf 116 = false := rfl
theorem z5o : G.mrf 117 = false := rfl
theorem z9s : G.mrf 118 = false := rfl
theorem qie : G.mrf 119 = false := rfl
theorem qit : G.mrf 120 = false := rfl
theorem zeu : G.mrf 121 = false := rfl
theorem z5k : G.mrf 122 = false := rfl
theorem qrm : G.mrf 123 = false := rfl
theorem z4v : G.mrf 124 = false := rfl
theorem qx9 : G.mrf 125 = false := rfl
theorem qoj : G.mrf 126 = false := rfl
theorem zjc : G.mrf 127 = false := rfl
theorem z6b : G.mrf 128 = false := rfl
theorem qo4 : G.mrf 129 = false := rfl
theorem z15 : G.mrf 130 = false := rfl
theorem z7h : G.mrf 131 = false := rfl
theorem zix : G.mrf 132 = false := rfl
theorem qlt : G.mrf 133 = false := rfl
theorem qic : G.mrf 134 = false := rfl
theorem zrt : G.mrf 135 = false := rfl
theorem zfg : G.mrf 136 = false := rfl
theorem zg0 : G.mrf 137 = false := rfl
theorem qkr : G.mrf 139 = false := rfl
theorem quw : G.mrf 140 = false := rfl
theorem zg5 : G.mrf 141 = false := rfl
theorem qrg : G.mrf 142 = false := rfl
theorem qzu : G.mrf 143 = false := rfl
theorem qh8 : G.mrf 144 = false := rfl
theorem ziw : G.mrf 145 = false := rfl
theorem qwr : G.mrf 146 = false := rfl
theorem qrw : G.mrf 148 = false := rfl
theorem zee : G.mrf 149 = false := rfl
theorem qcx : G.mrf 150 = false := rfl
theorem zqf : G.mrf 151 = false := rfl
theorem zm6 : G.mrf 152 = false := rfl
theorem zpb : G.mrf 154 = false := rfl
theorem z3r : G.mrf 155 = false := rfl
theorem z8r : G.mrf 156 = false := rfl
theorem z7o : G.mrf 158 = false := rfl
theorem z0d : G.mrf 160 = false := rfl
theorem qnf : G.mrf 162 = false := rfl
theorem zgd : G.mrf 163 = false := rfl
theorem zma : G.mrf 164 = false := rfl
theorem z3t : G.mrf 165 = false := rfl
theorem z3s : G.mrf 166 = false := rfl
theorem qr8 : G.mrf 167 = false := rfl
theorem zbp : G.mrf 168 = false := rfl
theorem zhm : G.mrf 169 = false := rfl
theorem qwl : G.mrf 170 = false := rfl
theorem qi1 : G.mrf 171 = false := rfl
theorem zgk : G.mrf 172 = false := rfl
theorem z9o : G.mrf 173 = false := rfl
theorem qqi : G.mrf 174 = false := rfl
theorem zf4 : G.mrf 175 = false := rfl
theorem zsv : G.mrf 176 = false := rfl
theorem qlf : G.mrf 177 = false := rfl
theorem zj4 : G.mrf 178 = false := rfl
theorem qwd : G.mrf 179 = false := rfl
theorem qfk : G.mrf 180 = false := rfl
theorem qyf : G.mrf 181 = false := rfl
theorem qkf : G.mrf 182 = false := rfl
theorem zgf : G.mrf 183 = false := rfl
theorem z6e : G.mrf 185 = false := rfl
theorem qp3 : G.mrf 186 = false := rfl
theorem qew : G.mrf 187 = false := rfl
theorem qd2 : G.mrf 188 = false := rfl
theorem z1j : G.mrf 189 = false := rfl
theorem z6x : G.mrf 190 = false := rfl
theorem zhp : G.mrf 191 = false := rfl
theorem zkm : G.mrf 192 = false := rfl
theorem z7u : G.mrf 193 = false := rfl
theorem qvk : G.mrf 194 = false := rfl
theorem z4g : G.mrf 195 = false := rfl
theorem qre : G.mrf 196 = false := rfl
theorem zrj : G.mrf 197 = false := rfl
theorem zdk : G.mrf 198 = false := rfl
theorem z7v : G.mrf 199 = false := rfl
theorem qrj : G.mrf 200 = false := rfl
theorem zcm : G.mrf 201 = false := rfl
theorem zmh : G.mrf 202 = false := rfl
theorem zoi : G.mrf 203 = false := rfl
theorem z4a : G.mrf 204 = false := rfl
theorem zst : G.mrf 205 = false := rfl
theorem zjw : G.mrf 206 = false := rfl
theorem zk6 : G.mrf 207 = false := rfl
theorem zqa : G.mrf 208 = false := rfl
theorem qne : G.mrf 209 = false := rfl
theorem z6m : G.mrf 210 = false := rfl
theorem qrq : G.mrf 211 = false := rfl
theorem zkr : G.mrf 212 = false := rfl
theorem zg2 : G.mrf 213 = false := rfl
theorem qpi : G.mrf 214 = false := rfl
theorem qh7 : G.mrf 216 = false := rfl
theorem zp1 : G.mrf 217 = false := rfl
theorem zqo : G.mrf 218 = false := rfl
theorem z6r : G.mrf 219 = false := rfl
theorem zp7 : G.mrf 220 = false := rfl
theorem zb6 : G.mrf 221 = false := rfl
theorem zgi : G.mrf 222 = false := rfl
theorem z5p : G.mrf 223 = false := rfl
theorem zgw : G.mrf 224 = false := rfl
theorem zpm : G.mrf 225 = false := rfl
theorem z95 : G.mrf 227 = false := rfl
theorem zfv : G.mrf 228 = false := rfl
theorem z3l : G.mrf 229 = false := rfl
theorem qq8 : G.mrf 230 = false := rfl
theorem qfn : G.mrf 231 = false := rfl
theorem qp6 : G.mrf 233 = false := rfl
theorem zin : G.mrf 235 = false := rfl
theorem zk1 : G.mrf 236 = false := rfl
theorem zej : G.mrf 237 = false := rfl
theorem zkk : G.mrf 238 = false := rfl
theorem qo2 : G.mrf 239 = false := rfl
theorem zdo : G.mrf 240 = false := rfl
theorem z5v : G.mrf 241 = false := rfl
theorem zj3 : G.mrf 242 = false := rfl
theorem zad : G.mrf 243 = false := rfl
theorem qkq : G.mrf 244 = false := rfl
theorem qgp : G.mrf 245 = false := rfl
theorem qmb : G.mrf 246 = false := rfl
theorem zr0 : G.mrf 247 = false := rfl
theorem zrm : G.mrf 248 = false := rfl
theorem zku : G.mrf 250 = false := rfl
theorem qgs : G.mrf 251 = false := rfl
theorem ql5 : G.mrf 252 = false := rfl
theorem zcb : G.mrf 253 = false := rfl
theorem zj9 : G.mrf 254 = false := rfl
theorem qq1 : G.mrf 255 = false := rfl
theorem qub : G.mrf 256 = false := rfl
theorem zg9 : G.mrf 257 = false := rfl
theorem zq0 : G.mrf 258 = false := rfl
theorem qif : G.mrf 259 = false := rfl
theorem zbs : G.mrf 261 = false := rfl
theorem zda : G.mrf 262 = false := rfl
theorem zlt : G.mrf 263 = false := rfl
theorem z3a : G.mrf 264 = false := rfl
theorem qp0 : G.mrf 265 = false := rfl
theorem zt7 : G.mrf 266 = false := rfl
theorem zgm : G.mrf 267 = false := rfl
theorem qkm : G.mrf 268 = false := rfl
theorem z1x : G.mrf 269 = false := rfl
theorem qs8 : G.mrf 270 = false := rfl
theorem zcx : G.mrf 271 = false := rfl
theorem zjs : G.mrf 272 = false := rfl
theorem z3x : G.mrf 273 = false := rfl
theorem qi9 : G.mrf 274 = false := rfl
theorem z1h : G.mrf 275 = false := rfl
theorem za2 : G.mrf 276 = false := rfl
theorem qxo : G.mrf 277 = false := rfl
theorem zm7 : G.mrf 278 = false := rfl
theorem zpu : G.mrf 279 = false := rfl
theorem z6q : G.mrf 280 = false := rfl
theorem qof : G.mrf 282 = false := rfl
theorem qkz : G.mrf 283 = false := rfl
theorem z4n : G.mrf 284 = false := rfl
theorem qn5 : G.mrf 285 = false := rfl
theorem qm4 : G.mrf 286 = false := rfl
theorem zkz : G.mrf 287 = false := rfl
theorem zlo : G.mrf 289 = false := rfl
theorem zft : G.mrf 290 = false := rfl
theorem zpw : G.mrf 291 = false := rfl
theorem qx5 : G.mrf 292 = false := rfl
theorem zr5 : G.mrf 293 = false := rfl
theorem zky : G.mrf 295 = false := rfl
theorem qjc : G.mrf 296 = false := rfl
theorem zm4 : G.mrf 297 = false := rfl
theorem zav : G.mrf 298 = false := rfl
theorem qtp : G.mrf 299 = false := rfl
theorem qld : G.mrf 300 = false := rfl
theorem qtz : G.mrf 301 = true := rfl
theorem qpy : G.mrf 302 = false := rfl
theorem qlh : G.mrf 303 = false := rfl
theorem zlj : G.mrf 304 = true := rfl
theorem qqd : G.mrf 305 = false := rfl
theorem zrb : G.mrf 306 = false := rfl
theorem zfj : G.mrf 307 = false := rfl
theorem ziy : G.mrf 308 = false := rfl
theorem qwc : G.mrf 309 = false := rfl
theorem zmr : G.mrf 311 = false := rfl
theorem zjg : G.mrf 312 = false := rfl
theorem z6u : G.mrf 313 = false := rfl
theorem zs4 : G.mrf 314 = false := rfl
theorem zri : G.mrf 315 = false := rfl
theorem zr9 : G.mrf 316 = false := rfl
theorem z7i : G.mrf 317 = false := rfl
theorem qme : G.mrf 318 = false := rfl
theorem qxl : G.mrf 319 = false := rfl
theorem qv3 : G.mrf 320 = false := rfl
theorem qf6 : G.mrf 321 = false := rfl
theorem qus : G.mrf 322 = false := rfl
theorem zhg : G.mrf 324 = false := rfl
theorem qqk : G.mrf 325 = false := rfl
theorem zel : G.mrf 326 = false := rfl
theorem qxc : G.mrf 327 = false := rfl
theorem zb1 : G.mrf 328 = false := rfl
theorem zr1 : G.mrf 330 = false := rfl
theorem qhj : G.mrf 331 = true := rfl
theorem qpb : G.mrf 332 = false := rfl
theorem zbc : G.mrf 333 = false := rfl
theorem zqc : G.mrf 334 = false := rfl
theorem qoo : G.mrf 336 = false := rfl
theorem qxd : G.mrf 337 = false := rfl
theorem qy7 : G.mrf 338 = false := rfl
theorem zjx : G.mrf 340 = false := rfl
theorem z2d : G.mrf 341 = false := rfl
theorem qpo : G.mrf 342 = false := rfl
theorem zg7 : G.mrf 343 = false := rfl
theorem qmd : G.mrf 344 = false := rfl
theorem z13 : G.mrf 345 = false := rfl
theorem qip : G.mrf 346 = false := rfl
theorem qth : G.mrf 347 = false := rfl
theorem zhu : G.mrf 348 = false := rfl
theorem z2n : G.mrf 349 = false := rfl
theorem zau : G.mrf 350 = false := rfl
theorem zkc : G.mrf 351 = false := rfl
theorem qeh : G.mrf 352 = false := rfl
theorem zmc : G.mrf 353 = false := rfl
theorem qhh : G.mrf 354 = false := rfl
theorem qu2 : G.mrf 355 = false := rfl
theorem qte : G.mrf 356 = false := rfl
theorem zeh : G.mrf 357 = false := rfl
theorem qz1 : G.mrf 359 = false := rfl
theorem zia : G.mrf 360 = false := rfl
theorem qn7 : G.mrf 362 = false := rfl
theorem qlz : G.mrf 363 = false := rfl
theorem qh0 : G.mrf 364 = false := rfl
theorem z6l : G.mrf 365 = false := rfl
theorem qdq : G.mrf 366 = false := rfl
theorem zj6 : G.mrf 367 = false := rfl
theorem z2l : G.mrf 368 = false := rfl
theorem z8f : G.mrf 369 = false := rfl
theorem zjm : G.mrf 370 = false := rfl
theorem z5b : G.mrf 371 = false := rfl
theorem znc : G.mrf 372 = false := rfl
theorem zgq : G.mrf 374 = false := rfl
theorem zml : G.mrf 375 = false := rfl
theorem ztc : G.mrf 376 = false := rfl
theorem znx : G.mrf 377 = true := rfl
theorem zff : G.mrf 378 = false := rfl
theorem z0z : G.mrf 379 = false := rfl
theorem zhk : G.mrf 381 = false := rfl
theorem qxy : G.mrf 382 = false := rfl
theorem qdf : G.mrf 384 = false := rfl
theorem qxr : G.mrf 386 = false := rfl
theorem qps : G.mrf 387 = false := rfl
theorem zp5 : G.mrf 388 = false := rfl
theorem zjj : G.mrf 389 = false := rfl
theorem qvb : G.mrf 390 = false := rfl
theorem qyy : G.mrf 391 = false := rfl
theorem qvg : G.mrf 392 = false := rfl
theorem zqx : G.mrf 393 = false := rfl
theorem zb2 : G.mrf 394 = false := rfl
theorem qqu : G.mrf 396 = false := rfl
theorem qet : G.mrf 397 = false := rfl
theorem z14 : G.mrf 398 = false := rfl
theorem qrf : G.mrf 399 = false := rfl
theorem quz : G.mrf 400 = false := rfl
theorem zo6 : G.mrf 401 = false := rfl
theorem qsi : G.mrf 402 = false := rfl
theorem zc3 : G.mrf 403 = false := rfl
theorem qmt : G.mrf 404 = false := rfl
theorem qvf : G.mrf 405 = false := rfl
theorem qs9 : G.mrf 406 = false := rfl
theorem zpr : G.mrf 407 = false := rfl
theorem zem : G.mrf 408 = false := rfl
theorem qee : G.mrf 409 = false := rfl
theorem qej : G.mrf 410 = false := rfl
theorem qwi : G.mrf 412 = false := rfl
theorem zpk : G.mrf 413 = false := rfl
theorem qhd : G.mrf 414 = false := rfl
theorem zm9 : G.mrf 415 = false := rfl
theorem zr7 : G.mrf 416 = false := rfl
theorem zaa : G.mrf 417 = false := rfl
theorem qn1 : G.mrf 418 = false := rfl
theorem qcy : G.mrf 420 = false := rfl
theorem qv6 : G.mrf 422 = false := rfl
theorem qhv : G.mrf 423 = false := rfl
theorem zec : G.mrf 424 = false := rfl
theorem z0k : G.mrf 425 = false := rfl
theorem qqm : G.mrf 426 = false := rfl
theorem z19 : G.mrf 428 = false := rfl
theorem zcf : G.mrf 429 = false := rfl
theorem qe4 : G.mrf 430 = false := rfl
theorem qx7 : G.mrf 432 = false := rfl
theorem qop : G.mrf 433 = false := rfl
theorem z4t : G.mrf 434 = false := rfl
theorem qh4 : G.mrf 435 = false := rfl
theorem z88 : G.mrf 436 = false := rfl
theorem qrb : G.mrf 437 = false := rfl
theorem zga : G.mrf 438 = false := rfl
theorem zhd : G.mrf 439 = false := rfl
theorem qlg : G.mrf 440 = false := rfl
theorem zq3 : G.mrf 441 = false := rfl
theorem qg2 : G.mrf 442 = false := rfl
theorem qvx : G.mrf 444 = false := rfl
theorem qza : G.mrf 445 = false := rfl
theorem zj2 : G.mrf 446 = false := rfl
theorem qvo : G.mrf 447 = false := rfl
theorem z1a : G.mrf 448 = false := rfl
theorem zlb : G.mrf 449 = false := rfl
theorem z4w : G.mrf 450 = false := rfl
theorem qe1 : G.mrf 451 = false := rfl
theorem z0c : G.mrf 453 = false := rfl
theorem zmi : G.mrf 454 = false := rfl
theorem qef : G.mrf 455 = false := rfl
theorem qj1 : G.mrf 456 = false := rfl
theorem qvh : G.mrf 457 = false := rfl
theorem z7y : G.mrf 458 = false := rfl
theorem zsk : G.mrf 459 = false := rfl
theorem qm6 : G.mrf 460 = false := rfl
theorem qmy : G.mrf 461 = false := rfl
theorem zl4 : G.mrf 462 = false := rfl
theorem qt5 : G.mrf 463 = false := rfl
theorem zng : G.mrf 464 = false := rfl
theorem qt0 : G.mrf 465 = false := rfl
theorem zkd : G.mrf 466 = false := rfl
theorem qri : G.mrf 467 = false := rfl
theorem qh9 : G.mrf 468 = false := rfl
theorem qtn : G.mrf 470 = false := rfl
theorem z0p : G.mrf 471 = false := rfl
theorem zmt : G.mrf 472 = false := rfl
theorem zdn : G.mrf 473 = false := rfl
theorem qy4 : G.mrf 474 = false := rfl
theorem zmm : G.mrf 475 = false := rfl
theorem zhz : G.mrf 476 = false := rfl
theorem qmp : G.mrf 477 = false := rfl
theorem zf5 : G.mrf 478 = false := rfl
theorem zaf : G.mrf 479 = false := rfl
theorem qsl : G.mrf 480 = false := rfl
theorem zcy : G.mrf 482 = false := rfl
theorem qhw : G.mrf 483 = false := rfl
theorem zsf : G.mrf 484 = false := rfl
theorem zer : G.mrf 485 = false := rfl
theorem qek : G.mrf 486 = false := rfl
theorem zgc : G.mrf 487 = false := rfl
theorem qes : G.mrf 488 = false := rfl
theorem zot : G.mrf 489 = false := rfl
theorem qia : G.mrf 490 = false := rfl
theorem qwn : G.mrf 492 = false := rfl
theorem qot : G.mrf 493 = false := rfl
theorem qla : G.mrf 495 = false := rfl
theorem zde : G.mrf 496 = false := rfl
theorem qnq : G.mrf 497 = false := rfl
theorem zrg : G.mrf 498 = false := rfl
theorem quk : G.mrf 499 = false := rfl
theorem qsx : G.mrf 500 = false := rfl
theorem zoa : G.mrf 501 = false := rfl
theorem z7l : G.mrf 502 = false := rfl
theorem qu0 : G.mrf 503 = false := rfl
theorem qmm : G.mrf 504 = false := rfl
theorem qk8 : G.mrf 505 = false := rfl
theorem qgr : G.mrf 506 = false := rfl
theorem qhk : G.mrf 507 = false := rfl
theorem qka : G.mrf 508 = false := rfl
theorem qjy : G.mrf 509 = false := rfl
theorem qi8 : G.mrf 510 = false := rfl
theorem zek : G.mrf 511 = false := rfl
theorem qz5 : G.mrf 512 = false := rfl
theorem qk0 : G.mrf 513 = false := rfl
theorem zos : G.mrf 514 = false := rfl
theorem zjz : G.mrf 515 = false := rfl
theorem ti3 : G.ti 3 = some ⟨1,8,.int .i64,[.int .i64 0],false,none⟩ := by kernel_rfl
theorem ti5 : G.ti 5 = some ⟨1,1,.int .u8,[.int .u8 0],false,none⟩ := by kernel_rfl
theorem ti9 : G.ti 9 = some ⟨1,16,.string,[.str []],false,none⟩ := by kernel_rfl
theorem zdh : G.ti 23 = some ⟨1,24,.slice 47,[.sl true 0 []],false,none⟩ := by kernel_rfl
theorem qlo : G.ti 25 = some ⟨7,104,.struct [(0,1,3),(1,1,9),(2,1,9),(3,1,3),(4,1,4),(5,1,22),(6,1,23)],[.int .i64 0,.str [],.str [],.int .i64 0,.bool false,.sl true 0 [],.sl true 0 []],true,none⟩ := by kernel_rfl
theorem zc4 : G.ti 27 = some ⟨1,8,.ptr,[.nilptr],false,some 57⟩ := by kernel_rfl
theorem z7s : G.ti 28 = some ⟨1,8,.int .i64,[.int .i64 0],false,none⟩ := by kernel_rfl
theorem zdj : G.ti 33 = some ⟨1,4,.int .u32,[.int .u32 0],false,none⟩ := by kernel_rfl
theorem zrl : G.ti 35 = some ⟨2,32,.struct [(0,1,9),(1,1,9)],[.str [],.str []],true,none⟩ := by kernel_rfl
theorem qxq : G.ti 37 = some ⟨1,24,.slice 113,[.sl true 0 []],false,none⟩ := by kernel_rfl
theorem qwf : G.ti 39 = some ⟨3,64,.struct [(0,1,9),(1,1,23),(2,1,37)],[.str [],.sl true 0 [],.sl true 0 []],true,none⟩ := by kernel_rfl
theorem qgz : G.ti 41 = some ⟨1,24,.slice 35,[.sl true 0 []],false,none⟩ := by kernel_rfl
theorem zha : G.ti 47 = some ⟨2,16,.struct [(0,1,3),(1,1,3)],[.int .i64 0,.int .i64 0],true,none⟩ := by kernel_rfl
theorem zij : G.ti 57 = some ⟨4,64,.struct [(0,1,50),(1,1,37),(2,1,41),(3,1,53)],[.nilptr,.sl true 0 [],.sl true 0 [],.nilptr],true,none⟩ := by kernel_rfl
theorem qf3 : G.ti 58 = some ⟨1,24,.slice 33,[.sl true 0 []],false,none⟩ := by kernel_rfl
theorem fn3 : G.fn 3 = some ⟨Tryz.f3.ntmps,Tryz.f3.results.toList,Tryz.f3.body.get!⟩ := by kernel_rfl
theorem fn4 : G.fn 4 = some ⟨Tryz.f4.ntmps,Tryz.f4.results.toList,Tryz.f4.body.get!⟩ := by kernel_rfl
theorem fn7 : G.fn 7 = some ⟨Tryz.f7.ntmps,Tryz.f7.results.toList,Tryz.f7.body.get!⟩ := by kernel_rfl
theorem q1i : G.fn 10 = some ⟨Tryz.f10.ntmps,Tryz.f10.results.toList,Tryz.f10.body.get!⟩ := by kernel_rfl
theorem q2v : G.fn 11 = some ⟨Tryz.f11.ntmps,Tryz.f11.results.toList,Tryz.f11.body.get!⟩ := by kernel_rfl
theorem q30 : G.fn 12 = some ⟨Tryz.f12.ntmps,Tryz.f12.results.toList,Tryz.f12.body.get!⟩ := by kernel_rfl
theorem qba : G.fn 25 = some ⟨Tryz.f25.ntmps,Tryz.f25.results.toList,Tryz.f25.body.get!⟩ := by kernel_rfl
theorem tq : G.fn 26 = some ⟨Tryz.f26.ntmps,Tryz.f26.results.toList,Tryz.f26.body.get!⟩ := by kernel_rfl
theorem q1e : G.fn 27 = some ⟨Tryz.f27.ntmps,Tryz.f27.results.toList,Tryz.f27.body.get!⟩ := by kernel_rfl
theorem ny : G.fn 28 = some ⟨Tryz.f28.ntmps,Tryz.f28.results.toList,Tryz.f28.body.get!⟩ := by kernel_rfl
theorem qt1 : G.fn 29 = some ⟨Tryz.f29.ntmps,Tryz.f29.results.toList,Tryz.f29.body.get!⟩ := by kernel_rfl
theorem q72 : G.fn 52 = some ⟨Tryz.f52.ntmps,Tryz.f52.results.toList,Tryz.f52.body.get!⟩ := by kernel_rfl
theorem qb1 : G.fn 53 = some ⟨Tryz.f53.ntmps,Tryz.f53.results.toList,Tryz.f53.body.get!⟩ := by kernel_rfl
theorem qau : G.fn 54 = some ⟨Tryz.f54.ntmps,Tryz.f54.results.toList,Tryz.f54.body.get!⟩ := by kernel_rfl
end Go.Proofs.YtllckneefjgafaaGreatDoor
