/- hachuretop.WholeFlat: a part of the proof that the law returns true at every input (Sqi, SlabB, SlabC, TriB); no condition of its own. -/
import Derived.Test.YtipnifjmhlcehaaGreatDoorKC
import Derived.Test.YtipnifjmhlcehaaGreatDoorKB
set_option linter.unusedVariables false
set_option linter.unusedSimpArgs false
set_option maxRecDepth 100000
set_option maxHeartbeats 16000000
namespace Go.Proofs.YtipnifjmhlcehaaGreatDoor
section
open Go.RowKit
instance : Sc Tryz.prog 2 := ⟨_, Tryz.underlying2, rfl⟩
instance : Sc Tryz.prog 3 := ⟨_, Tryz.underlying3, rfl⟩
instance : Sc Tryz.prog 4 := ⟨_, Tryz.underlying4, rfl⟩
instance : Sc Tryz.prog 28 := ⟨_, Tryz.underlying28, rfl⟩
instance : Sc Tryz.prog 30 := ⟨_, Tryz.underlying30, rfl⟩
instance : Sc Tryz.prog 31 := ⟨_, Tryz.underlying31, rfl⟩
instance : Sc Tryz.prog 36 := ⟨_, Tryz.underlying36, rfl⟩
instance : Sc Tryz.prog 37 := ⟨_, Tryz.underlying37, rfl⟩
instance : Sc Tryz.prog 38 := ⟨_, Tryz.underlying38, rfl⟩
instance : Sc Tryz.prog 39 := ⟨_, Tryz.underlying39, rfl⟩
instance : Sc Tryz.prog 55 := ⟨_, Tryz.underlying55, rfl⟩
instance : Sc Tryz.prog 56 := ⟨_, Tryz.underlying56, rfl⟩
instance : Sc Tryz.prog 57 := ⟨_, Tryz.underlying57, rfl⟩
instance : Sc Tryz.prog 58 := ⟨_, Tryz.underlying58, rfl⟩
instance : Sc Tryz.prog 74 := ⟨_, Tryz.underlying74, rfl⟩
instance : Sc Tryz.prog 82 := ⟨_, Tryz.underlying82, rfl⟩
instance : Sc Tryz.prog 108 := ⟨_, Tryz.underlying108, rfl⟩
instance : Sc Tryz.prog 136 := ⟨_, Tryz.underlying136, rfl⟩
instance : Sc Tryz.prog 196 := ⟨_, Tryz.underlying196, rfl⟩
instance : Sc Tryz.prog 218 := ⟨_, Tryz.underlying218, rfl⟩
instance : Sc Tryz.prog 245 := ⟨_, Tryz.underlying245, rfl⟩
instance : Sc Tryz.prog 267 := ⟨_, Tryz.underlying267, rfl⟩
instance : Sc Tryz.prog 283 := ⟨_, Tryz.underlying283, rfl⟩
instance : Sc Tryz.prog 305 := ⟨_, Tryz.underlying305, rfl⟩
instance : Sc Tryz.prog 308 := ⟨_, Tryz.underlying308, rfl⟩
instance : Sc Tryz.prog 311 := ⟨_, Tryz.underlying311, rfl⟩
instance : Sc Tryz.prog 428 := ⟨_, Tryz.underlying428, rfl⟩
instance : Ag Tryz.prog 23 2 := ⟨⟨_, Tryz.underlying23, rfl⟩, Tryz.sizeOf23, rfl⟩
instance : Ag Tryz.prog 27 4 := ⟨⟨_, Tryz.underlying27, rfl⟩, Tryz.sizeOf27, rfl⟩
instance : Ag Tryz.prog 34 14 := ⟨⟨_, Tryz.underlying34, rfl⟩, Tryz.sizeOf34, rfl⟩
instance : Ag Tryz.prog 41 10 := ⟨⟨_, Tryz.underlying41, rfl⟩, Tryz.sizeOf41, rfl⟩
instance : Ag Tryz.prog 124 2 := ⟨⟨_, Tryz.underlying124, rfl⟩, Tryz.sizeOf124, rfl⟩
instance : Ag Tryz.prog 170 3 := ⟨⟨_, Tryz.underlying170, rfl⟩, Tryz.sizeOf170, rfl⟩
instance : Ag Tryz.prog 180 3 := ⟨⟨_, Tryz.underlying180, rfl⟩, Tryz.sizeOf180, rfl⟩
instance : Ag Tryz.prog 184 2 := ⟨⟨_, Tryz.underlying184, rfl⟩, Tryz.sizeOf184, rfl⟩
instance : Ag Tryz.prog 198 4 := ⟨⟨_, Tryz.underlying198, rfl⟩, Tryz.sizeOf198, rfl⟩
instance : Ag Tryz.prog 216 6 := ⟨⟨_, Tryz.underlying216, rfl⟩, Tryz.sizeOf216, rfl⟩
instance : Ag Tryz.prog 247 3 := ⟨⟨_, Tryz.underlying247, rfl⟩, Tryz.sizeOf247, rfl⟩
instance : Ag Tryz.prog 281 2 := ⟨⟨_, Tryz.underlying281, rfl⟩, Tryz.sizeOf281, rfl⟩
instance : Ag Tryz.prog 313 2 := ⟨⟨_, Tryz.underlying313, rfl⟩, Tryz.sizeOf313, rfl⟩
instance : Ag Tryz.prog 417 2 := ⟨⟨_, Tryz.underlying417, rfl⟩, Tryz.sizeOf417, rfl⟩
instance : Sl Tryz.prog 30 1 := ⟨_, Tryz.underlying30, Tryz.sizeOf2⟩
instance : Sl Tryz.prog 31 1 := ⟨_, Tryz.underlying31, Tryz.sizeOf5⟩
instance : Sl Tryz.prog 35 14 := ⟨_, Tryz.underlying35, Tryz.sizeOf34⟩
instance : Sl Tryz.prog 37 2 := ⟨_, Tryz.underlying37, Tryz.sizeOf23⟩
instance : Sl Tryz.prog 38 8 := ⟨_, Tryz.underlying38, Tryz.sizeOf44⟩
instance : Sl Tryz.prog 39 1 := ⟨_, Tryz.underlying39, Tryz.sizeOf9⟩
instance : Sl Tryz.prog 66 4 := ⟨_, Tryz.underlying66, Tryz.sizeOf27⟩
instance : Sl Tryz.prog 74 6 := ⟨_, Tryz.underlying74, Tryz.sizeOf216⟩
instance : Sl Tryz.prog 108 1 := ⟨_, Tryz.underlying108, Tryz.sizeOf3⟩
instance : Sl Tryz.prog 173 1 := ⟨_, Tryz.underlying173, Tryz.sizeOf3⟩
instance : Sl Tryz.prog 196 1 := ⟨_, Tryz.underlying196, Tryz.sizeOf133⟩
instance : Sl Tryz.prog 204 2 := ⟨_, Tryz.underlying204, Tryz.sizeOf208⟩
instance : Sl Tryz.prog 267 3 := ⟨_, Tryz.underlying267, Tryz.sizeOf354⟩
instance : Sl Tryz.prog 283 2 := ⟨_, Tryz.underlying283, Tryz.sizeOf281⟩
instance : Sl Tryz.prog 305 1 := ⟨_, Tryz.underlying305, Tryz.sizeOf30⟩
instance : Sl Tryz.prog 308 2 := ⟨_, Tryz.underlying308, Tryz.sizeOf313⟩
instance : Sl Tryz.prog 311 2 := ⟨_, Tryz.underlying311, Tryz.sizeOf124⟩
instance : Sl Tryz.prog 323 1 := ⟨_, Tryz.underlying323, Tryz.sizeOf31⟩
instance : Sl Tryz.prog 395 1 := ⟨_, Tryz.underlying395, Tryz.sizeOf339⟩
instance : Sl Tryz.prog 428 1 := ⟨_, Tryz.underlying428, Tryz.sizeOf21⟩
instance : Fl Tryz.prog 23 0 0 := ⟨_, _, _, Tryz.underlying23, rfl, Tryz.sizeOf2, rfl, rfl⟩
instance : Fl Tryz.prog 23 1 1 := ⟨_, _, _, Tryz.underlying23, rfl, Tryz.sizeOf2, rfl, rfl⟩
instance : Fl Tryz.prog 27 0 0 := ⟨_, _, _, Tryz.underlying27, rfl, Tryz.sizeOf2, rfl, rfl⟩
instance : Fl Tryz.prog 27 1 1 := ⟨_, _, _, Tryz.underlying27, rfl, Tryz.sizeOf2, rfl, rfl⟩
instance : Fl Tryz.prog 27 2 2 := ⟨_, _, _, Tryz.underlying27, rfl, Tryz.sizeOf2, rfl, rfl⟩
instance : Fl Tryz.prog 27 3 3 := ⟨_, _, _, Tryz.underlying27, rfl, Tryz.sizeOf2, rfl, rfl⟩
instance : Fl Tryz.prog 34 0 0 := ⟨_, _, _, Tryz.underlying34, rfl, Tryz.sizeOf3, rfl, rfl⟩
instance : Fl Tryz.prog 34 1 1 := ⟨_, _, _, Tryz.underlying34, rfl, Tryz.sizeOf27, rfl, rfl⟩
instance : Fl Tryz.prog 34 2 5 := ⟨_, _, _, Tryz.underlying34, rfl, Tryz.sizeOf23, rfl, rfl⟩
instance : Fl Tryz.prog 34 3 7 := ⟨_, _, _, Tryz.underlying34, rfl, Tryz.sizeOf23, rfl, rfl⟩
instance : Fl Tryz.prog 34 4 9 := ⟨_, _, _, Tryz.underlying34, rfl, Tryz.sizeOf2, rfl, rfl⟩
instance : Fl Tryz.prog 34 5 10 := ⟨_, _, _, Tryz.underlying34, rfl, Tryz.sizeOf2, rfl, rfl⟩
instance : Fl Tryz.prog 34 6 11 := ⟨_, _, _, Tryz.underlying34, rfl, Tryz.sizeOf30, rfl, rfl⟩
instance : Fl Tryz.prog 34 7 12 := ⟨_, _, _, Tryz.underlying34, rfl, Tryz.sizeOf31, rfl, rfl⟩
instance : Fl Tryz.prog 34 8 13 := ⟨_, _, _, Tryz.underlying34, rfl, Tryz.sizeOf32, rfl, rfl⟩
instance : Fl Tryz.prog 41 0 0 := ⟨_, _, _, Tryz.underlying41, rfl, Tryz.sizeOf36, rfl, rfl⟩
instance : Fl Tryz.prog 41 1 1 := ⟨_, _, _, Tryz.underlying41, rfl, Tryz.sizeOf2, rfl, rfl⟩
instance : Fl Tryz.prog 41 2 2 := ⟨_, _, _, Tryz.underlying41, rfl, Tryz.sizeOf4, rfl, rfl⟩
instance : Fl Tryz.prog 41 3 3 := ⟨_, _, _, Tryz.underlying41, rfl, Tryz.sizeOf23, rfl, rfl⟩
instance : Fl Tryz.prog 41 4 5 := ⟨_, _, _, Tryz.underlying41, rfl, Tryz.sizeOf37, rfl, rfl⟩
instance : Fl Tryz.prog 41 5 6 := ⟨_, _, _, Tryz.underlying41, rfl, Tryz.sizeOf30, rfl, rfl⟩
instance : Fl Tryz.prog 41 6 7 := ⟨_, _, _, Tryz.underlying41, rfl, Tryz.sizeOf38, rfl, rfl⟩
instance : Fl Tryz.prog 41 7 8 := ⟨_, _, _, Tryz.underlying41, rfl, Tryz.sizeOf31, rfl, rfl⟩
instance : Fl Tryz.prog 41 8 9 := ⟨_, _, _, Tryz.underlying41, rfl, Tryz.sizeOf39, rfl, rfl⟩
instance : Fl Tryz.prog 44 0 0 := ⟨_, _, _, Tryz.underlying44, rfl, Tryz.sizeOf2, rfl, rfl⟩
instance : Fl Tryz.prog 44 1 1 := ⟨_, _, _, Tryz.underlying44, rfl, Tryz.sizeOf2, rfl, rfl⟩
instance : Fl Tryz.prog 44 2 2 := ⟨_, _, _, Tryz.underlying44, rfl, Tryz.sizeOf23, rfl, rfl⟩
instance : Fl Tryz.prog 44 3 4 := ⟨_, _, _, Tryz.underlying44, rfl, Tryz.sizeOf27, rfl, rfl⟩
instance : Fl Tryz.prog 60 0 0 := ⟨_, _, _, Tryz.underlying60, rfl, Tryz.sizeOf55, rfl, rfl⟩
instance : Fl Tryz.prog 60 1 1 := ⟨_, _, _, Tryz.underlying60, rfl, Tryz.sizeOf56, rfl, rfl⟩
instance : Fl Tryz.prog 60 2 2 := ⟨_, _, _, Tryz.underlying60, rfl, Tryz.sizeOf57, rfl, rfl⟩
instance : Fl Tryz.prog 60 3 3 := ⟨_, _, _, Tryz.underlying60, rfl, Tryz.sizeOf2, rfl, rfl⟩
instance : Fl Tryz.prog 60 4 4 := ⟨_, _, _, Tryz.underlying60, rfl, Tryz.sizeOf58, rfl, rfl⟩
instance : Fl Tryz.prog 76 0 0 := ⟨_, _, _, Tryz.underlying76, rfl, Tryz.sizeOf74, rfl, rfl⟩
instance : Fl Tryz.prog 76 1 1 := ⟨_, _, _, Tryz.underlying76, rfl, Tryz.sizeOf3, rfl, rfl⟩
instance : Fl Tryz.prog 124 0 0 := ⟨_, _, _, Tryz.underlying124, rfl, Tryz.sizeOf2, rfl, rfl⟩
instance : Fl Tryz.prog 124 1 1 := ⟨_, _, _, Tryz.underlying124, rfl, Tryz.sizeOf2, rfl, rfl⟩
instance : Fl Tryz.prog 129 0 0 := ⟨_, _, _, Tryz.underlying129, rfl, Tryz.sizeOf28, rfl, rfl⟩
instance : Fl Tryz.prog 138 0 0 := ⟨_, _, _, Tryz.underlying138, rfl, Tryz.sizeOf55, rfl, rfl⟩
instance : Fl Tryz.prog 138 1 1 := ⟨_, _, _, Tryz.underlying138, rfl, Tryz.sizeOf136, rfl, rfl⟩
instance : Fl Tryz.prog 138 2 2 := ⟨_, _, _, Tryz.underlying138, rfl, Tryz.sizeOf82, rfl, rfl⟩
instance : Fl Tryz.prog 160 0 0 := ⟨_, _, _, Tryz.underlying160, rfl, Tryz.sizeOf82, rfl, rfl⟩
instance : Fl Tryz.prog 160 1 1 := ⟨_, _, _, Tryz.underlying160, rfl, Tryz.sizeOf2, rfl, rfl⟩
instance : Fl Tryz.prog 160 2 2 := ⟨_, _, _, Tryz.underlying160, rfl, Tryz.sizeOf2, rfl, rfl⟩
instance : Fl Tryz.prog 160 3 3 := ⟨_, _, _, Tryz.underlying160, rfl, Tryz.sizeOf37, rfl, rfl⟩
instance : Fl Tryz.prog 170 0 0 := ⟨_, _, _, Tryz.underlying170, rfl, Tryz.sizeOf3, rfl, rfl⟩
instance : Fl Tryz.prog 170 1 1 := ⟨_, _, _, Tryz.underlying170, rfl, Tryz.sizeOf3, rfl, rfl⟩
instance : Fl Tryz.prog 170 2 2 := ⟨_, _, _, Tryz.underlying170, rfl, Tryz.sizeOf30, rfl, rfl⟩
instance : Fl Tryz.prog 180 0 0 := ⟨_, _, _, Tryz.underlying180, rfl, Tryz.sizeOf3, rfl, rfl⟩
instance : Fl Tryz.prog 180 1 1 := ⟨_, _, _, Tryz.underlying180, rfl, Tryz.sizeOf30, rfl, rfl⟩
instance : Fl Tryz.prog 180 2 2 := ⟨_, _, _, Tryz.underlying180, rfl, Tryz.sizeOf108, rfl, rfl⟩
instance : Fl Tryz.prog 184 0 0 := ⟨_, _, _, Tryz.underlying184, rfl, Tryz.sizeOf3, rfl, rfl⟩
instance : Fl Tryz.prog 184 1 1 := ⟨_, _, _, Tryz.underlying184, rfl, Tryz.sizeOf30, rfl, rfl⟩
instance : Fl Tryz.prog 198 0 0 := ⟨_, _, _, Tryz.underlying198, rfl, Tryz.sizeOf2, rfl, rfl⟩
instance : Fl Tryz.prog 198 1 1 := ⟨_, _, _, Tryz.underlying198, rfl, Tryz.sizeOf2, rfl, rfl⟩
instance : Fl Tryz.prog 198 2 2 := ⟨_, _, _, Tryz.underlying198, rfl, Tryz.sizeOf2, rfl, rfl⟩
instance : Fl Tryz.prog 198 3 3 := ⟨_, _, _, Tryz.underlying198, rfl, Tryz.sizeOf196, rfl, rfl⟩
instance : Fl Tryz.prog 208 0 0 := ⟨_, _, _, Tryz.underlying208, rfl, Tryz.sizeOf2, rfl, rfl⟩
instance : Fl Tryz.prog 208 1 1 := ⟨_, _, _, Tryz.underlying208, rfl, Tryz.sizeOf2, rfl, rfl⟩
instance : Fl Tryz.prog 216 0 0 := ⟨_, _, _, Tryz.underlying216, rfl, Tryz.sizeOf27, rfl, rfl⟩
instance : Fl Tryz.prog 216 1 4 := ⟨_, _, _, Tryz.underlying216, rfl, Tryz.sizeOf30, rfl, rfl⟩
instance : Fl Tryz.prog 216 2 5 := ⟨_, _, _, Tryz.underlying216, rfl, Tryz.sizeOf30, rfl, rfl⟩
instance : Fl Tryz.prog 221 0 0 := ⟨_, _, _, Tryz.underlying221, rfl, Tryz.sizeOf2, rfl, rfl⟩
instance : Fl Tryz.prog 221 1 1 := ⟨_, _, _, Tryz.underlying221, rfl, Tryz.sizeOf218, rfl, rfl⟩
instance : Fl Tryz.prog 221 2 2 := ⟨_, _, _, Tryz.underlying221, rfl, Tryz.sizeOf219, rfl, rfl⟩
instance : Fl Tryz.prog 247 0 0 := ⟨_, _, _, Tryz.underlying247, rfl, Tryz.sizeOf2, rfl, rfl⟩
instance : Fl Tryz.prog 247 1 1 := ⟨_, _, _, Tryz.underlying247, rfl, Tryz.sizeOf2, rfl, rfl⟩
instance : Fl Tryz.prog 247 2 2 := ⟨_, _, _, Tryz.underlying247, rfl, Tryz.sizeOf245, rfl, rfl⟩
instance : Fl Tryz.prog 250 0 0 := ⟨_, _, _, Tryz.underlying250, rfl, Tryz.sizeOf2, rfl, rfl⟩
instance : Fl Tryz.prog 250 1 1 := ⟨_, _, _, Tryz.underlying250, rfl, Tryz.sizeOf2, rfl, rfl⟩
instance : Fl Tryz.prog 250 2 2 := ⟨_, _, _, Tryz.underlying250, rfl, Tryz.sizeOf30, rfl, rfl⟩
instance : Fl Tryz.prog 269 0 0 := ⟨_, _, _, Tryz.underlying269, rfl, Tryz.sizeOf267, rfl, rfl⟩
instance : Fl Tryz.prog 281 0 0 := ⟨_, _, _, Tryz.underlying281, rfl, Tryz.sizeOf2, rfl, rfl⟩
instance : Fl Tryz.prog 281 1 1 := ⟨_, _, _, Tryz.underlying281, rfl, Tryz.sizeOf3, rfl, rfl⟩
instance : Fl Tryz.prog 307 0 0 := ⟨_, _, _, Tryz.underlying307, rfl, Tryz.sizeOf2, rfl, rfl⟩
instance : Fl Tryz.prog 307 1 1 := ⟨_, _, _, Tryz.underlying307, rfl, Tryz.sizeOf2, rfl, rfl⟩
instance : Fl Tryz.prog 307 2 2 := ⟨_, _, _, Tryz.underlying307, rfl, Tryz.sizeOf305, rfl, rfl⟩
instance : Fl Tryz.prog 310 0 0 := ⟨_, _, _, Tryz.underlying310, rfl, Tryz.sizeOf2, rfl, rfl⟩
instance : Fl Tryz.prog 310 1 1 := ⟨_, _, _, Tryz.underlying310, rfl, Tryz.sizeOf2, rfl, rfl⟩
instance : Fl Tryz.prog 310 2 2 := ⟨_, _, _, Tryz.underlying310, rfl, Tryz.sizeOf308, rfl, rfl⟩
instance : Fl Tryz.prog 313 0 0 := ⟨_, _, _, Tryz.underlying313, rfl, Tryz.sizeOf2, rfl, rfl⟩
instance : Fl Tryz.prog 313 1 1 := ⟨_, _, _, Tryz.underlying313, rfl, Tryz.sizeOf311, rfl, rfl⟩
instance : Fl Tryz.prog 337 0 0 := ⟨_, _, _, Tryz.underlying337, rfl, Tryz.sizeOf39, rfl, rfl⟩
instance : Fl Tryz.prog 337 1 1 := ⟨_, _, _, Tryz.underlying337, rfl, Tryz.sizeOf4, rfl, rfl⟩
instance : Fl Tryz.prog 354 0 0 := ⟨_, _, _, Tryz.underlying354, rfl, Tryz.sizeOf2, rfl, rfl⟩
instance : Fl Tryz.prog 354 1 1 := ⟨_, _, _, Tryz.underlying354, rfl, Tryz.sizeOf2, rfl, rfl⟩
instance : Fl Tryz.prog 354 2 2 := ⟨_, _, _, Tryz.underlying354, rfl, Tryz.sizeOf311, rfl, rfl⟩
instance : Fl Tryz.prog 357 0 0 := ⟨_, _, _, Tryz.underlying357, rfl, Tryz.sizeOf2, rfl, rfl⟩
instance : Fl Tryz.prog 357 1 1 := ⟨_, _, _, Tryz.underlying357, rfl, Tryz.sizeOf2, rfl, rfl⟩
instance : Fl Tryz.prog 357 2 2 := ⟨_, _, _, Tryz.underlying357, rfl, Tryz.sizeOf23, rfl, rfl⟩
instance : Fl Tryz.prog 357 3 4 := ⟨_, _, _, Tryz.underlying357, rfl, Tryz.sizeOf23, rfl, rfl⟩
instance : Fl Tryz.prog 409 0 0 := ⟨_, _, _, Tryz.underlying409, rfl, Tryz.sizeOf4, rfl, rfl⟩
instance : Fl Tryz.prog 409 1 1 := ⟨_, _, _, Tryz.underlying409, rfl, Tryz.sizeOf3, rfl, rfl⟩
instance : Fl Tryz.prog 417 0 0 := ⟨_, _, _, Tryz.underlying417, rfl, Tryz.sizeOf3, rfl, rfl⟩
instance : Fl Tryz.prog 417 1 1 := ⟨_, _, _, Tryz.underlying417, rfl, Tryz.sizeOf2, rfl, rfl⟩
instance : Pt Tryz.prog 28 := ⟨_, Tryz.underlying28⟩
instance : Pt Tryz.prog 55 := ⟨_, Tryz.underlying55⟩
instance : Pt Tryz.prog 56 := ⟨_, Tryz.underlying56⟩
instance : Pt Tryz.prog 57 := ⟨_, Tryz.underlying57⟩
instance : Pt Tryz.prog 58 := ⟨_, Tryz.underlying58⟩
instance : Pt Tryz.prog 71 := ⟨_, Tryz.underlying71⟩
instance : Pt Tryz.prog 82 := ⟨_, Tryz.underlying82⟩
instance : Pt Tryz.prog 133 := ⟨_, Tryz.underlying133⟩
instance : Pt Tryz.prog 136 := ⟨_, Tryz.underlying136⟩
instance : Pt Tryz.prog 218 := ⟨_, Tryz.underlying218⟩
theorem vI : type_of% @Tryz.sizeOf124 := @Tryz.sizeOf124
theorem bI : type_of% @Tryz.sizeOf180 := @Tryz.sizeOf180
theorem cJ : type_of% @Tryz.sizeOf184 := @Tryz.sizeOf184
theorem qz2 : type_of% @Tryz.sizeOf2 := @Tryz.sizeOf2
theorem uC : type_of% @Tryz.sizeOf216 := @Tryz.sizeOf216
theorem qI : type_of% @Tryz.sizeOf23 := @Tryz.sizeOf23
theorem nF : type_of% @Tryz.sizeOf245 := @Tryz.sizeOf245
theorem y6 : type_of% @Tryz.sizeOf27 := @Tryz.sizeOf27
theorem zO : type_of% @Tryz.sizeOf281 := @Tryz.sizeOf281
theorem qz3 : type_of% @Tryz.sizeOf3 := @Tryz.sizeOf3
theorem f5 : type_of% @Tryz.sizeOf30 := @Tryz.sizeOf30
theorem jb3 : type_of% @Tryz.sizeOf31 := @Tryz.sizeOf31
theorem rJ : type_of% @Tryz.sizeOf313 := @Tryz.sizeOf313
theorem rS : type_of% @Tryz.sizeOf34 := @Tryz.sizeOf34
theorem nE : type_of% @Tryz.sizeOf354 := @Tryz.sizeOf354
theorem sM : type_of% @Tryz.sizeOf37 := @Tryz.sizeOf37
theorem nD : type_of% @Tryz.sizeOf409 := @Tryz.sizeOf409
theorem uK : type_of% @Tryz.sizeOf41 := @Tryz.sizeOf41
theorem qz5 : type_of% @Tryz.sizeOf5 := @Tryz.sizeOf5
theorem qz9 : type_of% @Tryz.sizeOf9 := @Tryz.sizeOf9
theorem f7 : type_of% @Tryz.underlying108 := @Tryz.underlying108
theorem bK : type_of% @Tryz.underlying124 := @Tryz.underlying124
theorem cG : type_of% @Tryz.underlying160 := @Tryz.underlying160
theorem je4 : type_of% @Tryz.underlying180 := @Tryz.underlying180
theorem jb4 : type_of% @Tryz.underlying184 := @Tryz.underlying184
theorem jaT : type_of% @Tryz.underlying196 := @Tryz.underlying196
theorem q2 : type_of% @Tryz.underlying2 := @Tryz.underlying2
theorem q21 : type_of% @Tryz.underlying21 := @Tryz.underlying21
theorem f6 : type_of% @Tryz.underlying216 := @Tryz.underlying216
theorem q23 : type_of% @Tryz.underlying23 := @Tryz.underlying23
theorem je3 : type_of% @Tryz.underlying245 := @Tryz.underlying245
theorem jc8 : type_of% @Tryz.underlying247 := @Tryz.underlying247
theorem nL : type_of% @Tryz.underlying267 := @Tryz.underlying267
theorem q27 : type_of% @Tryz.underlying27 := @Tryz.underlying27
theorem jc7 : type_of% @Tryz.underlying279 := @Tryz.underlying279
theorem sN : type_of% @Tryz.underlying281 := @Tryz.underlying281
theorem fR : type_of% @Tryz.underlying283 := @Tryz.underlying283
theorem fQ : type_of% @Tryz.underlying291 := @Tryz.underlying291
theorem nK : type_of% @Tryz.underlying294 := @Tryz.underlying294
theorem q3 : type_of% @Tryz.underlying3 := @Tryz.underlying3
theorem q30 : type_of% @Tryz.underlying30 := @Tryz.underlying30
theorem jgQ : type_of% @Tryz.underlying305 := @Tryz.underlying305
theorem jc6 : type_of% @Tryz.underlying308 := @Tryz.underlying308
theorem q31 : type_of% @Tryz.underlying31 := @Tryz.underlying31
theorem nJ : type_of% @Tryz.underlying311 := @Tryz.underlying311
theorem lF : type_of% @Tryz.underlying313 := @Tryz.underlying313
theorem q34 : type_of% @Tryz.underlying34 := @Tryz.underlying34
theorem jc5 : type_of% @Tryz.underlying354 := @Tryz.underlying354
theorem jgP : type_of% @Tryz.underlying357 := @Tryz.underlying357
theorem q37 : type_of% @Tryz.underlying37 := @Tryz.underlying37
theorem fP : type_of% @Tryz.underlying370 := @Tryz.underlying370
theorem q39 : type_of% @Tryz.underlying39 := @Tryz.underlying39
theorem q4 : type_of% @Tryz.underlying4 := @Tryz.underlying4
theorem jc4 : type_of% @Tryz.underlying409 := @Tryz.underlying409
theorem q41 : type_of% @Tryz.underlying41 := @Tryz.underlying41
theorem bJ : type_of% @Tryz.underlying428 := @Tryz.underlying428
theorem q5 : type_of% @Tryz.underlying5 := @Tryz.underlying5
theorem q55 : type_of% @Tryz.underlying55 := @Tryz.underlying55
theorem q57 : type_of% @Tryz.underlying57 := @Tryz.underlying57
theorem q60 : type_of% @Tryz.underlying60 := @Tryz.underlying60
theorem q74 : type_of% @Tryz.underlying74 := @Tryz.underlying74
theorem q9 : type_of% @Tryz.underlying9 := @Tryz.underlying9
theorem wR : type_of% @Tryz.zeroValue124 := @Tryz.zeroValue124
theorem jae : type_of% @Tryz.zeroValue180 := @Tryz.zeroValue180
theorem qv2 : type_of% @Tryz.zeroValue2 := @Tryz.zeroValue2
theorem fN : type_of% @Tryz.zeroValue216 := @Tryz.zeroValue216
theorem kL : type_of% @Tryz.zeroValue23 := @Tryz.zeroValue23
theorem qX : type_of% @Tryz.zeroValue27 := @Tryz.zeroValue27
theorem jad : type_of% @Tryz.zeroValue281 := @Tryz.zeroValue281
theorem qv3 : type_of% @Tryz.zeroValue3 := @Tryz.zeroValue3
theorem je1 : type_of% @Tryz.zeroValue31 := @Tryz.zeroValue31
theorem nI : type_of% @Tryz.zeroValue313 := @Tryz.zeroValue313
theorem nH : type_of% @Tryz.zeroValue34 := @Tryz.zeroValue34
theorem nG : type_of% @Tryz.zeroValue409 := @Tryz.zeroValue409
theorem zP : type_of% @Tryz.zeroValue41 := @Tryz.zeroValue41
theorem jac : type_of% @Tryz.zeroValue417 := @Tryz.zeroValue417
theorem qv5 : type_of% @Tryz.zeroValue5 := @Tryz.zeroValue5
theorem qv9 : type_of% @Tryz.zeroValue9 := @Tryz.zeroValue9
theorem zw0 {G G1 : Prop} (k : Hid G1) (h : Hid G1 → G := by
    (intro k
     first | refine j0 rfl ?_ | (refine yG rfl ?_; (first | refine jW (yP (b := true) rfl (beq_iff_eq.2 (by omega))) ?_ | refine jW (yP (b := false) rfl (beq_eq_false_iff_ne.2 (by omega))) ?_ | refine jW (jA rfl) ?_))
     exact k.h)) : G := h k
theorem zw1 {G G1 : Prop} (k : Hid G1) (h : Hid G1 → G := by
    (intro k
     first | refine jE (yP (b := true) rfl (decide_eq_true (by omega))) ?_ | refine jE (yP (b := false) rfl (decide_eq_false (by omega))) ?_ | refine jE (jA rfl) ?_
     exact k.h)) : G := h k
theorem zw2 {G G1 : Prop} (k : Hid G1) (h : Hid G1 → G := by
    (intro k
     first | refine jK rfl ?_ | (refine jQ rfl ?_; (first | refine jE (yP (b := true) rfl (decide_eq_true (by omega))) ?_ | refine jE (yP (b := false) rfl (decide_eq_false (by omega))) ?_ | refine jE (jA rfl) ?_))
     exact k.h)) : G := h k
theorem zw3 {G G1 : Prop} (k : Hid G1) (h : Hid G1 → G := by
    (intro k
     first | refine jW (yP (b := true) rfl (decide_eq_true (by omega))) ?_ | refine jW (yP (b := false) rfl (decide_eq_false (by omega))) ?_ | refine jW (jA rfl) ?_
     exact k.h)) : G := h k
theorem zw4 {G G1 : Prop} (k : Hid G1) (h : Hid G1 → G := by
    (intro k
     first | refine jK rfl ?_ | (refine jQ rfl ?_; (first | refine jE (yP (b := true) rfl (beq_iff_eq.2 (by omega))) ?_ | refine jE (yP (b := false) rfl (beq_eq_false_iff_ne.2 (by omega))) ?_ | refine jE (jA rfl) ?_))
     exact k.h)) : G := h k
theorem zw5 {G G1 : Prop} (k : Hid G1) (h : Hid G1 → G := by
    (intro k
     first | refine jE (yP (b := true) rfl (beq_iff_eq.2 (by omega))) ?_ | refine jE (yP (b := false) rfl (beq_eq_false_iff_ne.2 (by omega))) ?_ | refine jE (jA rfl) ?_
     exact k.h)) : G := h k
theorem zw6 {G G1 : Prop} (k : Hid G1) (h : Hid G1 → G := by
    (intro k
     first | refine jW (yP (b := true) rfl (beq_iff_eq.2 (by omega))) ?_ | refine jW (yP (b := false) rfl (beq_eq_false_iff_ne.2 (by omega))) ?_ | refine jW (jA rfl) ?_
     exact k.h)) : G := h k
theorem zw7 {G G1 : Prop} (k : Hid G1) (h : Hid G1 → G := by
    (intro k
     first | refine jE (yP (b := false) rfl (decide_eq_false (by omega))) ?_ | refine jE (yP (b := true) rfl (decide_eq_true (by omega))) ?_
     exact k.h)) : G := h k
theorem zw8 {G G1 : Prop} (k : Hid G1) (h : Hid G1 → G := by
    (intro k
     first | refine jK rfl ?_ | (refine jQ rfl ?_; first | refine jE (yP (b := false) rfl (decide_eq_false (by omega))) ?_ | refine jE (yP (b := true) rfl (decide_eq_true (by omega))) ?_)
     exact k.h)) : G := h k
end
section
open Go.RowKit
theorem jhB:(Tryz.prog.info? 21).map (fun i=>(i.zero,i.size,i.bytes))=some (some (.int .i32 0),1,4):=by kernel_rfl
theorem uY:(Tryz.prog.info? 2).map (fun i=>(i.zero,i.size,i.bytes))=some (some (ii 0),1,8):=by kernel_rfl
theorem xU:(Tryz.prog.info? 3).map (fun i=>(i.zero,i.size,i.bytes))=some (some (ii 0),1,8):=by kernel_rfl
theorem dE:(Tryz.prog.info? 23).map (fun i=>(i.zero,i.size,i.bytes))=some (some (.agg #[ii 0,ii 0]),2,16):=by kernel_rfl
theorem jhA:(Tryz.prog.info? 27).map (fun i=>(i.zero,i.size,i.bytes))=some (some (.agg #[ii 0,ii 0,ii 0,ii 0]),4,32):=by kernel_rfl
theorem d7:(Tryz.prog.info? 124).map (fun i=>(i.zero,i.size,i.bytes))=some (some (.agg #[ii 0,ii 0]),2,16):=by kernel_rfl
theorem jhx:(Tryz.prog.info? 44).map (fun i=>(i.zero,i.size,i.bytes))=some (some (.agg #[ii 0,ii 0,ii 0,ii 0,ii 0,ii 0,ii 0,ii 0]),8,64):=by kernel_rfl
theorem jas:(Tryz.prog.info? 133).map (fun i=>(i.zero,i.size,i.bytes))=some (some (.pointer none),1,8):=by kernel_rfl
theorem jft:(Tryz.prog.info? 281).map (fun i=>(i.zero,i.size,i.bytes))=some (some (.agg #[ii 0,ii 0]),2,16):=by kernel_rfl
theorem jar:(Tryz.prog.info? 313).map (fun i=>(i.zero,i.size,i.bytes))=some (some (.agg #[ii 0,.slice none 0 0]),2,32):=by kernel_rfl
def SpRow (w wq:World) (el k n:Nat) (xs:List Value) (v:Value):Prop:=∃ A,v=.slice A n n/\Row wq el k A n n xs/\xS w A
theorem SpRow.gr {w wq w':World} {el k n:Nat} {xs:List Value} {v:Value} (h:SpRow w wq el k n xs v) (g:Gr wq w'):SpRow w w' el k n xs v:=by
 obtain ⟨A,h1,h2,h3⟩:=h
 exact ⟨A,h1,h2.gr g,h3⟩
theorem jeD {P : Program} {e : Nat → Value} {w0 w : World} {d : Option Tmp} {ty : TypeId} {ps : String} {af : Array Edge} {t el : TypeId} {n k : Nat} {parts : List (Nat × Operand)} {z : Value} {l0 l : List Value} {R : Value → World → Prop}
    (hu : P.underlying t = some (.slice el)) (hs : ∀ w, (sizeOf el).run P w = .ok k w) (hz : ∀ w, (zeroValue el).run P w = .ok z w) (hk : z.cells.toList.length = k) (hk0 : Nat.beq (n * k) 0 = false) (hn : Nat.ble (n * k) 16777216 = true)
    (h1 : lay (fun i => some (i * k, k)) ((List.replicate n z.cells.toList).flatten) (evp e parts) = some l0) (h2 : fzl l0 = some l) (hl : Nat.beq l.length (n * k) = true) (g0 : Gr w0 w)
    (hr : ∀ v w', Gr w w' → SpRow w0 w' el k n l v → R v w') : qM P e ⟨d, .buildSlice t n parts.toArray, ty, ps, af, none⟩ w R := by
  refine lD (k8 hu hs hz hk hk0 hn h1 h2) (hr _ _ (Gr.alloc _ _) ?_)
  have hnk : n * k ≠ 0 := by intro h; rw [h] at hk0; cases hk0
  have hk1 : 0 < k := by rcases Nat.eq_zero_or_pos k with h | h; · rw [h] at hnk; simp at hnk
                         · exact h
  have hle : n ≤ n * k := Nat.le_mul_of_pos_right _ hk1
  exact ⟨_, rfl, Row.of_blk (Blk.new _ _ _) (Nat.eq_of_beq_eq_true hl) (by have := Nat.le_of_ble_eq_true hn; unfold maxLen; omega), fun g hg => by injection hg with hg; have := g0.le; dsimp at hg; omega⟩
theorem jgm (b:Nat) (v0 v1:Value) (A:Option Addr) (n c:Nat) (W:World) (hB:Blk W b 247 [v0,v1,.iface 428 (.slice A n c)]) :
  Fn Tryz.prog 265 [pt b] W (yK (.slice A n c) W):=by
 have S:=St.start W
 refine zn Tryz.func265 Tryz.results265 Tryz.ntmps265 ?_
 iterate 4 refine z ?_
 refine j3 (jB je3 rfl rfl (hB.gr S.out) rfl) ?_
 refine jE (gM bJ rfl rfl) ?_
 iterate 8 refine z ?_
 refine zq ?_
 exact yD rfl ⟨rfl,S.out⟩
theorem jbM (b sw sh:Nat) (x:Int) (hx:-2147483648<=x/\x<=2147483647) (hw:1<=sw/\sw<=16) (hh:1<=sh/\sh<=16) (W:World) (hB:Blk W b 247 [ii sw,ii sh,.iface 291 (.int .i32 x)]) :
  Fn Tryz.prog 265 [pt b] W (fun r w'=>∃ g,r=.slice (some ⟨g,0,none⟩) (sw * sh) (sw * sh)/\W.heap.size<=g /\
   Blk w' b 247 [ii sw,ii sh,.iface 428 (.slice (some ⟨g,0,none⟩) (sw * sh) (sw * sh))]/\Blk w' g 21 (List.replicate (sw * sh) (.int .i32 x))/\Fr (fun g=>g=b) W w'):=by
 have S:=St.start1 W (.blk b 247 [ii sw,ii sh,.iface 291 (.int .i32 x)]) hB
 have hm:1<=sw * sh/\sw * sh<=16 * 16:=⟨Nat.mul_le_mul hw.1 hh.1,Nat.mul_le_mul hw.2 hh.2⟩
 have hmi:(sw:Int) * sh=((sw * sh:Nat):Int):=by push_cast; rfl
 refine zn Tryz.func265 Tryz.results265 Tryz.ntmps265 ?_
 iterate 5 refine z ?_
 refine jE (g7 bJ rfl rfl rfl Tryz.zeroValue428) ?_
 iterate 6 refine z ?_
 refine zc ?_
 refine jM rfl ?_
 refine zc ?_
 refine j5 ?_
 try show CW _ _ _ _ _ _
 have hB:=S.blk (i:=0) rfl
 refine zc ?_
 refine qQ (C:=(fun σ wq=>Gr W wq/\(match σ with | []=>True | v::_=>SpRow W wq 21 1 1 [.int .i32 x] v))) [5] [0,1,2,3,4,6,7,8,9,10,11,12,13,14,5] [15,16] (by kernel_rfl) (by kernel_rfl) ⟨Gr.drew _,trivial⟩ ?_
 simp only [yT,j6,List.drop_succ_cons,List.drop_zero]
 refine jX rfl (jA rfl) ?_
 refine jX rfl (jA rfl) ?_
 refine jX rfl (jD jc8 rfl nF rfl rfl) ?_
 refine qF rfl (fun τ wq hq=>jB je3 rfl rfl ((S.gr hq.1).blk (i:=0) rfl) rfl) ?_
 refine jX rfl (cT fQ rfl rfl rfl) ?_
 refine jX rfl (jA rfl) ?_
 refine jX rfl (jA rfl) ?_
 refine jX rfl (jD jc8 rfl qz2 rfl rfl) ?_
 refine qF rfl (fun τ wq hq=>jB q2 rfl rfl ((S.gr hq.1).blk (i:=0) rfl) rfl) ?_
 refine jX rfl (jA rfl) ?_
 refine jX rfl (jA rfl) ?_
 refine jX rfl (jD jc8 rfl qz2 rfl rfl) ?_
 refine qF rfl (fun τ wq hq=>jB q2 rfl rfl ((S.gr hq.1).blk (i:=0) rfl) rfl) ?_
 refine jX rfl (yI rfl (by omega)) ?_
 refine jZ rfl rfl (fun wq hq=>jeD bJ Tryz.sizeOf21 Tryz.zeroValue21 rfl rfl rfl rfl rfl rfl hq.1 (fun v w' g h=>⟨hq.1.trans g,h⟩)) ?_
 rintro v5 w5 ⟨_,A5,rfl,_,_⟩
 refine yV ?_
 rintro w1_ ⟨g1_,hsp⟩
 have S:=S.gr g1_
 have hle:=S.le
 obtain ⟨A6,he6,hR6,hF6⟩:=hsp
 injection he6 with h61
 subst h61
 obtain ⟨g5,rfl,hB5⟩:=hR6.one
 refine jC rfl (jgH g5 (.int .i32 x) (sw * sh) (by omega) rfl _ hB5) ?_
 rintro _ w2_ ⟨g6,rfl,hge,hB6,g6'⟩
 have S:=S.push g6' (h:=.blk g6 21 _) hB6 (fun g hg=>by rw [hg]; exact hge)
 iterate 3 refine z ?_
 refine jE (qU bJ rfl rfl) ?_
 refine z ?_; refine z ?_
 refine j8 (i:=1) S rfl (nF _) rfl rfl rfl rfl rfl rfl ?_
 intro w3_ S
 refine z ?_; refine z ?_
 refine zq ?_
 exact yD rfl ⟨g6,rfl,by omega,S.blk (i:=1) rfl,S.blk (i:=0) rfl,S.fr⟩
theorem lI (A:Option Addr) (n c fid:Nat) (caps:List Value) (xs:List Int) (hn:n=xs.length) (hn1:n<=9223372036854775807) (p:Int->Bool) (W:World) (hA:Rd W A (xs.map (.int .i32)))
  (hf:∀ x ∈ xs,∀ w',Gr W w'->Fn Tryz.prog fid ([] ++ [.int .i32 x] ++ caps) w' (yK (.bool (p x)) w')) :
  Fn Tryz.prog 285 [.slice A n c,.func (.func fid) (([]:List Value).toArray) caps.toArray] W (fun v w'=>∃ r:Int,v=ii r/\Gr W w'/\(0<=r ↔ xs.any p=true)):=by
 subst hn
 have S:=St.start W
 refine zn Tryz.func285 Tryz.results285 Tryz.ntmps285 ?_
 iterate 4 refine z ?_
 refine zc ?_
 refine jS ?_
 refine zc ?_
 refine j9 (fun m e w=>∃ k:Nat,k+m=xs.length/\SL e [(0,.slice A xs.length c),(1,.func (.func fid) (([]:List Value).toArray) caps.toArray),(7,ii xs.length),(8,ii k)]/\(∀ i x,i < k->xs[i]?=some x->p x=false)/\St No W w []) xs.length
  ⟨0,by omega,⟨rfl,rfl,rfl,rfl,trivial⟩,fun i x hi=>by omega,S⟩ ?_
 rintro m e w ⟨k,hkm,hsl,hI,S⟩
 rw [hsl.fold]
 refine z ?_
 refine zk ?_ ?_
 ·intro hc
  obtain ⟨x,hx⟩:∃ x,xs[k]?=some x:=⟨xs[k],List.getElem?_eq_getElem (by omega)⟩
  have sa_A:yH A:=hA.someA (by simp; omega)
  have hx':(xs.map (Value.int .i32))[(k:Int).toNat * 1]?=some (.int .i32 x):=by simp [hx]
  (iterate 5 refine z ?_); refine zx ?_
  refine j3 (j7 q21 rfl rfl (hA.gr S.out) (by assumption)) ?_
  refine zJ rfl rfl (hf x (List.mem_of_getElem? hx) _ S.out) ?_
  rintro _ w1_ ⟨rfl,g1_⟩
  have S:=S.gr g1_
  refine zk ?_ ?_
  ·intro hp
   refine z ?_; refine z ?_
   refine zq ?_
   exact yD rfl ⟨_,rfl,S.out,by simp; exact ⟨x,List.mem_of_getElem? hx,hp⟩⟩
  ·intro hp
   refine zr ?_; refine z ?_
   refine ze ?_
   exact ⟨m - 1,by omega,k+1,by omega,⟨rfl,rfl,rfl,ie (by omega),trivial⟩,fun i y hi hy=>by
    by_cases hik:i=k
    ·subst hik; rw [hx] at hy; cases hy; exact hp
    ·exact hI i y (by omega) hy,S⟩
 ·intro hc
  refine zc ?_
  refine jY ?_
  repeat first | refine jP ?_ | refine jU ?_
  show CW _ _ _ _ _ _
  refine z ?_
  refine zq ?_
  refine yD rfl ⟨_,rfl,S.out,?_⟩
  simp only [List.any_eq_true]
  refine ⟨fun h=>by omega,fun ⟨x,hx,hp⟩=>?_⟩
  obtain ⟨i,hi,rfl⟩:=List.mem_iff_getElem.1 hx
  rw [hI i _ (by omega) (List.getElem?_eq_getElem hi)] at hp
  cases hp
theorem gT (A:Option Addr) (n c fid:Nat) (caps:List Value) (xs:List Int) (hn:n=xs.length) (hn1:n<=9223372036854775807) (p:Int->Bool) (W:World) (hA:Rd W A (xs.map (.int .i32)))
  (hf:∀ x ∈ xs,∀ w',Gr W w'->Fn Tryz.prog fid ([] ++ [.int .i32 x] ++ caps) w' (yK (.bool (p x)) w')) :
  Fn Tryz.prog 266 [.slice A n c,.func (.func fid) (([]:List Value).toArray) caps.toArray] W (yK (.bool (xs.any p)) W):=by
 have S:=St.start W
 refine zn Tryz.func266 Tryz.results266 Tryz.ntmps266 ?_
 iterate 3 refine z ?_
 refine jC rfl (lI A n c fid caps xs hn hn1 p _ (hA.gr S.out) (by intro x hx w' g; exact hf x hx w' (S.out.trans g))) ?_
 rintro _ w1_ ⟨r,rfl,g1_,hr⟩
 have S:=S.gr g1_
 refine z ?_; refine z ?_
 refine zq ?_
 exact yD rfl ⟨be (by rw [Bool.eq_iff_iff,<-hr]; simp),S.out⟩
theorem jer (C:Nat) (A:Option Addr) (n c:Nat) (x x0:Int) (xs:List Value) (hn:0 < n) (W:World) (hC:Blk W C 428 [.slice A n c]) (hA:Rd W A (.int .i32 x0::xs)) :
  Fn Tryz.prog 267 ([] ++ [.int .i32 x] ++ [pt C]) W (yK (.bool (x != x0)) W):=by
 have sa_A:yH A:=hA.someA (by simp)
 have S:=St.start W
 refine zn Tryz.func267 Tryz.results267 Tryz.ntmps267 ?_
 refine z ?_; refine z ?_
 refine j3 (jB bJ rfl rfl (hC.gr S.out) rfl) ?_
 refine zx ?_
 refine j3 (j7 q21 rfl rfl (hA.gr S.out) rfl) ?_
 refine z ?_; refine z ?_
 refine zq ?_
 exact yD rfl ⟨rfl,S.out⟩
def inR (sw:Nat) (x0 y0 x1 y1:Int) (i:Nat):Prop:=x0<=(i % sw:Nat)/\((i % sw:Nat):Int)<=x1/\y0<=(i / sw:Nat)/\((i / sw:Nat):Int)<=y1
instance (sw:Nat) (x0 y0 x1 y1:Int) (i:Nat):Decidable (inR sw x0 y0 x1 y1 i):=by unfold inR; infer_instance
def qH (sw:Nat) (x0 y0 x1 y1 v:Int) (c:Nat->Int):Nat->Int:=fun i=>if inR sw x0 y0 x1 y1 i then v else c i
def jev (W:World) (b:Nat) (R:Option Nat) (sw sh:Nat) (c:Nat->Int) (w':World):Prop:=∃ R',SlabIs w' b R' sw sh c/\Fr (fun g=>g=b\/R=some g) W w'/\∀ g,R'=some g->R=some g\/W.heap.size<=g
theorem SlabIs.mayC {w:World} {b:Nat} {R:Option Nat} {sw sh:Nat} {c:Nat->Int} (h:SlabIs w b R sw sh c) {x0 y0 x1 y1 v:Int} (hv:-2147483648<=v/\v<=2147483647):∀ i,i < sw * sh->-2147483648<=qH sw x0 y0 x1 y1 v c i/\qH sw x0 y0 x1 y1 v c i<=2147483647:=fun i hi=>by
 unfold qH
 split
 ·exact hv
 ·exact h.1 i hi
theorem qW {x0 y0 x1 y1 w h:Int} (hw:1<=w/\w<=1024) (hh:1<=h/\h<=1024) (hx:0<=x0/\x0<=x1/\x1 < w) (hy:0<=y0/\y0<=y1/\y1 < h):kD x0 y0 x1 y1 w h=0:=by
 have e1:yQ (w - 1) 1024=true:=by simp [yQ]; omega
 have e2:yQ (h - 1) 1024=true:=by simp [yQ]; omega
 have e3:yQ x0 w=true:=by simp [yQ]; omega
 have e4:yQ y0 h=true:=by simp [yQ]; omega
 have e5:yQ x1 w=true:=by simp [yQ]; omega
 have e6:yQ y1 h=true:=by simp [yQ]; omega
 have e7:¬ (x1 < x0\/y1 < y0):=by omega
 simp [kD,e1,e2,e3,e4,e5,e6]
 omega
theorem jgc {sw sh:Nat} {x0 y0 x1 y1:Int} (hx:0<=x0/\x0<=x1/\x1 < sw) (hy:0<=y0/\y0<=y1/\y1 < sh) (h:(x1 - x0+1) * (y1 - y0+1)=sw * sh):x0=0/\y0=0/\x1=sw - 1/\y1=sh - 1:=by
 have h1:(x1 - x0+1) * (y1 - y0+1)<=(x1 - x0+1) * sh:=Int.mul_le_mul_of_nonneg_left (by omega) (by omega)
 have h2:(x1 - x0+1) * sh<=sw * sh:=Int.mul_le_mul_of_nonneg_right (by omega) (by omega)
 have e2:(x1 - x0+1) * sh=sw * sh:=by omega
 have e1:(x1 - x0+1) * (y1 - y0+1)=(x1 - x0+1) * sh:=by omega
 have e3:x1 - x0+1=sw:=Int.eq_of_mul_eq_mul_right (by omega) e2
 have e4:y1 - y0+1=sh:=Int.eq_of_mul_eq_mul_left (by omega) e1
 clear h1 h2 e1 e2 h
 omega
theorem jhD {sw sh:Nat} {i:Nat} (hw:1<=sw) (hi:i < sw * sh) {x1 y1:Int} (hx:x1=sw - 1) (hy:y1=sh - 1):inR sw 0 0 x1 y1 i:=by
 have h1:i % sw < sw:=Nat.mod_lt _ (by omega)
 have h2:i / sw < sh:=Nat.div_lt_of_lt_mul hi
 unfold inR
 generalize i % sw=p at *
 generalize i / sw=q at *
 omega
theorem m0 {w:World} {b t el k n c:Nat} {l:List Value} {A:Option Addr} {xs:List Value} (hB:Blk w b t l) (hR:Row w el k A n c xs) (hne:t ≠ el):¬ kZ A b:=by
 intro ho
 rcases hR.form with ⟨rfl,_⟩ | ⟨g,l',rfl,hB',_⟩
 ·cases ho
 ·have:g=b:=by injection ho
  subst this
  exact hne (hB.inj hB').1
theorem jbP (b sw sh:Nat) (R:Option Nat) (c:Nat->Int) (x0 y0 x1 y1 v:Int) (hw:1<=sw/\sw<=16) (hh:1<=sh/\sh<=16) (hx:0<=x0/\x0<=x1/\x1 < sw) (hy:0<=y0/\y0<=y1/\y1 < sh) (hv:-2147483648<=v/\v<=2147483647) (cl:Value) (hcl:cl=.iface 291 (.int .i32 v) \/
  ((∃ u,cl=.iface 291 (.int .i32 u)/\u ≠ v)\/(∃ A n c,cl=.iface 428 (.slice A n c)))/\(x1 - x0+1) * (y1 - y0+1)=sw * sh) (W:World) (hB:Blk W b 247 [ii sw,ii sh,cl]) :
  Fn Tryz.prog 255 [pt b,.agg #[ii x0,ii y0,ii x1,ii y1],ii v] W
   (fun r w'=>r=ii 0/\Blk w' b 247 [ii sw,ii sh,.iface 291 (.int .i32 v)]/\Fr (fun g=>g=b) W w'):=by
 have hwi:kD x0 y0 x1 y1 sw sh=0:=qW (by omega) (by omega) (by omega) (by omega)
 have hm:sw * sh<=16 * 16:=Nat.mul_le_mul hw.2 hh.2
 have hmi:(sw:Int) * sh=((sw * sh:Nat):Int):=by push_cast; rfl
 have S:=St.start1 W (.blk b 247 [ii sw,ii sh,cl]) hB
 rcases hcl with rfl | ⟨⟨u,rfl,hne⟩ | ⟨A,n,cp,rfl⟩,har⟩
 ·skip
  refine zn Tryz.func255 Tryz.results255 Tryz.ntmps255 ?_
  refine zs ?_
  refine jF (jO rfl) S ?_
  intro b_rc w2_ g2_ S
  iterate 3 refine z ?_
  refine jC rfl (gJ b sw sh x0 y0 x1 y1 _ (by omega) (by omega) w2_ (S.blk (i:=1) rfl)) ?_
  rintro _ w3_ ⟨rfl,g3_⟩
  have S:=S.gr g3_
  refine z ?_; refine z ?_; refine zf ?_
  refine zc ?_
  refine jM (by rw [hwi]; rfl) ?_
  refine z ?_
  refine jC rfl (jco _ w3_) ?_
  rintro _ w4_ ⟨rfl,g4_⟩
  have S:=S.gr g4_
  refine z ?_
  refine zc ?_
  refine jM (by rw [(gO v).2 hv]; rfl) ?_
  iterate 4 refine z ?_
  refine jE (gM fQ rfl rfl) ?_
  iterate 5 refine z ?_
  refine zc ?_
  refine yB (C:=fun wq=>Gr w4_ wq) [0,1,2,3,4,5,6,7,8,9,10,11,12,13,14,15,16,17,18,19,20] [] (by kernel_rfl) (by kernel_rfl) (Gr.drew _) ?_
  simp only [j6,List.drop_succ_cons,List.drop_zero]
  iterate 4 refine y ?_
  first | refine j0 rfl ?_ | (refine yG rfl ?_; refine jW (yR q2 fQ rfl (fE _ hv)) ?_)
  refine zw0 ⟨?_⟩
  refine y ?_; refine y ?_
  first | refine j0 rfl ?_ | (refine yG rfl ?_; refine jV (fun wq hq=>jT q27 rfl (y6 _) rfl ((S.gr hq).blk (i:=0) rfl) rfl rfl) ?_)
  first | refine j0 rfl ?_ | (refine yG rfl ?_; refine y8 rfl (fun wq hq=>(fK _ _ _ _ (by omega) wq).mono (fun _ _ ⟨hv,hg⟩=>⟨hv,hq.trans hg⟩)) ?_)
  first | refine j0 rfl ?_ | (refine yG rfl ?_; refine jW (jA rfl) ?_)
  first | refine j0 rfl ?_ | (refine yG rfl ?_; refine jW (jA rfl) ?_)
  first | refine j0 rfl ?_ | (refine yG rfl ?_; refine jW (jD jc8 rfl qz2 rfl rfl) ?_)
  first | refine j0 rfl ?_ | (refine yG rfl ?_; refine jV (fun wq hq=>jB q2 rfl rfl ((S.gr hq).blk (i:=1) rfl) rfl) ?_)
  first | refine j0 rfl ?_ | (refine yG rfl ?_; refine jW (jA rfl) ?_)
  first | refine j0 rfl ?_ | (refine yG rfl ?_; refine jW (jA rfl) ?_)
  first | refine j0 rfl ?_ | (refine yG rfl ?_; refine jW (jD jc8 rfl qz2 rfl rfl) ?_)
  first | refine j0 rfl ?_ | (refine yG rfl ?_; refine jV (fun wq hq=>jB q2 rfl rfl ((S.gr hq).blk (i:=1) rfl) rfl) ?_)
  refine yr ?_
  refine zw0 ⟨?_⟩
  refine y ?_
  refine yJ ?_
  intro w5_ g5_
  have S:=S.gr g5_
  refine z ?_; refine z ?_
  refine jE (yR q2 fQ rfl (fE _ hv)) ?_
  refine jE (qU fQ rfl rfl) ?_
  refine z ?_; refine z ?_
  refine j8 (i:=1) S rfl (nF _) rfl rfl rfl rfl rfl rfl ?_
  intro w6_ S
  refine z ?_
  refine zq ?_
  exact yD rfl ⟨rfl,S.blk (i:=1) rfl,S.fr⟩
 ·skip
  refine zn Tryz.func255 Tryz.results255 Tryz.ntmps255 ?_
  refine zs ?_
  refine jF (jO rfl) S ?_
  intro b_rc w2_ g2_ S
  iterate 3 refine z ?_
  refine jC rfl (gJ b sw sh x0 y0 x1 y1 _ (by omega) (by omega) w2_ (S.blk (i:=1) rfl)) ?_
  rintro _ w3_ ⟨rfl,g3_⟩
  have S:=S.gr g3_
  refine z ?_; refine z ?_; refine zf ?_
  refine zc ?_
  refine jM (by rw [hwi]; rfl) ?_
  refine z ?_
  refine jC rfl (jco _ w3_) ?_
  rintro _ w4_ ⟨rfl,g4_⟩
  have S:=S.gr g4_
  refine z ?_
  refine zc ?_
  refine jM (by rw [(gO v).2 hv]; rfl) ?_
  iterate 4 refine z ?_
  refine jE (gM fQ rfl rfl) ?_
  iterate 5 refine z ?_
  refine zc ?_
  refine yB (C:=fun wq=>Gr w4_ wq) [0,1,2,3,4,5,6,7,8,9,10,11,12,13,14,15,16,17,18,19,20] [] (by kernel_rfl) (by kernel_rfl) (Gr.drew _) ?_
  simp only [j6,List.drop_succ_cons,List.drop_zero]
  iterate 4 refine y ?_
  first | refine j0 rfl ?_ | (refine yG rfl ?_; refine jW (yR q2 fQ rfl (fE _ hv)) ?_)
  refine zw0 ⟨?_⟩
  refine y ?_; refine y ?_
  first | refine j0 rfl ?_ | (refine yG rfl ?_; refine jV (fun wq hq=>jT q27 rfl (y6 _) rfl ((S.gr hq).blk (i:=0) rfl) rfl rfl) ?_)
  first | refine j0 rfl ?_ | (refine yG rfl ?_; refine y8 rfl (fun wq hq=>(fK _ _ _ _ (by omega) wq).mono (fun _ _ ⟨hv,hg⟩=>⟨hv,hq.trans hg⟩)) ?_)
  iterate 3 refine y ?_
  first | refine j0 rfl ?_ | (refine yG rfl ?_; refine jV (fun wq hq=>jB q2 rfl rfl ((S.gr hq).blk (i:=1) rfl) rfl) ?_)
  iterate 3 refine y ?_
  first | refine j0 rfl ?_ | (refine yG rfl ?_; refine jV (fun wq hq=>jB q2 rfl rfl ((S.gr hq).blk (i:=1) rfl) rfl) ?_)
  refine yr ?_
  refine zw0 ⟨?_⟩
  refine y ?_
  refine yJ ?_
  intro w5_ g5_
  have S:=S.gr g5_
  refine z ?_; refine z ?_
  refine jE (yR q2 fQ rfl (fE _ hv)) ?_
  refine jE (qU fQ rfl rfl) ?_
  refine z ?_; refine z ?_
  refine j8 (i:=1) S rfl (nF _) rfl rfl rfl rfl rfl rfl ?_
  intro w6_ S
  refine z ?_
  refine zq ?_
  exact yD rfl ⟨rfl,S.blk (i:=1) rfl,S.fr⟩
 ·skip
  refine zn Tryz.func255 Tryz.results255 Tryz.ntmps255 ?_
  refine zs ?_
  refine jF (jO rfl) S ?_
  intro b_rc w2_ g2_ S
  iterate 3 refine z ?_
  refine jC rfl (gJ b sw sh x0 y0 x1 y1 _ (by omega) (by omega) w2_ (S.blk (i:=1) rfl)) ?_
  rintro _ w3_ ⟨rfl,g3_⟩
  have S:=S.gr g3_
  refine z ?_; refine z ?_; refine zf ?_
  refine zc ?_
  refine jM (by rw [hwi]; rfl) ?_
  refine z ?_
  refine jC rfl (jco _ w3_) ?_
  rintro _ w4_ ⟨rfl,g4_⟩
  have S:=S.gr g4_
  refine z ?_
  refine zc ?_
  refine jM (by rw [(gO v).2 hv]; rfl) ?_
  iterate 4 refine z ?_
  refine jE (g7 fQ rfl rfl rfl Tryz.zeroValue291) ?_
  iterate 5 refine z ?_
  refine zc ?_
  refine yB (C:=fun wq=>Gr w4_ wq) [0,1,2,3,4,5,6,7,8,9,10,11,12,13,14,15,16,17,18,19,20] [] (by kernel_rfl) (by kernel_rfl) (Gr.drew _) ?_
  simp only [j6,List.drop_succ_cons,List.drop_zero]
  iterate 2 refine jW (jA rfl) ?_
  first | refine j0 rfl ?_ | (refine yG rfl ?_; refine jW (jA rfl) ?_)
  first | refine j0 rfl ?_ | (refine yG rfl ?_; refine jW (jA rfl) ?_)
  first | refine j0 rfl ?_ | (refine yG rfl ?_; refine jW (yR q2 fQ rfl (IntWalk.i64_in _ (by omega))) ?_)
  refine zw0 ⟨?_⟩
  refine y ?_; refine y ?_
  first | refine j0 rfl ?_ | (refine yG rfl ?_; refine jV (fun wq hq=>jT q27 rfl (y6 _) rfl ((S.gr hq).blk (i:=0) rfl) rfl rfl) ?_)
  first | refine j0 rfl ?_ | (refine yG rfl ?_; refine y8 rfl (fun wq hq=>(fK _ _ _ _ (by omega) wq).mono (fun _ _ ⟨hv,hg⟩=>⟨hv,hq.trans hg⟩)) ?_)
  iterate 3 refine y ?_
  first | refine j0 rfl ?_ | (refine yG rfl ?_; refine jV (fun wq hq=>jB q2 rfl rfl ((S.gr hq).blk (i:=1) rfl) rfl) ?_)
  iterate 3 refine y ?_
  first | refine j0 rfl ?_ | (refine yG rfl ?_; refine jV (fun wq hq=>jB q2 rfl rfl ((S.gr hq).blk (i:=1) rfl) rfl) ?_)
  refine yr ?_
  refine zw0 ⟨?_⟩
  refine y ?_
  refine yJ ?_
  intro w5_ g5_
  have S:=S.gr g5_
  refine z ?_; refine z ?_
  refine jE (yR q2 fQ rfl (fE _ hv)) ?_
  refine jE (qU fQ rfl rfl) ?_
  refine z ?_; refine z ?_
  refine j8 (i:=1) S rfl (nF _) rfl rfl rfl rfl rfl rfl ?_
  intro w6_ S
  refine z ?_
  refine zq ?_
  exact yD rfl ⟨rfl,S.blk (i:=1) rfl,S.fr⟩
theorem rN {sw:Nat} {x0 y0 x1 y1 v:Int} {c:Nat->Int} (h:x1 < x0\/y1 < y0) (i:Nat):qH sw x0 y0 x1 y1 v c i=c i:=by
 unfold qH; rw [if_neg]; unfold inR; omega
theorem jfI {sw:Nat} {x0 y0 x1 Y v:Int} {c:Nat->Int} (hy:y0<=Y) (i:Nat):qH sw x0 Y x1 Y v (qH sw x0 y0 x1 (Y - 1) v c) i=qH sw x0 y0 x1 Y v c i:=by
 have key:inR sw x0 y0 x1 Y i ↔ inR sw x0 Y x1 Y i\/inR sw x0 y0 x1 (Y - 1) i:=by
  unfold inR
  generalize ((i % sw:Nat):Int)=p
  generalize ((i / sw:Nat):Int)=q
  omega
 unfold qH
 by_cases h1:inR sw x0 Y x1 Y i
 ·rw [if_pos h1,if_pos (key.2 (.inl h1))]
 ·rw [if_neg h1]
  by_cases h2:inR sw x0 y0 x1 (Y - 1) i
  ·rw [if_pos h2,if_pos (key.2 (.inr h2))]
  ·rw [if_neg h2,if_neg (fun h=>(key.1 h).elim h1 h2)]
theorem jeK {sw:Nat} {X Y:Int} (hX:0<=X/\X < sw) (hY:0<=Y) (i:Nat):((i % sw:Nat):Int)=X/\((i / sw:Nat):Int)=Y ↔ i=(Y * sw+X).toNat:=by
 obtain ⟨a,rfl⟩:=Int.eq_ofNat_of_zero_le hX.1
 obtain ⟨b,rfl⟩:=Int.eq_ofNat_of_zero_le hY
 have h1:((b:Int) * sw+a).toNat=b * sw+a:=by
  have:((b:Int) * sw+a)=((b * sw+a:Nat):Int):=by push_cast; rfl
  rw [this]; exact Int.toNat_natCast _
 have ha:a < sw:=by omega
 rw [h1]
 constructor
 ·rintro ⟨h2,h3⟩
  have h2:i % sw=a:=by exact_mod_cast h2
  have h3:i / sw=b:=by exact_mod_cast h3
  have:=Nat.div_add_mod i sw
  rw [h2,h3,Nat.mul_comm] at this
  exact this.symm
 ·rintro rfl
  constructor
  ·rw [Nat.mul_add_mod_self_right,Nat.mod_eq_of_lt ha]
  ·rw [Nat.add_comm,Nat.add_mul_div_right _ _ (by omega),Nat.div_eq_of_lt ha,Nat.zero_add]
theorem jdF {sw:Nat} {x0 X Y v:Int} {c:Nat->Int} (hX:0<=X/\X < sw) (hx:x0<=X) (hY:0<=Y) (i:Nat):qH sw x0 Y X Y v c i=if i=(Y * sw+X).toNat then v else qH sw x0 Y (X - 1) Y v c i:=by
 have hs:=jeK hX hY i
 have key:inR sw x0 Y X Y i ↔ i=(Y * sw+X).toNat\/inR sw x0 Y (X - 1) Y i:=by
  rw [<-hs]
  unfold inR
  generalize ((i % sw:Nat):Int)=p
  generalize ((i / sw:Nat):Int)=q
  omega
 unfold qH
 by_cases h1:i=(Y * sw+X).toNat
 ·rw [if_pos h1,if_pos (key.2 (.inl h1))]
 ·rw [if_neg h1]
  by_cases h2:inR sw x0 Y (X - 1) Y i
  ·rw [if_pos h2,if_pos (key.2 (.inr h2))]
  ·rw [if_neg h2,if_neg (fun h=>(key.1 h).elim h1 h2)]
end
section
open Go.RowKit
theorem jkg {g a j:Nat} (h:a=j):Value.pointer (some ⟨g,a,none⟩)=.pointer (at_ (some ⟨g,0,none⟩) j):=by rw [h,sA,Nat.zero_add]
theorem jfl {sw sh:Nat} {Y:Int} (h0:0<=Y) (h1:Y < sh):0<=Y * sw/\Y * sw+sw<=((sw * sh:Nat):Int)/\(Y+1) * sw=Y * sw+sw:=by
 obtain ⟨b,rfl⟩:=Int.eq_ofNat_of_zero_le h0
 have h2:(b+1) * sw<=sh * sw:=Nat.mul_le_mul_right _ (by omega)
 rw [Nat.succ_mul,Nat.mul_comm sh sw] at h2
 refine ⟨Int.mul_nonneg (by omega) (by omega),?_,by rw [Int.add_mul,Int.one_mul]⟩
 exact_mod_cast h2
theorem jaN (b sw sh:Nat) (R:Option Nat) (c:Nat->Int) (x0 y0 x1 y1 v:Int) (hw:1<=sw/\sw<=16) (hh:1<=sh/\sh<=16) (hx:0<=x0/\x0<=x1/\x1 < sw) (hy:0<=y0/\y0<=y1/\y1 < sh) (hv:-2147483648<=v/\v<=2147483647)
  (har:(x1 - x0+1) * (y1 - y0+1) ≠ sw * sh) (W:World) (hS:SlabIs W b R sw sh c) (hfl:R=none->∀ u,Blk W b 247 [ii sw,ii sh,.iface 291 (.int .i32 u)]->u ≠ v) :
  Fn Tryz.prog 255 [pt b,.agg #[ii x0,ii y0,ii x1,ii y1],ii v] W
   (fun r w'=>r=ii 0/\jev W b R sw sh (qH sw x0 y0 x1 y1 v c) w'):=by
 have hwi:kD x0 y0 x1 y1 sw sh=0:=qW (by omega) (by omega) (by omega) (by omega)
 have hm:1<=sw * sh/\sw * sh<=16 * 16:=⟨Nat.mul_le_mul hw.1 hh.1,Nat.mul_le_mul hw.2 hh.2⟩
 have hmi:(sw:Int) * sh=((sw * sh:Nat):Int):=by push_cast; rfl
 have hmay:=hS.mayC (x0:=x0) (y0:=y0) (x1:=x1) (y1:=y1) hv
 have hmay0:=hS.1
 rw [hmi] at har
 have S:=St.start W
 refine zn Tryz.func255 Tryz.results255 Tryz.ntmps255 ?_
 obtain ⟨cl,hB⟩:∃ cl,Blk W b 247 [ii sw,ii sh,cl]:=by
  obtain ⟨_,h⟩:=hS
  cases R with
  | none=>obtain ⟨u,h,_⟩:=h; exact ⟨_,h⟩
  | some g=>obtain ⟨cap,h,_⟩:=h; exact ⟨_,h⟩
 refine zs ?_
 refine jF (jO rfl) S ?_
 intro b_rc w2_ g2_ S
 iterate 3 refine z ?_
 refine jC rfl (gJ b sw sh x0 y0 x1 y1 _ (by omega) (by omega) w2_ (hB.gr S.out)) ?_
 rintro _ w3_ ⟨rfl,g3_⟩
 have S:=S.gr g3_
 refine z ?_; refine z ?_; refine zf ?_
 refine zc ?_
 refine jM (by rw [hwi]; rfl) ?_
 refine z ?_
 refine jC rfl (jco _ w3_) ?_
 rintro _ w4_ ⟨rfl,g4_⟩
 have S:=S.gr g4_
 refine z ?_
 refine zc ?_
 refine jM (by rw [(gO v).2 hv]; rfl) ?_
 refine zc ?_
 refine j5 ?_
 try show CW _ _ _ _ _ _
 refine zc ?_
 refine qL (M:=fun e w=>∃ (u:Int) (ok:Bool),SL e [(0,pt b),(2,ii v),(4,pt b_rc),(8,.int .i32 u),(9,.bool ok)]/\(ok=true->u ≠ v)/\St No W w [.blk b_rc 27 [ii x0,ii y0,ii x1,ii y1]]) ?_ ?_
 ·cases R with
  | none =>
   obtain ⟨_,u,hB',_⟩:=hS
   obtain rfl:cl=.iface 291 (.int .i32 u):=by have:=(hB.inj hB').2; simpa using this
   iterate 3 refine z ?_
   refine j3 (jB je3 rfl rfl (hB.gr S.out) rfl) ?_
   refine jE (gM fQ rfl rfl) ?_
   iterate 5 refine z ?_
   refine ze ?_
   exact ⟨u,true,⟨rfl,rfl,rfl,rfl,rfl,trivial⟩,fun _=>hfl rfl u hB',S⟩
  | some g =>
   obtain ⟨_,cap,hB',_⟩:=hS
   obtain rfl:=(by have:=(hB.inj hB').2; simpa using this:cl=.iface 428 (.slice (some ⟨g,0,none⟩) (sw * sh) cap))
   iterate 3 refine z ?_
   refine j3 (jB je3 rfl rfl (hB.gr S.out) rfl) ?_
   refine jE (g7 fQ rfl rfl rfl Tryz.zeroValue291) ?_
   iterate 5 refine z ?_
   refine ze ?_
   exact ⟨0,false,⟨rfl,rfl,rfl,rfl,rfl,trivial⟩,(fun h=>by cases h),S⟩
 ·rintro e1 w1 ⟨u,ok,hsl,hok,S⟩
  rw [hsl.fold]
  refine zc ?_
  refine qL (M:=fun e w=>SL e [(0,pt b),(2,ii v),(4,pt b_rc),(51,.bool false)]/\St No W w [.blk b_rc 27 [ii x0,ii y0,ii x1,ii y1]]) ?_ ?_
  ·rcases ok with _ | _
   ·skip
    refine zc ?_
    refine yB (C:=fun wq=>Gr w1 wq) [0,1,2,3,4,5,6,7,8,9,10,11,12,13,14,15,16,17,18,19,20] [] (by kernel_rfl) (by kernel_rfl) (Gr.drew _) ?_
    simp only [j6,List.drop_succ_cons,List.drop_zero]
    iterate 2 refine jW (jA rfl) ?_
    first | refine j0 rfl ?_ | (refine yG rfl ?_; refine jW (jA rfl) ?_)
    first | refine j0 rfl ?_ | (refine yG rfl ?_; refine jW (jA rfl) ?_)
    first | refine j0 rfl ?_ | (refine yG rfl ?_; refine jW (yR q2 fQ rfl (fE _ hv)) ?_)
    refine zw0 ⟨?_⟩
    refine y ?_; refine y ?_
    first | refine j0 rfl ?_ | (refine yG rfl ?_; refine jV (fun wq hq=>jT q27 rfl (y6 _) rfl ((S.gr hq).blk (i:=0) rfl) rfl rfl) ?_)
    first | refine j0 rfl ?_ | (refine yG rfl ?_; refine y8 rfl (fun wq hq=>(fK _ _ _ _ (by omega) wq).mono (fun _ _ ⟨hv,hg⟩=>⟨hv,hq.trans hg⟩)) ?_)
    iterate 3 refine y ?_
    first | refine j0 rfl ?_ | (refine yG rfl ?_; refine jV (fun wq hq=>jB q2 rfl rfl (hB.gr (S.gr hq).out) rfl) ?_)
    iterate 3 refine y ?_
    first | refine j0 rfl ?_ | (refine yG rfl ?_; refine jV (fun wq hq=>jB q2 rfl rfl (hB.gr (S.gr hq).out) rfl) ?_)
    refine yr ?_
    refine zw0 ⟨?_⟩
    refine y ?_
    refine yJ ?_
    intro w5_ g5_
    have S:=S.gr g5_
    refine ze ?_
    exact ⟨⟨rfl,rfl,rfl,rfl,trivial⟩,S⟩
   ·have hok:=hok rfl
    refine zc ?_
    refine yB (C:=fun wq=>Gr w1 wq) [0,1,2,3,4,5,6,7,8,9,10,11,12,13,14,15,16,17,18,19,20] [] (by kernel_rfl) (by kernel_rfl) (Gr.drew _) ?_
    simp only [j6,List.drop_succ_cons,List.drop_zero]
    iterate 4 refine y ?_
    first | refine j0 rfl ?_ | (refine yG rfl ?_; refine jW (yR q2 fQ rfl (fE _ hv)) ?_)
    refine zw0 ⟨?_⟩
    refine y ?_; refine y ?_
    first | refine j0 rfl ?_ | (refine yG rfl ?_; refine jV (fun wq hq=>jT q27 rfl (y6 _) rfl ((S.gr hq).blk (i:=0) rfl) rfl rfl) ?_)
    first | refine j0 rfl ?_ | (refine yG rfl ?_; refine y8 rfl (fun wq hq=>(fK _ _ _ _ (by omega) wq).mono (fun _ _ ⟨hv,hg⟩=>⟨hv,hq.trans hg⟩)) ?_)
    iterate 3 refine y ?_
    first | refine j0 rfl ?_ | (refine yG rfl ?_; refine jV (fun wq hq=>jB q2 rfl rfl (hB.gr (S.gr hq).out) rfl) ?_)
    iterate 3 refine y ?_
    first | refine j0 rfl ?_ | (refine yG rfl ?_; refine jV (fun wq hq=>jB q2 rfl rfl (hB.gr (S.gr hq).out) rfl) ?_)
    refine yr ?_
    refine zw0 ⟨?_⟩
    refine y ?_
    refine yJ ?_
    intro w6_ g6_
    have S:=S.gr g6_
    refine ze ?_
    exact ⟨⟨rfl,rfl,rfl,rfl,trivial⟩,S⟩
  ·rintro e2 w2 ⟨hsl,S⟩
   have hle2:=S.le
   rw [hsl.fold]
   refine zc ?_
   refine jM rfl ?_
   refine zc ?_
   refine j5 ?_
   try show CW _ _ _ _ _ _
   refine zc ?_
   refine qL (M:=fun e w=>∃ (g cap C:Nat),SL e [(0,pt b),(2,ii v),(4,pt b_rc),(10,pt C)]/\(R=some g\/W.heap.size<=g)/\St (fun g=>g=b\/R=some g) W w [.blk C 428 [.slice (some ⟨g,0,none⟩) (sw * sh) cap],.row 21 1 (some ⟨g,0,none⟩) (sw * sh) cap (kA (sw * sh) c),.blk b 247 [ii sw,ii sh,.iface 428 (.slice (some ⟨g,0,none⟩) (sw * sh) cap)],.blk b_rc 27 [ii x0,ii y0,ii x1,ii y1]]) ?_ ?_
   ·cases R with
    | none =>
     obtain ⟨_,x,hB',hxr,hcx⟩:=hS
     have S:=(S.own1 (.blk b 247 [ii sw,ii sh,.iface 291 (.int .i32 x)]) hB').frw (F':=fun g=>g=b\/none=some g) (fun g h=>.inl h)
     refine z ?_
     refine jC rfl (jbM b sw sh x hxr hw hh w2 (S.blk (i:=0) rfl)) ?_
     rintro _ w7_ ⟨g,rfl,hge,hB2,hR2,hF2⟩
     have S:=S.setPush (i:=0) (h':=.blk b 247 _) (h2:=.row 21 1 (some ⟨g,0,none⟩) (sw * sh) (sw * sh) (kA (sw * sh) c)) rfl rfl hF2 (fun g h=>.inl h) hB2 (fun g h=>.inl h) ((Row.of_blk hR2 (by simp) (by unfold maxLen; omega)).congr (jbw hcx).symm) (fun b' hb'=>by have:=rZ hb'; omega) (fun b' hb' hb2=>by have:=rZ hb'; have h3:=hB'.lt; have:b'=b:=hb2; omega)
     refine jF (jL Tryz.zeroValue428 rfl) S ?_
     intro b_C w9_ g9_ S
     refine j8 (i:=0) S rfl (Tryz.sizeOf428 _) rfl rfl rfl rfl rfl rfl ?_
     intro w10_ S
     refine ze ?_
     exact ⟨g,_,_,⟨rfl,rfl,rfl,rfl,trivial⟩,.inr (by omega),S⟩
    | some g =>
     obtain ⟨_,cap,hB',hR'⟩:=hS
     have S:=(S.own2 (.row 21 1 (some ⟨g,0,none⟩) (sw * sh) cap (kA (sw * sh) c)) (.blk b 247 [ii sw,ii sh,.iface 428 (.slice (some ⟨g,0,none⟩) (sw * sh) cap)]) hR' hB'
      (fun g' h1 h2=>m0 hB' hR' (by decide) (by have:g'=b:=h2; rw [<-this]; exact h1))).frw (F':=fun g'=>g'=b\/some g=some g') (fun g' h=>h.elim (fun e=>.inr e) .inl)
     refine z ?_
     refine jC rfl (jgm b _ _ _ _ _ w2 (S.blk (i:=1) rfl)) ?_
     rintro _ w11_ ⟨rfl,g11_⟩
     have S:=S.gr g11_
     refine jF (jL Tryz.zeroValue428 rfl) S ?_
     intro b_C w13_ g13_ S
     refine j8 (i:=0) S rfl (Tryz.sizeOf428 _) rfl rfl rfl rfl rfl rfl ?_
     intro w14_ S
     refine ze ?_
     exact ⟨g,_,_,⟨rfl,rfl,rfl,rfl,trivial⟩,.inl rfl,S⟩
   ·rintro e3 w3 ⟨g,cap,C,hsl,hg,S⟩
    rw [hsl.fold]
    have hcap:=(S.row (i:=1) rfl).cap
    have sa_Rr:yH (some ⟨g,0,none⟩):=uB _ _
    iterate 3 refine z ?_
    refine zc ?_
    refine jS ?_
    refine zc ?_
    refine j9 (fun m e w=>∃ Y:Int,y0<=Y/\Y+m=y1+1/\SL e [(0,pt b),(2,ii v),(4,pt b_rc),(10,pt C),(11,ii Y)]/\St (fun g=>g=b\/R=some g) W w [.blk C 428 [.slice (some ⟨g,0,none⟩) (sw * sh) cap],.row 21 1 (some ⟨g,0,none⟩) (sw * sh) cap (kA (sw * sh) (qH sw x0 y0 x1 (Y - 1) v c)),.blk b 247 [ii sw,ii sh,.iface 428 (.slice (some ⟨g,0,none⟩) (sw * sh) cap)],.blk b_rc 27 [ii x0,ii y0,ii x1,ii y1]]) (y1+1 - y0).toNat
     ⟨y0,by omega,by omega,⟨rfl,rfl,rfl,rfl,rfl,trivial⟩,by rw [xV (c':=c) (fun i _=>rN (by omega) i)]; exact S⟩ ?_
    rintro m e w ⟨Y,hY0,hY1,hsl,S⟩
    rw [hsl.fold]
    iterate 4 refine z ?_
    refine zk ?_ ?_
    ·intro hc
     have hb:=jfl (sw:=sw) (sh:=sh) (Y:=Y) (by omega) (by omega)
     refine zc ?_
     refine j5 ?_
     try show CW _ _ _ _ _ _
     refine zc ?_
     refine jS ?_
     refine zc ?_
     refine yB (C:=fun wq=>Gr w wq) [0,1,2,3,4,5,6,7,8,9,10,11,12,13,14,15] [] (by kernel_rfl) (by kernel_rfl) (Gr.drew _) ?_
     simp only [j6,List.drop_succ_cons,List.drop_zero]
     refine jV (fun wq hq=>jB bJ rfl rfl ((S.gr hq).blk (i:=0) rfl) rfl) ?_
     iterate 4 refine y ?_
     refine jV (fun wq hq=>jB q2 rfl rfl ((S.gr hq).blk (i:=2) rfl) rfl) ?_
     refine yr ?_; refine y ?_; refine yr ?_; iterate 3 refine y ?_
     refine jV (fun wq hq=>jB q2 rfl rfl ((S.gr hq).blk (i:=2) rfl) rfl) ?_
     refine yr ?_
     refine jW (jck bJ Tryz.sizeOf21 rfl rfl rfl (by omega) (by omega) (by omega) (by omega)) ?_
     refine y ?_
     refine yJ ?_
     intro w15_ g15_
     have S:=S.gr g15_
     iterate 3 refine z ?_
     refine zc ?_
     refine jS ?_
     refine zc ?_
     refine j9 (fun m e w=>∃ X:Int,x0<=X/\X+m=x1+1/\SL e [(0,pt b),(2,ii v),(4,pt b_rc),(10,pt C),(11,ii Y),(12,.slice (some ⟨g,0+(Y * sw).toNat * 1,none⟩) (((Y+1) * sw).toNat - (Y * sw).toNat) (cap - (Y * sw).toNat)),(13,ii X)]/\St (fun g=>g=b\/R=some g) W w [.blk C 428 [.slice (some ⟨g,0,none⟩) (sw * sh) cap],.row 21 1 (some ⟨g,0,none⟩) (sw * sh) cap (kA (sw * sh) (qH sw x0 Y (X - 1) Y v (qH sw x0 y0 x1 (Y - 1) v c))),.blk b 247 [ii sw,ii sh,.iface 428 (.slice (some ⟨g,0,none⟩) (sw * sh) cap)],.blk b_rc 27 [ii x0,ii y0,ii x1,ii y1]]) (x1+1 - x0).toNat
      ⟨x0,by omega,by omega,⟨rfl,rfl,rfl,rfl,rfl,rfl,rfl,trivial⟩,by rw [xV (fun i _=>rN (c:=qH sw x0 y0 x1 (Y - 1) v c) (by omega) i)]; exact S⟩ ?_
     rintro m' e w ⟨X,hX0,hX1,hsl,S⟩
     rw [hsl.fold]
     iterate 4 refine z ?_
     refine zc ?_
     refine xI rfl (fun hc'=>?_) (fun hc'=>?_)
     ·try simp only [decide_eq_true_eq,decide_eq_false_iff_not,beq_iff_eq,bne_iff_ne,beq_eq_false_iff_ne,bne_eq_false_iff_eq,Bool.not_eq_true',Bool.not_eq_false',ne_eq,Decidable.not_not,Int.natCast_inj,Int.ofNat_lt,Int.ofNat_le,gt_iff_lt,ge_iff_le,Int.not_lt,Int.not_le] at hc'
      iterate 3 refine z ?_
      refine jE (yR q2 q21 rfl (fE _ hv)) ?_
      refine jE (zQ bJ Tryz.sizeOf21 rfl rfl (by omega) (by omega)) ?_
      refine qV (i:=1) S rfl (Tryz.sizeOf21 _) (j:=(Y * sw+X).toNat) (jkg (by have:=hY0; rw [Nat.mul_one,Nat.mul_one]; omega)) rfl rfl rfl (by rw [zA]; omega) rfl ?_
      intro w16_ S
      refine z ?_; refine zr ?_; refine z ?_
      refine ze ?_
      rw [jdL (fun i _=>jdF (by omega) hX0 (by omega) i)] at S
      exact ⟨m' - 1,by omega,X+1,by omega,by omega,⟨rfl,rfl,rfl,rfl,rfl,rfl,rfl,trivial⟩,by rw [show X+1 - 1=X by omega]; exact S⟩
     ·try simp only [decide_eq_true_eq,decide_eq_false_iff_not,beq_iff_eq,bne_iff_ne,beq_eq_false_iff_ne,bne_eq_false_iff_eq,Bool.not_eq_true',Bool.not_eq_false',ne_eq,Decidable.not_not,Int.natCast_inj,Int.ofNat_lt,Int.ofNat_le,gt_iff_lt,ge_iff_le,Int.not_lt,Int.not_le] at hc'
      refine zc ?_
      refine jY ?_
      repeat first | refine jP ?_ | refine jU ?_
      show CW _ _ _ _ _ _
      refine z ?_; refine zr ?_; refine z ?_
      refine ze ?_
      obtain rfl:X=x1+1:=by omega
      refine ⟨m - 1,by omega,Y+1,by omega,by omega,⟨rfl,rfl,rfl,rfl,rfl,trivial⟩,?_⟩
      rw [show x1+1 - 1=x1 by omega,xV (fun i _=>jfI hY0 i)] at S
      rw [show Y+1 - 1=Y by omega]
      exact S
    ·intro hc
     refine zc ?_
     refine jY ?_
     repeat first | refine jP ?_ | refine jU ?_
     show CW _ _ _ _ _ _
     obtain rfl:Y=y1+1:=by omega
     rw [show y1+1 - 1=y1 by omega] at S
     have hR:=S.row (i:=1) rfl
     have e0:kA (sw * sh) (qH sw x0 y0 x1 y1 v c)=((List.range (sw * sh)).map (qH sw x0 y0 x1 y1 v c)).map (.int .i32):=by simp [kA]
     obtain ⟨n',hn'⟩:∃ n',sw * sh=n'+1:=⟨sw * sh - 1,by omega⟩
     have hp0:(kA (sw * sh) (qH sw x0 y0 x1 y1 v c))[0]?=some (.int .i32 (qH sw x0 y0 x1 y1 v c 0)):=fJ (by omega)
     have e1:.int .i32 (qH sw x0 y0 x1 y1 v c 0)::(kA (sw * sh) (qH sw x0 y0 x1 y1 v c)).tail=kA (sw * sh) (qH sw x0 y0 x1 y1 v c):=by
      unfold kA; rw [hn',List.range_succ_eq_map]; simp
     cases hany:((List.range (sw * sh)).map (qH sw x0 y0 x1 y1 v c)).any (fun x=>x != qH sw x0 y0 x1 y1 v c 0)
     ·have hall:∀ i,i < sw * sh->qH sw x0 y0 x1 y1 v c i=qH sw x0 y0 x1 y1 v c 0:=fun i hi=>by
       have:=List.any_eq_false.1 hany _ (List.mem_map.2 ⟨i,List.mem_range.2 hi,rfl⟩)
       simpa using this
      refine z ?_; refine z ?_
      refine jC rfl (gT _ _ _ 267 [pt C] ((List.range (sw * sh)).map (qH sw x0 y0 x1 y1 v c)) (by simp) (by omega) (fun x=>x != qH sw x0 y0 x1 y1 v c 0) w (by rw [<-e0]; exact (S.rd (i:=1) rfl)) (fun x hx w' g=>jer C _ (sw * sh) cap x _ _ (by omega) w' ((S.blk (i:=0) rfl).gr g) (by rw [e1]; exact ((S.rd (i:=1) rfl).gr g)))) ?_
      rintro _ w17_ ⟨rfl,g17_⟩
      have S:=S.gr g17_
      rw [hany]
      (iterate 3 refine z ?_); refine zx ?_
      refine j3 (j7 q21 rfl rfl (S.rd (i:=1) rfl) hp0) ?_
      refine jE (qU fQ rfl rfl) ?_
      refine z ?_; refine z ?_
      refine j8 (i:=2) S rfl (nF _) rfl rfl rfl rfl rfl rfl ?_
      intro w18_ S
      refine z ?_
      refine zq ?_
      exact yD rfl ⟨rfl,none,⟨hmay,_,S.blk (i:=2) rfl,hmay 0 (by omega),hall⟩,S.fr.weak (fun g h=>h),(fun g h=>by cases h)⟩
     ·skip
      refine z ?_; refine z ?_
      refine jC rfl (gT _ _ _ 267 [pt C] ((List.range (sw * sh)).map (qH sw x0 y0 x1 y1 v c)) (by simp) (by omega) (fun x=>x != qH sw x0 y0 x1 y1 v c 0) w (by rw [<-e0]; exact (S.rd (i:=1) rfl)) (fun x hx w' g=>jer C _ (sw * sh) cap x _ _ (by omega) w' ((S.blk (i:=0) rfl).gr g) (by rw [e1]; exact ((S.rd (i:=1) rfl).gr g)))) ?_
      rintro _ w19_ ⟨rfl,g19_⟩
      have S:=S.gr g19_
      rw [hany]
      refine z ?_; refine z ?_
      refine zq ?_
      exact yD rfl ⟨rfl,some g,⟨hmay,cap,S.blk (i:=2) rfl,S.row (i:=1) rfl⟩,S.fr.weak (fun g h=>h),(fun g' h=>by injection h with h; subst h; exact hg)⟩
theorem jiD (b sw sh:Nat) (R:Option Nat) (c:Nat->Int) (x0 y0 x1 y1 v:Int) (hw:1<=sw/\sw<=16) (hh:1<=sh/\sh<=16) (hx:0<=x0/\x0<=x1/\x1 < sw) (hy:0<=y0/\y0<=y1/\y1 < sh) (hv:-2147483648<=v/\v<=2147483647) (W:World) (hS:SlabIs W b R sw sh c) :
  Fn Tryz.prog 255 [pt b,.agg #[ii x0,ii y0,ii x1,ii y1],ii v] W
   (fun r w'=>r=ii 0/\jev W b R sw sh (qH sw x0 y0 x1 y1 v c) w'):=by
 have hmay:=hS.mayC (x0:=x0) (y0:=y0) (x1:=x1) (y1:=y1) hv
 have hmi:(sw:Int) * sh=((sw * sh:Nat):Int):=by push_cast; rfl
 have flat:∀ cl,(cl=.iface 291 (.int .i32 v)\/((∃ u,cl=.iface 291 (.int .i32 u)/\u ≠ v)\/(∃ A n c,cl=.iface 428 (.slice A n c)))/\(x1 - x0+1) * (y1 - y0+1)=sw * sh)->Blk W b 247 [ii sw,ii sh,cl] ->
   (∀ i,i < sw * sh->qH sw x0 y0 x1 y1 v c i=v)->Fn Tryz.prog 255 [pt b,.agg #[ii x0,ii y0,ii x1,ii y1],ii v] W
   (fun r w'=>r=ii 0/\jev W b R sw sh (qH sw x0 y0 x1 y1 v c) w'):=fun cl h1 hB hc =>
  (jbP b sw sh R c x0 y0 x1 y1 v hw hh hx hy hv cl h1 W hB).mono fun r w' ⟨hr,hB',hF⟩=>⟨hr,none,⟨hmay,v,hB',hv,hc⟩,hF.weak (fun g h=>.inl h),fun g h=>by cases h⟩
 by_cases har:(x1 - x0+1) * (y1 - y0+1)=sw * sh
 ·have hwh:=jgc hx hy har
  have hall:∀ i,i < sw * sh->qH sw x0 y0 x1 y1 v c i=v:=fun i hi=>by
   unfold qH; rw [if_pos]; rw [hwh.1,hwh.2.1]; exact jhD hw.1 hi hwh.2.2.1 hwh.2.2.2
  have hS2:=hS.2
  cases R with
  | none =>
   obtain ⟨x,hB,_,hcx⟩:=hS2
   by_cases hxv:x=v
   ·subst hxv; exact flat _ (.inl rfl) hB hall
   ·exact flat _ (.inr ⟨.inl ⟨x,rfl,hxv⟩,har⟩) hB hall
  | some g =>
   obtain ⟨cap,hB,_⟩:=hS2
   exact flat _ (.inr ⟨.inr ⟨_,_,_,rfl⟩,har⟩) hB hall
 ·by_cases hfl:R=none/\Blk W b 247 [ii sw,ii sh,.iface 291 (.int .i32 v)]
  ·obtain ⟨rfl,hB⟩:=hfl
   obtain ⟨x,hB',_,hcx⟩:=hS.2
   obtain rfl:x=v:=by have:=(hB'.inj hB).2; simpa using this
   refine flat _ (.inl rfl) hB fun i hi=>?_
   unfold qH
   split
   ·rfl
   ·exact hcx i hi
  ·exact jaN b sw sh R c x0 y0 x1 y1 v hw hh hx hy hv har W hS (fun hR u hB hu=>hfl ⟨hR,hu ▸ hB⟩)
end
section
open Go.RowKit
section
variable {P : Program} {ops : Array Oper} {C : List Value → World → Prop} {sp pr : Nat → Bool}
def xB (ops:Array Oper) (sp pr:Nat->Bool) (tl:List Nat):List Nat->Array Bool->Bool
 | [],listed=>kE ops tl listed
 | [i],listed=>(match sp i with
  | true=>decide (Region.ready .any ops listed=[i])
  | false=>(Region.ready .any ops listed).contains i && Region.free .any ops listed i) && kE ops tl (listed.setIfInBounds i true)
 | i::j::hd,listed=>match pr i with
  | true=>sp i && sp j && decide (Region.ready .any ops listed=[i,j]) && decide (Region.ready .any ops (listed.setIfInBounds i true)=[j]) && decide (Region.ready .any ops (listed.setIfInBounds j true)=[i]) && xB ops sp pr tl hd ((listed.setIfInBounds i true).setIfInBounds j true)
  | false=>(match sp i with
   | true=>decide (Region.ready .any ops listed=[i])
   | false=>(Region.ready .any ops listed).contains i && Region.free .any ops listed i) && xB ops sp pr tl (j::hd) (listed.setIfInBounds i true)
def ja7 (ops:Array Oper) (sp pr:Nat->Bool) (hd tl:List Nat):Bool :=
 Region.noSelect ops && decide (hd.length+tl.length=ops.size) && ((List.range ops.size).all fun i=>hd.contains i || tl.contains i) &&
 (tl.all fun t=>hd.all fun i=>(uH ops ops.size t).contains i) && (tl.all fun t=>!hd.contains t) && xB ops sp pr tl hd (Array.replicate ops.size false)
def wp1 (P:Program) (ops:Array Oper) (C:List Value->World->Prop) (sp:Nat->Bool) (i:Nat) (o:Oper) (K:List Value->Act->Prop) (σ:List Value) (a:Act):Prop :=
 if Region.wanted o (yielded ops a.tmps) then
  match sp i with
  | true=>(∀ w,C σ w->yZ P o a w fun v w'=>C (v::σ) w')/\∀ v w',C (v::σ) w'->K (v::σ) (a.put o.dst v)
  | false=>∃ v,(∀ τ w,C τ w->yZ P o a w fun u w'=>u=v/\C τ w')/\K σ (a.put o.dst v)
 else K σ (a.put o.dst undef)
def wpP (P:Program) (ops:Array Oper) (C:List Value->World->Prop) (sp pr:Nat->Bool) (Lq:List Value->Act->Prop):List (Nat × Oper)->List Value->Act->Prop
 | [],σ,a=>Lq σ a
 | [(i,o)],σ,a=>wp1 P ops C sp i o Lq σ a
 | (i,o)::(j,o')::rest,σ,a=>match pr i with
  | true=>wp1 P ops C sp i o (wp1 P ops C sp j o' (wpP P ops C sp pr Lq rest)) σ a/\wp1 P ops C sp j o' (wp1 P ops C sp i o (wpP P ops C sp pr Lq rest)) σ a
  | false=>wp1 P ops C sp i o (wpP P ops C sp pr Lq ((j,o')::rest)) σ a
theorem uZ {i:Nat} {o:Oper} {K K':List Value->Act->Prop} {σ:List Value} {a:Act} (h0:ops[i]?=some o) (hK:∀ σ a,K σ a->K' σ a) (h:wp1 P ops C sp i o K σ a):sOp P ops C sp i K' σ a:=by
 refine fY hK ?_
 unfold sOp
 rw [h0]
 exact h
theorem wT {hd tl:List Nat} {Lq:List Value->Act->Prop} (hsel:Region.noSelect ops=true)
  (hcov:∀ i,i < ops.size->i ∈ hd\/i ∈ tl) (hanc:∀ t ∈ tl,∀ i ∈ hd,i ∈ uH ops ops.size t) (hdis:∀ t ∈ tl,t ∉ hd)
  {i:Nat} {o:Oper} {f:Nat} {listed:Array Bool} {σ:List Value} {a:Act} (h0:ops[i]?=some o) (hs:sp i=false) (hin:i ∈ hd) (hcl:ClosedL ops listed) (hr:i ∈ Region.ready .any ops listed) (hf:Region.free .any ops listed i=true)
  {K:List Value->Act->Prop} (hq:wp1 P ops C sp i o K σ a) (rec_:∀ σ a,K σ a->vJ P ops C sp hd (fun listed' σ' a'=>kE ops tl listed'=true/\Lq σ' a') f (listed.setIfInBounds i true) σ a) :
  vJ P ops C sp hd (fun listed' σ' a'=>kE ops tl listed'=true/\Lq σ' a') (f+1) listed σ a:=by
 unfold wp1 at hq
 rw [hs] at hq
 have hy:∃ v,YieldsS P ops C o v a/\K σ (a.put o.dst v):=by
  by_cases hw:Region.wanted o (yielded ops a.tmps)=true
  ·rw [if_pos hw] at hq
   obtain ⟨v,h1,h2⟩:=hq
   exact ⟨v,.inl ⟨hw,h1⟩,h2⟩
  ·rw [if_neg hw] at hq
   exact ⟨undef,.inr ⟨by simpa using hw,rfl⟩,hq⟩
 obtain ⟨v,hy,hK⟩:=hy
 refine wU h0 hs (Region.noSelect_spec hsel) ?_ ?_ f listed σ a hcl (Region.free_spec h0 hf) hr hy (rec_ _ _ hK)
 ·intro listed' hcl' hun j hj
  obtain ⟨_,oj,hoj,_⟩:=mem_ready.1 hj
  have hjs:j < ops.size:=(Array.getElem?_eq_some_iff.1 hoj).1
  rcases hcov j hjs with hh | hh
  ·exact hh
  ·have hl1:=xO hcl' ops.size j (xL hj) i (hanc j hh i hin)
   rcases Nat.lt_or_ge i listed'.size with h' | h'
   ·simp [h'] at hun hl1; rw [hun] at hl1; cases hl1
   ·simp [Array.getElem?_eq_none h'] at hl1
 ·intro listed' σ' a' hL j hj hjh
  have hB:=hL.1
  cases htl:tl with
  | nil=>simp only [htl,kE,List.isEmpty_iff] at hB; rw [hB] at hj; cases hj
  | cons t tl' =>
   simp only [htl,kE,Bool.and_eq_true,decide_eq_true_eq] at hB
   rw [hB.1] at hj
   have:j=t:=by simpa using hj
   subst this
   exact hdis j (by simp [htl]) hjh
theorem xM {hd:List Nat} {L:Array Bool->List Value->Act->Prop} {i:Nat} {o:Oper} {f:Nat} {listed:Array Bool} {σ:List Value} {a:Act} (h0:ops[i]?=some o) (hin:i ∈ hd) (hr:Region.ready .any ops listed=[i])
  {K:List Value->Act->Prop} (hq:wp1 P ops C sp i o K σ a) (rec_:∀ σ a,K σ a->vJ P ops C sp hd L f (listed.setIfInBounds i true) σ a):vJ P ops C sp hd L (f+1) listed σ a:=by
 refine ⟨by rw [hr]; simp,fun j hj=>?_⟩
 rw [hr] at hj
 obtain rfl:j=i:=by simpa using hj
 exact ⟨hin,uZ h0 rec_ hq⟩
theorem jfy {hd tl : List Nat} {Lq : List Value → Act → Prop} (hsel : Region.noSelect ops = true)
    (hcov : ∀ i, i < ops.size → i ∈ hd ∨ i ∈ tl) (hanc : ∀ t ∈ tl, ∀ i ∈ hd, i ∈ uH ops ops.size t) (hdis : ∀ t ∈ tl, t ∉ hd) :
    ∀ (n : Nat) (h : List Nat) (lh : List (Nat × Oper)) (listed : Array Bool) (σ : List Value) (a : Act), h.length ≤ n → (∀ i ∈ h, i ∈ hd) → h.map (fun i => (i, ops[i]?)) = lh.map (fun p => (p.1, some p.2)) → ClosedL ops listed → xB ops sp pr tl h listed = true →
      wpP P ops C sp pr Lq lh σ a → vJ P ops C sp hd (fun listed' σ' a' => kE ops tl listed' = true ∧ Lq σ' a') h.length listed σ a := by
  intro n
  induction n with
  | zero =>
    intro h lh listed σ a hn _ hl _ hB hq
    obtain rfl : h = [] := List.eq_nil_of_length_eq_zero (by omega)
    have : lh = [] := by cases lh with | nil => rfl | cons => simp at hl
    subst this
    exact ⟨by simpa [xB] using hB, hq⟩
  | succ n ih =>
    intro h lh listed σ a hn hin hl hcl hB hq
    cases h with
    | nil =>
      have : lh = [] := by cases lh with | nil => rfl | cons => simp at hl
      subst this
      exact ⟨by simpa [xB] using hB, hq⟩
    | cons i h =>
      cases lh with
      | nil => simp at hl
      | cons p lh =>
        obtain ⟨i', o⟩ := p
        simp only [List.map_cons, List.cons.injEq, Prod.mk.injEq] at hl
        obtain ⟨⟨rfl, h0⟩, hl'⟩ := hl
        have single : ∀ {K : List Value → Act → Prop} {B : Bool}, wp1 P ops C sp i o K σ a → ((match sp i with
            | true => decide (Region.ready .any ops listed = [i])
            | false => (Region.ready .any ops listed).contains i && Region.free .any ops listed i) && B) = true →
            (∀ σ a, K σ a → i ∈ Region.ready .any ops listed → B = true → vJ P ops C sp hd (fun listed' σ' a' => kE ops tl listed' = true ∧ Lq σ' a') h.length (listed.setIfInBounds i true) σ a) →
            vJ P ops C sp hd (fun listed' σ' a' => kE ops tl listed' = true ∧ Lq σ' a') (i :: h).length listed σ a := fun {K B} hw hb rec_ => by
          simp only [Bool.and_eq_true] at hb
          cases hs : sp i with
          | true =>
            rw [hs] at hb
            have hr : Region.ready .any ops listed = [i] := by simpa using hb.1
            exact xM h0 (hin i (by simp)) hr hw (fun σ a hk => rec_ σ a hk (by rw [hr]; simp) hb.2)
          | false =>
            rw [hs] at hb
            simp only [Bool.and_eq_true] at hb
            have hr : i ∈ Region.ready .any ops listed := by simpa using hb.1.1
            exact wT hsel hcov hanc hdis h0 hs (hin i (by simp)) hcl hr hb.1.2 hw (fun σ a hk => rec_ σ a hk hr hb.2)
        cases h with
        | nil =>
          have : lh = [] := by cases lh with | nil => rfl | cons => simp at hl'
          subst this
          exact single hq hB (fun σ a hk _ hb => ⟨hb, hk⟩)
        | cons j h =>
          cases lh with
          | nil => simp at hl'
          | cons q lh =>
            obtain ⟨j', o'⟩ := q
            simp only [List.map_cons, List.cons.injEq, Prod.mk.injEq] at hl'
            obtain ⟨⟨rfl, h1⟩, hl''⟩ := hl'
            cases hp : pr i with
            | false =>
              simp only [xB, hp] at hB
              simp only [wpP, hp] at hq
              exact single hq hB (fun σ a hk hr hb => ih (j :: h) ((j, o') :: lh) _ σ a (by simp at hn ⊢; omega) (fun k hk => hin k (List.mem_cons_of_mem _ hk)) (by simp [h1, hl'']) (hcl.set hr) hb hk)
            | true =>
              simp only [xB, hp, Bool.and_eq_true, decide_eq_true_eq] at hB
              simp only [wpP, hp] at hq
              obtain ⟨⟨⟨⟨⟨hsi, hsj⟩, hr⟩, hri⟩, hrj⟩, hB'⟩ := hB
              have hne : i ≠ j := by
                rintro rfl
                have hc := (mem_ready.1 (show i ∈ Region.ready .any ops (listed.setIfInBounds i true) by rw [hri]; simp)).1
                have hlt := (Array.getElem?_eq_some_iff.1 h0).1
                have h2 : (listed.setIfInBounds i true).getD i true = true := by
                  rcases Nat.lt_or_ge i listed.size with h' | h'
                  · simp [h']
                  · simp [Array.getElem?_eq_none h']
                rw [h2] at hc
                cases hc
              have hci : ClosedL ops (listed.setIfInBounds i true) := hcl.set (by rw [hr]; simp)
              have hcj : ClosedL ops (listed.setIfInBounds j true) := hcl.set (by rw [hr]; simp)
              have hrest : ∀ σ a, wpP P ops C sp pr Lq lh σ a → vJ P ops C sp hd (fun listed' σ' a' => kE ops tl listed' = true ∧ Lq σ' a') h.length ((listed.setIfInBounds i true).setIfInBounds j true) σ a :=
                fun σ a hk => ih h lh _ σ a (by simp at hn; omega) (fun k hk => hin k (by simp [hk])) hl'' (hci.set (by rw [hri]; simp)) hB' hk
              refine ⟨by rw [hr]; simp, fun k hk => ?_⟩
              rw [hr] at hk
              simp only [List.mem_cons, List.not_mem_nil, or_false] at hk
              refine ⟨hin k (by rcases hk with rfl | rfl <;> simp), ?_⟩
              by_cases hki : k = i
              · subst hki
                exact uZ h0 (fun σ a hw => xM h1 (hin j (by simp)) hri hw hrest) hq.1
              · obtain rfl : k = j := by rcases hk with e | e; · exact absurd e hki
                                         · exact e
                refine uZ h1 (fun σ a hw => xM h0 (hin i (by simp)) hrj hw fun σ a hk => ?_) hq.2
                rw [Array.setIfInBounds_comm _ _ (Ne.symm hne)]
                exact hrest σ a hk
theorem pL {ro:Option Nat} {id:Nat} {Q:Exit->Act->World->Prop} {a:Act} {w:World} {l:List Oper} (hd tl:List Nat) (lh:List (Nat × Oper)) (lt:List Oper) (hnd:(l.all fun o=>!kX o.op)=true) (hm:P.follows .mixedOrders=true)
  (hB:ja7 l.toArray sp pr hd tl=true) (hh:hd.map (fun i=>(i,l.toArray[i]?))=lh.map (fun p=>(p.1,some p.2))) (ht:tl.map (l.toArray[·]?)=lt.map some) (hC:C [] w.drew)
  (h:wpP P l.toArray C sp pr (fun σ a'=>∀ w',C σ w'->wpListIn (wF ro) 0 P l.toArray Q lt a' w') lh [] a):(Code.region id l.toArray true).wpIn (wF ro) 0 P Q a w:=by
 simp only [ja7,Bool.and_eq_true,decide_eq_true_eq] at hB
 obtain ⟨⟨⟨⟨⟨hsel,hlen⟩,hcov⟩,hanc⟩,hdis⟩,hhd⟩:=hB
 have H:=jfy (P:=P) (C:=C) (sp:=sp) (pr:=pr) (Lq:=fun σ a'=>∀ w',C σ w'->wpListIn (wF ro) 0 P l.toArray Q lt a' w') (hd:=hd) (tl:=tl) hsel
  (fun i hi=>by have:=List.all_eq_true.1 hcov i (List.mem_range.2 hi); simpa using this)
  (fun t htl i hi=>by have:=List.all_eq_true.1 (List.all_eq_true.1 hanc t htl) i hi; simpa using this)
  (fun t htl=>by have:=List.all_eq_true.1 hdis t htl; simpa using this)
  hd.length hd lh (Array.replicate l.toArray.size false) [] a (Nat.le_refl _) (fun _ hi=>hi) hh
  (fun i hi=>by
   have h0:∀ m j:Nat,(Array.replicate m false).getD j false=false:=fun m j=>by
    rcases Nat.lt_or_ge j m with h' | h'
    ·simp [h']
    ·simp [h']
   rw [h0] at hi
   cases hi) hhd h
 refine wpIn_region_any hm ?_
 have:=kP (Q':=Q) (ro:=ro) (by simpa using hnd) (g:=tl.length) (fun listed σ a' w' hw' hL=>k3 tl lt listed a' w' ht hL.1 (hL.2 w' hw')) _ _ _ _ _ hC H
 rw [hlen] at this
 exact this
def R1P (P:Program) (ops:Array Oper) (C:List Value->World->Prop) (sp:Nat->Bool) (i:Nat) (o:Oper) (K:List Value->(Nat->Value)->Prop) (σ:List Value) (e:Nat->Value):Prop :=
 if wE ops e o=true then
  match sp i with
  | true=>(∀ w,C σ w->qM P e o w fun v w'=>C (v::σ) w')/\∀ v w',C (v::σ) w'->K (v::σ) (yU e o.dst v)
  | false=>∃ v,(∀ τ w,C τ w->qM P e o w fun u w'=>u=v/\C τ w')/\K σ (yU e o.dst v)
 else K σ (yU e o.dst undef)
def RP (P:Program) (ops:Array Oper) (C:List Value->World->Prop) (sp pr:Nat->Bool) (Q:List Value->(Nat->Value)->Prop):List (Nat × Oper)->List Value->(Nat->Value)->Prop
 | [],σ,e=>Q σ e
 | [(i,o)],σ,e=>R1P P ops C sp i o Q σ e
 | (i,o)::(j,o')::rest,σ,e=>match pr i with
  | true=>R1P P ops C sp i o (R1P P ops C sp j o' (RP P ops C sp pr Q rest)) σ e/\R1P P ops C sp j o' (R1P P ops C sp i o (RP P ops C sp pr Q rest)) σ e
  | false=>R1P P ops C sp i o (RP P ops C sp pr Q ((j,o')::rest)) σ e
theorem kQ {N:Nat} {df:List Deferred} {i:Nat} {o:Oper} {K:List Value->(Nat->Value)->Prop} {K':List Value->Act->Prop} {σ:List Value} {e:Nat->Value} {a:Act} (hd:vE N o.dst=true) (hr:Rep N df e a)
  (hK:∀ σ e a,Rep N df e a->K σ e->K' σ a) (h:R1P P ops C sp i o K σ e):wp1 P ops C sp i o K' σ a:=by
 unfold wp1
 unfold R1P at h
 rw [hr.wanted]
 have hto:∀ w R,qM P e o w R->yZ P o a w R:=fun w R hh=>by unfold yZ; rw [hr.eval]; exact hh
 split
 ·rename_i hw
  rw [if_pos hw] at h
  cases hs:sp i with
  | true =>
   rw [hs] at h
   exact ⟨fun w hC=>hto _ _ (h.1 w hC),fun v w' hC=>hK _ _ _ (hr.put hd v) (h.2 v w' hC)⟩
  | false =>
   rw [hs] at h
   obtain ⟨v,h1,h2⟩:=h
   exact ⟨v,fun τ w hC=>hto _ _ (h1 τ w hC),hK _ _ _ (hr.put hd v) h2⟩
 ·rename_i hw
  rw [if_neg hw] at h
  exact hK _ _ _ (hr.put hd undef) h
theorem sD {N:Nat} {df:List Deferred} {Q:List Value->(Nat->Value)->Prop} {Q':List Value->Act->Prop} (hQ:∀ σ e a,Rep N df e a->Q σ e->Q' σ a) :
  ∀ (l:List (Nat × Oper)) (σ:List Value) (e:Nat->Value) (a:Act),(l.all fun p=>vE N p.2.dst)=true->Rep N df e a->RP P ops C sp pr Q l σ e->wpP P ops C sp pr Q' l σ a
 | [],σ,e,a,_,hr,h=>hQ σ e a hr h
 | [(i,o)],σ,e,a,hd,hr,h=>by
  simp only [List.all_cons,Bool.and_eq_true] at hd
  exact kQ hd.1 hr hQ h
 | (i,o)::(j,o')::rest,σ,e,a,hd,hr,h=>by
  simp only [List.all_cons,Bool.and_eq_true] at hd
  have rec1:=fun σ e a hr h=>sD hQ rest σ e a hd.2.2 hr h
  have rec2:=fun σ e a hr h=>sD hQ ((j,o')::rest) σ e a (by simp only [List.all_cons,Bool.and_eq_true]; exact hd.2) hr h
  cases hp:pr i with
  | true =>
   simp only [RP,hp] at h
   simp only [wpP,hp]
   exact ⟨kQ hd.1 hr (fun σ e a hr h=>kQ hd.2.1 hr rec1 h) h.1,kQ hd.2.1 hr (fun σ e a hr h=>kQ hd.1 hr rec1 h) h.2⟩
  | false =>
   simp only [RP,hp] at h
   simp only [wpP,hp]
   exact kQ hd.1 hr rec2 h
theorem jjv {N:Nat} {Q:Exit->(Nat->Value)->World->Prop} {e:Nat->Value} {w:World} {id:Nat} {l:List Oper} (sp pr:List Nat) (hd tl:List Nat) (hm:P.follows .mixedOrders=true)
  (hB:(ja7 l.toArray (fun i=>sp.contains i) (fun i=>pr.contains i) hd tl && (hd.all fun i=>decide (i < l.length)) && (tl.all fun i=>decide (i < l.length)))=true) (hC:C [] w.drew)
  (h:RP P l.toArray C (fun i=>sp.contains i) (fun i=>pr.contains i) (fun σ e'=>∀ w',C σ w'->RW P l.toArray (fun e w=>Q .normal e w) (j6 l tl) e' w') (yT l hd) [] e):CW P N (.region id l.toArray true) Q e w:=fun hk df a hr ro=>by
 simp only [Bool.and_eq_true] at hB
 simp only [q8,Bool.and_eq_true] at hk
 have hsub:∀ is:List Nat,(is.all fun i=>decide (i < l.length))=true->((j6 l is).all fun o=>vE N o.dst)=true:=fun is his=>by
  have h1:=qJ l is his
  refine List.all_eq_true.2 fun o ho=>?_
  have h2:some o ∈ (j6 l is).map some:=List.mem_map.2 ⟨o,ho,rfl⟩
  rw [<-h1] at h2
  obtain ⟨i,_,hi⟩:=List.mem_map.1 h2
  have h3:l[i]?=some o:=by simpa using hi
  exact List.all_eq_true.1 hk.1 o (List.mem_of_getElem? h3)
 have hsubd:∀ is:List Nat,(is.all fun i=>decide (i < l.length))=true->((j6 l is).all fun o=>!kX o.op)=true:=fun is his=>by
  have h1:=qJ l is his
  refine List.all_eq_true.2 fun o ho=>?_
  have h2:some o ∈ (j6 l is).map some:=List.mem_map.2 ⟨o,ho,rfl⟩
  rw [<-h1] at h2
  obtain ⟨i,_,hi⟩:=List.mem_map.1 h2
  have h3:l[i]?=some o:=by simpa using hi
  exact List.all_eq_true.1 hk.2 o (List.mem_of_getElem? h3)
 have hsubI:∀ is:List Nat,(is.all fun i=>decide (i < l.length))=true->((yT l is).all fun p=>vE N p.2.dst)=true:=fun is his=>by
  have h1:=z8 l is his
  refine List.all_eq_true.2 fun p hp=>?_
  have h2:(p.1,some p.2) ∈ (yT l is).map (fun p=>(p.1,some p.2)):=List.mem_map.2 ⟨p,hp,rfl⟩
  rw [<-h1] at h2
  obtain ⟨i,_,hi⟩:=List.mem_map.1 h2
  simp only [Prod.mk.injEq] at hi
  have h3:l[i]?=some p.2:=by simpa using hi.2
  exact List.all_eq_true.1 hk.1 p.2 (List.mem_of_getElem? h3)
 refine pL (C:=C) hd tl _ _ hk.2 hm hB.1.1 (z8 l hd hB.1.2) (qJ l tl hB.2) hC ?_
 exact sD (fun σ e' a' hr' hq w' hw'=>k4 (fun e a w hr h=>⟨e,hr,h⟩) _ e' a' w' (hsub tl hB.2) (hsubd tl hB.2) hr' (hq w' hw')) _ [] e a (hsubI hd hB.1.2) hr h
theorem uS {Qs:List Value->(Nat->Value)->Prop} {σ:List Value} {e:Nat->Value} {i:Nat} {o:Oper} {j:Nat} {o':Oper} {rest:List (Nat × Oper)} (hp:pr i=false) (h:RS P ops C sp (fun σ e=>RP P ops C sp pr Qs ((j,o')::rest) σ e) [(i,o)] σ e):RP P ops C sp pr Qs ((i,o)::(j,o')::rest) σ e:=by
 simp only [RP,hp]
 exact h
theorem jiL {Qs:List Value->(Nat->Value)->Prop} {σ:List Value} {e:Nat->Value} {i:Nat} {o:Oper} {j:Nat} {o':Oper} {rest:List (Nat × Oper)} (hp:pr i=true) (h1:RS P ops C sp (fun σ e=>RP P ops C sp pr Qs rest σ e) [(i,o),(j,o')] σ e) (h2:RS P ops C sp (fun σ e=>RP P ops C sp pr Qs rest σ e) [(j,o'),(i,o)] σ e) :
  RP P ops C sp pr Qs ((i,o)::(j,o')::rest) σ e:=by
 simp only [RP,hp]
 exact ⟨h1,h2⟩
theorem jgz {Qs:List Value->(Nat->Value)->Prop} {σ:List Value} {e:Nat->Value} (h:Qs σ e):RP P ops C sp pr Qs [] σ e:=h
end
end
end Go.Proofs.YtipnifjmhlcehaaGreatDoor
