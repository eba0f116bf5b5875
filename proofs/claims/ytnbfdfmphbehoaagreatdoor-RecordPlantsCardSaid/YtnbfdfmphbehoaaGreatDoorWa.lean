/- The library's functions that this program calls, laid with the kit's tool. -/

import Derived.Shelf.LaysM
import Derived.Shelf.LaysC
import Derived.Shelf.Strconv.Itoa3
import Derived.Shelf.Strconv.AtoiAll
import Derived.Shelf.Strings.Split
import Derived.Shelf.Strings.Prefix
import Derived.Shelf.Strings.Cut
import Derived.Ground.NamesProg
import Derived.Ground.Names2Prog
import Derived.Ground.Names7Prog
import Derived.Test.YtnbfdfmphbehoaaGreatDoorProg
import Derived.Test.YtnbfdfmphbehoaaGreatDoorFe
import Derived.Test.YtnbfdfmphbehoaaGreatDoorCx
import Derived.Test.YtnbfdfmphbehoaaGreatDoorFc
import Derived.IntWalk
import Derived.Test.YtnbfdfmphbehoaaGreatDoorM
import Derived.Test.YtnbfdfmphbehoaaGreatDoorFd
import Derived.KernelRfl
namespace Go.Proofs
open Go.Shelf
def Tryz.laysM171_ren : Go.Shelf.Ren := ⟨fun | 171 => 139 | 243 => 184 | 246 => 214 | 283 => 241 | 284 => 242 | 285 => 243 | 286 => 244 | 129 => 282 | 317 => 281 | 318 => 283 | 319 => 284 | 320 => 285 | 337 => 332 | 338 => 333 | n => n, fun | 3 => 3 | 9 => 9 | 2 => 2 | 4 => 4 | 171 => 305 | 0 => 0 | 53 => 299 | 37 => 172 | 5 => 5 | 173 => 308 | 212 => 368 | 51 => 310 | 20 => 20 | 213 => 369 | 46 => 274 | 232 => 422 | 233 => 423 | n => n, fun | 17 => 6 | 18 => 7 | 19 => 8 | n => n⟩
theorem Tryz.laysM171 : Go.Proofs.LaysM.n171 Tryz.prog Tryz.laysM171_ren := {
  mixed := by kernel_rfl
  f129 := Tryz.func282.trans (congrArg some (by kernel_rfl))
  f171 := Tryz.func139.trans (congrArg some (by kernel_rfl))
  f243 := Tryz.func184.trans (congrArg some (by kernel_rfl))
  f246 := Tryz.func214.trans (congrArg some (by kernel_rfl))
  f283 := Tryz.func241.trans (congrArg some (by kernel_rfl))
  f284 := Tryz.func242.trans (congrArg some (by kernel_rfl))
  f285 := Tryz.func243.trans (congrArg some (by kernel_rfl))
  f286 := Tryz.func244.trans (congrArg some (by kernel_rfl))
  f317 := Tryz.func281.trans (congrArg some (by kernel_rfl))
  f318 := Tryz.func283.trans (congrArg some (by kernel_rfl))
  f319 := Tryz.func284.trans (congrArg some (by kernel_rfl))
  f320 := Tryz.func285.trans (congrArg some (by kernel_rfl))
  f337 := Tryz.func332.trans (congrArg some (by kernel_rfl))
  f338 := Tryz.func333.trans (congrArg some (by kernel_rfl))
  t0 := Tryz.underlying0
  a0 := Tryz.isAgg0
  z0 := Tryz.sizeOf0
  v0 := Tryz.zeroValue0
  t2 := Tryz.underlying2
  a2 := Tryz.isAgg2
  z2 := Tryz.sizeOf2
  v2 := Tryz.zeroValue2
  t3 := Tryz.underlying3
  a3 := Tryz.isAgg3
  z3 := Tryz.sizeOf3
  v3 := Tryz.zeroValue3
  t4 := Tryz.underlying4
  a4 := Tryz.isAgg4
  z4 := Tryz.sizeOf4
  v4 := Tryz.zeroValue4
  t5 := Tryz.underlying5
  a5 := Tryz.isAgg5
  z5 := Tryz.sizeOf5
  v5 := Tryz.zeroValue5
  t9 := Tryz.underlying9
  a9 := Tryz.isAgg9
  z9 := Tryz.sizeOf9
  v9 := Tryz.zeroValue9
  t20 := Tryz.underlying20
  a20 := Tryz.isAgg20
  z20 := Tryz.sizeOf20
  v20 := Tryz.zeroValue20
  t37 := Tryz.underlying172
  a37 := Tryz.isAgg172
  z37 := Tryz.sizeOf172
  v37 := Tryz.zeroValue172
  t46 := Tryz.underlying274
  a46 := Tryz.isAgg274
  z46 := Tryz.sizeOf274
  v46 := Tryz.zeroValue274
  t51 := Tryz.underlying310
  a51 := Tryz.isAgg310
  z51 := Tryz.sizeOf310
  v51 := Tryz.zeroValue310
  t53 := Tryz.underlying299
  a53 := Tryz.isAgg299
  z53 := Tryz.sizeOf299
  v53 := Tryz.zeroValue299
  t171 := Tryz.underlying305
  a171 := Tryz.isAgg305
  z171 := Tryz.sizeOf305
  v171 := Tryz.zeroValue305
  t173 := Tryz.underlying308
  a173 := Tryz.isAgg308
  z173 := Tryz.sizeOf308
  v173 := Tryz.zeroValue308
  t212 := Tryz.underlying368
  a212 := Tryz.isAgg368
  z212 := Tryz.sizeOf368
  v212 := Tryz.zeroValue368
  t213 := Tryz.underlying369
  a213 := Tryz.isAgg369
  z213 := Tryz.sizeOf369
  t232 := Tryz.underlying422
  a232 := Tryz.isAgg422
  z232 := Tryz.sizeOf422
  v232 := Tryz.zeroValue422
  t233 := Tryz.underlying423
  a233 := Tryz.isAgg423
  z233 := Tryz.sizeOf423
  v233 := Tryz.zeroValue423
  g17 := by kernel_rfl
  g18 := by kernel_rfl
  g19 := by kernel_rfl
  i0 := by kernel_rfl
  i2 := by kernel_rfl
  i3 := by kernel_rfl
  i4 := by kernel_rfl
  i5 := by kernel_rfl
  i9 := by kernel_rfl
  i20 := by kernel_rfl
  i37 := by kernel_rfl
  i46 := by kernel_rfl
  i51 := by kernel_rfl
  i53 := by kernel_rfl
  i171 := by kernel_rfl
  i173 := by kernel_rfl
  i212 := by kernel_rfl
  i232 := by kernel_rfl
  i233 := by kernel_rfl
  m17 := by kernel_rfl
  m18 := by kernel_rfl
  m19 := by kernel_rfl }
def Tryz.laysC172_ren : Go.Shelf.Ren := ⟨fun | 172 => 138 | 244 => 182 | 245 => 183 | 247 => 209 | 279 => 210 | 280 => 211 | 281 => 212 | 282 => 213 | 287 => 238 | 316 => 239 | 171 => 139 | 205 => 240 | 321 => 279 | 322 => 280 | 243 => 184 | 246 => 214 | 283 => 241 | 284 => 242 | 285 => 243 | 286 => 244 | 129 => 282 | 317 => 281 | 318 => 283 | 319 => 284 | 320 => 285 | 337 => 332 | 338 => 333 | n => n, fun | 9 => 9 | 3 => 3 | 75 => 213 | 76 => 214 | 4 => 4 | 5 => 5 | 167 => 264 | 37 => 172 | 0 => 0 | 85 => 265 | 2 => 2 | 168 => 267 | 53 => 299 | 175 => 300 | 46 => 274 | 210 => 303 | 127 => 363 | 145 => 366 | 143 => 364 | 21 => 21 | 171 => 305 | 173 => 308 | 212 => 368 | 51 => 310 | 20 => 20 | 213 => 369 | 232 => 422 | 233 => 423 | 80 => 294 | n => n, fun | 15 => 1 | 16 => 2 | 17 => 6 | 18 => 7 | 19 => 8 | n => n⟩
theorem Tryz.laysC172 : Go.Proofs.LaysC.n172 Tryz.prog Tryz.laysC172_ren := {
  mixed := by kernel_rfl
  f129 := Tryz.func282.trans (congrArg some (by kernel_rfl))
  f171 := Tryz.func139.trans (congrArg some (by kernel_rfl))
  f172 := Tryz.func138.trans (congrArg some (by kernel_rfl))
  f205 := Tryz.func240.trans (congrArg some (by kernel_rfl))
  f243 := Tryz.func184.trans (congrArg some (by kernel_rfl))
  f244 := Tryz.func182.trans (congrArg some (by kernel_rfl))
  f245 := Tryz.func183.trans (congrArg some (by kernel_rfl))
  f246 := Tryz.func214.trans (congrArg some (by kernel_rfl))
  f247 := Tryz.func209.trans (congrArg some (by kernel_rfl))
  f279 := Tryz.func210.trans (congrArg some (by kernel_rfl))
  f280 := Tryz.func211.trans (congrArg some (by kernel_rfl))
  f281 := Tryz.func212.trans (congrArg some (by kernel_rfl))
  f282 := Tryz.func213.trans (congrArg some (by kernel_rfl))
  f283 := Tryz.func241.trans (congrArg some (by kernel_rfl))
  f284 := Tryz.func242.trans (congrArg some (by kernel_rfl))
  f285 := Tryz.func243.trans (congrArg some (by kernel_rfl))
  f286 := Tryz.func244.trans (congrArg some (by kernel_rfl))
  f287 := Tryz.func238.trans (congrArg some (by kernel_rfl))
  f316 := Tryz.func239.trans (congrArg some (by kernel_rfl))
  f317 := Tryz.func281.trans (congrArg some (by kernel_rfl))
  f318 := Tryz.func283.trans (congrArg some (by kernel_rfl))
  f319 := Tryz.func284.trans (congrArg some (by kernel_rfl))
  f320 := Tryz.func285.trans (congrArg some (by kernel_rfl))
  f321 := Tryz.func279.trans (congrArg some (by kernel_rfl))
  f322 := Tryz.func280.trans (congrArg some (by kernel_rfl))
  f337 := Tryz.func332.trans (congrArg some (by kernel_rfl))
  f338 := Tryz.func333.trans (congrArg some (by kernel_rfl))
  t0 := Tryz.underlying0
  a0 := Tryz.isAgg0
  z0 := Tryz.sizeOf0
  v0 := Tryz.zeroValue0
  t2 := Tryz.underlying2
  a2 := Tryz.isAgg2
  z2 := Tryz.sizeOf2
  v2 := Tryz.zeroValue2
  t3 := Tryz.underlying3
  a3 := Tryz.isAgg3
  z3 := Tryz.sizeOf3
  v3 := Tryz.zeroValue3
  t4 := Tryz.underlying4
  a4 := Tryz.isAgg4
  z4 := Tryz.sizeOf4
  v4 := Tryz.zeroValue4
  t5 := Tryz.underlying5
  a5 := Tryz.isAgg5
  z5 := Tryz.sizeOf5
  v5 := Tryz.zeroValue5
  t9 := Tryz.underlying9
  a9 := Tryz.isAgg9
  z9 := Tryz.sizeOf9
  v9 := Tryz.zeroValue9
  t20 := Tryz.underlying20
  a20 := Tryz.isAgg20
  z20 := Tryz.sizeOf20
  v20 := Tryz.zeroValue20
  t21 := Tryz.underlying21
  a21 := Tryz.isAgg21
  z21 := Tryz.sizeOf21
  v21 := Tryz.zeroValue21
  t37 := Tryz.underlying172
  a37 := Tryz.isAgg172
  z37 := Tryz.sizeOf172
  v37 := Tryz.zeroValue172
  t46 := Tryz.underlying274
  a46 := Tryz.isAgg274
  z46 := Tryz.sizeOf274
  v46 := Tryz.zeroValue274
  t51 := Tryz.underlying310
  a51 := Tryz.isAgg310
  z51 := Tryz.sizeOf310
  v51 := Tryz.zeroValue310
  t53 := Tryz.underlying299
  a53 := Tryz.isAgg299
  z53 := Tryz.sizeOf299
  v53 := Tryz.zeroValue299
  t75 := Tryz.underlying213
  a75 := Tryz.isAgg213
  z75 := Tryz.sizeOf213
  v75 := Tryz.zeroValue213
  t76 := Tryz.underlying214
  a76 := Tryz.isAgg214
  z76 := Tryz.sizeOf214
  v76 := Tryz.zeroValue214
  t85 := Tryz.underlying265
  a85 := Tryz.isAgg265
  z85 := Tryz.sizeOf265
  v85 := Tryz.zeroValue265
  t127 := Tryz.underlying363
  a127 := Tryz.isAgg363
  z127 := Tryz.sizeOf363
  v127 := Tryz.zeroValue363
  t143 := Tryz.underlying364
  a143 := Tryz.isAgg364
  z143 := Tryz.sizeOf364
  v143 := Tryz.zeroValue364
  t145 := Tryz.underlying366
  a145 := Tryz.isAgg366
  z145 := Tryz.sizeOf366
  v145 := Tryz.zeroValue366
  t167 := Tryz.underlying264
  a167 := Tryz.isAgg264
  z167 := Tryz.sizeOf264
  v167 := Tryz.zeroValue264
  t168 := Tryz.underlying267
  a168 := Tryz.isAgg267
  z168 := Tryz.sizeOf267
  v168 := Tryz.zeroValue267
  t171 := Tryz.underlying305
  a171 := Tryz.isAgg305
  z171 := Tryz.sizeOf305
  v171 := Tryz.zeroValue305
  t173 := Tryz.underlying308
  a173 := Tryz.isAgg308
  z173 := Tryz.sizeOf308
  v173 := Tryz.zeroValue308
  t175 := Tryz.underlying300
  a175 := Tryz.isAgg300
  z175 := Tryz.sizeOf300
  v175 := Tryz.zeroValue300
  t210 := Tryz.underlying303
  a210 := Tryz.isAgg303
  z210 := Tryz.sizeOf303
  v210 := Tryz.zeroValue303
  t212 := Tryz.underlying368
  a212 := Tryz.isAgg368
  z212 := Tryz.sizeOf368
  v212 := Tryz.zeroValue368
  t213 := Tryz.underlying369
  a213 := Tryz.isAgg369
  z213 := Tryz.sizeOf369
  t232 := Tryz.underlying422
  a232 := Tryz.isAgg422
  z232 := Tryz.sizeOf422
  v232 := Tryz.zeroValue422
  t233 := Tryz.underlying423
  a233 := Tryz.isAgg423
  z233 := Tryz.sizeOf423
  v233 := Tryz.zeroValue423
  g15 := by kernel_rfl
  g16 := by kernel_rfl
  g17 := by kernel_rfl
  g18 := by kernel_rfl
  g19 := by kernel_rfl
  t80 := Tryz.underlying294
  a80 := Tryz.isAgg294
  z80 := Tryz.sizeOf294
  v80 := Tryz.zeroValue294
  i0 := by kernel_rfl
  i2 := by kernel_rfl
  i3 := by kernel_rfl
  i4 := by kernel_rfl
  i5 := by kernel_rfl
  i9 := by kernel_rfl
  i20 := by kernel_rfl
  i21 := by kernel_rfl
  i37 := by kernel_rfl
  i46 := by kernel_rfl
  i51 := by kernel_rfl
  i53 := by kernel_rfl
  i75 := by kernel_rfl
  i76 := by kernel_rfl
  i80 := by kernel_rfl
  i85 := by kernel_rfl
  i127 := by kernel_rfl
  i143 := by kernel_rfl
  i145 := by kernel_rfl
  i167 := by kernel_rfl
  i168 := by kernel_rfl
  i171 := by kernel_rfl
  i173 := by kernel_rfl
  i175 := by kernel_rfl
  i210 := by kernel_rfl
  i212 := by kernel_rfl
  i232 := by kernel_rfl
  i233 := by kernel_rfl
  m15 := by kernel_rfl
  m16 := by kernel_rfl
  m17 := by kernel_rfl
  m18 := by kernel_rfl
  m19 := by kernel_rfl
  c0 := by kernel_rfl
  c2 := by kernel_rfl
  c3 := by kernel_rfl
  c4 := by kernel_rfl
  c5 := by kernel_rfl
  c9 := by kernel_rfl
  c20 := by kernel_rfl
  c21 := by kernel_rfl
  c37 := by kernel_rfl
  c46 := by kernel_rfl
  c51 := by kernel_rfl
  c53 := by kernel_rfl
  c75 := by kernel_rfl
  c76 := by kernel_rfl
  c80 := by kernel_rfl
  c85 := by kernel_rfl
  c127 := by kernel_rfl
  c143 := by kernel_rfl
  c145 := by kernel_rfl
  c167 := by kernel_rfl
  c168 := by kernel_rfl
  c171 := by kernel_rfl
  c173 := by kernel_rfl
  c175 := by kernel_rfl
  c210 := by kernel_rfl
  c212 := by kernel_rfl
  c213 := by kernel_rfl
  c232 := by kernel_rfl
  c233 := by kernel_rfl }
def Tryz.lays145_ren : Go.Shelf.Ren := ⟨fun | 145 => 120 | 220 => 151 | 219 => 195 | 217 => 218 | 225 => 219 | 224 => 220 | 267 => 221 | 266 => 246 | 314 => 247 | n => n, fun | 9 => 9 | 4 => 4 | 59 => 184 | 3 => 3 | 5 => 5 | 46 => 274 | 146 => 311 | 51 => 310 | n => n, fun | 1 => 0 | n => n⟩
theorem Tryz.lays145 : Go.Proofs.Lays.n145 Tryz.prog Tryz.lays145_ren := {
  mixed := by kernel_rfl
  f145 := Tryz.func120.trans (congrArg some (by kernel_rfl))
  f217 := Tryz.func218.trans (congrArg some (by kernel_rfl))
  f219 := Tryz.func195.trans (congrArg some (by kernel_rfl))
  f220 := Tryz.func151.trans (congrArg some (by kernel_rfl))
  f224 := Tryz.func220.trans (congrArg some (by kernel_rfl))
  f225 := Tryz.func219.trans (congrArg some (by kernel_rfl))
  f266 := Tryz.func246.trans (congrArg some (by kernel_rfl))
  f267 := Tryz.func221.trans (congrArg some (by kernel_rfl))
  f314 := Tryz.func247.trans (congrArg some (by kernel_rfl))
  t3 := Tryz.underlying3
  a3 := Tryz.isAgg3
  z3 := Tryz.sizeOf3
  v3 := Tryz.zeroValue3
  t4 := Tryz.underlying4
  a4 := Tryz.isAgg4
  z4 := Tryz.sizeOf4
  v4 := Tryz.zeroValue4
  t5 := Tryz.underlying5
  a5 := Tryz.isAgg5
  z5 := Tryz.sizeOf5
  v5 := Tryz.zeroValue5
  t9 := Tryz.underlying9
  a9 := Tryz.isAgg9
  z9 := Tryz.sizeOf9
  v9 := Tryz.zeroValue9
  t46 := Tryz.underlying274
  a46 := Tryz.isAgg274
  z46 := Tryz.sizeOf274
  v46 := Tryz.zeroValue274
  t51 := Tryz.underlying310
  a51 := Tryz.isAgg310
  z51 := Tryz.sizeOf310
  v51 := Tryz.zeroValue310
  t59 := Tryz.underlying184
  a59 := Tryz.isAgg184
  z59 := Tryz.sizeOf184
  v59 := Tryz.zeroValue184
  t146 := Tryz.underlying311
  a146 := Tryz.isAgg311
  z146 := Tryz.sizeOf311
  v146 := Tryz.zeroValue311
  g1 := by kernel_rfl }
def Tryz.lays101_ren : Go.Shelf.Ren := ⟨fun | 101 => 140 | 208 => 185 | 206 => 215 | n => n, fun | 9 => 9 | 4 => 4 | 3 => 3 | n => n, fun | n => n⟩
theorem Tryz.lays101 : Go.Proofs.Lays.n101 Tryz.prog Tryz.lays101_ren := {
  mixed := by kernel_rfl
  f101 := Tryz.func140.trans (congrArg some (by kernel_rfl))
  f206 := Tryz.func215.trans (congrArg some (by kernel_rfl))
  f208 := Tryz.func185.trans (congrArg some (by kernel_rfl))
  t3 := Tryz.underlying3
  a3 := Tryz.isAgg3
  z3 := Tryz.sizeOf3
  v3 := Tryz.zeroValue3
  t4 := Tryz.underlying4
  a4 := Tryz.isAgg4
  z4 := Tryz.sizeOf4
  v4 := Tryz.zeroValue4
  t9 := Tryz.underlying9
  a9 := Tryz.isAgg9
  z9 := Tryz.sizeOf9
  v9 := Tryz.zeroValue9 }
def Tryz.lays146_ren : Go.Shelf.Ren := ⟨fun | 146 => 112 | 221 => 137 | 268 => 179 | 138 => 180 | 143 => 181 | 195 => 206 | 197 => 207 | 218 => 208 | 219 => 195 | 260 => 237 | 217 => 218 | 225 => 219 | 224 => 220 | 267 => 221 | 266 => 246 | 314 => 247 | n => n, fun | 9 => 9 | 31 => 23 | 3 => 3 | 4 => 4 | 0 => 0 | 105 => 261 | 21 => 21 | 5 => 5 | 46 => 274 | 119 => 358 | 139 => 361 | 138 => 360 | 146 => 311 | 51 => 310 | n => n, fun | 1 => 0 | 3 => 4 | 4 => 5 | n => n⟩
theorem Tryz.lays146 : Go.Proofs.Lays.n146 Tryz.prog Tryz.lays146_ren := {
  mixed := by kernel_rfl
  f138 := Tryz.func180.trans (congrArg some (by kernel_rfl))
  f143 := Tryz.func181.trans (congrArg some (by kernel_rfl))
  f146 := Tryz.func112.trans (congrArg some (by kernel_rfl))
  f195 := Tryz.func206.trans (congrArg some (by kernel_rfl))
  f197 := Tryz.func207.trans (congrArg some (by kernel_rfl))
  f217 := Tryz.func218.trans (congrArg some (by kernel_rfl))
  f218 := Tryz.func208.trans (congrArg some (by kernel_rfl))
  f219 := Tryz.func195.trans (congrArg some (by kernel_rfl))
  f221 := Tryz.func137.trans (congrArg some (by kernel_rfl))
  f224 := Tryz.func220.trans (congrArg some (by kernel_rfl))
  f225 := Tryz.func219.trans (congrArg some (by kernel_rfl))
  f260 := Tryz.func237.trans (congrArg some (by kernel_rfl))
  f266 := Tryz.func246.trans (congrArg some (by kernel_rfl))
  f267 := Tryz.func221.trans (congrArg some (by kernel_rfl))
  f268 := Tryz.func179.trans (congrArg some (by kernel_rfl))
  f314 := Tryz.func247.trans (congrArg some (by kernel_rfl))
  t0 := Tryz.underlying0
  a0 := Tryz.isAgg0
  z0 := Tryz.sizeOf0
  v0 := Tryz.zeroValue0
  t3 := Tryz.underlying3
  a3 := Tryz.isAgg3
  z3 := Tryz.sizeOf3
  v3 := Tryz.zeroValue3
  t4 := Tryz.underlying4
  a4 := Tryz.isAgg4
  z4 := Tryz.sizeOf4
  v4 := Tryz.zeroValue4
  t5 := Tryz.underlying5
  a5 := Tryz.isAgg5
  z5 := Tryz.sizeOf5
  v5 := Tryz.zeroValue5
  t9 := Tryz.underlying9
  a9 := Tryz.isAgg9
  z9 := Tryz.sizeOf9
  v9 := Tryz.zeroValue9
  t21 := Tryz.underlying21
  a21 := Tryz.isAgg21
  z21 := Tryz.sizeOf21
  v21 := Tryz.zeroValue21
  t31 := Tryz.underlying23
  a31 := Tryz.isAgg23
  z31 := Tryz.sizeOf23
  v31 := Tryz.zeroValue23
  t46 := Tryz.underlying274
  a46 := Tryz.isAgg274
  z46 := Tryz.sizeOf274
  v46 := Tryz.zeroValue274
  t51 := Tryz.underlying310
  a51 := Tryz.isAgg310
  z51 := Tryz.sizeOf310
  v51 := Tryz.zeroValue310
  t105 := Tryz.underlying261
  a105 := Tryz.isAgg261
  z105 := Tryz.sizeOf261
  v105 := Tryz.zeroValue261
  t119 := Tryz.underlying358
  a119 := Tryz.isAgg358
  z119 := Tryz.sizeOf358
  t138 := Tryz.underlying360
  a138 := Tryz.isAgg360
  z138 := Tryz.sizeOf360
  v138 := Tryz.zeroValue360
  t139 := Tryz.underlying361
  a139 := Tryz.isAgg361
  z139 := Tryz.sizeOf361
  v139 := Tryz.zeroValue361
  t146 := Tryz.underlying311
  a146 := Tryz.isAgg311
  z146 := Tryz.sizeOf311
  v146 := Tryz.zeroValue311
  g1 := by kernel_rfl
  g3 := by kernel_rfl
  g4 := by kernel_rfl }
def Tryz.lays147_ren : Go.Shelf.Ren := ⟨fun | 147 => 171 | 221 => 137 | 268 => 179 | 138 => 180 | 143 => 181 | 195 => 206 | 197 => 207 | 218 => 208 | 219 => 195 | 260 => 237 | 217 => 218 | 225 => 219 | 224 => 220 | 267 => 221 | 266 => 246 | 314 => 247 | n => n, fun | 9 => 9 | 3 => 3 | 31 => 23 | 4 => 4 | 0 => 0 | 105 => 261 | 21 => 21 | 5 => 5 | 46 => 274 | 119 => 358 | 139 => 361 | 138 => 360 | 146 => 311 | 51 => 310 | n => n, fun | 1 => 0 | 3 => 4 | 4 => 5 | n => n⟩
theorem Tryz.lays147 : Go.Proofs.Lays.n147 Tryz.prog Tryz.lays147_ren := {
  mixed := by kernel_rfl
  f138 := Tryz.func180.trans (congrArg some (by kernel_rfl))
  f143 := Tryz.func181.trans (congrArg some (by kernel_rfl))
  f147 := Tryz.func171.trans (congrArg some (by kernel_rfl))
  f195 := Tryz.func206.trans (congrArg some (by kernel_rfl))
  f197 := Tryz.func207.trans (congrArg some (by kernel_rfl))
  f217 := Tryz.func218.trans (congrArg some (by kernel_rfl))
  f218 := Tryz.func208.trans (congrArg some (by kernel_rfl))
  f219 := Tryz.func195.trans (congrArg some (by kernel_rfl))
  f221 := Tryz.func137.trans (congrArg some (by kernel_rfl))
  f224 := Tryz.func220.trans (congrArg some (by kernel_rfl))
  f225 := Tryz.func219.trans (congrArg some (by kernel_rfl))
  f260 := Tryz.func237.trans (congrArg some (by kernel_rfl))
  f266 := Tryz.func246.trans (congrArg some (by kernel_rfl))
  f267 := Tryz.func221.trans (congrArg some (by kernel_rfl))
  f268 := Tryz.func179.trans (congrArg some (by kernel_rfl))
  f314 := Tryz.func247.trans (congrArg some (by kernel_rfl))
  t0 := Tryz.underlying0
  a0 := Tryz.isAgg0
  z0 := Tryz.sizeOf0
  v0 := Tryz.zeroValue0
  t3 := Tryz.underlying3
  a3 := Tryz.isAgg3
  z3 := Tryz.sizeOf3
  v3 := Tryz.zeroValue3
  t4 := Tryz.underlying4
  a4 := Tryz.isAgg4
  z4 := Tryz.sizeOf4
  v4 := Tryz.zeroValue4
  t5 := Tryz.underlying5
  a5 := Tryz.isAgg5
  z5 := Tryz.sizeOf5
  v5 := Tryz.zeroValue5
  t9 := Tryz.underlying9
  a9 := Tryz.isAgg9
  z9 := Tryz.sizeOf9
  v9 := Tryz.zeroValue9
  t21 := Tryz.underlying21
  a21 := Tryz.isAgg21
  z21 := Tryz.sizeOf21
  v21 := Tryz.zeroValue21
  t31 := Tryz.underlying23
  a31 := Tryz.isAgg23
  z31 := Tryz.sizeOf23
  v31 := Tryz.zeroValue23
  t46 := Tryz.underlying274
  a46 := Tryz.isAgg274
  z46 := Tryz.sizeOf274
  v46 := Tryz.zeroValue274
  t51 := Tryz.underlying310
  a51 := Tryz.isAgg310
  z51 := Tryz.sizeOf310
  v51 := Tryz.zeroValue310
  t105 := Tryz.underlying261
  a105 := Tryz.isAgg261
  z105 := Tryz.sizeOf261
  v105 := Tryz.zeroValue261
  t119 := Tryz.underlying358
  a119 := Tryz.isAgg358
  z119 := Tryz.sizeOf358
  t138 := Tryz.underlying360
  a138 := Tryz.isAgg360
  z138 := Tryz.sizeOf360
  v138 := Tryz.zeroValue360
  t139 := Tryz.underlying361
  a139 := Tryz.isAgg361
  z139 := Tryz.sizeOf361
  v139 := Tryz.zeroValue361
  t146 := Tryz.underlying311
  a146 := Tryz.isAgg311
  z146 := Tryz.sizeOf311
  v146 := Tryz.zeroValue311
  g1 := by kernel_rfl
  g3 := by kernel_rfl
  g4 := by kernel_rfl }
end Go.Proofs
namespace Go.Proofs.Tryz
open Go.Fw Go.IntWalk Go.Plain
set_option maxRecDepth 100000
set_option maxHeartbeats 8000000
theorem lgl_max : (0, [SC.num .i64]) ∈ cx.gl := List.mem_of_getElem? (i := 0) (by kernel_rfl)
theorem lgl_pow : (6, Lib.pow10Tab.map fun z => SC.lit (.int .u64 z)) ∈ cx.gl := List.mem_of_getElem? (i := 4) (by kernel_rfl)
theorem litoa_sat (n : Int) (h : -9223372036854775808 ≤ n ∧ n ≤ 9223372036854775807) : Sat cx.P cx.gl 139 [(false, [.lit (.int .i64 n)])] (.one (SS (Lib.itoa n))) := itoa_gen laysM171 (by kernel_rfl) (g := 6) (by kernel_rfl) lgl_pow n h
theorem latoi_sat (s : List UInt8) (hl : s.length ≤ 1000000) {v : Int} (h : Lib.atoiAll s = .ok v) : Sat cx.P cx.gl 138 [SS s] (.tup [(false, [.lit (.int .i64 v)]), (false, [.lit .nilIface])]) := atoi_ok laysC172 (by kernel_rfl) s hl h
theorem ltrimPrefix_sat (s p : List UInt8) : Sat cx.P cx.gl 140 [SS s, SS p] (.one (SS (Lib.trimPrefix s p))) := trimPrefix_gen lays101 (by kernel_rfl) s p
theorem lsplit_sat (s : List UInt8) (c : UInt8) (hl : s.length ≤ 1000000) : Sat cx.P cx.gl 112 [SS s, SS [c]] (strL (spl c.toNat s)) := by
  have h := cutS_spl s c
  rw [← h.1]
  exact split_gen lays146 (by kernel_rfl) (by kernel_rfl) lgl_max s c hl h.2
theorem lsplitN_sat (s : List UInt8) (c : UInt8) (n : Nat) (hl : s.length ≤ 1000000) (h1 : 1 ≤ n) (h2 : n ≤ 1000) : Sat cx.P cx.gl 171 [SS s, SS [c], (false, [.lit (.int .i64 n)])] (strL (splN c (min n (s.length + 1) - 1) s)) := splitN_gen lays147 (by kernel_rfl) (by kernel_rfl) lgl_max s c n hl h1 h2
theorem lcut_sat (s : List UInt8) (c : UInt8) (hl : s.length ≤ 1000000) : Sat cx.P cx.gl 120 [SS s, SS [c]] (.tup [SS (cutF c s).1, SS (cutF c s).2.1, (false, [.lit (.bool (cutF c s).2.2)])]) := by
  rw [← cutF_eq]
  exact cut_gen lays145 (by kernel_rfl) lgl_max s c hl
def nos : LibNos := ⟨112, 171, 120, 138, 139, 140⟩
theorem lib_ok : ∀ f a r, libF nos f a = .inr r → Sat cx.P cx.gl f a r := libF_ok nos lsplit_sat lsplitN_sat lcut_sat (fun s v hl h => latoi_sat s hl h) litoa_sat ltrimPrefix_sat
end Go.Proofs.Tryz
namespace Go.Proofs.Tryz
open Go.Fw Go.IntWalk
abbrev I (n : Int) : SV := (false, [.lit (.int .i64 n)])
abbrev Bo (b : Bool) : SV := (false, [.lit (.bool b)])
abbrev vI (n : Int) : Option DV := some (.val (false, [.st (.lit (.int .i64 n))]))
abbrev J (n : Int) : SC := .lit (.int .i64 n)
abbrev F2 (a b : Int) : SV := (true, [J a, J b])
theorem ints_elem {l : List Int} {i : Nat} (h : i < l.length) : (SC.ints l).elem (i : Int).toNat = some [J l[i]] := by
  simp [SC.elem, h]
theorem res_i {a b : Int} (h : a = b) : Res.one (I a) = .one (I b) := by rw [h]
theorem res_bo {a b : Bool} (h : a = b) : Res.one (Bo a) = .one (Bo b) := by rw [h]
def inR (n : Int) : Prop := -9223372036854775807 ≤ n ∧ n ≤ 9223372036854775807
def inI (n : Int) : Prop := -9223372036854775808 ≤ n ∧ n ≤ 9223372036854775807
theorem inR.i {n : Int} (h : inR n) : inI n := ⟨by have := h.1; omega, h.2⟩
theorem within_sat (n lo hi : Int) : Sat cx.P cx.gl 73 [I n, I lo, I hi] (.one (Bo (decide (lo ≤ n) && decide (n ≤ hi)))) := by
  refine Sat_of_awp (fn := f73) cx_ok (by kernel_rfl) (by kernel_rfl) rfl (by kernel_rfl) (Nat.le_of_ble_eq_true rfl) ?_
  repeat (first | refine oP rfl ?_ | (refine rG (fun _ h => h) ?_; conv => whnf) | (refine oN ?_; conv => whnf) | refine aS ?_ | (refine aR ?_; conv => whnf))
  refine opsA_if rfl rfl rfl (fun h => ?_) (fun h => ?_) <;> (try conv => whnf) <;> (repeat (first | refine oP rfl ?_ | (refine rG (fun _ h => h) ?_; conv => whnf) | (refine oN ?_; conv => whnf) | (refine aT ?_; conv => whnf) | refine oY rfl rfl rfl ?_ | (refine oZ rfl rfl rfl ?_; conv => whnf)))
  · simp [h, Bo]
  · simp [h, Bo]
theorem size_sat (n : Int) (h0 : -9223372036854775807 ≤ n) (h1 : n ≤ 9223372036854775807) : Sat cx.P cx.gl 286 [I n] (.one (I n.natAbs)) := by
  refine Sat_of_awp (fn := f286) cx_ok (by kernel_rfl) (by kernel_rfl) rfl (by kernel_rfl) (Nat.le_of_ble_eq_true rfl) ?_
  repeat (first | refine oP rfl ?_ | (refine rG (fun _ h => h) ?_; conv => whnf) | (refine oN ?_; conv => whnf) | refine aS ?_ | (refine aR ?_; conv => whnf) | (refine aT ?_; conv => whnf))
  have e : IntKind.i64.wrap (0 - n) = -n := by rw [i64_in _ (by omega)]; omega
  show Res.one (false, [SC.lit (Value.int .i64 (if IntKind.i64.wrap (0 - n) > n then IntKind.i64.wrap (0 - n) else n))]) = _
  rw [e]
  have : (if -n > n then -n else n) = n.natAbs := by split <;> omega
  rw [this]
theorem gcd_sat (a b : Int) (ha : inI a) (hb : inR b) (hab : a = -9223372036854775808 → b ≠ 0) : Sat cx.P cx.gl 245 [I a, I b] (.one (I (Int.gcd a b))) := by
  refine Sat_of_awp (fn := f245) cx_ok (by kernel_rfl) (by kernel_rfl) rfl (by kernel_rfl) (Nat.le_of_ble_eq_true rfl) ?_
  repeat (first | refine oP rfl ?_ | (refine rG (fun _ h => h) ?_; conv => whnf) | (refine oN ?_; conv => whnf) | refine aS ?_ | (refine aR ?_; conv => whnf) | refine aB ?_ | refine aL ?_)
  refine loop_ind (ι := Int × Int) (fun p => Int.gcd p.1 p.2 = Int.gcd a b ∧ inI p.1 ∧ inR p.2 ∧ (p.1 = -9223372036854775808 → p.2 ≠ 0)) (fun p => p.2.natAbs) (fun p => ⟨[(0, vI p.1), (1, vI p.2)], [], 0⟩) (a, b)
    (canon_sub (ks := [0, 1]) (m := []) (n := 0) rfl) ⟨rfl, ha, hb, hab⟩ ?_
  rintro ⟨x, y⟩ ⟨hg, hx, hy, hxy⟩
  simp only at hg hx hy hxy
  repeat (first | refine oP rfl ?_ | (refine rG (fun _ h => h) ?_; conv => whnf) | (refine oN ?_; conv => whnf) | refine aS ?_ | (refine aR ?_; conv => whnf) | refine aC rfl ?_)
  (refine br_intro (fun h => ?_) (fun h => ?_)) <;> (try conv => whnf) <;> (repeat (first | refine oP rfl ?_ | (refine rG (fun _ h => h) ?_; conv => whnf) | refine aS ?_ | (refine aR ?_; conv => whnf) | (refine aK ?_; conv => whnf) | (refine aX ?_; conv => whnf) | refine aB ?_))
  · have h : (y != 0) = true := h
    have hne : y ≠ 0 := by simpa using h
    refine rG (fun _ h => ⟨hne, h⟩) ?_; (conv => whnf); repeat (first | refine oP rfl ?_ | (refine rG (fun _ h => h) ?_; conv => whnf) | (refine oN ?_; conv => whnf) | (refine dI (by kernel_rfl) ?_; conv => whnf))
    have hy1 := hy.1; have hy2 := hy.2
    refine ⟨(y, x.tmod y), ⟨?_, ⟨by simp only; omega, hy2⟩, ?_, fun e => absurd e (by simp only; omega)⟩, ?_, canon_sub (ks := [0, 1]) (m := []) (n := 0) rfl⟩
    · show Int.gcd y (x.tmod y) = _
      rw [← hg]
      show Nat.gcd y.natAbs (x.tmod y).natAbs = Nat.gcd x.natAbs y.natAbs
      rw [Int.natAbs_tmod, Nat.gcd_comm x.natAbs y.natAbs, Nat.gcd_rec y.natAbs x.natAbs, Nat.gcd_comm]
    · have h1 : (x.tmod y).natAbs = x.natAbs % y.natAbs := Int.natAbs_tmod _ _
      have h2 : x.natAbs % y.natAbs < y.natAbs := Nat.mod_lt _ (by omega)
      show -9223372036854775807 ≤ x.tmod y ∧ x.tmod y ≤ 9223372036854775807
      omega
    · show (x.tmod y).natAbs < y.natAbs
      rw [Int.natAbs_tmod]; exact Nat.mod_lt _ (by omega)
  · have h : (y != 0) = false := h
    have h0 : y = 0 := by simpa using h
    subst h0
    have hx1 := hx.1; have hx2 := hx.2
    have hx3 : x ≠ -9223372036854775808 := fun e => hxy e rfl
    refine rG (fun _ h => ⟨_, size_sat x (by omega) hx2, h⟩) ?_; (conv => whnf); repeat (first | refine oP rfl ?_ | (refine rG (fun _ h => h) ?_; conv => whnf) | (refine oN ?_; conv => whnf) | (refine aT ?_; conv => whnf))
    exact res_i (by rw [← hg]; simp)
end Go.Proofs.Tryz
namespace Go.Proofs.Tryz
open Go.Fw Go.IntWalk
set_option maxRecDepth 100000
set_option maxHeartbeats 4000000
abbrev vL (l : List Int) : Option DV := some (.val (false, [.st (.ints l)]))
theorem isLowest_sat (n d : Int) (hn : inI n) (hd : inI d) : Sat cx.P cx.gl 216 [F2 n d] (.one (Bo (decide (0 < d ∧ Int.gcd n d = 1)))) := by
  refine Sat_of_awp (fn := f216) cx_ok (by kernel_rfl) (by kernel_rfl) rfl (by kernel_rfl) (Nat.le_of_ble_eq_true rfl) ?_
  repeat (first | refine oP rfl ?_ | (refine rG (fun _ h => h) ?_; conv => whnf) | (refine oN ?_; conv => whnf) | refine aS ?_ | (refine aR ?_; conv => whnf))
  (refine opsA_if rfl rfl rfl (fun h => ?_) (fun h => ?_)) <;> (try conv => whnf) <;> (repeat (first | refine oP rfl ?_ | (refine rG (fun _ h => h) ?_; conv => whnf) | (refine oN ?_; conv => whnf) | (refine aT ?_; conv => whnf) | refine oY rfl rfl rfl ?_ | (refine oZ rfl rfl rfl ?_; conv => whnf)))
  · have h : decide (d > 0) = true := h
    simp at h
    have := hd.2
    refine rG (fun _ h => ⟨_, gcd_sat n d hn ⟨by omega, by omega⟩ (fun _ => by omega), h⟩) ?_; (conv => whnf); repeat (first | refine oP rfl ?_ | (refine rG (fun _ h => h) ?_; conv => whnf) | (refine oN ?_; conv => whnf) | (refine aT ?_; conv => whnf) | refine oY rfl rfl rfl ?_)
    exact res_bo (by rw [Bool.eq_iff_iff]; simp [h]; omega)
  · have h : decide (d > 0) = false := h
    simp at h
    exact res_bo (by simp; omega)
end Go.Proofs.Tryz
namespace Go.Proofs.Tryz
open Go.Fw Go.IntWalk
set_option maxRecDepth 100000
set_option maxHeartbeats 4000000
theorem wDivisor_sat (a b : Int) (ha : inI a) (hb : inR b) (hab : a = -9223372036854775808 → b ≠ 0) : Sat cx.P cx.gl 189 [I a, I b] (.one (I (Int.gcd a b))) := by
  refine Sat_of_awp (fn := f189) cx_ok (by kernel_rfl) (by kernel_rfl) rfl (by kernel_rfl) (Nat.le_of_ble_eq_true rfl) ?_
  repeat (first | refine oP rfl ?_ | (refine rG (fun _ h => h) ?_; conv => whnf) | (refine oN ?_; conv => whnf) | refine aS ?_ | (refine aR ?_; conv => whnf) | refine aB ?_ | refine aL ?_)
  refine loop_ind (ι := Int × Int) (fun p => Int.gcd p.1 p.2 = Int.gcd a b ∧ inI p.1 ∧ inR p.2 ∧ (p.1 = -9223372036854775808 → p.2 ≠ 0)) (fun p => p.2.natAbs) (fun p => ⟨[(0, vI p.1), (1, vI p.2)], [], 0⟩) (a, b)
    (canon_sub (ks := [0, 1]) (m := []) (n := 0) rfl) ⟨rfl, ha, hb, hab⟩ ?_
  rintro ⟨x, y⟩ ⟨hg, hx, hy, hxy⟩
  simp only at hg hx hy hxy
  repeat (first | refine oP rfl ?_ | (refine rG (fun _ h => h) ?_; conv => whnf) | (refine oN ?_; conv => whnf) | refine aS ?_ | (refine aR ?_; conv => whnf) | refine aC rfl ?_)
  (refine br_intro (fun h => ?_) (fun h => ?_)) <;> (try conv => whnf) <;> (repeat (first | refine oP rfl ?_ | (refine rG (fun _ h => h) ?_; conv => whnf) | (refine oN ?_; conv => whnf) | refine aS ?_ | (refine aR ?_; conv => whnf) | (refine aK ?_; conv => whnf) | (refine aX ?_; conv => whnf) | refine aB ?_ | (refine aT ?_; conv => whnf)))
  · have h : (y != 0) = true := h
    have hne : y ≠ 0 := by simpa using h
    refine rG (fun _ h => ⟨hne, h⟩) ?_; (conv => whnf); repeat (first | refine oP rfl ?_ | (refine rG (fun _ h => h) ?_; conv => whnf) | (refine oN ?_; conv => whnf) | (refine dI (by kernel_rfl) ?_; conv => whnf))
    have hy1 := hy.1; have hy2 := hy.2
    refine ⟨(y, x.tmod y), ⟨?_, ⟨by simp only; omega, hy2⟩, ?_, fun e => absurd e (by simp only; omega)⟩, ?_, canon_sub (ks := [0, 1]) (m := []) (n := 0) rfl⟩
    · show Int.gcd y (x.tmod y) = _
      rw [← hg]
      show Nat.gcd y.natAbs (x.tmod y).natAbs = Nat.gcd x.natAbs y.natAbs
      rw [Int.natAbs_tmod, Nat.gcd_comm x.natAbs y.natAbs, Nat.gcd_rec y.natAbs x.natAbs, Nat.gcd_comm]
    · have h1 : (x.tmod y).natAbs = x.natAbs % y.natAbs := Int.natAbs_tmod _ _
      have h2 : x.natAbs % y.natAbs < y.natAbs := Nat.mod_lt _ (by omega)
      show -9223372036854775807 ≤ x.tmod y ∧ x.tmod y ≤ 9223372036854775807
      omega
    · show (x.tmod y).natAbs < y.natAbs
      rw [Int.natAbs_tmod]; exact Nat.mod_lt _ (by omega)
  · have h : (y != 0) = false := h
    have h0 : y = 0 := by simpa using h
    subst h0
    have hx1 := hx.1; have hx2 := hx.2
    have hx3 : x ≠ -9223372036854775808 := fun e => hxy e rfl
    have e : IntKind.i64.wrap (0 - x) = -x := by rw [i64_in _ (by omega)]; omega
    show Res.one (I (if IntKind.i64.wrap (0 - x) > x then IntKind.i64.wrap (0 - x) else x)) = Res.one (I (Int.gcd a b))
    refine res_i ?_
    rw [← hg, e]
    have : (if -x > x then -x else x) = x.natAbs := by split <;> omega
    rw [this]; simp
theorem wUnless_sat (b : Bool) (e : Int) : Sat cx.P cx.gl 144 [Bo b, I e] (.one (I (if b then 0 else e))) := by
  refine Sat_of_awp (fn := f144) cx_ok (by kernel_rfl) (by kernel_rfl) rfl (by kernel_rfl) (Nat.le_of_ble_eq_true rfl) ?_
  repeat (first | refine oP rfl ?_ | (refine rG (fun _ h => h) ?_; conv => whnf) | (refine oN ?_; conv => whnf) | refine aS ?_ | (refine aR ?_; conv => whnf) | refine aC rfl ?_)
  (refine br_intro (fun h => ?_) (fun h => ?_)) <;> (try conv => whnf) <;> (repeat (first | refine oP rfl ?_ | (refine rG (fun _ h => h) ?_; conv => whnf) | (refine oN ?_; conv => whnf) | refine aS ?_ | (refine aR ?_; conv => whnf) | (refine aK ?_; conv => whnf) | (refine aT ?_; conv => whnf)))
  · exact res_i (by simp [h])
  · exact res_i (by simp [h])
theorem wFirst_sat (l : List Int) (hl : l.length ≤ 1000000) : Sat cx.P cx.gl 143 [(false, [.ints l])] (.one (I ((l.find? (· ≠ 0)).getD 0))) := by
  refine Sat_of_awp (fn := f143) cx_ok (by kernel_rfl) (by kernel_rfl) rfl (by kernel_rfl) (Nat.le_of_ble_eq_true rfl) ?_
  repeat (first | refine oP rfl ?_ | (refine rG (fun _ h => h) ?_; conv => whnf) | (refine oN ?_; conv => whnf) | refine aS ?_ | (refine aR ?_; conv => whnf) | refine aB ?_ | refine aL ?_)
  refine loop_ind (ι := Nat) (fun i => i ≤ l.length ∧ l.find? (· ≠ 0) = (l.drop i).find? (· ≠ 0)) (fun i => l.length - i) (fun i => ⟨[(5, vL l), (6, vI l.length), (7, vI i)], [], 0⟩) 0
    (canon_sub (ks := [5, 6, 7]) (m := []) (n := 0) rfl) ⟨Nat.zero_le _, rfl⟩ ?_
  rintro i ⟨hi, hf⟩
  repeat (first | refine oP rfl ?_ | (refine rG (fun _ h => h) ?_; conv => whnf) | (refine oN ?_; conv => whnf) | refine aS ?_ | (refine aR ?_; conv => whnf) | refine aC rfl ?_)
  (refine br_intro (fun h => ?_) (fun h => ?_)) <;> (try conv => whnf) <;> (repeat (first | refine oP rfl ?_ | (refine rG (fun _ h => h) ?_; conv => whnf) | (refine oN ?_; conv => whnf) | refine aS ?_ | (refine aR ?_; conv => whnf) | (refine aK ?_; conv => whnf) | (refine aX ?_; conv => whnf) | refine aB ?_ | (refine aT ?_; conv => whnf)))
  · have hlt : i < l.length := by simpa using h
    have hd : l.drop i = l[i] :: l.drop (i + 1) := List.drop_eq_getElem_cons hlt
    refine rG (fun _ h => ⟨Int.natCast_nonneg i, [J l[i]], ints_elem hlt, rfl, h⟩) ?_; (conv => whnf); repeat (first | refine oP rfl ?_ | (refine rG (fun _ h => h) ?_; conv => whnf) | (refine oN ?_; conv => whnf) | refine aS ?_ | (refine aR ?_; conv => whnf) | refine aC rfl ?_)
    (refine br_intro (fun h => ?_) (fun h => ?_)) <;> (try conv => whnf) <;> (repeat (first | refine oP rfl ?_ | (refine rG (fun _ h => h) ?_; conv => whnf) | (refine oN ?_; conv => whnf) | refine aS ?_ | (refine aR ?_; conv => whnf) | (refine aK ?_; conv => whnf) | (refine aT ?_; conv => whnf)))
    · have h : (l[i] != 0) = true := h
      exact res_i (by simp at h; rw [hf, hd, List.find?_cons_of_pos (by simpa using h)]; rfl)
    · have h : (l[i] != 0) = false := h
      refine ⟨i + 1, ⟨hlt, ?_⟩, by omega, canon_sub (ks := [5, 6, 7]) (m := []) (n := 0) ?_⟩
      · rw [hf, hd]; simp at h; simp [h]
      · have e : IntKind.i64.wrap (i + 1) = ((i + 1 : Nat) : Int) := by rw [i64_in _ (by omega)]; simp
        rw [← e]; rfl
  · have h : decide ((i : Int) < l.length) = false := h
    have : i = l.length := by simp at h; omega
    subst this
    exact res_i (by rw [hf]; simp)
end Go.Proofs.Tryz
namespace Go.Proofs.Tryz
open Go.Fw Go.IntWalk
set_option maxRecDepth 100000
set_option maxHeartbeats 4000000
end Go.Proofs.Tryz
namespace Go.Proofs.Tryz
open Go.Fw Go.IntWalk
set_option maxRecDepth 100000
set_option maxHeartbeats 4000000
abbrev F4 (a b c d : Int) : SV := (true, [J a, J b, J c, J d])
end Go.Proofs.Tryz
namespace Go.Proofs.Tryz
open Go.Fw Go.IntWalk
set_option maxRecDepth 100000
set_option maxHeartbeats 4000000
end Go.Proofs.Tryz
namespace Go.Proofs.Tryz
open Go.Fw Go.IntWalk
set_option maxRecDepth 100000
set_option maxHeartbeats 4000000
end Go.Proofs.Tryz
namespace Go.Proofs.Tryz
open Go.Fw Go.IntWalk
set_option maxRecDepth 100000
set_option maxHeartbeats 4000000
end Go.Proofs.Tryz
namespace Go.Proofs.Tryz
open Go.Fw Go.IntWalk Go.Plain
set_option maxRecDepth 100000
set_option maxHeartbeats 4000000
abbrev L (l : List Int) : SV := (false, [.ints l])
abbrev W2 (a b : List Int) : SV := (true, [.ints a, .ints b])
abbrev pP (id : Nat) : Option DV := some (one (.ptr id 0))
abbrev pO (id : Nat) : Option DV := some (one (.own id))
end Go.Proofs.Tryz
namespace Go.Proofs.Tryz
open Go.Fw Go.IntWalk Go.Plain
set_option maxRecDepth 100000
set_option maxHeartbeats 8000000
theorem within_p (n lo hi : Int) : Sat cx.P cx.gl 73 [I n, I lo, I hi] (.one (Bo (decide (lo ≤ n ∧ n ≤ hi)))) := by
  have := within_sat n lo hi
  rwa [← Bool.decide_and] at this
end Go.Proofs.Tryz
namespace Go.Proofs.Tryz
open Go.Fw Go.IntWalk Go.Plain
set_option maxRecDepth 100000
set_option maxHeartbeats 4000000
end Go.Proofs.Tryz
namespace Go.Proofs.Tryz
open Go.Fw Go.IntWalk Go.Plain
set_option maxRecDepth 100000
set_option maxHeartbeats 4000000
end Go.Proofs.Tryz
namespace Go.Proofs.Tryz
open Go.Fw Go.IntWalk Go.Plain
set_option maxRecDepth 100000
set_option maxHeartbeats 4000000
def okM (x : Int) : Prop := -1000000000 ≤ x ∧ x ≤ 1000000000
end Go.Proofs.Tryz
namespace Go.Proofs.Tryz
open Go.Fw Go.IntWalk Go.Plain
set_option maxRecDepth 100000
set_option maxHeartbeats 8000000
end Go.Proofs.Tryz
namespace Go.Proofs.Tryz
open Go.Fw Go.IntWalk Go.Plain
set_option maxRecDepth 100000
set_option maxHeartbeats 8000000
end Go.Proofs.Tryz
namespace Go.Proofs.Tryz
open Go.Fw Go.IntWalk Go.Plain
set_option maxRecDepth 100000
set_option maxHeartbeats 16000000
theorem cmp_sat (p q r s : Int) (h1 : -4611686018427387904 ≤ p * s ∧ p * s ≤ 4611686018427387903) (h2 : -4611686018427387904 ≤ r * q ∧ r * q ≤ 4611686018427387903) : Sat cx.P cx.gl 217 [F2 p q, F2 r s] (.one (I (cmpF p q r s))) := by
  unfold cmpF
  refine sF f217 ?_
  repeat' ((first | refine tG ?_ | exact True.intro | refine brp (fun h => ?_) fun h => ?_ | refine opsA_ifp rfl rfl rfl (fun h => ?_) fun h => ?_ | refine opsA_unlessp rfl rfl rfl (fun h => ?_) fun h => ?_) <;> (try conv => whnf))
  · rw [if_pos h]
  · rw [if_neg (by omega), if_pos h]
  · rw [if_neg (by omega), if_neg (by omega)]
end Go.Proofs.Tryz
