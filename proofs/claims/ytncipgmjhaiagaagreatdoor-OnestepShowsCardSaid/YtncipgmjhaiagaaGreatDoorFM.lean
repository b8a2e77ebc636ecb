/- A part. -/
import Derived.Test.YtncipgmjhaiagaaGreatDoorFL
set_option linter.all false
set_option maxRecDepth 20000
set_option maxHeartbeats 4000000
namespace Mv
open Go
def Aki:LC:=(.seq (sr [mt 22 0,
 A1 23 (.nilc (.t 22)),
 A1 24 (.fadr 3 (.t 23)),
 A1 25 (.load false 1 (.t 24))]
 (.cond (.t 25) (.ret) (.skip)))
 (.seq (sr [mt 26 0,
  A1 27 (.nilc (.t 26)),
  A1 28 (.fadr 2 (.t 27)),
  A1 29 (.load false 1 (.t 28)),
  A1 30 (.ari .geq (.t 29) (cU 8192))]
 (.cond (.t 30) (sr [mt 31 0,
  kl 32 342 [(.t 31),(cU 18446744073709551614)]]
 (.ret)) (.skip)))
 (.seq (.regd [⟨0,0,mt 34 0⟩,
  ⟨1,1,A1 35 (.nilc (.t 34))⟩,
  ⟨2,3,A1 36 (.fadr 0 (.t 35))⟩,
  ⟨3,7,A1 37 (.load false 1 (.t 36))⟩,
  ⟨4,0,mt 38 0⟩,
  ⟨5,16,A1 39 (.nilc (.t 38))⟩,
  ⟨6,48,A1 40 (.fadr 2 (.t 39))⟩,
  ⟨7,112,A1 41 (.load false 1 (.t 40))⟩,
  ⟨8,255,A1 42 (.isl 1 (.t 37) (.t 41))⟩,
  ⟨9,511,A1 43 (.load false 1 (.t 42))⟩,
  ⟨10,1023,kl 44 78 [(.t 43)]⟩,
  ⟨11,2047,mt 33 44⟩,
  ⟨12,4095,A1 45 (.ext (.t 33) 0)⟩,
  ⟨13,4095,A1 46 (.ext (.t 33) 1)⟩,
  ⟨14,4095,A1 47 (.ext (.t 33) 2)⟩,
  ⟨15,8191,mt 4 45⟩,
  ⟨16,49151,mt 5 46⟩,
  ⟨17,131071,mt 6 47⟩])
 (.seq (sr [mt 48 6,
  A1 49 (.un .not (.t 48))]
 (.cond (.t 49) (sr [mt 50 0,
  kl 51 342 [(.t 50),(cU 18446744073709551614)]]
 (.ret)) (.skip)))
 (sr [mt 52 0,
  A1 53 (.nilc (.t 52)),
  A1 54 (.fadr 1 (.t 53)),
  A1 55 (.load false 1 (.t 54)),
  mt 7 55]
 (sr [mt 56 4,
  A1 57 (.isl 1 (.t 56) (cI 0)),
  A1 58 (.load false 1 (.t 57)),
  mt 8 58]
 (.seq (.regd [⟨0,0,mt 59 7⟩,
  ⟨1,0,mt 60 4⟩,
  ⟨2,2,A1 61 (.isl 1 (.t 60) (cI 2))⟩,
  ⟨3,6,A1 62 (.load false 1 (.t 61))⟩,
  ⟨4,15,A1 63 (.isl 1 (.t 59) (.t 62))⟩,
  ⟨5,31,A1 64 (.load false 1 (.t 63))⟩,
  ⟨6,0,mt 65 7⟩,
  ⟨7,0,mt 66 4⟩,
  ⟨8,128,A1 67 (.isl 1 (.t 66) (cI 3))⟩,
  ⟨9,384,A1 68 (.load false 1 (.t 67))⟩,
  ⟨10,960,A1 69 (.isl 1 (.t 65) (.t 68))⟩,
  ⟨11,1984,A1 70 (.load false 1 (.t 69))⟩,
  ⟨12,63,mt 9 64⟩,
  ⟨13,8191,mt 10 70⟩])
 (sr [mt 71 0,
  A1 72 (.nilc (.t 71)),
  A1 73 (.fadr 2 (.t 72)),
  A1 74 (.load false 1 (.t 73)),
  A1 75 (.ari .add (.t 74) (cU 1)),
  mt 11 75]
 (.seq (.block 0 (sr [mt 77 8,
  A1 78 (.ari .eql (.t 77) (cI 0)),
  mt 76 78]
 (.cond (.t 76) (sr [mt 79 0,
  mt 80 9,
  kl 81 342 [(.t 79),(.t 80)]]
 (.ret)) (sr [mt 83 8,
  A1 84 (.ari .leq (.t 83) (cI 25)),
  mt 82 84]
 (.cond (.t 82) (sr [mt 86 8,
  mt 87 9,
  mt 88 10,
  mt 89 7,
  mt 90 4,
  A1 91 (.isl 1 (.t 90) (cI 4)),
  A1 92 (.load false 1 (.t 91)),
  A1 93 (.isl 1 (.t 89) (.t 92)),
  A1 94 (.load false 1 (.t 93)),
  kl 95 90 [(.t 86),(.t 87),(.t 88),(.t 94)],
  mt 85 95,
  A1 96 (.ext (.t 85) 0),
  A1 97 (.ext (.t 85) 1),
  mt 12 96,
  mt 13 97]
 (.reg [mt 98 7,
  mt 99 4,
  A1 100 (.isl 1 (.t 99) (cI 1)),
  A1 101 (.load false 1 (.t 100)),
  mt 102 12,
  A1 103 (.isl 1 (.t 98) (.t 101)),
  A0 (.store 1 (.t 103) (.t 102))])) (sr [mt 105 8,
  A1 106 (.ari .eql (.t 105) (cI 26)),
  mt 104 106]
 (.cond (.t 104) (.reg [mt 107 7,
  mt 108 4,
  A1 109 (.isl 1 (.t 108) (cI 1)),
  A1 110 (.load false 1 (.t 109)),
  mt 111 5,
  A1 112 (.isl 1 (.t 107) (.t 110)),
  A0 (.store 1 (.t 112) (.t 111))]) (sr [mt 114 8,
  A1 115 (.ari .eql (.t 114) (cI 27)),
  mt 116 115,
  A2 117 116 false (.mv (.t 8)),
  A2 118 116 false (.ari .eql (.t 117) (cI 28)),
  A1 119 (.pick (.t 116) (.c (.bool true)) (.t 118)),
  mt 113 119]
 (.cond (.t 113) (.seq (sr [mt 120 9,
  mt 121 5,
  A1 122 (.ari .add (.t 120) (.t 121)),
  A1 123 (.ari .geq (.t 122) (cU 8192))]
 (.cond (.t 123) (sr [mt 124 0,
  kl 125 342 [(.t 124),(cU 18446744073709551614)]]
 (.ret)) (.skip)))
 (sr [mt 126 8,
  A1 127 (.ari .eql (.t 126) (cI 27))]
 (.cond (.t 127) (.regd [⟨0,0,mt 128 7⟩,
  ⟨1,0,mt 129 4⟩,
  ⟨2,2,A1 130 (.isl 1 (.t 129) (cI 1))⟩,
  ⟨3,6,A1 131 (.load false 1 (.t 130))⟩,
  ⟨4,0,mt 132 0⟩,
  ⟨5,16,A1 133 (.nilc (.t 132))⟩,
  ⟨6,48,A1 134 (.fadr 0 (.t 133))⟩,
  ⟨7,112,A1 135 (.load false 1 (.t 134))⟩,
  ⟨8,0,mt 136 9⟩,
  ⟨9,0,mt 137 5⟩,
  ⟨10,768,A1 138 (.ari .add (.t 136) (.t 137))⟩,
  ⟨11,2032,A1 139 (.isl 1 (.t 135) (.t 138))⟩,
  ⟨12,4080,A1 140 (.load false 1 (.t 139))⟩,
  ⟨13,8191,A1 141 (.isl 1 (.t 128) (.t 131))⟩,
  ⟨14,16383,A0 (.store 1 (.t 141) (.t 140))⟩]) (.reg [mt 142 0,
  A1 143 (.nilc (.t 142)),
  A1 144 (.fadr 0 (.t 143)),
  A1 145 (.load false 1 (.t 144)),
  mt 146 9,
  mt 147 5,
  A1 148 (.ari .add (.t 146) (.t 147)),
  mt 149 10,
  A1 150 (.isl 1 (.t 145) (.t 148)),
  A0 (.store 1 (.t 150) (.t 149))])))) (sr [mt 152 8,
  A1 153 (.ari .leq (.t 152) (cI 33)),
  mt 151 153]
 (.cond (.t 151) (.seq (sr [mt 154 8,
  A1 155 (.ari .eql (.t 154) (cI 29)),
  mt 156 155,
  A2 157 156 false (.mv (.t 8)),
  A2 158 156 false (.ari .eql (.t 157) (cI 32)),
  A1 159 (.pick (.t 156) (.c (.bool true)) (.t 158)),
  mt 160 159,
  A2 161 160 false (.mv (.t 8)),
  A2 162 160 false (.ari .eql (.t 161) (cI 30)),
  A2 163 160 false (.mv (.t 162)),
  A2 164 163 true (.mv (.t 9)),
  A2 165 163 true (.ari .eql (.t 164) (cU 0)),
  A2 166 160 false (.pick (.t 163) (.t 165) (.c (.bool false))),
  A1 167 (.pick (.t 160) (.c (.bool true)) (.t 166)),
  mt 168 167,
  A2 169 168 false (.mv (.t 8)),
  A2 170 168 false (.ari .eql (.t 169) (cI 31)),
  A2 171 168 false (.mv (.t 170)),
  A2 172 171 true (.mv (.t 9)),
  A2 173 171 true (.ari .neq (.t 172) (cU 0)),
  A2 174 168 false (.pick (.t 171) (.t 173) (.c (.bool false))),
  A1 175 (.pick (.t 168) (.c (.bool true)) (.t 174))]
 (.cond (.t 175) (.reg [mt 176 5,
  mt 11 176]) (.skip)))
 (.seq (sr [mt 177 8,
  A1 178 (.ari .eql (.t 177) (cI 33))]
 (.cond (.t 178) (.reg [mt 179 9,
  mt 11 179]) (.skip)))
 (.seq (sr [mt 180 11,
  A1 181 (.ari .geq (.t 180) (cU 8192)),
  mt 182 181,
  A2 183 182 true (.mv (.t 11)),
  A2 184 182 true (.mv (.t 0)),
  A2 185 182 true (.nilc (.t 184)),
  A2 186 182 true (.fadr 2 (.t 185)),
  A2 187 182 true (.load false 1 (.t 186)),
  A2 188 182 true (.ari .add (.t 187) (cU 1)),
  A2 189 182 true (.ari .neq (.t 183) (.t 188)),
  A2 190 182 true (.mv (.t 189)),
  A2 191 190 false (.mv (.t 8)),
  A2 192 190 false (.ari .eql (.t 191) (cI 29)),
  A2 193 182 true (.pick (.t 190) (.c (.bool true)) (.t 192)),
  A2 194 182 true (.mv (.t 193)),
  A2 195 194 false (.mv (.t 8)),
  A2 196 194 false (.ari .eql (.t 195) (cI 32)),
  A2 197 182 true (.pick (.t 194) (.c (.bool true)) (.t 196)),
  A2 198 182 true (.mv (.t 197)),
  A2 199 198 false (.mv (.t 8)),
  A2 200 198 false (.ari .eql (.t 199) (cI 33)),
  A2 201 182 true (.pick (.t 198) (.c (.bool true)) (.t 200)),
  A2 202 182 true (.mv (.t 201)),
  A2 203 202 false (.mv (.t 8)),
  A2 204 202 false (.ari .eql (.t 203) (cI 30)),
  A2 205 202 false (.mv (.t 204)),
  A2 206 205 true (.mv (.t 9)),
  A2 207 205 true (.ari .eql (.t 206) (cU 0)),
  A2 208 202 false (.pick (.t 205) (.t 207) (.c (.bool false))),
  A2 209 182 true (.pick (.t 202) (.c (.bool true)) (.t 208)),
  A2 210 182 true (.mv (.t 209)),
  A2 211 210 false (.mv (.t 8)),
  A2 212 210 false (.ari .eql (.t 211) (cI 31)),
  A2 213 210 false (.mv (.t 212)),
  A2 214 213 true (.mv (.t 9)),
  A2 215 213 true (.ari .neq (.t 214) (cU 0)),
  A2 216 210 false (.pick (.t 213) (.t 215) (.c (.bool false))),
  A2 217 182 true (.pick (.t 210) (.c (.bool true)) (.t 216)),
  A1 218 (.pick (.t 182) (.t 217) (.c (.bool false)))]
 (.cond (.t 218) (sr [mt 219 0,
  kl 220 342 [(.t 219),(cU 18446744073709551614)]]
 (.ret)) (.skip)))
 (sr [mt 221 8,
  A1 222 (.ari .eql (.t 221) (cI 32))]
 (.cond (.t 222) (.regd [⟨0,0,mt 223 7⟩,
  ⟨1,0,mt 224 4⟩,
  ⟨2,2,A1 225 (.isl 1 (.t 224) (cI 1))⟩,
  ⟨3,6,A1 226 (.load false 1 (.t 225))⟩,
  ⟨4,0,mt 227 0⟩,
  ⟨5,16,A1 228 (.nilc (.t 227))⟩,
  ⟨6,48,A1 229 (.fadr 2 (.t 228))⟩,
  ⟨7,112,A1 230 (.load false 1 (.t 229))⟩,
  ⟨8,240,A1 231 (.ari .add (.t 230) (cU 1))⟩,
  ⟨9,511,A1 232 (.isl 1 (.t 223) (.t 226))⟩,
  ⟨10,1023,A0 (.store 1 (.t 232) (.t 231))⟩]) (.skip)))))) (sr [mt 234 8,
  A1 235 (.ari .eql (.t 234) (cI 34)),
  mt 233 235]
 (.cond (.t 233) (.seq (sr [mt 236 9,
  kl 237 343 [(.t 236),(cU 8)],
  A1 238 (.un .not (.t 237)),
  mt 239 238,
  A2 240 239 false (.mv (.t 10)),
  ⟨(some 241),.call 343 [(.t 240),(cU 4)],(some (239,false))⟩,
  A2 242 239 false (.un .not (.t 241)),
  A1 243 (.pick (.t 239) (.c (.bool true)) (.t 242))]
 (.cond (.t 243) (sr [mt 244 0,
  kl 245 342 [(.t 244),(cU 18446744073709551614)]]
 (.ret)) (.skip)))
 (sr [mt 246 1,
  mt 247 0,
  A1 248 (.nilc (.t 247)),
  A1 249 (.fadr 0 (.t 248)),
  A1 250 (.load false 1 (.t 249)),
  mt 251 9,
  mt 252 9,
  A1 253 (.ari .add (.t 252) (cU 8)),
  A1 254 (.slsl 1 (.t 250) (some (.t 251)) (some (.t 253))),
  kl 255 344 [(.t 254)],
  kl 256 219 [(.t 246),(.t 255)],
  A1 14 (.alloc (.ar 32 (.int .u8))),
  A0 (.store 32 (.t 14) (.t 256))]
 (sr [A1 15 (.mv (cU 0))]
 (.block 1 (.loop (.seq (sr [mt 257 15,
  A1 258 (.ari .lss (.t 257) (cU 32))]
 (.cond (.t 258) (.skip) (.exit 1)))
 (.seq (.block 2 (.regd [⟨0,0,mt 261 0⟩,
  ⟨1,1,A1 262 (.nilc (.t 261))⟩,
  ⟨2,3,A1 263 (.fadr 0 (.t 262))⟩,
  ⟨3,7,A1 264 (.load false 1 (.t 263))⟩,
  ⟨4,0,mt 265 10⟩,
  ⟨5,0,mt 266 15⟩,
  ⟨6,32,A1 267 (.ari .quo (.t 266) (cU 8))⟩,
  ⟨7,112,A1 268 (.ari .add (.t 265) (.t 267))⟩,
  ⟨8,0,mt 269 0⟩,
  ⟨9,256,A1 270 (.nilc (.t 269))⟩,
  ⟨10,768,A1 271 (.fadr 0 (.t 270))⟩,
  ⟨11,1792,A1 272 (.load false 1 (.t 271))⟩,
  ⟨12,0,mt 273 10⟩,
  ⟨13,0,mt 274 15⟩,
  ⟨14,8192,A1 275 (.ari .quo (.t 274) (cU 8))⟩,
  ⟨15,28672,A1 276 (.ari .add (.t 273) (.t 275))⟩,
  ⟨16,65280,A1 277 (.isl 1 (.t 272) (.t 276))⟩,
  ⟨17,130816,A1 278 (.load false 1 (.t 277))⟩,
  ⟨18,261888,A1 279 (.ari .mul (.t 278) (cU 256))⟩,
  ⟨19,0,mt 280 15⟩,
  ⟨20,524288,A1 281 (.iarr 32 1 (.t 14) (.t 280))⟩,
  ⟨21,1572864,A1 282 (.load false 1 (.t 281))⟩,
  ⟨22,3670016,A1 283 (.conv .u64 (.t 282))⟩,
  ⟨23,8388352,A1 284 (.ari .add (.t 279) (.t 283))⟩,
  ⟨24,16777215,A1 285 (.isl 1 (.t 264) (.t 268))⟩,
  ⟨25,33554431,A0 (.store 1 (.t 285) (.t 284))⟩]))
 (.reg [mt 259 15,
  A1 260 (.ari .add (.t 259) (cU 1)),
  mt 15 260])))))))) (sr [mt 287 8,
  A1 288 (.ari .eql (.t 287) (cI 35)),
  mt 286 288]
 (.cond (.t 286) (.seq (sr [mt 289 9,
  kl 290 343 [(.t 289),(cU 4)],
  A1 291 (.un .not (.t 290)),
  mt 292 291,
  A2 293 292 false (.mv (.t 10)),
  ⟨(some 294),.call 343 [(.t 293),(cU 8)],(some (292,false))⟩,
  A2 295 292 false (.un .not (.t 294)),
  A1 296 (.pick (.t 292) (.c (.bool true)) (.t 295))]
 (.cond (.t 296) (sr [mt 297 0,
  kl 298 342 [(.t 297),(cU 18446744073709551614)]]
 (.ret)) (.skip)))
 (sr [A1 299 (.bsl 1 0 (.int .u64) []),
  mt 300 0,
  A1 301 (.nilc (.t 300)),
  A1 302 (.fadr 0 (.t 301)),
  A1 303 (.load false 1 (.t 302)),
  mt 304 9,
  mt 305 9,
  A1 306 (.ari .add (.t 305) (cU 4)),
  A1 307 (.slsl 1 (.t 303) (some (.t 304)) (some (.t 306))),
  A1 308 (.app 1 8 (.t 299) (.t 307)),
  A1 309 (.bsl 1 4 (.int .u64) [(.i 1 0,1,(cU 0)),(.i 1 1,1,(cU 0)),(.i 1 2,1,(cU 0)),(.i 1 3,1,(cU 0))]),
  A1 310 (.app 1 8 (.t 308) (.t 309)),
  kl 311 344 [(.t 310)],
  A1 16 (.alloc (.ar 64 (.int .u8))),
  A0 (.store 64 (.t 16) (.t 311))]
 (sr [A1 17 (.alloc (.ar 32 (.int .u8)))]
 (.seq (sr [A1 18 (.mv (cI 0))]
 (.block 3 (.loop (.seq (sr [mt 312 18,
  A1 313 (.ari .lss (.t 312) (cI 32))]
 (.cond (.t 313) (.skip) (.exit 3)))
 (.seq (.block 4 (.reg [mt 316 18,
  mt 317 18,
  A1 318 (.iarr 64 1 (.t 16) (.t 317)),
  A1 319 (.load false 1 (.t 318)),
  A1 320 (.iarr 32 1 (.t 17) (.t 316)),
  A0 (.store 1 (.t 320) (.t 319))]))
 (.reg [mt 314 18,
  A1 315 (.ari .add (.t 314) (cI 1)),
  mt 18 315]))))))
 (sr [mt 322 1,
  A1 323 (.load true 32 (.t 17)),
  kl 324 345 [(.t 322),(.t 323)],
  mt 321 324,
  A1 325 (.ext (.t 321) 0),
  A1 326 (.ext (.t 321) 1),
  A1 19 (.alloc (.ar 64 (.int .u8))),
  A0 (.store 64 (.t 19) (.t 325)),
  mt 20 326]
 (.seq (sr [mt 327 20,
  A1 328 (.ari .neq (.t 327) (cI 0))]
 (.cond (.t 328) (sr [mt 329 0,
  kl 330 342 [(.t 329),(cU 18446744073709551615)]]
 (.ret)) (.skip)))
 (sr [A1 21 (.mv (cU 0))]
 (.block 5 (.loop (.seq (sr [mt 331 21,
  A1 332 (.ari .lss (.t 331) (cU 64))]
 (.cond (.t 332) (.skip) (.exit 5)))
 (.seq (.block 6 (.regd [⟨0,0,mt 335 0⟩,
  ⟨1,1,A1 336 (.nilc (.t 335))⟩,
  ⟨2,3,A1 337 (.fadr 0 (.t 336))⟩,
  ⟨3,7,A1 338 (.load false 1 (.t 337))⟩,
  ⟨4,0,mt 339 10⟩,
  ⟨5,0,mt 340 21⟩,
  ⟨6,32,A1 341 (.ari .quo (.t 340) (cU 8))⟩,
  ⟨7,112,A1 342 (.ari .add (.t 339) (.t 341))⟩,
  ⟨8,0,mt 343 0⟩,
  ⟨9,256,A1 344 (.nilc (.t 343))⟩,
  ⟨10,768,A1 345 (.fadr 0 (.t 344))⟩,
  ⟨11,1792,A1 346 (.load false 1 (.t 345))⟩,
  ⟨12,0,mt 347 10⟩,
  ⟨13,0,mt 348 21⟩,
  ⟨14,8192,A1 349 (.ari .quo (.t 348) (cU 8))⟩,
  ⟨15,28672,A1 350 (.ari .add (.t 347) (.t 349))⟩,
  ⟨16,65280,A1 351 (.isl 1 (.t 346) (.t 350))⟩,
  ⟨17,130816,A1 352 (.load false 1 (.t 351))⟩,
  ⟨18,261888,A1 353 (.ari .mul (.t 352) (cU 256))⟩,
  ⟨19,0,mt 354 21⟩,
  ⟨20,524288,A1 355 (.iarr 64 1 (.t 19) (.t 354))⟩,
  ⟨21,1572864,A1 356 (.load false 1 (.t 355))⟩,
  ⟨22,3670016,A1 357 (.conv .u64 (.t 356))⟩,
  ⟨23,8388352,A1 358 (.ari .add (.t 353) (.t 357))⟩,
  ⟨24,16777215,A1 359 (.isl 1 (.t 338) (.t 342))⟩,
  ⟨25,33554431,A0 (.store 1 (.t 359) (.t 358))⟩]))
 (.reg [mt 333 21,
  A1 334 (.ari .add (.t 333) (cU 1)),
  mt 21 334])))))))))))) (.skip))))))))))))))))
 (.reg [mt 360 0,
  mt 361 11,
  A1 362 (.nilc (.t 360)),
  A1 363 (.fadr 2 (.t 362)),
  A0 (.store 1 (.t 363) (.t 361))]))))))))))
def Af8:LF:=⟨Aki,2,0,364,[]⟩
def Aku:LC:=(sr [mt 4 0,
 A1 5 (.nilc (.t 4)),
 A1 6 (.fadr 3 (.t 5)),
 A0 (.store 1 (.t 6) (.c (.bool true)))]
 (.reg [mt 7 0,
  mt 8 1,
  A1 9 (.nilc (.t 7)),
  A1 10 (.fadr 4 (.t 9)),
  A0 (.store 1 (.t 10) (.t 8))]))
def Ago:LF:=⟨Aku,2,0,11,[]⟩
def Ama:LC:=(sr [A1 4 (.mv (.c (.bool false)))]
 (sr [mt 5 0,
  A1 6 (.ari .lss (.t 5) (cU 8192)),
  mt 7 6,
  A2 8 7 true (.mv (.t 0)),
  A2 9 7 true (.mv (.t 1)),
  A2 10 7 true (.ari .add (.t 8) (.t 9)),
  A2 11 7 true (.ari .leq (.t 10) (cU 8192)),
  A1 12 (.pick (.t 7) (.t 11) (.c (.bool false))),
  mt 4 12]
 (.ret)))
def Ahm:LF:=⟨Ama,2,0,13,[.tmp 4]⟩
def Ak7:LC:=(sr [A1 2 (.alloc (.ar 64 (.int .u8)))]
 (sr [A1 3 (.alloc (.ar 64 (.int .u8)))]
 (.seq (sr [A1 4 (.mv (cI 0))]
 (.block 0 (.loop (.seq (sr [mt 5 4,
  A1 6 (.ari .lss (.t 5) (cI 64))]
 (.cond (.t 6) (.skip) (.exit 0)))
 (.seq (.block 1 (.reg [mt 9 4,
  mt 10 0,
  mt 11 4,
  A1 12 (.ari .quo (.t 11) (cI 8)),
  A1 13 (.isl 1 (.t 10) (.t 12)),
  A1 14 (.load false 1 (.t 13)),
  mt 15 4,
  A1 16 (.ari .rem (.t 15) (cI 8)),
  A1 17 (.ari .mul (cI 8) (.t 16)),
  A1 18 (.ari .sub (cI 56) (.t 17)),
  A1 19 (.conv .u64 (.t 18)),
  A1 20 (.ari .shr (.t 14) (.t 19)),
  A1 21 (.conv .u8 (.t 20)),
  A1 22 (.iarr 64 1 (.t 3) (.t 9)),
  A0 (.store 1 (.t 22) (.t 21))]))
 (.reg [mt 7 4,
  A1 8 (.ari .add (.t 7) (cI 1)),
  mt 4 8]))))))
 (sr [A1 23 (.load true 64 (.t 3)),
  A0 (.store 64 (.t 2) (.t 23))]
 (.ret)))))
def Ahl:LF:=⟨Ak7,1,0,24,[.cell 2 true 64]⟩
def Af3:LC:=(sr [A1 3 (.box (.t 1)),
 A1 4 (.alloc (.ar 64 (.int .u8))),
 A1 5 (.mv (cI 0))]
 (sr [A1 6 (.mv (.c (.bool false)))]
 (.seq (sr [A1 7 (.mv (cI 0))]
 (.block 0 (.loop (.seq (sr [mt 9 7,
  mt 10 0,
  A1 11 (.nilc (.t 10)),
  A1 12 (.fadr 2 (.t 11)),
  A1 13 (.load false 1 (.t 12)),
  A1 14 (.len 0 (.t 13)),
  A1 15 (.ari .lss (.t 9) (.t 14))]
 (.cond (.t 15) (.skip) (.exit 0)))
 (.seq (.block 1 (.regd [⟨0,0,mt 18 6⟩,
  ⟨1,1,mt 19 18⟩,
  ⟨2,3,A2 20 19 false (.mv (.t 0))⟩,
  ⟨3,7,A2 21 19 false (.nilc (.t 20))⟩,
  ⟨4,15,A2 22 19 false (.fadr 2 (.t 21))⟩,
  ⟨5,31,A2 23 19 false (.load false 1 (.t 22))⟩,
  ⟨6,3,A2 24 19 false (.mv (.t 7))⟩,
  ⟨7,127,A2 25 19 false (.isl 32 (.t 23) (.t 24))⟩,
  ⟨8,255,A2 26 19 false (.load true 32 (.t 25))⟩,
  ⟨9,3,A2 27 19 false (.load true 32 (.t 3))⟩,
  ⟨10,1023,A2 28 19 false (.eq false false (.ar 32 1 false .int) (.t 26) (.t 27))⟩,
  ⟨11,2047,A1 29 (.pick (.t 19) (.c (.bool true)) (.t 28))⟩,
  ⟨12,4095,mt 6 29⟩]))
 (.reg [mt 16 7,
  A1 17 (.ari .add (.t 16) (cI 1)),
  mt 7 17]))))))
 (.seq (sr [mt 30 6,
  A1 31 (.un .not (.t 30))]
 (.cond (.t 31) (.regd [⟨1,0,mt 33 0⟩,
  ⟨2,1,A1 34 (.nilc (.t 33))⟩,
  ⟨3,3,A1 35 (.fadr 2 (.t 34))⟩,
  ⟨4,7,A1 36 (.load false 1 (.t 35))⟩,
  ⟨5,0,A1 37 (.load true 32 (.t 3))⟩,
  ⟨6,16,A1 38 (.bsl 32 1 (.ar 32 (.int .u8)) [(.i 32 0,32,(.t 37))])⟩,
  ⟨7,63,A1 39 (.app 32 32 (.t 36) (.t 38))⟩,
  ⟨0,0,mt 32 0⟩,
  ⟨8,255,A1 40 (.nilc (.t 32))⟩,
  ⟨9,511,A1 41 (.fadr 2 (.t 40))⟩,
  ⟨10,1023,A0 (.store 1 (.t 41) (.t 39))⟩]) (.skip)))
 (sr [mt 42 0,
  A1 43 (.load true 32 (.t 3)),
  kl 44 330 [(.t 42),(.t 43)],
  mt 8 44]
 (.seq (sr [mt 45 8,
  A1 46 (.ari .lss (.t 45) (cI 0))]
 (.cond (.t 46) (sr [A1 47 (.build (.ar 64 (.int .u8)) []),
  A0 (.store 64 (.t 4) (.t 47)),
  A1 5 (.mv (cI 14))]
 (.ret)) (.skip)))
 (sr [mt 48 0,
  A1 49 (.nilc (.t 48)),
  A1 50 (.fadr 1 (.t 49)),
  A1 51 (.load false 1 (.t 50)),
  mt 52 8,
  A1 53 (.isl 64 (.t 51) (.t 52)),
  A1 54 (.load true 64 (.t 53)),
  A0 (.store 64 (.t 4) (.t 54)),
  A1 5 (.mv (cI 0))]
 (.ret))))))))
def Aaw:LF:=⟨Af3,2,0,55,[.cell 4 true 64,.tmp 5]⟩
variable {M:Seat}
structure OkRM (M:Seat):Prop where
 k240:Al M 240 Af8=true
 k342:Al M 342 Ago=true
 k343:Al M 343 Ahm=true
 k344:Al M 344 Ahl=true
 rp:OkRP M
 x:OkX M
def Cc (f g:Nat→BitVec 64) (pc:BitVec 64) (hl:Bool) (xt:BitVec 64):Hp :=
 [(0,Ba 1 2 pc hl xt),(1,.ar 1 8192 (fun j=>W (f j))),(2,.ar 1 16 (fun j=>W (g j)))]
def N7:=(aq4 @Fj @Aki.eq_1 @Af8.eq_1 @Cc.eq_1)
theorem Anp (w:BitVec 64):rpt w 0=(AT w:Nat):=rfl
theorem Anf (w:BitVec 64):rpt w 1=(pF w 52:Nat):=rfl
theorem Am6 (w:BitVec 64):rpt w 2=(pF w 48:Nat):=rfl
theorem Anb (w:BitVec 64):rpt w 3=(pF w 44:Nat):=rfl
def Im:=(aq5 @Anp @Anf @Am6 @Anb @BD.eq_1)
theorem Al4 (w:BitVec 64):rpt w 4=(pF w 40:Nat):=rfl
def Jc:=(aq3 @Im @Fj @Al4)
theorem Bq (ok:OkRM M) (pc xt e:BitVec 64) (hl:Bool) :
 Af M 342 [.ptr 0 [],W e] [(0,Ba 1 2 pc hl xt)] 3 (Q3 (.tup .fnil) [(0,Ba 1 2 pc true e)] 3):=by
 refine Ac ok.k342 rfl fun x hx=>?_
 refine es 2000 ?_;(simp only [Ago,Aku,Fj,seval])
 have zz:=@Ba.eq_1;exact Bg hx [0,1,2] ⟨rfl,rfl,rfl⟩
theorem ML (ok:OkRM M) (f g:Nat→BitVec 64) (pc xt:BitVec 64) :
 Af M 240 [.ptr 0 [],.ptr 3 []] (Cc f g pc true xt) 4 (Q3 (.tup .fnil) (Cc f g pc true xt) 4):=by
 refine Ac ok.k240 rfl fun x hx=>?_
 refine es 2000 ?_;(simp only [N7,seval])
 have zz:=@Ba.eq_1;exact Bg hx [0,1,2,3] ⟨rfl,rfl,rfl⟩
theorem Ug (ok:OkRM M) (f g:Nat→BitVec 64) (pc xt:BitVec 64) (hpc:8192#64≤pc) :
 Af M 240 [.ptr 0 [],.ptr 3 []] (Cc f g pc false xt) 4 (Q3 (.tup .fnil) (Cc f g pc true Ap) 4):=by
 refine Ac ok.k240 rfl fun x hx=>?_
 refine es 2000 ?_;(simp only [N7,eq_true hpc,seval])
 have zz:=@Ba.eq_1;refine JO [0,1,2] [0] (Bq ok pc xt Ap false) ?_
 (simp only [Fj,seval])
 have zz:=@Ba.eq_1;exact Bg hx [0,1,2,3] ⟨rfl,rfl,rfl⟩
theorem Ut (ok:OkRM M) (f g:Nat→BitVec 64) (pc xt:BitVec 64) (hpc:¬ 8192#64≤pc) (w:BitVec 64) (hw:f pc.toNat=w) (h:Co w=false) :
 Af M 240 [.ptr 0 [],.ptr 3 []] (Cc f g pc false xt) 4 (Q3 (.tup .fnil) (Cc f g pc true Ap) 4):=by
 refine Ac ok.k240 rfl fun x hx=>?_
 have hp:pc.toNat < 8192:=BM
 refine es 2000 ?_;(simp only [N7,hpc,hw,seval])
 repeat refine sd ?_
 have zz:=@BD.eq_1;refine IM (Jq ok.rp w h) ?_
 (simp only [BD,Fj,seval])
 have zz:=@Ba.eq_1;refine JO [0,1,2] [0] (Bq ok pc xt Ap false) ?_
 (simp only [Fj,seval])
 have zz:=@Ba.eq_1;exact Bg hx [0,1,2,3] ⟨rfl,rfl,rfl⟩
theorem RE (ok:OkRM M) (f g:Nat→BitVec 64) (pc xt:BitVec 64) (hpc:¬ 8192#64≤pc) (w:BitVec 64) (hw:f pc.toNat=w) (hop:AT w=0) (h:Co w=true) :
 Af M 240 [.ptr 0 [],.ptr 3 []] (Cc f g pc false xt) 4 (Q3 (.tup .fnil) (Cc f g pc true (g (pF w 48))) 4):=by
 refine Ac ok.k240 rfl fun x hx=>?_
 have hp:pc.toNat < 8192:=BM
 have a1:=Ai w 52
 have a2:=Ai w 48
 have a3:=Ai w 44
 refine es 2000 ?_;(simp only [N7,hpc,hw,seval])
 repeat refine sd ?_
 have zz:=Im;refine IM (As ok.rp w h) ?_
 (simp only [Im,Fj,hop,seval])
 repeat refine sd ?_
 have zz:=@Ba.eq_1;refine JO [0,1,2] [0] (Bq ok pc xt (g (pF w 48)) false) ?_
 (simp only [Fj,seval])
 have zz:=@Ba.eq_1;exact Bg hx [0,1,2,3] ⟨rfl,rfl,rfl⟩
theorem PU (ok:OkRM M) (f g:Nat→BitVec 64) (pc xt:BitVec 64) (hpc:¬ 8192#64≤pc) (w:BitVec 64) (hw:f pc.toNat=w) (op:Nat) (h1:1≤op) (h25:op≤25) (hop:AT w=op) (h:Co w=true) :
 Af M 240 [.ptr 0 [],.ptr 3 []] (Cc f g pc false xt) 4 (Q3 (.tup .fnil) (Cc f (E9 g (pF w 52) (P1 op (g (pF w 48)) (g (pF w 44)) (g (pF w 40)))) (pc + 1#64) false xt) 4):=by
 have hv:=N6 ok.x op h1 h25 (g (pF w 48)) (g (pF w 44)) (g (pF w 40))
 refine Ac ok.k240 rfl fun x hx=>?_
 have hp:pc.toNat < 8192:=BM
 have a1:=Ai w 52
 have a2:=Ai w 48
 have a3:=Ai w 44
 have a4:=Ai w 40
 have d1:((op:Int)=0)=False:=eq_false Aa
 have d2:((op:Int)≤25)=True:=eq_true Aa
 refine es 2000 ?_;(simp only [N7,hpc,hw,seval])
 repeat refine sd ?_
 have zz:=Im;refine IM (As ok.rp w h) ?_
 (simp only [Jc,hop,d1,d2,seval])
 repeat refine sd ?_
 refine Ah (hv) ?_
 (simp only [Cb,Im,Al4,Ba,seval])
 repeat refine sd ?_
 have zz:=aq2 @Ba.eq_1 Og;exact Bg hx [0,1,2,3] ⟨rfl,rfl,rfl⟩
theorem Vt (ok:OkRM M) (f g:Nat→BitVec 64) (pc xt:BitVec 64) (hpc:¬ 8192#64≤pc) (w:BitVec 64) (hw:f pc.toNat=w) (hop:AT w=26) (h:Co w=true) :
 Af M 240 [.ptr 0 [],.ptr 3 []] (Cc f g pc false xt) 4 (Q3 (.tup .fnil) (Cc f (E9 g (pF w 52) (BitVec.ofInt 64 (pN w))) (pc + 1#64) false xt) 4):=by
 refine Ac ok.k240 rfl fun x hx=>?_
 have hp:pc.toNat < 8192:=BM
 have a1:=Ai w 52
 have a2:=Ai w 48
 have a3:=Ai w 44
 refine es 2000 ?_;(simp only [N7,hpc,hw,seval])
 repeat refine sd ?_
 have zz:=Im;refine IM (As ok.rp w h) ?_
 (simp only [Jc,hop,seval])
 repeat refine sd ?_
 have zz:=aq2 @Ba.eq_1 Og;exact Bg hx [0,1,2,3] ⟨rfl,rfl,rfl⟩
theorem Jv (ok:OkRM M) (f g:Nat→BitVec 64) (pc xt:BitVec 64) (hpc:¬ 8192#64≤pc) (w:BitVec 64) (hw:f pc.toNat=w) (hop:AT w=27) (h:Co w=true) (hx2:8192#64≤g (pF w 48) + BitVec.ofInt 64 (pN w)) :
 Af M 240 [.ptr 0 [],.ptr 3 []] (Cc f g pc false xt) 4 (Q3 (.tup .fnil) (Cc f g pc true Ap) 4):=by
 refine Ac ok.k240 rfl fun x hx=>?_
 have hp:pc.toNat < 8192:=BM
 have a1:=Ai w 52
 have a2:=Ai w 48
 have a3:=Ai w 44
 refine es 2000 ?_;(simp only [N7,hpc,hw,seval])
 repeat refine sd ?_
 have zz:=Im;refine IM (As ok.rp w h) ?_
 (simp only [Jc,hop,eq_true hx2,seval])
 repeat refine sd ?_
 have zz:=@Ba.eq_1;refine JO [0,1,2] [0] (Bq ok pc xt Ap false) ?_
 (simp only [Fj,seval])
 have zz:=@Ba.eq_1;exact Bg hx [0,1,2,3] ⟨rfl,rfl,rfl⟩
theorem IE (ok:OkRM M) (f g:Nat→BitVec 64) (pc xt:BitVec 64) (hpc:¬ 8192#64≤pc) (w:BitVec 64) (hw:f pc.toNat=w) (hop:AT w=28) (h:Co w=true) (hx2:8192#64≤g (pF w 48) + BitVec.ofInt 64 (pN w)) :
 Af M 240 [.ptr 0 [],.ptr 3 []] (Cc f g pc false xt) 4 (Q3 (.tup .fnil) (Cc f g pc true Ap) 4):=by
 refine Ac ok.k240 rfl fun x hx=>?_
 have hp:pc.toNat < 8192:=BM
 have a1:=Ai w 52
 have a2:=Ai w 48
 have a3:=Ai w 44
 refine es 2000 ?_;(simp only [N7,hpc,hw,seval])
 repeat refine sd ?_
 have zz:=Im;refine IM (As ok.rp w h) ?_
 (simp only [Jc,hop,eq_true hx2,seval])
 repeat refine sd ?_
 have zz:=@Ba.eq_1;refine JO [0,1,2] [0] (Bq ok pc xt Ap false) ?_
 (simp only [Fj,seval])
 have zz:=@Ba.eq_1;exact Bg hx [0,1,2,3] ⟨rfl,rfl,rfl⟩
theorem QS (ok:OkRM M) (f g:Nat→BitVec 64) (pc xt:BitVec 64) (hpc:¬ 8192#64≤pc) (w:BitVec 64) (hw:f pc.toNat=w) (hop:AT w=27) (h:Co w=true) (hx2:¬ 8192#64≤g (pF w 48) + BitVec.ofInt 64 (pN w)) :
 Af M 240 [.ptr 0 [],.ptr 3 []] (Cc f g pc false xt) 4 (Q3 (.tup .fnil) (Cc f (E9 g (pF w 52) (f (g (pF w 48) + BitVec.ofInt 64 (pN w)).toNat)) (pc + 1#64) false xt) 4):=by
 refine Ac ok.k240 rfl fun x hx=>?_
 have hp:pc.toNat < 8192:=BM
 have a1:=Ai w 52
 have a2:=Ai w 48
 have a3:=Ai w 44
 have a5:=Ql _ hx2
 refine es 2000 ?_;(simp only [N7,hpc,hw,seval])
 repeat refine sd ?_
 have zz:=Im;refine IM (As ok.rp w h) ?_
 (simp only [Jc,hop,eq_false hx2,seval])
 repeat refine sd ?_
 have zz:=aq2 @Ba.eq_1 Og;exact Bg hx [0,1,2,3] ⟨rfl,rfl,rfl⟩
theorem Oj (ok:OkRM M) (f g:Nat→BitVec 64) (pc xt:BitVec 64) (hpc:¬ 8192#64≤pc) (w:BitVec 64) (hw:f pc.toNat=w) (hop:AT w=28) (h:Co w=true) (hx2:¬ 8192#64≤g (pF w 48) + BitVec.ofInt 64 (pN w)) :
 Af M 240 [.ptr 0 [],.ptr 3 []] (Cc f g pc false xt) 4 (Q3 (.tup .fnil) (Cc (E9 f (g (pF w 48) + BitVec.ofInt 64 (pN w)).toNat (g (pF w 44))) g (pc + 1#64) false xt) 4):=by
 refine Ac ok.k240 rfl fun x hx=>?_
 have hp:pc.toNat < 8192:=BM
 have a1:=Ai w 52
 have a2:=Ai w 48
 have a3:=Ai w 44
 have a5:=Ql _ hx2
 refine es 2000 ?_;(simp only [N7,hpc,hw,seval])
 repeat refine sd ?_
 have zz:=Im;refine IM (As ok.rp w h) ?_
 (simp only [Jc,hop,eq_false hx2,seval])
 repeat refine sd ?_
 have zz:=aq2 @Ba.eq_1 Og;exact Bg hx [0,1,2,3] ⟨rfl,rfl,rfl⟩
variable {M:Seat}
theorem Dr (ok:OkRM M) (f g:Nat→BitVec 64) (pc xt:BitVec 64) (hpc:¬ 8192#64≤pc) (w:BitVec 64) (hw:f pc.toNat=w) (h:Co w=true) (to ga:BitVec 64) (hto:BitVec.ofInt 64 (pN w)=to) (hga:g (pF w 48)=ga)
 (ho:(AT w=29∧8192#64≤to) ∨ (AT w=30∧ga=0#64∧8192#64≤to) ∨ (AT w=31∧¬ ga=0#64∧8192#64≤to) ∨ (AT w=32∧8192#64≤to) ∨ (AT w=33∧8192#64≤ga)) :
 Af M 240 [.ptr 0 [],.ptr 3 []] (Cc f g pc false xt) 4 (Q3 (.tup .fnil) (Cc f g pc true Ap) 4):=by
 refine Ac ok.k240 rfl fun x hx=>?_
 have hp:pc.toNat < 8192:=BM
 have a1:=Ai w 52
 have a2:=Ai w 48
 have a3:=Ai w 44
 have e1:(pc + 1#64=pc + 1#64)=True:=eq_true rfl
 by_cases h5:(if AT w=33 then ga else to)=pc + 1#64 <;> rcases ho with ⟨hop,h1⟩ | ⟨hop,h0,h1⟩ | ⟨hop,h0,h1⟩ | ⟨hop,h1⟩ | ⟨hop,h1⟩
 all_goals simp only [hop,seval,CD] at h5
 all_goals first | (subst h5;have h5:=e1) | skip
 all_goals try simp only [h0] at hga
 all_goals
  refine es 2000 ?_;(simp only [N7,hpc,hw,seval])
  repeat refine sd ?_
  have zz:=Im;refine IM (As ok.rp w h) ?_
  (first | (have hh0:=h0;(simp only [Jc,hop,hga,hto,hh0,h1,h5,seval])) | ((simp only [Jc,hop,hga,hto,h1,h5,seval])))
  repeat refine sd ?_
  have zz:=@Ba.eq_1;refine JO [0,1,2] [0] (Bq ok pc xt Ap false) ?_
  (simp only [Fj,seval])
  have zz:=@Ba.eq_1;exact Bg hx [0,1,2,3] ⟨rfl,rfl,rfl⟩
theorem EH (ok:OkRM M) (f g:Nat→BitVec 64) (pc xt:BitVec 64) (hpc:¬ 8192#64≤pc) (w:BitVec 64) (hw:f pc.toNat=w) (h:Co w=true) (to ga nx:BitVec 64) (hto:BitVec.ofInt 64 (pN w)=to) (hga:g (pF w 48)=ga) (hnx:¬ 8192#64≤nx)
 (ho:(AT w=29∧to=nx) ∨ (AT w=30∧ga=0#64∧to=nx) ∨ (AT w=31∧¬ ga=0#64∧to=nx) ∨ (AT w=33∧ga=nx)) :
 Af M 240 [.ptr 0 [],.ptr 3 []] (Cc f g pc false xt) 4 (Q3 (.tup .fnil) (Cc f g nx false xt) 4):=by
 refine Ac ok.k240 rfl fun x hx=>?_
 have hp:pc.toNat < 8192:=BM
 have a1:=Ai w 52
 have a2:=Ai w 48
 have a3:=Ai w 44
 rcases ho with ⟨hop,rfl⟩ | ⟨hop,h0,rfl⟩ | ⟨hop,h0,rfl⟩ | ⟨hop,rfl⟩
 all_goals
  refine es 2000 ?_;(simp only [N7,hpc,hw,seval])
  repeat refine sd ?_
  have zz:=Im;refine IM (As ok.rp w h) ?_
  (first | (have hh0:=h0;(simp only [Jc,hop,hga,hto,hh0,hnx,seval])) | ((simp only [Jc,hop,hga,hto,hnx,seval])))
  repeat refine sd ?_
  have zz:=@Ba.eq_1;exact Bg hx [0,1,2,3] ⟨rfl,rfl,rfl⟩
theorem TE (ok:OkRM M) (f g:Nat→BitVec 64) (pc xt:BitVec 64) (hpc:¬ 8192#64≤pc) (w:BitVec 64) (hw:f pc.toNat=w) (h:Co w=true) (to:BitVec 64) (hto:BitVec.ofInt 64 (pN w)=to) (hnx:¬ 8192#64≤to) (hop:AT w=32) :
 Af M 240 [.ptr 0 [],.ptr 3 []] (Cc f g pc false xt) 4 (Q3 (.tup .fnil) (Cc f (E9 g (pF w 52) (pc + 1#64)) to false xt) 4):=by
 refine Ac ok.k240 rfl fun x hx=>?_
 have hp:pc.toNat < 8192:=BM
 have a1:=Ai w 52
 have a2:=Ai w 48
 have a3:=Ai w 44
 refine es 2000 ?_;(simp only [N7,hpc,hw,seval])
 repeat refine sd ?_
 have zz:=Im;refine IM (As ok.rp w h) ?_
 (simp only [Jc,hop,hto,hnx,seval])
 repeat refine sd ?_
 have zz:=aq2 @Ba.eq_1 Og;exact Bg hx [0,1,2,3] ⟨rfl,rfl,rfl⟩
theorem KK (ok:OkRM M) (f g:Nat→BitVec 64) (pc xt:BitVec 64) (hpc:¬ 8192#64≤pc) (w:BitVec 64) (hw:f pc.toNat=w) (h:Co w=true) (ga:BitVec 64) (hga:g (pF w 48)=ga)
 (ho:(AT w=30∧¬ ga=0#64) ∨ (AT w=31∧ga=0#64)) :
 Af M 240 [.ptr 0 [],.ptr 3 []] (Cc f g pc false xt) 4 (Q3 (.tup .fnil) (Cc f g (pc + 1#64) false xt) 4):=by
 refine Ac ok.k240 rfl fun x hx=>?_
 have hp:pc.toNat < 8192:=BM
 have a1:=Ai w 52
 have a2:=Ai w 48
 have a3:=Ai w 44
 have e1:(pc + 1#64=pc + 1#64)=True:=eq_true rfl
 by_cases h6:8192#64≤pc + 1#64 <;> rcases ho with ⟨hop,h0⟩ | ⟨hop,h0⟩
 all_goals
  refine es 2000 ?_;(simp only [N7,hpc,hw,seval])
  repeat refine sd ?_
  have zz:=Im;refine IM (As ok.rp w h) ?_
  (simp only [Jc,hop,hga,h0,h6,e1,seval])
  repeat refine sd ?_
  have zz:=@Ba.eq_1;exact Bg hx [0,1,2,3] ⟨rfl,rfl,rfl⟩
end Mv
