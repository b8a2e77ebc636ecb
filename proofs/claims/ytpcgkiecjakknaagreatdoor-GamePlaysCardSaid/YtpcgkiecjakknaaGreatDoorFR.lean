/- A part. -/
import Derived.Test.YtpcgkiecjakknaaGreatDoorFQ
set_option linter.all false
set_option maxRecDepth 20000
set_option maxHeartbeats 16000000
namespace Mv
open Go
def Apm:LC:=(sr [fa 152 5 18,lb 153 1 152,mt 19 153] (.seq (.seq (.regd [⟨0,0,fa 154 1 18⟩,⟨1,1,lb 155 1 154⟩,⟨2,3,aI 156 .geq 155 0⟩,⟨3,7,mt 157 156⟩,⟨4,15,A2 158 157 true (.fadr 1 (.t 18))⟩,⟨5,31,A2 159 157 true (.load false 1 (.t 158))⟩,⟨6,15,mg 160 157 true 13⟩,⟨7,79,A2 161 157 true (.nilc (.t 160))⟩,⟨8,207,A2 162 157 true (.fadr 35 (.t 161))⟩,⟨9,463,A2 163 157 true (.load false 1 (.t 162))⟩,⟨10,975,A2 164 157 true (.len 0 (.t 163))⟩,⟨11,2047,A2 165 157 true (.ari .lss (.t 159) (.t 164))⟩,⟨12,4095,Fq 166 157 165⟩]) (.cond (.t 166) (.regd [⟨0,0,mt 167 19⟩,⟨1,0,mt 168 13⟩,⟨2,2,nc 169 168⟩,⟨3,6,fa 170 35 169⟩,⟨4,14,lb 171 1 170⟩,⟨5,0,fa 172 1 18⟩,⟨6,32,lb 173 1 172⟩,⟨7,126,ia 174 43 171 173⟩,⟨8,254,fa 175 1 174⟩,⟨9,510,lb 176 1 175⟩,⟨10,1022,aI 177 .add 176 2⟩,⟨11,2046,D0 178 .u64 177⟩,⟨12,4095,ak 179 .add 167 178⟩,⟨13,8191,mt 19 179⟩]) .skip)) (.seq (.regd [⟨5,0,la 186 34 6⟩,⟨6,0,fa 187 3 18⟩,⟨7,2,lb 188 1 187⟩,⟨8,7,kl 189 129 [(.t 186),(.t 188)]⟩,⟨0,0,mt 181 11⟩,⟨1,0,fa 182 1 18⟩,⟨2,32,lb 183 1 182⟩,⟨3,0,fa 184 2 18⟩,⟨4,128,lb 185 1 184⟩,⟨9,0,fa 190 4 18⟩,⟨10,512,lb 191 1 190⟩,⟨11,0,mt 192 19⟩,⟨12,0,mt 193 10⟩,⟨13,8191,kl 194 110 [(.t 181),(.t 183),(.t 185),(.t 189),(.t 191),(.t 192),(.t 193)]⟩,⟨14,16383,mt 180 194⟩,⟨15,32767,ee 195 180 0⟩,⟨16,32767,ee 196 180 1⟩,⟨17,65535,mt 20 195⟩,⟨18,262143,mt 21 196⟩]) (.seq (.regd [⟨5,0,la 203 34 6⟩,⟨6,0,fa 204 3 18⟩,⟨7,2,lb 205 1 204⟩,⟨8,7,kl 206 129 [(.t 203),(.t 205)]⟩,⟨0,0,mt 198 13⟩,⟨1,0,fa 199 1 18⟩,⟨2,32,lb 200 1 199⟩,⟨3,0,fa 201 2 18⟩,⟨4,128,lb 202 1 201⟩,⟨9,0,fa 207 4 18⟩,⟨10,512,lb 208 1 207⟩,⟨11,0,mt 209 19⟩,⟨12,0,mt 210 10⟩,⟨13,8191,kl 211 141 [(.t 198),(.t 200),(.t 202),(.t 206),(.t 208),(.t 209),(.t 210)]⟩,⟨14,16383,mt 197 211⟩,⟨15,32767,ee 212 197 0⟩,⟨16,32767,ee 213 197 1⟩,⟨17,65535,mt 22 212⟩,⟨18,262143,mt 23 213⟩]) (sr [mt 214 20,mt 215 22,ak 216 .neq 214 215,mt 217 216,mg 218 217 false 21,A2 219 217 false (.fadr 1 (.t 18)),A2 220 217 false (.load false 1 (.t 219)),mg 221 217 false 23,⟨(some 222),.call 142 [(.t 218),(.t 220),(.t 221)],(some (217,false))⟩,A2 223 217 false (.un .not (.t 222)),
  BV 224 217 223] (.cond (.t 224) (sr [A1 4 (.mv (.c (.bool false)))] .ret) .skip))))))
def An9:LC:=(.seq (.regd [⟨0,0,mt 296 11⟩,⟨1,0,fa 297 1 18⟩,⟨2,2,lb 298 1 297⟩,⟨3,0,fa 299 2 18⟩,⟨4,8,lb 300 1 299⟩,⟨5,0,la 301 116 24⟩,⟨6,0,fa 302 4 18⟩,⟨7,64,lb 303 1 302⟩,⟨8,0,mt 304 10⟩,⟨9,511,kl 305 114 [(.t 296),(.t 298),(.t 300),(.t 301),(.t 303),(.t 304)]⟩,⟨12,0,mt 308 13⟩,⟨13,0,fa 309 1 18⟩,⟨14,2048,lb 310 1 309⟩,⟨15,0,fa 311 2 18⟩,⟨16,8192,lb 312 1 311⟩,⟨17,0,fa 313 4 18⟩,⟨18,32768,lb 314 1 313⟩,⟨19,0,mt 315 10⟩,⟨20,0,la 316 32 25⟩,⟨21,0,mt 317 26⟩,⟨22,1048575,kl 318 145 [(.t 308),(.t 310),(.t 312),(.t 314),(.t 315),(.t 316),(.t 317)]⟩,⟨10,0,fa 306 1 18⟩,⟨11,2097152,lb 307 1 306⟩,⟨23,8388607,kl 319 142 [(.t 305),(.t 307),(.t 318)]⟩,⟨24,16777215,A1 320 (.un .not (.t 319))⟩]) (.cond (.t 320) (sr [A1 4 (.mv (.c (.bool false)))] .ret) .skip))
def Amf:LC:=(.seq (.regd [⟨0,0,fa 248 1 18⟩,⟨1,1,lb 249 1 248⟩,⟨2,3,aI 250 .geq 249 0⟩,⟨3,7,mt 251 250⟩,⟨4,15,A2 252 251 true (.fadr 1 (.t 18))⟩,⟨5,31,A2 253 251 true (.load false 1 (.t 252))⟩,⟨6,15,mg 254 251 true 13⟩,⟨7,79,A2 255 251 true (.nilc (.t 254))⟩,⟨8,207,A2 256 251 true (.fadr 35 (.t 255))⟩,⟨9,463,A2 257 251 true (.load false 1 (.t 256))⟩,⟨10,975,A2 258 251 true (.len 0 (.t 257))⟩,⟨11,2047,A2 259 251 true (.ari .lss (.t 253) (.t 258))⟩,⟨12,4095,Fq 260 251 259⟩,⟨13,8191,mt 261 260⟩,⟨14,16383,mg 262 261 true 13⟩,⟨15,32767,A2 263 261 true (.nilc (.t 262))⟩,⟨16,65535,A2 264 261 true (.fadr 35 (.t 263))⟩,⟨17,131071,A2 265 261 true (.load false 1 (.t 264))⟩,⟨18,16383,A2 266 261 true (.fadr 1 (.t 18))⟩,⟨19,278527,A2 267 261 true (.load false 1 (.t 266))⟩,⟨20,1048575,A2 268 261 true (.isl 43 (.t 265) (.t 267))⟩,⟨21,2097151,A2 269 261 true (.fadr 1 (.t 268))⟩,⟨22,4194303,A2 270 261 true (.load false 1 (.t 269))⟩,⟨23,16383,mg 271 261 true 13⟩,⟨24,8404991,A2 272 261 true (.nilc (.t 271))⟩,⟨25,25182207,A2 273 261 true (.fadr 0 (.t 272))⟩,⟨26,58736639,A2 274 261 true (.load false 1 (.t 273))⟩,⟨27,134217727,A2 275 261 true (.ari .eql (.t 270) (.t 274))⟩,⟨28,268435455,Fq 276 261 275⟩]) (.cond (.t 276) (sr [mt 278 13,fa 279 1 18,lb 280 1 279,fa 281 2 18,lb 282 1 281,kl 283 143 [(.t 278),(.t 280),(.t 282)],mt 277 283,ee 284 277 0,ee 285 277 1,ee 286 277 2,ee 287 277 3,
  aB 27 32,
  aB 28 32,sb 32 27 284,sb 32 28 285,mt 29 286,mt 30 287] (sr [mt 288 30,aI 289 .eql 288 0] (.cond (.t 289) (.reg [la 291 32 27,la 292 116 24,kl 293 144 [(.t 291),(.t 292)],mt 290 293,ee 294 290 0,ee 295 290 1,sb 32 25 294,mt 26 295]) .skip))) .skip))
def Asg:LC:=(.seq (.regd [⟨0,0,fa 227 33 6⟩,⟨1,1,lb 228 1 227⟩,⟨2,0,fa 229 3 18⟩,⟨3,4,lb 230 1 229⟩,⟨4,12,D0 231 .u64 230⟩,⟨5,0,fa 232 33 6⟩,⟨6,32,lb 233 1 232⟩,⟨7,96,lN 234 0 233⟩,⟨8,224,D0 235 .u64 234⟩,⟨9,508,ak 236 .rem 231 235⟩,⟨10,1020,D0 237 .i64 236⟩,⟨11,2047,ia 238 116 228 237⟩,⟨12,4095,la 239 116 238⟩,⟨13,0,A1 24 (.alloc (.st (.cons (.ar 32 (.int .u8)) (.cons (.st (.cons (.ar 16 (.int .u64)) (.cons (.int .u64) (.cons .bool (.cons (.int .u64) .nil))))) (.cons .slice (.cons (.ar 64 (.int .u8)) .nil))))))⟩,⟨14,16383,sb 116 24 239⟩]) (sr [fa 240 32 24,fa 241 16 240,lb 242 1 241,fa 243 6 18,lb 244 1 243,ak 245 .xor 242 244,fa 246 32 24,fa 247 16 246,sb 1 247 245] (sr [aB 25 32] (sr [mI 26 0] (.seq (Amf)
 (An9))))))
def Aqy:LC:=(.seq (.regd [⟨0,0,mt 323 11⟩,⟨1,0,fa 324 1 18⟩,⟨2,2,lb 325 1 324⟩,⟨3,0,mt 326 10⟩,⟨4,15,kl 327 115 [(.t 323),(.t 325),(.t 326)]⟩,⟨7,0,mt 330 13⟩,⟨8,0,fa 331 1 18⟩,⟨9,64,lb 332 1 331⟩,⟨10,0,mt 333 10⟩,⟨11,511,kl 334 146 [(.t 330),(.t 332),(.t 333)]⟩,⟨5,0,fa 328 1 18⟩,⟨6,1024,lb 329 1 328⟩,⟨12,4095,kl 335 142 [(.t 327),(.t 329),(.t 334)]⟩,⟨13,8191,A1 336 (.un .not (.t 335))⟩]) (.cond (.t 336) (sr [A1 4 (.mv (.c (.bool false)))] .ret) .skip))
def Asx:LC:=(sr [mt 346 13,nc 347 346,fa 348 35 347,lb 349 1 348,
 lN 350 0 349,aI 351 .sub 350 1,mt 31 351] (.block 3 (.loop (.seq (sr [mt 352 31,aI 353 .geq 352 0]
 (Dd 353 3)) (.seq (.block 4 (sr [mt 356 11,mt 357 31,mt 358 10,kl 359 115 [(.t 356),(.t 357),(.t 358)],mt 360 31,mt 361 13,mt 362 31,mt 363 10,kl 364 146 [(.t 361),(.t 362),(.t 363)],kl 365 142 [(.t 359),(.t 360),(.t 364)],A1 366 (.un .not (.t 365))] (.cond (.t 366) (sr [A1 4 (.mv (.c (.bool false)))] .ret) .skip))) (.reg [mt 354 31,aI 355 .sub 354 1,mt 31 355]))))))
def Aqm:LC:=(sr [mt 370 11,fa 371 1 18,lb 372 1 371,kl 373 111 [(.t 370),(.t 372)],mt 369 373,ee 374 369 0,ee 375 369 1,A1 32 (.alloc (.st (.cons (.int .i64) (.cons (.int .u64) (.cons (.ar 32 (.int .u8)) (.cons (.int .i64) (.cons (.int .i64) (.cons (.st (.cons (.int .u64) (.cons (.int .u64) .nil))) (.cons .bool (.cons .bool (.cons .bool (.cons (.int .i64) .nil)))))))))))),sb 42 32 374,mt 33 375] (.seq (.regd [⟨0,0,fa 376 1 18⟩,⟨1,1,lb 377 1 376⟩,⟨2,3,aI 378 .lss 377 0⟩,⟨3,7,mt 379 378⟩,⟨4,15,A2 380 379 false (.fadr 1 (.t 18))⟩,⟨5,31,A2 381 379 false (.load false 1 (.t 380))⟩,⟨6,15,mg 382 379 false 13⟩,⟨7,79,A2 383 379 false (.nilc (.t 382))⟩,⟨8,207,A2 384 379 false (.fadr 35 (.t 383))⟩,⟨9,463,A2 385 379 false (.load false 1 (.t 384))⟩,⟨10,975,A2 386 379 false (.len 0 (.t 385))⟩,⟨11,2047,A2 387 379 false (.ari .geq (.t 381) (.t 386))⟩,⟨12,4095,BV 388 379 387⟩]) (.cond (.t 388) (sr [mt 389 33,A1 390 (.mkif 74 (cI 4)),kl 391 63 [(.t 389),(.t 390)],A1 392 (.un .not (.t 391))] (.cond (.t 392) (sr [A1 4 (.mv (.c (.bool false)))] .ret) .skip)) (.seq (.regd [⟨0,0,mt 393 33⟩,⟨1,1,A1 394 (.eq true true (.iface [74]) (.t 393) (.c .nili))⟩,⟨2,3,mt 395 394⟩,⟨3,7,A2 396 395 false (.load true 42 (.t 32))⟩,⟨4,7,mg 397 395 false 13⟩,⟨5,23,A2 398 395 false (.nilc (.t 397))⟩,⟨6,55,A2 399 395 false (.fadr 35 (.t 398))⟩,⟨7,119,A2 400 395 false (.load false 1 (.t 399))⟩,⟨8,7,A2 401 395 false (.fadr 1 (.t 18))⟩,⟨9,263,A2 402 395 false (.load false 1 (.t 401))⟩,⟨10,1015,A2 403 395 false (.isl 43 (.t 400) (.t 402))⟩,⟨11,2039,A2 404 395 false (.load true 43 (.t 403))⟩,⟨12,4095,⟨(some 405),.call 147 [(.t 396),(.t 404)],(some (395,false))⟩⟩,⟨13,8191,A2 406 395 false (.un .not (.t 405))⟩,⟨14,16383,BV 407 395 406⟩]) (.cond (.t 407) (sr [A1 4 (.mv (.c (.bool false)))] .ret) .skip)))))
def Aku:LC:=(sr [fa 148 0 18,lb 149 1 148] (.block 2 (sr [aI 151 .eql 149 1,mt 150 151] (.cond (.t 150) (Apm) (sr [aI 226 .eql 149 2,mt 225 226] (.cond (.t 225) (Asg) (sr [aI 322 .eql 149 3,mt 321 322] (.cond (.t 321) (Aqy) (sr [aI 338 .eql 149 4,mt 337 338] (.cond (.t 337) (.reg [mt 339 10,fa 340 7 18,lb 341 1 340,
  aU 342 .rem 341 50,ak 343 .add 339 342,mt 10 343]) (sr [aI 345 .eql 149 5,mt 344 345] (.cond (.t 344) (Asx) (sr [aI 368 .eql 149 6,mt 367 368] (.cond (.t 367) (Aqm) .skip))))))))))))))
def plT:LC:=(.seq (.regd [⟨0,0,mt 408 11⟩,⟨1,1,kl 409 117 [(.t 408)]⟩,⟨2,0,mt 410 13⟩,⟨3,4,nc 411 410⟩,⟨4,12,fa 412 35 411⟩,⟨5,28,lb 413 1 412⟩,⟨6,60,lN 414 0 413⟩,⟨7,127,ak 415 .neq 409 414⟩,⟨8,255,mt 416 415⟩,⟨9,511,mg 417 416 false 11⟩,⟨10,1023,⟨(some 418),.call 118 [(.t 417)],(some (416,false))⟩⟩,⟨11,511,mg 419 416 false 13⟩,⟨12,4095,⟨(some 420),.call 148 [(.t 419)],(some (416,false))⟩⟩,⟨13,8191,A2 421 416 false (.ari .neq (.t 418) (.t 420))⟩,⟨14,16383,BV 422 416 421⟩,⟨15,32767,mt 423 422⟩,⟨16,65535,mg 424 423 false 8⟩,⟨17,131071,⟨(some 425),.call 133 [(.t 424)],(some (423,false))⟩⟩,⟨18,65535,mg 426 423 false 9⟩,⟨19,327679,A2 427 423 false (.nilc (.t 426))⟩,⟨20,851967,A2 428 423 false (.load true 1 (.t 427))⟩,⟨21,2097151,⟨(some 429),.call 149 [(.t 428),(cI 3),(.c (.int .i64 (-1)))],(some (423,false))⟩⟩,⟨22,65535,mg 430 423 false 9⟩,⟨23,4259839,A2 431 423 false (.nilc (.t 430))⟩,⟨24,12648447,A2 432 423 false (.load true 1 (.t 431))⟩,⟨25,33554431,⟨(some 433),.call 149 [(.t 432),(cI 4),(.c (.int .i64 (-1)))],(some (423,false))⟩⟩,⟨26,67108863,A2 434 423 false (.ari .sub (.t 429) (.t 433))⟩,⟨27,134217727,A2 435 423 false (.ari .neq (.t 425) (.t 434))⟩,⟨28,268435455,BV 436 423 435⟩]) (.cond (.t 436) (sr [A1 4 (.mv (.c (.bool false)))] .ret) .skip))
def plI:LC:=(.reg [aI 437 .add 141 1,mt 141 437])
def plB:LC:=(sr [ak 142 .lss 141 140] (.seq (Dd 142 0) (.seq (.block 1 (sr [mt 143 141,ia 144 8 139 141,la 145 8 144,A1 18 (.alloc (.st (.cons (.int .i64) (.cons (.int .i64) (.cons .bool (.cons (.int .i64) (.cons (.int .i64) (.cons (.int .u64) (.cons (.int .u64) (.cons (.int .u64) .nil)))))))))),mt 17 143,sb 8 18 145] (.seq (sr [mt 146 17,aI 147 .geq 146 60] (.cond (.t 147) (.exit 0) .skip)) (.seq (Aku)
 (plT)))))
 plI)))
def Aso:LC:=(sr [mt 467 8,kl 468 133 [(.t 467)],mt 37 468] (.seq (sr [mI 469 0] (.block 7 (.loop (sr [aI 470 .lss 469 8] (.seq (Dd 470 7) (.seq (.block 8 (sr [mt 471 469,mt 38 471] (sr [mt 473 8,mt 474 38,kl 475 126 [(.t 473),(.t 474)],mt 472 475,ee 476 472 0,ee 477 472 1,mt 39 476,mt 40 477] (.seq (sr [mt 478 40,A1 479 (.eq true true (.iface [74]) (.t 478) (.c .nili)),mt 480 479,mg 481 480 false 39,mg 482 480 false 9,A2 483 480 false (.nilc (.t 482)),A2 484 480 false (.load true 1 (.t 483)),mg 485 480 false 38,⟨(some 486),.call 150 [(.t 484),(.t 485)],(some (480,false))⟩,A2 487 480 false (.ari .neq (.t 481) (.t 486)),
  BV 488 480 487] (.cond (.t 488) (sr [A1 4 (.mv (.c (.bool false)))] .ret) .skip)) (.reg [mt 489 37,mt 490 39,ak 491 .add 489 490,mt 37 491]))))) (.reg [aI 492 .add 469 1,mt 469 492]))))))) (.seq (.regd [⟨0,0,mt 493 37⟩,⟨1,0,fa 494 5 2⟩,⟨2,2,lb 495 1 494⟩,⟨3,6,aU 496 .rem 495 1000⟩,⟨4,14,aV 497 .mul 8 496⟩,⟨5,31,ak 498 .eql 493 497⟩,⟨6,63,mt 499 498⟩,⟨7,127,mg 500 499 true 11⟩,⟨8,255,⟨(some 501),.call 119 [(.t 500)],(some (499,true))⟩⟩,⟨9,127,A2 502 499 true (.fadr 0 (.t 2))⟩,⟨10,639,A2 503 499 true (.load false 1 (.t 502))⟩,⟨11,127,A2 504 499 true (.fadr 3 (.t 2))⟩,⟨12,2175,A2 505 499 true (.load false 1 (.t 504))⟩,⟨13,127,A2 506 499 true (.fadr 4 (.t 2))⟩,⟨14,8319,A2 507 499 true (.load false 1 (.t 506))⟩,⟨15,127,A2 508 499 true (.fadr 0 (.t 6))⟩,⟨16,32895,A2 509 499 true (.load true 32 (.t 508))⟩,⟨17,131071,⟨(some 510),.call 113 [(.t 503),(.t 505),(.t 507),(.t 509)],(some (499,true))⟩⟩,⟨18,262143,A2 511 499 true (.eq false false (.st (.cons 0 1 false .int (.cons 1 2 true (.st (.cons 0 1 false .int (.cons 1 1 false .int .nil))) (.cons 3 32 true (.ar 32 1 false .int) .nil)))) (.t 501) (.t 510))⟩,⟨19,524287,Fq 512 499 511⟩,⟨20,1048575,mt 4 512⟩]) .ret)))
def plE:LC:=(.seq (sr [mt 438 13,nc 439 438,fa 440 35 439,lb 441 1 440,
 lN 442 0 441,
 mI 443 0] (.block 5 (.loop (sr [ak 444 .lss 443 442] (.seq (Dd 444 5) (.seq (.block 6 (sr [mt 445 443,mt 34 445] (sr [mt 447 11,mt 448 34,kl 449 111 [(.t 447),(.t 448)],mt 446 449,ee 450 446 0,ee 451 446 1,A1 35 (.alloc (.st (.cons (.int .i64) (.cons (.int .u64) (.cons (.ar 32 (.int .u8)) (.cons (.int .i64) (.cons (.int .i64) (.cons (.st (.cons (.int .u64) (.cons (.int .u64) .nil))) (.cons .bool (.cons .bool (.cons .bool (.cons (.int .i64) .nil)))))))))))),sb 42 35 450,mt 36 451] (.seq (.regd [⟨0,0,mt 452 36⟩,⟨1,1,A1 453 (.eq true true (.iface [74]) (.t 452) (.c .nili))⟩,⟨2,3,mt 454 453⟩,⟨3,7,A2 455 454 false (.load true 42 (.t 35))⟩,⟨4,7,mg 456 454 false 13⟩,⟨5,23,A2 457 454 false (.nilc (.t 456))⟩,⟨6,55,A2 458 454 false (.fadr 35 (.t 457))⟩,⟨7,119,A2 459 454 false (.load false 1 (.t 458))⟩,⟨8,7,mg 460 454 false 34⟩,⟨9,503,A2 461 454 false (.isl 43 (.t 459) (.t 460))⟩,⟨10,1015,A2 462 454 false (.load true 43 (.t 461))⟩,⟨11,2047,⟨(some 463),.call 147 [(.t 455),(.t 462)],(some (454,false))⟩⟩,⟨12,4095,A2 464 454 false (.un .not (.t 463))⟩,⟨13,8191,BV 465 454 464⟩]) (.cond (.t 465) (sr [A1 4 (.mv (.c (.bool false)))] .ret) .skip))))) (.reg [aI 466 .add 443 1,mt 443 466])))))))
 (Aso))
def plN:LC:=(sr [fa 75 6 2,lb 76 1 75,mt 10 76] (.seq (.regd [⟨0,0,fa 78 0 2⟩,⟨1,1,lb 79 1 78⟩,⟨2,0,fa 80 3 2⟩,⟨3,4,lb 81 1 80⟩,⟨4,0,fa 82 4 2⟩,⟨5,16,lb 83 1 82⟩,⟨6,0,fa 84 0 6⟩,⟨7,64,la 85 32 84⟩,⟨8,255,kl 86 113 [(.t 79),(.t 81),(.t 83),(.t 85)]⟩,⟨12,0,la 90 34 6⟩,⟨13,0,fa 91 2 2⟩,⟨14,1024,lb 92 1 91⟩,⟨15,4095,kl 93 129 [(.t 90),(.t 92)]⟩,⟨9,0,mt 87 8⟩,⟨10,0,fa 88 1 2⟩,⟨11,16384,lb 89 1 88⟩,⟨16,0,mt 94 10⟩,⟨17,131071,kl 95 112 [(.t 86),(.t 87),(.t 89),(.t 93),(.t 94)]⟩,⟨18,262143,mt 77 95⟩,⟨19,524287,ee 96 77 0⟩,⟨20,524287,ee 97 77 1⟩,⟨21,1048575,mt 11 96⟩,⟨22,4194303,mt 12 97⟩]) (.seq (.regd [⟨11,0,la 110 34 6⟩,⟨12,0,fa 111 2 2⟩,⟨13,2,lb 112 1 111⟩,⟨14,7,kl 113 129 [(.t 110),(.t 112)]⟩,⟨0,0,fa 99 0 2⟩,⟨1,16,lb 100 1 99⟩,⟨2,0,fa 101 3 2⟩,⟨3,64,lb 102 1 101⟩,⟨4,0,fa 103 4 2⟩,⟨5,256,lb 104 1 103⟩,⟨6,0,fa 105 0 6⟩,⟨7,1024,la 106 32 105⟩,⟨8,0,mt 107 9⟩,⟨9,0,fa 108 1 2⟩,⟨10,8192,lb 109 1 108⟩,⟨15,0,mt 114 10⟩,⟨16,65535,kl 115 139 [(.t 100),(.t 102),(.t 104),(.t 106),(.t 107),(.t 109),(.t 113),(.t 114)]⟩,⟨17,131071,mt 98 115⟩,⟨18,262143,ee 116 98 0⟩,⟨19,262143,ee 117 98 1⟩,⟨20,524287,mt 13 116⟩,⟨21,2097151,mt 14 117⟩]) (sr [mt 119 12,kl 120 140 [(.t 119)],mt 118 120,ee 121 118 0,ee 122 118 1,mt 15 121,mt 16 122] (.seq (sr [mt 123 15,mt 124 14,ak 125 .neq 123 124,mt 126 125,mg 127 126 false 16,A2 128 126 false (.ari .neq (.t 127) (.c (.int .i64 (-1)))),
  BV 129 126 128,mt 130 129,mg 131 130 false 11,A2 132 130 false (.eq false true .ptr (.t 131) (.c .nilp)),mg 133 130 false 14,A2 134 130 false (.ari .neq (.t 133) (cI 0)),A2 135 130 false (.eq true false .bool (.t 132) (.t 134)),
  BV 136 130 135] (.cond (.t 136) (sr [A1 4 (.mv (.c (.bool false)))] .ret) .skip)) (.seq (sr [mt 137 14,aI 138 .neq 137 0] (.cond (.t 138) (sr [A1 4 (.mv (.c (.bool true)))] .ret) .skip)) (.seq (sr [mt 139 1,
  lN 140 0 139,
  mI 141 0] (.block 0 (.loop (plB))))
 (plE))))))))
def c35:LC:=(sr [bX 2 0,A1 4 (.mv (.c (.bool false)))] (.seq (sr [kl 41 116 [],A1 42 (.un .not (.t 41))] (.cond (.t 42) (sr [A1 4 (.mv (.c (.bool false)))] .ret) .skip)) (sr [fa 43 0 2,lb 44 1 43,mt 5 44] (.seq (sr [mt 45 5,aI 46 .gtr 45 4] (.cond (.t 46) (.reg [mI 5 4]) .skip)) (sr [mt 48 5,A1 49 (.mm true (cI 1) (.t 48)),kl 50 128 [(.t 49)],mt 47 50,ee 51 47 0,ee 52 47 1,A1 6 (.alloc (.st (.cons (.ar 32 (.int .u8)) (.cons .slice (.cons .slice .nil))))),sb 34 6 51,mt 7 52] (sr [fa 54 5 2,lb 55 1 54,
  aU 56 .rem 55 1000,kl 57 138 [(.t 56)],mt 53 57,ee 58 53 0,ee 59 53 1,mt 8 58,mt 9 59] (.seq (sr [mt 60 7,A1 61 (.un .not (.t 60)),mt 62 61,mg 63 62 false 8,A2 64 62 false (.eq false true .ptr (.t 63) (.c .nilp)),
  BV 65 62 64] (.cond (.t 65) (sr [A1 4 (.mv (.c (.bool false)))] .ret) .skip)) (.seq (sr [fa 66 0 2,lb 67 1 66,aI 68 .gtr 67 4,mt 69 68,A2 70 69 true (.fadr 0 (.t 2)),A2 71 69 true (.load false 1 (.t 70)),A2 72 69 true (.ari .leq (.t 71) (cI 20)),
  Fq 73 69 72] (.cond (.t 73) (.reg [fa 74 0 2,A0 (.store 1 (.t 74) (cI 4))]) .skip))
 (plN)))))))))
def f35:LF:=⟨c35,2,0,513,[.tmp 4]⟩
theorem Anb {M:Seat} {x:Ctx} {Q:List V→Hp→Nat→Prop} {c:LC} {P:List V→Hp→Nat→Prop} {k:List It} {N:Nat} {A:List V} {H:Hp} (h:Bm M x Q (.code c :: .inv P :: k) N A H) (hk:∀ A H N,P A H N→Bm M x Q k N A H) :
 Bm M x Q (.code c :: k) N A H:=by
 intro a w kr hs hm
 cases kr with
 | nil=>exact hm.elim
 | cons j r =>
   cases j <;> try (exact hm.elim)
   rename_i C
   obtain ⟨hc,hm⟩:=hm
   show C.wp M.P (CK M x Q r) a w
   have h2:C.wp M.P (CK M x Q (.inv P :: r)) a w:=h a w (.code C :: .inv P :: r) hs ⟨hc,rfl,hm⟩
   refine Code.wp_mono (fun ex a' w' h=>?_) h2
   cases ex <;> try (exact h)
   obtain ⟨A',H',N',hs',hP⟩:=h
   exact hk _ _ _ hP a' w' r hs' hm
def suB (f:Nat→BitVec 64):Nat→BitVec 64
 | 0=>0#64
 | i + 1=>suB f i + f i
theorem Alx {f g:Nat→BitVec 64} {a:Nat} (hne:∀ j,j ≠ a→g j=f j):∀ n,suB g n=suB f n + if a < n then g a - f a else 0#64
 | 0=>by rw [if_neg Aa];rfl
 | n + 1 => by
   rw [suB,suB,Alx hne n]
   by_cases h1:a < n
   ·rw [if_pos h1,if_pos Aa,hne n Aa];bv_omega
   ·rw [if_neg h1]
    by_cases h2:n=a
    ·subst h2
     rw [if_pos Aa];bv_omega
    ·rw [if_neg Aa,hne n h2];bv_omega
theorem Atd (a b:BitVec 64):a - b - a = -b:=by rw [BitVec.sub_eq_add_neg,BitVec.sub_eq_add_neg,BitVec.add_comm a,BitVec.add_assoc,← BitVec.sub_eq_add_neg,BitVec.sub_self,BitVec.add_zero]
theorem Atf (a b:BitVec 64):a + b - a=b:=by rw [BitVec.add_comm,BitVec.sub_eq_add_neg,BitVec.add_assoc,← BitVec.sub_eq_add_neg,BitVec.sub_self,BitVec.add_zero]
structure Pli (R0:BitVec 64) (D:Nat) (l g:BitVec 64) (s:Dg) (G:Gs) (m:Nat) (e:Nat→Lv):Prop where
 ok:G.ok
 L:LedC G m e
 sm:suB G.b 8 + G.k=R0
 hD:G.D=D
 hl:G.l=l
 hg:G.g=g
 hs:G.s=s
theorem Aqd {R0:BitVec 64} {D:Nat} {l g:BitVec 64} {s:Dg} {G:Gs} {m:Nat} {e:Nat→Lv} (h:Pli R0 D l g s G m e) {a:Int} {df:Bool} {v:Dg} {pl:Int} {bd t:BitVec 64} (he:G.mE a df v pl bd t=none):Pli R0 D l g s (G.mT a df v pl bd t) (m + 1) (Akg e m ⟨3,pl,0,bd⟩):=by
 refine ⟨Af2 h.ok he,App h.ok.w h.L he,?_,h.hD,h.hl,h.hg,h.hs⟩
 have hs:=h.sm
 obtain ⟨p,rfl,hp,hrs,he⟩:=Gs.mE_in he
 obtain ⟨-,-,-,-,-,-,-,⟨q,hq,rfl⟩,-⟩:=Me he
 show suB (fun j=>if j=q then G.b q - bd else G.b j) 8 + (G.k + bd)=R0
 rw [Alx (f:=G.b) (a:=q) (fun j hj=>if_neg hj),if_pos hq,if_pos rfl,Atd,← hs,BitVec.add_assoc,BitVec.add_comm (-bd),BitVec.add_assoc,← BitVec.sub_eq_add_neg bd,BitVec.sub_self,BitVec.add_zero]
theorem Aqf {R0:BitVec 64} {D:Nat} {l g:BitVec 64} {s:Dg} {G:Gs} {m:Nat} {e:Nat→Lv} (h:Pli R0 D l g s G m e) {vf:Dg→Dg × Option Int} {a:Int} {df:Bool} {pl:Int} {t:BitVec 64} (he:G.tE vf a df pl t=none):Pli R0 D l g s (G.tT a pl) m e :=
 ⟨Aiq h.ok he,Ap0 h.L a pl,h.sm,h.hD,h.hl,h.hg,h.hs⟩
theorem Aoc {R0:BitVec 64} {D:Nat} {l g:BitVec 64} {s:Dg} {G:Gs} {m:Nat} {e:Nat→Lv} (h:Pli R0 D l g s G m e) {p:Nat} (hp:p < G.n) (hrs:(G.c p).rs=false):Pli R0 D l g s (G.rsv p) (m + 1) (Akg e m ⟨4,G.rsB p,p,G.v p⟩):=by
 refine ⟨Ti h.ok hp,Ao6 h.ok.w h.ok.b h.L hp hrs,?_,h.hD,h.hl,h.hg,h.hs⟩
 have hs:=h.sm
 obtain ⟨q,hq,hB⟩:=G.rsB_lt h.ok.b hp
 show suB (fun j=>if j=(G.rsB p).toNat then G.b (G.rsB p).toNat + G.v p else G.b j) 8 + (G.k - G.v p)=R0
 rw [hB,Int.toNat_natCast,Alx (f:=G.b) (a:=q) (fun j hj=>if_neg hj),if_pos hq,if_pos rfl,Atf,← hs,BitVec.add_assoc,BitVec.add_comm (G.v p),BitVec.sub_add_cancel]
theorem Atg (r:BitVec 64):8#64 * r=r + r + r + r + r + r + r + r:=by
 rw [show (8#64:BitVec 64)=2#64 * (2#64 * 2#64) by decide,BitVec.mul_assoc,BitVec.mul_assoc,BitVec.two_mul,BitVec.two_mul,BitVec.two_mul]
 simp only [BitVec.add_assoc]
theorem Ate (r S:BitVec 64):S + (r - 1#64 - r) + (0#64 + 1#64)=S:=by
 rw [Atd,BitVec.add_assoc,BitVec.zero_add,BitVec.add_comm (-1#64),← BitVec.sub_eq_add_neg,BitVec.sub_self,BitVec.add_zero]
theorem Apu (r:BitVec 64) (q:Nat) (hq:q < 8):suB (fun j=>if j=q then DD r 8 q - 1#64 else DD r 8 j) 8 + (0#64 + 1#64)=8#64 * r:=by
 rw [Alx (f:=DD r 8) (a:=q) (fun j hj=>if_neg hj),if_pos hq,if_pos rfl,show DD r 8 q=r from if_pos hq,Ate,Atg]
 simp only [suB,DD]
 simp
def tuH (h:Hd) (tn:BitVec 64):Hd:=⟨h.g,h.pc ^^^ tn,h.hl,h.xt⟩
structure Trc (M:Seat) (K:Nat) (R:Nat→Dg) (h:Nat→Hd) (L:Nat→List Pf) (P:Nat→Pr) (vf:Nat→BitVec 64→Dg→Dg × Option Int):Prop where
 k0:0 < K
 k1:K≤16
 a:∀ i,i < K→∀ tn C,Ag M 98 [dg C,BI (R i) (tuH (h i) tn) (L i) (P i)] [] 0 (Q3 (Ah (dg (vf i tn C).1) (B7 (vf i tn C).2)) [] 0)
 b:∀ i,i < K→∀ tn C,Ag M 144 [dg C,BI (R i) (tuH (h i) tn) (L i) (P i)] [] 0 (Q3 (Ah (dg (vf i tn C).1) (.int .i64 (erI (vf i tn C).2))) [] 0)
 z:∀ i,i < K→∀ tn C z,(vf i tn C).2=some z→z ≠ 0
theorem Aqh {M:Seat} (okW:OkW M) (oks:OkOs M) (okr:OkRV M) (o9:OkV9 M) (K:Nat) (k0:0 < K) (k1:K≤16) :
 Trc M K (fun i=>Dp (tm i).f 13 0) (fun i=>(tm i).h) (fun i=>(CV (C7 16).pres (tm i)).2.1) (fun i=>(CV (C7 16).pres (tm i)).2.2) (fun i tn C=>vfy C (Dp (tm i).f 13 0) (tuH (tm i).h tn) (CV (C7 16).pres (tm i)).2.1 (CV (C7 16).pres (tm i)).2.2):=by
 have key:∀ i,i < K→∃ p q pre,(CV (C7 16).pres (tm i)).2.1=p :: q∧(CV (C7 16).pres (tm i)).2.2=pre∧op4 p.v∧p.p.length=13∧(q=[] ∨ ∃ p':Pf,q=[p']∧p'.p.length=13)∧∃ h1 r1 p1,nx ckM ⟨(tm i).g,(tm i).pc,false,(tm i).xt⟩ ⟨Dp (tm i).f 13 0,p :: q,pre⟩=(h1,none,⟨r1,[],p1⟩):=by
  intro i hi
  have hc:=Pk okW i Aa
  have he:=(PL okW (tm i) i Aa hc).2.2 (C7 16).pres
  obtain ⟨h4,hpc⟩:=Apa okW i Aa
  have hl:=hc.hl
  clear hc
  generalize (C7 16).pres=pres at *
  generalize tm i=m at *
  obtain ⟨f,g,pc,hl',xt⟩:=m
  dsimp only at hl hpc h4
  subst hl
  unfold CV at he ⊢
  dsimp only [Mc.h] at he ⊢
  simp only [SR,hpc] at he ⊢
  generalize hq:nx (SP pres) ⟨g,pc,false,xt⟩ ⟨f,[],Pr.zero⟩=r at *
  obtain ⟨h1,e,s1⟩:=r
  have he:e=none:=he
  subst he
  obtain ⟨ext,e1,e2,hF⟩:=Apc pres ⟨g,pc,false,xt⟩ hpc f h4 Pr.zero h1 s1 hq
  refine ⟨_,ext,_,e1,rfl,h4,Yk f _,e2.imp id fun ⟨a,h⟩=>⟨_,h,Yk f _⟩,_,_,_,by rw [← e1];exact hF⟩
 have hh:=fun i (hi:i < K)=>(Pk okW i (show i < 1000 by omega)).hl
 refine ⟨k0,k1,fun i hi tn C=>?_,fun i hi tn C=>?_,fun i hi tn C z hz=>?_⟩
 all_goals
  obtain ⟨p,q,pre,e1,e2,h4,h13,hq,h1,r1,p1,hx⟩:=key i hi
  have hh:=hh i hi
  try (dsimp only at hz)
  try (rw [e1,e2] at hz)
  try (rw [e1,e2])
  generalize Dp (tm i).f 13 0=root at *
  clear e1 e2
  generalize tm i=m at *
  obtain ⟨f,g,pc,hl,xt⟩:=m
  dsimp only at hh hx
  subst hh
 ·exact Amy oks C root g (pc ^^^ tn) xt p q pre h4
 ·refine Aoj okr o9 root p q pre g pc xt h4 h1 r1 p1 hx ?_ (fun j=>?_) (pc ^^^ tn) C
  ·rcases hq with rfl | ⟨p',rfl,-⟩ <;> simp
  ·rcases hq with rfl | ⟨p',rfl,h'⟩
   ·cases j with
    | zero=>exact Nat.le_of_eq h13
    | succ j=>exact Nat.zero_le _
   ·cases j with
    | zero=>exact Nat.le_of_eq h13
    | succ j =>
      cases j with
      | zero=>exact Nat.le_of_eq h'
      | succ j=>exact Nat.zero_le _
 ·obtain ⟨p',q',e,-,H⟩:=Al7 _ _ _ _ _ _ _ _ _ hx
  obtain ⟨a1,a2,a3,a4⟩:=H (pc ^^^ tn) C
  have hz:(vfy C root ⟨g,pc ^^^ tn,false,xt⟩ (p :: q) pre).2=some z:=hz
  by_cases b1:Ch root (DT g (pc ^^^ tn) false xt)=C
  ·by_cases b2:8192#64≤pc ^^^ tn
   ·rw [a2 b1 b2] at hz;cases hz;decide
   ·by_cases b3:C1 (pc ^^^ tn).toNat (BC p'.v) p'.p 13=root
    ·obtain ⟨d,hd⟩:=a4 b1 b2 b3
     rw [hd] at hz;cases hz
    ·rw [a3 b1 b2 b3] at hz;cases hz;decide
  ·rw [a1 b1] at hz;cases hz;decide
def plF (i n:Nat) (sv:V) (t:BitVec 64):List V:=fr 513 [(2,.ptr 8 []),(6,.ptr 9 []),(8,.ptr 2 []),(9,.ptr 6 []),(10,W t),(11,.ptr 0 []),(13,.ptr 4 []),(139,sv),(140,.int .i64 n),(141,.int .i64 i)]
def plD (G:Gs) (m:Nat) (e:Nat→Lv):Hp:=[(4,dgV G.D G.l G.g G.s (.sl 5 [] 0 G.n 43) (.ptr 6 [])),(5,dcV G.n G.c),(6,D1 (.sl 7 [] 0 m 4)),(7,.ar 4 m fun j=>(e j).w)]
variable {M:Seat}
def plH (G:Gs) (m:Nat) (e:Nat→Lv) (av tv:V):Hp:=G.H ++ plD G m e ++ [(8,av),(9,tv)]
def plG (i n:Nat) (sv:V) (t:BitVec 64):List V:=fr 513 [(2,.ptr 8 []),(6,.ptr 9 []),(8,.ptr 2 []),(9,.ptr 6 []),(10,W t),(11,.ptr 0 []),(13,.ptr 4 []),(18,.ptr 10 []),(139,sv),(140,.int .i64 n),(141,.int .i64 i)]
def plP (M:Seat) (x:Ctx) (R0:BitVec 64) (D:Nat) (l g:BitVec 64) (s:Dg) (i n:Nat) (sv av tv:V) (A:List V) (H:Hp) (N:Nat):Prop:=∃ t G m e,Pli R0 D l g s G m e∧Ao M x A H N (plF i n sv t) (plH G m e av tv) 10
theorem Ar8 {x:Ctx} {Q:List V→Hp→Nat→Prop} {k:List It} (hx:x.k=0) (av tv sv:V) (hav:∀ H m z,Az H m z av av) (htv:∀ H m z,Az H m z tv tv) (hvv:∀ H m z,Bi H m z sv sv) (R0:BitVec 64) (D:Nat) (l g:BitVec 64) (s:Dg) (i n:Nat) (t:BitVec 64) (G:Gs) (m:Nat) (e:Nat→Lv) (I:Pli R0 D l g s G m e) (o:Op) (hk:o.kd=4):Bm M x Q (.code Aku :: .inv (plP M x R0 D l g s i n sv av tv) :: k) 11 (plG i n sv t) (plH G m e av tv ++ [(10,o.v)]):=by
 refine es 2000 ?_
 (simp only [Aku,plG,Op.v,hk,seval,plH,plD,Gs.H,Ai,Al,Ac,Ap,Cl.v,Aq,A7,A4,dgV,dcV,Cl.d,D1,Lv.w,B3,LZ,reduceCtorEq])
 repeat refine sd ?_
 refine ⟨t + o.wt % 50#64,G,m,e,I,?_⟩
 unfold plF
 refine Ao.fr [0,1,2,3,4,5,6,7,8,9] [] hx AQ Am ?_ ?_
 ·simp only [hvv,LY,seval]
 ·simp only [hav,htv,dg,plH,plD,Gs.H,Ai,Al,Ac,Ap,Cl.v,Aq,A7,A4,dgV,dcV,Cl.d,D1,Lv.w,B3,LY,seval]
theorem Ary {x:Ctx} {Q:List V→Hp→Nat→Prop} {k:List It} (hx:x.k=0) (av tv sv:V) (hav:∀ H m z,Az H m z av av) (htv:∀ H m z,Az H m z tv tv) (hvv:∀ H m z,Bi H m z sv sv) (R0:BitVec 64) (D:Nat) (l g:BitVec 64) (s:Dg) (i n:Nat) (t:BitVec 64) (G:Gs) (m:Nat) (e:Nat→Lv) (I:Pli R0 D l g s G m e) (o:Op) (k1:¬ o.kd=1) (k2:¬ o.kd=2) (k3:¬ o.kd=3) (k4:¬ o.kd=4) (k5:¬ o.kd=5) (k6:¬ o.kd=6):Bm M x Q (.code Aku :: .inv (plP M x R0 D l g s i n sv av tv) :: k) 11 (plG i n sv t) (plH G m e av tv ++ [(10,o.v)]):=by
 have k1:=eq_false k1
 have k2:=eq_false k2
 have k3:=eq_false k3
 have k4:=eq_false k4
 have k5:=eq_false k5
 have k6:=eq_false k6
 refine es 2000 ?_
 (simp only [Aku,plG,Op.v,k1,k2,k3,k4,k5,k6,plH,plD,Gs.H,Ai,Al,Ac,Ap,Cl.v,Aq,A7,A4,dgV,dcV,Cl.d,D1,Lv.w,B3,LZ,seval])
 refine ⟨t,G,m,e,I,?_⟩
 unfold plF
 refine Ao.fr [0,1,2,3,4,5,6,7,8,9] [] hx AQ Am ?_ ?_
 ·simp only [hvv,LY,seval]
 ·simp only [hav,htv,dg,plH,plD,Gs.H,Ai,Al,Ac,Ap,Cl.v,Aq,A7,A4,dgV,dcV,Cl.d,D1,Lv.w,B3,LY,seval]
structure OkP6 (M:Seat):Prop where
 g:OkGr M
 r:OkRt M
 is:∀ a b:Int,Ag M 63 [.ifc 74 (.int .i64 a),.ifc 74 (.int .i64 b)] [] 0 (Q3 (.bool (decide (a=b))) [] 0)
theorem Asc {x:Ctx} {Q:List V→Hp→Nat→Prop} {k:List It} (hx:x.k=0) (av tv sv:V) (hav:∀ H m z,Az H m z av av) (htv:∀ H m z,Az H m z tv tv) (hvv:∀ H m z,Bi H m z sv sv) (R0:BitVec 64) (D:Nat) (l g:BitVec 64) (s:Dg) (i n:Nat) (t:BitVec 64) (G:Gs) (m:Nat) (e:Nat→Lv) (I:Pli R0 D l g s G m e) (ok:OkP6 M) (o:Op) (hk:o.kd=6):Bm M x Q (.code Aku :: .inv (plP M x R0 D l g s i n sv av tv) :: k) 11 (plG i n sv t) (plH G m e av tv ++ [(10,o.v)]):=by
 by_cases hr:o.cl < 0 ∨ (G.n:Int)≤o.cl
 ·have hC:=MZ ok.g G.D G.l G.g G.s G.n o.cl hr
  have hd:((o.cl < 0)=True) ∨ ((o.cl < 0)=False∧((G.n:Int)≤o.cl)=True):=by
   by_cases h:o.cl < 0
   ·exact .inl (eq_true h)
   ·exact .inr ⟨eq_false h,eq_true (hr.resolve_left h)⟩
  rcases hd with hd | hd
  all_goals
   refine es 2000 ?_
   (simp only [Aku,Aqm,plG,Op.v,hk,seval,plH,plD,Gs.H,Ai,Al,Ac,Ap,Cl.v,Aq,A7,A4,dgV,dcV,Cl.d,D1,Lv.w,B3,LZ,reduceCtorEq])
   have zz:=Db @Ai.eq_1 @Al.eq_1 @Ac.eq_1 @Cl.v.eq_1 @Cl.zero.eq_1 @dg.eq_1;refine Bw [0,1,2] [0] (hC) ?_
   (simp only [AH,hd,Cl.v,Cl.zero,plH,plD,Gs.H,Ai,Al,Ac,Ap,Aq,A7,A4,dgV,dcV,Cl.d,D1,Lv.w,B3,seval])
   refine Ak (ok.is 4 4) ?_
   (simp only [decide_true,LZ,seval])
   refine ⟨t,G,m,e,I,?_⟩
   unfold plF
   refine Ao.fr [0,1,2,3,4,5,6,7,8,9] [] hx AQ Am ?_ ?_
   ·simp only [hvv,LY,seval]
   ·simp only [hav,htv,dg,plH,plD,Gs.H,Ai,Al,Ac,Ap,Cl.v,Aq,A7,A4,dgV,dcV,Cl.d,D1,Lv.w,B3,LY,seval]
 ·obtain ⟨p,hp⟩:∃ p:Nat,o.cl=p:=⟨o.cl.toNat,by omega⟩
  have hC:=BW ok.g G.D G.l G.g G.s G.n G.c p Aa
  have hA:=Al5 ok.r (G.c p)
  have d0:((p:Int) < 0)=False:=eq_false Aa
  have d1:((G.n:Int)≤(p:Int))=False:=eq_false Aa
  have d2:(0≤(p:Int))=True:=eq_true Aa
  have d3:((p:Int) < (G.n:Int))=True:=eq_true Aa
  simp only [Cl.v,Cl.d,Ac] at hA
  refine es 2000 ?_
  (simp only [Aku,Aqm,plG,Op.v,hk,hp,seval,plH,plD,Gs.H,Ai,Al,Ac,Ap,Cl.v,Aq,A7,A4,dgV,dcV,Cl.d,D1,Lv.w,B3,LZ,reduceCtorEq])
  have zz:=Db @Ai.eq_1 @Al.eq_1 @Ac.eq_1 @Ap.eq_1 @Cl.v.eq_1 @dg.eq_1;refine Bw [0,1,2] [0,1] (hC) ?_
  (simp only [AH,d0,d1,d2,d3,plH,plD,Gs.H,Ai,Al,Ac,Ap,Cl.v,Aq,A7,A4,dgV,dcV,Cl.d,D1,Lv.w,B3,seval])
  repeat refine sd ?_
  have zz:=@dg.eq_1;refine G0 (hA) ?_
  (simp only [plH,plD,Gs.H,Ai,Al,Ac,Ap,Cl.v,Aq,A7,A4,dgV,dcV,Cl.d,D1,Lv.w,B3,LZ,seval])
  refine ⟨t,G,m,e,I,?_⟩
  unfold plF
  refine Ao.fr [0,1,2,3,4,5,6,7,8,9] [] hx AQ Am ?_ ?_
  ·simp only [hvv,LY,seval]
  ·simp only [hav,htv,dg,plH,plD,Gs.H,Ai,Al,Ac,Ap,Cl.v,Aq,A7,A4,dgV,dcV,Cl.d,D1,Lv.w,B3,LY,seval]
end Mv
