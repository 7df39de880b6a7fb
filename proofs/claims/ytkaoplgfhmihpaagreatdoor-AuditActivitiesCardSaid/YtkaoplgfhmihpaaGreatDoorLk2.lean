/- A part of the proof (made by program out of smaller texts). -/
import Derived.KernelRfl
import Derived.Test.YtkaoplgfhmihpaaGreatDoorProg
import Derived.Test.YtkaoplgfhmihpaaGreatDoorTabA
import Derived.Test.YtkaoplgfhmihpaaGreatDoorTabB
set_option maxRecDepth 100000
namespace Go.Ex
open Go Go.Ex Go.Proofs
theorem l213 : (cvF Tryz.prog Tryz.f213).map denF = some k213 := by kernel_rfl
theorem l214 : (cvF Tryz.prog Tryz.f214).map denF = some k214 := by kernel_rfl
theorem l215 : (cvF Tryz.prog Tryz.f215).map denF = some k215 := by kernel_rfl
theorem l216 : (cvF Tryz.prog Tryz.f216).map denF = some k216 := by kernel_rfl
theorem l218 : (cvF Tryz.prog Tryz.f218).map denF = some k218 := by kernel_rfl
theorem l220 : (cvF Tryz.prog Tryz.f220).map denF = some k220 := by kernel_rfl
theorem l222 : (cvF Tryz.prog Tryz.f222).map denF = some k222 := by kernel_rfl
theorem l225 : (cvF Tryz.prog Tryz.f225).map denF = some k225 := by kernel_rfl
theorem l227 : (cvF Tryz.prog Tryz.f227).map denF = some k227 := by kernel_rfl
theorem l228 : (cvF Tryz.prog Tryz.f228).map denF = some k228 := by kernel_rfl
theorem l229 : (cvF Tryz.prog Tryz.f229).map denF = some k229 := by kernel_rfl
theorem l231 : (cvF Tryz.prog Tryz.f231).map denF = some k231 := by kernel_rfl
theorem l232 : (cvF Tryz.prog Tryz.f232).map denF = some k232 := by kernel_rfl
theorem l236 : (cvF Tryz.prog Tryz.f236).map denF = some k236 := by kernel_rfl
theorem l237 : (cvF Tryz.prog Tryz.f237).map denF = some k237 := by kernel_rfl
theorem l238 : (cvF Tryz.prog Tryz.f238).map denF = some k238 := by kernel_rfl
theorem l239 : (cvF Tryz.prog Tryz.f239).map denF = some k239 := by kernel_rfl
theorem l240 : (cvF Tryz.prog Tryz.f240).map denF = some k240 := by kernel_rfl
theorem l241 : (cvF Tryz.prog Tryz.f241).map denF = some k241 := by kernel_rfl
theorem l243 : (cvF Tryz.prog Tryz.f243).map denF = some k243 := by kernel_rfl
theorem l244 : (cvF Tryz.prog Tryz.f244).map denF = some k244 := by kernel_rfl
theorem l246 : (cvF Tryz.prog Tryz.f246).map denF = some k246 := by kernel_rfl
theorem l252 : (cvF Tryz.prog Tryz.f252).map denF = some k252 := by kernel_rfl
theorem l253 : (cvF Tryz.prog Tryz.f253).map denF = some k253 := by kernel_rfl
theorem l254 : (cvF Tryz.prog Tryz.f254).map denF = some k254 := by kernel_rfl
theorem l255 : (cvF Tryz.prog Tryz.f255).map denF = some k255 := by kernel_rfl
theorem l256 : (cvF Tryz.prog Tryz.f256).map denF = some k256 := by kernel_rfl
theorem l258 : (cvF Tryz.prog Tryz.f258).map denF = some k258 := by kernel_rfl
theorem l266 : (cvF Tryz.prog Tryz.f266).map denF = some k266 := by kernel_rfl
theorem l270 : (cvF Tryz.prog Tryz.f270).map denF = some k270 := by kernel_rfl
theorem l271 : (cvF Tryz.prog Tryz.f271).map denF = some k271 := by kernel_rfl
theorem l272 : (cvF Tryz.prog Tryz.f272).map denF = some k272 := by kernel_rfl
theorem l273 : (cvF Tryz.prog Tryz.f273).map denF = some k273 := by kernel_rfl
theorem l274 : (cvF Tryz.prog Tryz.f274).map denF = some k274 := by kernel_rfl
theorem l275 : (cvF Tryz.prog Tryz.f275).map denF = some k275 := by kernel_rfl
theorem l283 : (cvF Tryz.prog Tryz.f283).map denF = some k283 := by kernel_rfl
theorem l286 : (cvF Tryz.prog Tryz.f286).map denF = some k286 := by kernel_rfl
theorem l287 : (cvF Tryz.prog Tryz.f287).map denF = some k287 := by kernel_rfl
theorem l288 : (cvF Tryz.prog Tryz.f288).map denF = some k288 := by kernel_rfl
theorem l289 : (cvF Tryz.prog Tryz.f289).map denF = some k289 := by kernel_rfl
theorem l291 : (cvF Tryz.prog Tryz.f291).map denF = some k291 := by kernel_rfl
theorem l292 : (cvF Tryz.prog Tryz.f292).map denF = some k292 := by kernel_rfl
theorem l293 : (cvF Tryz.prog Tryz.f293).map denF = some k293 := by kernel_rfl
theorem l294 : (cvF Tryz.prog Tryz.f294).map denF = some k294 := by kernel_rfl
theorem l296 : (cvF Tryz.prog Tryz.f296).map denF = some k296 := by kernel_rfl
theorem l297 : (cvF Tryz.prog Tryz.f297).map denF = some k297 := by kernel_rfl
theorem l298 : (cvF Tryz.prog Tryz.f298).map denF = some k298 := by kernel_rfl
theorem l300 : (cvF Tryz.prog Tryz.f300).map denF = some k300 := by kernel_rfl
theorem l301 : (cvF Tryz.prog Tryz.f301).map denF = some k301 := by kernel_rfl
theorem l302 : (cvF Tryz.prog Tryz.f302).map denF = some k302 := by kernel_rfl
theorem l303 : (cvF Tryz.prog Tryz.f303).map denF = some k303 := by kernel_rfl
theorem l304 : (cvF Tryz.prog Tryz.f304).map denF = some k304 := by kernel_rfl
theorem l305 : (cvF Tryz.prog Tryz.f305).map denF = some k305 := by kernel_rfl
theorem l306 : (cvF Tryz.prog Tryz.f306).map denF = some k306 := by kernel_rfl
theorem l307 : (cvF Tryz.prog Tryz.f307).map denF = some k307 := by kernel_rfl
theorem l308 : (cvF Tryz.prog Tryz.f308).map denF = some k308 := by kernel_rfl
theorem l309 : (cvF Tryz.prog Tryz.f309).map denF = some k309 := by kernel_rfl
theorem l310 : (cvF Tryz.prog Tryz.f310).map denF = some k310 := by kernel_rfl
theorem l311 : (cvF Tryz.prog Tryz.f311).map denF = some k311 := by kernel_rfl
theorem l313 : (cvF Tryz.prog Tryz.f313).map denF = some k313 := by kernel_rfl
theorem l314 : (cvF Tryz.prog Tryz.f314).map denF = some k314 := by kernel_rfl
theorem l315 : (cvF Tryz.prog Tryz.f315).map denF = some k315 := by kernel_rfl
theorem l316 : (cvF Tryz.prog Tryz.f316).map denF = some k316 := by kernel_rfl
theorem l317 : (cvF Tryz.prog Tryz.f317).map denF = some k317 := by kernel_rfl
theorem l318 : (cvF Tryz.prog Tryz.f318).map denF = some k318 := by kernel_rfl
theorem l321 : (cvF Tryz.prog Tryz.f321).map denF = some k321 := by kernel_rfl
theorem l325 : (cvF Tryz.prog Tryz.f325).map denF = some k325 := by kernel_rfl
theorem l326 : (cvF Tryz.prog Tryz.f326).map denF = some k326 := by kernel_rfl
theorem l327 : (cvF Tryz.prog Tryz.f327).map denF = some k327 := by kernel_rfl
theorem l337 : (cvF Tryz.prog Tryz.f337).map denF = some k337 := by kernel_rfl
theorem l338 : (cvF Tryz.prog Tryz.f338).map denF = some k338 := by kernel_rfl
theorem l339 : (cvF Tryz.prog Tryz.f339).map denF = some k339 := by kernel_rfl
theorem l340 : (cvF Tryz.prog Tryz.f340).map denF = some k340 := by kernel_rfl
theorem l343 : (cvF Tryz.prog Tryz.f343).map denF = some k343 := by kernel_rfl
theorem l344 : (cvF Tryz.prog Tryz.f344).map denF = some k344 := by kernel_rfl
theorem l345 : (cvF Tryz.prog Tryz.f345).map denF = some k345 := by kernel_rfl
theorem l347 : (cvF Tryz.prog Tryz.f347).map denF = some k347 := by kernel_rfl
end Go.Ex
