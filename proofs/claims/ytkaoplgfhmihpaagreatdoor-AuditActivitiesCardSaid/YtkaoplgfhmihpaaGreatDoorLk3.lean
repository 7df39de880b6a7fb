/- A part of the proof (made by program out of smaller texts). -/
import Derived.KernelRfl
import Derived.Test.YtkaoplgfhmihpaaGreatDoorProg
import Derived.Test.YtkaoplgfhmihpaaGreatDoorTabA
import Derived.Test.YtkaoplgfhmihpaaGreatDoorTabB
set_option maxRecDepth 100000
namespace Go.Ex
open Go Go.Ex Go.Proofs
theorem l350 : (cvF Tryz.prog Tryz.f350).map denF = some k350 := by kernel_rfl
theorem l351 : (cvF Tryz.prog Tryz.f351).map denF = some k351 := by kernel_rfl
theorem l362 : (cvF Tryz.prog Tryz.f362).map denF = some k362 := by kernel_rfl
theorem l363 : (cvF Tryz.prog Tryz.f363).map denF = some k363 := by kernel_rfl
theorem l364 : (cvF Tryz.prog Tryz.f364).map denF = some k364 := by kernel_rfl
theorem l365 : (cvF Tryz.prog Tryz.f365).map denF = some k365 := by kernel_rfl
theorem l366 : (cvF Tryz.prog Tryz.f366).map denF = some k366 := by kernel_rfl
theorem l378 : (cvF Tryz.prog Tryz.f378).map denF = some k378 := by kernel_rfl
theorem l379 : (cvF Tryz.prog Tryz.f379).map denF = some k379 := by kernel_rfl
theorem l380 : (cvF Tryz.prog Tryz.f380).map denF = some k380 := by kernel_rfl
theorem l381 : (cvF Tryz.prog Tryz.f381).map denF = some k381 := by kernel_rfl
theorem l382 : (cvF Tryz.prog Tryz.f382).map denF = some k382 := by kernel_rfl
theorem l385 : (cvF Tryz.prog Tryz.f385).map denF = some k385 := by kernel_rfl
theorem l389 : (cvF Tryz.prog Tryz.f389).map denF = some k389 := by kernel_rfl
theorem l390 : (cvF Tryz.prog Tryz.f390).map denF = some k390 := by kernel_rfl
theorem l392 : (cvF Tryz.prog Tryz.f392).map denF = some k392 := by kernel_rfl
theorem l394 : (cvF Tryz.prog Tryz.f394).map denF = some k394 := by kernel_rfl
theorem l395 : (cvF Tryz.prog Tryz.f395).map denF = some k395 := by kernel_rfl
theorem l396 : (cvF Tryz.prog Tryz.f396).map denF = some k396 := by kernel_rfl
theorem l397 : (cvF Tryz.prog Tryz.f397).map denF = some k397 := by kernel_rfl
theorem l398 : (cvF Tryz.prog Tryz.f398).map denF = some k398 := by kernel_rfl
theorem l400 : (cvF Tryz.prog Tryz.f400).map denF = some k400 := by kernel_rfl
theorem l401 : (cvF Tryz.prog Tryz.f401).map denF = some k401 := by kernel_rfl
theorem l402 : (cvF Tryz.prog Tryz.f402).map denF = some k402 := by kernel_rfl
theorem l403 : (cvF Tryz.prog Tryz.f403).map denF = some k403 := by kernel_rfl
theorem l404 : (cvF Tryz.prog Tryz.f404).map denF = some k404 := by kernel_rfl
theorem l407 : (cvF Tryz.prog Tryz.f407).map denF = some k407 := by kernel_rfl
theorem l408 : (cvF Tryz.prog Tryz.f408).map denF = some k408 := by kernel_rfl
theorem l409 : (cvF Tryz.prog Tryz.f409).map denF = some k409 := by kernel_rfl
theorem l411 : (cvF Tryz.prog Tryz.f411).map denF = some k411 := by kernel_rfl
theorem l413 : (cvF Tryz.prog Tryz.f413).map denF = some k413 := by kernel_rfl
theorem l414 : (cvF Tryz.prog Tryz.f414).map denF = some k414 := by kernel_rfl
theorem l416 : (cvF Tryz.prog Tryz.f416).map denF = some k416 := by kernel_rfl
theorem l418 : (cvF Tryz.prog Tryz.f418).map denF = some k418 := by kernel_rfl
theorem l419 : (cvF Tryz.prog Tryz.f419).map denF = some k419 := by kernel_rfl
theorem l420 : (cvF Tryz.prog Tryz.f420).map denF = some k420 := by kernel_rfl
theorem l421 : (cvF Tryz.prog Tryz.f421).map denF = some k421 := by kernel_rfl
theorem l422 : (cvF Tryz.prog Tryz.f422).map denF = some k422 := by kernel_rfl
theorem l423 : (cvF Tryz.prog Tryz.f423).map denF = some k423 := by kernel_rfl
theorem l434 : (cvF Tryz.prog Tryz.f434).map denF = some k434 := by kernel_rfl
theorem l435 : (cvF Tryz.prog Tryz.f435).map denF = some k435 := by kernel_rfl
theorem l436 : (cvF Tryz.prog Tryz.f436).map denF = some k436 := by kernel_rfl
theorem l439 : (cvF Tryz.prog Tryz.f439).map denF = some k439 := by kernel_rfl
theorem l448 : (cvF Tryz.prog Tryz.f448).map denF = some k448 := by kernel_rfl
theorem l452 : (cvF Tryz.prog Tryz.f452).map denF = some k452 := by kernel_rfl
theorem l457 : (cvF Tryz.prog Tryz.f457).map denF = some k457 := by kernel_rfl
theorem l458 : (cvF Tryz.prog Tryz.f458).map denF = some k458 := by kernel_rfl
theorem l459 : (cvF Tryz.prog Tryz.f459).map denF = some k459 := by kernel_rfl
theorem l460 : (cvF Tryz.prog Tryz.f460).map denF = some k460 := by kernel_rfl
theorem l461 : (cvF Tryz.prog Tryz.f461).map denF = some k461 := by kernel_rfl
theorem l462 : (cvF Tryz.prog Tryz.f462).map denF = some k462 := by kernel_rfl
theorem l463 : (cvF Tryz.prog Tryz.f463).map denF = some k463 := by kernel_rfl
theorem l466 : (cvF Tryz.prog Tryz.f466).map denF = some k466 := by kernel_rfl
theorem l468 : (cvF Tryz.prog Tryz.f468).map denF = some k468 := by kernel_rfl
theorem l470 : (cvF Tryz.prog Tryz.f470).map denF = some k470 := by kernel_rfl
theorem l471 : (cvF Tryz.prog Tryz.f471).map denF = some k471 := by kernel_rfl
theorem l473 : (cvF Tryz.prog Tryz.f473).map denF = some k473 := by kernel_rfl
theorem l476 : (cvF Tryz.prog Tryz.f476).map denF = some k476 := by kernel_rfl
theorem l478 : (cvF Tryz.prog Tryz.f478).map denF = some k478 := by kernel_rfl
theorem l479 : (cvF Tryz.prog Tryz.f479).map denF = some k479 := by kernel_rfl
theorem l481 : (cvF Tryz.prog Tryz.f481).map denF = some k481 := by kernel_rfl
theorem l482 : (cvF Tryz.prog Tryz.f482).map denF = some k482 := by kernel_rfl
theorem l492 : (cvF Tryz.prog Tryz.f492).map denF = some k492 := by kernel_rfl
theorem l493 : (cvF Tryz.prog Tryz.f493).map denF = some k493 := by kernel_rfl
theorem l494 : (cvF Tryz.prog Tryz.f494).map denF = some k494 := by kernel_rfl
theorem l497 : (cvF Tryz.prog Tryz.f497).map denF = some k497 := by kernel_rfl
theorem l498 : (cvF Tryz.prog Tryz.f498).map denF = some k498 := by kernel_rfl
theorem l499 : (cvF Tryz.prog Tryz.f499).map denF = some k499 := by kernel_rfl
theorem l501 : (cvF Tryz.prog Tryz.f501).map denF = some k501 := by kernel_rfl
theorem l502 : (cvF Tryz.prog Tryz.f502).map denF = some k502 := by kernel_rfl
theorem l505 : (cvF Tryz.prog Tryz.f505).map denF = some k505 := by kernel_rfl
theorem l509 : (cvF Tryz.prog Tryz.f509).map denF = some k509 := by kernel_rfl
theorem l510 : (cvF Tryz.prog Tryz.f510).map denF = some k510 := by kernel_rfl
theorem l511 : (cvF Tryz.prog Tryz.f511).map denF = some k511 := by kernel_rfl
theorem l522 : (cvF Tryz.prog Tryz.f522).map denF = some k522 := by kernel_rfl
theorem l523 : (cvF Tryz.prog Tryz.f523).map denF = some k523 := by kernel_rfl
theorem l524 : (cvF Tryz.prog Tryz.f524).map denF = some k524 := by kernel_rfl
end Go.Ex
