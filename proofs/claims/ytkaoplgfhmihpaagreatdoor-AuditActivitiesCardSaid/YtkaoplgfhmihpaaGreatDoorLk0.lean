/- A part of the proof (made by program out of smaller texts). -/
import Derived.KernelRfl
import Derived.Test.YtkaoplgfhmihpaaGreatDoorProg
import Derived.Test.YtkaoplgfhmihpaaGreatDoorTabA
import Derived.Test.YtkaoplgfhmihpaaGreatDoorTabB
set_option maxRecDepth 100000
namespace Go.Ex
open Go Go.Ex Go.Proofs
theorem l5 : (cvF Tryz.prog Tryz.f5).map denF = some k5 := by kernel_rfl
theorem l7 : (cvF Tryz.prog Tryz.f7).map denF = some k7 := by kernel_rfl
theorem l8 : (cvF Tryz.prog Tryz.f8).map denF = some k8 := by kernel_rfl
theorem l9 : (cvF Tryz.prog Tryz.f9).map denF = some k9 := by kernel_rfl
theorem l10 : (cvF Tryz.prog Tryz.f10).map denF = some k10 := by kernel_rfl
theorem l11 : (cvF Tryz.prog Tryz.f11).map denF = some k11 := by kernel_rfl
theorem l12 : (cvF Tryz.prog Tryz.f12).map denF = some k12 := by kernel_rfl
theorem l13 : (cvF Tryz.prog Tryz.f13).map denF = some k13 := by kernel_rfl
theorem l14 : (cvF Tryz.prog Tryz.f14).map denF = some k14 := by kernel_rfl
theorem l15 : (cvF Tryz.prog Tryz.f15).map denF = some k15 := by kernel_rfl
theorem l16 : (cvF Tryz.prog Tryz.f16).map denF = some k16 := by kernel_rfl
theorem l17 : (cvF Tryz.prog Tryz.f17).map denF = some k17 := by kernel_rfl
theorem l18 : (cvF Tryz.prog Tryz.f18).map denF = some k18 := by kernel_rfl
theorem l19 : (cvF Tryz.prog Tryz.f19).map denF = some k19 := by kernel_rfl
theorem l20 : (cvF Tryz.prog Tryz.f20).map denF = some k20 := by kernel_rfl
theorem l21 : (cvF Tryz.prog Tryz.f21).map denF = some k21 := by kernel_rfl
theorem l22 : (cvF Tryz.prog Tryz.f22).map denF = some k22 := by kernel_rfl
theorem l23 : (cvF Tryz.prog Tryz.f23).map denF = some k23 := by kernel_rfl
theorem l24 : (cvF Tryz.prog Tryz.f24).map denF = some k24 := by kernel_rfl
theorem l25 : (cvF Tryz.prog Tryz.f25).map denF = some k25 := by kernel_rfl
theorem l26 : (cvF Tryz.prog Tryz.f26).map denF = some k26 := by kernel_rfl
theorem l27 : (cvF Tryz.prog Tryz.f27).map denF = some k27 := by kernel_rfl
theorem l28 : (cvF Tryz.prog Tryz.f28).map denF = some k28 := by kernel_rfl
theorem l29 : (cvF Tryz.prog Tryz.f29).map denF = some k29 := by kernel_rfl
theorem l30 : (cvF Tryz.prog Tryz.f30).map denF = some k30 := by kernel_rfl
theorem l31 : (cvF Tryz.prog Tryz.f31).map denF = some k31 := by kernel_rfl
theorem l32 : (cvF Tryz.prog Tryz.f32).map denF = some k32 := by kernel_rfl
theorem l34 : (cvF Tryz.prog Tryz.f34).map denF = some k34 := by kernel_rfl
theorem l35 : (cvF Tryz.prog Tryz.f35).map denF = some k35 := by kernel_rfl
theorem l36 : (cvF Tryz.prog Tryz.f36).map denF = some k36 := by kernel_rfl
theorem l37 : (cvF Tryz.prog Tryz.f37).map denF = some k37 := by kernel_rfl
theorem l38 : (cvF Tryz.prog Tryz.f38).map denF = some k38 := by kernel_rfl
theorem l39 : (cvF Tryz.prog Tryz.f39).map denF = some k39 := by kernel_rfl
theorem l40 : (cvF Tryz.prog Tryz.f40).map denF = some k40 := by kernel_rfl
theorem l41 : (cvF Tryz.prog Tryz.f41).map denF = some k41 := by kernel_rfl
theorem l43 : (cvF Tryz.prog Tryz.f43).map denF = some k43 := by kernel_rfl
theorem l44 : (cvF Tryz.prog Tryz.f44).map denF = some k44 := by kernel_rfl
theorem l45 : (cvF Tryz.prog Tryz.f45).map denF = some k45 := by kernel_rfl
theorem l46 : (cvF Tryz.prog Tryz.f46).map denF = some k46 := by kernel_rfl
theorem l47 : (cvF Tryz.prog Tryz.f47).map denF = some k47 := by kernel_rfl
theorem l48 : (cvF Tryz.prog Tryz.f48).map denF = some k48 := by kernel_rfl
theorem l49 : (cvF Tryz.prog Tryz.f49).map denF = some k49 := by kernel_rfl
theorem l50 : (cvF Tryz.prog Tryz.f50).map denF = some k50 := by kernel_rfl
theorem l51 : (cvF Tryz.prog Tryz.f51).map denF = some k51 := by kernel_rfl
theorem l53 : (cvF Tryz.prog Tryz.f53).map denF = some k53 := by kernel_rfl
theorem l54 : (cvF Tryz.prog Tryz.f54).map denF = some k54 := by kernel_rfl
theorem l55 : (cvF Tryz.prog Tryz.f55).map denF = some k55 := by kernel_rfl
theorem l56 : (cvF Tryz.prog Tryz.f56).map denF = some k56 := by kernel_rfl
theorem l58 : (cvF Tryz.prog Tryz.f58).map denF = some k58 := by kernel_rfl
theorem l59 : (cvF Tryz.prog Tryz.f59).map denF = some k59 := by kernel_rfl
theorem l60 : (cvF Tryz.prog Tryz.f60).map denF = some k60 := by kernel_rfl
theorem l61 : (cvF Tryz.prog Tryz.f61).map denF = some k61 := by kernel_rfl
theorem l62 : (cvF Tryz.prog Tryz.f62).map denF = some k62 := by kernel_rfl
theorem l63 : (cvF Tryz.prog Tryz.f63).map denF = some k63 := by kernel_rfl
theorem l64 : (cvF Tryz.prog Tryz.f64).map denF = some k64 := by kernel_rfl
theorem l65 : (cvF Tryz.prog Tryz.f65).map denF = some k65 := by kernel_rfl
theorem l66 : (cvF Tryz.prog Tryz.f66).map denF = some k66 := by kernel_rfl
theorem l74 : (cvF Tryz.prog Tryz.f74).map denF = some k74 := by kernel_rfl
theorem l76 : (cvF Tryz.prog Tryz.f76).map denF = some k76 := by kernel_rfl
theorem l77 : (cvF Tryz.prog Tryz.f77).map denF = some k77 := by kernel_rfl
theorem l81 : (cvF Tryz.prog Tryz.f81).map denF = some k81 := by kernel_rfl
theorem l82 : (cvF Tryz.prog Tryz.f82).map denF = some k82 := by kernel_rfl
theorem l83 : (cvF Tryz.prog Tryz.f83).map denF = some k83 := by kernel_rfl
theorem l84 : (cvF Tryz.prog Tryz.f84).map denF = some k84 := by kernel_rfl
theorem l85 : (cvF Tryz.prog Tryz.f85).map denF = some k85 := by kernel_rfl
theorem l86 : (cvF Tryz.prog Tryz.f86).map denF = some k86 := by kernel_rfl
theorem l87 : (cvF Tryz.prog Tryz.f87).map denF = some k87 := by kernel_rfl
theorem l88 : (cvF Tryz.prog Tryz.f88).map denF = some k88 := by kernel_rfl
theorem l89 : (cvF Tryz.prog Tryz.f89).map denF = some k89 := by kernel_rfl
theorem l90 : (cvF Tryz.prog Tryz.f90).map denF = some k90 := by kernel_rfl
theorem l91 : (cvF Tryz.prog Tryz.f91).map denF = some k91 := by kernel_rfl
theorem l92 : (cvF Tryz.prog Tryz.f92).map denF = some k92 := by kernel_rfl
theorem l93 : (cvF Tryz.prog Tryz.f93).map denF = some k93 := by kernel_rfl
theorem l94 : (cvF Tryz.prog Tryz.f94).map denF = some k94 := by kernel_rfl
theorem l95 : (cvF Tryz.prog Tryz.f95).map denF = some k95 := by kernel_rfl
theorem l96 : (cvF Tryz.prog Tryz.f96).map denF = some k96 := by kernel_rfl
theorem l97 : (cvF Tryz.prog Tryz.f97).map denF = some k97 := by kernel_rfl
end Go.Ex
