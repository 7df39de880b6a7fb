/- A part of the proof (made by program out of smaller texts). -/
import Derived.KernelRfl
import Derived.Test.YtkaoplgfhmihpaaGreatDoorProg
import Derived.Test.YtkaoplgfhmihpaaGreatDoorTabA
import Derived.Test.YtkaoplgfhmihpaaGreatDoorTabB
set_option maxRecDepth 100000
namespace Go.Ex
open Go Go.Ex Go.Proofs
theorem l98 : (cvF Tryz.prog Tryz.f98).map denF = some k98 := by kernel_rfl
theorem l99 : (cvF Tryz.prog Tryz.f99).map denF = some k99 := by kernel_rfl
theorem l100 : (cvF Tryz.prog Tryz.f100).map denF = some k100 := by kernel_rfl
theorem l101 : (cvF Tryz.prog Tryz.f101).map denF = some k101 := by kernel_rfl
theorem l102 : (cvF Tryz.prog Tryz.f102).map denF = some k102 := by kernel_rfl
theorem l103 : (cvF Tryz.prog Tryz.f103).map denF = some k103 := by kernel_rfl
theorem l104 : (cvF Tryz.prog Tryz.f104).map denF = some k104 := by kernel_rfl
theorem l105 : (cvF Tryz.prog Tryz.f105).map denF = some k105 := by kernel_rfl
theorem l109 : (cvF Tryz.prog Tryz.f109).map denF = some k109 := by kernel_rfl
theorem l110 : (cvF Tryz.prog Tryz.f110).map denF = some k110 := by kernel_rfl
theorem l111 : (cvF Tryz.prog Tryz.f111).map denF = some k111 := by kernel_rfl
theorem l112 : (cvF Tryz.prog Tryz.f112).map denF = some k112 := by kernel_rfl
theorem l113 : (cvF Tryz.prog Tryz.f113).map denF = some k113 := by kernel_rfl
theorem l114 : (cvF Tryz.prog Tryz.f114).map denF = some k114 := by kernel_rfl
theorem l115 : (cvF Tryz.prog Tryz.f115).map denF = some k115 := by kernel_rfl
theorem l116 : (cvF Tryz.prog Tryz.f116).map denF = some k116 := by kernel_rfl
theorem l117 : (cvF Tryz.prog Tryz.f117).map denF = some k117 := by kernel_rfl
theorem l118 : (cvF Tryz.prog Tryz.f118).map denF = some k118 := by kernel_rfl
theorem l120 : (cvF Tryz.prog Tryz.f120).map denF = some k120 := by kernel_rfl
theorem l121 : (cvF Tryz.prog Tryz.f121).map denF = some k121 := by kernel_rfl
theorem l122 : (cvF Tryz.prog Tryz.f122).map denF = some k122 := by kernel_rfl
theorem l123 : (cvF Tryz.prog Tryz.f123).map denF = some k123 := by kernel_rfl
theorem l124 : (cvF Tryz.prog Tryz.f124).map denF = some k124 := by kernel_rfl
theorem l130 : (cvF Tryz.prog Tryz.f130).map denF = some k130 := by kernel_rfl
theorem l131 : (cvF Tryz.prog Tryz.f131).map denF = some k131 := by kernel_rfl
theorem l132 : (cvF Tryz.prog Tryz.f132).map denF = some k132 := by kernel_rfl
theorem l133 : (cvF Tryz.prog Tryz.f133).map denF = some k133 := by kernel_rfl
theorem l134 : (cvF Tryz.prog Tryz.f134).map denF = some k134 := by kernel_rfl
theorem l135 : (cvF Tryz.prog Tryz.f135).map denF = some k135 := by kernel_rfl
theorem l136 : (cvF Tryz.prog Tryz.f136).map denF = some k136 := by kernel_rfl
theorem l137 : (cvF Tryz.prog Tryz.f137).map denF = some k137 := by kernel_rfl
theorem l139 : (cvF Tryz.prog Tryz.f139).map denF = some k139 := by kernel_rfl
theorem l140 : (cvF Tryz.prog Tryz.f140).map denF = some k140 := by kernel_rfl
theorem l141 : (cvF Tryz.prog Tryz.f141).map denF = some k141 := by kernel_rfl
theorem l142 : (cvF Tryz.prog Tryz.f142).map denF = some k142 := by kernel_rfl
theorem l144 : (cvF Tryz.prog Tryz.f144).map denF = some k144 := by kernel_rfl
theorem l148 : (cvF Tryz.prog Tryz.f148).map denF = some k148 := by kernel_rfl
theorem l149 : (cvF Tryz.prog Tryz.f149).map denF = some k149 := by kernel_rfl
theorem l150 : (cvF Tryz.prog Tryz.f150).map denF = some k150 := by kernel_rfl
theorem l151 : (cvF Tryz.prog Tryz.f151).map denF = some k151 := by kernel_rfl
theorem l156 : (cvF Tryz.prog Tryz.f156).map denF = some k156 := by kernel_rfl
theorem l157 : (cvF Tryz.prog Tryz.f157).map denF = some k157 := by kernel_rfl
theorem l159 : (cvF Tryz.prog Tryz.f159).map denF = some k159 := by kernel_rfl
theorem l160 : (cvF Tryz.prog Tryz.f160).map denF = some k160 := by kernel_rfl
theorem l161 : (cvF Tryz.prog Tryz.f161).map denF = some k161 := by kernel_rfl
theorem l162 : (cvF Tryz.prog Tryz.f162).map denF = some k162 := by kernel_rfl
theorem l163 : (cvF Tryz.prog Tryz.f163).map denF = some k163 := by kernel_rfl
theorem l164 : (cvF Tryz.prog Tryz.f164).map denF = some k164 := by kernel_rfl
theorem l166 : (cvF Tryz.prog Tryz.f166).map denF = some k166 := by kernel_rfl
theorem l167 : (cvF Tryz.prog Tryz.f167).map denF = some k167 := by kernel_rfl
theorem l168 : (cvF Tryz.prog Tryz.f168).map denF = some k168 := by kernel_rfl
theorem l169 : (cvF Tryz.prog Tryz.f169).map denF = some k169 := by kernel_rfl
theorem l170 : (cvF Tryz.prog Tryz.f170).map denF = some k170 := by kernel_rfl
theorem l171 : (cvF Tryz.prog Tryz.f171).map denF = some k171 := by kernel_rfl
theorem l177 : (cvF Tryz.prog Tryz.f177).map denF = some k177 := by kernel_rfl
theorem l178 : (cvF Tryz.prog Tryz.f178).map denF = some k178 := by kernel_rfl
theorem l179 : (cvF Tryz.prog Tryz.f179).map denF = some k179 := by kernel_rfl
theorem l180 : (cvF Tryz.prog Tryz.f180).map denF = some k180 := by kernel_rfl
theorem l184 : (cvF Tryz.prog Tryz.f184).map denF = some k184 := by kernel_rfl
theorem l185 : (cvF Tryz.prog Tryz.f185).map denF = some k185 := by kernel_rfl
theorem l187 : (cvF Tryz.prog Tryz.f187).map denF = some k187 := by kernel_rfl
theorem l190 : (cvF Tryz.prog Tryz.f190).map denF = some k190 := by kernel_rfl
theorem l191 : (cvF Tryz.prog Tryz.f191).map denF = some k191 := by kernel_rfl
theorem l192 : (cvF Tryz.prog Tryz.f192).map denF = some k192 := by kernel_rfl
theorem l193 : (cvF Tryz.prog Tryz.f193).map denF = some k193 := by kernel_rfl
theorem l194 : (cvF Tryz.prog Tryz.f194).map denF = some k194 := by kernel_rfl
theorem l195 : (cvF Tryz.prog Tryz.f195).map denF = some k195 := by kernel_rfl
theorem l196 : (cvF Tryz.prog Tryz.f196).map denF = some k196 := by kernel_rfl
theorem l198 : (cvF Tryz.prog Tryz.f198).map denF = some k198 := by kernel_rfl
theorem l200 : (cvF Tryz.prog Tryz.f200).map denF = some k200 := by kernel_rfl
theorem l201 : (cvF Tryz.prog Tryz.f201).map denF = some k201 := by kernel_rfl
theorem l202 : (cvF Tryz.prog Tryz.f202).map denF = some k202 := by kernel_rfl
theorem l207 : (cvF Tryz.prog Tryz.f207).map denF = some k207 := by kernel_rfl
theorem l208 : (cvF Tryz.prog Tryz.f208).map denF = some k208 := by kernel_rfl
theorem l209 : (cvF Tryz.prog Tryz.f209).map denF = some k209 := by kernel_rfl
theorem l210 : (cvF Tryz.prog Tryz.f210).map denF = some k210 := by kernel_rfl
theorem l211 : (cvF Tryz.prog Tryz.f211).map denF = some k211 := by kernel_rfl
end Go.Ex
