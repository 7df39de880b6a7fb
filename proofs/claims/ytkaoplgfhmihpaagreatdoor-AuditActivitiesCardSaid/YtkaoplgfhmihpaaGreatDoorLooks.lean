/- A part of the proof (made by program out of smaller texts). -/
import Derived.Test.YtkaoplgfhmihpaaGreatDoorExJ
import Derived.Test.YtkaoplgfhmihpaaGreatDoorExD
import Derived.Test.YtkaoplgfhmihpaaGreatDoorK15
import Derived.Test.YtkaoplgfhmihpaaGreatDoorLk0
import Derived.Test.YtkaoplgfhmihpaaGreatDoorLk1
import Derived.Test.YtkaoplgfhmihpaaGreatDoorLk2
import Derived.Test.YtkaoplgfhmihpaaGreatDoorLk3
import Derived.Test.YtkaoplgfhmihpaaGreatDoorK10
import Derived.Test.YtkaoplgfhmihpaaGreatDoorK11
import Derived.Test.YtkaoplgfhmihpaaGreatDoorK12
import Derived.Test.YtkaoplgfhmihpaaGreatDoorK13
import Derived.Test.YtkaoplgfhmihpaaGreatDoorK14
import Derived.Test.YtkaoplgfhmihpaaGreatDoorK0
import Derived.Test.YtkaoplgfhmihpaaGreatDoorK1
import Derived.Test.YtkaoplgfhmihpaaGreatDoorK2
import Derived.Test.YtkaoplgfhmihpaaGreatDoorK3
import Derived.Test.YtkaoplgfhmihpaaGreatDoorK4
import Derived.Test.YtkaoplgfhmihpaaGreatDoorK5
import Derived.Test.YtkaoplgfhmihpaaGreatDoorK6
import Derived.Test.YtkaoplgfhmihpaaGreatDoorK7
import Derived.Test.YtkaoplgfhmihpaaGreatDoorK8
import Derived.Test.YtkaoplgfhmihpaaGreatDoorK9
set_option maxRecDepth 100000
namespace Go.Ex
open Go Go.Proofs
theorem linked : Linked Tryz.prog L :=
 .cons Tryz.func5 l5 ( .cons Tryz.func7 l7 ( .cons Tryz.func8 l8 ( .cons Tryz.func9 l9 ( .cons Tryz.func10 l10 ( .cons Tryz.func11 l11 ( .cons Tryz.func12 l12 ( .cons Tryz.func13 l13 ( .cons Tryz.func14 l14 ( .cons Tryz.func15 l15 ( .cons Tryz.func16 l16 ( .cons Tryz.func17 l17 ( .cons Tryz.func18 l18 ( .cons Tryz.func19 l19 ( .cons Tryz.func20 l20 ( .cons Tryz.func21 l21 ( .cons Tryz.func22 l22 ( .cons Tryz.func23 l23 ( .cons Tryz.func24 l24 ( .cons Tryz.func25 l25 ( .cons Tryz.func26 l26 ( .cons Tryz.func27 l27 ( .cons Tryz.func28 l28 ( .cons Tryz.func29 l29 ( .cons Tryz.func30 l30 ( .cons Tryz.func31 l31 ( .cons Tryz.func32 l32 ( .cons Tryz.func34 l34 ( .cons Tryz.func35 l35 ( .cons Tryz.func36 l36 ( .cons Tryz.func37 l37 ( .cons Tryz.func38 l38 ( .cons Tryz.func39 l39 ( .cons Tryz.func40 l40 ( .cons Tryz.func41 l41 ( .cons Tryz.func43 l43 ( .cons Tryz.func44 l44 ( .cons Tryz.func45 l45 ( .cons Tryz.func46 l46 ( .cons Tryz.func47 l47 ( .cons Tryz.func48 l48 ( .cons Tryz.func49 l49 ( .cons Tryz.func50 l50 ( .cons Tryz.func51 l51 ( .cons Tryz.func53 l53 ( .cons Tryz.func54 l54 ( .cons Tryz.func55 l55 ( .cons Tryz.func56 l56 ( .cons Tryz.func58 l58 ( .cons Tryz.func59 l59 ( .cons Tryz.func60 l60 ( .cons Tryz.func61 l61 ( .cons Tryz.func62 l62 ( .cons Tryz.func63 l63 ( .cons Tryz.func64 l64 ( .cons Tryz.func65 l65 ( .cons Tryz.func66 l66 ( .cons Tryz.func74 l74 ( .cons Tryz.func76 l76 ( .cons Tryz.func77 l77 ( .cons Tryz.func81 l81 ( .cons Tryz.func82 l82 ( .cons Tryz.func83 l83 ( .cons Tryz.func84 l84 ( .cons Tryz.func85 l85 ( .cons Tryz.func86 l86 ( .cons Tryz.func87 l87 ( .cons Tryz.func88 l88 ( .cons Tryz.func89 l89 ( .cons Tryz.func90 l90 ( .cons Tryz.func91 l91 ( .cons Tryz.func92 l92 ( .cons Tryz.func93 l93 ( .cons Tryz.func94 l94 ( .cons Tryz.func95 l95 ( .cons Tryz.func96 l96 ( .cons Tryz.func97 l97 ( .cons Tryz.func98 l98 ( .cons Tryz.func99 l99 ( .cons Tryz.func100 l100 ( .cons Tryz.func101 l101 ( .cons Tryz.func102 l102 ( .cons Tryz.func103 l103 ( .cons Tryz.func104 l104 ( .cons Tryz.func105 l105 ( .cons Tryz.func109 l109 ( .cons Tryz.func110 l110 ( .cons Tryz.func111 l111 ( .cons Tryz.func112 l112 ( .cons Tryz.func113 l113 ( .cons Tryz.func114 l114 ( .cons Tryz.func115 l115 ( .cons Tryz.func116 l116 ( .cons Tryz.func117 l117 ( .cons Tryz.func118 l118 ( .cons Tryz.func120 l120 ( .cons Tryz.func121 l121 ( .cons Tryz.func122 l122 ( .cons Tryz.func123 l123 ( .cons Tryz.func124 l124 ( .cons Tryz.func130 l130 ( .cons Tryz.func131 l131 ( .cons Tryz.func132 l132 ( .cons Tryz.func133 l133 ( .cons Tryz.func134 l134 ( .cons Tryz.func135 l135 ( .cons Tryz.func136 l136 ( .cons Tryz.func137 l137 ( .cons Tryz.func139 l139 ( .cons Tryz.func140 l140 ( .cons Tryz.func141 l141 ( .cons Tryz.func142 l142 ( .cons Tryz.func144 l144 ( .cons Tryz.func148 l148 ( .cons Tryz.func149 l149 ( .cons Tryz.func150 l150 ( .cons Tryz.func151 l151 ( .cons Tryz.func156 l156 ( .cons Tryz.func157 l157 ( .cons Tryz.func159 l159 ( .cons Tryz.func160 l160 ( .cons Tryz.func161 l161 ( .cons Tryz.func162 l162 ( .cons Tryz.func163 l163 ( .cons Tryz.func164 l164 ( .cons Tryz.func166 l166 ( .cons Tryz.func167 l167 ( .cons Tryz.func168 l168 ( .cons Tryz.func169 l169 ( .cons Tryz.func170 l170 ( .cons Tryz.func171 l171 ( .cons Tryz.func177 l177 ( .cons Tryz.func178 l178 ( .cons Tryz.func179 l179 ( .cons Tryz.func180 l180 ( .cons Tryz.func184 l184 ( .cons Tryz.func185 l185 ( .cons Tryz.func187 l187 ( .cons Tryz.func190 l190 ( .cons Tryz.func191 l191 ( .cons Tryz.func192 l192 ( .cons Tryz.func193 l193 ( .cons Tryz.func194 l194 ( .cons Tryz.func195 l195 ( .cons Tryz.func196 l196 ( .cons Tryz.func198 l198 ( .cons Tryz.func200 l200 ( .cons Tryz.func201 l201 ( .cons Tryz.func202 l202 ( .cons Tryz.func207 l207 ( .cons Tryz.func208 l208 ( .cons Tryz.func209 l209 ( .cons Tryz.func210 l210 ( .cons Tryz.func211 l211 ( .cons Tryz.func213 l213 ( .cons Tryz.func214 l214 ( .cons Tryz.func215 l215 ( .cons Tryz.func216 l216 ( .cons Tryz.func218 l218 ( .cons Tryz.func220 l220 ( .cons Tryz.func222 l222 ( .cons Tryz.func225 l225 ( .cons Tryz.func227 l227 ( .cons Tryz.func228 l228 ( .cons Tryz.func229 l229 ( .cons Tryz.func231 l231 ( .cons Tryz.func232 l232 ( .cons Tryz.func236 l236 ( .cons Tryz.func237 l237 ( .cons Tryz.func238 l238 ( .cons Tryz.func239 l239 ( .cons Tryz.func240 l240 ( .cons Tryz.func241 l241 ( .cons Tryz.func243 l243 ( .cons Tryz.func244 l244 ( .cons Tryz.func246 l246 ( .cons Tryz.func252 l252 ( .cons Tryz.func253 l253 ( .cons Tryz.func254 l254 ( .cons Tryz.func255 l255 ( .cons Tryz.func256 l256 ( .cons Tryz.func258 l258 ( .cons Tryz.func266 l266 ( .cons Tryz.func270 l270 ( .cons Tryz.func271 l271 ( .cons Tryz.func272 l272 ( .cons Tryz.func273 l273 ( .cons Tryz.func274 l274 ( .cons Tryz.func275 l275 ( .cons Tryz.func283 l283 ( .cons Tryz.func286 l286 ( .cons Tryz.func287 l287 ( .cons Tryz.func288 l288 ( .cons Tryz.func289 l289 ( .cons Tryz.func291 l291 ( .cons Tryz.func292 l292 ( .cons Tryz.func293 l293 ( .cons Tryz.func294 l294 ( .cons Tryz.func296 l296 ( .cons Tryz.func297 l297 ( .cons Tryz.func298 l298 ( .cons Tryz.func300 l300 ( .cons Tryz.func301 l301 ( .cons Tryz.func302 l302 ( .cons Tryz.func303 l303 ( .cons Tryz.func304 l304 ( .cons Tryz.func305 l305 ( .cons Tryz.func306 l306 ( .cons Tryz.func307 l307 ( .cons Tryz.func308 l308 ( .cons Tryz.func309 l309 ( .cons Tryz.func310 l310 ( .cons Tryz.func311 l311 ( .cons Tryz.func313 l313 ( .cons Tryz.func314 l314 ( .cons Tryz.func315 l315 ( .cons Tryz.func316 l316 ( .cons Tryz.func317 l317 ( .cons Tryz.func318 l318 ( .cons Tryz.func321 l321 ( .cons Tryz.func325 l325 ( .cons Tryz.func326 l326 ( .cons Tryz.func327 l327 ( .cons Tryz.func337 l337 ( .cons Tryz.func338 l338 ( .cons Tryz.func339 l339 ( .cons Tryz.func340 l340 ( .cons Tryz.func343 l343 ( .cons Tryz.func344 l344 ( .cons Tryz.func345 l345 ( .cons Tryz.func347 l347 ( .cons Tryz.func350 l350 ( .cons Tryz.func351 l351 ( .cons Tryz.func362 l362 ( .cons Tryz.func363 l363 ( .cons Tryz.func364 l364 ( .cons Tryz.func365 l365 ( .cons Tryz.func366 l366 ( .cons Tryz.func378 l378 ( .cons Tryz.func379 l379 ( .cons Tryz.func380 l380 ( .cons Tryz.func381 l381 ( .cons Tryz.func382 l382 ( .cons Tryz.func385 l385 ( .cons Tryz.func389 l389 ( .cons Tryz.func390 l390 ( .cons Tryz.func392 l392 ( .cons Tryz.func394 l394 ( .cons Tryz.func395 l395 ( .cons Tryz.func396 l396 ( .cons Tryz.func397 l397 ( .cons Tryz.func398 l398 ( .cons Tryz.func400 l400 ( .cons Tryz.func401 l401 ( .cons Tryz.func402 l402 ( .cons Tryz.func403 l403 ( .cons Tryz.func404 l404 ( .cons Tryz.func407 l407 ( .cons Tryz.func408 l408 ( .cons Tryz.func409 l409 ( .cons Tryz.func411 l411 ( .cons Tryz.func413 l413 ( .cons Tryz.func414 l414 ( .cons Tryz.func416 l416 ( .cons Tryz.func418 l418 ( .cons Tryz.func419 l419 ( .cons Tryz.func420 l420 ( .cons Tryz.func421 l421 ( .cons Tryz.func422 l422 ( .cons Tryz.func423 l423 ( .cons Tryz.func434 l434 ( .cons Tryz.func435 l435 ( .cons Tryz.func436 l436 ( .cons Tryz.func439 l439 ( .cons Tryz.func448 l448 ( .cons Tryz.func452 l452 ( .cons Tryz.func457 l457 ( .cons Tryz.func458 l458 ( .cons Tryz.func459 l459 ( .cons Tryz.func460 l460 ( .cons Tryz.func461 l461 ( .cons Tryz.func462 l462 ( .cons Tryz.func463 l463 ( .cons Tryz.func466 l466 ( .cons Tryz.func468 l468 ( .cons Tryz.func470 l470 ( .cons Tryz.func471 l471 ( .cons Tryz.func473 l473 ( .cons Tryz.func476 l476 ( .cons Tryz.func478 l478 ( .cons Tryz.func479 l479 ( .cons Tryz.func481 l481 ( .cons Tryz.func482 l482 ( .cons Tryz.func492 l492 ( .cons Tryz.func493 l493 ( .cons Tryz.func494 l494 ( .cons Tryz.func497 l497 ( .cons Tryz.func498 l498 ( .cons Tryz.func499 l499 ( .cons Tryz.func501 l501 ( .cons Tryz.func502 l502 ( .cons Tryz.func505 l505 ( .cons Tryz.func509 l509 ( .cons Tryz.func510 l510 ( .cons Tryz.func511 l511 ( .cons Tryz.func522 l522 ( .cons Tryz.func523 l523 ( .cons Tryz.func524 l524 ( .nil))))))))))))))))))))))))))))))))))))))))))))))))))))))))))))))))))))))))))))))))))))))))))))))))))))))))))))))))))))))))))))))))))))))))))))))))))))))))))))))))))))))))))))))))))))))))))))))))))))))))))))))))))))))))))))))))))))))))))))))))))))))))))))))))))))))))))))))))))))))))))))))))))))))))))))))))))))
theorem hmix : Tryz.prog.follows .mixedOrders = true := by kernel_rfl
theorem orc0_ok : OrcOK Tryz.prog (fun _ _ _ => none) := by intro f args h v h' e; cases e
theorem orcIn_ok {t : T Unit} {o : Nat → List AV → Heap → Option (AV × Heap)} (h : OrcOK Tryz.prog o) : OrcOK Tryz.prog (orcIn t o) := by
  intro f args hp v h' e
  unfold orcIn at e
  split at e
  · exact h f args hp v h' e
  · cases e
theorem ck_ok {orc : Nat → List AV → Heap → Option (AV × Heap)} (h : OrcOK Tryz.prog orc) : CallS Tryz.prog (callN (envOf Tryz.prog L orc) 100000 60) := calls_sound (envOf_ok h) hmix 100000 60
theorem pm {ck : CK} {orc : Nat → List AV → Heap → Option (AV × Heap)} (h : OrcOK Tryz.prog orc) (he : ck = runK L orc 100000 60) {m : PMemo} (hm : m.okK ck = true) : ∃ call, CallS Tryz.prog call ∧ m.ok call = true :=
  ⟨_, ck_ok h, PMemo.okK_ok (runK_eq linked orc 100000 60) (he ▸ hm)⟩
theorem mm {ck : CK} {orc : Nat → List AV → Heap → Option (AV × Heap)} (h : OrcOK Tryz.prog orc) (he : ck = runK L orc 100000 60) {m : Memo} (hm : m.okK ck = true) : ∃ call, CallS Tryz.prog call ∧ m.ok call = true :=
  ⟨_, ck_ok h, Memo.okK_ok (runK_eq linked orc 100000 60) (he ▸ hm)⟩
theorem ps_ok : ∀ m, m ∈ PS → ∃ call, CallS Tryz.prog call ∧ m.ok call = true := by
  intro m hm
  unfold PS at hm
  simp only [List.mem_cons, List.not_mem_nil, or_false] at hm
  rcases hm with rfl | rfl | rfl | rfl | rfl | rfl | rfl | rfl | rfl | rfl | rfl | rfl | rfl | rfl | rfl | rfl | rfl | rfl
  · exact pm orc0_ok rfl p0
  · exact pm orc0_ok rfl p1
  · exact pm orc0_ok rfl p2
  · exact pm orc0_ok rfl p3
  · exact pm orc0_ok rfl p4
  · exact pm orc0_ok rfl p5
  · exact pm orc0_ok rfl p6
  · exact pm orc0_ok rfl p7
  · exact pm orc0_ok rfl p8
  · exact pm orc0_ok rfl p9
  · exact pm orc0_ok rfl p10
  · exact pm orc0_ok rfl p11
  · exact pm orc0_ok rfl p12
  · exact pm orc0_ok rfl p13
  · exact pm orc0_ok rfl p14
  · exact pm orc0_ok rfl p15
  · exact pm orc0_ok rfl p16
  · exact pm orc0_ok rfl p17
theorem orc1_ok : OrcOK Tryz.prog orc1 := orElse_ok (orcIn_ok (orcP_ok ps_ok)) (by
  intro f args h v h' e
  unfold orcIn at e
  split at e
  · rename_i u hu
    have hf : f = 43 := by
      have hu : ((T.leaf : T Unit).set (43 + 1) 43 ()).get f = some u := hu
      rw [T.get_set _ _ _ _ _ (by omega)] at hu
      by_cases h : f = 43
      · exact h
      · rw [if_neg h, T.get_leaf] at hu; cases hu
    subst hf
    exact join_ok e
  · cases e)
theorem find9 {m : Memo} (hm : (match cvF Tryz.prog Tryz.f493 with
    | some F => m.ok2 (callN (envOf Tryz.prog L orc1) 100000 60) 100000 F
    | none => false) = true) (hf : m.f = 493) : OrcOK Tryz.prog (fun f args h => findMemo f args h [m]) := by
  intro f args h v h' e
  simp only [findMemo] at e
  split at e
  · rename_i h1
    split at e
    · rename_i h2
      split at e
      · rename_i h3
        simp only [Option.some.injEq, Prod.mk.injEq] at e
        obtain ⟨rfl, rfl⟩ := e
        split at hm
        · rename_i F hF
          obtain ⟨g1, g2⟩ := Memo.sound2 (ck_ok orc1_ok) hmix (by rw [hf]; exact Tryz.func493) hF hm
          rw [Nat.eq_of_beq_eq_true h1] at g1 g2
          have h2 := AV.beqs_eq _ _ h2
          exact ⟨g1, fun ρ w args' hw ha => g2 ρ w args' h h3 hw (by rw [h2]; exact ha)⟩
        · cases hm
      · cases e
    · cases e
  · cases e
theorem oc30_ok : OrcOK Tryz.prog oc30 := orElse_ok (orcIn_ok (find9 x31 rfl)) orc1_ok
theorem ms2 : ∀ m, m ∈ [M3, M4, M5] → ∃ call, CallS Tryz.prog call ∧ m.ok call = true := by
  intro m hm
  simp only [List.mem_cons, List.not_mem_nil, or_false] at hm
  rcases hm with rfl | rfl | rfl
  · exact mm orc1_ok rfl m3
  · exact mm orc1_ok rfl m4
  · exact mm orc1_ok rfl m5
theorem oc2_ok : OrcOK Tryz.prog oc2 := orElse_ok (orcIn_ok (findMemo_ok _ ms2)) orc1_ok
theorem ms6 : ∀ m, m ∈ [M7, M8, M9, M10, M11] → ∃ call, CallS Tryz.prog call ∧ m.ok call = true := by
  intro m hm
  simp only [List.mem_cons, List.not_mem_nil, or_false] at hm
  rcases hm with rfl | rfl | rfl | rfl | rfl
  · exact mm orc1_ok rfl m7
  · exact mm orc1_ok rfl m8
  · exact mm orc1_ok rfl m9
  · exact mm orc1_ok rfl m10
  · exact mm orc1_ok rfl m11
theorem oc6_ok : OrcOK Tryz.prog oc6 := orElse_ok (orcIn_ok (findMemo_ok _ ms6)) orc1_ok
theorem ms13 : ∀ m, m ∈ [M14, M15, M16, M17, M18] → ∃ call, CallS Tryz.prog call ∧ m.ok call = true := by
  intro m hm
  simp only [List.mem_cons, List.not_mem_nil, or_false] at hm
  rcases hm with rfl | rfl | rfl | rfl | rfl
  · exact mm orc1_ok rfl m14
  · exact mm orc1_ok rfl m15
  · exact mm orc1_ok rfl m16
  · exact mm orc1_ok rfl m17
  · exact mm orc1_ok rfl m18
theorem oc13_ok : OrcOK Tryz.prog oc13 := orElse_ok (orcIn_ok (findMemo_ok _ ms13)) orc1_ok
theorem ms20 : ∀ m, m ∈ [M21, M22, M23, M24, M25] → ∃ call, CallS Tryz.prog call ∧ m.ok call = true := by
  intro m hm
  simp only [List.mem_cons, List.not_mem_nil, or_false] at hm
  rcases hm with rfl | rfl | rfl | rfl | rfl
  · exact mm orc1_ok rfl m21
  · exact mm orc1_ok rfl m22
  · exact mm orc1_ok rfl m23
  · exact mm orc1_ok rfl m24
  · exact mm orc1_ok rfl m25
theorem oc20_ok : OrcOK Tryz.prog oc20 := orElse_ok (orcIn_ok (findMemo_ok _ ms20)) orc1_ok
theorem ms26 : ∀ m, m ∈ [M27, M28, M29, M30, M32] → ∃ call, CallS Tryz.prog call ∧ m.ok call = true := by
  intro m hm
  simp only [List.mem_cons, List.not_mem_nil, or_false] at hm
  rcases hm with rfl | rfl | rfl | rfl | rfl
  · exact mm orc1_ok rfl m27
  · exact mm orc1_ok rfl m28
  · exact mm orc1_ok rfl m29
  · exact mm oc30_ok rfl m30
  · exact mm orc1_ok rfl m32
theorem oc26_ok : OrcOK Tryz.prog oc26 := orElse_ok (orcIn_ok (findMemo_ok _ ms26)) orc1_ok
theorem ms41 : ∀ m, m ∈ [M42, M43] → ∃ call, CallS Tryz.prog call ∧ m.ok call = true := by
  intro m hm
  simp only [List.mem_cons, List.not_mem_nil, or_false] at hm
  rcases hm with rfl | rfl
  · exact mm orc1_ok rfl m42
  · exact mm orc1_ok rfl m43
theorem oc41_ok : OrcOK Tryz.prog oc41 := orElse_ok (orcIn_ok (findMemo_ok _ ms41)) orc1_ok
theorem ms3 : ∀ m, m ∈ [M1, M2, M6, M12, M13, M19, M20, M26, M33, M34, M35, M36, M37, M38, M39, M40, M41, M44] → ∃ call, CallS Tryz.prog call ∧ m.ok call = true := by
  intro m hm
  simp only [List.mem_cons, List.not_mem_nil, or_false] at hm
  rcases hm with rfl | rfl | rfl | rfl | rfl | rfl | rfl | rfl | rfl | rfl | rfl | rfl | rfl | rfl | rfl | rfl | rfl | rfl
  · exact mm orc1_ok rfl m1
  · exact mm oc2_ok rfl m2
  · exact mm oc6_ok rfl m6
  · exact mm orc1_ok rfl m12
  · exact mm oc13_ok rfl m13
  · exact mm orc1_ok rfl m19
  · exact mm oc20_ok rfl m20
  · exact mm oc26_ok rfl m26
  · exact mm orc1_ok rfl m33
  · exact mm orc1_ok rfl m34
  · exact mm orc1_ok rfl m35
  · exact mm orc1_ok rfl m36
  · exact mm orc1_ok rfl m37
  · exact mm orc1_ok rfl m38
  · exact mm orc1_ok rfl m39
  · exact mm orc1_ok rfl m40
  · exact mm oc41_ok rfl m41
  · exact mm orc1_ok rfl m44
theorem orc3_ok : OrcOK Tryz.prog orc3 := orElse_ok (orcIn_ok (findMemo_ok _ ms3)) orc1_ok
theorem looks_ok : CallOK Tryz.prog 5 ∧ ∀ (ρ : Ren) (w : World) (h : Heap), WR ρ h w → Calls Tryz.prog 5 #[] w (CallPost ρ w (.bool true) h) := by
  obtain ⟨call, h1, h2⟩ := pm orc3_ok rfl fin
  obtain ⟨g1, g2⟩ := PMemo.sound h1 h2
  exact ⟨g1, fun ρ w h hw => g2 ρ w #[] h hw .nil⟩
end Go.Ex
