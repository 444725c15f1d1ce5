/- A part of a printed proof: one branch of it. Conditions: none. -/
import Derived.Test.YteheclbneoodeaaPTriePlaysx0
import Derived.Test.YteheclbneoodeaaPTriePlaysx1
import Derived.Test.YteheclbneoodeaaPTriePlaysx2
import Derived.Test.YteheclbneoodeaaPTriePlaysx3
import Derived.Test.YteheclbneoodeaaPTriePlaysx4
import Derived.Test.YteheclbneoodeaaPTriePlaysy0
namespace Go.Proofs.Yteheclbneoodeaa.PTriePlays
open Go.RowKit Go.Proofs.YteheclbneoodeaaW.PrintWords Go.Proofs.YteheclbneoodeaaW.PrintLast Go.Proofs.YteheclbneoodeaaW.PrintMore
attribute [local go_sem] max2_int min2_int max_two min_two max_three min_three max_four min_four   -- for this text's walks alone
set_option linter.unusedVariables false
set_option linter.unusedSimpArgs false
attribute [local go_sem high] eqA47
set_option maxHeartbeats 8000000 in
set_option maxRecDepth 100000 in
theorem TR.branch1 : TR.part.1 := by
 intro k A0 c0 l0 A1 c1 l1 r w hu62 hu47 HR0 HC0 HR1 HC1 z1_ z2_ wc u21 u22 u23 u24 u25 u26 u27 u29 u30 z3_ z4_ z5_ z6_ z7_ z8_ z9_ z10_ z11_ z12_ z13_ z14_ z15_ z16_ z17_ z18_ z19_ z20_ z21_ z22_ z23_ z24_ z25_ z26_ z27_ z28_ z29_ z30_ z31_ z32_ z33_ z34_ z35_ z36_ z37_ z38_ z39_ z40_ z41_ z42_ z43_ z44_ z45_ z46_ z47_ z48_ z49_ z50_ z51_ z52_ z53_ z54_ z55_ z56_ z57_ z58_ z59_ z60_ z61_ z62_ z63_ z64_ z65_ z66_ z67_ z68_ z69_ z70_ z71_ z72_ z73_ z74_ z75_ z76_ z77_ z78_ z79_ z80_ z81_ z82_ z83_ z84_ z85_ z86_ z87_ z88_ z89_ z90_ z91_ z92_ z93_ z94_ z95_ z96_ z97_ z98_ z99_ z100_ z101_ z102_ z103_ z104_ z105_ z106_ z107_ z108_ z109_ z110_ z111_ z112_ z113_ z114_ z115_ z116_ z117_ z118_ z119_ z120_ z121_ z122_ z123_ z124_ z125_ z126_ z127_ z128_ z129_ z130_ z131_ z132_ z133_ z134_ z135_ z136_ z137_ z138_ z139_ z140_ z141_ z142_ z143_ z144_ z145_ z146_ z147_ z148_ z149_ z150_ z151_ z152_ z153_ z154_ z155_ z156_ z157_ z158_ z159_ z160_ z161_ z162_ z163_ z164_ z165_ z166_ z167_ z168_ u197 u198 u199 u200 u201 u202 u203 u204 u205 u206 u207 u208 u209 u210 u211 u212 u213 u214 u215 u216 u217 u218 u219 u220 u221 u222 u223 u224 u225 u226 u227 u228 u229 u230 u231 u232 u233 u234 u235 u236 u237 u238 u239 u240 u241 u242 u243 u244 u245 u246 u247 u248 u249 u250 u251 u252 u253 u254 u255 u256 u257 u258 u259 u260 u261 u262 u263 u264 u265 u266 u267 u268 u269 u270 u271 u272 u273 u274 u275 u276 u277 u278 u279 u280 u281 u282 u283 u284 u285 u286 u287 u288 u289 kj2 HJ2 t134 A8 w9 g135 z169_ z170_ z171_ z172_ wr u4 u6 u7 u9 u10 u11 u12 u13 u14 u31 u32 u33 u34 u35 u36 u37 u38 u39 u40 u41 u42 u43 u44 u45 u46 u47 u48 u49 u50 u51 u52 u53 u54 u55 u56 u57 u58 u59 u60 u61 u62 u63 u64 u65 u66 u67 u68 u69 u70 u71 u72 u73 u74 u75 u76 u77 u78 u79 u80 u81 u82 u83 u84 u85 u86 u87 u88 u89 u90 u91 u92 u93 u94 u95 u96 u97 u98 u99 u100 u101 u102 u103 u104 u105 u106 u107 u108 u109 u110 u111 u112 u113 u114 u115 u116 u117 u118 u119 u120 u121 u122 u123 u124 u125 u126 u127 u128 u129 u130 u131 u132 u133 u134 u135 u136 u137 u138 u139 u140 u141 u142 u143 u144 u145 u146 u147 u148 u149 u150 u151 u152 u153 u154 u155 u156 u157 u158 u159 u160 u161 u162 u163 u164 u165 u166 u167 u168 u169 u170 u171 u172 u173 u174 u175 u176 u177 u178 u179 u180 u181 u182 u183 u184 u185 u186 u187 u188 u189 u190 u191 u192 u193 u194 u195 u196 z173_ z174_ z175_ x6_2 x7_2 x8_2 x136000_2 HO_6 HO_7 HI135 HB k2 z176_ HK2 H c10
 rw [if_neg c10] at H
 have c10b0 : decide (x8_2 < (l0.length : Int)) = false := decide_eq_false c10
 clear c10
 have H' := Aside0.mk H
 clear H
 go_wp2
 go_loopg [15] k2 (fun kq v15 w' => ∃ (x15_3 : Int) (x136000_3 : Trie.TrieM), v15 = .int .i64 x15_3 ∧ Aside0 (TR.l3 kq l1 x6_2 x7_2 x15_3 x136000_3 = some r) ∧ Aside0 (kq ≤ k2) ∧ Aside0 (Kd.R k47 47 w' w.heap.size (fun _ => True) u6 x6_2) ∧ Aside0 (Kd.R (Kd.int .i64) 3 w' w.heap.size (fun _ => True) u7 x7_2) ∧ Aside0 (IsS75 w w' g135 x136000_3) ∧ Aside0 (Below w.heap.size w w'))
 case atStart => exact ⟨(0), (x136000_2), (by first | rfl | (simp; done) | (simp [*]; done)), H', ⟨Nat.le_refl _⟩, ⟨by (with_reducible repeat (first | apply Kd.R_alloc | apply Kd.R_drewN | apply Kd.R_drew)); exact HO_6.out⟩, ⟨by (with_reducible repeat (first | apply Kd.R_alloc | apply Kd.R_drewN | apply Kd.R_drew)); exact HO_7.out⟩, ⟨by repeat (first | (with_reducible first | exact HI135.out | apply IsS75.alloc | apply IsS75.drewN | apply IsS75.drew) | exact HI135.out)⟩, ⟨by repeat (first | (with_reducible first | exact HB.out | apply below_alloc | apply pw_below_drewN | apply below_drew1 | refine below_set ?_ (IsS75.ge HI135.out)) | exact HB.out)⟩⟩
 clear H'
 try clear c1
 try clear p1
 try clear q1
 try clear hx1
 try clear c2
 try clear p2
 try clear p6
 try clear c9
 try clear c10
 try clear c10b0
 try clear c11
 try clear c12
 try clear c13
 try clear c14
 try clear c17
 try clear p19
 try clear q19
 try clear hx19
 try clear c22
 try clear c25
 try clear p64
 try clear c98
 try clear c99
 try clear c100
 try clear c120
 try clear c120b0
 try clear c121
 try clear c122
 try clear c124
 try clear c125
 try clear c127
 try clear c130
 try clear c131
 try clear c147
 try clear hcz148_0
 try clear hcz148_1
 try clear hcz148_2
 try clear hcz148_3
 try clear hcz152_0
 try clear hcz152_1
 try clear hcz152_2
 try clear hcz152_3
 try clear hfz148_0
 try clear hfz148_1
 try clear hfz148_2
 try clear hfz148_3
 try clear hfz152_0
 try clear hfz152_1
 try clear hfz152_2
 try clear hfz152_3
 try clear hx196_0
 try clear hx196_1
 try clear hx197_0
 try clear hx197_1
 try clear p196
 try clear p197
 try clear q196
 try clear q197
 obtain ⟨x15_3, x136000_3, rfl, HA, HK3, HO_6, HO_7, HI135, HB⟩ := hrel
 cases gk with
 | zero => exact absurd HA.out (by simp [TR.l3])
 | succ k3 =>
 have H := HA.out
 clear HA
 simp only [TR.l3] at H
 by_cases c154 : x15_3 < (l1.length : Int)
 rotate_left
 ·rw [if_neg c154] at H
  have c154b0 : decide (x15_3 < (l1.length : Int)) = false := decide_eq_false c154
  clear c154
  replace H := Option.bind_eq_some_iff.mp H
  obtain ⟨t221, A2050, H⟩ := H
  replace H : (if t221 = true then ((trie_Trie_All.f x136000_3).bind fun bt222 => ((interregnumref05_SamePrefixes.f k3 bt222.1 x6_2).bind fun t226 => (some t226))) else (some false)) = some r := H
  have A205 := Aside0.mk A2050
  clear A2050
  by_cases c206 : t221 = true
  rotate_left
  ·replace c206 := Bool.eq_false_iff.mpr c206
   subst c206
   have H1 : (some false) = some r := by rw [if_neg (show ¬ (false = true) by decide)] at H; exact H
   clear H
   have H := H1
   clear H1
   obtain rfl := Option.some.inj H
   go_wp2_with (first | ((with_reducible refine gate_callee (f := 20) rfl ?_); refine goesL_ (some 283) rfl rfl Try.func20 (by kernel_rfl) rfl #[] rfl (by (try simp only [List.map_toArray, List.map_cons, List.map_nil]); first | done | rfl | (simp only [List.length_drop, List.length_take]; rfl)) ?_; (with_reducible refine (interregnumlaw11_answers.calls  false _ A205.out).mono ?_); rintro e w213 ⟨rfl, hb⟩; refine ⟨_, rfl, ?_⟩; have n0_ := Aside0.mk (Kd.R_below (by (with_reducible repeat (first|apply Kd.R_alloc|apply Kd.R_drewN|apply Kd.R_drew)); exact HO_6.out) hb); have n1_ := Aside0.mk (Kd.R_below (by (with_reducible repeat (first|apply Kd.R_alloc|apply Kd.R_drewN|apply Kd.R_drew)); exact HO_7.out) hb); have n2_ := Aside0.mk (IsS75.below (by repeat (first | (with_reducible first | exact HI135.out | apply IsS75.alloc | apply IsS75.drewN | apply IsS75.drew) | exact HI135.out)) hb); have n3_ := Aside0.mk (below_step (by repeat (first | (with_reducible first | exact HB.out | apply below_alloc | apply pw_below_drewN | apply below_drew1 | refine below_set ?_ (IsS75.ge HI135.out)) | exact HB.out)) hb); clear HO_6; clear HO_7; clear HI135; clear HB; have HO_6 := n0_; have HO_7 := n1_; have HI135 := n2_; have HB := n3_; clear n0_ n1_ n2_ n3_; (try clear hb); (try clear hb2); (try clear hk); (try clear hi)))
   go_ret
   exact ⟨by first | rfl | (simp [errW_none, errW_some] <;> rfl) | (simp [*, errW_none, errW_some] <;> rfl), by repeat (first | (with_reducible first | exact HB.out | apply below_alloc | apply pw_below_drewN | apply below_drew1 | refine below_set ?_ (IsS75.ge HI135.out)) | exact HB.out)⟩
  subst c206
  have H1 : ((trie_Trie_All.f x136000_3).bind fun bt222 => ((interregnumref05_SamePrefixes.f k3 bt222.1 x6_2).bind fun t226 => (some t226))) = some r := by rw [if_pos rfl] at H; exact H
  clear H
  have H := H1
  clear H1
  replace H := Option.bind_eq_some_iff.mp H
  obtain ⟨⟨t222, t225⟩, A2070, H⟩ := H
  replace H : ((interregnumref05_SamePrefixes.f k3 t222 x6_2).bind fun t226 => (some t226)) = some r := H
  have A207 := Aside0.mk A2070
  clear A2070
  replace H := Option.bind_eq_some_iff.mp H
  obtain ⟨t226, A2080, H⟩ := H
  replace H : (some t226) = some r := H
  have A208 := Aside0.mk A2080
  clear A2080
  obtain rfl := Option.some.inj H
  go_wp2_with (first | ((with_reducible refine gate_callee (f := 20) rfl ?_); refine goesL_ (some 283) rfl rfl Try.func20 (by kernel_rfl) rfl #[] rfl (by (try simp only [List.map_toArray, List.map_cons, List.map_nil]); first | done | rfl | (simp only [List.length_drop, List.length_take]; rfl)) ?_; (with_reducible refine (interregnumlaw11_answers.calls  true _ A205.out).mono ?_); rintro e w209 ⟨rfl, hb⟩; refine ⟨_, rfl, ?_⟩; have n0_ := Aside0.mk (Kd.R_below (by (with_reducible repeat (first|apply Kd.R_alloc|apply Kd.R_drewN|apply Kd.R_drew)); exact HO_6.out) hb); have n1_ := Aside0.mk (Kd.R_below (by (with_reducible repeat (first|apply Kd.R_alloc|apply Kd.R_drewN|apply Kd.R_drew)); exact HO_7.out) hb); have n2_ := Aside0.mk (IsS75.below (by repeat (first | (with_reducible first | exact HI135.out | apply IsS75.alloc | apply IsS75.drewN | apply IsS75.drew) | exact HI135.out)) hb); have n3_ := Aside0.mk (below_step (by repeat (first | (with_reducible first | exact HB.out | apply below_alloc | apply pw_below_drewN | apply below_drew1 | refine below_set ?_ (IsS75.ge HI135.out)) | exact HB.out)) hb); clear HO_6; clear HO_7; clear HI135; clear HB; have HO_6 := n0_; have HO_7 := n1_; have HI135 := n2_; have HB := n3_; clear n0_ n1_ n2_ n3_; (try clear hb); (try clear hb2); (try clear hk); (try clear hi)) | (go_at_call 21; (with_reducible refine (trie_Trie_All.calls g135 x136000_3 t222 t225 w _ ?side1 ?side2 A207.out).mono ?_); (case side1 => repeat (first | (with_reducible first | exact HI135.out | apply IsS75.alloc | apply IsS75.drewN | apply IsS75.drew) | exact HI135.out)); (case side2 => repeat (first | (with_reducible first | exact HB.out | apply below_alloc | apply pw_below_drewN | apply below_drew1 | refine below_set ?_ (IsS75.ge HI135.out)) | exact HB.out)); rintro e w210 ⟨v223, rfl, ho0, hi, hb, hk⟩; have n0_ := Aside0.mk (Kd.R_mono (Kd.R_told (Opq.R_old (by (with_reducible repeat (first|apply Kd.R_alloc|apply Kd.R_drewN|apply Kd.R_drew)); exact HO_6.out) hk (by decide)) (Kd.R_base ho0)) (fun _ h_ => h_.1)); have n1_ := Aside0.mk (Opq.R_keep (by (with_reducible repeat (first|apply Kd.R_alloc|apply Kd.R_drewN|apply Kd.R_drew)); exact HO_7.out) hk (by decide)); have n2_ := Aside0.mk (Kd.R_lower (Kd.R_new' ho0 (Kd.R_lt (by (with_reducible repeat (first|apply Kd.R_alloc|apply Kd.R_drewN|apply Kd.R_drew)); exact HO_6.out))) (below_size (by repeat (first | (with_reducible first | exact HB.out | apply below_alloc | apply pw_below_drewN | apply below_drew1 | refine below_set ?_ (IsS75.ge HI135.out)) | exact HB.out)))); have n3_ := Aside0.mk (hb); have n4_ := Aside0.mk (hi); clear HO_6; clear HO_7; clear HB; clear HI135; have HO_6 := n0_; have HO_7 := n1_; have HO224 := n2_; have HB := n3_; have HI135 := n4_; clear n0_ n1_ n2_ n3_ n4_; (try clear hb); (try clear hb2); (try clear hk); (try clear hi); (try clear ho0); obtain ⟨Ao211, co211, eo211⟩ := Kd.R_slice HO224.out; subst eo211; obtain ⟨Ao212, co212, eo212⟩ := Kd.R_slice HO_6.out; subst eo212) | (go_at_call 27; (with_reducible refine (interregnumref05_SamePrefixes.calls k3 _ _ t222 _ _ x6_2 t226 _ ?side1 ?side2 ?side3 ?side4 A208.out).mono ?_); (case side1 => repeat (first | exact (Kd.R_reads' HO224.out).2.2 | (with_reducible refine Kd.C_alloc ?_ _) | (with_reducible refine Kd.C_drewN ?_ _) | (with_reducible refine Kd.C_drew ?_))); (case side2 => exact (Kd.R_reads' HO224.out).2.1); (case side3 => repeat (first | exact (Kd.R_reads' HO_6.out).2.2 | (with_reducible refine Kd.C_alloc ?_ _) | (with_reducible refine Kd.C_drewN ?_ _) | (with_reducible refine Kd.C_drew ?_))); (case side4 => exact (Kd.R_reads' HO_6.out).2.1); rintro e w' ⟨rfl, ⟨nd, rfl⟩⟩))
  go_ret
  exact ⟨by first | rfl | (simp [errW_none, errW_some] <;> rfl) | (simp [*, errW_none, errW_some] <;> rfl), by repeat (first | (with_reducible first | exact HB.out | apply below_alloc | apply pw_below_drewN | apply below_drew1 | refine below_set ?_ (IsS75.ge HI135.out)) | exact HB.out)⟩
 rw [if_pos c154] at H
 have c154b0 : decide (x15_3 < (l1.length : Int)) = true := decide_eq_true c154
 clear c154
 have H' := Aside0.mk H
 clear H
 go_wp2
 go_loopg [16, 17] k3 (fun kq v16 v17 w' => ∃ (x16_4 : Int) (x17_4 : Int), v16 = .int .i64 x16_4 ∧ v17 = .int .i64 x17_4 ∧ Aside0 (TR.l4 kq l1 x6_2 x7_2 x15_3 x16_4 x17_4 x136000_3 = some r) ∧ Aside0 (kq ≤ k3) ∧ Aside0 (Kd.R k47 47 w' w.heap.size (fun _ => True) u6 x6_2) ∧ Aside0 (Kd.R (Kd.int .i64) 3 w' w.heap.size (fun _ => True) u7 x7_2) ∧ Aside0 (IsS75 w w' g135 x136000_3) ∧ Aside0 (Below w.heap.size w w'))
 case atStart => exact ⟨((-1)), (0), (by first | rfl | (simp; done) | (simp [*]; done)), (by first | rfl | (simp; done) | (simp [*]; done)), H', ⟨Nat.le_refl _⟩, ⟨by (with_reducible repeat (first | apply Kd.R_alloc | apply Kd.R_drewN | apply Kd.R_drew)); exact HO_6.out⟩, ⟨by (with_reducible repeat (first | apply Kd.R_alloc | apply Kd.R_drewN | apply Kd.R_drew)); exact HO_7.out⟩, ⟨by repeat (first | (with_reducible first | exact HI135.out | apply IsS75.alloc | apply IsS75.drewN | apply IsS75.drew) | exact HI135.out)⟩, ⟨by repeat (first | (with_reducible first | exact HB.out | apply below_alloc | apply pw_below_drewN | apply below_drew1 | refine below_set ?_ (IsS75.ge HI135.out)) | exact HB.out)⟩⟩
 clear H'
 try clear c1
 try clear p1
 try clear q1
 try clear hx1
 try clear c2
 try clear p2
 try clear p6
 try clear c9
 try clear c10
 try clear c10b0
 try clear c11
 try clear c12
 try clear c13
 try clear c14
 try clear c15
 try clear c17
 try clear p19
 try clear q19
 try clear hx19
 try clear c22
 try clear c25
 try clear p64
 try clear c98
 try clear c99
 try clear c100
 try clear c120
 try clear c120b0
 try clear c121
 try clear c122
 try clear c124
 try clear c125
 try clear c127
 try clear c130
 try clear c131
 try clear c147
 try clear c154
 try clear c154b0
 try clear hcz148_0
 try clear hcz148_1
 try clear hcz148_2
 try clear hcz148_3
 try clear hcz152_0
 try clear hcz152_1
 try clear hcz152_2
 try clear hcz152_3
 try clear hfz148_0
 try clear hfz148_1
 try clear hfz148_2
 try clear hfz148_3
 try clear hfz152_0
 try clear hfz152_1
 try clear hfz152_2
 try clear hfz152_3
 try clear hx196_0
 try clear hx196_1
 try clear hx197_0
 try clear hx197_1
 try clear p1
 try clear p19
 try clear p196
 try clear p197
 try clear p2
 try clear p6
 try clear p64
 try clear q1
 try clear q19
 try clear q196
 try clear q197
 obtain ⟨x16_4, x17_4, rfl, rfl, HA, HK4, HO_6, HO_7, HI135, HB⟩ := hrel
 cases gk with
 | zero => exact absurd HA.out (by simp [TR.l4])
 | succ k4 =>
 have H := HA.out
 clear HA
 simp only [TR.l4] at H
 by_cases c155 : x17_4 < (x6_2.length : Int)
 ·rw [if_pos c155] at H
  have c155b0 : decide (x17_4 < (x6_2.length : Int)) = true := decide_eq_true c155
  clear c155
  have HC156 := Aside0.mk H
  clear H
  obtain ⟨Ao157, co157, eo157⟩ := Kd.R_slice HO_6.out
  subst eo157
  go_upto_region 42 with (fail)
  go_cut [235] (fun v235 wc => ∃ (kq : Nat) (x235_155 : Bool), v235 = .bool x235_155 ∧ Aside0 (TR.j7 kq l1 x6_2 x7_2 x15_3 x16_4 x17_4 x235_155 x136000_3 = some r) ∧ Aside0 (kq ≤ k4) ∧ Aside0 (Kd.R k47 47 wc w.heap.size (fun _ => True) (.slice Ao157 x6_2.length co157) x6_2) ∧ Aside0 (Kd.R (Kd.int .i64) 3 wc w.heap.size (fun _ => True) u7 x7_2) ∧ Aside0 (IsS75 w wc g135 x136000_3) ∧ Aside0 (Below w.heap.size w wc))
  case first => as_aux_lemma =>
   have H := HC156.out
   clear HC156
   by_cases c158 : 0 ≤ x17_4
   rotate_left
   ·rw [if_neg c158] at H
    exact absurd H (by simp)
   rw [if_pos c158] at H
   have c158b0 : decide (0 ≤ x17_4) = true := decide_eq_true c158
   clear c158
   (first | rw [c158b0] | (simp only [i64_w, i32_w]; rw [c158b0]) | skip)
   by_cases c159 : 0 ≤ x15_3
   rotate_left
   ·rw [if_neg c159] at H
    exact absurd H (by simp)
   rw [if_pos c159] at H
   have c159b0 : decide (0 ≤ x15_3) = true := decide_eq_true c159
   clear c159
   by_cases c160 : x15_3 < (l1.length : Int)
   rotate_left
   ·rw [if_neg c160] at H
    exact absurd H (by simp)
   rw [if_pos c160] at H
   have c160b0 : decide (x15_3 < (l1.length : Int)) = true := decide_eq_true c160
   clear c160
   replace H := Option.bind_eq_some_iff.mp H
   obtain ⟨t209, A1610, H⟩ := H
   replace H : (if t209 = true then (if x16_4 < 0 then (TR.j7 k4 l1 x6_2 x7_2 x15_3 x16_4 x17_4 true x136000_3) else (if 0 ≤ x16_4 then (if x16_4 < (x6_2.length : Int) then (TR.j7 k4 l1 x6_2 x7_2 x15_3 x16_4 x17_4 (decide (((rd_T47 x6_2 x17_4).f1) > ((rd_T47 x6_2 x16_4).f1))) x136000_3) else (none)) else (none))) else (TR.j7 k4 l1 x6_2 x7_2 x15_3 x16_4 x17_4 false x136000_3)) = some r := H
   have A161 := Aside0.mk A1610
   clear A1610
   by_cases c162 : t209 = true
   rotate_left
   ·replace c162 := Bool.eq_false_iff.mpr c162
    subst c162
    have H1 : (TR.j7 k4 l1 x6_2 x7_2 x15_3 x16_4 x17_4 false x136000_3) = some r := by rw [if_neg (show ¬ (false = true) by decide)] at H; exact H
    clear H
    have H := H1
    clear H1
    have H' := Aside0.mk H
    clear H
    try go_wp2
    have n0_ := Aside0.mk (Kd.R_drew HO_6.out)
    have n1_ := Aside0.mk (Kd.R_drew HO_7.out)
    have n2_ := Aside0.mk (IsS75.drew HI135.out)
    have n3_ := Aside0.mk (below_drew1 HB.out)
    clear HO_6 HO_7 HI135 HB
    have HO_6 := n0_; have HO_7 := n1_; have HI135 := n2_; have HB := n3_
    clear n0_ n1_ n2_ n3_
    have p207 : 0 ≤ (x17_4 : Int) := of_decide_eq_true (by first | (with_reducible assumption) | assumption)
    have q207 : x17_4 < (x6_2.length : Int) := of_decide_eq_true (by first | (with_reducible assumption) | assumption)
    obtain ⟨ad207, e207, hx207_0, hx207_1⟩ := at_T47 (Kd.R_reads' HO_6.out).2.2 x17_4 p207 q207
    cases e207
    replace p207 := eq_true p207
    replace q207 := eq_true q207
    have p208 : 0 ≤ (x15_3 : Int) := of_decide_eq_true (by first | (with_reducible assumption) | assumption)
    have q208 : x15_3 < (l1.length : Int) := of_decide_eq_true (by first | (with_reducible assumption) | assumption)
    obtain ⟨ad208, e208, hx208_0⟩ := Kd.at_int HR1.out x15_3 p208 q208
    have hw208_0 := hx208_0
    cases e208
    replace hx208_0 := (HB.out.cell (World.block_lt_of_cell? w _ hx208_0)).trans hx208_0
    replace p208 := eq_true p208
    replace q208 := eq_true q208
    refine start_ (n := 27) (S := fun w' => w'.cell? (ad207.add ((x17_4).toNat * 2)) = some (.int .u32 ((rd_T47 x6_2 x17_4).f0)) ∧ w'.cell? ⟨(ad207.add ((x17_4).toNat * 2)).block, (ad207.add ((x17_4).toNat * 2)).off + 1, none⟩ = some (.int .i64 ((rd_T47 x6_2 x17_4).f1)) ∧ w'.cell? (ad208.add (x15_3).toNat) = some (.int .u32 (rd l1 x15_3))) (ds := []) #[F_,F_,F_,F_,F_,F_,F_,F_,F_,F_,F_,F_,F_,F_,F_,F_,F_,F_,F_,F_,F_,F_,F_,F_,F_,F_,F_] (by kernel_rfl) rfl rfl ⟨hx207_0, hx207_1, ((HB.out.cell (World.block_lt_of_cell? w _ hw208_0)).trans hw208_0)⟩ (fun hHeld => ?_); refine with_tabW TR.tab42 TR.bits42 (fun HT_ HW_ => ?_)
    generalize wr.drew = w170 at HO_6 HO_7 HI135 HB hx207_0 hx207_1 hx208_0 hHeld ⊢
    refine pure_ (i := 0) (N := some 209) (v := ?_) (a' := ?_) #[T_,F_,F_,F_,F_,F_,F_,F_,F_,F_,F_,F_,F_,F_,F_,F_,F_,F_,F_,F_,F_,F_,F_,F_,F_,F_,F_] rfl rfl (any_of HT_.out (by kernel_rfl)) (fun _ _ _ h => h) (Or.inl ⟨by rfl, ?_⟩) ?_ ?_
    rotate_left
    ·intro w'
     go_simp
     with_reducible rfl
    rotate_left
    ·simp only [Act.put, q1_, q2_, q3_, i64_w, i32_w]
     rfl
    refine pure_ (i := 1) (N := some 210) (v := ?_) (a' := ?_) #[T_,T_,F_,F_,F_,F_,F_,F_,F_,F_,F_,F_,F_,F_,F_,F_,F_,F_,F_,F_,F_,F_,F_,F_,F_,F_,F_] rfl rfl (any_of HT_.out (by kernel_rfl)) (fun _ _ _ h => h) (Or.inl ⟨by rfl, ?_⟩) ?_ ?_
    rotate_left
    ·intro w'
     go_simp
     with_reducible rfl
    rotate_left
    ·simp only [Act.put, q1_, q2_, q3_, i64_w, i32_w]
     rfl
    refine pure_ (i := 2) (N := some 211) (v := ?_) (a' := ?_) #[T_,T_,T_,F_,F_,F_,F_,F_,F_,F_,F_,F_,F_,F_,F_,F_,F_,F_,F_,F_,F_,F_,F_,F_,F_,F_,F_] rfl rfl (any_of HT_.out (by kernel_rfl)) (fun _ _ _ h => h) (Or.inl ⟨by rfl, ?_⟩) ?_ ?_
    rotate_left
    ·intro w'
     go_simp
     with_reducible rfl
    rotate_left
    ·simp only [Act.put, q1_, q2_, q3_, i64_w, i32_w]
     rfl
    refine pure_ (i := 4) (N := some 213) (v := ?_) (a' := ?_) #[T_,T_,T_,F_,T_,F_,F_,F_,F_,F_,F_,F_,F_,F_,F_,F_,F_,F_,F_,F_,F_,F_,F_,F_,F_,F_,F_] rfl rfl (any_of HT_.out (by kernel_rfl)) (fun _ _ _ h => h) (Or.inl ⟨by rfl, ?_⟩) ?_ ?_
    rotate_left
    ·intro w'
     go_simp
     with_reducible rfl
    rotate_left
    ·simp only [Act.put, q1_, q2_, q3_, i64_w, i32_w]
     rfl
    refine pure_ (i := 5) (N := some 214) (v := ?_) (a' := ?_) #[T_,T_,T_,F_,T_,T_,F_,F_,F_,F_,F_,F_,F_,F_,F_,F_,F_,F_,F_,F_,F_,F_,F_,F_,F_,F_,F_] rfl rfl (any_of HT_.out (by kernel_rfl)) (fun _ _ _ h => h) (Or.inl ⟨by rfl, ?_⟩) ?_ ?_
    rotate_left
    ·intro w'
     go_simp
     with_reducible rfl
    rotate_left
    ·simp only [Act.put, q1_, q2_, q3_, i64_w, i32_w]
     rfl
    refine pure_ (i := 6) (N := some 215) (v := ?_) (a' := ?_) #[T_,T_,T_,F_,T_,T_,T_,F_,F_,F_,F_,F_,F_,F_,F_,F_,F_,F_,F_,F_,F_,F_,F_,F_,F_,F_,F_] rfl rfl (any_of HT_.out (by kernel_rfl)) (fun _ _ _ h => h) (Or.inl ⟨by rfl, ?_⟩) ?_ ?_
    rotate_left
    ·intro w'
     go_simp
     with_reducible rfl
    rotate_left
    ·simp only [Act.put, q1_, q2_, q3_, i64_w, i32_w]
     rfl
    refine take_ (i := 3) (N := some 212) (v := ?_) (a' := ?_) #[T_,T_,T_,T_,T_,T_,T_,F_,F_,F_,F_,F_,F_,F_,F_,F_,F_,F_,F_,F_,F_,F_,F_,F_,F_,F_,F_] rfl rfl (take_ofW HT_.out HW_.out (by kernel_rfl)) (fun _ _ _ h => h) (Or.inl ⟨by rfl, ?_⟩) hHeld ?_ ?_
    rotate_left
    ·rintro w' ⟨s0, s1, s2⟩
     go_simp
     with_reducible rfl
    rotate_left
    ·simp only [Act.put, q1_, q2_, q3_, i64_w, i32_w]
     rfl
    refine take_ (i := 7) (N := some 216) (v := ?_) (a' := ?_) #[T_,T_,T_,T_,T_,T_,T_,T_,F_,F_,F_,F_,F_,F_,F_,F_,F_,F_,F_,F_,F_,F_,F_,F_,F_,F_,F_] rfl rfl (take_ofW HT_.out HW_.out (by kernel_rfl)) (fun _ _ _ h => h) (Or.inl ⟨by rfl, ?_⟩) hHeld ?_ ?_
    rotate_left
    ·rintro w' ⟨s0, s1, s2⟩
     go_simp
     with_reducible rfl
    rotate_left
    ·simp only [Act.put, q1_, q2_, q3_, i64_w, i32_w]
     rfl
    refine pure_ (i := 8) (N := some 217) (v := ?_) (a' := ?_) #[T_,T_,T_,T_,T_,T_,T_,T_,T_,F_,F_,F_,F_,F_,F_,F_,F_,F_,F_,F_,F_,F_,F_,F_,F_,F_,F_] rfl rfl (any_of HT_.out (by kernel_rfl)) (fun _ _ _ h => h) (Or.inl ⟨by rfl, ?_⟩) ?_ ?_
    rotate_left
    ·intro w'
     go_simp
     with_reducible rfl
    rotate_left
    ·simp only [Act.put, q1_, q2_, q3_, i64_w, i32_w]
     rfl
    refine one_ (i := 9) (N := some 218) #[T_,T_,T_,T_,T_,T_,T_,T_,T_,T_,F_,F_,F_,F_,F_,F_,F_,F_,F_,F_,F_,F_,F_,F_,F_,F_,F_] rfl rfl (one_of HT_.out (by kernel_rfl)) (by decide) (fun K hK => ?_)
    refine goes_ Try.func26 (by kernel_rfl) rfl #[.agg #[.int .u32 ((rd_T47 x6_2 x17_4).f0), .int .i64 ((rd_T47 x6_2 x17_4).f1)], .agg #[.int .u32 (rd l1 x15_3), .int .i64 32]] (by rfl) rfl rfl (by (try simp only [List.map_toArray, List.map_cons, List.map_nil]); first | done | rfl | (simp only [List.length_drop, List.length_take]; rfl)) ?_
    with_reducible refine (interregnumref05_Covers.calls k4 ((rd_T47 x6_2 x17_4).f0) ((rd_T47 x6_2 x17_4).f1) (rd l1 x15_3) 32 false _ A161.out).mono ?_
    rintro e w171 ⟨rfl, hb⟩
    have HS0_ := (hb.cell (World.block_lt_of_cell? _ _ (hHeld.1))).trans (hHeld.1)
    have HS1_ := (hb.cell (World.block_lt_of_cell? _ _ (hHeld.2.1))).trans (hHeld.2.1)
    refine ⟨_, rfl, ?_⟩
    have n0_ := Aside0.mk (Kd.R_below (by (with_reducible repeat (first|apply Kd.R_alloc|apply Kd.R_drewN|apply Kd.R_drew)); exact HO_6.out) hb)
    have n1_ := Aside0.mk (Kd.R_below (by (with_reducible repeat (first|apply Kd.R_alloc|apply Kd.R_drewN|apply Kd.R_drew)); exact HO_7.out) hb)
    have n2_ := Aside0.mk (IsS75.below (by repeat (first | (with_reducible first | exact HI135.out | apply IsS75.alloc | apply IsS75.drewN | apply IsS75.drew) | exact HI135.out)) hb)
    have n3_ := Aside0.mk (below_step (by repeat (first | (with_reducible first | exact HB.out | apply below_alloc | apply pw_below_drewN | apply below_drew1 | refine below_set ?_ (IsS75.ge HI135.out)) | exact HB.out)) hb)
    clear HO_6 HO_7 HI135 HB
    have HO_6 := n0_; have HO_7 := n1_; have HI135 := n2_; have HB := n3_
    clear n0_ n1_ n2_ n3_
    (try clear hb)
    (try clear hb2)
    (try clear hk)
    (try clear hi)
    refine hK.out _ _ ⟨HS0_, HS1_, ((HB.out.cell (World.block_lt_of_cell? w _ hw208_0)).trans hw208_0)⟩ (fun hHeld => ?_)
    clear hK K
    refine norm_ (a' := ?_) ?_ ?_
    rotate_left
    ·show Act.put _ (some 218) _ = _
     simp only [Act.put, q1_, q2_, q3_, i64_w, i32_w]
     rfl
    refine pure_ (i := 10) (N := some 219) (v := ?_) (a' := ?_) #[T_,T_,T_,T_,T_,T_,T_,T_,T_,T_,T_,F_,F_,F_,F_,F_,F_,F_,F_,F_,F_,F_,F_,F_,F_,F_,F_] rfl rfl (any_of HT_.out (by kernel_rfl)) (fun _ _ _ h => h) (Or.inl ⟨by rfl, ?_⟩) ?_ ?_
    rotate_left
    ·intro w'
     go_simp
     with_reducible rfl
    rotate_left
    ·simp only [Act.put, q1_, q2_, q3_, i64_w, i32_w]
     rfl
    refine pure_ (i := 11) (N := some 220) (v := undef) (a' := ?_) #[T_,T_,T_,T_,T_,T_,T_,T_,T_,T_,T_,T_,F_,F_,F_,F_,F_,F_,F_,F_,F_,F_,F_,F_,F_,F_,F_] rfl rfl (any_of HT_.out (by kernel_rfl)) (fun _ _ _ h => h) (Or.inr ⟨by rfl, rfl⟩) ?_ ?_
    rotate_left
    ·simp only [Act.put, q1_, q2_, q3_, i64_w, i32_w]
     rfl
    refine pure_ (i := 12) (N := some 221) (v := undef) (a' := ?_) #[T_,T_,T_,T_,T_,T_,T_,T_,T_,T_,T_,T_,T_,F_,F_,F_,F_,F_,F_,F_,F_,F_,F_,F_,F_,F_,F_] rfl rfl (any_of HT_.out (by kernel_rfl)) (fun _ _ _ h => h) (Or.inr ⟨by rfl, rfl⟩) ?_ ?_
    rotate_left
    ·simp only [Act.put, q1_, q2_, q3_, i64_w, i32_w]
     rfl
    refine pure_ (i := 13) (N := some 222) (v := undef) (a' := ?_) #[T_,T_,T_,T_,T_,T_,T_,T_,T_,T_,T_,T_,T_,T_,F_,F_,F_,F_,F_,F_,F_,F_,F_,F_,F_,F_,F_] rfl rfl (any_of HT_.out (by kernel_rfl)) (fun _ _ _ h => h) (Or.inr ⟨by rfl, rfl⟩) ?_ ?_
    rotate_left
    ·simp only [Act.put, q1_, q2_, q3_, i64_w, i32_w]
     rfl
    refine pure_ (i := 14) (N := some 223) (v := undef) (a' := ?_) #[T_,T_,T_,T_,T_,T_,T_,T_,T_,T_,T_,T_,T_,T_,T_,F_,F_,F_,F_,F_,F_,F_,F_,F_,F_,F_,F_] rfl rfl (any_of HT_.out (by kernel_rfl)) (fun _ _ _ h => h) (Or.inr ⟨by rfl, rfl⟩) ?_ ?_
    rotate_left
    ·simp only [Act.put, q1_, q2_, q3_, i64_w, i32_w]
     rfl
    refine pure_ (i := 15) (N := some 224) (v := undef) (a' := ?_) #[T_,T_,T_,T_,T_,T_,T_,T_,T_,T_,T_,T_,T_,T_,T_,T_,F_,F_,F_,F_,F_,F_,F_,F_,F_,F_,F_] rfl rfl (any_of HT_.out (by kernel_rfl)) (fun _ _ _ h => h) (Or.inr ⟨by rfl, rfl⟩) ?_ ?_
    rotate_left
    ·simp only [Act.put, q1_, q2_, q3_, i64_w, i32_w]
     rfl
    refine pure_ (i := 16) (N := some 225) (v := undef) (a' := ?_) #[T_,T_,T_,T_,T_,T_,T_,T_,T_,T_,T_,T_,T_,T_,T_,T_,T_,F_,F_,F_,F_,F_,F_,F_,F_,F_,F_] rfl rfl (any_of HT_.out (by kernel_rfl)) (fun _ _ _ h => h) (Or.inr ⟨by rfl, rfl⟩) ?_ ?_
    rotate_left
    ·simp only [Act.put, q1_, q2_, q3_, i64_w, i32_w]
     rfl
    refine pure_ (i := 17) (N := some 226) (v := undef) (a' := ?_) #[T_,T_,T_,T_,T_,T_,T_,T_,T_,T_,T_,T_,T_,T_,T_,T_,T_,T_,F_,F_,F_,F_,F_,F_,F_,F_,F_] rfl rfl (any_of HT_.out (by kernel_rfl)) (fun _ _ _ h => h) (Or.inr ⟨by rfl, rfl⟩) ?_ ?_
    rotate_left
    ·simp only [Act.put, q1_, q2_, q3_, i64_w, i32_w]
     rfl
    refine pure_ (i := 18) (N := some 227) (v := undef) (a' := ?_) #[T_,T_,T_,T_,T_,T_,T_,T_,T_,T_,T_,T_,T_,T_,T_,T_,T_,T_,T_,F_,F_,F_,F_,F_,F_,F_,F_] rfl rfl (any_of HT_.out (by kernel_rfl)) (fun _ _ _ h => h) (Or.inr ⟨by rfl, rfl⟩) ?_ ?_
    rotate_left
    ·simp only [Act.put, q1_, q2_, q3_, i64_w, i32_w]
     rfl
    refine pure_ (i := 19) (N := some 228) (v := undef) (a' := ?_) #[T_,T_,T_,T_,T_,T_,T_,T_,T_,T_,T_,T_,T_,T_,T_,T_,T_,T_,T_,T_,F_,F_,F_,F_,F_,F_,F_] rfl rfl (any_of HT_.out (by kernel_rfl)) (fun _ _ _ h => h) (Or.inr ⟨by rfl, rfl⟩) ?_ ?_
    rotate_left
    ·simp only [Act.put, q1_, q2_, q3_, i64_w, i32_w]
     rfl
    refine pure_ (i := 20) (N := some 229) (v := undef) (a' := ?_) #[T_,T_,T_,T_,T_,T_,T_,T_,T_,T_,T_,T_,T_,T_,T_,T_,T_,T_,T_,T_,T_,F_,F_,F_,F_,F_,F_] rfl rfl (any_of HT_.out (by kernel_rfl)) (fun _ _ _ h => h) (Or.inr ⟨by rfl, rfl⟩) ?_ ?_
    rotate_left
    ·simp only [Act.put, q1_, q2_, q3_, i64_w, i32_w]
     rfl
    refine pure_ (i := 21) (N := some 230) (v := undef) (a' := ?_) #[T_,T_,T_,T_,T_,T_,T_,T_,T_,T_,T_,T_,T_,T_,T_,T_,T_,T_,T_,T_,T_,T_,F_,F_,F_,F_,F_] rfl rfl (any_of HT_.out (by kernel_rfl)) (fun _ _ _ h => h) (Or.inr ⟨by rfl, rfl⟩) ?_ ?_
    rotate_left
    ·simp only [Act.put, q1_, q2_, q3_, i64_w, i32_w]
     rfl
    refine pure_ (i := 22) (N := some 231) (v := undef) (a' := ?_) #[T_,T_,T_,T_,T_,T_,T_,T_,T_,T_,T_,T_,T_,T_,T_,T_,T_,T_,T_,T_,T_,T_,T_,F_,F_,F_,F_] rfl rfl (any_of HT_.out (by kernel_rfl)) (fun _ _ _ h => h) (Or.inr ⟨by rfl, rfl⟩) ?_ ?_
    rotate_left
    ·simp only [Act.put, q1_, q2_, q3_, i64_w, i32_w]
     rfl
    refine pure_ (i := 23) (N := some 232) (v := undef) (a' := ?_) #[T_,T_,T_,T_,T_,T_,T_,T_,T_,T_,T_,T_,T_,T_,T_,T_,T_,T_,T_,T_,T_,T_,T_,T_,F_,F_,F_] rfl rfl (any_of HT_.out (by kernel_rfl)) (fun _ _ _ h => h) (Or.inr ⟨by rfl, rfl⟩) ?_ ?_
    rotate_left
    ·simp only [Act.put, q1_, q2_, q3_, i64_w, i32_w]
     rfl
    refine pure_ (i := 24) (N := some 233) (v := undef) (a' := ?_) #[T_,T_,T_,T_,T_,T_,T_,T_,T_,T_,T_,T_,T_,T_,T_,T_,T_,T_,T_,T_,T_,T_,T_,T_,T_,F_,F_] rfl rfl (any_of HT_.out (by kernel_rfl)) (fun _ _ _ h => h) (Or.inr ⟨by rfl, rfl⟩) ?_ ?_
    rotate_left
    ·simp only [Act.put, q1_, q2_, q3_, i64_w, i32_w]
     rfl
    refine pure_ (i := 25) (N := some 234) (v := undef) (a' := ?_) #[T_,T_,T_,T_,T_,T_,T_,T_,T_,T_,T_,T_,T_,T_,T_,T_,T_,T_,T_,T_,T_,T_,T_,T_,T_,T_,F_] rfl rfl (any_of HT_.out (by kernel_rfl)) (fun _ _ _ h => h) (Or.inr ⟨by rfl, rfl⟩) ?_ ?_
    rotate_left
    ·simp only [Act.put, q1_, q2_, q3_, i64_w, i32_w]
     rfl
    refine pure_ (i := 26) (N := some 235) (v := ?_) (a' := ?_) #[T_,T_,T_,T_,T_,T_,T_,T_,T_,T_,T_,T_,T_,T_,T_,T_,T_,T_,T_,T_,T_,T_,T_,T_,T_,T_,T_] rfl rfl (any_of HT_.out (by kernel_rfl)) (fun _ _ _ h => h) (Or.inl ⟨by rfl, ?_⟩) ?_ ?_
    rotate_left
    ·intro w'
     go_simp
     with_reducible rfl
    rotate_left
    ·simp only [Act.put, q1_, q2_, q3_, i64_w, i32_w]
     rfl
    refine done_ (done_of HT_.out (by kernel_rfl)) ?_
    try go_wp2
    go_meet
    case rel => exact ⟨_, (false), (by first | rfl | (simp; done) | (simp [*]; done)), H', ⟨by have := HJ2.out; have := HK2.out; have := HK3.out; have := HK4.out; first | omega | exact Nat.le_refl _⟩, ⟨by (with_reducible repeat (first | apply Kd.R_alloc | apply Kd.R_drewN | apply Kd.R_drew)); exact HO_6.out⟩, ⟨by (with_reducible repeat (first | apply Kd.R_alloc | apply Kd.R_drewN | apply Kd.R_drew)); exact HO_7.out⟩, ⟨by repeat (first | (with_reducible first | exact HI135.out | apply IsS75.alloc | apply IsS75.drewN | apply IsS75.drew) | exact HI135.out)⟩, ⟨by repeat (first | (with_reducible first | exact HB.out | apply below_alloc | apply pw_below_drewN | apply below_drew1 | refine below_set ?_ (IsS75.ge HI135.out)) | exact HB.out)⟩⟩
   subst c162
   have H1 : (if x16_4 < 0 then (TR.j7 k4 l1 x6_2 x7_2 x15_3 x16_4 x17_4 true x136000_3) else (if 0 ≤ x16_4 then (if x16_4 < (x6_2.length : Int) then (TR.j7 k4 l1 x6_2 x7_2 x15_3 x16_4 x17_4 (decide (((rd_T47 x6_2 x17_4).f1) > ((rd_T47 x6_2 x16_4).f1))) x136000_3) else (none)) else (none))) = some r := by rw [if_pos rfl] at H; exact H
   clear H
   have H := H1
   clear H1
   by_cases c163 : x16_4 < 0
   ·rw [if_pos c163] at H
    have c163b0 : decide (x16_4 < 0) = true := decide_eq_true c163
    clear c163
    have H' := Aside0.mk H
    clear H
    try go_wp2
    have n0_ := Aside0.mk (Kd.R_drew HO_6.out)
    have n1_ := Aside0.mk (Kd.R_drew HO_7.out)
    have n2_ := Aside0.mk (IsS75.drew HI135.out)
    have n3_ := Aside0.mk (below_drew1 HB.out)
    clear HO_6 HO_7 HI135 HB
    have HO_6 := n0_; have HO_7 := n1_; have HI135 := n2_; have HB := n3_
    clear n0_ n1_ n2_ n3_
    have p207 : 0 ≤ (x17_4 : Int) := of_decide_eq_true (by first | (with_reducible assumption) | assumption)
    have q207 : x17_4 < (x6_2.length : Int) := of_decide_eq_true (by first | (with_reducible assumption) | assumption)
    obtain ⟨ad207, e207, hx207_0, hx207_1⟩ := at_T47 (Kd.R_reads' HO_6.out).2.2 x17_4 p207 q207
    cases e207
    replace p207 := eq_true p207
    replace q207 := eq_true q207
    have p208 : 0 ≤ (x15_3 : Int) := of_decide_eq_true (by first | (with_reducible assumption) | assumption)
    have q208 : x15_3 < (l1.length : Int) := of_decide_eq_true (by first | (with_reducible assumption) | assumption)
    obtain ⟨ad208, e208, hx208_0⟩ := Kd.at_int HR1.out x15_3 p208 q208
    have hw208_0 := hx208_0
    cases e208
    replace hx208_0 := (HB.out.cell (World.block_lt_of_cell? w _ hx208_0)).trans hx208_0
    replace p208 := eq_true p208
    replace q208 := eq_true q208
    refine start_ (n := 27) (S := fun w' => w'.cell? (ad207.add ((x17_4).toNat * 2)) = some (.int .u32 ((rd_T47 x6_2 x17_4).f0)) ∧ w'.cell? ⟨(ad207.add ((x17_4).toNat * 2)).block, (ad207.add ((x17_4).toNat * 2)).off + 1, none⟩ = some (.int .i64 ((rd_T47 x6_2 x17_4).f1)) ∧ w'.cell? (ad208.add (x15_3).toNat) = some (.int .u32 (rd l1 x15_3))) (ds := []) #[F_,F_,F_,F_,F_,F_,F_,F_,F_,F_,F_,F_,F_,F_,F_,F_,F_,F_,F_,F_,F_,F_,F_,F_,F_,F_,F_] (by kernel_rfl) rfl rfl ⟨hx207_0, hx207_1, ((HB.out.cell (World.block_lt_of_cell? w _ hw208_0)).trans hw208_0)⟩ (fun hHeld => ?_); refine with_tabW TR.tab42 TR.bits42 (fun HT_ HW_ => ?_)
    generalize wr.drew = w164 at HO_6 HO_7 HI135 HB hx207_0 hx207_1 hx208_0 hHeld ⊢
    refine pure_ (i := 0) (N := some 209) (v := ?_) (a' := ?_) #[T_,F_,F_,F_,F_,F_,F_,F_,F_,F_,F_,F_,F_,F_,F_,F_,F_,F_,F_,F_,F_,F_,F_,F_,F_,F_,F_] rfl rfl (any_of HT_.out (by kernel_rfl)) (fun _ _ _ h => h) (Or.inl ⟨by rfl, ?_⟩) ?_ ?_
    rotate_left
    ·intro w'
     go_simp
     with_reducible rfl
    rotate_left
    ·simp only [Act.put, q1_, q2_, q3_, i64_w, i32_w]
     rfl
    refine pure_ (i := 1) (N := some 210) (v := ?_) (a' := ?_) #[T_,T_,F_,F_,F_,F_,F_,F_,F_,F_,F_,F_,F_,F_,F_,F_,F_,F_,F_,F_,F_,F_,F_,F_,F_,F_,F_] rfl rfl (any_of HT_.out (by kernel_rfl)) (fun _ _ _ h => h) (Or.inl ⟨by rfl, ?_⟩) ?_ ?_
    rotate_left
    ·intro w'
     go_simp
     with_reducible rfl
    rotate_left
    ·simp only [Act.put, q1_, q2_, q3_, i64_w, i32_w]
     rfl
    refine pure_ (i := 2) (N := some 211) (v := ?_) (a' := ?_) #[T_,T_,T_,F_,F_,F_,F_,F_,F_,F_,F_,F_,F_,F_,F_,F_,F_,F_,F_,F_,F_,F_,F_,F_,F_,F_,F_] rfl rfl (any_of HT_.out (by kernel_rfl)) (fun _ _ _ h => h) (Or.inl ⟨by rfl, ?_⟩) ?_ ?_
    rotate_left
    ·intro w'
     go_simp
     with_reducible rfl
    rotate_left
    ·simp only [Act.put, q1_, q2_, q3_, i64_w, i32_w]
     rfl
    refine pure_ (i := 4) (N := some 213) (v := ?_) (a' := ?_) #[T_,T_,T_,F_,T_,F_,F_,F_,F_,F_,F_,F_,F_,F_,F_,F_,F_,F_,F_,F_,F_,F_,F_,F_,F_,F_,F_] rfl rfl (any_of HT_.out (by kernel_rfl)) (fun _ _ _ h => h) (Or.inl ⟨by rfl, ?_⟩) ?_ ?_
    rotate_left
    ·intro w'
     go_simp
     with_reducible rfl
    rotate_left
    ·simp only [Act.put, q1_, q2_, q3_, i64_w, i32_w]
     rfl
    refine pure_ (i := 5) (N := some 214) (v := ?_) (a' := ?_) #[T_,T_,T_,F_,T_,T_,F_,F_,F_,F_,F_,F_,F_,F_,F_,F_,F_,F_,F_,F_,F_,F_,F_,F_,F_,F_,F_] rfl rfl (any_of HT_.out (by kernel_rfl)) (fun _ _ _ h => h) (Or.inl ⟨by rfl, ?_⟩) ?_ ?_
    rotate_left
    ·intro w'
     go_simp
     with_reducible rfl
    rotate_left
    ·simp only [Act.put, q1_, q2_, q3_, i64_w, i32_w]
     rfl
    refine pure_ (i := 6) (N := some 215) (v := ?_) (a' := ?_) #[T_,T_,T_,F_,T_,T_,T_,F_,F_,F_,F_,F_,F_,F_,F_,F_,F_,F_,F_,F_,F_,F_,F_,F_,F_,F_,F_] rfl rfl (any_of HT_.out (by kernel_rfl)) (fun _ _ _ h => h) (Or.inl ⟨by rfl, ?_⟩) ?_ ?_
    rotate_left
    ·intro w'
     go_simp
     with_reducible rfl
    rotate_left
    ·simp only [Act.put, q1_, q2_, q3_, i64_w, i32_w]
     rfl
    refine take_ (i := 3) (N := some 212) (v := ?_) (a' := ?_) #[T_,T_,T_,T_,T_,T_,T_,F_,F_,F_,F_,F_,F_,F_,F_,F_,F_,F_,F_,F_,F_,F_,F_,F_,F_,F_,F_] rfl rfl (take_ofW HT_.out HW_.out (by kernel_rfl)) (fun _ _ _ h => h) (Or.inl ⟨by rfl, ?_⟩) hHeld ?_ ?_
    rotate_left
    ·rintro w' ⟨s0, s1, s2⟩
     go_simp
     with_reducible rfl
    rotate_left
    ·simp only [Act.put, q1_, q2_, q3_, i64_w, i32_w]
     rfl
    refine take_ (i := 7) (N := some 216) (v := ?_) (a' := ?_) #[T_,T_,T_,T_,T_,T_,T_,T_,F_,F_,F_,F_,F_,F_,F_,F_,F_,F_,F_,F_,F_,F_,F_,F_,F_,F_,F_] rfl rfl (take_ofW HT_.out HW_.out (by kernel_rfl)) (fun _ _ _ h => h) (Or.inl ⟨by rfl, ?_⟩) hHeld ?_ ?_
    rotate_left
    ·rintro w' ⟨s0, s1, s2⟩
     go_simp
     with_reducible rfl
    rotate_left
    ·simp only [Act.put, q1_, q2_, q3_, i64_w, i32_w]
     rfl
    refine pure_ (i := 8) (N := some 217) (v := ?_) (a' := ?_) #[T_,T_,T_,T_,T_,T_,T_,T_,T_,F_,F_,F_,F_,F_,F_,F_,F_,F_,F_,F_,F_,F_,F_,F_,F_,F_,F_] rfl rfl (any_of HT_.out (by kernel_rfl)) (fun _ _ _ h => h) (Or.inl ⟨by rfl, ?_⟩) ?_ ?_
    rotate_left
    ·intro w'
     go_simp
     with_reducible rfl
    rotate_left
    ·simp only [Act.put, q1_, q2_, q3_, i64_w, i32_w]
     rfl
    refine one_ (i := 9) (N := some 218) #[T_,T_,T_,T_,T_,T_,T_,T_,T_,T_,F_,F_,F_,F_,F_,F_,F_,F_,F_,F_,F_,F_,F_,F_,F_,F_,F_] rfl rfl (one_of HT_.out (by kernel_rfl)) (by decide) (fun K hK => ?_)
    refine goes_ Try.func26 (by kernel_rfl) rfl #[.agg #[.int .u32 ((rd_T47 x6_2 x17_4).f0), .int .i64 ((rd_T47 x6_2 x17_4).f1)], .agg #[.int .u32 (rd l1 x15_3), .int .i64 32]] (by rfl) rfl rfl (by (try simp only [List.map_toArray, List.map_cons, List.map_nil]); first | done | rfl | (simp only [List.length_drop, List.length_take]; rfl)) ?_
    with_reducible refine (interregnumref05_Covers.calls k4 ((rd_T47 x6_2 x17_4).f0) ((rd_T47 x6_2 x17_4).f1) (rd l1 x15_3) 32 true _ A161.out).mono ?_
    rintro e w165 ⟨rfl, hb⟩
    have HS0_ := (hb.cell (World.block_lt_of_cell? _ _ (hHeld.1))).trans (hHeld.1)
    have HS1_ := (hb.cell (World.block_lt_of_cell? _ _ (hHeld.2.1))).trans (hHeld.2.1)
    refine ⟨_, rfl, ?_⟩
    have n0_ := Aside0.mk (Kd.R_below (by (with_reducible repeat (first|apply Kd.R_alloc|apply Kd.R_drewN|apply Kd.R_drew)); exact HO_6.out) hb)
    have n1_ := Aside0.mk (Kd.R_below (by (with_reducible repeat (first|apply Kd.R_alloc|apply Kd.R_drewN|apply Kd.R_drew)); exact HO_7.out) hb)
    have n2_ := Aside0.mk (IsS75.below (by repeat (first | (with_reducible first | exact HI135.out | apply IsS75.alloc | apply IsS75.drewN | apply IsS75.drew) | exact HI135.out)) hb)
    have n3_ := Aside0.mk (below_step (by repeat (first | (with_reducible first | exact HB.out | apply below_alloc | apply pw_below_drewN | apply below_drew1 | refine below_set ?_ (IsS75.ge HI135.out)) | exact HB.out)) hb)
    clear HO_6 HO_7 HI135 HB
    have HO_6 := n0_; have HO_7 := n1_; have HI135 := n2_; have HB := n3_
    clear n0_ n1_ n2_ n3_
    (try clear hb)
    (try clear hb2)
    (try clear hk)
    (try clear hi)
    refine hK.out _ _ ⟨HS0_, HS1_, ((HB.out.cell (World.block_lt_of_cell? w _ hw208_0)).trans hw208_0)⟩ (fun hHeld => ?_)
    clear hK K
    refine norm_ (a' := ?_) ?_ ?_
    rotate_left
    ·show Act.put _ (some 218) _ = _
     simp only [Act.put, q1_, q2_, q3_, i64_w, i32_w]
     rfl
    refine pure_ (i := 10) (N := some 219) (v := ?_) (a' := ?_) #[T_,T_,T_,T_,T_,T_,T_,T_,T_,T_,T_,F_,F_,F_,F_,F_,F_,F_,F_,F_,F_,F_,F_,F_,F_,F_,F_] rfl rfl (any_of HT_.out (by kernel_rfl)) (fun _ _ _ h => h) (Or.inl ⟨by rfl, ?_⟩) ?_ ?_
    rotate_left
    ·intro w'
     go_simp
     with_reducible rfl
    rotate_left
    ·simp only [Act.put, q1_, q2_, q3_, i64_w, i32_w]
     rfl
    refine pure_ (i := 11) (N := some 220) (v := ?_) (a' := ?_) #[T_,T_,T_,T_,T_,T_,T_,T_,T_,T_,T_,T_,F_,F_,F_,F_,F_,F_,F_,F_,F_,F_,F_,F_,F_,F_,F_] rfl rfl (any_of HT_.out (by kernel_rfl)) (fun _ _ _ h => h) (Or.inl ⟨by rfl, ?_⟩) ?_ ?_
    rotate_left
    ·intro w'
     go_simp
     with_reducible rfl
    rotate_left
    ·simp only [Act.put, q1_, q2_, q3_, i64_w, i32_w]
     rfl
    refine pure_ (i := 12) (N := some 221) (v := ?_) (a' := ?_) #[T_,T_,T_,T_,T_,T_,T_,T_,T_,T_,T_,T_,T_,F_,F_,F_,F_,F_,F_,F_,F_,F_,F_,F_,F_,F_,F_] rfl rfl (any_of HT_.out (by kernel_rfl)) (fun _ _ _ h => h) (Or.inl ⟨by rfl, ?_⟩) ?_ ?_
    rotate_left
    ·intro w'
     go_simp
     with_reducible rfl
    rotate_left
    ·simp only [Act.put, q1_, q2_, q3_, i64_w, i32_w]
     rfl
    refine pure_ (i := 13) (N := some 222) (v := ?_) (a' := ?_) #[T_,T_,T_,T_,T_,T_,T_,T_,T_,T_,T_,T_,T_,T_,F_,F_,F_,F_,F_,F_,F_,F_,F_,F_,F_,F_,F_] rfl rfl (any_of HT_.out (by kernel_rfl)) (fun _ _ _ h => h) (Or.inl ⟨by rfl, ?_⟩) ?_ ?_
    rotate_left
    ·intro w'
     go_simp
     with_reducible rfl
    rotate_left
    ·simp only [Act.put, q1_, q2_, q3_, i64_w, i32_w]
     rfl
    refine pure_ (i := 14) (N := some 223) (v := undef) (a' := ?_) #[T_,T_,T_,T_,T_,T_,T_,T_,T_,T_,T_,T_,T_,T_,T_,F_,F_,F_,F_,F_,F_,F_,F_,F_,F_,F_,F_] rfl rfl (any_of HT_.out (by kernel_rfl)) (fun _ _ _ h => h) (Or.inr ⟨by rfl, rfl⟩) ?_ ?_
    rotate_left
    ·simp only [Act.put, q1_, q2_, q3_, i64_w, i32_w]
     rfl
    refine pure_ (i := 15) (N := some 224) (v := undef) (a' := ?_) #[T_,T_,T_,T_,T_,T_,T_,T_,T_,T_,T_,T_,T_,T_,T_,T_,F_,F_,F_,F_,F_,F_,F_,F_,F_,F_,F_] rfl rfl (any_of HT_.out (by kernel_rfl)) (fun _ _ _ h => h) (Or.inr ⟨by rfl, rfl⟩) ?_ ?_
    rotate_left
    ·simp only [Act.put, q1_, q2_, q3_, i64_w, i32_w]
     rfl
    refine pure_ (i := 16) (N := some 225) (v := undef) (a' := ?_) #[T_,T_,T_,T_,T_,T_,T_,T_,T_,T_,T_,T_,T_,T_,T_,T_,T_,F_,F_,F_,F_,F_,F_,F_,F_,F_,F_] rfl rfl (any_of HT_.out (by kernel_rfl)) (fun _ _ _ h => h) (Or.inr ⟨by rfl, rfl⟩) ?_ ?_
    rotate_left
    ·simp only [Act.put, q1_, q2_, q3_, i64_w, i32_w]
     rfl
    refine pure_ (i := 17) (N := some 226) (v := undef) (a' := ?_) #[T_,T_,T_,T_,T_,T_,T_,T_,T_,T_,T_,T_,T_,T_,T_,T_,T_,T_,F_,F_,F_,F_,F_,F_,F_,F_,F_] rfl rfl (any_of HT_.out (by kernel_rfl)) (fun _ _ _ h => h) (Or.inr ⟨by rfl, rfl⟩) ?_ ?_
    rotate_left
    ·simp only [Act.put, q1_, q2_, q3_, i64_w, i32_w]
     rfl
    refine pure_ (i := 18) (N := some 227) (v := undef) (a' := ?_) #[T_,T_,T_,T_,T_,T_,T_,T_,T_,T_,T_,T_,T_,T_,T_,T_,T_,T_,T_,F_,F_,F_,F_,F_,F_,F_,F_] rfl rfl (any_of HT_.out (by kernel_rfl)) (fun _ _ _ h => h) (Or.inr ⟨by rfl, rfl⟩) ?_ ?_
    rotate_left
    ·simp only [Act.put, q1_, q2_, q3_, i64_w, i32_w]
     rfl
    refine pure_ (i := 19) (N := some 228) (v := undef) (a' := ?_) #[T_,T_,T_,T_,T_,T_,T_,T_,T_,T_,T_,T_,T_,T_,T_,T_,T_,T_,T_,T_,F_,F_,F_,F_,F_,F_,F_] rfl rfl (any_of HT_.out (by kernel_rfl)) (fun _ _ _ h => h) (Or.inr ⟨by rfl, rfl⟩) ?_ ?_
    rotate_left
    ·simp only [Act.put, q1_, q2_, q3_, i64_w, i32_w]
     rfl
    refine pure_ (i := 20) (N := some 229) (v := undef) (a' := ?_) #[T_,T_,T_,T_,T_,T_,T_,T_,T_,T_,T_,T_,T_,T_,T_,T_,T_,T_,T_,T_,T_,F_,F_,F_,F_,F_,F_] rfl rfl (any_of HT_.out (by kernel_rfl)) (fun _ _ _ h => h) (Or.inr ⟨by rfl, rfl⟩) ?_ ?_
    rotate_left
    ·simp only [Act.put, q1_, q2_, q3_, i64_w, i32_w]
     rfl
    refine pure_ (i := 21) (N := some 230) (v := undef) (a' := ?_) #[T_,T_,T_,T_,T_,T_,T_,T_,T_,T_,T_,T_,T_,T_,T_,T_,T_,T_,T_,T_,T_,T_,F_,F_,F_,F_,F_] rfl rfl (any_of HT_.out (by kernel_rfl)) (fun _ _ _ h => h) (Or.inr ⟨by rfl, rfl⟩) ?_ ?_
    rotate_left
    ·simp only [Act.put, q1_, q2_, q3_, i64_w, i32_w]
     rfl
    refine pure_ (i := 22) (N := some 231) (v := undef) (a' := ?_) #[T_,T_,T_,T_,T_,T_,T_,T_,T_,T_,T_,T_,T_,T_,T_,T_,T_,T_,T_,T_,T_,T_,T_,F_,F_,F_,F_] rfl rfl (any_of HT_.out (by kernel_rfl)) (fun _ _ _ h => h) (Or.inr ⟨by rfl, rfl⟩) ?_ ?_
    rotate_left
    ·simp only [Act.put, q1_, q2_, q3_, i64_w, i32_w]
     rfl
    refine pure_ (i := 23) (N := some 232) (v := undef) (a' := ?_) #[T_,T_,T_,T_,T_,T_,T_,T_,T_,T_,T_,T_,T_,T_,T_,T_,T_,T_,T_,T_,T_,T_,T_,T_,F_,F_,F_] rfl rfl (any_of HT_.out (by kernel_rfl)) (fun _ _ _ h => h) (Or.inr ⟨by rfl, rfl⟩) ?_ ?_
    rotate_left
    ·simp only [Act.put, q1_, q2_, q3_, i64_w, i32_w]
     rfl
    refine pure_ (i := 24) (N := some 233) (v := undef) (a' := ?_) #[T_,T_,T_,T_,T_,T_,T_,T_,T_,T_,T_,T_,T_,T_,T_,T_,T_,T_,T_,T_,T_,T_,T_,T_,T_,F_,F_] rfl rfl (any_of HT_.out (by kernel_rfl)) (fun _ _ _ h => h) (Or.inr ⟨by rfl, rfl⟩) ?_ ?_
    rotate_left
    ·simp only [Act.put, q1_, q2_, q3_, i64_w, i32_w]
     rfl
    refine pure_ (i := 25) (N := some 234) (v := ?_) (a' := ?_) #[T_,T_,T_,T_,T_,T_,T_,T_,T_,T_,T_,T_,T_,T_,T_,T_,T_,T_,T_,T_,T_,T_,T_,T_,T_,T_,F_] rfl rfl (any_of HT_.out (by kernel_rfl)) (fun _ _ _ h => h) (Or.inl ⟨by rfl, ?_⟩) ?_ ?_
    rotate_left
    ·intro w'
     go_simp
     with_reducible rfl
    rotate_left
    ·simp only [Act.put, q1_, q2_, q3_, i64_w, i32_w]
     rfl
    refine pure_ (i := 26) (N := some 235) (v := ?_) (a' := ?_) #[T_,T_,T_,T_,T_,T_,T_,T_,T_,T_,T_,T_,T_,T_,T_,T_,T_,T_,T_,T_,T_,T_,T_,T_,T_,T_,T_] rfl rfl (any_of HT_.out (by kernel_rfl)) (fun _ _ _ h => h) (Or.inl ⟨by rfl, ?_⟩) ?_ ?_
    rotate_left
    ·intro w'
     go_simp
     with_reducible rfl
    rotate_left
    ·simp only [Act.put, q1_, q2_, q3_, i64_w, i32_w]
     rfl
    refine done_ (done_of HT_.out (by kernel_rfl)) ?_
    try go_wp2
    go_meet
    case rel => exact ⟨_, (true), (by first | rfl | (simp; done) | (simp [*]; done)), H', ⟨by have := HJ2.out; have := HK2.out; have := HK3.out; have := HK4.out; first | omega | exact Nat.le_refl _⟩, ⟨by (with_reducible repeat (first | apply Kd.R_alloc | apply Kd.R_drewN | apply Kd.R_drew)); exact HO_6.out⟩, ⟨by (with_reducible repeat (first | apply Kd.R_alloc | apply Kd.R_drewN | apply Kd.R_drew)); exact HO_7.out⟩, ⟨by repeat (first | (with_reducible first | exact HI135.out | apply IsS75.alloc | apply IsS75.drewN | apply IsS75.drew) | exact HI135.out)⟩, ⟨by repeat (first | (with_reducible first | exact HB.out | apply below_alloc | apply pw_below_drewN | apply below_drew1 | refine below_set ?_ (IsS75.ge HI135.out)) | exact HB.out)⟩⟩
   rw [if_neg c163] at H
   have c163b0 : decide (x16_4 < 0) = false := decide_eq_false c163
   clear c163
   by_cases c166 : 0 ≤ x16_4
   rotate_left
   ·rw [if_neg c166] at H
    exact absurd H (by simp)
   rw [if_pos c166] at H
   have c166b0 : decide (0 ≤ x16_4) = true := decide_eq_true c166
   clear c166
   by_cases c167 : x16_4 < (x6_2.length : Int)
   rotate_left
   ·rw [if_neg c167] at H
    exact absurd H (by simp)
   rw [if_pos c167] at H
   have c167b0 : decide (x16_4 < (x6_2.length : Int)) = true := decide_eq_true c167
   clear c167
   have H' := Aside0.mk H
   clear H
   try go_wp2
   have n0_ := Aside0.mk (Kd.R_drew HO_6.out)
   have n1_ := Aside0.mk (Kd.R_drew HO_7.out)
   have n2_ := Aside0.mk (IsS75.drew HI135.out)
   have n3_ := Aside0.mk (below_drew1 HB.out)
   clear HO_6 HO_7 HI135 HB
   have HO_6 := n0_; have HO_7 := n1_; have HI135 := n2_; have HB := n3_
   clear n0_ n1_ n2_ n3_
   have p207 : 0 ≤ (x17_4 : Int) := of_decide_eq_true (by first | (with_reducible assumption) | assumption)
   have q207 : x17_4 < (x6_2.length : Int) := of_decide_eq_true (by first | (with_reducible assumption) | assumption)
   obtain ⟨ad207, e207, hx207_0, hx207_1⟩ := at_T47 (Kd.R_reads' HO_6.out).2.2 x17_4 p207 q207
   cases e207
   replace p207 := eq_true p207
   replace q207 := eq_true q207
   have p208 : 0 ≤ (x15_3 : Int) := of_decide_eq_true (by first | (with_reducible assumption) | assumption)
   have q208 : x15_3 < (l1.length : Int) := of_decide_eq_true (by first | (with_reducible assumption) | assumption)
   obtain ⟨ad208, e208, hx208_0⟩ := Kd.at_int HR1.out x15_3 p208 q208
   have hw208_0 := hx208_0
   cases e208
   replace hx208_0 := (HB.out.cell (World.block_lt_of_cell? w _ hx208_0)).trans hx208_0
   replace p208 := eq_true p208
   replace q208 := eq_true q208
   have p210 : 0 ≤ (x17_4 : Int) := of_decide_eq_true (by first | (with_reducible assumption) | assumption)
   have q210 : x17_4 < (x6_2.length : Int) := of_decide_eq_true (by first | (with_reducible assumption) | assumption)
   obtain ⟨ad210, e210, hx210_0, hx210_1⟩ := at_T47 (Kd.R_reads' HO_6.out).2.2 x17_4 p210 q210
   obtain rfl : ad207 = ad210 := (by injection e210)
   replace p210 := eq_true p210
   replace q210 := eq_true q210
   have p211 : 0 ≤ (x16_4 : Int) := of_decide_eq_true (by first | (with_reducible assumption) | assumption)
   have q211 : x16_4 < (x6_2.length : Int) := of_decide_eq_true (by first | (with_reducible assumption) | assumption)
   obtain ⟨ad211, e211, hx211_0, hx211_1⟩ := at_T47 (Kd.R_reads' HO_6.out).2.2 x16_4 p211 q211
   obtain rfl : ad207 = ad211 := (by injection e211)
   replace p211 := eq_true p211
   replace q211 := eq_true q211
   refine start_ (n := 27) (S := fun w' => w'.cell? (ad207.add ((x17_4).toNat * 2)) = some (.int .u32 ((rd_T47 x6_2 x17_4).f0)) ∧ w'.cell? ⟨(ad207.add ((x17_4).toNat * 2)).block, (ad207.add ((x17_4).toNat * 2)).off + 1, none⟩ = some (.int .i64 ((rd_T47 x6_2 x17_4).f1)) ∧ w'.cell? (ad208.add (x15_3).toNat) = some (.int .u32 (rd l1 x15_3)) ∧ w'.cell? (ad207.add ((x17_4).toNat * 2)) = some (.int .u32 ((rd_T47 x6_2 x17_4).f0)) ∧ w'.cell? ⟨(ad207.add ((x17_4).toNat * 2)).block, (ad207.add ((x17_4).toNat * 2)).off + 1, none⟩ = some (.int .i64 ((rd_T47 x6_2 x17_4).f1)) ∧ w'.cell? (ad207.add ((x16_4).toNat * 2)) = some (.int .u32 ((rd_T47 x6_2 x16_4).f0)) ∧ w'.cell? ⟨(ad207.add ((x16_4).toNat * 2)).block, (ad207.add ((x16_4).toNat * 2)).off + 1, none⟩ = some (.int .i64 ((rd_T47 x6_2 x16_4).f1))) (ds := []) #[F_,F_,F_,F_,F_,F_,F_,F_,F_,F_,F_,F_,F_,F_,F_,F_,F_,F_,F_,F_,F_,F_,F_,F_,F_,F_,F_] (by kernel_rfl) rfl rfl ⟨hx207_0, hx207_1, ((HB.out.cell (World.block_lt_of_cell? w _ hw208_0)).trans hw208_0), hx210_0, hx210_1, hx211_0, hx211_1⟩ (fun hHeld => ?_); refine with_tabW TR.tab42 TR.bits42 (fun HT_ HW_ => ?_)
   generalize wr.drew = w168 at HO_6 HO_7 HI135 HB hx207_0 hx207_1 hx208_0 hx210_0 hx210_1 hx211_0 hx211_1 hHeld ⊢
   refine pure_ (i := 0) (N := some 209) (v := ?_) (a' := ?_) #[T_,F_,F_,F_,F_,F_,F_,F_,F_,F_,F_,F_,F_,F_,F_,F_,F_,F_,F_,F_,F_,F_,F_,F_,F_,F_,F_] rfl rfl (any_of HT_.out (by kernel_rfl)) (fun _ _ _ h => h) (Or.inl ⟨by rfl, ?_⟩) ?_ ?_
   rotate_left
   ·intro w'
    go_simp
    with_reducible rfl
   rotate_left
   ·simp only [Act.put, q1_, q2_, q3_, i64_w, i32_w]
    rfl
   refine pure_ (i := 1) (N := some 210) (v := ?_) (a' := ?_) #[T_,T_,F_,F_,F_,F_,F_,F_,F_,F_,F_,F_,F_,F_,F_,F_,F_,F_,F_,F_,F_,F_,F_,F_,F_,F_,F_] rfl rfl (any_of HT_.out (by kernel_rfl)) (fun _ _ _ h => h) (Or.inl ⟨by rfl, ?_⟩) ?_ ?_
   rotate_left
   ·intro w'
    go_simp
    with_reducible rfl
   rotate_left
   ·simp only [Act.put, q1_, q2_, q3_, i64_w, i32_w]
    rfl
   refine pure_ (i := 2) (N := some 211) (v := ?_) (a' := ?_) #[T_,T_,T_,F_,F_,F_,F_,F_,F_,F_,F_,F_,F_,F_,F_,F_,F_,F_,F_,F_,F_,F_,F_,F_,F_,F_,F_] rfl rfl (any_of HT_.out (by kernel_rfl)) (fun _ _ _ h => h) (Or.inl ⟨by rfl, ?_⟩) ?_ ?_
   rotate_left
   ·intro w'
    go_simp
    with_reducible rfl
   rotate_left
   ·simp only [Act.put, q1_, q2_, q3_, i64_w, i32_w]
    rfl
   refine pure_ (i := 4) (N := some 213) (v := ?_) (a' := ?_) #[T_,T_,T_,F_,T_,F_,F_,F_,F_,F_,F_,F_,F_,F_,F_,F_,F_,F_,F_,F_,F_,F_,F_,F_,F_,F_,F_] rfl rfl (any_of HT_.out (by kernel_rfl)) (fun _ _ _ h => h) (Or.inl ⟨by rfl, ?_⟩) ?_ ?_
   rotate_left
   ·intro w'
    go_simp
    with_reducible rfl
   rotate_left
   ·simp only [Act.put, q1_, q2_, q3_, i64_w, i32_w]
    rfl
   refine pure_ (i := 5) (N := some 214) (v := ?_) (a' := ?_) #[T_,T_,T_,F_,T_,T_,F_,F_,F_,F_,F_,F_,F_,F_,F_,F_,F_,F_,F_,F_,F_,F_,F_,F_,F_,F_,F_] rfl rfl (any_of HT_.out (by kernel_rfl)) (fun _ _ _ h => h) (Or.inl ⟨by rfl, ?_⟩) ?_ ?_
   rotate_left
   ·intro w'
    go_simp
    with_reducible rfl
   rotate_left
   ·simp only [Act.put, q1_, q2_, q3_, i64_w, i32_w]
    rfl
   refine pure_ (i := 6) (N := some 215) (v := ?_) (a' := ?_) #[T_,T_,T_,F_,T_,T_,T_,F_,F_,F_,F_,F_,F_,F_,F_,F_,F_,F_,F_,F_,F_,F_,F_,F_,F_,F_,F_] rfl rfl (any_of HT_.out (by kernel_rfl)) (fun _ _ _ h => h) (Or.inl ⟨by rfl, ?_⟩) ?_ ?_
   rotate_left
   ·intro w'
    go_simp
    with_reducible rfl
   rotate_left
   ·simp only [Act.put, q1_, q2_, q3_, i64_w, i32_w]
    rfl
   refine take_ (i := 3) (N := some 212) (v := ?_) (a' := ?_) #[T_,T_,T_,T_,T_,T_,T_,F_,F_,F_,F_,F_,F_,F_,F_,F_,F_,F_,F_,F_,F_,F_,F_,F_,F_,F_,F_] rfl rfl (take_ofW HT_.out HW_.out (by kernel_rfl)) (fun _ _ _ h => h) (Or.inl ⟨by rfl, ?_⟩) hHeld ?_ ?_
   rotate_left
   ·rintro w' ⟨s0, s1, s2, s3, s4, s5, s6⟩
    go_simp
    with_reducible rfl
   rotate_left
   ·simp only [Act.put, q1_, q2_, q3_, i64_w, i32_w]
    rfl
   refine take_ (i := 7) (N := some 216) (v := ?_) (a' := ?_) #[T_,T_,T_,T_,T_,T_,T_,T_,F_,F_,F_,F_,F_,F_,F_,F_,F_,F_,F_,F_,F_,F_,F_,F_,F_,F_,F_] rfl rfl (take_ofW HT_.out HW_.out (by kernel_rfl)) (fun _ _ _ h => h) (Or.inl ⟨by rfl, ?_⟩) hHeld ?_ ?_
   rotate_left
   ·rintro w' ⟨s0, s1, s2, s3, s4, s5, s6⟩
    go_simp
    with_reducible rfl
   rotate_left
   ·simp only [Act.put, q1_, q2_, q3_, i64_w, i32_w]
    rfl
   refine pure_ (i := 8) (N := some 217) (v := ?_) (a' := ?_) #[T_,T_,T_,T_,T_,T_,T_,T_,T_,F_,F_,F_,F_,F_,F_,F_,F_,F_,F_,F_,F_,F_,F_,F_,F_,F_,F_] rfl rfl (any_of HT_.out (by kernel_rfl)) (fun _ _ _ h => h) (Or.inl ⟨by rfl, ?_⟩) ?_ ?_
   rotate_left
   ·intro w'
    go_simp
    with_reducible rfl
   rotate_left
   ·simp only [Act.put, q1_, q2_, q3_, i64_w, i32_w]
    rfl
   refine one_ (i := 9) (N := some 218) #[T_,T_,T_,T_,T_,T_,T_,T_,T_,T_,F_,F_,F_,F_,F_,F_,F_,F_,F_,F_,F_,F_,F_,F_,F_,F_,F_] rfl rfl (one_of HT_.out (by kernel_rfl)) (by decide) (fun K hK => ?_)
   refine goes_ Try.func26 (by kernel_rfl) rfl #[.agg #[.int .u32 ((rd_T47 x6_2 x17_4).f0), .int .i64 ((rd_T47 x6_2 x17_4).f1)], .agg #[.int .u32 (rd l1 x15_3), .int .i64 32]] (by rfl) rfl rfl (by (try simp only [List.map_toArray, List.map_cons, List.map_nil]); first | done | rfl | (simp only [List.length_drop, List.length_take]; rfl)) ?_
   with_reducible refine (interregnumref05_Covers.calls k4 ((rd_T47 x6_2 x17_4).f0) ((rd_T47 x6_2 x17_4).f1) (rd l1 x15_3) 32 true _ A161.out).mono ?_
   rintro e w169 ⟨rfl, hb⟩
   have HS0_ := (hb.cell (World.block_lt_of_cell? _ _ (hHeld.1))).trans (hHeld.1)
   have HS1_ := (hb.cell (World.block_lt_of_cell? _ _ (hHeld.2.1))).trans (hHeld.2.1)
   have HS3_ := (hb.cell (World.block_lt_of_cell? _ _ (hHeld.2.2.2.1))).trans (hHeld.2.2.2.1)
   have HS4_ := (hb.cell (World.block_lt_of_cell? _ _ (hHeld.2.2.2.2.1))).trans (hHeld.2.2.2.2.1)
   have HS5_ := (hb.cell (World.block_lt_of_cell? _ _ (hHeld.2.2.2.2.2.1))).trans (hHeld.2.2.2.2.2.1)
   have HS6_ := (hb.cell (World.block_lt_of_cell? _ _ (hHeld.2.2.2.2.2.2))).trans (hHeld.2.2.2.2.2.2)
   refine ⟨_, rfl, ?_⟩
   have n0_ := Aside0.mk (Kd.R_below (by (with_reducible repeat (first|apply Kd.R_alloc|apply Kd.R_drewN|apply Kd.R_drew)); exact HO_6.out) hb)
   have n1_ := Aside0.mk (Kd.R_below (by (with_reducible repeat (first|apply Kd.R_alloc|apply Kd.R_drewN|apply Kd.R_drew)); exact HO_7.out) hb)
   have n2_ := Aside0.mk (IsS75.below (by repeat (first | (with_reducible first | exact HI135.out | apply IsS75.alloc | apply IsS75.drewN | apply IsS75.drew) | exact HI135.out)) hb)
   have n3_ := Aside0.mk (below_step (by repeat (first | (with_reducible first | exact HB.out | apply below_alloc | apply pw_below_drewN | apply below_drew1 | refine below_set ?_ (IsS75.ge HI135.out)) | exact HB.out)) hb)
   clear HO_6 HO_7 HI135 HB
   have HO_6 := n0_; have HO_7 := n1_; have HI135 := n2_; have HB := n3_
   clear n0_ n1_ n2_ n3_
   (try clear hb)
   (try clear hb2)
   (try clear hk)
   (try clear hi)
   refine hK.out _ _ ⟨HS0_, HS1_, ((HB.out.cell (World.block_lt_of_cell? w _ hw208_0)).trans hw208_0), HS3_, HS4_, HS5_, HS6_⟩ (fun hHeld => ?_)
   clear hK K
   refine norm_ (a' := ?_) ?_ ?_
   rotate_left
   ·show Act.put _ (some 218) _ = _
    simp only [Act.put, q1_, q2_, q3_, i64_w, i32_w]
    rfl
   refine pure_ (i := 10) (N := some 219) (v := ?_) (a' := ?_) #[T_,T_,T_,T_,T_,T_,T_,T_,T_,T_,T_,F_,F_,F_,F_,F_,F_,F_,F_,F_,F_,F_,F_,F_,F_,F_,F_] rfl rfl (any_of HT_.out (by kernel_rfl)) (fun _ _ _ h => h) (Or.inl ⟨by rfl, ?_⟩) ?_ ?_
   rotate_left
   ·intro w'
    go_simp
    with_reducible rfl
   rotate_left
   ·simp only [Act.put, q1_, q2_, q3_, i64_w, i32_w]
    rfl
   refine pure_ (i := 11) (N := some 220) (v := ?_) (a' := ?_) #[T_,T_,T_,T_,T_,T_,T_,T_,T_,T_,T_,T_,F_,F_,F_,F_,F_,F_,F_,F_,F_,F_,F_,F_,F_,F_,F_] rfl rfl (any_of HT_.out (by kernel_rfl)) (fun _ _ _ h => h) (Or.inl ⟨by rfl, ?_⟩) ?_ ?_
   rotate_left
   ·intro w'
    go_simp
    with_reducible rfl
   rotate_left
   ·simp only [Act.put, q1_, q2_, q3_, i64_w, i32_w]
    rfl
   refine pure_ (i := 12) (N := some 221) (v := ?_) (a' := ?_) #[T_,T_,T_,T_,T_,T_,T_,T_,T_,T_,T_,T_,T_,F_,F_,F_,F_,F_,F_,F_,F_,F_,F_,F_,F_,F_,F_] rfl rfl (any_of HT_.out (by kernel_rfl)) (fun _ _ _ h => h) (Or.inl ⟨by rfl, ?_⟩) ?_ ?_
   rotate_left
   ·intro w'
    go_simp
    with_reducible rfl
   rotate_left
   ·simp only [Act.put, q1_, q2_, q3_, i64_w, i32_w]
    rfl
   refine pure_ (i := 13) (N := some 222) (v := ?_) (a' := ?_) #[T_,T_,T_,T_,T_,T_,T_,T_,T_,T_,T_,T_,T_,T_,F_,F_,F_,F_,F_,F_,F_,F_,F_,F_,F_,F_,F_] rfl rfl (any_of HT_.out (by kernel_rfl)) (fun _ _ _ h => h) (Or.inl ⟨by rfl, ?_⟩) ?_ ?_
   rotate_left
   ·intro w'
    go_simp
    with_reducible rfl
   rotate_left
   ·simp only [Act.put, q1_, q2_, q3_, i64_w, i32_w]
    rfl
   refine pure_ (i := 14) (N := some 223) (v := ?_) (a' := ?_) #[T_,T_,T_,T_,T_,T_,T_,T_,T_,T_,T_,T_,T_,T_,T_,F_,F_,F_,F_,F_,F_,F_,F_,F_,F_,F_,F_] rfl rfl (any_of HT_.out (by kernel_rfl)) (fun _ _ _ h => h) (Or.inl ⟨by rfl, ?_⟩) ?_ ?_
   rotate_left
   ·intro w'
    go_simp
    with_reducible rfl
   rotate_left
   ·simp only [Act.put, q1_, q2_, q3_, i64_w, i32_w]
    rfl
   refine pure_ (i := 15) (N := some 224) (v := ?_) (a' := ?_) #[T_,T_,T_,T_,T_,T_,T_,T_,T_,T_,T_,T_,T_,T_,T_,T_,F_,F_,F_,F_,F_,F_,F_,F_,F_,F_,F_] rfl rfl (any_of HT_.out (by kernel_rfl)) (fun _ _ _ h => h) (Or.inl ⟨by rfl, ?_⟩) ?_ ?_
   rotate_left
   ·intro w'
    go_simp
    with_reducible rfl
   rotate_left
   ·simp only [Act.put, q1_, q2_, q3_, i64_w, i32_w]
    rfl
   refine pure_ (i := 16) (N := some 225) (v := ?_) (a' := ?_) #[T_,T_,T_,T_,T_,T_,T_,T_,T_,T_,T_,T_,T_,T_,T_,T_,T_,F_,F_,F_,F_,F_,F_,F_,F_,F_,F_] rfl rfl (any_of HT_.out (by kernel_rfl)) (fun _ _ _ h => h) (Or.inl ⟨by rfl, ?_⟩) ?_ ?_
   rotate_left
   ·intro w'
    go_simp
    with_reducible rfl
   rotate_left
   ·simp only [Act.put, q1_, q2_, q3_, i64_w, i32_w]
    rfl
   refine pure_ (i := 17) (N := some 226) (v := ?_) (a' := ?_) #[T_,T_,T_,T_,T_,T_,T_,T_,T_,T_,T_,T_,T_,T_,T_,T_,T_,T_,F_,F_,F_,F_,F_,F_,F_,F_,F_] rfl rfl (any_of HT_.out (by kernel_rfl)) (fun _ _ _ h => h) (Or.inl ⟨by rfl, ?_⟩) ?_ ?_
   rotate_left
   ·intro w'
    go_simp
    with_reducible rfl
   rotate_left
   ·simp only [Act.put, q1_, q2_, q3_, i64_w, i32_w]
    rfl
   refine pure_ (i := 19) (N := some 228) (v := ?_) (a' := ?_) #[T_,T_,T_,T_,T_,T_,T_,T_,T_,T_,T_,T_,T_,T_,T_,T_,T_,T_,F_,T_,F_,F_,F_,F_,F_,F_,F_] rfl rfl (any_of HT_.out (by kernel_rfl)) (fun _ _ _ h => h) (Or.inl ⟨by rfl, ?_⟩) ?_ ?_
   rotate_left
   ·intro w'
    go_simp
    with_reducible rfl
   rotate_left
   ·simp only [Act.put, q1_, q2_, q3_, i64_w, i32_w]
    rfl
   refine pure_ (i := 20) (N := some 229) (v := ?_) (a' := ?_) #[T_,T_,T_,T_,T_,T_,T_,T_,T_,T_,T_,T_,T_,T_,T_,T_,T_,T_,F_,T_,T_,F_,F_,F_,F_,F_,F_] rfl rfl (any_of HT_.out (by kernel_rfl)) (fun _ _ _ h => h) (Or.inl ⟨by rfl, ?_⟩) ?_ ?_
   rotate_left
   ·intro w'
    go_simp
    with_reducible rfl
   rotate_left
   ·simp only [Act.put, q1_, q2_, q3_, i64_w, i32_w]
    rfl
   refine pure_ (i := 21) (N := some 230) (v := ?_) (a' := ?_) #[T_,T_,T_,T_,T_,T_,T_,T_,T_,T_,T_,T_,T_,T_,T_,T_,T_,T_,F_,T_,T_,T_,F_,F_,F_,F_,F_] rfl rfl (any_of HT_.out (by kernel_rfl)) (fun _ _ _ h => h) (Or.inl ⟨by rfl, ?_⟩) ?_ ?_
   rotate_left
   ·intro w'
    go_simp
    with_reducible rfl
   rotate_left
   ·simp only [Act.put, q1_, q2_, q3_, i64_w, i32_w]
    rfl
   refine pure_ (i := 22) (N := some 231) (v := ?_) (a' := ?_) #[T_,T_,T_,T_,T_,T_,T_,T_,T_,T_,T_,T_,T_,T_,T_,T_,T_,T_,F_,T_,T_,T_,T_,F_,F_,F_,F_] rfl rfl (any_of HT_.out (by kernel_rfl)) (fun _ _ _ h => h) (Or.inl ⟨by rfl, ?_⟩) ?_ ?_
   rotate_left
   ·intro w'
    go_simp
    with_reducible rfl
   rotate_left
   ·simp only [Act.put, q1_, q2_, q3_, i64_w, i32_w]
    rfl
   refine take_ (i := 18) (N := some 227) (v := ?_) (a' := ?_) #[T_,T_,T_,T_,T_,T_,T_,T_,T_,T_,T_,T_,T_,T_,T_,T_,T_,T_,T_,T_,T_,T_,T_,F_,F_,F_,F_] rfl rfl (take_ofW HT_.out HW_.out (by kernel_rfl)) (fun _ _ _ h => h) (Or.inl ⟨by rfl, ?_⟩) hHeld ?_ ?_
   rotate_left
   ·rintro w' ⟨s0, s1, s2, s3, s4, s5, s6⟩
    go_simp
    with_reducible rfl
   rotate_left
   ·simp only [Act.put, q1_, q2_, q3_, i64_w, i32_w]
    rfl
   refine take_ (i := 23) (N := some 232) (v := ?_) (a' := ?_) #[T_,T_,T_,T_,T_,T_,T_,T_,T_,T_,T_,T_,T_,T_,T_,T_,T_,T_,T_,T_,T_,T_,T_,T_,F_,F_,F_] rfl rfl (take_ofW HT_.out HW_.out (by kernel_rfl)) (fun _ _ _ h => h) (Or.inl ⟨by rfl, ?_⟩) hHeld ?_ ?_
   rotate_left
   ·rintro w' ⟨s0, s1, s2, s3, s4, s5, s6⟩
    go_simp
    with_reducible rfl
   rotate_left
   ·simp only [Act.put, q1_, q2_, q3_, i64_w, i32_w]
    rfl
   refine pure_ (i := 24) (N := some 233) (v := ?_) (a' := ?_) #[T_,T_,T_,T_,T_,T_,T_,T_,T_,T_,T_,T_,T_,T_,T_,T_,T_,T_,T_,T_,T_,T_,T_,T_,T_,F_,F_] rfl rfl (any_of HT_.out (by kernel_rfl)) (fun _ _ _ h => h) (Or.inl ⟨by rfl, ?_⟩) ?_ ?_
   rotate_left
   ·intro w'
    go_simp
    with_reducible rfl
   rotate_left
   ·simp only [Act.put, q1_, q2_, q3_, i64_w, i32_w]
    rfl
   refine pure_ (i := 25) (N := some 234) (v := ?_) (a' := ?_) #[T_,T_,T_,T_,T_,T_,T_,T_,T_,T_,T_,T_,T_,T_,T_,T_,T_,T_,T_,T_,T_,T_,T_,T_,T_,T_,F_] rfl rfl (any_of HT_.out (by kernel_rfl)) (fun _ _ _ h => h) (Or.inl ⟨by rfl, ?_⟩) ?_ ?_
   rotate_left
   ·intro w'
    go_simp
    with_reducible rfl
   rotate_left
   ·simp only [Act.put, q1_, q2_, q3_, i64_w, i32_w]
    rfl
   refine pure_ (i := 26) (N := some 235) (v := ?_) (a' := ?_) #[T_,T_,T_,T_,T_,T_,T_,T_,T_,T_,T_,T_,T_,T_,T_,T_,T_,T_,T_,T_,T_,T_,T_,T_,T_,T_,T_] rfl rfl (any_of HT_.out (by kernel_rfl)) (fun _ _ _ h => h) (Or.inl ⟨by rfl, ?_⟩) ?_ ?_
   rotate_left
   ·intro w'
    go_simp
    with_reducible rfl
   rotate_left
   ·simp only [Act.put, q1_, q2_, q3_, i64_w, i32_w]
    rfl
   refine done_ (done_of HT_.out (by kernel_rfl)) ?_
   try go_wp2
   go_meet
   case rel => exact ⟨_, (decide (((rd_T47 x6_2 x17_4).f1) > ((rd_T47 x6_2 x16_4).f1))), (by first | rfl | (simp; done) | (simp [*]; done)), H', ⟨by have := HJ2.out; have := HK2.out; have := HK3.out; have := HK4.out; first | omega | exact Nat.le_refl _⟩, ⟨by (with_reducible repeat (first | apply Kd.R_alloc | apply Kd.R_drewN | apply Kd.R_drew)); exact HO_6.out⟩, ⟨by (with_reducible repeat (first | apply Kd.R_alloc | apply Kd.R_drewN | apply Kd.R_drew)); exact HO_7.out⟩, ⟨by repeat (first | (with_reducible first | exact HI135.out | apply IsS75.alloc | apply IsS75.drewN | apply IsS75.drew) | exact HI135.out)⟩, ⟨by repeat (first | (with_reducible first | exact HB.out | apply below_alloc | apply pw_below_drewN | apply below_drew1 | refine below_set ?_ (IsS75.ge HI135.out)) | exact HB.out)⟩⟩
  case rest => as_aux_lemma =>
   clear HC156
   try clear c1
   try clear c2
   try clear p2
   try clear q2
   try clear hx2
   try clear c15
   try clear c16
   try clear p20
   try clear q20
   try clear hx20
   try clear p21
   try clear q21
   try clear hx21
   try clear c26
   try clear c158
   try clear c159
   try clear c160
   try clear c162
   try clear c163
   try clear c163b0
   try clear c166
   try clear c166b0
   try clear c167
   try clear c167b0
   try clear hx207_0
   try clear hx207_1
   try clear hx208_0
   try clear hx210_0
   try clear hx210_1
   try clear hx211_0
   try clear hx211_1
   try clear p207
   try clear p208
   try clear p210
   try clear p211
   try clear q207
   try clear q208
   try clear q210
   try clear q211
   obtain ⟨kq, x235_155, rfl, HA, HJ155, HO_6, HO_7, HI135, HB⟩ := hcut
   cases kq with
   | zero => exact absurd HA.out (by simp [TR.j7])
   | succ kj155 =>
   have H := HA.out
   clear HA
   simp only [TR.j7] at H
   by_cases c172 : x235_155 = true
   ·subst c172
    have H1 : (TR.l4 kj155 l1 x6_2 x7_2 x15_3 x17_4 (wrap64 (x17_4 + 1)) x136000_3) = some r := by rw [if_pos rfl] at H; exact H
    clear H
    have H := H1
    clear H1
    have H' := Aside0.mk H
    clear H
    go_wp2
    go_roundg kj155
    case measure => have := HJ2.out; have := HK2.out; have := HK3.out; have := HK4.out; have := HJ155.out; omega
    case rel => exact ⟨(x17_4), (wrap64 (x17_4 + 1)), (by first | rfl | (simp; done) | (simp [*]; done)), (by first | rfl | (simp; done) | (simp [*]; done)), H', ⟨by have := HJ2.out; have := HK2.out; have := HK3.out; have := HK4.out; have := HJ155.out; omega⟩, ⟨by (with_reducible repeat (first | apply Kd.R_alloc | apply Kd.R_drewN | apply Kd.R_drew)); exact HO_6.out⟩, ⟨by (with_reducible repeat (first | apply Kd.R_alloc | apply Kd.R_drewN | apply Kd.R_drew)); exact HO_7.out⟩, ⟨by repeat (first | (with_reducible first | exact HI135.out | apply IsS75.alloc | apply IsS75.drewN | apply IsS75.drew) | exact HI135.out)⟩, ⟨by repeat (first | (with_reducible first | exact HB.out | apply below_alloc | apply pw_below_drewN | apply below_drew1 | refine below_set ?_ (IsS75.ge HI135.out)) | exact HB.out)⟩⟩
   replace c172 := Bool.eq_false_iff.mpr c172
   subst c172
   have H1 : (TR.l4 kj155 l1 x6_2 x7_2 x15_3 x16_4 (wrap64 (x17_4 + 1)) x136000_3) = some r := by rw [if_neg (show ¬ (false = true) by decide)] at H; exact H
   clear H
   have H := H1
   clear H1
   have H' := Aside0.mk H
   clear H
   go_wp2
   go_roundg kj155
   case measure => have := HJ2.out; have := HK2.out; have := HK3.out; have := HK4.out; have := HJ155.out; omega
   case rel => exact ⟨(x16_4), (wrap64 (x17_4 + 1)), (by first | rfl | (simp; done) | (simp [*]; done)), (by first | rfl | (simp; done) | (simp [*]; done)), H', ⟨by have := HJ2.out; have := HK2.out; have := HK3.out; have := HK4.out; have := HJ155.out; omega⟩, ⟨by (with_reducible repeat (first | apply Kd.R_alloc | apply Kd.R_drewN | apply Kd.R_drew)); exact HO_6.out⟩, ⟨by (with_reducible repeat (first | apply Kd.R_alloc | apply Kd.R_drewN | apply Kd.R_drew)); exact HO_7.out⟩, ⟨by repeat (first | (with_reducible first | exact HI135.out | apply IsS75.alloc | apply IsS75.drewN | apply IsS75.drew) | exact HI135.out)⟩, ⟨by repeat (first | (with_reducible first | exact HB.out | apply below_alloc | apply pw_below_drewN | apply below_drew1 | refine below_set ?_ (IsS75.ge HI135.out)) | exact HB.out)⟩⟩
 rw [if_neg c155] at H
 have c155b0 : decide (x17_4 < (x6_2.length : Int)) = false := decide_eq_false c155
 clear c155
 by_cases c173 : 0 ≤ x15_3
 rotate_left
 ·rw [if_neg c173] at H
  exact absurd H (by simp)
 rw [if_pos c173] at H
 have c173b0 : decide (0 ≤ x15_3) = true := decide_eq_true c173
 clear c173
 by_cases c174 : x15_3 < (l1.length : Int)
 rotate_left
 ·rw [if_neg c174] at H
  exact absurd H (by simp)
 rw [if_pos c174] at H
 have c174b0 : decide (x15_3 < (l1.length : Int)) = true := decide_eq_true c174
 clear c174
 replace H := Option.bind_eq_some_iff.mp H
 obtain ⟨⟨t213, t214, t215, t216, t217⟩, A1750, H⟩ := H
 replace H : (if (t216 != (decide (x16_4 ≥ 0))) = true then (TR.j8 k4 l1 x6_2 x7_2 x15_3 true t217) else (if t216 = true then (if 0 ≤ x16_4 then (if x16_4 < (x6_2.length : Int) then (if (!(t213 == ((rd_T47 x6_2 x16_4).f0)) || (!(t214 == ((rd_T47 x6_2 x16_4).f1)))) = true then (TR.j8 k4 l1 x6_2 x7_2 x15_3 true t217) else (if x16_4 < (x7_2.length : Int) then (if t215 = (rd x7_2 x16_4) then (TR.j8 k4 l1 x6_2 x7_2 x15_3 false t217) else (TR.j8 k4 l1 x6_2 x7_2 x15_3 true t217)) else (none))) else (none)) else (none)) else (if (!(t213 == 0) || (!(t214 == 0))) = true then (TR.j8 k4 l1 x6_2 x7_2 x15_3 true t217) else (TR.j8 k4 l1 x6_2 x7_2 x15_3 (t215 != 0) t217)))) = some r := H
 have A175 := Aside0.mk A1750
 clear A1750
 have HC176 := Aside0.mk H
 clear H
 obtain ⟨Ao177, co177, eo177⟩ := Kd.R_slice HO_6.out
 subst eo177
 have p212 : 0 ≤ (x15_3 : Int) := of_decide_eq_true (by first | (with_reducible assumption) | assumption)
 have q212 : x15_3 < (l1.length : Int) := of_decide_eq_true (by first | (with_reducible assumption) | assumption)
 obtain ⟨ad212, e212, hx212_0⟩ := Kd.at_int HR1.out x15_3 p212 q212
 cases e212
 replace hx212_0 := (HB.out.cell (World.block_lt_of_cell? w _ hx212_0)).trans hx212_0
 replace p212 := eq_true p212
 replace q212 := eq_true q212
 go_upto_region 45 with (first | ((with_reducible refine gate_callee (f := 19) rfl ?_); refine goesL_ (some 243) rfl rfl Try.func19 (by kernel_rfl) rfl #[.pointer (some ⟨g135, 0, none⟩), .int .u32 (rd l1 x15_3)] rfl (by (try simp only [List.map_toArray, List.map_cons, List.map_nil]); first | done | rfl | (simp only [List.length_drop, List.length_take]; rfl)) ?_; (with_reducible refine (trie_Trie_Find.calls g135 x136000_3 (rd l1 x15_3) t213 t214 t215 t216 t217 w _ ?side1 ?side2 A175.out).mono ?_); (case side1 => repeat (first | (with_reducible first | exact HI135.out | apply IsS75.alloc | apply IsS75.drewN | apply IsS75.drew) | exact HI135.out)); (case side2 => repeat (first | (with_reducible first | exact HB.out | apply below_alloc | apply pw_below_drewN | apply below_drew1 | refine below_set ?_ (IsS75.ge HI135.out)) | exact HB.out)); rintro e w178 ⟨rfl, hi, hb, hk⟩; refine ⟨_, rfl, ?_⟩; have n0_ := Aside0.mk (Opq.R_keep (by (with_reducible repeat (first|apply Kd.R_alloc|apply Kd.R_drewN|apply Kd.R_drew)); exact HO_6.out) hk (by decide)); have n1_ := Aside0.mk (Opq.R_keep (by (with_reducible repeat (first|apply Kd.R_alloc|apply Kd.R_drewN|apply Kd.R_drew)); exact HO_7.out) hk (by decide)); have n2_ := Aside0.mk (hb); have n3_ := Aside0.mk (hi); clear HO_6; clear HO_7; clear HB; clear HI135; have HO_6 := n0_; have HO_7 := n1_; have HB := n2_; have HI135 := n3_; clear n0_ n1_ n2_ n3_; (try clear hb); (try clear hb2); (try clear hk); (try clear hi)) | ((with_reducible refine gate_dst (N := 18) rfl ?_); (try (refine gate_guard (by rfl) ?_; dsimp only)); refine box_event ?hg (N := 18) ?hd (cs := #[.int .u32 0, .int .i64 0]) (t := 47) ?hr ?_; (case hd => rfl); (case hg => rfl); (case hr => first | (go_simp; done) | (go_simp; rfl) | (go_simp; simp [IntKind.wrap_u8, IntKind.wrap_u32]; done)); intro gb218 hg w179 hbox hb; have n0_ := Aside0.mk (Kd.R_below (Kd.R_elderB (by (with_reducible repeat (first|apply Kd.R_alloc|apply Kd.R_drewN|apply Kd.R_drew)); exact HO_6.out) gb218 (Nat.le_of_eq hg.symm)) hb); have n1_ := Aside0.mk (Kd.R_below (by (with_reducible repeat (first|apply Kd.R_alloc|apply Kd.R_drewN|apply Kd.R_drew)); exact HO_7.out) hb); have n2_ := Aside0.mk (IsS75.below (by repeat (first | (with_reducible first | exact HI135.out | apply IsS75.alloc | apply IsS75.drewN | apply IsS75.drew) | exact HI135.out)) hb); have n3_ := Aside0.mk (below_step (by repeat (first | (with_reducible first | exact HB.out | apply below_alloc | apply pw_below_drewN | apply below_drew1 | refine below_set ?_ (IsS75.ge HI135.out)) | exact HB.out)) hb); have n4_ := Aside0.mk (hbox); have n5_ := Aside0.mk ((by rw [hg]; exact (below_size (by repeat (first | (with_reducible first | exact HB.out | apply below_alloc | apply pw_below_drewN | apply below_drew1 | refine below_set ?_ (IsS75.ge HI135.out)) | exact HB.out))) : w.heap.size ≤ gb218)); have n6_ := Aside0.mk ((by rw [hg]; exact (below_size (by repeat (first | (with_reducible first | exact HB.out | apply below_alloc | apply pw_below_drewN | apply below_drew1 | refine below_set ?_ (IsS75.ge HI135.out)) | exact HB.out))) : w.heap.size ≤ gb218)); have n7_ := Aside0.mk ((by rw [hg]; exact Nat.ne_of_lt (IsS75.lt (show IsS75 w _ g135 t217 from by repeat (first | (with_reducible first | exact HI135.out | apply IsS75.alloc | apply IsS75.drewN | apply IsS75.drew) | exact HI135.out))) : g135 ≠ gb218)); have n8_ := Aside0.mk ((by rw [hg]; exact Nat.ne_of_gt (IsS75.lt (show IsS75 w _ g135 t217 from by repeat (first | (with_reducible first | exact HI135.out | apply IsS75.alloc | apply IsS75.drewN | apply IsS75.drew) | exact HI135.out))) : gb218 ≠ g135)); clear HO_6; clear HO_7; clear HI135; clear HB; have HO_6 := n0_; have HO_7 := n1_; have HI135 := n2_; have HB := n3_; have BK218 := n4_; have GW218 := n5_; have GE218 := n6_; have NB135_218 := n7_; have NB218_135 := n8_; clear n0_ n1_ n2_ n3_ n4_ n5_ n6_ n7_ n8_; clear hb hbox hg; have hnb180 := NB218_135.out; have hnc180 := NB135_218.out; have hcz181_0 : w179.cell? ⟨gb218, 0, none⟩ = some (.int .u32 0) := (blk_cell BK218.out 0).trans rfl; have hcz181_1 : w179.cell? ⟨gb218, 1, none⟩ = some (.int .i64 0) := (blk_cell BK218.out 1).trans rfl; have hfz181_0 := blk_frozen BK218.out 0; have hfz181_1 := blk_frozen BK218.out 1))
 (try simp only [Act.put, q1_, q2_, q3_])
 go_cut [282] (fun v282 wc => ∃ (kq : Nat) (x282_175 : Bool), v282 = .bool x282_175 ∧ Aside0 (TR.j8 kq l1 x6_2 x7_2 x15_3 x282_175 t217 = some r) ∧ Aside0 (kq ≤ k4) ∧ Aside0 (Kd.R k47 47 wc w.heap.size (fun k_ => k_ ≠ gb218) (.slice Ao177 x6_2.length co177) x6_2) ∧ Aside0 (Kd.R (Kd.int .i64) 3 wc w.heap.size (fun _ => True) u7 x7_2) ∧ Aside0 (wc.heap[gb218]? = some (.cells #[.int .u32 t213, .int .i64 t214] 47 (0, 0))) ∧ Aside0 (IsS75 w wc g135 t217) ∧ Aside0 (Below w.heap.size w wc))
 case first => as_aux_lemma =>
  have H := HC176.out
  clear HC176
  by_cases c182 : (t216 != (decide (x16_4 ≥ 0))) = true
  ·rw [if_pos c182] at H
   have c182b0 : (t216 != (decide (x16_4 ≥ 0))) = true := c182
   (try (have c182b1 : decide (t216 = (decide (x16_4 ≥ 0))) = false := by simpa using c182))
   (try (have c182b2 : (t216 == (decide (x16_4 ≥ 0))) = false := by simpa using c182))
   (try (have c182b3 : ¬ (t216 = (decide (x16_4 ≥ 0))) := by simpa using c182))
   clear c182
   (first | rw [c182b0] | (simp only [i64_w, i32_w]; rw [c182b0]) | skip)
   have H' := Aside0.mk H
   clear H
   try go_wp2
   have n0_ : Aside0 (Kd.R k47 47 ((w179.setCell ⟨gb218, 0, none⟩ (.int .u32 t213)).setCell ⟨gb218, 1, none⟩ (.int .i64 t214)) w.heap.size (fun k_ => k_ ≠ gb218) (.slice Ao177 x6_2.length co177) x6_2) := ⟨by (with_reducible repeat (first | apply Kd.R_alloc | apply Kd.R_drewN | apply Kd.R_drew)); exact Kd.R_mono (Kd.R_far (p := ⟨gb218, 1, none⟩) (Kd.R_far (p := ⟨gb218, 0, none⟩) (Kd.R_mono HO_6.out (fun k_ hk => (⟨hk, hk.2⟩ : _ ∧ k_ ≠ gb218))) (fun _ hk => hk.2) (.int .u32 t213)) (fun _ hk => hk.2) (.int .i64 t214)) (fun _ hk => hk.1.2)⟩
   have n1_ : Aside0 (Kd.R (Kd.int .i64) 3 ((w179.setCell ⟨gb218, 0, none⟩ (.int .u32 t213)).setCell ⟨gb218, 1, none⟩ (.int .i64 t214)) w.heap.size (fun _ => True) u7 x7_2) := ⟨by (with_reducible repeat (first | apply Kd.R_alloc | apply Kd.R_drewN | apply Kd.R_drew)); exact Kd.R_mono (Kd.R_far (p := ⟨gb218, 1, none⟩) (Kd.R_far (p := ⟨gb218, 0, none⟩) (Kd.R_types HO_7.out BK218.out (by decide)) (fun _ hk => hk.2) (.int .u32 t213)) (fun _ hk => hk.2) (.int .i64 t214)) (fun _ hk => trivial)⟩
   have n2_ : Aside0 (((w179.setCell ⟨gb218, 0, none⟩ (.int .u32 t213)).setCell ⟨gb218, 1, none⟩ (.int .i64 t214)).heap[gb218]? = some (.cells #[.int .u32 t213, .int .i64 t214] 47 (0, 0))) := ⟨by (with_reducible repeat (first | refine blk_drewN ?_ _ | refine blk_drew ?_ | refine blk_alloc ?_ _)); refine blk_put (cs := #[.int .u32 t213, .int .i64 0]) ?_ 1 _ rfl; (with_reducible repeat (first | refine blk_drewN ?_ _ | refine blk_drew ?_ | refine blk_alloc ?_ _)); refine blk_put (cs := #[.int .u32 0, .int .i64 0]) ?_ 0 _ rfl; (with_reducible repeat (first | refine blk_drewN ?_ _ | refine blk_drew ?_ | refine blk_alloc ?_ _)); exact BK218.out⟩
   have n3_ : Aside0 (IsS75 w ((w179.setCell ⟨gb218, 0, none⟩ (.int .u32 t213)).setCell ⟨gb218, 1, none⟩ (.int .i64 t214)) g135 t217) := ⟨by repeat (first | (with_reducible first | exact HI135.out | apply IsS75.alloc | apply IsS75.drewN | apply IsS75.drew | refine IsS75.far ?_ (by (repeat (first | exact (Opq.NP.blk BK218.out (by decide)) | (with_reducible apply Opq.NP.setCell) | (with_reducible apply Opq.NP.drewN) | (with_reducible apply Opq.NP.drew) | (with_reducible apply Opq.NP.alloc))); done) _) | exact HI135.out)⟩
   have n4_ : Aside0 (Below w.heap.size w ((w179.setCell ⟨gb218, 0, none⟩ (.int .u32 t213)).setCell ⟨gb218, 1, none⟩ (.int .i64 t214))) := ⟨by repeat (first | (with_reducible first | exact HB.out | apply below_alloc | apply pw_below_drewN | apply below_drew1 | refine below_set ?_ (IsS75.ge HI135.out) | refine below_set ?_ GE218.out) | exact HB.out)⟩
   (try clear HO_6)
   (try clear HO_7)
   (try clear BK218)
   (try clear HI135)
   (try clear HB)
   generalize ((w179.setCell ⟨gb218, 0, none⟩ (.int .u32 t213)).setCell ⟨gb218, 1, none⟩ (.int .i64 t214)) = w183 at n0_ n1_ n2_ n3_ n4_ ⊢
   have HO_6 := n0_; have HO_7 := n1_; have BK218 := n2_; have HI135 := n3_; have HB := n4_
   clear n0_ n1_ n2_ n3_ n4_
   have n0_ := Aside0.mk (Kd.R_drew HO_6.out)
   have n1_ := Aside0.mk (Kd.R_drew HO_7.out)
   have n2_ := Aside0.mk (blk_drew BK218.out)
   have n3_ := Aside0.mk (IsS75.drew HI135.out)
   have n4_ := Aside0.mk (below_drew1 HB.out)
   clear HO_6 HO_7 BK218 HI135 HB
   have HO_6 := n0_; have HO_7 := n1_; have BK218 := n2_; have HI135 := n3_; have HB := n4_
   clear n0_ n1_ n2_ n3_ n4_
   refine start_ (n := 36) (S := fun w' => True) (ds := []) #[F_,F_,F_,F_,F_,F_,F_,F_,F_,F_,F_,F_,F_,F_,F_,F_,F_,F_,F_,F_,F_,F_,F_,F_,F_,F_,F_,F_,F_,F_,F_,F_,F_,F_,F_,F_] (by kernel_rfl) rfl rfl trivial (fun hHeld => ?_); refine with_tabW TR.tab45 TR.bits45 (fun HT_ HW_ => ?_)
   generalize w183.drew = w184 at HO_6 HO_7 BK218 HI135 HB hHeld ⊢
   refine pure_ (i := 0) (N := some 247) (v := ?_) (a' := ?_) #[T_,F_,F_,F_,F_,F_,F_,F_,F_,F_,F_,F_,F_,F_,F_,F_,F_,F_,F_,F_,F_,F_,F_,F_,F_,F_,F_,F_,F_,F_,F_,F_,F_,F_,F_,F_] rfl rfl (any_of HT_.out (by kernel_rfl)) (fun _ _ _ h => h) (Or.inl ⟨by rfl, ?_⟩) ?_ ?_
   rotate_left
   ·intro w'
    go_simp
    with_reducible rfl
   rotate_left
   ·simp only [Act.put, q1_, q2_, q3_, i64_w, i32_w]
    rfl
   refine pure_ (i := 1) (N := some 248) (v := ?_) (a' := ?_) #[T_,T_,F_,F_,F_,F_,F_,F_,F_,F_,F_,F_,F_,F_,F_,F_,F_,F_,F_,F_,F_,F_,F_,F_,F_,F_,F_,F_,F_,F_,F_,F_,F_,F_,F_,F_] rfl rfl (any_of HT_.out (by kernel_rfl)) (fun _ _ _ h => h) (Or.inl ⟨by rfl, ?_⟩) ?_ ?_
   rotate_left
   ·intro w'
    go_simp
    with_reducible rfl
   rotate_left
   ·simp only [Act.put, q1_, q2_, q3_, i64_w, i32_w]
    rfl
   refine pure_ (i := 2) (N := some 249) (v := ?_) (a' := ?_) #[T_,T_,T_,F_,F_,F_,F_,F_,F_,F_,F_,F_,F_,F_,F_,F_,F_,F_,F_,F_,F_,F_,F_,F_,F_,F_,F_,F_,F_,F_,F_,F_,F_,F_,F_,F_] rfl rfl (any_of HT_.out (by kernel_rfl)) (fun _ _ _ h => h) (Or.inl ⟨by rfl, ?_⟩) ?_ ?_
   rotate_left
   ·intro w'
    go_simp
    with_reducible rfl
   rotate_left
   ·simp only [Act.put, q1_, q2_, q3_, i64_w, i32_w]
    rfl
   refine pure_ (i := 3) (N := some 250) (v := ?_) (a' := ?_) #[T_,T_,T_,T_,F_,F_,F_,F_,F_,F_,F_,F_,F_,F_,F_,F_,F_,F_,F_,F_,F_,F_,F_,F_,F_,F_,F_,F_,F_,F_,F_,F_,F_,F_,F_,F_] rfl rfl (any_of HT_.out (by kernel_rfl)) (fun _ _ _ h => h) (Or.inl ⟨by rfl, ?_⟩) ?_ ?_
   rotate_left
   ·intro w'
    go_simp
    with_reducible rfl
   rotate_left
   ·simp only [Act.put, q1_, q2_, q3_, i64_w, i32_w]
    rfl
   refine pure_ (i := 4) (N := some 251) (v := ?_) (a' := ?_) #[T_,T_,T_,T_,T_,F_,F_,F_,F_,F_,F_,F_,F_,F_,F_,F_,F_,F_,F_,F_,F_,F_,F_,F_,F_,F_,F_,F_,F_,F_,F_,F_,F_,F_,F_,F_] rfl rfl (any_of HT_.out (by kernel_rfl)) (fun _ _ _ h => h) (Or.inl ⟨by rfl, ?_⟩) ?_ ?_
   rotate_left
   ·intro w'
    go_simp
    with_reducible rfl
   rotate_left
   ·simp only [Act.put, q1_, q2_, q3_, i64_w, i32_w]
    rfl
   refine pure_ (i := 5) (N := some 252) (v := undef) (a' := ?_) #[T_,T_,T_,T_,T_,T_,F_,F_,F_,F_,F_,F_,F_,F_,F_,F_,F_,F_,F_,F_,F_,F_,F_,F_,F_,F_,F_,F_,F_,F_,F_,F_,F_,F_,F_,F_] rfl rfl (any_of HT_.out (by kernel_rfl)) (fun _ _ _ h => h) (Or.inr ⟨by rfl, rfl⟩) ?_ ?_
   rotate_left
   ·simp only [Act.put, q1_, q2_, q3_, i64_w, i32_w]
    rfl
   refine pure_ (i := 6) (N := some 253) (v := undef) (a' := ?_) #[T_,T_,T_,T_,T_,T_,T_,F_,F_,F_,F_,F_,F_,F_,F_,F_,F_,F_,F_,F_,F_,F_,F_,F_,F_,F_,F_,F_,F_,F_,F_,F_,F_,F_,F_,F_] rfl rfl (any_of HT_.out (by kernel_rfl)) (fun _ _ _ h => h) (Or.inr ⟨by rfl, rfl⟩) ?_ ?_
   rotate_left
   ·simp only [Act.put, q1_, q2_, q3_, i64_w, i32_w]
    rfl
   refine pure_ (i := 7) (N := some 254) (v := undef) (a' := ?_) #[T_,T_,T_,T_,T_,T_,T_,T_,F_,F_,F_,F_,F_,F_,F_,F_,F_,F_,F_,F_,F_,F_,F_,F_,F_,F_,F_,F_,F_,F_,F_,F_,F_,F_,F_,F_] rfl rfl (any_of HT_.out (by kernel_rfl)) (fun _ _ _ h => h) (Or.inr ⟨by rfl, rfl⟩) ?_ ?_
   rotate_left
   ·simp only [Act.put, q1_, q2_, q3_, i64_w, i32_w]
    rfl
   refine pure_ (i := 8) (N := some 255) (v := undef) (a' := ?_) #[T_,T_,T_,T_,T_,T_,T_,T_,T_,F_,F_,F_,F_,F_,F_,F_,F_,F_,F_,F_,F_,F_,F_,F_,F_,F_,F_,F_,F_,F_,F_,F_,F_,F_,F_,F_] rfl rfl (any_of HT_.out (by kernel_rfl)) (fun _ _ _ h => h) (Or.inr ⟨by rfl, rfl⟩) ?_ ?_
   rotate_left
   ·simp only [Act.put, q1_, q2_, q3_, i64_w, i32_w]
    rfl
   refine pure_ (i := 9) (N := some 256) (v := undef) (a' := ?_) #[T_,T_,T_,T_,T_,T_,T_,T_,T_,T_,F_,F_,F_,F_,F_,F_,F_,F_,F_,F_,F_,F_,F_,F_,F_,F_,F_,F_,F_,F_,F_,F_,F_,F_,F_,F_] rfl rfl (any_of HT_.out (by kernel_rfl)) (fun _ _ _ h => h) (Or.inr ⟨by rfl, rfl⟩) ?_ ?_
   rotate_left
   ·simp only [Act.put, q1_, q2_, q3_, i64_w, i32_w]
    rfl
   refine pure_ (i := 10) (N := some 257) (v := undef) (a' := ?_) #[T_,T_,T_,T_,T_,T_,T_,T_,T_,T_,T_,F_,F_,F_,F_,F_,F_,F_,F_,F_,F_,F_,F_,F_,F_,F_,F_,F_,F_,F_,F_,F_,F_,F_,F_,F_] rfl rfl (any_of HT_.out (by kernel_rfl)) (fun _ _ _ h => h) (Or.inr ⟨by rfl, rfl⟩) ?_ ?_
   rotate_left
   ·simp only [Act.put, q1_, q2_, q3_, i64_w, i32_w]
    rfl
   refine pure_ (i := 11) (N := some 258) (v := undef) (a' := ?_) #[T_,T_,T_,T_,T_,T_,T_,T_,T_,T_,T_,T_,F_,F_,F_,F_,F_,F_,F_,F_,F_,F_,F_,F_,F_,F_,F_,F_,F_,F_,F_,F_,F_,F_,F_,F_] rfl rfl (any_of HT_.out (by kernel_rfl)) (fun _ _ _ h => h) (Or.inr ⟨by rfl, rfl⟩) ?_ ?_
   rotate_left
   ·simp only [Act.put, q1_, q2_, q3_, i64_w, i32_w]
    rfl
   refine pure_ (i := 12) (N := some 259) (v := undef) (a' := ?_) #[T_,T_,T_,T_,T_,T_,T_,T_,T_,T_,T_,T_,T_,F_,F_,F_,F_,F_,F_,F_,F_,F_,F_,F_,F_,F_,F_,F_,F_,F_,F_,F_,F_,F_,F_,F_] rfl rfl (any_of HT_.out (by kernel_rfl)) (fun _ _ _ h => h) (Or.inr ⟨by rfl, rfl⟩) ?_ ?_
   rotate_left
   ·simp only [Act.put, q1_, q2_, q3_, i64_w, i32_w]
    rfl
   refine pure_ (i := 13) (N := some 260) (v := undef) (a' := ?_) #[T_,T_,T_,T_,T_,T_,T_,T_,T_,T_,T_,T_,T_,T_,F_,F_,F_,F_,F_,F_,F_,F_,F_,F_,F_,F_,F_,F_,F_,F_,F_,F_,F_,F_,F_,F_] rfl rfl (any_of HT_.out (by kernel_rfl)) (fun _ _ _ h => h) (Or.inr ⟨by rfl, rfl⟩) ?_ ?_
   rotate_left
   ·simp only [Act.put, q1_, q2_, q3_, i64_w, i32_w]
    rfl
   refine pure_ (i := 14) (N := some 261) (v := undef) (a' := ?_) #[T_,T_,T_,T_,T_,T_,T_,T_,T_,T_,T_,T_,T_,T_,T_,F_,F_,F_,F_,F_,F_,F_,F_,F_,F_,F_,F_,F_,F_,F_,F_,F_,F_,F_,F_,F_] rfl rfl (any_of HT_.out (by kernel_rfl)) (fun _ _ _ h => h) (Or.inr ⟨by rfl, rfl⟩) ?_ ?_
   rotate_left
   ·simp only [Act.put, q1_, q2_, q3_, i64_w, i32_w]
    rfl
   refine pure_ (i := 15) (N := some 262) (v := undef) (a' := ?_) #[T_,T_,T_,T_,T_,T_,T_,T_,T_,T_,T_,T_,T_,T_,T_,T_,F_,F_,F_,F_,F_,F_,F_,F_,F_,F_,F_,F_,F_,F_,F_,F_,F_,F_,F_,F_] rfl rfl (any_of HT_.out (by kernel_rfl)) (fun _ _ _ h => h) (Or.inr ⟨by rfl, rfl⟩) ?_ ?_
   rotate_left
   ·simp only [Act.put, q1_, q2_, q3_, i64_w, i32_w]
    rfl
   refine pure_ (i := 16) (N := some 263) (v := undef) (a' := ?_) #[T_,T_,T_,T_,T_,T_,T_,T_,T_,T_,T_,T_,T_,T_,T_,T_,T_,F_,F_,F_,F_,F_,F_,F_,F_,F_,F_,F_,F_,F_,F_,F_,F_,F_,F_,F_] rfl rfl (any_of HT_.out (by kernel_rfl)) (fun _ _ _ h => h) (Or.inr ⟨by rfl, rfl⟩) ?_ ?_
   rotate_left
   ·simp only [Act.put, q1_, q2_, q3_, i64_w, i32_w]
    rfl
   refine pure_ (i := 17) (N := some 264) (v := undef) (a' := ?_) #[T_,T_,T_,T_,T_,T_,T_,T_,T_,T_,T_,T_,T_,T_,T_,T_,T_,T_,F_,F_,F_,F_,F_,F_,F_,F_,F_,F_,F_,F_,F_,F_,F_,F_,F_,F_] rfl rfl (any_of HT_.out (by kernel_rfl)) (fun _ _ _ h => h) (Or.inr ⟨by rfl, rfl⟩) ?_ ?_
   rotate_left
   ·simp only [Act.put, q1_, q2_, q3_, i64_w, i32_w]
    rfl
   refine pure_ (i := 18) (N := some 265) (v := undef) (a' := ?_) #[T_,T_,T_,T_,T_,T_,T_,T_,T_,T_,T_,T_,T_,T_,T_,T_,T_,T_,T_,F_,F_,F_,F_,F_,F_,F_,F_,F_,F_,F_,F_,F_,F_,F_,F_,F_] rfl rfl (any_of HT_.out (by kernel_rfl)) (fun _ _ _ h => h) (Or.inr ⟨by rfl, rfl⟩) ?_ ?_
   rotate_left
   ·simp only [Act.put, q1_, q2_, q3_, i64_w, i32_w]
    rfl
   refine pure_ (i := 19) (N := some 266) (v := undef) (a' := ?_) #[T_,T_,T_,T_,T_,T_,T_,T_,T_,T_,T_,T_,T_,T_,T_,T_,T_,T_,T_,T_,F_,F_,F_,F_,F_,F_,F_,F_,F_,F_,F_,F_,F_,F_,F_,F_] rfl rfl (any_of HT_.out (by kernel_rfl)) (fun _ _ _ h => h) (Or.inr ⟨by rfl, rfl⟩) ?_ ?_
   rotate_left
   ·simp only [Act.put, q1_, q2_, q3_, i64_w, i32_w]
    rfl
   refine pure_ (i := 20) (N := some 267) (v := undef) (a' := ?_) #[T_,T_,T_,T_,T_,T_,T_,T_,T_,T_,T_,T_,T_,T_,T_,T_,T_,T_,T_,T_,T_,F_,F_,F_,F_,F_,F_,F_,F_,F_,F_,F_,F_,F_,F_,F_] rfl rfl (any_of HT_.out (by kernel_rfl)) (fun _ _ _ h => h) (Or.inr ⟨by rfl, rfl⟩) ?_ ?_
   rotate_left
   ·simp only [Act.put, q1_, q2_, q3_, i64_w, i32_w]
    rfl
   refine pure_ (i := 21) (N := some 268) (v := undef) (a' := ?_) #[T_,T_,T_,T_,T_,T_,T_,T_,T_,T_,T_,T_,T_,T_,T_,T_,T_,T_,T_,T_,T_,T_,F_,F_,F_,F_,F_,F_,F_,F_,F_,F_,F_,F_,F_,F_] rfl rfl (any_of HT_.out (by kernel_rfl)) (fun _ _ _ h => h) (Or.inr ⟨by rfl, rfl⟩) ?_ ?_
   rotate_left
   ·simp only [Act.put, q1_, q2_, q3_, i64_w, i32_w]
    rfl
   refine pure_ (i := 22) (N := some 269) (v := ?_) (a' := ?_) #[T_,T_,T_,T_,T_,T_,T_,T_,T_,T_,T_,T_,T_,T_,T_,T_,T_,T_,T_,T_,T_,T_,T_,F_,F_,F_,F_,F_,F_,F_,F_,F_,F_,F_,F_,F_] rfl rfl (any_of HT_.out (by kernel_rfl)) (fun _ _ _ h => h) (Or.inl ⟨by rfl, ?_⟩) ?_ ?_
   rotate_left
   ·intro w'
    go_simp
    with_reducible rfl
   rotate_left
   ·simp only [Act.put, q1_, q2_, q3_, i64_w, i32_w]
    rfl
   refine pure_ (i := 23) (N := some 270) (v := ?_) (a' := ?_) #[T_,T_,T_,T_,T_,T_,T_,T_,T_,T_,T_,T_,T_,T_,T_,T_,T_,T_,T_,T_,T_,T_,T_,T_,F_,F_,F_,F_,F_,F_,F_,F_,F_,F_,F_,F_] rfl rfl (any_of HT_.out (by kernel_rfl)) (fun _ _ _ h => h) (Or.inl ⟨by rfl, ?_⟩) ?_ ?_
   rotate_left
   ·intro w'
    go_simp
    with_reducible rfl
   rotate_left
   ·simp only [Act.put, q1_, q2_, q3_, i64_w, i32_w]
    rfl
   refine pure_ (i := 24) (N := some 271) (v := undef) (a' := ?_) #[T_,T_,T_,T_,T_,T_,T_,T_,T_,T_,T_,T_,T_,T_,T_,T_,T_,T_,T_,T_,T_,T_,T_,T_,T_,F_,F_,F_,F_,F_,F_,F_,F_,F_,F_,F_] rfl rfl (any_of HT_.out (by kernel_rfl)) (fun _ _ _ h => h) (Or.inr ⟨by rfl, rfl⟩) ?_ ?_
   rotate_left
   ·simp only [Act.put, q1_, q2_, q3_, i64_w, i32_w]
    rfl
   refine pure_ (i := 25) (N := some 272) (v := undef) (a' := ?_) #[T_,T_,T_,T_,T_,T_,T_,T_,T_,T_,T_,T_,T_,T_,T_,T_,T_,T_,T_,T_,T_,T_,T_,T_,T_,T_,F_,F_,F_,F_,F_,F_,F_,F_,F_,F_] rfl rfl (any_of HT_.out (by kernel_rfl)) (fun _ _ _ h => h) (Or.inr ⟨by rfl, rfl⟩) ?_ ?_
   rotate_left
   ·simp only [Act.put, q1_, q2_, q3_, i64_w, i32_w]
    rfl
   refine pure_ (i := 26) (N := some 273) (v := undef) (a' := ?_) #[T_,T_,T_,T_,T_,T_,T_,T_,T_,T_,T_,T_,T_,T_,T_,T_,T_,T_,T_,T_,T_,T_,T_,T_,T_,T_,T_,F_,F_,F_,F_,F_,F_,F_,F_,F_] rfl rfl (any_of HT_.out (by kernel_rfl)) (fun _ _ _ h => h) (Or.inr ⟨by rfl, rfl⟩) ?_ ?_
   rotate_left
   ·simp only [Act.put, q1_, q2_, q3_, i64_w, i32_w]
    rfl
   refine pure_ (i := 27) (N := some 274) (v := undef) (a' := ?_) #[T_,T_,T_,T_,T_,T_,T_,T_,T_,T_,T_,T_,T_,T_,T_,T_,T_,T_,T_,T_,T_,T_,T_,T_,T_,T_,T_,T_,F_,F_,F_,F_,F_,F_,F_,F_] rfl rfl (any_of HT_.out (by kernel_rfl)) (fun _ _ _ h => h) (Or.inr ⟨by rfl, rfl⟩) ?_ ?_
   rotate_left
   ·simp only [Act.put, q1_, q2_, q3_, i64_w, i32_w]
    rfl
   refine pure_ (i := 28) (N := some 275) (v := undef) (a' := ?_) #[T_,T_,T_,T_,T_,T_,T_,T_,T_,T_,T_,T_,T_,T_,T_,T_,T_,T_,T_,T_,T_,T_,T_,T_,T_,T_,T_,T_,T_,F_,F_,F_,F_,F_,F_,F_] rfl rfl (any_of HT_.out (by kernel_rfl)) (fun _ _ _ h => h) (Or.inr ⟨by rfl, rfl⟩) ?_ ?_
   rotate_left
   ·simp only [Act.put, q1_, q2_, q3_, i64_w, i32_w]
    rfl
   refine pure_ (i := 29) (N := some 276) (v := undef) (a' := ?_) #[T_,T_,T_,T_,T_,T_,T_,T_,T_,T_,T_,T_,T_,T_,T_,T_,T_,T_,T_,T_,T_,T_,T_,T_,T_,T_,T_,T_,T_,T_,F_,F_,F_,F_,F_,F_] rfl rfl (any_of HT_.out (by kernel_rfl)) (fun _ _ _ h => h) (Or.inr ⟨by rfl, rfl⟩) ?_ ?_
   rotate_left
   ·simp only [Act.put, q1_, q2_, q3_, i64_w, i32_w]
    rfl
   refine pure_ (i := 30) (N := some 277) (v := undef) (a' := ?_) #[T_,T_,T_,T_,T_,T_,T_,T_,T_,T_,T_,T_,T_,T_,T_,T_,T_,T_,T_,T_,T_,T_,T_,T_,T_,T_,T_,T_,T_,T_,T_,F_,F_,F_,F_,F_] rfl rfl (any_of HT_.out (by kernel_rfl)) (fun _ _ _ h => h) (Or.inr ⟨by rfl, rfl⟩) ?_ ?_
   rotate_left
   ·simp only [Act.put, q1_, q2_, q3_, i64_w, i32_w]
    rfl
   refine pure_ (i := 31) (N := some 278) (v := undef) (a' := ?_) #[T_,T_,T_,T_,T_,T_,T_,T_,T_,T_,T_,T_,T_,T_,T_,T_,T_,T_,T_,T_,T_,T_,T_,T_,T_,T_,T_,T_,T_,T_,T_,T_,F_,F_,F_,F_] rfl rfl (any_of HT_.out (by kernel_rfl)) (fun _ _ _ h => h) (Or.inr ⟨by rfl, rfl⟩) ?_ ?_
   rotate_left
   ·simp only [Act.put, q1_, q2_, q3_, i64_w, i32_w]
    rfl
   refine pure_ (i := 32) (N := some 279) (v := undef) (a' := ?_) #[T_,T_,T_,T_,T_,T_,T_,T_,T_,T_,T_,T_,T_,T_,T_,T_,T_,T_,T_,T_,T_,T_,T_,T_,T_,T_,T_,T_,T_,T_,T_,T_,T_,F_,F_,F_] rfl rfl (any_of HT_.out (by kernel_rfl)) (fun _ _ _ h => h) (Or.inr ⟨by rfl, rfl⟩) ?_ ?_
   rotate_left
   ·simp only [Act.put, q1_, q2_, q3_, i64_w, i32_w]
    rfl
   refine pure_ (i := 33) (N := some 280) (v := undef) (a' := ?_) #[T_,T_,T_,T_,T_,T_,T_,T_,T_,T_,T_,T_,T_,T_,T_,T_,T_,T_,T_,T_,T_,T_,T_,T_,T_,T_,T_,T_,T_,T_,T_,T_,T_,T_,F_,F_] rfl rfl (any_of HT_.out (by kernel_rfl)) (fun _ _ _ h => h) (Or.inr ⟨by rfl, rfl⟩) ?_ ?_
   rotate_left
   ·simp only [Act.put, q1_, q2_, q3_, i64_w, i32_w]
    rfl
   refine pure_ (i := 34) (N := some 281) (v := undef) (a' := ?_) #[T_,T_,T_,T_,T_,T_,T_,T_,T_,T_,T_,T_,T_,T_,T_,T_,T_,T_,T_,T_,T_,T_,T_,T_,T_,T_,T_,T_,T_,T_,T_,T_,T_,T_,T_,F_] rfl rfl (any_of HT_.out (by kernel_rfl)) (fun _ _ _ h => h) (Or.inr ⟨by rfl, rfl⟩) ?_ ?_
   rotate_left
   ·simp only [Act.put, q1_, q2_, q3_, i64_w, i32_w]
    rfl
   refine pure_ (i := 35) (N := some 282) (v := ?_) (a' := ?_) #[T_,T_,T_,T_,T_,T_,T_,T_,T_,T_,T_,T_,T_,T_,T_,T_,T_,T_,T_,T_,T_,T_,T_,T_,T_,T_,T_,T_,T_,T_,T_,T_,T_,T_,T_,T_] rfl rfl (any_of HT_.out (by kernel_rfl)) (fun _ _ _ h => h) (Or.inl ⟨by rfl, ?_⟩) ?_ ?_
   rotate_left
   ·intro w'
    go_simp
    with_reducible rfl
   rotate_left
   ·simp only [Act.put, q1_, q2_, q3_, i64_w, i32_w]
    rfl
   refine done_ (done_of HT_.out (by kernel_rfl)) ?_
   try go_wp2
   go_meet
   case rel => exact ⟨_, (true), (by first | rfl | (simp; done) | (simp [*]; done)), H', ⟨by have := HJ2.out; have := HK2.out; have := HK3.out; have := HK4.out; first | omega | exact Nat.le_refl _⟩, ⟨by (with_reducible repeat (first | apply Kd.R_alloc | apply Kd.R_drewN | apply Kd.R_drew)); exact HO_6.out⟩, ⟨by (with_reducible repeat (first | apply Kd.R_alloc | apply Kd.R_drewN | apply Kd.R_drew)); exact HO_7.out⟩, ⟨by (with_reducible repeat (first | refine blk_drewN ?_ _ | refine blk_drew ?_ | refine blk_alloc ?_ _)); exact BK218.out⟩, ⟨by repeat (first | (with_reducible first | exact HI135.out | apply IsS75.alloc | apply IsS75.drewN | apply IsS75.drew | refine IsS75.far ?_ (by (repeat (first | exact (Opq.NP.blk BK218.out (by decide)) | (with_reducible apply Opq.NP.setCell) | (with_reducible apply Opq.NP.drewN) | (with_reducible apply Opq.NP.drew) | (with_reducible apply Opq.NP.alloc))); done) _) | exact HI135.out)⟩, ⟨by repeat (first | (with_reducible first | exact HB.out | apply below_alloc | apply pw_below_drewN | apply below_drew1 | refine below_set ?_ (IsS75.ge HI135.out) | refine below_set ?_ GE218.out) | exact HB.out)⟩⟩
  rw [if_neg c182] at H
  have c182b0 : (t216 != (decide (x16_4 ≥ 0))) = false := by simpa using c182
  (try (have c182b1 : decide (t216 = (decide (x16_4 ≥ 0))) = true := by simpa using c182))
  (try (have c182b2 : (t216 == (decide (x16_4 ≥ 0))) = true := by simpa using c182))
  clear c182
  (first | rw [c182b0] | (simp only [i64_w, i32_w]; rw [c182b0]) | skip)
  by_cases c185 : t216 = true
  rotate_left
  ·replace c185 := Bool.eq_false_iff.mpr c185
   subst c185
   have H1 : (if (!(t213 == 0) || (!(t214 == 0))) = true then (TR.j8 k4 l1 x6_2 x7_2 x15_3 true t217) else (TR.j8 k4 l1 x6_2 x7_2 x15_3 (t215 != 0) t217)) = some r := by rw [if_neg (show ¬ (false = true) by decide)] at H; exact H
   clear H
   have H := H1
   clear H1
   by_cases c199 : (!(t213 == 0) || (!(t214 == 0))) = true
   ·rw [if_pos c199] at H
    have c199b0 : (!(t213 == 0) || (!(t214 == 0))) = true := c199
    clear c199
    have H' := Aside0.mk H
    clear H
    try go_wp2
    have n0_ : Aside0 (Kd.R k47 47 ((w179.setCell ⟨gb218, 0, none⟩ (.int .u32 t213)).setCell ⟨gb218, 1, none⟩ (.int .i64 t214)) w.heap.size (fun k_ => k_ ≠ gb218) (.slice Ao177 x6_2.length co177) x6_2) := ⟨by (with_reducible repeat (first | apply Kd.R_alloc | apply Kd.R_drewN | apply Kd.R_drew)); exact Kd.R_mono (Kd.R_far (p := ⟨gb218, 1, none⟩) (Kd.R_far (p := ⟨gb218, 0, none⟩) (Kd.R_mono HO_6.out (fun k_ hk => (⟨hk, hk.2⟩ : _ ∧ k_ ≠ gb218))) (fun _ hk => hk.2) (.int .u32 t213)) (fun _ hk => hk.2) (.int .i64 t214)) (fun _ hk => hk.1.2)⟩
    have n1_ : Aside0 (Kd.R (Kd.int .i64) 3 ((w179.setCell ⟨gb218, 0, none⟩ (.int .u32 t213)).setCell ⟨gb218, 1, none⟩ (.int .i64 t214)) w.heap.size (fun _ => True) u7 x7_2) := ⟨by (with_reducible repeat (first | apply Kd.R_alloc | apply Kd.R_drewN | apply Kd.R_drew)); exact Kd.R_mono (Kd.R_far (p := ⟨gb218, 1, none⟩) (Kd.R_far (p := ⟨gb218, 0, none⟩) (Kd.R_types HO_7.out BK218.out (by decide)) (fun _ hk => hk.2) (.int .u32 t213)) (fun _ hk => hk.2) (.int .i64 t214)) (fun _ hk => trivial)⟩
    have n2_ : Aside0 (((w179.setCell ⟨gb218, 0, none⟩ (.int .u32 t213)).setCell ⟨gb218, 1, none⟩ (.int .i64 t214)).heap[gb218]? = some (.cells #[.int .u32 t213, .int .i64 t214] 47 (0, 0))) := ⟨by (with_reducible repeat (first | refine blk_drewN ?_ _ | refine blk_drew ?_ | refine blk_alloc ?_ _)); refine blk_put (cs := #[.int .u32 t213, .int .i64 0]) ?_ 1 _ rfl; (with_reducible repeat (first | refine blk_drewN ?_ _ | refine blk_drew ?_ | refine blk_alloc ?_ _)); refine blk_put (cs := #[.int .u32 0, .int .i64 0]) ?_ 0 _ rfl; (with_reducible repeat (first | refine blk_drewN ?_ _ | refine blk_drew ?_ | refine blk_alloc ?_ _)); exact BK218.out⟩
    have n3_ : Aside0 (IsS75 w ((w179.setCell ⟨gb218, 0, none⟩ (.int .u32 t213)).setCell ⟨gb218, 1, none⟩ (.int .i64 t214)) g135 t217) := ⟨by repeat (first | (with_reducible first | exact HI135.out | apply IsS75.alloc | apply IsS75.drewN | apply IsS75.drew | refine IsS75.far ?_ (by (repeat (first | exact (Opq.NP.blk BK218.out (by decide)) | (with_reducible apply Opq.NP.setCell) | (with_reducible apply Opq.NP.drewN) | (with_reducible apply Opq.NP.drew) | (with_reducible apply Opq.NP.alloc))); done) _) | exact HI135.out)⟩
    have n4_ : Aside0 (Below w.heap.size w ((w179.setCell ⟨gb218, 0, none⟩ (.int .u32 t213)).setCell ⟨gb218, 1, none⟩ (.int .i64 t214))) := ⟨by repeat (first | (with_reducible first | exact HB.out | apply below_alloc | apply pw_below_drewN | apply below_drew1 | refine below_set ?_ (IsS75.ge HI135.out) | refine below_set ?_ GE218.out) | exact HB.out)⟩
    (try clear HO_6)
    (try clear HO_7)
    (try clear BK218)
    (try clear HI135)
    (try clear HB)
    generalize ((w179.setCell ⟨gb218, 0, none⟩ (.int .u32 t213)).setCell ⟨gb218, 1, none⟩ (.int .i64 t214)) = w200 at n0_ n1_ n2_ n3_ n4_ ⊢
    have HO_6 := n0_; have HO_7 := n1_; have BK218 := n2_; have HI135 := n3_; have HB := n4_
    clear n0_ n1_ n2_ n3_ n4_
    obtain ⟨hs0_, hs1_⟩ : w200.cell? ⟨gb218, 0, none⟩ = some (.int .u32 t213) ∧ w200.cell? ⟨gb218, 1, none⟩ = some (.int .i64 t214) := ⟨(blk_cell BK218.out 0).trans rfl, (blk_cell BK218.out 1).trans rfl⟩
    go_quiet (fail)
    try go_wp2
    go_meet
    case rel => exact ⟨_, (true), (by first | rfl | (simp; done) | (simp [*]; done)), H', ⟨by have := HJ2.out; have := HK2.out; have := HK3.out; have := HK4.out; first | omega | exact Nat.le_refl _⟩, ⟨by (with_reducible repeat (first | apply Kd.R_alloc | apply Kd.R_drewN | apply Kd.R_drew)); exact HO_6.out⟩, ⟨by (with_reducible repeat (first | apply Kd.R_alloc | apply Kd.R_drewN | apply Kd.R_drew)); exact HO_7.out⟩, ⟨by (with_reducible repeat (first | refine blk_drewN ?_ _ | refine blk_drew ?_ | refine blk_alloc ?_ _)); exact BK218.out⟩, ⟨by repeat (first | (with_reducible first | exact HI135.out | apply IsS75.alloc | apply IsS75.drewN | apply IsS75.drew | refine IsS75.far ?_ (by (repeat (first | exact (Opq.NP.blk BK218.out (by decide)) | (with_reducible apply Opq.NP.setCell) | (with_reducible apply Opq.NP.drewN) | (with_reducible apply Opq.NP.drew) | (with_reducible apply Opq.NP.alloc))); done) _) | exact HI135.out)⟩, ⟨by repeat (first | (with_reducible first | exact HB.out | apply below_alloc | apply pw_below_drewN | apply below_drew1 | refine below_set ?_ (IsS75.ge HI135.out) | refine below_set ?_ GE218.out) | exact HB.out)⟩⟩
   rw [if_neg c199] at H
   have c199b0 : (!(t213 == 0) || (!(t214 == 0))) = false := by simpa using c199
   clear c199
   have H' := Aside0.mk H
   clear H
   try go_wp2
   have n0_ : Aside0 (Kd.R k47 47 ((w179.setCell ⟨gb218, 0, none⟩ (.int .u32 t213)).setCell ⟨gb218, 1, none⟩ (.int .i64 t214)) w.heap.size (fun k_ => k_ ≠ gb218) (.slice Ao177 x6_2.length co177) x6_2) := ⟨by (with_reducible repeat (first | apply Kd.R_alloc | apply Kd.R_drewN | apply Kd.R_drew)); exact Kd.R_mono (Kd.R_far (p := ⟨gb218, 1, none⟩) (Kd.R_far (p := ⟨gb218, 0, none⟩) (Kd.R_mono HO_6.out (fun k_ hk => (⟨hk, hk.2⟩ : _ ∧ k_ ≠ gb218))) (fun _ hk => hk.2) (.int .u32 t213)) (fun _ hk => hk.2) (.int .i64 t214)) (fun _ hk => hk.1.2)⟩
   have n1_ : Aside0 (Kd.R (Kd.int .i64) 3 ((w179.setCell ⟨gb218, 0, none⟩ (.int .u32 t213)).setCell ⟨gb218, 1, none⟩ (.int .i64 t214)) w.heap.size (fun _ => True) u7 x7_2) := ⟨by (with_reducible repeat (first | apply Kd.R_alloc | apply Kd.R_drewN | apply Kd.R_drew)); exact Kd.R_mono (Kd.R_far (p := ⟨gb218, 1, none⟩) (Kd.R_far (p := ⟨gb218, 0, none⟩) (Kd.R_types HO_7.out BK218.out (by decide)) (fun _ hk => hk.2) (.int .u32 t213)) (fun _ hk => hk.2) (.int .i64 t214)) (fun _ hk => trivial)⟩
   have n2_ : Aside0 (((w179.setCell ⟨gb218, 0, none⟩ (.int .u32 t213)).setCell ⟨gb218, 1, none⟩ (.int .i64 t214)).heap[gb218]? = some (.cells #[.int .u32 t213, .int .i64 t214] 47 (0, 0))) := ⟨by (with_reducible repeat (first | refine blk_drewN ?_ _ | refine blk_drew ?_ | refine blk_alloc ?_ _)); refine blk_put (cs := #[.int .u32 t213, .int .i64 0]) ?_ 1 _ rfl; (with_reducible repeat (first | refine blk_drewN ?_ _ | refine blk_drew ?_ | refine blk_alloc ?_ _)); refine blk_put (cs := #[.int .u32 0, .int .i64 0]) ?_ 0 _ rfl; (with_reducible repeat (first | refine blk_drewN ?_ _ | refine blk_drew ?_ | refine blk_alloc ?_ _)); exact BK218.out⟩
   have n3_ : Aside0 (IsS75 w ((w179.setCell ⟨gb218, 0, none⟩ (.int .u32 t213)).setCell ⟨gb218, 1, none⟩ (.int .i64 t214)) g135 t217) := ⟨by repeat (first | (with_reducible first | exact HI135.out | apply IsS75.alloc | apply IsS75.drewN | apply IsS75.drew | refine IsS75.far ?_ (by (repeat (first | exact (Opq.NP.blk BK218.out (by decide)) | (with_reducible apply Opq.NP.setCell) | (with_reducible apply Opq.NP.drewN) | (with_reducible apply Opq.NP.drew) | (with_reducible apply Opq.NP.alloc))); done) _) | exact HI135.out)⟩
   have n4_ : Aside0 (Below w.heap.size w ((w179.setCell ⟨gb218, 0, none⟩ (.int .u32 t213)).setCell ⟨gb218, 1, none⟩ (.int .i64 t214))) := ⟨by repeat (first | (with_reducible first | exact HB.out | apply below_alloc | apply pw_below_drewN | apply below_drew1 | refine below_set ?_ (IsS75.ge HI135.out) | refine below_set ?_ GE218.out) | exact HB.out)⟩
   (try clear HO_6)
   (try clear HO_7)
   (try clear BK218)
   (try clear HI135)
   (try clear HB)
   generalize ((w179.setCell ⟨gb218, 0, none⟩ (.int .u32 t213)).setCell ⟨gb218, 1, none⟩ (.int .i64 t214)) = w202 at n0_ n1_ n2_ n3_ n4_ ⊢
   have HO_6 := n0_; have HO_7 := n1_; have BK218 := n2_; have HI135 := n3_; have HB := n4_
   clear n0_ n1_ n2_ n3_ n4_
   obtain ⟨hs0_, hs1_⟩ : w202.cell? ⟨gb218, 0, none⟩ = some (.int .u32 t213) ∧ w202.cell? ⟨gb218, 1, none⟩ = some (.int .i64 t214) := ⟨(blk_cell BK218.out 0).trans rfl, (blk_cell BK218.out 1).trans rfl⟩
   go_quiet (fail)
   try go_wp2
   go_meet
   case rel => exact ⟨_, ((t215 != 0)), (by first | rfl | (simp; done) | (simp [*]; done)), H', ⟨by have := HJ2.out; have := HK2.out; have := HK3.out; have := HK4.out; first | omega | exact Nat.le_refl _⟩, ⟨by (with_reducible repeat (first | apply Kd.R_alloc | apply Kd.R_drewN | apply Kd.R_drew)); exact HO_6.out⟩, ⟨by (with_reducible repeat (first | apply Kd.R_alloc | apply Kd.R_drewN | apply Kd.R_drew)); exact HO_7.out⟩, ⟨by (with_reducible repeat (first | refine blk_drewN ?_ _ | refine blk_drew ?_ | refine blk_alloc ?_ _)); exact BK218.out⟩, ⟨by repeat (first | (with_reducible first | exact HI135.out | apply IsS75.alloc | apply IsS75.drewN | apply IsS75.drew | refine IsS75.far ?_ (by (repeat (first | exact (Opq.NP.blk BK218.out (by decide)) | (with_reducible apply Opq.NP.setCell) | (with_reducible apply Opq.NP.drewN) | (with_reducible apply Opq.NP.drew) | (with_reducible apply Opq.NP.alloc))); done) _) | exact HI135.out)⟩, ⟨by repeat (first | (with_reducible first | exact HB.out | apply below_alloc | apply pw_below_drewN | apply below_drew1 | refine below_set ?_ (IsS75.ge HI135.out) | refine below_set ?_ GE218.out) | exact HB.out)⟩⟩
  subst c185
  have H1 : (if 0 ≤ x16_4 then (if x16_4 < (x6_2.length : Int) then (if (!(t213 == ((rd_T47 x6_2 x16_4).f0)) || (!(t214 == ((rd_T47 x6_2 x16_4).f1)))) = true then (TR.j8 k4 l1 x6_2 x7_2 x15_3 true t217) else (if x16_4 < (x7_2.length : Int) then (if t215 = (rd x7_2 x16_4) then (TR.j8 k4 l1 x6_2 x7_2 x15_3 false t217) else (TR.j8 k4 l1 x6_2 x7_2 x15_3 true t217)) else (none))) else (none)) else (none)) = some r := by rw [if_pos rfl] at H; exact H
  clear H
  have H := H1
  clear H1
  by_cases c186 : 0 ≤ x16_4
  rotate_left
  ·rw [if_neg c186] at H
   exact absurd H (by simp)
  rw [if_pos c186] at H
  have c186b0 : decide (0 ≤ x16_4) = true := decide_eq_true c186
  clear c186
  by_cases c187 : x16_4 < (x6_2.length : Int)
  rotate_left
  ·rw [if_neg c187] at H
   exact absurd H (by simp)
  rw [if_pos c187] at H
  have c187b0 : decide (x16_4 < (x6_2.length : Int)) = true := decide_eq_true c187
  clear c187
  by_cases c188 : (!(t213 == ((rd_T47 x6_2 x16_4).f0)) || (!(t214 == ((rd_T47 x6_2 x16_4).f1)))) = true
  ·rw [if_pos c188] at H
   have c188b0 : (!(t213 == ((rd_T47 x6_2 x16_4).f0)) || (!(t214 == ((rd_T47 x6_2 x16_4).f1)))) = true := c188
   clear c188
   have H' := Aside0.mk H
   clear H
   try go_wp2
   have n0_ : Aside0 (Kd.R k47 47 ((w179.setCell ⟨gb218, 0, none⟩ (.int .u32 t213)).setCell ⟨gb218, 1, none⟩ (.int .i64 t214)) w.heap.size (fun k_ => k_ ≠ gb218) (.slice Ao177 x6_2.length co177) x6_2) := ⟨by (with_reducible repeat (first | apply Kd.R_alloc | apply Kd.R_drewN | apply Kd.R_drew)); exact Kd.R_mono (Kd.R_far (p := ⟨gb218, 1, none⟩) (Kd.R_far (p := ⟨gb218, 0, none⟩) (Kd.R_mono HO_6.out (fun k_ hk => (⟨hk, hk.2⟩ : _ ∧ k_ ≠ gb218))) (fun _ hk => hk.2) (.int .u32 t213)) (fun _ hk => hk.2) (.int .i64 t214)) (fun _ hk => hk.1.2)⟩
   have n1_ : Aside0 (Kd.R (Kd.int .i64) 3 ((w179.setCell ⟨gb218, 0, none⟩ (.int .u32 t213)).setCell ⟨gb218, 1, none⟩ (.int .i64 t214)) w.heap.size (fun _ => True) u7 x7_2) := ⟨by (with_reducible repeat (first | apply Kd.R_alloc | apply Kd.R_drewN | apply Kd.R_drew)); exact Kd.R_mono (Kd.R_far (p := ⟨gb218, 1, none⟩) (Kd.R_far (p := ⟨gb218, 0, none⟩) (Kd.R_types HO_7.out BK218.out (by decide)) (fun _ hk => hk.2) (.int .u32 t213)) (fun _ hk => hk.2) (.int .i64 t214)) (fun _ hk => trivial)⟩
   have n2_ : Aside0 (((w179.setCell ⟨gb218, 0, none⟩ (.int .u32 t213)).setCell ⟨gb218, 1, none⟩ (.int .i64 t214)).heap[gb218]? = some (.cells #[.int .u32 t213, .int .i64 t214] 47 (0, 0))) := ⟨by (with_reducible repeat (first | refine blk_drewN ?_ _ | refine blk_drew ?_ | refine blk_alloc ?_ _)); refine blk_put (cs := #[.int .u32 t213, .int .i64 0]) ?_ 1 _ rfl; (with_reducible repeat (first | refine blk_drewN ?_ _ | refine blk_drew ?_ | refine blk_alloc ?_ _)); refine blk_put (cs := #[.int .u32 0, .int .i64 0]) ?_ 0 _ rfl; (with_reducible repeat (first | refine blk_drewN ?_ _ | refine blk_drew ?_ | refine blk_alloc ?_ _)); exact BK218.out⟩
   have n3_ : Aside0 (IsS75 w ((w179.setCell ⟨gb218, 0, none⟩ (.int .u32 t213)).setCell ⟨gb218, 1, none⟩ (.int .i64 t214)) g135 t217) := ⟨by repeat (first | (with_reducible first | exact HI135.out | apply IsS75.alloc | apply IsS75.drewN | apply IsS75.drew | refine IsS75.far ?_ (by (repeat (first | exact (Opq.NP.blk BK218.out (by decide)) | (with_reducible apply Opq.NP.setCell) | (with_reducible apply Opq.NP.drewN) | (with_reducible apply Opq.NP.drew) | (with_reducible apply Opq.NP.alloc))); done) _) | exact HI135.out)⟩
   have n4_ : Aside0 (Below w.heap.size w ((w179.setCell ⟨gb218, 0, none⟩ (.int .u32 t213)).setCell ⟨gb218, 1, none⟩ (.int .i64 t214))) := ⟨by repeat (first | (with_reducible first | exact HB.out | apply below_alloc | apply pw_below_drewN | apply below_drew1 | refine below_set ?_ (IsS75.ge HI135.out) | refine below_set ?_ GE218.out) | exact HB.out)⟩
   (try clear HO_6)
   (try clear HO_7)
   (try clear BK218)
   (try clear HI135)
   (try clear HB)
   generalize ((w179.setCell ⟨gb218, 0, none⟩ (.int .u32 t213)).setCell ⟨gb218, 1, none⟩ (.int .i64 t214)) = w189 at n0_ n1_ n2_ n3_ n4_ ⊢
   have HO_6 := n0_; have HO_7 := n1_; have BK218 := n2_; have HI135 := n3_; have HB := n4_
   clear n0_ n1_ n2_ n3_ n4_
   have p219 : 0 ≤ (x16_4 : Int) := of_decide_eq_true (by first | (with_reducible assumption) | assumption)
   have q219 : x16_4 < (x6_2.length : Int) := of_decide_eq_true (by first | (with_reducible assumption) | assumption)
   obtain ⟨ad219, e219, hx219_0, hx219_1⟩ := at_T47 (Kd.R_reads' HO_6.out).2.2 x16_4 p219 q219
   cases e219
   replace p219 := eq_true p219
   replace q219 := eq_true q219
   obtain ⟨hs0_, hs1_, hs2_, hs3_⟩ : w189.cell? ⟨gb218, 0, none⟩ = some (.int .u32 t213) ∧ w189.cell? ⟨gb218, 1, none⟩ = some (.int .i64 t214) ∧ w189.cell? (ad219.add ((x16_4).toNat * 2)) = some (.int .u32 ((rd_T47 x6_2 x16_4).f0)) ∧ w189.cell? ⟨(ad219.add ((x16_4).toNat * 2)).block, (ad219.add ((x16_4).toNat * 2)).off + 1, none⟩ = some (.int .i64 ((rd_T47 x6_2 x16_4).f1)) := ⟨(blk_cell BK218.out 0).trans rfl, (blk_cell BK218.out 1).trans rfl, hx219_0, hx219_1⟩
   go_quiet (fail)
   try go_wp2
   go_meet
   case rel => exact ⟨_, (true), (by first | rfl | (simp; done) | (simp [*]; done)), H', ⟨by have := HJ2.out; have := HK2.out; have := HK3.out; have := HK4.out; first | omega | exact Nat.le_refl _⟩, ⟨by (with_reducible repeat (first | apply Kd.R_alloc | apply Kd.R_drewN | apply Kd.R_drew)); exact HO_6.out⟩, ⟨by (with_reducible repeat (first | apply Kd.R_alloc | apply Kd.R_drewN | apply Kd.R_drew)); exact HO_7.out⟩, ⟨by (with_reducible repeat (first | refine blk_drewN ?_ _ | refine blk_drew ?_ | refine blk_alloc ?_ _)); exact BK218.out⟩, ⟨by repeat (first | (with_reducible first | exact HI135.out | apply IsS75.alloc | apply IsS75.drewN | apply IsS75.drew | refine IsS75.far ?_ (by (repeat (first | exact (Opq.NP.blk BK218.out (by decide)) | (with_reducible apply Opq.NP.setCell) | (with_reducible apply Opq.NP.drewN) | (with_reducible apply Opq.NP.drew) | (with_reducible apply Opq.NP.alloc))); done) _) | exact HI135.out)⟩, ⟨by repeat (first | (with_reducible first | exact HB.out | apply below_alloc | apply pw_below_drewN | apply below_drew1 | refine below_set ?_ (IsS75.ge HI135.out) | refine below_set ?_ GE218.out) | exact HB.out)⟩⟩
  rw [if_neg c188] at H
  have c188b0 : (!(t213 == ((rd_T47 x6_2 x16_4).f0)) || (!(t214 == ((rd_T47 x6_2 x16_4).f1)))) = false := by simpa using c188
  clear c188
  by_cases c191 : x16_4 < (x7_2.length : Int)
  rotate_left
  ·rw [if_neg c191] at H
   exact absurd H (by simp)
  rw [if_pos c191] at H
  have c191b0 : decide (x16_4 < (x7_2.length : Int)) = true := decide_eq_true c191
  clear c191
  by_cases c192 : t215 = (rd x7_2 x16_4)
  rotate_left
  ·rw [if_neg c192] at H
   have c192b0 : (t215 == (rd x7_2 x16_4)) = false := beq_eq_false_iff_ne.mpr c192
   have c192b1 : (t215 != (rd x7_2 x16_4)) = true := bne_iff_ne.mpr c192
   have H' := Aside0.mk H
   clear H
   try go_wp2
   have n0_ : Aside0 (Kd.R k47 47 ((w179.setCell ⟨gb218, 0, none⟩ (.int .u32 t213)).setCell ⟨gb218, 1, none⟩ (.int .i64 t214)) w.heap.size (fun k_ => k_ ≠ gb218) (.slice Ao177 x6_2.length co177) x6_2) := ⟨by (with_reducible repeat (first | apply Kd.R_alloc | apply Kd.R_drewN | apply Kd.R_drew)); exact Kd.R_mono (Kd.R_far (p := ⟨gb218, 1, none⟩) (Kd.R_far (p := ⟨gb218, 0, none⟩) (Kd.R_mono HO_6.out (fun k_ hk => (⟨hk, hk.2⟩ : _ ∧ k_ ≠ gb218))) (fun _ hk => hk.2) (.int .u32 t213)) (fun _ hk => hk.2) (.int .i64 t214)) (fun _ hk => hk.1.2)⟩
   have n1_ : Aside0 (Kd.R (Kd.int .i64) 3 ((w179.setCell ⟨gb218, 0, none⟩ (.int .u32 t213)).setCell ⟨gb218, 1, none⟩ (.int .i64 t214)) w.heap.size (fun _ => True) u7 x7_2) := ⟨by (with_reducible repeat (first | apply Kd.R_alloc | apply Kd.R_drewN | apply Kd.R_drew)); exact Kd.R_mono (Kd.R_far (p := ⟨gb218, 1, none⟩) (Kd.R_far (p := ⟨gb218, 0, none⟩) (Kd.R_types HO_7.out BK218.out (by decide)) (fun _ hk => hk.2) (.int .u32 t213)) (fun _ hk => hk.2) (.int .i64 t214)) (fun _ hk => trivial)⟩
   have n2_ : Aside0 (((w179.setCell ⟨gb218, 0, none⟩ (.int .u32 t213)).setCell ⟨gb218, 1, none⟩ (.int .i64 t214)).heap[gb218]? = some (.cells #[.int .u32 t213, .int .i64 t214] 47 (0, 0))) := ⟨by (with_reducible repeat (first | refine blk_drewN ?_ _ | refine blk_drew ?_ | refine blk_alloc ?_ _)); refine blk_put (cs := #[.int .u32 t213, .int .i64 0]) ?_ 1 _ rfl; (with_reducible repeat (first | refine blk_drewN ?_ _ | refine blk_drew ?_ | refine blk_alloc ?_ _)); refine blk_put (cs := #[.int .u32 0, .int .i64 0]) ?_ 0 _ rfl; (with_reducible repeat (first | refine blk_drewN ?_ _ | refine blk_drew ?_ | refine blk_alloc ?_ _)); exact BK218.out⟩
   have n3_ : Aside0 (IsS75 w ((w179.setCell ⟨gb218, 0, none⟩ (.int .u32 t213)).setCell ⟨gb218, 1, none⟩ (.int .i64 t214)) g135 t217) := ⟨by repeat (first | (with_reducible first | exact HI135.out | apply IsS75.alloc | apply IsS75.drewN | apply IsS75.drew | refine IsS75.far ?_ (by (repeat (first | exact (Opq.NP.blk BK218.out (by decide)) | (with_reducible apply Opq.NP.setCell) | (with_reducible apply Opq.NP.drewN) | (with_reducible apply Opq.NP.drew) | (with_reducible apply Opq.NP.alloc))); done) _) | exact HI135.out)⟩
   have n4_ : Aside0 (Below w.heap.size w ((w179.setCell ⟨gb218, 0, none⟩ (.int .u32 t213)).setCell ⟨gb218, 1, none⟩ (.int .i64 t214))) := ⟨by repeat (first | (with_reducible first | exact HB.out | apply below_alloc | apply pw_below_drewN | apply below_drew1 | refine below_set ?_ (IsS75.ge HI135.out) | refine below_set ?_ GE218.out) | exact HB.out)⟩
   (try clear HO_6)
   (try clear HO_7)
   (try clear BK218)
   (try clear HI135)
   (try clear HB)
   generalize ((w179.setCell ⟨gb218, 0, none⟩ (.int .u32 t213)).setCell ⟨gb218, 1, none⟩ (.int .i64 t214)) = w196 at n0_ n1_ n2_ n3_ n4_ ⊢
   have HO_6 := n0_; have HO_7 := n1_; have BK218 := n2_; have HI135 := n3_; have HB := n4_
   clear n0_ n1_ n2_ n3_ n4_
   have p219 : 0 ≤ (x16_4 : Int) := of_decide_eq_true (by first | (with_reducible assumption) | assumption)
   have q219 : x16_4 < (x6_2.length : Int) := of_decide_eq_true (by first | (with_reducible assumption) | assumption)
   obtain ⟨ad219, e219, hx219_0, hx219_1⟩ := at_T47 (Kd.R_reads' HO_6.out).2.2 x16_4 p219 q219
   cases e219
   replace p219 := eq_true p219
   replace q219 := eq_true q219
   obtain ⟨Ao198, co198, eo198⟩ := Kd.R_slice HO_7.out
   (first | subst eo198 | (injection eo198 with f1_ f2_ f3_; have f4_ := f1_.symm; have f5_ := f3_.symm; clear f1_ f2_ f3_; subst f4_; subst f5_))
   have p220 : 0 ≤ (x16_4 : Int) := of_decide_eq_true (by first | (with_reducible assumption) | assumption)
   have q220 : x16_4 < (x7_2.length : Int) := of_decide_eq_true (by first | (with_reducible assumption) | assumption)
   obtain ⟨ad220, e220, hx220_0⟩ := Kd.at_int (Kd.R_reads' HO_7.out).2.2 x16_4 p220 q220
   cases e220
   replace p220 := eq_true p220
   replace q220 := eq_true q220
   obtain ⟨hs0_, hs1_, hs2_, hs3_, hs4_⟩ : w196.cell? ⟨gb218, 0, none⟩ = some (.int .u32 t213) ∧ w196.cell? ⟨gb218, 1, none⟩ = some (.int .i64 t214) ∧ w196.cell? (ad219.add ((x16_4).toNat * 2)) = some (.int .u32 ((rd_T47 x6_2 x16_4).f0)) ∧ w196.cell? ⟨(ad219.add ((x16_4).toNat * 2)).block, (ad219.add ((x16_4).toNat * 2)).off + 1, none⟩ = some (.int .i64 ((rd_T47 x6_2 x16_4).f1)) ∧ w196.cell? (ad220.add (x16_4).toNat) = some (.int .i64 (rd x7_2 x16_4)) := ⟨(blk_cell BK218.out 0).trans rfl, (blk_cell BK218.out 1).trans rfl, hx219_0, hx219_1, hx220_0⟩
   go_quiet (fail)
   try go_wp2
   go_meet
   case rel => exact ⟨_, (true), (by first | rfl | (simp; done) | (simp [*]; done)), H', ⟨by have := HJ2.out; have := HK2.out; have := HK3.out; have := HK4.out; first | omega | exact Nat.le_refl _⟩, ⟨by (with_reducible repeat (first | apply Kd.R_alloc | apply Kd.R_drewN | apply Kd.R_drew)); exact HO_6.out⟩, ⟨by (with_reducible repeat (first | apply Kd.R_alloc | apply Kd.R_drewN | apply Kd.R_drew)); exact HO_7.out⟩, ⟨by (with_reducible repeat (first | refine blk_drewN ?_ _ | refine blk_drew ?_ | refine blk_alloc ?_ _)); exact BK218.out⟩, ⟨by repeat (first | (with_reducible first | exact HI135.out | apply IsS75.alloc | apply IsS75.drewN | apply IsS75.drew | refine IsS75.far ?_ (by (repeat (first | exact (Opq.NP.blk BK218.out (by decide)) | (with_reducible apply Opq.NP.setCell) | (with_reducible apply Opq.NP.drewN) | (with_reducible apply Opq.NP.drew) | (with_reducible apply Opq.NP.alloc))); done) _) | exact HI135.out)⟩, ⟨by repeat (first | (with_reducible first | exact HB.out | apply below_alloc | apply pw_below_drewN | apply below_drew1 | refine below_set ?_ (IsS75.ge HI135.out) | refine below_set ?_ GE218.out) | exact HB.out)⟩⟩
  rw [if_pos c192] at H
  have c192b0 : (t215 == (rd x7_2 x16_4)) = true := beq_iff_eq.mpr c192
  have c192b1 : (t215 != (rd x7_2 x16_4)) = false := bne_eq_false_iff_eq.mpr c192
  clear c192
  have H' := Aside0.mk H
  clear H
  try go_wp2
  have n0_ : Aside0 (Kd.R k47 47 ((w179.setCell ⟨gb218, 0, none⟩ (.int .u32 t213)).setCell ⟨gb218, 1, none⟩ (.int .i64 t214)) w.heap.size (fun k_ => k_ ≠ gb218) (.slice Ao177 x6_2.length co177) x6_2) := ⟨by (with_reducible repeat (first | apply Kd.R_alloc | apply Kd.R_drewN | apply Kd.R_drew)); exact Kd.R_mono (Kd.R_far (p := ⟨gb218, 1, none⟩) (Kd.R_far (p := ⟨gb218, 0, none⟩) (Kd.R_mono HO_6.out (fun k_ hk => (⟨hk, hk.2⟩ : _ ∧ k_ ≠ gb218))) (fun _ hk => hk.2) (.int .u32 t213)) (fun _ hk => hk.2) (.int .i64 t214)) (fun _ hk => hk.1.2)⟩
  have n1_ : Aside0 (Kd.R (Kd.int .i64) 3 ((w179.setCell ⟨gb218, 0, none⟩ (.int .u32 t213)).setCell ⟨gb218, 1, none⟩ (.int .i64 t214)) w.heap.size (fun _ => True) u7 x7_2) := ⟨by (with_reducible repeat (first | apply Kd.R_alloc | apply Kd.R_drewN | apply Kd.R_drew)); exact Kd.R_mono (Kd.R_far (p := ⟨gb218, 1, none⟩) (Kd.R_far (p := ⟨gb218, 0, none⟩) (Kd.R_types HO_7.out BK218.out (by decide)) (fun _ hk => hk.2) (.int .u32 t213)) (fun _ hk => hk.2) (.int .i64 t214)) (fun _ hk => trivial)⟩
  have n2_ : Aside0 (((w179.setCell ⟨gb218, 0, none⟩ (.int .u32 t213)).setCell ⟨gb218, 1, none⟩ (.int .i64 t214)).heap[gb218]? = some (.cells #[.int .u32 t213, .int .i64 t214] 47 (0, 0))) := ⟨by (with_reducible repeat (first | refine blk_drewN ?_ _ | refine blk_drew ?_ | refine blk_alloc ?_ _)); refine blk_put (cs := #[.int .u32 t213, .int .i64 0]) ?_ 1 _ rfl; (with_reducible repeat (first | refine blk_drewN ?_ _ | refine blk_drew ?_ | refine blk_alloc ?_ _)); refine blk_put (cs := #[.int .u32 0, .int .i64 0]) ?_ 0 _ rfl; (with_reducible repeat (first | refine blk_drewN ?_ _ | refine blk_drew ?_ | refine blk_alloc ?_ _)); exact BK218.out⟩
  have n3_ : Aside0 (IsS75 w ((w179.setCell ⟨gb218, 0, none⟩ (.int .u32 t213)).setCell ⟨gb218, 1, none⟩ (.int .i64 t214)) g135 t217) := ⟨by repeat (first | (with_reducible first | exact HI135.out | apply IsS75.alloc | apply IsS75.drewN | apply IsS75.drew | refine IsS75.far ?_ (by (repeat (first | exact (Opq.NP.blk BK218.out (by decide)) | (with_reducible apply Opq.NP.setCell) | (with_reducible apply Opq.NP.drewN) | (with_reducible apply Opq.NP.drew) | (with_reducible apply Opq.NP.alloc))); done) _) | exact HI135.out)⟩
  have n4_ : Aside0 (Below w.heap.size w ((w179.setCell ⟨gb218, 0, none⟩ (.int .u32 t213)).setCell ⟨gb218, 1, none⟩ (.int .i64 t214))) := ⟨by repeat (first | (with_reducible first | exact HB.out | apply below_alloc | apply pw_below_drewN | apply below_drew1 | refine below_set ?_ (IsS75.ge HI135.out) | refine below_set ?_ GE218.out) | exact HB.out)⟩
  (try clear HO_6)
  (try clear HO_7)
  (try clear BK218)
  (try clear HI135)
  (try clear HB)
  generalize ((w179.setCell ⟨gb218, 0, none⟩ (.int .u32 t213)).setCell ⟨gb218, 1, none⟩ (.int .i64 t214)) = w193 at n0_ n1_ n2_ n3_ n4_ ⊢
  have HO_6 := n0_; have HO_7 := n1_; have BK218 := n2_; have HI135 := n3_; have HB := n4_
  clear n0_ n1_ n2_ n3_ n4_
  have p219 : 0 ≤ (x16_4 : Int) := of_decide_eq_true (by first | (with_reducible assumption) | assumption)
  have q219 : x16_4 < (x6_2.length : Int) := of_decide_eq_true (by first | (with_reducible assumption) | assumption)
  obtain ⟨ad219, e219, hx219_0, hx219_1⟩ := at_T47 (Kd.R_reads' HO_6.out).2.2 x16_4 p219 q219
  cases e219
  replace p219 := eq_true p219
  replace q219 := eq_true q219
  obtain ⟨Ao195, co195, eo195⟩ := Kd.R_slice HO_7.out
  (first | subst eo195 | (injection eo195 with f1_ f2_ f3_; have f4_ := f1_.symm; have f5_ := f3_.symm; clear f1_ f2_ f3_; subst f4_; subst f5_))
  have p220 : 0 ≤ (x16_4 : Int) := of_decide_eq_true (by first | (with_reducible assumption) | assumption)
  have q220 : x16_4 < (x7_2.length : Int) := of_decide_eq_true (by first | (with_reducible assumption) | assumption)
  obtain ⟨ad220, e220, hx220_0⟩ := Kd.at_int (Kd.R_reads' HO_7.out).2.2 x16_4 p220 q220
  cases e220
  replace p220 := eq_true p220
  replace q220 := eq_true q220
  obtain ⟨hs0_, hs1_, hs2_, hs3_, hs4_⟩ : w193.cell? ⟨gb218, 0, none⟩ = some (.int .u32 t213) ∧ w193.cell? ⟨gb218, 1, none⟩ = some (.int .i64 t214) ∧ w193.cell? (ad219.add ((x16_4).toNat * 2)) = some (.int .u32 ((rd_T47 x6_2 x16_4).f0)) ∧ w193.cell? ⟨(ad219.add ((x16_4).toNat * 2)).block, (ad219.add ((x16_4).toNat * 2)).off + 1, none⟩ = some (.int .i64 ((rd_T47 x6_2 x16_4).f1)) ∧ w193.cell? (ad220.add (x16_4).toNat) = some (.int .i64 (rd x7_2 x16_4)) := ⟨(blk_cell BK218.out 0).trans rfl, (blk_cell BK218.out 1).trans rfl, hx219_0, hx219_1, hx220_0⟩
  go_quiet (fail)
  try go_wp2
  go_meet
  case rel => exact ⟨_, (false), (by first | rfl | (simp; done) | (simp [*]; done)), H', ⟨by have := HJ2.out; have := HK2.out; have := HK3.out; have := HK4.out; first | omega | exact Nat.le_refl _⟩, ⟨by (with_reducible repeat (first | apply Kd.R_alloc | apply Kd.R_drewN | apply Kd.R_drew)); exact HO_6.out⟩, ⟨by (with_reducible repeat (first | apply Kd.R_alloc | apply Kd.R_drewN | apply Kd.R_drew)); exact HO_7.out⟩, ⟨by (with_reducible repeat (first | refine blk_drewN ?_ _ | refine blk_drew ?_ | refine blk_alloc ?_ _)); exact BK218.out⟩, ⟨by repeat (first | (with_reducible first | exact HI135.out | apply IsS75.alloc | apply IsS75.drewN | apply IsS75.drew | refine IsS75.far ?_ (by (repeat (first | exact (Opq.NP.blk BK218.out (by decide)) | (with_reducible apply Opq.NP.setCell) | (with_reducible apply Opq.NP.drewN) | (with_reducible apply Opq.NP.drew) | (with_reducible apply Opq.NP.alloc))); done) _) | exact HI135.out)⟩, ⟨by repeat (first | (with_reducible first | exact HB.out | apply below_alloc | apply pw_below_drewN | apply below_drew1 | refine below_set ?_ (IsS75.ge HI135.out) | refine below_set ?_ GE218.out) | exact HB.out)⟩⟩
 case rest => as_aux_lemma =>
  clear HC176
  try clear c1
  try clear p2
  try clear c18
  try clear c19
  try clear c185
  try clear c186
  try clear c187
  try clear c191
  try clear c199
  try clear c199b0
  obtain ⟨kq, x282_175, rfl, HA, HJ175, HO_6, HO_7, BK218, HI135, HB⟩ := hcut
  cases kq with
  | zero => exact absurd HA.out (by simp [TR.j8])
  | succ kj175 =>
  have H := HA.out
  clear HA
  simp only [TR.j8] at H
  by_cases c204 : x282_175 = true
  ·subst c204
   have H1 : (some false) = some r := by rw [if_pos rfl] at H; exact H
   clear H
   have H := H1
   clear H1
   obtain rfl := Option.some.inj H
   go_wp2
   go_ret
   exact ⟨by first | rfl | (simp [errW_none, errW_some] <;> rfl) | (simp [*, errW_none, errW_some] <;> rfl), by repeat (first | (with_reducible first | exact HB.out | apply below_alloc | apply pw_below_drewN | apply below_drew1 | refine below_set ?_ (IsS75.ge HI135.out) | refine below_set ?_ GE218.out) | exact HB.out)⟩
  replace c204 := Bool.eq_false_iff.mpr c204
  subst c204
  have H1 : (TR.l3 kj175 l1 x6_2 x7_2 (wrap64 (x15_3 + 1)) t217) = some r := by rw [if_neg (show ¬ (false = true) by decide)] at H; exact H
  clear H
  have H := H1
  clear H1
  have H' := Aside0.mk H
  clear H
  go_wp2
  go_roundg kj175
  case measure => have := HJ2.out; have := HK2.out; have := HK3.out; have := HK4.out; have := HJ175.out; omega
  case rel => exact ⟨(wrap64 (x15_3 + 1)), (t217), (by first | rfl | (simp; done) | (simp [*]; done)), H', ⟨by have := HJ2.out; have := HK2.out; have := HK3.out; have := HK4.out; have := HJ175.out; omega⟩, ⟨by (with_reducible repeat (first | apply Kd.R_alloc | apply Kd.R_drewN | apply Kd.R_drew)); exact Kd.R_mono HO_6.out (fun _ hk => trivial)⟩, ⟨by (with_reducible repeat (first | apply Kd.R_alloc | apply Kd.R_drewN | apply Kd.R_drew)); exact HO_7.out⟩, ⟨by repeat (first | (with_reducible first | exact HI135.out | apply IsS75.alloc | apply IsS75.drewN | apply IsS75.drew | refine IsS75.far ?_ (by (repeat (first | exact (Opq.NP.blk BK218.out (by decide)) | (with_reducible apply Opq.NP.setCell) | (with_reducible apply Opq.NP.drewN) | (with_reducible apply Opq.NP.drew) | (with_reducible apply Opq.NP.alloc))); done) _) | exact HI135.out)⟩, ⟨by repeat (first | (with_reducible first | exact HB.out | apply below_alloc | apply pw_below_drewN | apply below_drew1 | refine below_set ?_ (IsS75.ge HI135.out) | refine below_set ?_ GE218.out) | exact HB.out)⟩⟩
end Go.Proofs.Yteheclbneoodeaa.PTriePlays
