/- A part of a printed proof: one branch of it. Conditions: none. -/
import Derived.Test.YteheclbneoodeaaPTriePlaysx0
import Derived.Test.YteheclbneoodeaaPTriePlaysx1
import Derived.Test.YteheclbneoodeaaPTriePlaysx2
import Derived.Test.YteheclbneoodeaaPTriePlaysx3
import Derived.Test.YteheclbneoodeaaPTriePlaysx4
import Derived.Test.YteheclbneoodeaaPTriePlaysy0
namespace Go.Proofs.Yteheclbneoodeaa.PTriePlays
open Go.RowKit Go.Proofs.YteheclbneoodeaaW.PrintWords Go.Proofs.YteheclbneoodeaaW.PrintLast Go.Proofs.YteheclbneoodeaaW.PrintMore
attribute [local go_sem] max2_int min2_int max_two min_two max_three min_three max_four min_four   -- for this text's walks alone
set_option linter.unusedVariables false
set_option linter.unusedSimpArgs false
attribute [local go_sem high] eqA47
set_option maxHeartbeats 8000000 in
set_option maxRecDepth 100000 in
theorem TR.branch2 : TR.part.2.1 := by
 intro k c0 l0 A1 c1 l1 r w hu62 hu47 HC0 HR1 HC1 z1_ z2_ z3_ u21 u22 u23 u24 u25 u26 u27 u29 u30 z4_ z5_ z6_ z7_ z8_ z9_ z10_ z11_ z12_ z13_ z14_ z15_ z16_ z17_ z18_ z19_ z20_ z21_ z22_ z23_ z24_ z25_ z26_ z27_ z28_ z29_ z30_ z31_ z32_ z33_ z34_ z35_ z36_ z37_ z38_ z39_ z40_ z41_ z42_ z43_ z44_ z45_ z46_ z47_ z48_ z49_ z50_ z51_ z52_ z53_ z54_ z55_ z56_ z57_ z58_ z59_ z60_ z61_ z62_ z63_ z64_ z65_ z66_ z67_ z68_ z69_ z70_ z71_ z72_ z73_ z74_ z75_ z76_ z77_ z78_ z79_ z80_ z81_ z82_ z83_ z84_ z85_ z86_ z87_ z88_ z89_ z90_ z91_ z92_ z93_ z94_ z95_ z96_ z97_ z98_ z99_ z100_ z101_ z102_ z103_ z104_ z105_ z106_ z107_ z108_ z109_ z110_ z111_ z112_ z113_ z114_ z115_ z116_ z117_ z118_ z119_ z120_ z121_ z122_ z123_ z124_ z125_ z126_ z127_ z128_ z129_ z130_ z131_ z132_ z133_ z134_ z135_ z136_ z137_ z138_ z139_ z140_ z141_ z142_ z143_ z144_ z145_ z146_ z147_ z148_ z149_ z150_ z151_ z152_ z153_ z154_ z155_ z156_ z157_ z158_ z159_ z160_ z161_ z162_ z163_ z164_ z165_ z166_ z167_ z168_ z169_ u197 u198 u199 u200 u201 u202 u203 u204 u205 u206 u207 u208 u209 u210 u211 u212 u213 u214 u215 u216 u217 u218 u219 u220 u221 u222 u223 u224 u225 u226 u227 u228 u229 u230 u231 u232 u233 u234 u235 u236 u237 u238 u239 u240 u241 u242 u243 u244 u245 u246 u247 u248 u249 u250 u251 u252 u253 u254 u255 u256 u257 u258 u259 u260 u261 u262 u263 u264 u265 u266 u267 u268 u269 u270 u271 u272 u273 u274 u275 u276 u277 u278 u279 u280 u281 u282 u283 u284 u285 u286 u287 u288 u289 kj2 HJ2 t134 A8 w9 g135 z170_ z171_ z172_ z173_ z174_ u4 u7 u9 u10 u11 u12 u13 u14 z175_ z176_ z177_ z178_ z179_ z180_ z181_ z182_ z183_ z184_ z185_ z186_ z187_ z188_ z189_ z190_ z191_ z192_ z193_ z194_ z195_ z196_ z197_ z198_ z199_ z200_ z201_ z202_ z203_ z204_ z205_ z206_ z207_ z208_ z209_ z210_ z211_ z212_ z213_ z214_ z215_ z216_ z217_ z218_ z219_ z220_ z221_ z222_ z223_ z224_ z225_ z226_ z227_ u84 z228_ z229_ z230_ z231_ z232_ z233_ z234_ z235_ z236_ z237_ z238_ z239_ z240_ z241_ z242_ z243_ z244_ z245_ z246_ z247_ z248_ z249_ z250_ z251_ z252_ z253_ z254_ z255_ z256_ z257_ z258_ z259_ z260_ z261_ z262_ z263_ z264_ z265_ z266_ z267_ z268_ z269_ z270_ z271_ z272_ z273_ z274_ z275_ z276_ z277_ z278_ z279_ z280_ z281_ z282_ z283_ z284_ z285_ z286_ z287_ z288_ z289_ z290_ z291_ z292_ z293_ z294_ z295_ z296_ z297_ z298_ z299_ z300_ z301_ z302_ z303_ z304_ z305_ z306_ z307_ z308_ z309_ z310_ z311_ z312_ z313_ z314_ z315_ z316_ z317_ z318_ z319_ z320_ z321_ z322_ z323_ z324_ z325_ z326_ z327_ z328_ z329_ z330_ z331_ z332_ z333_ z334_ z335_ z336_ z337_ z338_ z339_ z340_ z341_ x6_2 x7_2 x8_2 x136000_2 k2 z342_ HK2 ad136 HR0 z343_ z344_ z345_ gb137 w12 z346_ z347_ z348_ z349_ GW137 GE137 NB135_137 NB137_135 hnb13 hnc13 z350_ wr z351_ z352_ z353_ z354_ z355_ z356_ z357_ z358_ z359_ z360_ z361_ z362_ z363_ z364_ z365_ z366_ x10_3 x11_3 k3 z367_ HK3 t139 t140 t141 A22 Ao24 co24 z368_ z369_ hnb25 hnc25 z370_ z371_ w27 z372_ z373_ z374_ z375_ z376_ z377_ z378_ z379_ z380_ wc u31 u32 u33 u34 u35 u36 u37 u38 u39 u40 u41 u42 u43 u44 u45 u46 u47 u48 u49 u50 u51 u52 u53 u54 u55 u56 u57 u58 u59 u60 u61 u62 u63 u64 u65 u66 u67 u68 u69 u70 u71 u72 u73 u74 u75 u76 u77 u78 u79 u80 u81 u82 u83 u85 u86 u87 u88 u89 u90 u91 u92 u93 u94 u95 u96 u97 u98 u99 u100 u101 u102 u103 u104 u105 u106 u107 u108 u109 u110 u111 u112 u113 u114 u115 u116 u117 u118 u119 u120 u121 u122 u123 u124 u125 u126 u127 u128 u129 u130 u131 u132 u133 u134 u135 u136 u137 u138 u139 u140 u141 u142 u143 u144 u145 u146 u147 u148 u149 u150 u151 u152 u153 u154 u155 u156 u157 u158 u159 u160 u161 u162 u163 u164 u165 u166 u167 u168 u169 u170 u171 u172 u173 u174 u175 u176 u177 u178 u179 u180 u181 u182 u183 u184 u185 u186 u187 u188 u189 u190 u191 u192 u193 u194 u195 u196 HO_6 HO_7 BK137 HI135 HB kj22 HJ22 H c36
 rw [if_pos c36] at H
 have c36b0 : ((rd_T62 l0 x8_2).f0) = true := c36
 clear c36
 replace H := Option.bind_eq_some_iff.mp H
 obtain ⟨⟨t143, t144⟩, A370, H⟩ := H
 replace H : (if (t143 != (decide (x10_3 ≥ 0))) = true then (some false) else (if x10_3 ≥ 0 then ((some (([] : List (S47)) : List (S47))).bind fun y145 => (if 0 ≤ x10_3 then (if x10_3 ≤ (x6_2.length : Int) then ((some (x6_2.take (x10_3 : Int).toNat : List (S47))).bind fun y148 => (if y145.length + y148.length < 8796093022208 then ((some (y145 ++ y148 : List (S47))).bind fun y152 => (if 0 ≤ (wrap64 (x10_3 + 1)) then (if (wrap64 (x10_3 + 1)) ≤ (x6_2.length : Int) then ((some (x6_2.drop ((wrap64 (x10_3 + 1)) : Int).toNat : List (S47))).bind fun y155 => (if y152.length + y155.length < 8796093022208 then ((some (([] : List Int) : List Int)).bind fun y162 => (if x10_3 ≤ (x7_2.length : Int) then ((some (x7_2.take (x10_3 : Int).toNat : List Int)).bind fun y165 => (if y162.length + y165.length < 17592186044416 then ((some (y162 ++ y165 : List Int)).bind fun y169 => (if (wrap64 (x10_3 + 1)) ≤ (x7_2.length : Int) then ((some (x7_2.drop ((wrap64 (x10_3 + 1)) : Int).toNat : List Int)).bind fun y172 => (if y169.length + y172.length < 17592186044416 then (TR.l0 kj22 l0 l1 (y152 ++ y155) (y169 ++ y172) (wrap64 (x8_2 + 1)) t144) else (none))) else (none))) else (none))) else (none))) else (none))) else (none)) else (none))) else (none))) else (none)) else (none))) else (TR.l0 kj22 l0 l1 x6_2 x7_2 (wrap64 (x8_2 + 1)) t144))) = some r := H
 have A37 := Aside0.mk A370
 clear A370
 by_cases c38 : (t143 != (decide (x10_3 ≥ 0))) = true
 ·rw [if_pos c38] at H
  have c38b0 : (t143 != (decide (x10_3 ≥ 0))) = true := c38
  (try (have c38b1 : decide (t143 = (decide (x10_3 ≥ 0))) = false := by simpa using c38))
  (try (have c38b2 : (t143 == (decide (x10_3 ≥ 0))) = false := by simpa using c38))
  (try (have c38b3 : ¬ (t143 = (decide (x10_3 ≥ 0))) := by simpa using c38))
  clear c38
  obtain rfl := Option.some.inj H
  have hnb39 := NB137_135.out
  have hnc39 := NB135_137.out
  have hcz40_0 : wc.cell? ⟨gb137, 0, none⟩ = some (.bool ((rd_T62 l0 x8_2).f0)) := (blk_cell BK137.out 0).trans rfl
  have hcz40_1 : wc.cell? ⟨gb137, 1, none⟩ = some (.int .u32 ((rd_T62 l0 x8_2).f1.f0)) := (blk_cell BK137.out 1).trans rfl
  have hcz40_2 : wc.cell? ⟨gb137, 2, none⟩ = some (.int .i64 ((rd_T62 l0 x8_2).f1.f1)) := (blk_cell BK137.out 2).trans rfl
  have hcz40_3 : wc.cell? ⟨gb137, 3, none⟩ = some (.int .i64 ((rd_T62 l0 x8_2).f2)) := (blk_cell BK137.out 3).trans rfl
  have hfz40_0 := blk_frozen BK137.out 0
  have hfz40_1 := blk_frozen BK137.out 1
  have hfz40_2 := blk_frozen BK137.out 2
  have hfz40_3 := blk_frozen BK137.out 3
  go_wp2_with (first | ((with_reducible refine gate_callee (f := 23) rfl ?_); refine goesL_ (some 90) rfl rfl Try.func23 (by kernel_rfl) rfl #[.pointer (some ⟨g135, 0, none⟩), .agg #[.int .u32 ((rd_T62 l0 x8_2).f1.f0), .int .i64 ((rd_T62 l0 x8_2).f1.f1)]] rfl (by (try simp only [List.map_toArray, List.map_cons, List.map_nil]); first | done | rfl | (simp only [List.length_drop, List.length_take]; rfl)) ?_; (with_reducible refine (trie_Trie_Drop.calls g135 t141 ((rd_T62 l0 x8_2).f1.f0) ((rd_T62 l0 x8_2).f1.f1) t143 t144 w _ ?side1 ?side2 A37.out).mono ?_); (case side1 => repeat (first | (with_reducible first | exact HI135.out | apply IsS75.alloc | apply IsS75.drewN | apply IsS75.drew | refine IsS75.far ?_ (by (repeat (first | exact (Opq.NP.blk BK137.out (by decide)) | (with_reducible apply Opq.NP.setCell) | (with_reducible apply Opq.NP.drewN) | (with_reducible apply Opq.NP.drew) | (with_reducible apply Opq.NP.alloc))); done) _) | exact HI135.out)); (case side2 => repeat (first | (with_reducible first | exact HB.out | apply below_alloc | apply pw_below_drewN | apply below_drew1 | refine below_set ?_ (IsS75.ge HI135.out) | refine below_set ?_ GE137.out) | exact HB.out)); rintro e w41 ⟨rfl, hi, hb, hk⟩; refine ⟨_, rfl, ?_⟩; have n0_ := Aside0.mk (Opq.R_keep (by (with_reducible repeat (first|apply Kd.R_alloc|apply Kd.R_drewN|apply Kd.R_drew)); exact HO_6.out) hk (by decide)); have n1_ := Aside0.mk (Opq.R_keep (by (with_reducible repeat (first|apply Kd.R_alloc|apply Kd.R_drewN|apply Kd.R_drew)); exact HO_7.out) hk (by decide)); have n2_ := Aside0.mk (Opq.KeepO.blk2 hk (g := gb137) (o := .cells #[.bool ((rd_T62 l0 x8_2).f0), .int .u32 ((rd_T62 l0 x8_2).f1.f0), .int .i64 ((rd_T62 l0 x8_2).f1.f1), .int .i64 ((rd_T62 l0 x8_2).f2)] 62 (0, 0)) (by (with_reducible repeat (first | refine blk_drewN ?_ _ | refine blk_drew ?_ | refine blk_alloc ?_ _)); exact BK137.out) (by rfl)); have n3_ := Aside0.mk (hb); have n4_ := Aside0.mk (hi); clear HO_6; clear HO_7; clear BK137; clear HB; clear HI135; have HO_6 := n0_; have HO_7 := n1_; have BK137 := n2_; have HB := n3_; have HI135 := n4_; clear n0_ n1_ n2_ n3_ n4_; (try clear hb); (try clear hb2); (try clear hk); (try clear hi)))
  go_ret
  exact ⟨by first | rfl | (simp [errW_none, errW_some] <;> rfl) | (simp [*, errW_none, errW_some] <;> rfl), by repeat (first | (with_reducible first | exact HB.out | apply below_alloc | apply pw_below_drewN | apply below_drew1 | refine below_set ?_ (IsS75.ge HI135.out) | refine below_set ?_ GE137.out) | exact HB.out)⟩
 rw [if_neg c38] at H
 have c38b0 : (t143 != (decide (x10_3 ≥ 0))) = false := by simpa using c38
 (try (have c38b1 : decide (t143 = (decide (x10_3 ≥ 0))) = true := by simpa using c38))
 (try (have c38b2 : (t143 == (decide (x10_3 ≥ 0))) = true := by simpa using c38))
 clear c38
 by_cases c42 : x10_3 ≥ 0
 rotate_left
 ·rw [if_neg c42] at H
  have c42b0 : decide (0 ≤ x10_3) = false := decide_eq_false c42
  obtain rfl : t143 = false := by
   have e_ := c38b0
   rw [show decide (x10_3 ≥ 0) = false from c42b0] at e_
   cases t143 <;> first | rfl | exact absurd e_ (by decide)
  clear c42
  have H' := Aside0.mk H
  clear H
  have hnb74 := NB137_135.out
  have hnc74 := NB135_137.out
  have hcz75_0 : wc.cell? ⟨gb137, 0, none⟩ = some (.bool ((rd_T62 l0 x8_2).f0)) := (blk_cell BK137.out 0).trans rfl
  have hcz75_1 : wc.cell? ⟨gb137, 1, none⟩ = some (.int .u32 ((rd_T62 l0 x8_2).f1.f0)) := (blk_cell BK137.out 1).trans rfl
  have hcz75_2 : wc.cell? ⟨gb137, 2, none⟩ = some (.int .i64 ((rd_T62 l0 x8_2).f1.f1)) := (blk_cell BK137.out 2).trans rfl
  have hcz75_3 : wc.cell? ⟨gb137, 3, none⟩ = some (.int .i64 ((rd_T62 l0 x8_2).f2)) := (blk_cell BK137.out 3).trans rfl
  have hfz75_0 := blk_frozen BK137.out 0
  have hfz75_1 := blk_frozen BK137.out 1
  have hfz75_2 := blk_frozen BK137.out 2
  have hfz75_3 := blk_frozen BK137.out 3
  go_wp2_with (first | ((with_reducible refine gate_callee (f := 23) rfl ?_); refine goesL_ (some 90) rfl rfl Try.func23 (by kernel_rfl) rfl #[.pointer (some ⟨g135, 0, none⟩), .agg #[.int .u32 ((rd_T62 l0 x8_2).f1.f0), .int .i64 ((rd_T62 l0 x8_2).f1.f1)]] rfl (by (try simp only [List.map_toArray, List.map_cons, List.map_nil]); first | done | rfl | (simp only [List.length_drop, List.length_take]; rfl)) ?_; (with_reducible refine (trie_Trie_Drop.calls g135 t141 ((rd_T62 l0 x8_2).f1.f0) ((rd_T62 l0 x8_2).f1.f1) false t144 w _ ?side1 ?side2 A37.out).mono ?_); (case side1 => repeat (first | (with_reducible first | exact HI135.out | apply IsS75.alloc | apply IsS75.drewN | apply IsS75.drew | refine IsS75.far ?_ (by (repeat (first | exact (Opq.NP.blk BK137.out (by decide)) | (with_reducible apply Opq.NP.setCell) | (with_reducible apply Opq.NP.drewN) | (with_reducible apply Opq.NP.drew) | (with_reducible apply Opq.NP.alloc))); done) _) | exact HI135.out)); (case side2 => repeat (first | (with_reducible first | exact HB.out | apply below_alloc | apply pw_below_drewN | apply below_drew1 | refine below_set ?_ (IsS75.ge HI135.out) | refine below_set ?_ GE137.out) | exact HB.out)); rintro e w76 ⟨rfl, hi, hb, hk⟩; refine ⟨_, rfl, ?_⟩; have n0_ := Aside0.mk (Opq.R_keep (by (with_reducible repeat (first|apply Kd.R_alloc|apply Kd.R_drewN|apply Kd.R_drew)); exact HO_6.out) hk (by decide)); have n1_ := Aside0.mk (Opq.R_keep (by (with_reducible repeat (first|apply Kd.R_alloc|apply Kd.R_drewN|apply Kd.R_drew)); exact HO_7.out) hk (by decide)); have n2_ := Aside0.mk (Opq.KeepO.blk2 hk (g := gb137) (o := .cells #[.bool ((rd_T62 l0 x8_2).f0), .int .u32 ((rd_T62 l0 x8_2).f1.f0), .int .i64 ((rd_T62 l0 x8_2).f1.f1), .int .i64 ((rd_T62 l0 x8_2).f2)] 62 (0, 0)) (by (with_reducible repeat (first | refine blk_drewN ?_ _ | refine blk_drew ?_ | refine blk_alloc ?_ _)); exact BK137.out) (by rfl)); have n3_ := Aside0.mk (hb); have n4_ := Aside0.mk (hi); clear HO_6; clear HO_7; clear BK137; clear HB; clear HI135; have HO_6 := n0_; have HO_7 := n1_; have BK137 := n2_; have HB := n3_; have HI135 := n4_; clear n0_ n1_ n2_ n3_ n4_; (try clear hb); (try clear hb2); (try clear hk); (try clear hi)))
  go_roundg kj22
  case measure => have := HJ2.out; have := HK2.out; have := HK3.out; have := HJ22.out; omega
  case rel => exact ⟨(x6_2), (x7_2), (wrap64 (x8_2 + 1)), (t144), (by first | rfl | (simp; done) | (simp [*]; done)), H', ⟨by have := HJ2.out; have := HK2.out; have := HK3.out; have := HJ22.out; omega⟩, ⟨by (with_reducible repeat (first | apply Kd.R_alloc | apply Kd.R_drewN | apply Kd.R_drew)); exact HO_6.out⟩, ⟨by (with_reducible repeat (first | apply Kd.R_alloc | apply Kd.R_drewN | apply Kd.R_drew)); exact HO_7.out⟩, ⟨by repeat (first | (with_reducible first | exact HI135.out | apply IsS75.alloc | apply IsS75.drewN | apply IsS75.drew | refine IsS75.far ?_ (by (repeat (first | exact (Opq.NP.blk BK137.out (by decide)) | (with_reducible apply Opq.NP.setCell) | (with_reducible apply Opq.NP.drewN) | (with_reducible apply Opq.NP.drew) | (with_reducible apply Opq.NP.alloc))); done) _) | exact HI135.out)⟩, ⟨by repeat (first | (with_reducible first | exact HB.out | apply below_alloc | apply pw_below_drewN | apply below_drew1 | refine below_set ?_ (IsS75.ge HI135.out) | refine below_set ?_ GE137.out) | exact HB.out)⟩⟩
 rw [if_pos c42] at H
 have c42b0 : decide (0 ≤ x10_3) = true := decide_eq_true c42
 obtain rfl : t143 = true := by
  have e_ := c38b0
  rw [show decide (x10_3 ≥ 0) = true from c42b0] at e_
  cases t143 <;> first | rfl | exact absurd e_ (by decide)
 clear c42
 obtain ⟨y145, hy145⟩ : ∃ y_ : List (S47), y_ = (([] : List (S47))) := ⟨_, rfl⟩
 replace H : (if 0 ≤ x10_3 then (if x10_3 ≤ (x6_2.length : Int) then ((some (x6_2.take (x10_3 : Int).toNat : List (S47))).bind fun y148 => (if y145.length + y148.length < 8796093022208 then ((some (y145 ++ y148 : List (S47))).bind fun y152 => (if 0 ≤ (wrap64 (x10_3 + 1)) then (if (wrap64 (x10_3 + 1)) ≤ (x6_2.length : Int) then ((some (x6_2.drop ((wrap64 (x10_3 + 1)) : Int).toNat : List (S47))).bind fun y155 => (if y152.length + y155.length < 8796093022208 then ((some (([] : List Int) : List Int)).bind fun y162 => (if x10_3 ≤ (x7_2.length : Int) then ((some (x7_2.take (x10_3 : Int).toNat : List Int)).bind fun y165 => (if y162.length + y165.length < 17592186044416 then ((some (y162 ++ y165 : List Int)).bind fun y169 => (if (wrap64 (x10_3 + 1)) ≤ (x7_2.length : Int) then ((some (x7_2.drop ((wrap64 (x10_3 + 1)) : Int).toNat : List Int)).bind fun y172 => (if y169.length + y172.length < 17592186044416 then (TR.l0 kj22 l0 l1 (y152 ++ y155) (y169 ++ y172) (wrap64 (x8_2 + 1)) t144) else (none))) else (none))) else (none))) else (none))) else (none))) else (none)) else (none))) else (none))) else (none)) else (none)) = some r := by first | (rw [hy145]; with_reducible exact H) | (have H2_ := (Option.bind_some _ _).symm.trans H; rw [hy145]; with_reducible exact H2_) | (have H2_ := (Option.bind_some _ _).symm.trans H; with_reducible exact H2_) | with_reducible exact H | (rw [hy145]; exact H) | exact H
 have Ny145 := Aside0.mk hy145
 clear hy145
 by_cases c43 : 0 ≤ x10_3
 rotate_left
 ·rw [if_neg c43] at H
  exact absurd H (by simp)
 rw [if_pos c43] at H
 have c43b0 := eq_true c43
 have c43b1 : decide (0 ≤ x10_3) = true := decide_eq_true c43
 clear c43
 by_cases c44 : x10_3 ≤ (x6_2.length : Int)
 rotate_left
 ·rw [if_neg c44] at H
  exact absurd H (by simp)
 rw [if_pos c44] at H
 have c44b0 := eq_true c44
 have c44b1 : decide (x10_3 ≤ (x6_2.length : Int)) = true := decide_eq_true c44
 clear c44
 obtain ⟨y148, hy148⟩ : ∃ y_ : List (S47), y_ = (x6_2.take (x10_3 : Int).toNat) := ⟨_, rfl⟩
 replace H : (if y145.length + y148.length < 8796093022208 then ((some (y145 ++ y148 : List (S47))).bind fun y152 => (if 0 ≤ (wrap64 (x10_3 + 1)) then (if (wrap64 (x10_3 + 1)) ≤ (x6_2.length : Int) then ((some (x6_2.drop ((wrap64 (x10_3 + 1)) : Int).toNat : List (S47))).bind fun y155 => (if y152.length + y155.length < 8796093022208 then ((some (([] : List Int) : List Int)).bind fun y162 => (if x10_3 ≤ (x7_2.length : Int) then ((some (x7_2.take (x10_3 : Int).toNat : List Int)).bind fun y165 => (if y162.length + y165.length < 17592186044416 then ((some (y162 ++ y165 : List Int)).bind fun y169 => (if (wrap64 (x10_3 + 1)) ≤ (x7_2.length : Int) then ((some (x7_2.drop ((wrap64 (x10_3 + 1)) : Int).toNat : List Int)).bind fun y172 => (if y169.length + y172.length < 17592186044416 then (TR.l0 kj22 l0 l1 (y152 ++ y155) (y169 ++ y172) (wrap64 (x8_2 + 1)) t144) else (none))) else (none))) else (none))) else (none))) else (none))) else (none)) else (none))) else (none)) = some r := by first | (rw [hy148]; with_reducible exact H) | (have H2_ := (Option.bind_some _ _).symm.trans H; rw [hy148]; with_reducible exact H2_) | (have H2_ := (Option.bind_some _ _).symm.trans H; with_reducible exact H2_) | with_reducible exact H | (rw [hy148]; exact H) | exact H
 have Ny148 := Aside0.mk hy148
 clear hy148
 by_cases c45 : y145.length + y148.length < 8796093022208
 rotate_left
 ·rw [if_neg c45] at H
  exact absurd H (by simp)
 rw [if_pos c45] at H
 have LMc45 := Aside0.mk c45
 clear c45
 obtain ⟨y152, hy152⟩ : ∃ y_ : List (S47), y_ = (y145 ++ y148) := ⟨_, rfl⟩
 replace H : (if 0 ≤ (wrap64 (x10_3 + 1)) then (if (wrap64 (x10_3 + 1)) ≤ (x6_2.length : Int) then ((some (x6_2.drop ((wrap64 (x10_3 + 1)) : Int).toNat : List (S47))).bind fun y155 => (if y152.length + y155.length < 8796093022208 then ((some (([] : List Int) : List Int)).bind fun y162 => (if x10_3 ≤ (x7_2.length : Int) then ((some (x7_2.take (x10_3 : Int).toNat : List Int)).bind fun y165 => (if y162.length + y165.length < 17592186044416 then ((some (y162 ++ y165 : List Int)).bind fun y169 => (if (wrap64 (x10_3 + 1)) ≤ (x7_2.length : Int) then ((some (x7_2.drop ((wrap64 (x10_3 + 1)) : Int).toNat : List Int)).bind fun y172 => (if y169.length + y172.length < 17592186044416 then (TR.l0 kj22 l0 l1 (y152 ++ y155) (y169 ++ y172) (wrap64 (x8_2 + 1)) t144) else (none))) else (none))) else (none))) else (none))) else (none))) else (none)) else (none)) = some r := by first | (rw [hy152]; with_reducible exact H) | (have H2_ := (Option.bind_some _ _).symm.trans H; rw [hy152]; with_reducible exact H2_) | (have H2_ := (Option.bind_some _ _).symm.trans H; with_reducible exact H2_) | with_reducible exact H | (rw [hy152]; exact H) | exact H
 have Ny152 := Aside0.mk hy152
 clear hy152
 obtain ⟨ji46, hji46⟩ : ∃ j_ : Int, (wrap64 (x10_3 + 1)) = j_ := ⟨_, rfl⟩
 replace H : (if 0 ≤ (ji46) then (if (ji46) ≤ (x6_2.length : Int) then ((some (x6_2.drop ((ji46) : Int).toNat : List (S47))).bind fun y155 => (if y152.length + y155.length < 8796093022208 then ((some (([] : List Int) : List Int)).bind fun y162 => (if x10_3 ≤ (x7_2.length : Int) then ((some (x7_2.take (x10_3 : Int).toNat : List Int)).bind fun y165 => (if y162.length + y165.length < 17592186044416 then ((some (y162 ++ y165 : List Int)).bind fun y169 => (if (ji46) ≤ (x7_2.length : Int) then ((some (x7_2.drop ((ji46) : Int).toNat : List Int)).bind fun y172 => (if y169.length + y172.length < 17592186044416 then (TR.l0 kj22 l0 l1 (y152 ++ y155) (y169 ++ y172) (wrap64 (x8_2 + 1)) t144) else (none))) else (none))) else (none))) else (none))) else (none))) else (none)) else (none)) = some r := by first | (rw [hji46] at H; exact H) | (simp only [hji46] at H ⊢; exact H)
 (try rw [hji46] at A37)
 have hji46w : (IntKind.i64.wrap (x10_3 + 1)) = ji46 := (i64_w _).trans hji46
 by_cases c47 : 0 ≤ (ji46)
 rotate_left
 ·rw [if_neg c47] at H
  exact absurd H (by simp)
 rw [if_pos c47] at H
 have c47b0 := eq_true c47
 have c47b1 : decide (0 ≤ (ji46)) = true := decide_eq_true c47
 clear c47
 by_cases c48 : (ji46) ≤ (x6_2.length : Int)
 rotate_left
 ·rw [if_neg c48] at H
  exact absurd H (by simp)
 rw [if_pos c48] at H
 have c48b0 := eq_true c48
 have c48b1 : decide ((ji46) ≤ (x6_2.length : Int)) = true := decide_eq_true c48
 clear c48
 obtain ⟨y155, hy155⟩ : ∃ y_ : List (S47), y_ = (x6_2.drop ((ji46) : Int).toNat) := ⟨_, rfl⟩
 replace H : (if y152.length + y155.length < 8796093022208 then ((some (([] : List Int) : List Int)).bind fun y162 => (if x10_3 ≤ (x7_2.length : Int) then ((some (x7_2.take (x10_3 : Int).toNat : List Int)).bind fun y165 => (if y162.length + y165.length < 17592186044416 then ((some (y162 ++ y165 : List Int)).bind fun y169 => (if (ji46) ≤ (x7_2.length : Int) then ((some (x7_2.drop ((ji46) : Int).toNat : List Int)).bind fun y172 => (if y169.length + y172.length < 17592186044416 then (TR.l0 kj22 l0 l1 (y152 ++ y155) (y169 ++ y172) (wrap64 (x8_2 + 1)) t144) else (none))) else (none))) else (none))) else (none))) else (none)) = some r := by first | (rw [hy155]; with_reducible exact H) | (have H2_ := (Option.bind_some _ _).symm.trans H; rw [hy155]; with_reducible exact H2_) | (have H2_ := (Option.bind_some _ _).symm.trans H; with_reducible exact H2_) | with_reducible exact H | (rw [hy155]; exact H) | exact H
 have Ny155 := Aside0.mk hy155
 clear hy155
 by_cases c49 : y152.length + y155.length < 8796093022208
 rotate_left
 ·rw [if_neg c49] at H
  exact absurd H (by simp)
 rw [if_pos c49] at H
 have LMc49 := Aside0.mk c49
 clear c49
 obtain ⟨y159, hy159⟩ : ∃ y_ : List (S47), y_ = (y152 ++ y155) := ⟨_, rfl⟩
 replace H : ((some (([] : List Int) : List Int)).bind fun y162 => (if x10_3 ≤ (x7_2.length : Int) then ((some (x7_2.take (x10_3 : Int).toNat : List Int)).bind fun y165 => (if y162.length + y165.length < 17592186044416 then ((some (y162 ++ y165 : List Int)).bind fun y169 => (if (ji46) ≤ (x7_2.length : Int) then ((some (x7_2.drop ((ji46) : Int).toNat : List Int)).bind fun y172 => (if y169.length + y172.length < 17592186044416 then (TR.l0 kj22 l0 l1 y159 (y169 ++ y172) (wrap64 (x8_2 + 1)) t144) else (none))) else (none))) else (none))) else (none))) = some r := by first | (rw [hy159]; with_reducible exact H) | (have H2_ := (Option.bind_some _ _).symm.trans H; rw [hy159]; with_reducible exact H2_) | (have H2_ := (Option.bind_some _ _).symm.trans H; with_reducible exact H2_) | with_reducible exact H | (rw [hy159]; exact H) | exact H
 have Ny159 := Aside0.mk hy159
 clear hy159
 obtain ⟨y162, hy162⟩ : ∃ y_ : List Int, y_ = (([] : List Int)) := ⟨_, rfl⟩
 replace H : (if x10_3 ≤ (x7_2.length : Int) then ((some (x7_2.take (x10_3 : Int).toNat : List Int)).bind fun y165 => (if y162.length + y165.length < 17592186044416 then ((some (y162 ++ y165 : List Int)).bind fun y169 => (if (ji46) ≤ (x7_2.length : Int) then ((some (x7_2.drop ((ji46) : Int).toNat : List Int)).bind fun y172 => (if y169.length + y172.length < 17592186044416 then (TR.l0 kj22 l0 l1 y159 (y169 ++ y172) (wrap64 (x8_2 + 1)) t144) else (none))) else (none))) else (none))) else (none)) = some r := by first | (rw [hy162]; with_reducible exact H) | (have H2_ := (Option.bind_some _ _).symm.trans H; rw [hy162]; with_reducible exact H2_) | (have H2_ := (Option.bind_some _ _).symm.trans H; with_reducible exact H2_) | with_reducible exact H | (rw [hy162]; exact H) | exact H
 have Ny162 := Aside0.mk hy162
 clear hy162
 have c50b0 := eq_true (of_decide_eq_true (by first | (with_reducible assumption) | assumption) : 0 ≤ x10_3)
 by_cases c51 : x10_3 ≤ (x7_2.length : Int)
 rotate_left
 ·rw [if_neg c51] at H
  exact absurd H (by simp)
 rw [if_pos c51] at H
 have c51b0 := eq_true c51
 have c51b1 : decide (x10_3 ≤ (x7_2.length : Int)) = true := decide_eq_true c51
 clear c51
 obtain ⟨y165, hy165⟩ : ∃ y_ : List Int, y_ = (x7_2.take (x10_3 : Int).toNat) := ⟨_, rfl⟩
 replace H : (if y162.length + y165.length < 17592186044416 then ((some (y162 ++ y165 : List Int)).bind fun y169 => (if (ji46) ≤ (x7_2.length : Int) then ((some (x7_2.drop ((ji46) : Int).toNat : List Int)).bind fun y172 => (if y169.length + y172.length < 17592186044416 then (TR.l0 kj22 l0 l1 y159 (y169 ++ y172) (wrap64 (x8_2 + 1)) t144) else (none))) else (none))) else (none)) = some r := by first | (rw [hy165]; with_reducible exact H) | (have H2_ := (Option.bind_some _ _).symm.trans H; rw [hy165]; with_reducible exact H2_) | (have H2_ := (Option.bind_some _ _).symm.trans H; with_reducible exact H2_) | with_reducible exact H | (rw [hy165]; exact H) | exact H
 have Ny165 := Aside0.mk hy165
 clear hy165
 by_cases c52 : y162.length + y165.length < 17592186044416
 rotate_left
 ·rw [if_neg c52] at H
  exact absurd H (by simp)
 rw [if_pos c52] at H
 have LMc52 := Aside0.mk c52
 clear c52
 obtain ⟨y169, hy169⟩ : ∃ y_ : List Int, y_ = (y162 ++ y165) := ⟨_, rfl⟩
 replace H : (if (ji46) ≤ (x7_2.length : Int) then ((some (x7_2.drop ((ji46) : Int).toNat : List Int)).bind fun y172 => (if y169.length + y172.length < 17592186044416 then (TR.l0 kj22 l0 l1 y159 (y169 ++ y172) (wrap64 (x8_2 + 1)) t144) else (none))) else (none)) = some r := by first | (rw [hy169]; with_reducible exact H) | (have H2_ := (Option.bind_some _ _).symm.trans H; rw [hy169]; with_reducible exact H2_) | (have H2_ := (Option.bind_some _ _).symm.trans H; with_reducible exact H2_) | with_reducible exact H | (rw [hy169]; exact H) | exact H
 have Ny169 := Aside0.mk hy169
 clear hy169
 have c53b0 := eq_true (of_decide_eq_true (by first | (with_reducible assumption) | assumption) : 0 ≤ (ji46))
 by_cases c54 : (ji46) ≤ (x7_2.length : Int)
 rotate_left
 ·rw [if_neg c54] at H
  exact absurd H (by simp)
 rw [if_pos c54] at H
 have c54b0 := eq_true c54
 have c54b1 : decide ((ji46) ≤ (x7_2.length : Int)) = true := decide_eq_true c54
 clear c54
 obtain ⟨y172, hy172⟩ : ∃ y_ : List Int, y_ = (x7_2.drop ((ji46) : Int).toNat) := ⟨_, rfl⟩
 replace H : (if y169.length + y172.length < 17592186044416 then (TR.l0 kj22 l0 l1 y159 (y169 ++ y172) (wrap64 (x8_2 + 1)) t144) else (none)) = some r := by first | (rw [hy172]; with_reducible exact H) | (have H2_ := (Option.bind_some _ _).symm.trans H; rw [hy172]; with_reducible exact H2_) | (have H2_ := (Option.bind_some _ _).symm.trans H; with_reducible exact H2_) | with_reducible exact H | (rw [hy172]; exact H) | exact H
 have Ny172 := Aside0.mk hy172
 clear hy172
 by_cases c55 : y169.length + y172.length < 17592186044416
 rotate_left
 ·rw [if_neg c55] at H
  exact absurd H (by simp)
 rw [if_pos c55] at H
 have LMc55 := Aside0.mk c55
 clear c55
 obtain ⟨y176, hy176⟩ : ∃ y_ : List Int, y_ = (y169 ++ y172) := ⟨_, rfl⟩
 replace H : (TR.l0 kj22 l0 l1 y159 y176 (wrap64 (x8_2 + 1)) t144) = some r := by first | (rw [hy176]; with_reducible exact H) | (have H2_ := (Option.bind_some _ _).symm.trans H; rw [hy176]; with_reducible exact H2_) | (have H2_ := (Option.bind_some _ _).symm.trans H; with_reducible exact H2_) | with_reducible exact H | (rw [hy176]; exact H) | exact H
 have Ny176 := Aside0.mk hy176
 clear hy176
 have H' := Aside0.mk H
 clear H
 have hnb56 := NB137_135.out
 have hnc56 := NB135_137.out
 have hcz57_0 : wc.cell? ⟨gb137, 0, none⟩ = some (.bool ((rd_T62 l0 x8_2).f0)) := (blk_cell BK137.out 0).trans rfl
 have hcz57_1 : wc.cell? ⟨gb137, 1, none⟩ = some (.int .u32 ((rd_T62 l0 x8_2).f1.f0)) := (blk_cell BK137.out 1).trans rfl
 have hcz57_2 : wc.cell? ⟨gb137, 2, none⟩ = some (.int .i64 ((rd_T62 l0 x8_2).f1.f1)) := (blk_cell BK137.out 2).trans rfl
 have hcz57_3 : wc.cell? ⟨gb137, 3, none⟩ = some (.int .i64 ((rd_T62 l0 x8_2).f2)) := (blk_cell BK137.out 3).trans rfl
 have hfz57_0 := blk_frozen BK137.out 0
 have hfz57_1 := blk_frozen BK137.out 1
 have hfz57_2 := blk_frozen BK137.out 2
 have hfz57_3 := blk_frozen BK137.out 3
 try go_wp2_with (first | ((with_reducible refine gate_callee (f := 23) rfl ?_); refine goesL_ (some 90) rfl rfl Try.func23 (by kernel_rfl) rfl #[.pointer (some ⟨g135, 0, none⟩), .agg #[.int .u32 ((rd_T62 l0 x8_2).f1.f0), .int .i64 ((rd_T62 l0 x8_2).f1.f1)]] rfl (by (try simp only [List.map_toArray, List.map_cons, List.map_nil]); first | done | rfl | (simp only [List.length_drop, List.length_take]; rfl)) ?_; (with_reducible refine (trie_Trie_Drop.calls g135 t141 ((rd_T62 l0 x8_2).f1.f0) ((rd_T62 l0 x8_2).f1.f1) true t144 w _ ?side1 ?side2 A37.out).mono ?_); (case side1 => repeat (first | (with_reducible first | exact HI135.out | apply IsS75.alloc | apply IsS75.drewN | apply IsS75.drew | refine IsS75.far ?_ (by (repeat (first | exact (Opq.NP.blk BK137.out (by decide)) | (with_reducible apply Opq.NP.setCell) | (with_reducible apply Opq.NP.drewN) | (with_reducible apply Opq.NP.drew) | (with_reducible apply Opq.NP.alloc))); done) _) | exact HI135.out)); (case side2 => repeat (first | (with_reducible first | exact HB.out | apply below_alloc | apply pw_below_drewN | apply below_drew1 | refine below_set ?_ (IsS75.ge HI135.out) | refine below_set ?_ GE137.out) | exact HB.out)); rintro e w58 ⟨rfl, hi, hb, hk⟩; refine ⟨_, rfl, ?_⟩; have n0_ := Aside0.mk (Opq.R_keep (by (with_reducible repeat (first|apply Kd.R_alloc|apply Kd.R_drewN|apply Kd.R_drew)); exact HO_6.out) hk (by decide)); have n1_ := Aside0.mk (Opq.R_keep (by (with_reducible repeat (first|apply Kd.R_alloc|apply Kd.R_drewN|apply Kd.R_drew)); exact HO_7.out) hk (by decide)); have n2_ := Aside0.mk (Opq.KeepO.blk2 hk (g := gb137) (o := .cells #[.bool ((rd_T62 l0 x8_2).f0), .int .u32 ((rd_T62 l0 x8_2).f1.f0), .int .i64 ((rd_T62 l0 x8_2).f1.f1), .int .i64 ((rd_T62 l0 x8_2).f2)] 62 (0, 0)) (by (with_reducible repeat (first | refine blk_drewN ?_ _ | refine blk_drew ?_ | refine blk_alloc ?_ _)); exact BK137.out) (by rfl)); have n3_ := Aside0.mk (hb); have n4_ := Aside0.mk (hi); clear HO_6; clear HO_7; clear BK137; clear HB; clear HI135; have HO_6 := n0_; have HO_7 := n1_; have BK137 := n2_; have HB := n3_; have HI135 := n4_; clear n0_ n1_ n2_ n3_ n4_; (try clear hb); (try clear hb2); (try clear hk); (try clear hi)))
 have n0_ := Aside0.mk (Kd.R_drew HO_6.out)
 have n1_ := Aside0.mk (Kd.R_drew HO_7.out)
 have n2_ := Aside0.mk (blk_drew BK137.out)
 have n3_ := Aside0.mk (IsS75.drew HI135.out)
 have n4_ := Aside0.mk (below_drew1 HB.out)
 clear HO_6 HO_7 BK137 HI135 HB
 have HO_6 := n0_; have HO_7 := n1_; have BK137 := n2_; have HI135 := n3_; have HB := n4_
 clear n0_ n1_ n2_ n3_ n4_
 have q60 : (x10_3 : Int) ≤ ((x6_2.length : Int) : Int) := of_decide_eq_true (by first | (with_reducible assumption) | assumption)
 obtain ⟨i060, hi060, _, hsz60, _⟩ := info_parts info47
 have hroom60 : x6_2.length ≤ co24 := (Kd.R_reads' HO_6.out).2.1
 have hC60 : Kd.C k47 _ Ao24 x6_2.length x6_2 := (Kd.R_reads' HO_6.out).2.2
 have hcut60 := cut_to (P := Try.prog) 54 47 .i64 Try.underlying54 hi060 Ao24 x6_2.length co24 x10_3 (of_decide_eq_true (by first | (with_reducible assumption) | assumption)) q60 hroom60
 have hr60 := Kd.C_take (m := (x10_3 : Int).toNat) hC60 (by omega)
 have hy60 : y148.length = (x10_3 : Int).toNat := (by rw [Ny148.out, List.length_take]; omega)
 rw [← Ny148.out] at hr60
 rw [← hy60] at hcut60
 have HR151 := Aside0.mk hr60
 have HC151 := Aside0.mk (show y148.length ≤ co24 from by omega)
 clear hr60 hC60 hroom60 hi060 hsz60
 have KY60 := Aside0.mk hy60
 clear hy60
 have KL60 := Aside0.mk (show (x10_3 : Int).toNat ≤ x6_2.length from by omega)
 replace q60 := eq_true q60
 have q61 : ((ji46) : Int) ≤ ((x6_2.length : Int) : Int) := of_decide_eq_true (by first | (with_reducible assumption) | assumption)
 obtain ⟨i061, hi061, _, hsz61, _⟩ := info_parts info47
 have hroom61 : x6_2.length ≤ co24 := (Kd.R_reads' HO_6.out).2.1
 have hC61 : Kd.C k47 _ Ao24 x6_2.length x6_2 := (Kd.R_reads' HO_6.out).2.2
 have q061 : (0 : Int) ≤ ((ji46) : Int) := of_decide_eq_true (by first | (with_reducible assumption) | assumption)
 have hcut61 := cut_from (P := Try.prog) 54 47 .i64 Try.underlying54 hi061 2 hsz61 Ao24 x6_2.length co24 (ji46) q061 q61
 have hr61 := Kd.C_drop (m := ((ji46) : Int).toNat) (c := co24) hC61 (by omega) hroom61
 obtain ⟨A61, hA61⟩ : ∃ A1, A1 = (if co24 = ((ji46) : Int).toNat then Ao24 else (Ao24 : Option Addr).map (·.add (((ji46) : Int).toNat * 2))) := ⟨_, rfl⟩
 obtain ⟨c61, hc61⟩ : ∃ c1, c1 = co24 - ((ji46) : Int).toNat := ⟨_, rfl⟩
 have hy61 : y155.length = x6_2.length - ((ji46) : Int).toNat := (by rw [Ny155.out, List.length_drop] <;> omega)
 rw [show (x6_2).drop ((ji46) : Int).toNat = y155 from Ny155.out.symm] at hr61
 replace hr61 : Kd.C k47 _ A61 y155.length y155 := (by rw [hA61]; exact hr61)
 rw [← hy61, ← hA61, ← hc61] at hcut61
 have HR158 := Aside0.mk hr61
 have HC158 := Aside0.mk (show y155.length ≤ c61 from by rw [hy61, hc61]; exact Nat.sub_le_sub_right hroom61 _)
 clear hr61 hC61 hroom61 hi061 hsz61 hc61
 have KY61 := Aside0.mk hy61
 have KA61 := Aside0.mk hA61
 clear hy61 hA61
 have KL61 := Aside0.mk (show ((ji46) : Int).toNat ≤ x6_2.length from by omega)
 replace q61 := eq_true q61
 obtain ⟨Ao63, co63, eo63⟩ := Kd.R_slice HO_7.out
 (first | subst eo63 | (injection eo63 with f1_ f2_ f3_; have f4_ := f1_.symm; have f5_ := f3_.symm; clear f1_ f2_ f3_; subst f4_; subst f5_))
 have q62 : (x10_3 : Int) ≤ ((x7_2.length : Int) : Int) := of_decide_eq_true (by first | (with_reducible assumption) | assumption)
 obtain ⟨i062, hi062, _, hsz62, _⟩ := info_parts info3
 have hroom62 : x7_2.length ≤ co63 := (Kd.R_reads' HO_7.out).2.1
 have hC62 : Kd.C (Kd.int .i64) _ Ao63 x7_2.length x7_2 := (Kd.R_reads' HO_7.out).2.2
 have hcut62 := cut_to (P := Try.prog) 34 3 .i64 Try.underlying34 hi062 Ao63 x7_2.length co63 x10_3 (of_decide_eq_true (by first | (with_reducible assumption) | assumption)) q62 hroom62
 have hr62 := Kd.C_take (m := (x10_3 : Int).toNat) hC62 (by omega)
 have hy62 : y165.length = (x10_3 : Int).toNat := (by rw [Ny165.out, List.length_take]; omega)
 rw [← Ny165.out] at hr62
 rw [← hy62] at hcut62
 have HR168 := Aside0.mk hr62
 have HC168 := Aside0.mk (show y165.length ≤ co63 from by omega)
 clear hr62 hC62 hroom62 hi062 hsz62
 have KY62 := Aside0.mk hy62
 clear hy62
 have KL62 := Aside0.mk (show (x10_3 : Int).toNat ≤ x7_2.length from by omega)
 replace q62 := eq_true q62
 have q64 : ((ji46) : Int) ≤ ((x7_2.length : Int) : Int) := of_decide_eq_true (by first | (with_reducible assumption) | assumption)
 obtain ⟨i064, hi064, _, hsz64, _⟩ := info_parts info3
 have hroom64 : x7_2.length ≤ co63 := (Kd.R_reads' HO_7.out).2.1
 have hC64 : Kd.C (Kd.int .i64) _ Ao63 x7_2.length x7_2 := (Kd.R_reads' HO_7.out).2.2
 have q064 : (0 : Int) ≤ ((ji46) : Int) := of_decide_eq_true (by first | (with_reducible assumption) | assumption)
 have hcut64 := cut_from (P := Try.prog) 34 3 .i64 Try.underlying34 hi064 1 hsz64 Ao63 x7_2.length co63 (ji46) q064 q64
 have hr64 := Kd.C_drop (m := ((ji46) : Int).toNat) (c := co63) hC64 (by omega) hroom64
 obtain ⟨A64, hA64⟩ : ∃ A1, A1 = (if co63 = ((ji46) : Int).toNat then Ao63 else (Ao63 : Option Addr).map (·.add (((ji46) : Int).toNat * 1))) := ⟨_, rfl⟩
 obtain ⟨c64, hc64⟩ : ∃ c1, c1 = co63 - ((ji46) : Int).toNat := ⟨_, rfl⟩
 have hy64 : y172.length = x7_2.length - ((ji46) : Int).toNat := (by rw [Ny172.out, List.length_drop] <;> omega)
 rw [show (x7_2).drop ((ji46) : Int).toNat = y172 from Ny172.out.symm] at hr64
 replace hr64 : Kd.C (Kd.int .i64) _ A64 y172.length y172 := (by rw [hA64]; exact hr64)
 rw [← hy64, ← hA64, ← hc64] at hcut64
 have HR175 := Aside0.mk hr64
 have HC175 := Aside0.mk (show y172.length ≤ c64 from by rw [hy64, hc64]; exact Nat.sub_le_sub_right hroom64 _)
 clear hr64 hC64 hroom64 hi064 hsz64 hc64
 have KY64 := Aside0.mk hy64
 have KA64 := Aside0.mk hA64
 clear hy64 hA64
 have KL64 := Aside0.mk (show ((ji46) : Int).toNat ≤ x7_2.length from by omega)
 replace q64 := eq_true q64
 refine start_ (n := 22) (S := fun w' => True) (ds := []) #[F_,F_,F_,F_,F_,F_,F_,F_,F_,F_,F_,F_,F_,F_,F_,F_,F_,F_,F_,F_,F_,F_] (by kernel_rfl) rfl rfl trivial (fun hHeld => ?_); refine with_tabW TR.tab23 TR.bits23 (fun HT_ HW_ => ?_)
 generalize w58.drew = w59 at HO_6 HO_7 BK137 HI135 HB HR151 HR158 HR168 HR175 hHeld ⊢
 refine pure_ (i := 1) (N := some 97) (v := ?_) (a' := ?_) #[F_,T_,F_,F_,F_,F_,F_,F_,F_,F_,F_,F_,F_,F_,F_,F_,F_,F_,F_,F_,F_,F_] rfl rfl (any_of HT_.out (by kernel_rfl)) (fun _ _ _ h => h) (Or.inl ⟨by rfl, ?_⟩) ?_ ?_
 rotate_left
 ·intro w'
  go_simp
  with_reducible rfl
 rotate_left
 ·simp only [Act.put, q1_, q2_, q3_, i64_w, i32_w]
  rfl
 refine pure_ (i := 2) (N := some 98) (v := ?_) (a' := ?_) #[F_,T_,T_,F_,F_,F_,F_,F_,F_,F_,F_,F_,F_,F_,F_,F_,F_,F_,F_,F_,F_,F_] rfl rfl (any_of HT_.out (by kernel_rfl)) (fun _ _ _ h => h) (Or.inl ⟨by rfl, ?_⟩) ?_ ?_
 rotate_left
 ·intro w'
  go_simp
  with_reducible rfl
 rotate_left
 ·simp only [Act.put, q1_, q2_, q3_, i64_w, i32_w]
  rfl
 refine pure_ (i := 3) (N := some 99) (v := ?_) (a' := ?_) #[F_,T_,T_,T_,F_,F_,F_,F_,F_,F_,F_,F_,F_,F_,F_,F_,F_,F_,F_,F_,F_,F_] rfl rfl (any_of HT_.out (by kernel_rfl)) (fun _ _ _ h => h) (Or.inl ⟨by rfl, ?_⟩) ?_ ?_
 rotate_left
 ·intro w'
  go_simp
  with_reducible rfl
 rotate_left
 ·simp only [Act.put, q1_, q2_, q3_, i64_w, i32_w]
  rfl
 refine pure_ (i := 5) (N := some 101) (v := ?_) (a' := ?_) #[F_,T_,T_,T_,F_,T_,F_,F_,F_,F_,F_,F_,F_,F_,F_,F_,F_,F_,F_,F_,F_,F_] rfl rfl (any_of HT_.out (by kernel_rfl)) (fun _ _ _ h => h) (Or.inl ⟨by rfl, ?_⟩) ?_ ?_
 rotate_left
 ·intro w'
  go_simp
  with_reducible rfl
 rotate_left
 ·simp only [Act.put, q1_, q2_, q3_, i64_w, i32_w]
  rfl
 refine pure_ (i := 6) (N := some 102) (v := ?_) (a' := ?_) #[F_,T_,T_,T_,F_,T_,T_,F_,F_,F_,F_,F_,F_,F_,F_,F_,F_,F_,F_,F_,F_,F_] rfl rfl (any_of HT_.out (by kernel_rfl)) (fun _ _ _ h => h) (Or.inl ⟨by rfl, ?_⟩) ?_ ?_
 rotate_left
 ·intro w'
  go_simp
  with_reducible rfl
 rotate_left
 ·simp only [Act.put, q1_, q2_, q3_, i64_w, i32_w]
  rfl
 refine pure_ (i := 7) (N := some 103) (v := ?_) (a' := ?_) #[F_,T_,T_,T_,F_,T_,T_,T_,F_,F_,F_,F_,F_,F_,F_,F_,F_,F_,F_,F_,F_,F_] rfl rfl (any_of HT_.out (by kernel_rfl)) (fun _ _ _ h => h) (Or.inl ⟨by rfl, ?_⟩) ?_ ?_
 rotate_left
 ·intro w'
  go_simp
  with_reducible rfl
 rotate_left
 ·simp only [Act.put, q1_, q2_, q3_, i64_w, i32_w]
  rfl
 refine pure_ (i := 8) (N := some 104) (v := ?_) (a' := ?_) #[F_,T_,T_,T_,F_,T_,T_,T_,T_,F_,F_,F_,F_,F_,F_,F_,F_,F_,F_,F_,F_,F_] rfl rfl (any_of HT_.out (by kernel_rfl)) (fun _ _ _ h => h) (Or.inl ⟨by rfl, ?_⟩) ?_ ?_
 rotate_left
 ·intro w'
  go_simp
  with_reducible rfl
 rotate_left
 ·simp only [Act.put, q1_, q2_, q3_, i64_w, i32_w]
  rfl
 refine pure_ (i := 11) (N := some 107) (v := ?_) (a' := ?_) #[F_,T_,T_,T_,F_,T_,T_,T_,T_,F_,F_,T_,F_,F_,F_,F_,F_,F_,F_,F_,F_,F_] rfl rfl (any_of HT_.out (by kernel_rfl)) (fun _ _ _ h => h) (Or.inl ⟨by rfl, ?_⟩) ?_ ?_
 rotate_left
 ·intro w'
  go_simp
  with_reducible rfl
 rotate_left
 ·simp only [Act.put, q1_, q2_, q3_, i64_w, i32_w]
  rfl
 refine pure_ (i := 12) (N := some 108) (v := ?_) (a' := ?_) #[F_,T_,T_,T_,F_,T_,T_,T_,T_,F_,F_,T_,T_,F_,F_,F_,F_,F_,F_,F_,F_,F_] rfl rfl (any_of HT_.out (by kernel_rfl)) (fun _ _ _ h => h) (Or.inl ⟨by rfl, ?_⟩) ?_ ?_
 rotate_left
 ·intro w'
  go_simp
  with_reducible rfl
 rotate_left
 ·simp only [Act.put, q1_, q2_, q3_, i64_w, i32_w]
  rfl
 refine pure_ (i := 13) (N := some 109) (v := ?_) (a' := ?_) #[F_,T_,T_,T_,F_,T_,T_,T_,T_,F_,F_,T_,T_,T_,F_,F_,F_,F_,F_,F_,F_,F_] rfl rfl (any_of HT_.out (by kernel_rfl)) (fun _ _ _ h => h) (Or.inl ⟨by rfl, ?_⟩) ?_ ?_
 rotate_left
 ·intro w'
  go_simp
  with_reducible rfl
 rotate_left
 ·simp only [Act.put, q1_, q2_, q3_, i64_w, i32_w]
  rfl
 refine pure_ (i := 15) (N := some 111) (v := ?_) (a' := ?_) #[F_,T_,T_,T_,F_,T_,T_,T_,T_,F_,F_,T_,T_,T_,F_,T_,F_,F_,F_,F_,F_,F_] rfl rfl (any_of HT_.out (by kernel_rfl)) (fun _ _ _ h => h) (Or.inl ⟨by rfl, ?_⟩) ?_ ?_
 rotate_left
 ·intro w'
  go_simp
  with_reducible rfl
 rotate_left
 ·simp only [Act.put, q1_, q2_, q3_, i64_w, i32_w]
  rfl
 refine pure_ (i := 16) (N := some 112) (v := ?_) (a' := ?_) #[F_,T_,T_,T_,F_,T_,T_,T_,T_,F_,F_,T_,T_,T_,F_,T_,T_,F_,F_,F_,F_,F_] rfl rfl (any_of HT_.out (by kernel_rfl)) (fun _ _ _ h => h) (Or.inl ⟨by rfl, ?_⟩) ?_ ?_
 rotate_left
 ·intro w'
  go_simp
  with_reducible rfl
 rotate_left
 ·simp only [Act.put, q1_, q2_, q3_, i64_w, i32_w]
  rfl
 refine pure_ (i := 17) (N := some 113) (v := ?_) (a' := ?_) #[F_,T_,T_,T_,F_,T_,T_,T_,T_,F_,F_,T_,T_,T_,F_,T_,T_,T_,F_,F_,F_,F_] rfl rfl (any_of HT_.out (by kernel_rfl)) (fun _ _ _ h => h) (Or.inl ⟨by rfl, ?_⟩) ?_ ?_
 rotate_left
 ·intro w'
  go_simp
  with_reducible rfl
 rotate_left
 ·simp only [Act.put, q1_, q2_, q3_, i64_w, i32_w]
  rfl
 refine pure_ (i := 18) (N := some 114) (v := ?_) (a' := ?_) #[F_,T_,T_,T_,F_,T_,T_,T_,T_,F_,F_,T_,T_,T_,F_,T_,T_,T_,T_,F_,F_,F_] rfl rfl (any_of HT_.out (by kernel_rfl)) (fun _ _ _ h => h) (Or.inl ⟨by rfl, ?_⟩) ?_ ?_
 rotate_left
 ·intro w'
  go_simp
  with_reducible rfl
 rotate_left
 ·simp only [Act.put, q1_, q2_, q3_, i64_w, i32_w]
  rfl
 refine join_ (σ := Value × Value × Value × Value) 4 #[T_,T_,T_,T_,T_,T_,T_,T_,T_,T_,T_,T_,T_,T_,F_,T_,T_,T_,T_,F_,F_,F_] (fun s_ => [(96, s_.1), (100, s_.2.1), (105, s_.2.2.1), (106, s_.2.2.2)]) (fun s_ w' => (Kd.R k47 47 w' w.heap.size (fun k_ => some k_ ≠ (.slice Ao24 x6_2.length co24 : Value).ownBlock) s_.2.2.1 y159) ∧ (Kd.R (Kd.int .i64) 3 w' w.heap.size (fun k_ => some k_ ≠ (.slice Ao63 x7_2.length co63 : Value).ownBlock) s_.2.2.2 y162) ∧ (Kd.R k47 47 w' w.heap.size (fun k_ => some k_ ≠ (s_.2.2.1 : Value).ownBlock) (.slice Ao24 x6_2.length co24) x6_2) ∧ (Kd.R (Kd.int .i64) 3 w' w.heap.size (fun k_ => some k_ ≠ (s_.2.2.2 : Value).ownBlock) (.slice Ao63 x7_2.length co63) x7_2) ∧ (w'.heap[gb137]? = some (.cells #[.bool ((rd_T62 l0 x8_2).f0), .int .u32 ((rd_T62 l0 x8_2).f1.f0), .int .i64 ((rd_T62 l0 x8_2).f1.f1), .int .i64 ((rd_T62 l0 x8_2).f2)] 62 (0, 0))) ∧ (Kd.C k47 w' Ao24 y148.length y148) ∧ (Kd.C k47 w' A61 y155.length y155) ∧ (Kd.C (Kd.int .i64) w' Ao63 y165.length y165) ∧ (Kd.C (Kd.int .i64) w' A64 y172.length y172) ∧ (IsS75 w w' g135 t144) ∧ (Below w.heap.size w w')) ?_ ?_
 rotate_left
 ·intro hCont
  refine two_ (i := 0) (j := 10) (Ni := some 96) (Nj := some 106) #[T_,T_,T_,T_,F_,T_,T_,T_,T_,F_,F_,T_,T_,T_,F_,T_,T_,T_,T_,F_,F_,F_] #[F_,T_,T_,T_,F_,T_,T_,T_,T_,F_,T_,T_,T_,T_,F_,T_,T_,T_,T_,F_,F_,F_] rfl rfl rfl rfl (two_of HT_.out (by kernel_rfl)) (by decide) (by decide) (fun K hK => ?_) (fun K hK => ?_)
  ·skip
   refine Kd.R_lit_step k47 _ 47 ?hg (N := 96) ?hd (xs := ([] : List (S47))) (inner := []) (ok := fun _ => True) (okp := fun _ => True) ?hr ?hp (fun _ hk => hk) trivial (Below.refl _ _) (Nat.le_refl _) (by simp) ?_; (case hd => rfl); (case hg => rfl); (case hr => first | (go_simp; done) | (go_simp; rfl) | (go_simp; simp [IntKind.wrap_u8, IntKind.wrap_u32]; done)); (case hp => exact (Reps.none _ _))
   intro v146 w65 ho66 hb hg_ hnew_
   clear hg_ hnew_
   (first | rw [← Ny145.out] at ho66 | (simp only [Int.reduceToNat] at ho66; rw [← Ny145.out] at ho66))
   have n0_ := Aside0.mk (Kd.R_elder' (by (with_reducible repeat (first|apply Kd.R_alloc|apply Kd.R_drewN|apply Kd.R_drew)); exact HO_6.out) (Kd.R_base ho66) hb)
   have n1_ := Aside0.mk (Kd.R_below (by (with_reducible repeat (first|apply Kd.R_alloc|apply Kd.R_drewN|apply Kd.R_drew)); exact HO_7.out) hb)
   have n2_ := Aside0.mk (Kd.R_lower (Kd.R_new' ho66 (Kd.R_lt (by (with_reducible repeat (first|apply Kd.R_alloc|apply Kd.R_drewN|apply Kd.R_drew)); exact HO_6.out))) (below_size (by repeat (first | (with_reducible first | exact HB.out | apply below_alloc | apply pw_below_drewN | apply below_drew1 | refine below_set ?_ (IsS75.ge HI135.out) | refine below_set ?_ GE137.out) | exact HB.out))))
   have n3_ := Aside0.mk (blk_below (g := gb137) (o := .cells #[.bool ((rd_T62 l0 x8_2).f0), .int .u32 ((rd_T62 l0 x8_2).f1.f0), .int .i64 ((rd_T62 l0 x8_2).f1.f1), .int .i64 ((rd_T62 l0 x8_2).f2)] 62 (0, 0)) (by (with_reducible repeat (first | refine blk_drewN ?_ _ | refine blk_drew ?_ | refine blk_alloc ?_ _)); exact BK137.out) hb)
   have n4_ := Aside0.mk (IsS75.below (by repeat (first | (with_reducible first | exact HI135.out | apply IsS75.alloc | apply IsS75.drewN | apply IsS75.drew | refine IsS75.far ?_ (by (repeat (first | exact (Opq.NP.blk BK137.out (by decide)) | (with_reducible apply Opq.NP.setCell) | (with_reducible apply Opq.NP.drewN) | (with_reducible apply Opq.NP.drew) | (with_reducible apply Opq.NP.alloc))); done) _) | exact HI135.out)) hb)
   have n5_ := Aside0.mk (Kd.C_below (by repeat (first | (with_reducible exact HR151.out) | (with_reducible refine Kd.C_alloc ?_ _) | (with_reducible refine Kd.C_drewN ?_ _) | (with_reducible refine Kd.C_drew ?_) | exact HR151.out)) hb)
   have n6_ := Aside0.mk (Kd.C_below (by repeat (first | (with_reducible exact HR158.out) | (with_reducible refine Kd.C_alloc ?_ _) | (with_reducible refine Kd.C_drewN ?_ _) | (with_reducible refine Kd.C_drew ?_) | exact HR158.out)) hb)
   have n7_ := Aside0.mk (Kd.C_below (by repeat (first | (with_reducible exact HR168.out) | (with_reducible refine Kd.C_alloc ?_ _) | (with_reducible refine Kd.C_drewN ?_ _) | (with_reducible refine Kd.C_drew ?_) | exact HR168.out)) hb)
   have n8_ := Aside0.mk (Kd.C_below (by repeat (first | (with_reducible exact HR175.out) | (with_reducible refine Kd.C_alloc ?_ _) | (with_reducible refine Kd.C_drewN ?_ _) | (with_reducible refine Kd.C_drew ?_) | exact HR175.out)) hb)
   have n9_ := Aside0.mk (below_step (by repeat (first | (with_reducible first | exact HB.out | apply below_alloc | apply pw_below_drewN | apply below_drew1 | refine below_set ?_ (IsS75.ge HI135.out) | refine below_set ?_ GE137.out) | exact HB.out)) hb)
   clear HO_6 HO_7 BK137 HI135 HR151 HR158 HR168 HR175 HB
   have HO_6 := n0_; have HO_7 := n1_; have HO147 := n2_; have BK137 := n3_; have HI135 := n4_; have HR151 := n5_; have HR158 := n6_; have HR168 := n7_; have HR175 := n8_; have HB := n9_
   clear n0_ n1_ n2_ n3_ n4_ n5_ n6_ n7_ n8_ n9_ hb ho66
   refine hK.out _ _ trivial (fun hHeld => ?_)
   clear hK K
   refine norm_ (a' := ?_) ?_ ?_
   rotate_left
   ·show Act.put _ (some 96) _ = _
    simp only [Act.put, q1_, q2_, q3_, i64_w, i32_w]
    rfl
   refine two_ (i := 4) (j := 10) (Ni := some 100) (Nj := some 106) #[T_,T_,T_,T_,T_,T_,T_,T_,T_,F_,F_,T_,T_,T_,F_,T_,T_,T_,T_,F_,F_,F_] #[T_,T_,T_,T_,F_,T_,T_,T_,T_,F_,T_,T_,T_,T_,F_,T_,T_,T_,T_,F_,F_,F_] rfl rfl rfl rfl (two_of HT_.out (by kernel_rfl)) (by decide) (by decide) (fun K hK => ?_) (fun K hK => ?_)
   ·skip
    refine Kd.R_append_rows_step k47 (w0 := w) w.heap.size (by rfl) (.tmp 96) (.tmp 99) 54 47 (.agg #[(.int .u32 0), (.int .i64 0)]) 16 rfl Try.underlying54 info47 rfl (by decide) (by omega) v146 y145 y148 _ _ _ (fun k_ => some k_ ≠ (.slice Ao24 x6_2.length co24 : Value).ownBlock) (fun _ => False) rfl rfl ?aO ?aR (fun _ _ h => h) (fun _ h => h.elim) ?aF ?aB ?aS ?aL ?_
    (case aR => repeat (first | exact (by repeat (first | (with_reducible exact HR151.out) | (with_reducible refine Kd.C_alloc ?_ _) | (with_reducible refine Kd.C_drewN ?_ _) | (with_reducible refine Kd.C_drew ?_) | exact HR151.out)) | (with_reducible refine Kd.C_alloc ?_ _) | (with_reducible refine Kd.C_drewN ?_ _) | (with_reducible refine Kd.C_drew ?_)))
    (case aB => exact (by repeat (first | (with_reducible first | exact HB.out | apply below_alloc | apply pw_below_drewN | apply below_drew1 | refine below_set ?_ (IsS75.ge HI135.out) | refine below_set ?_ GE137.out) | exact HB.out)))
    (case aF => exact (fun k_ hk => Kd.fresh' (Kd.R_lt (by (with_reducible repeat (first|apply Kd.R_alloc|apply Kd.R_drewN|apply Kd.R_drew)); exact HO_6.out)) k_ hk))
    (case aO => exact (by (with_reducible repeat (first|apply Kd.R_alloc|apply Kd.R_drewN|apply Kd.R_drew)); exact Kd.R_mono HO147.out (fun _ hk => hk.2)))
    (case aS => exact (below_size (by repeat (first | (with_reducible first | exact HB.out | apply below_alloc | apply pw_below_drewN | apply below_drew1 | refine below_set ?_ (IsS75.ge HI135.out) | refine below_set ?_ GE137.out) | exact HB.out))))
    (case aL => have := LMc45.out; omega)
    intro v153 w67 ho hb hg hat
    rw [← Ny152.out] at ho
    have n0_ := Aside0.mk (Kd.R_after (ok := (fun _ => True)) (by (with_reducible repeat (first|apply Kd.R_alloc|apply Kd.R_drewN|apply Kd.R_drew)); exact HO_6.out) hg hat)
    have n1_ := Aside0.mk (Kd.R_over' (by (with_reducible repeat (first|apply Kd.R_alloc|apply Kd.R_drewN|apply Kd.R_drew)); exact HO_7.out) (Kd.R_typed (by (with_reducible repeat (first|apply Kd.R_alloc|apply Kd.R_drewN|apply Kd.R_drew)); exact HO147.out)) (by decide) hg)
    have n2_ := Aside0.mk (blk_grown (g := gb137) (o := .cells #[.bool ((rd_T62 l0 x8_2).f0), .int .u32 ((rd_T62 l0 x8_2).f1.f0), .int .i64 ((rd_T62 l0 x8_2).f1.f1), .int .i64 ((rd_T62 l0 x8_2).f2)] 62 (0, 0)) (by (with_reducible repeat (first | refine blk_drewN ?_ _ | refine blk_drew ?_ | refine blk_alloc ?_ _)); exact BK137.out) hg (Kd.R_ne HO147.out BK137.out (by decide)))
    have n3_ := Aside0.mk (IsS75.grown (by repeat (first | (with_reducible first | exact HI135.out | apply IsS75.alloc | apply IsS75.drewN | apply IsS75.drew | refine IsS75.far ?_ (by (repeat (first | exact (Opq.NP.blk BK137.out (by decide)) | (with_reducible apply Opq.NP.setCell) | (with_reducible apply Opq.NP.drewN) | (with_reducible apply Opq.NP.drew) | (with_reducible apply Opq.NP.alloc))); done) _) | exact HI135.out)) hg (by (repeat (first | exact (Opq.NPr.typed (Kd.R_typed HO147.out) (by decide)) | (with_reducible apply Opq.NPr.setCell) | (with_reducible apply Opq.NPr.drewN) | (with_reducible apply Opq.NPr.drew) | (with_reducible apply Opq.NPr.alloc))); done))
    have n4_ := Aside0.mk (hb)
    have n5_ := Aside0.mk ((show Kd.C k47 w67 Ao24 y148.length y148 from by rw [Ny148.out]; exact Kd.C_take (m := (x10_3 : Int).toNat) ((Kd.R_reads' (Kd.R_after (ok := (fun _ => True)) (by (with_reducible repeat (first|apply Kd.R_alloc|apply Kd.R_drewN|apply Kd.R_drew)); exact HO_6.out) hg hat)).2.2) KL60.out))
    have n6_ := Aside0.mk ((show Kd.C k47 w67 A61 y155.length y155 from by rw [Ny155.out, KA61.out]; exact Kd.C_drop (m := ((ji46) : Int).toNat) (c := co24) ((Kd.R_reads' (Kd.R_after (ok := (fun _ => True)) (by (with_reducible repeat (first|apply Kd.R_alloc|apply Kd.R_drewN|apply Kd.R_drew)); exact HO_6.out) hg hat)).2.2) KL61.out ((Kd.R_reads' (Kd.R_after (ok := (fun _ => True)) (by (with_reducible repeat (first|apply Kd.R_alloc|apply Kd.R_drewN|apply Kd.R_drew)); exact HO_6.out) hg hat)).2.1)))
    have n7_ := Aside0.mk ((show Kd.C (Kd.int .i64) w67 Ao63 y165.length y165 from by rw [Ny165.out]; exact Kd.C_take (m := (x10_3 : Int).toNat) ((Kd.R_reads' (Kd.R_over' (by (with_reducible repeat (first|apply Kd.R_alloc|apply Kd.R_drewN|apply Kd.R_drew)); exact HO_7.out) (Kd.R_typed (by (with_reducible repeat (first|apply Kd.R_alloc|apply Kd.R_drewN|apply Kd.R_drew)); exact HO147.out)) (by decide) hg)).2.2) KL62.out))
    have n8_ := Aside0.mk ((show Kd.C (Kd.int .i64) w67 A64 y172.length y172 from by rw [Ny172.out, KA64.out]; exact Kd.C_drop (m := ((ji46) : Int).toNat) (c := co63) ((Kd.R_reads' (Kd.R_over' (by (with_reducible repeat (first|apply Kd.R_alloc|apply Kd.R_drewN|apply Kd.R_drew)); exact HO_7.out) (Kd.R_typed (by (with_reducible repeat (first|apply Kd.R_alloc|apply Kd.R_drewN|apply Kd.R_drew)); exact HO147.out)) (by decide) hg)).2.2) KL64.out ((Kd.R_reads' (Kd.R_over' (by (with_reducible repeat (first|apply Kd.R_alloc|apply Kd.R_drewN|apply Kd.R_drew)); exact HO_7.out) (Kd.R_typed (by (with_reducible repeat (first|apply Kd.R_alloc|apply Kd.R_drewN|apply Kd.R_drew)); exact HO147.out)) (by decide) hg)).2.1)))
    have n9_ := Aside0.mk (ho)
    clear HO_6 HO_7 BK137 HI135 HB HR151 HR158 HR168 HR175 HO147
    have HO_6 := n0_; have HO_7 := n1_; have BK137 := n2_; have HI135 := n3_; have HB := n4_; have HR151 := n5_; have HR158 := n6_; have HR168 := n7_; have HR175 := n8_; have HO154 := n9_
    clear n0_ n1_ n2_ n3_ n4_ n5_ n6_ n7_ n8_ n9_ ho hb hg hat
    refine hK.out _ _ trivial (fun hHeld => ?_)
    clear hK K
    refine norm_ (a' := ?_) ?_ ?_
    rotate_left
    ·show Act.put _ (some 100) _ = _
     simp only [Act.put, q1_, q2_, q3_, i64_w, i32_w]
     rfl
    refine two_ (i := 9) (j := 10) (Ni := some 105) (Nj := some 106) #[T_,T_,T_,T_,T_,T_,T_,T_,T_,T_,F_,T_,T_,T_,F_,T_,T_,T_,T_,F_,F_,F_] #[T_,T_,T_,T_,T_,T_,T_,T_,T_,F_,T_,T_,T_,T_,F_,T_,T_,T_,T_,F_,F_,F_] rfl rfl rfl rfl (two_of HT_.out (by kernel_rfl)) (by decide) (by decide) (fun K hK => ?_) (fun K hK => ?_)
    ·skip
     refine Kd.R_append_rows_step k47 (w0 := w) w.heap.size (by rfl) (.tmp 100) (.tmp 104) 54 47 (.agg #[(.int .u32 0), (.int .i64 0)]) 16 rfl Try.underlying54 info47 rfl (by decide) (by omega) v153 y152 y155 _ _ _ (fun k_ => some k_ ≠ (.slice Ao24 x6_2.length co24 : Value).ownBlock) (fun _ => False) rfl rfl ?aO ?aR (fun _ _ h => h) (fun _ h => h.elim) ?aF ?aB ?aS ?aL ?_
     (case aR => repeat (first | exact (by repeat (first | (with_reducible exact HR158.out) | (with_reducible refine Kd.C_alloc ?_ _) | (with_reducible refine Kd.C_drewN ?_ _) | (with_reducible refine Kd.C_drew ?_) | exact HR158.out)) | (with_reducible refine Kd.C_alloc ?_ _) | (with_reducible refine Kd.C_drewN ?_ _) | (with_reducible refine Kd.C_drew ?_)))
     (case aB => exact (by repeat (first | (with_reducible first | exact HB.out | apply below_alloc | apply pw_below_drewN | apply below_drew1 | refine below_set ?_ (IsS75.ge HI135.out) | refine below_set ?_ GE137.out) | exact HB.out)))
     (case aF => exact (fun k_ hk => Kd.fresh' (Kd.R_lt (by (with_reducible repeat (first|apply Kd.R_alloc|apply Kd.R_drewN|apply Kd.R_drew)); exact HO_6.out)) k_ hk))
     (case aO => exact (by (with_reducible repeat (first|apply Kd.R_alloc|apply Kd.R_drewN|apply Kd.R_drew)); exact HO154.out))
     (case aS => exact (below_size (by repeat (first | (with_reducible first | exact HB.out | apply below_alloc | apply pw_below_drewN | apply below_drew1 | refine below_set ?_ (IsS75.ge HI135.out) | refine below_set ?_ GE137.out) | exact HB.out))))
     (case aL => have := LMc49.out; omega)
     intro v160 w68 ho hb hg hat
     rw [← Ny159.out] at ho
     have n0_ := Aside0.mk (Kd.R_after (ok := (fun _ => True)) (by (with_reducible repeat (first|apply Kd.R_alloc|apply Kd.R_drewN|apply Kd.R_drew)); exact HO_6.out) hg hat)
     have n1_ := Aside0.mk (Kd.R_over' (by (with_reducible repeat (first|apply Kd.R_alloc|apply Kd.R_drewN|apply Kd.R_drew)); exact HO_7.out) (Kd.R_typed (by (with_reducible repeat (first|apply Kd.R_alloc|apply Kd.R_drewN|apply Kd.R_drew)); exact HO154.out)) (by decide) hg)
     have n2_ := Aside0.mk (blk_grown (g := gb137) (o := .cells #[.bool ((rd_T62 l0 x8_2).f0), .int .u32 ((rd_T62 l0 x8_2).f1.f0), .int .i64 ((rd_T62 l0 x8_2).f1.f1), .int .i64 ((rd_T62 l0 x8_2).f2)] 62 (0, 0)) (by (with_reducible repeat (first | refine blk_drewN ?_ _ | refine blk_drew ?_ | refine blk_alloc ?_ _)); exact BK137.out) hg (Kd.R_ne HO154.out BK137.out (by decide)))
     have n3_ := Aside0.mk (IsS75.grown (by repeat (first | (with_reducible first | exact HI135.out | apply IsS75.alloc | apply IsS75.drewN | apply IsS75.drew | refine IsS75.far ?_ (by (repeat (first | exact (Opq.NP.blk BK137.out (by decide)) | (with_reducible apply Opq.NP.setCell) | (with_reducible apply Opq.NP.drewN) | (with_reducible apply Opq.NP.drew) | (with_reducible apply Opq.NP.alloc))); done) _) | exact HI135.out)) hg (by (repeat (first | exact (Opq.NPr.typed (Kd.R_typed HO154.out) (by decide)) | (with_reducible apply Opq.NPr.setCell) | (with_reducible apply Opq.NPr.drewN) | (with_reducible apply Opq.NPr.drew) | (with_reducible apply Opq.NPr.alloc))); done))
     have n4_ := Aside0.mk (hb)
     have n5_ := Aside0.mk ((show Kd.C k47 w68 Ao24 y148.length y148 from by rw [Ny148.out]; exact Kd.C_take (m := (x10_3 : Int).toNat) ((Kd.R_reads' (Kd.R_after (ok := (fun _ => True)) (by (with_reducible repeat (first|apply Kd.R_alloc|apply Kd.R_drewN|apply Kd.R_drew)); exact HO_6.out) hg hat)).2.2) KL60.out))
     have n6_ := Aside0.mk ((show Kd.C k47 w68 A61 y155.length y155 from by rw [Ny155.out, KA61.out]; exact Kd.C_drop (m := ((ji46) : Int).toNat) (c := co24) ((Kd.R_reads' (Kd.R_after (ok := (fun _ => True)) (by (with_reducible repeat (first|apply Kd.R_alloc|apply Kd.R_drewN|apply Kd.R_drew)); exact HO_6.out) hg hat)).2.2) KL61.out ((Kd.R_reads' (Kd.R_after (ok := (fun _ => True)) (by (with_reducible repeat (first|apply Kd.R_alloc|apply Kd.R_drewN|apply Kd.R_drew)); exact HO_6.out) hg hat)).2.1)))
     have n7_ := Aside0.mk ((show Kd.C (Kd.int .i64) w68 Ao63 y165.length y165 from by rw [Ny165.out]; exact Kd.C_take (m := (x10_3 : Int).toNat) ((Kd.R_reads' (Kd.R_over' (by (with_reducible repeat (first|apply Kd.R_alloc|apply Kd.R_drewN|apply Kd.R_drew)); exact HO_7.out) (Kd.R_typed (by (with_reducible repeat (first|apply Kd.R_alloc|apply Kd.R_drewN|apply Kd.R_drew)); exact HO154.out)) (by decide) hg)).2.2) KL62.out))
     have n8_ := Aside0.mk ((show Kd.C (Kd.int .i64) w68 A64 y172.length y172 from by rw [Ny172.out, KA64.out]; exact Kd.C_drop (m := ((ji46) : Int).toNat) (c := co63) ((Kd.R_reads' (Kd.R_over' (by (with_reducible repeat (first|apply Kd.R_alloc|apply Kd.R_drewN|apply Kd.R_drew)); exact HO_7.out) (Kd.R_typed (by (with_reducible repeat (first|apply Kd.R_alloc|apply Kd.R_drewN|apply Kd.R_drew)); exact HO154.out)) (by decide) hg)).2.2) KL64.out ((Kd.R_reads' (Kd.R_over' (by (with_reducible repeat (first|apply Kd.R_alloc|apply Kd.R_drewN|apply Kd.R_drew)); exact HO_7.out) (Kd.R_typed (by (with_reducible repeat (first|apply Kd.R_alloc|apply Kd.R_drewN|apply Kd.R_drew)); exact HO154.out)) (by decide) hg)).2.1)))
     have n9_ := Aside0.mk (ho)
     clear HO_6 HO_7 BK137 HI135 HB HR151 HR158 HR168 HR175 HO154
     have HO_6 := n0_; have HO_7 := n1_; have BK137 := n2_; have HI135 := n3_; have HB := n4_; have HR151 := n5_; have HR158 := n6_; have HR168 := n7_; have HR175 := n8_; have HO161 := n9_
     clear n0_ n1_ n2_ n3_ n4_ n5_ n6_ n7_ n8_ n9_ ho hb hg hat
     refine hK.out _ _ trivial (fun hHeld => ?_)
     clear hK K
     refine norm_ (a' := ?_) ?_ ?_
     rotate_left
     ·show Act.put _ (some 105) _ = _
      simp only [Act.put, q1_, q2_, q3_, i64_w, i32_w]
      rfl
     refine one_ (i := 10) (N := some 106) #[T_,T_,T_,T_,T_,T_,T_,T_,T_,T_,T_,T_,T_,T_,F_,T_,T_,T_,T_,F_,F_,F_] rfl rfl (one_of HT_.out (by kernel_rfl)) (by decide) (fun K hK => ?_)
     refine Kd.R_lit_step (Kd.int .i64) _ 3 ?hg (N := 106) ?hd (xs := ([] : List Int)) (inner := []) (ok := fun _ => True) (okp := fun _ => True) ?hr ?hp (fun _ hk => hk) trivial (Below.refl _ _) (Nat.le_refl _) (by simp) ?_; (case hd => rfl); (case hg => rfl); (case hr => first | (go_simp; done) | (go_simp; rfl) | (go_simp; simp [IntKind.wrap_u8, IntKind.wrap_u32]; done)); (case hp => exact (Reps.none _ _))
     intro v163 w69 ho70 hb hg_ hnew_
     clear hg_ hnew_
     (first | rw [← Ny162.out] at ho70 | (simp only [Int.reduceToNat] at ho70; rw [← Ny162.out] at ho70))
     have n0_ := Aside0.mk (Kd.R_below (by (with_reducible repeat (first|apply Kd.R_alloc|apply Kd.R_drewN|apply Kd.R_drew)); exact HO_6.out) hb)
     have n1_ := Aside0.mk (Kd.R_elder' (by (with_reducible repeat (first|apply Kd.R_alloc|apply Kd.R_drewN|apply Kd.R_drew)); exact HO_7.out) (Kd.R_base ho70) hb)
     have n2_ := Aside0.mk (Kd.R_below (by (with_reducible repeat (first|apply Kd.R_alloc|apply Kd.R_drewN|apply Kd.R_drew)); exact HO161.out) hb)
     have n3_ := Aside0.mk (Kd.R_lower (Kd.R_new' ho70 (Kd.R_lt (by (with_reducible repeat (first|apply Kd.R_alloc|apply Kd.R_drewN|apply Kd.R_drew)); exact HO_7.out))) (below_size (by repeat (first | (with_reducible first | exact HB.out | apply below_alloc | apply pw_below_drewN | apply below_drew1 | refine below_set ?_ (IsS75.ge HI135.out) | refine below_set ?_ GE137.out) | exact HB.out))))
     have n4_ := Aside0.mk (blk_below (g := gb137) (o := .cells #[.bool ((rd_T62 l0 x8_2).f0), .int .u32 ((rd_T62 l0 x8_2).f1.f0), .int .i64 ((rd_T62 l0 x8_2).f1.f1), .int .i64 ((rd_T62 l0 x8_2).f2)] 62 (0, 0)) (by (with_reducible repeat (first | refine blk_drewN ?_ _ | refine blk_drew ?_ | refine blk_alloc ?_ _)); exact BK137.out) hb)
     have n5_ := Aside0.mk (IsS75.below (by repeat (first | (with_reducible first | exact HI135.out | apply IsS75.alloc | apply IsS75.drewN | apply IsS75.drew | refine IsS75.far ?_ (by (repeat (first | exact (Opq.NP.blk BK137.out (by decide)) | (with_reducible apply Opq.NP.setCell) | (with_reducible apply Opq.NP.drewN) | (with_reducible apply Opq.NP.drew) | (with_reducible apply Opq.NP.alloc))); done) _) | exact HI135.out)) hb)
     have n6_ := Aside0.mk (Kd.C_below (by repeat (first | (with_reducible exact HR151.out) | (with_reducible refine Kd.C_alloc ?_ _) | (with_reducible refine Kd.C_drewN ?_ _) | (with_reducible refine Kd.C_drew ?_) | exact HR151.out)) hb)
     have n7_ := Aside0.mk (Kd.C_below (by repeat (first | (with_reducible exact HR158.out) | (with_reducible refine Kd.C_alloc ?_ _) | (with_reducible refine Kd.C_drewN ?_ _) | (with_reducible refine Kd.C_drew ?_) | exact HR158.out)) hb)
     have n8_ := Aside0.mk (Kd.C_below (by repeat (first | (with_reducible exact HR168.out) | (with_reducible refine Kd.C_alloc ?_ _) | (with_reducible refine Kd.C_drewN ?_ _) | (with_reducible refine Kd.C_drew ?_) | exact HR168.out)) hb)
     have n9_ := Aside0.mk (Kd.C_below (by repeat (first | (with_reducible exact HR175.out) | (with_reducible refine Kd.C_alloc ?_ _) | (with_reducible refine Kd.C_drewN ?_ _) | (with_reducible refine Kd.C_drew ?_) | exact HR175.out)) hb)
     have n10_ := Aside0.mk (below_step (by repeat (first | (with_reducible first | exact HB.out | apply below_alloc | apply pw_below_drewN | apply below_drew1 | refine below_set ?_ (IsS75.ge HI135.out) | refine below_set ?_ GE137.out) | exact HB.out)) hb)
     clear HO_6 HO_7 HO161 BK137 HI135 HR151 HR158 HR168 HR175 HB
     have HO_6 := n0_; have HO_7 := n1_; have HO161 := n2_; have HO164 := n3_; have BK137 := n4_; have HI135 := n5_; have HR151 := n6_; have HR158 := n7_; have HR168 := n8_; have HR175 := n9_; have HB := n10_
     clear n0_ n1_ n2_ n3_ n4_ n5_ n6_ n7_ n8_ n9_ n10_ hb ho70
     refine hK.out _ _ trivial (fun hHeld => ?_)
     clear hK K
     refine norm_ (a' := ?_) ?_ ?_
     rotate_left
     ·show Act.put _ (some 106) _ = _
      simp only [Act.put, q1_, q2_, q3_, i64_w, i32_w]
      rfl
     exact norm_ (by simp only [putAll, Act.put, List.setIfInBounds_toArray, List.set_cons_zero, List.set_cons_succ]) (hCont (v146, v153, v160, v163) _ ⟨(by (with_reducible repeat (first|apply Kd.R_alloc|apply Kd.R_drewN|apply Kd.R_drew)); exact HO161.out), (by (with_reducible repeat (first|apply Kd.R_alloc|apply Kd.R_drewN|apply Kd.R_drew)); exact Kd.R_mono HO164.out (fun _ hk => hk.2)), (by (with_reducible repeat (first|apply Kd.R_alloc|apply Kd.R_drewN|apply Kd.R_drew)); exact Kd.R_mono HO_6.out (fun _ hk => hk.2)), (by (with_reducible repeat (first|apply Kd.R_alloc|apply Kd.R_drewN|apply Kd.R_drew)); exact Kd.R_mono HO_7.out (fun _ hk => hk.2)), (by (with_reducible repeat (first | refine blk_drewN ?_ _ | refine blk_drew ?_ | refine blk_alloc ?_ _)); exact BK137.out), (by repeat (first | (with_reducible exact HR151.out) | (with_reducible refine Kd.C_alloc ?_ _) | (with_reducible refine Kd.C_drewN ?_ _) | (with_reducible refine Kd.C_drew ?_) | exact HR151.out)), (by repeat (first | (with_reducible exact HR158.out) | (with_reducible refine Kd.C_alloc ?_ _) | (with_reducible refine Kd.C_drewN ?_ _) | (with_reducible refine Kd.C_drew ?_) | exact HR158.out)), (by repeat (first | (with_reducible exact HR168.out) | (with_reducible refine Kd.C_alloc ?_ _) | (with_reducible refine Kd.C_drewN ?_ _) | (with_reducible refine Kd.C_drew ?_) | exact HR168.out)), (by repeat (first | (with_reducible exact HR175.out) | (with_reducible refine Kd.C_alloc ?_ _) | (with_reducible refine Kd.C_drewN ?_ _) | (with_reducible refine Kd.C_drew ?_) | exact HR175.out)), (by repeat (first | (with_reducible first | exact HI135.out | apply IsS75.alloc | apply IsS75.drewN | apply IsS75.drew | refine IsS75.far ?_ (by (repeat (first | exact (Opq.NP.blk BK137.out (by decide)) | (with_reducible apply Opq.NP.setCell) | (with_reducible apply Opq.NP.drewN) | (with_reducible apply Opq.NP.drew) | (with_reducible apply Opq.NP.alloc))); done) _) | exact HI135.out)), (by repeat (first | (with_reducible first | exact HB.out | apply below_alloc | apply pw_below_drewN | apply below_drew1 | refine below_set ?_ (IsS75.ge HI135.out) | refine below_set ?_ GE137.out) | exact HB.out))⟩)
    skip
    refine Kd.R_lit_step (Kd.int .i64) _ 3 ?hg (N := 106) ?hd (xs := ([] : List Int)) (inner := []) (ok := fun _ => True) (okp := fun _ => True) ?hr ?hp (fun _ hk => hk) trivial (Below.refl _ _) (Nat.le_refl _) (by simp) ?_; (case hd => rfl); (case hg => rfl); (case hr => first | (go_simp; done) | (go_simp; rfl) | (go_simp; simp [IntKind.wrap_u8, IntKind.wrap_u32]; done)); (case hp => exact (Reps.none _ _))
    intro v163 w68 ho69 hb hg_ hnew_
    clear hg_ hnew_
    (first | rw [← Ny162.out] at ho69 | (simp only [Int.reduceToNat] at ho69; rw [← Ny162.out] at ho69))
    have n0_ := Aside0.mk (Kd.R_below (by (with_reducible repeat (first|apply Kd.R_alloc|apply Kd.R_drewN|apply Kd.R_drew)); exact HO_6.out) hb)
    have n1_ := Aside0.mk (Kd.R_elder' (by (with_reducible repeat (first|apply Kd.R_alloc|apply Kd.R_drewN|apply Kd.R_drew)); exact HO_7.out) (Kd.R_base ho69) hb)
    have n2_ := Aside0.mk (Kd.R_below (by (with_reducible repeat (first|apply Kd.R_alloc|apply Kd.R_drewN|apply Kd.R_drew)); exact HO154.out) hb)
    have n3_ := Aside0.mk (Kd.R_lower (Kd.R_new' ho69 (Kd.R_lt (by (with_reducible repeat (first|apply Kd.R_alloc|apply Kd.R_drewN|apply Kd.R_drew)); exact HO_7.out))) (below_size (by repeat (first | (with_reducible first | exact HB.out | apply below_alloc | apply pw_below_drewN | apply below_drew1 | refine below_set ?_ (IsS75.ge HI135.out) | refine below_set ?_ GE137.out) | exact HB.out))))
    have n4_ := Aside0.mk (blk_below (g := gb137) (o := .cells #[.bool ((rd_T62 l0 x8_2).f0), .int .u32 ((rd_T62 l0 x8_2).f1.f0), .int .i64 ((rd_T62 l0 x8_2).f1.f1), .int .i64 ((rd_T62 l0 x8_2).f2)] 62 (0, 0)) (by (with_reducible repeat (first | refine blk_drewN ?_ _ | refine blk_drew ?_ | refine blk_alloc ?_ _)); exact BK137.out) hb)
    have n5_ := Aside0.mk (IsS75.below (by repeat (first | (with_reducible first | exact HI135.out | apply IsS75.alloc | apply IsS75.drewN | apply IsS75.drew | refine IsS75.far ?_ (by (repeat (first | exact (Opq.NP.blk BK137.out (by decide)) | (with_reducible apply Opq.NP.setCell) | (with_reducible apply Opq.NP.drewN) | (with_reducible apply Opq.NP.drew) | (with_reducible apply Opq.NP.alloc))); done) _) | exact HI135.out)) hb)
    have n6_ := Aside0.mk (Kd.C_below (by repeat (first | (with_reducible exact HR151.out) | (with_reducible refine Kd.C_alloc ?_ _) | (with_reducible refine Kd.C_drewN ?_ _) | (with_reducible refine Kd.C_drew ?_) | exact HR151.out)) hb)
    have n7_ := Aside0.mk (Kd.C_below (by repeat (first | (with_reducible exact HR158.out) | (with_reducible refine Kd.C_alloc ?_ _) | (with_reducible refine Kd.C_drewN ?_ _) | (with_reducible refine Kd.C_drew ?_) | exact HR158.out)) hb)
    have n8_ := Aside0.mk (Kd.C_below (by repeat (first | (with_reducible exact HR168.out) | (with_reducible refine Kd.C_alloc ?_ _) | (with_reducible refine Kd.C_drewN ?_ _) | (with_reducible refine Kd.C_drew ?_) | exact HR168.out)) hb)
    have n9_ := Aside0.mk (Kd.C_below (by repeat (first | (with_reducible exact HR175.out) | (with_reducible refine Kd.C_alloc ?_ _) | (with_reducible refine Kd.C_drewN ?_ _) | (with_reducible refine Kd.C_drew ?_) | exact HR175.out)) hb)
    have n10_ := Aside0.mk (below_step (by repeat (first | (with_reducible first | exact HB.out | apply below_alloc | apply pw_below_drewN | apply below_drew1 | refine below_set ?_ (IsS75.ge HI135.out) | refine below_set ?_ GE137.out) | exact HB.out)) hb)
    clear HO_6 HO_7 HO154 BK137 HI135 HR151 HR158 HR168 HR175 HB
    have HO_6 := n0_; have HO_7 := n1_; have HO154 := n2_; have HO164 := n3_; have BK137 := n4_; have HI135 := n5_; have HR151 := n6_; have HR158 := n7_; have HR168 := n8_; have HR175 := n9_; have HB := n10_
    clear n0_ n1_ n2_ n3_ n4_ n5_ n6_ n7_ n8_ n9_ n10_ hb ho69
    refine hK.out _ _ trivial (fun hHeld => ?_)
    clear hK K
    refine norm_ (a' := ?_) ?_ ?_
    rotate_left
    ·show Act.put _ (some 106) _ = _
     simp only [Act.put, q1_, q2_, q3_, i64_w, i32_w]
     rfl
    refine one_ (i := 9) (N := some 105) #[T_,T_,T_,T_,T_,T_,T_,T_,T_,T_,T_,T_,T_,T_,F_,T_,T_,T_,T_,F_,F_,F_] rfl rfl (one_of HT_.out (by kernel_rfl)) (by decide) (fun K hK => ?_)
    refine Kd.R_append_rows_step k47 (w0 := w) w.heap.size (by rfl) (.tmp 100) (.tmp 104) 54 47 (.agg #[(.int .u32 0), (.int .i64 0)]) 16 rfl Try.underlying54 info47 rfl (by decide) (by omega) v153 y152 y155 _ _ _ (fun k_ => some k_ ≠ (.slice Ao24 x6_2.length co24 : Value).ownBlock) (fun _ => False) rfl rfl ?aO ?aR (fun _ _ h => h) (fun _ h => h.elim) ?aF ?aB ?aS ?aL ?_
    (case aR => repeat (first | exact (by repeat (first | (with_reducible exact HR158.out) | (with_reducible refine Kd.C_alloc ?_ _) | (with_reducible refine Kd.C_drewN ?_ _) | (with_reducible refine Kd.C_drew ?_) | exact HR158.out)) | (with_reducible refine Kd.C_alloc ?_ _) | (with_reducible refine Kd.C_drewN ?_ _) | (with_reducible refine Kd.C_drew ?_)))
    (case aB => exact (by repeat (first | (with_reducible first | exact HB.out | apply below_alloc | apply pw_below_drewN | apply below_drew1 | refine below_set ?_ (IsS75.ge HI135.out) | refine below_set ?_ GE137.out) | exact HB.out)))
    (case aF => exact (fun k_ hk => Kd.fresh' (Kd.R_lt (by (with_reducible repeat (first|apply Kd.R_alloc|apply Kd.R_drewN|apply Kd.R_drew)); exact HO_6.out)) k_ hk))
    (case aO => exact (by (with_reducible repeat (first|apply Kd.R_alloc|apply Kd.R_drewN|apply Kd.R_drew)); exact HO154.out))
    (case aS => exact (below_size (by repeat (first | (with_reducible first | exact HB.out | apply below_alloc | apply pw_below_drewN | apply below_drew1 | refine below_set ?_ (IsS75.ge HI135.out) | refine below_set ?_ GE137.out) | exact HB.out))))
    (case aL => have := LMc49.out; omega)
    intro v160 w70 ho hb hg hat
    rw [← Ny159.out] at ho
    have n0_ := Aside0.mk (Kd.R_after (ok := (fun _ => True)) (by (with_reducible repeat (first|apply Kd.R_alloc|apply Kd.R_drewN|apply Kd.R_drew)); exact HO_6.out) hg hat)
    have n1_ := Aside0.mk (Kd.R_over' (by (with_reducible repeat (first|apply Kd.R_alloc|apply Kd.R_drewN|apply Kd.R_drew)); exact HO_7.out) (Kd.R_typed (by (with_reducible repeat (first|apply Kd.R_alloc|apply Kd.R_drewN|apply Kd.R_drew)); exact HO154.out)) (by decide) hg)
    have n2_ := Aside0.mk (blk_grown (g := gb137) (o := .cells #[.bool ((rd_T62 l0 x8_2).f0), .int .u32 ((rd_T62 l0 x8_2).f1.f0), .int .i64 ((rd_T62 l0 x8_2).f1.f1), .int .i64 ((rd_T62 l0 x8_2).f2)] 62 (0, 0)) (by (with_reducible repeat (first | refine blk_drewN ?_ _ | refine blk_drew ?_ | refine blk_alloc ?_ _)); exact BK137.out) hg (Kd.R_ne HO154.out BK137.out (by decide)))
    have n3_ := Aside0.mk (IsS75.grown (by repeat (first | (with_reducible first | exact HI135.out | apply IsS75.alloc | apply IsS75.drewN | apply IsS75.drew | refine IsS75.far ?_ (by (repeat (first | exact (Opq.NP.blk BK137.out (by decide)) | (with_reducible apply Opq.NP.setCell) | (with_reducible apply Opq.NP.drewN) | (with_reducible apply Opq.NP.drew) | (with_reducible apply Opq.NP.alloc))); done) _) | exact HI135.out)) hg (by (repeat (first | exact (Opq.NPr.typed (Kd.R_typed HO154.out) (by decide)) | (with_reducible apply Opq.NPr.setCell) | (with_reducible apply Opq.NPr.drewN) | (with_reducible apply Opq.NPr.drew) | (with_reducible apply Opq.NPr.alloc))); done))
    have n4_ := Aside0.mk (Kd.R_over' (by (with_reducible repeat (first|apply Kd.R_alloc|apply Kd.R_drewN|apply Kd.R_drew)); exact HO164.out) (Kd.R_typed (by (with_reducible repeat (first|apply Kd.R_alloc|apply Kd.R_drewN|apply Kd.R_drew)); exact HO154.out)) (by decide) hg)
    have n5_ := Aside0.mk (hb)
    have n6_ := Aside0.mk ((show Kd.C k47 w70 Ao24 y148.length y148 from by rw [Ny148.out]; exact Kd.C_take (m := (x10_3 : Int).toNat) ((Kd.R_reads' (Kd.R_after (ok := (fun _ => True)) (by (with_reducible repeat (first|apply Kd.R_alloc|apply Kd.R_drewN|apply Kd.R_drew)); exact HO_6.out) hg hat)).2.2) KL60.out))
    have n7_ := Aside0.mk ((show Kd.C k47 w70 A61 y155.length y155 from by rw [Ny155.out, KA61.out]; exact Kd.C_drop (m := ((ji46) : Int).toNat) (c := co24) ((Kd.R_reads' (Kd.R_after (ok := (fun _ => True)) (by (with_reducible repeat (first|apply Kd.R_alloc|apply Kd.R_drewN|apply Kd.R_drew)); exact HO_6.out) hg hat)).2.2) KL61.out ((Kd.R_reads' (Kd.R_after (ok := (fun _ => True)) (by (with_reducible repeat (first|apply Kd.R_alloc|apply Kd.R_drewN|apply Kd.R_drew)); exact HO_6.out) hg hat)).2.1)))
    have n8_ := Aside0.mk ((show Kd.C (Kd.int .i64) w70 Ao63 y165.length y165 from by rw [Ny165.out]; exact Kd.C_take (m := (x10_3 : Int).toNat) ((Kd.R_reads' (Kd.R_over' (by (with_reducible repeat (first|apply Kd.R_alloc|apply Kd.R_drewN|apply Kd.R_drew)); exact HO_7.out) (Kd.R_typed (by (with_reducible repeat (first|apply Kd.R_alloc|apply Kd.R_drewN|apply Kd.R_drew)); exact HO154.out)) (by decide) hg)).2.2) KL62.out))
    have n9_ := Aside0.mk ((show Kd.C (Kd.int .i64) w70 A64 y172.length y172 from by rw [Ny172.out, KA64.out]; exact Kd.C_drop (m := ((ji46) : Int).toNat) (c := co63) ((Kd.R_reads' (Kd.R_over' (by (with_reducible repeat (first|apply Kd.R_alloc|apply Kd.R_drewN|apply Kd.R_drew)); exact HO_7.out) (Kd.R_typed (by (with_reducible repeat (first|apply Kd.R_alloc|apply Kd.R_drewN|apply Kd.R_drew)); exact HO154.out)) (by decide) hg)).2.2) KL64.out ((Kd.R_reads' (Kd.R_over' (by (with_reducible repeat (first|apply Kd.R_alloc|apply Kd.R_drewN|apply Kd.R_drew)); exact HO_7.out) (Kd.R_typed (by (with_reducible repeat (first|apply Kd.R_alloc|apply Kd.R_drewN|apply Kd.R_drew)); exact HO154.out)) (by decide) hg)).2.1)))
    have n10_ := Aside0.mk (ho)
    clear HO_6 HO_7 BK137 HI135 HO164 HB HR151 HR158 HR168 HR175 HO154
    have HO_6 := n0_; have HO_7 := n1_; have BK137 := n2_; have HI135 := n3_; have HO164 := n4_; have HB := n5_; have HR151 := n6_; have HR158 := n7_; have HR168 := n8_; have HR175 := n9_; have HO161 := n10_
    clear n0_ n1_ n2_ n3_ n4_ n5_ n6_ n7_ n8_ n9_ n10_ ho hb hg hat
    refine hK.out _ _ trivial (fun hHeld => ?_)
    clear hK K
    refine norm_ (a' := ?_) ?_ ?_
    rotate_left
    ·show Act.put _ (some 105) _ = _
     simp only [Act.put, q1_, q2_, q3_, i64_w, i32_w]
     rfl
    exact norm_ (by simp only [putAll, Act.put, List.setIfInBounds_toArray, List.set_cons_zero, List.set_cons_succ]) (hCont (v146, v153, v160, v163) _ ⟨(by (with_reducible repeat (first|apply Kd.R_alloc|apply Kd.R_drewN|apply Kd.R_drew)); exact HO161.out), (by (with_reducible repeat (first|apply Kd.R_alloc|apply Kd.R_drewN|apply Kd.R_drew)); exact Kd.R_mono HO164.out (fun _ hk => hk.2)), (by (with_reducible repeat (first|apply Kd.R_alloc|apply Kd.R_drewN|apply Kd.R_drew)); exact Kd.R_mono HO_6.out (fun _ hk => hk.2)), (by (with_reducible repeat (first|apply Kd.R_alloc|apply Kd.R_drewN|apply Kd.R_drew)); exact Kd.R_mono HO_7.out (fun _ hk => hk.2)), (by (with_reducible repeat (first | refine blk_drewN ?_ _ | refine blk_drew ?_ | refine blk_alloc ?_ _)); exact BK137.out), (by repeat (first | (with_reducible exact HR151.out) | (with_reducible refine Kd.C_alloc ?_ _) | (with_reducible refine Kd.C_drewN ?_ _) | (with_reducible refine Kd.C_drew ?_) | exact HR151.out)), (by repeat (first | (with_reducible exact HR158.out) | (with_reducible refine Kd.C_alloc ?_ _) | (with_reducible refine Kd.C_drewN ?_ _) | (with_reducible refine Kd.C_drew ?_) | exact HR158.out)), (by repeat (first | (with_reducible exact HR168.out) | (with_reducible refine Kd.C_alloc ?_ _) | (with_reducible refine Kd.C_drewN ?_ _) | (with_reducible refine Kd.C_drew ?_) | exact HR168.out)), (by repeat (first | (with_reducible exact HR175.out) | (with_reducible refine Kd.C_alloc ?_ _) | (with_reducible refine Kd.C_drewN ?_ _) | (with_reducible refine Kd.C_drew ?_) | exact HR175.out)), (by repeat (first | (with_reducible first | exact HI135.out | apply IsS75.alloc | apply IsS75.drewN | apply IsS75.drew | refine IsS75.far ?_ (by (repeat (first | exact (Opq.NP.blk BK137.out (by decide)) | (with_reducible apply Opq.NP.setCell) | (with_reducible apply Opq.NP.drewN) | (with_reducible apply Opq.NP.drew) | (with_reducible apply Opq.NP.alloc))); done) _) | exact HI135.out)), (by repeat (first | (with_reducible first | exact HB.out | apply below_alloc | apply pw_below_drewN | apply below_drew1 | refine below_set ?_ (IsS75.ge HI135.out) | refine below_set ?_ GE137.out) | exact HB.out))⟩)
   skip
   refine Kd.R_lit_step (Kd.int .i64) _ 3 ?hg (N := 106) ?hd (xs := ([] : List Int)) (inner := []) (ok := fun _ => True) (okp := fun _ => True) ?hr ?hp (fun _ hk => hk) trivial (Below.refl _ _) (Nat.le_refl _) (by simp) ?_; (case hd => rfl); (case hg => rfl); (case hr => first | (go_simp; done) | (go_simp; rfl) | (go_simp; simp [IntKind.wrap_u8, IntKind.wrap_u32]; done)); (case hp => exact (Reps.none _ _))
   intro v163 w67 ho68 hb hg_ hnew_
   clear hg_ hnew_
   (first | rw [← Ny162.out] at ho68 | (simp only [Int.reduceToNat] at ho68; rw [← Ny162.out] at ho68))
   have n0_ := Aside0.mk (Kd.R_below (by (with_reducible repeat (first|apply Kd.R_alloc|apply Kd.R_drewN|apply Kd.R_drew)); exact HO_6.out) hb)
   have n1_ := Aside0.mk (Kd.R_elder' (by (with_reducible repeat (first|apply Kd.R_alloc|apply Kd.R_drewN|apply Kd.R_drew)); exact HO_7.out) (Kd.R_base ho68) hb)
   have n2_ := Aside0.mk (Kd.R_below (by (with_reducible repeat (first|apply Kd.R_alloc|apply Kd.R_drewN|apply Kd.R_drew)); exact HO147.out) hb)
   have n3_ := Aside0.mk (Kd.R_lower (Kd.R_new' ho68 (Kd.R_lt (by (with_reducible repeat (first|apply Kd.R_alloc|apply Kd.R_drewN|apply Kd.R_drew)); exact HO_7.out))) (below_size (by repeat (first | (with_reducible first | exact HB.out | apply below_alloc | apply pw_below_drewN | apply below_drew1 | refine below_set ?_ (IsS75.ge HI135.out) | refine below_set ?_ GE137.out) | exact HB.out))))
   have n4_ := Aside0.mk (blk_below (g := gb137) (o := .cells #[.bool ((rd_T62 l0 x8_2).f0), .int .u32 ((rd_T62 l0 x8_2).f1.f0), .int .i64 ((rd_T62 l0 x8_2).f1.f1), .int .i64 ((rd_T62 l0 x8_2).f2)] 62 (0, 0)) (by (with_reducible repeat (first | refine blk_drewN ?_ _ | refine blk_drew ?_ | refine blk_alloc ?_ _)); exact BK137.out) hb)
   have n5_ := Aside0.mk (IsS75.below (by repeat (first | (with_reducible first | exact HI135.out | apply IsS75.alloc | apply IsS75.drewN | apply IsS75.drew | refine IsS75.far ?_ (by (repeat (first | exact (Opq.NP.blk BK137.out (by decide)) | (with_reducible apply Opq.NP.setCell) | (with_reducible apply Opq.NP.drewN) | (with_reducible apply Opq.NP.drew) | (with_reducible apply Opq.NP.alloc))); done) _) | exact HI135.out)) hb)
   have n6_ := Aside0.mk (Kd.C_below (by repeat (first | (with_reducible exact HR151.out) | (with_reducible refine Kd.C_alloc ?_ _) | (with_reducible refine Kd.C_drewN ?_ _) | (with_reducible refine Kd.C_drew ?_) | exact HR151.out)) hb)
   have n7_ := Aside0.mk (Kd.C_below (by repeat (first | (with_reducible exact HR158.out) | (with_reducible refine Kd.C_alloc ?_ _) | (with_reducible refine Kd.C_drewN ?_ _) | (with_reducible refine Kd.C_drew ?_) | exact HR158.out)) hb)
   have n8_ := Aside0.mk (Kd.C_below (by repeat (first | (with_reducible exact HR168.out) | (with_reducible refine Kd.C_alloc ?_ _) | (with_reducible refine Kd.C_drewN ?_ _) | (with_reducible refine Kd.C_drew ?_) | exact HR168.out)) hb)
   have n9_ := Aside0.mk (Kd.C_below (by repeat (first | (with_reducible exact HR175.out) | (with_reducible refine Kd.C_alloc ?_ _) | (with_reducible refine Kd.C_drewN ?_ _) | (with_reducible refine Kd.C_drew ?_) | exact HR175.out)) hb)
   have n10_ := Aside0.mk (below_step (by repeat (first | (with_reducible first | exact HB.out | apply below_alloc | apply pw_below_drewN | apply below_drew1 | refine below_set ?_ (IsS75.ge HI135.out) | refine below_set ?_ GE137.out) | exact HB.out)) hb)
   clear HO_6 HO_7 HO147 BK137 HI135 HR151 HR158 HR168 HR175 HB
   have HO_6 := n0_; have HO_7 := n1_; have HO147 := n2_; have HO164 := n3_; have BK137 := n4_; have HI135 := n5_; have HR151 := n6_; have HR158 := n7_; have HR168 := n8_; have HR175 := n9_; have HB := n10_
   clear n0_ n1_ n2_ n3_ n4_ n5_ n6_ n7_ n8_ n9_ n10_ hb ho68
   refine hK.out _ _ trivial (fun hHeld => ?_)
   clear hK K
   refine norm_ (a' := ?_) ?_ ?_
   rotate_left
   ·show Act.put _ (some 106) _ = _
    simp only [Act.put, q1_, q2_, q3_, i64_w, i32_w]
    rfl
   refine one_ (i := 4) (N := some 100) #[T_,T_,T_,T_,T_,T_,T_,T_,T_,F_,T_,T_,T_,T_,F_,T_,T_,T_,T_,F_,F_,F_] rfl rfl (one_of HT_.out (by kernel_rfl)) (by decide) (fun K hK => ?_)
   refine Kd.R_append_rows_step k47 (w0 := w) w.heap.size (by rfl) (.tmp 96) (.tmp 99) 54 47 (.agg #[(.int .u32 0), (.int .i64 0)]) 16 rfl Try.underlying54 info47 rfl (by decide) (by omega) v146 y145 y148 _ _ _ (fun k_ => some k_ ≠ (.slice Ao24 x6_2.length co24 : Value).ownBlock) (fun _ => False) rfl rfl ?aO ?aR (fun _ _ h => h) (fun _ h => h.elim) ?aF ?aB ?aS ?aL ?_
   (case aR => repeat (first | exact (by repeat (first | (with_reducible exact HR151.out) | (with_reducible refine Kd.C_alloc ?_ _) | (with_reducible refine Kd.C_drewN ?_ _) | (with_reducible refine Kd.C_drew ?_) | exact HR151.out)) | (with_reducible refine Kd.C_alloc ?_ _) | (with_reducible refine Kd.C_drewN ?_ _) | (with_reducible refine Kd.C_drew ?_)))
   (case aB => exact (by repeat (first | (with_reducible first | exact HB.out | apply below_alloc | apply pw_below_drewN | apply below_drew1 | refine below_set ?_ (IsS75.ge HI135.out) | refine below_set ?_ GE137.out) | exact HB.out)))
   (case aF => exact (fun k_ hk => Kd.fresh' (Kd.R_lt (by (with_reducible repeat (first|apply Kd.R_alloc|apply Kd.R_drewN|apply Kd.R_drew)); exact HO_6.out)) k_ hk))
   (case aO => exact (by (with_reducible repeat (first|apply Kd.R_alloc|apply Kd.R_drewN|apply Kd.R_drew)); exact Kd.R_mono HO147.out (fun _ hk => hk.2)))
   (case aS => exact (below_size (by repeat (first | (with_reducible first | exact HB.out | apply below_alloc | apply pw_below_drewN | apply below_drew1 | refine below_set ?_ (IsS75.ge HI135.out) | refine below_set ?_ GE137.out) | exact HB.out))))
   (case aL => have := LMc45.out; omega)
   intro v153 w69 ho hb hg hat
   rw [← Ny152.out] at ho
   have n0_ := Aside0.mk (Kd.R_after (ok := (fun _ => True)) (by (with_reducible repeat (first|apply Kd.R_alloc|apply Kd.R_drewN|apply Kd.R_drew)); exact HO_6.out) hg hat)
   have n1_ := Aside0.mk (Kd.R_over' (by (with_reducible repeat (first|apply Kd.R_alloc|apply Kd.R_drewN|apply Kd.R_drew)); exact HO_7.out) (Kd.R_typed (by (with_reducible repeat (first|apply Kd.R_alloc|apply Kd.R_drewN|apply Kd.R_drew)); exact HO147.out)) (by decide) hg)
   have n2_ := Aside0.mk (blk_grown (g := gb137) (o := .cells #[.bool ((rd_T62 l0 x8_2).f0), .int .u32 ((rd_T62 l0 x8_2).f1.f0), .int .i64 ((rd_T62 l0 x8_2).f1.f1), .int .i64 ((rd_T62 l0 x8_2).f2)] 62 (0, 0)) (by (with_reducible repeat (first | refine blk_drewN ?_ _ | refine blk_drew ?_ | refine blk_alloc ?_ _)); exact BK137.out) hg (Kd.R_ne HO147.out BK137.out (by decide)))
   have n3_ := Aside0.mk (IsS75.grown (by repeat (first | (with_reducible first | exact HI135.out | apply IsS75.alloc | apply IsS75.drewN | apply IsS75.drew | refine IsS75.far ?_ (by (repeat (first | exact (Opq.NP.blk BK137.out (by decide)) | (with_reducible apply Opq.NP.setCell) | (with_reducible apply Opq.NP.drewN) | (with_reducible apply Opq.NP.drew) | (with_reducible apply Opq.NP.alloc))); done) _) | exact HI135.out)) hg (by (repeat (first | exact (Opq.NPr.typed (Kd.R_typed HO147.out) (by decide)) | (with_reducible apply Opq.NPr.setCell) | (with_reducible apply Opq.NPr.drewN) | (with_reducible apply Opq.NPr.drew) | (with_reducible apply Opq.NPr.alloc))); done))
   have n4_ := Aside0.mk (Kd.R_over' (by (with_reducible repeat (first|apply Kd.R_alloc|apply Kd.R_drewN|apply Kd.R_drew)); exact HO164.out) (Kd.R_typed (by (with_reducible repeat (first|apply Kd.R_alloc|apply Kd.R_drewN|apply Kd.R_drew)); exact HO147.out)) (by decide) hg)
   have n5_ := Aside0.mk (hb)
   have n6_ := Aside0.mk ((show Kd.C k47 w69 Ao24 y148.length y148 from by rw [Ny148.out]; exact Kd.C_take (m := (x10_3 : Int).toNat) ((Kd.R_reads' (Kd.R_after (ok := (fun _ => True)) (by (with_reducible repeat (first|apply Kd.R_alloc|apply Kd.R_drewN|apply Kd.R_drew)); exact HO_6.out) hg hat)).2.2) KL60.out))
   have n7_ := Aside0.mk ((show Kd.C k47 w69 A61 y155.length y155 from by rw [Ny155.out, KA61.out]; exact Kd.C_drop (m := ((ji46) : Int).toNat) (c := co24) ((Kd.R_reads' (Kd.R_after (ok := (fun _ => True)) (by (with_reducible repeat (first|apply Kd.R_alloc|apply Kd.R_drewN|apply Kd.R_drew)); exact HO_6.out) hg hat)).2.2) KL61.out ((Kd.R_reads' (Kd.R_after (ok := (fun _ => True)) (by (with_reducible repeat (first|apply Kd.R_alloc|apply Kd.R_drewN|apply Kd.R_drew)); exact HO_6.out) hg hat)).2.1)))
   have n8_ := Aside0.mk ((show Kd.C (Kd.int .i64) w69 Ao63 y165.length y165 from by rw [Ny165.out]; exact Kd.C_take (m := (x10_3 : Int).toNat) ((Kd.R_reads' (Kd.R_over' (by (with_reducible repeat (first|apply Kd.R_alloc|apply Kd.R_drewN|apply Kd.R_drew)); exact HO_7.out) (Kd.R_typed (by (with_reducible repeat (first|apply Kd.R_alloc|apply Kd.R_drewN|apply Kd.R_drew)); exact HO147.out)) (by decide) hg)).2.2) KL62.out))
   have n9_ := Aside0.mk ((show Kd.C (Kd.int .i64) w69 A64 y172.length y172 from by rw [Ny172.out, KA64.out]; exact Kd.C_drop (m := ((ji46) : Int).toNat) (c := co63) ((Kd.R_reads' (Kd.R_over' (by (with_reducible repeat (first|apply Kd.R_alloc|apply Kd.R_drewN|apply Kd.R_drew)); exact HO_7.out) (Kd.R_typed (by (with_reducible repeat (first|apply Kd.R_alloc|apply Kd.R_drewN|apply Kd.R_drew)); exact HO147.out)) (by decide) hg)).2.2) KL64.out ((Kd.R_reads' (Kd.R_over' (by (with_reducible repeat (first|apply Kd.R_alloc|apply Kd.R_drewN|apply Kd.R_drew)); exact HO_7.out) (Kd.R_typed (by (with_reducible repeat (first|apply Kd.R_alloc|apply Kd.R_drewN|apply Kd.R_drew)); exact HO147.out)) (by decide) hg)).2.1)))
   have n10_ := Aside0.mk (ho)
   clear HO_6 HO_7 BK137 HI135 HO164 HB HR151 HR158 HR168 HR175 HO147
   have HO_6 := n0_; have HO_7 := n1_; have BK137 := n2_; have HI135 := n3_; have HO164 := n4_; have HB := n5_; have HR151 := n6_; have HR158 := n7_; have HR168 := n8_; have HR175 := n9_; have HO154 := n10_
   clear n0_ n1_ n2_ n3_ n4_ n5_ n6_ n7_ n8_ n9_ n10_ ho hb hg hat
   refine hK.out _ _ trivial (fun hHeld => ?_)
   clear hK K
   refine norm_ (a' := ?_) ?_ ?_
   rotate_left
   ·show Act.put _ (some 100) _ = _
    simp only [Act.put, q1_, q2_, q3_, i64_w, i32_w]
    rfl
   refine one_ (i := 9) (N := some 105) #[T_,T_,T_,T_,T_,T_,T_,T_,T_,T_,T_,T_,T_,T_,F_,T_,T_,T_,T_,F_,F_,F_] rfl rfl (one_of HT_.out (by kernel_rfl)) (by decide) (fun K hK => ?_)
   refine Kd.R_append_rows_step k47 (w0 := w) w.heap.size (by rfl) (.tmp 100) (.tmp 104) 54 47 (.agg #[(.int .u32 0), (.int .i64 0)]) 16 rfl Try.underlying54 info47 rfl (by decide) (by omega) v153 y152 y155 _ _ _ (fun k_ => some k_ ≠ (.slice Ao24 x6_2.length co24 : Value).ownBlock) (fun _ => False) rfl rfl ?aO ?aR (fun _ _ h => h) (fun _ h => h.elim) ?aF ?aB ?aS ?aL ?_
   (case aR => repeat (first | exact (by repeat (first | (with_reducible exact HR158.out) | (with_reducible refine Kd.C_alloc ?_ _) | (with_reducible refine Kd.C_drewN ?_ _) | (with_reducible refine Kd.C_drew ?_) | exact HR158.out)) | (with_reducible refine Kd.C_alloc ?_ _) | (with_reducible refine Kd.C_drewN ?_ _) | (with_reducible refine Kd.C_drew ?_)))
   (case aB => exact (by repeat (first | (with_reducible first | exact HB.out | apply below_alloc | apply pw_below_drewN | apply below_drew1 | refine below_set ?_ (IsS75.ge HI135.out) | refine below_set ?_ GE137.out) | exact HB.out)))
   (case aF => exact (fun k_ hk => Kd.fresh' (Kd.R_lt (by (with_reducible repeat (first|apply Kd.R_alloc|apply Kd.R_drewN|apply Kd.R_drew)); exact HO_6.out)) k_ hk))
   (case aO => exact (by (with_reducible repeat (first|apply Kd.R_alloc|apply Kd.R_drewN|apply Kd.R_drew)); exact HO154.out))
   (case aS => exact (below_size (by repeat (first | (with_reducible first | exact HB.out | apply below_alloc | apply pw_below_drewN | apply below_drew1 | refine below_set ?_ (IsS75.ge HI135.out) | refine below_set ?_ GE137.out) | exact HB.out))))
   (case aL => have := LMc49.out; omega)
   intro v160 w70 ho hb hg hat
   rw [← Ny159.out] at ho
   have n0_ := Aside0.mk (Kd.R_after (ok := (fun _ => True)) (by (with_reducible repeat (first|apply Kd.R_alloc|apply Kd.R_drewN|apply Kd.R_drew)); exact HO_6.out) hg hat)
   have n1_ := Aside0.mk (Kd.R_over' (by (with_reducible repeat (first|apply Kd.R_alloc|apply Kd.R_drewN|apply Kd.R_drew)); exact HO_7.out) (Kd.R_typed (by (with_reducible repeat (first|apply Kd.R_alloc|apply Kd.R_drewN|apply Kd.R_drew)); exact HO154.out)) (by decide) hg)
   have n2_ := Aside0.mk (blk_grown (g := gb137) (o := .cells #[.bool ((rd_T62 l0 x8_2).f0), .int .u32 ((rd_T62 l0 x8_2).f1.f0), .int .i64 ((rd_T62 l0 x8_2).f1.f1), .int .i64 ((rd_T62 l0 x8_2).f2)] 62 (0, 0)) (by (with_reducible repeat (first | refine blk_drewN ?_ _ | refine blk_drew ?_ | refine blk_alloc ?_ _)); exact BK137.out) hg (Kd.R_ne HO154.out BK137.out (by decide)))
   have n3_ := Aside0.mk (IsS75.grown (by repeat (first | (with_reducible first | exact HI135.out | apply IsS75.alloc | apply IsS75.drewN | apply IsS75.drew | refine IsS75.far ?_ (by (repeat (first | exact (Opq.NP.blk BK137.out (by decide)) | (with_reducible apply Opq.NP.setCell) | (with_reducible apply Opq.NP.drewN) | (with_reducible apply Opq.NP.drew) | (with_reducible apply Opq.NP.alloc))); done) _) | exact HI135.out)) hg (by (repeat (first | exact (Opq.NPr.typed (Kd.R_typed HO154.out) (by decide)) | (with_reducible apply Opq.NPr.setCell) | (with_reducible apply Opq.NPr.drewN) | (with_reducible apply Opq.NPr.drew) | (with_reducible apply Opq.NPr.alloc))); done))
   have n4_ := Aside0.mk (Kd.R_over' (by (with_reducible repeat (first|apply Kd.R_alloc|apply Kd.R_drewN|apply Kd.R_drew)); exact HO164.out) (Kd.R_typed (by (with_reducible repeat (first|apply Kd.R_alloc|apply Kd.R_drewN|apply Kd.R_drew)); exact HO154.out)) (by decide) hg)
   have n5_ := Aside0.mk (hb)
   have n6_ := Aside0.mk ((show Kd.C k47 w70 Ao24 y148.length y148 from by rw [Ny148.out]; exact Kd.C_take (m := (x10_3 : Int).toNat) ((Kd.R_reads' (Kd.R_after (ok := (fun _ => True)) (by (with_reducible repeat (first|apply Kd.R_alloc|apply Kd.R_drewN|apply Kd.R_drew)); exact HO_6.out) hg hat)).2.2) KL60.out))
   have n7_ := Aside0.mk ((show Kd.C k47 w70 A61 y155.length y155 from by rw [Ny155.out, KA61.out]; exact Kd.C_drop (m := ((ji46) : Int).toNat) (c := co24) ((Kd.R_reads' (Kd.R_after (ok := (fun _ => True)) (by (with_reducible repeat (first|apply Kd.R_alloc|apply Kd.R_drewN|apply Kd.R_drew)); exact HO_6.out) hg hat)).2.2) KL61.out ((Kd.R_reads' (Kd.R_after (ok := (fun _ => True)) (by (with_reducible repeat (first|apply Kd.R_alloc|apply Kd.R_drewN|apply Kd.R_drew)); exact HO_6.out) hg hat)).2.1)))
   have n8_ := Aside0.mk ((show Kd.C (Kd.int .i64) w70 Ao63 y165.length y165 from by rw [Ny165.out]; exact Kd.C_take (m := (x10_3 : Int).toNat) ((Kd.R_reads' (Kd.R_over' (by (with_reducible repeat (first|apply Kd.R_alloc|apply Kd.R_drewN|apply Kd.R_drew)); exact HO_7.out) (Kd.R_typed (by (with_reducible repeat (first|apply Kd.R_alloc|apply Kd.R_drewN|apply Kd.R_drew)); exact HO154.out)) (by decide) hg)).2.2) KL62.out))
   have n9_ := Aside0.mk ((show Kd.C (Kd.int .i64) w70 A64 y172.length y172 from by rw [Ny172.out, KA64.out]; exact Kd.C_drop (m := ((ji46) : Int).toNat) (c := co63) ((Kd.R_reads' (Kd.R_over' (by (with_reducible repeat (first|apply Kd.R_alloc|apply Kd.R_drewN|apply Kd.R_drew)); exact HO_7.out) (Kd.R_typed (by (with_reducible repeat (first|apply Kd.R_alloc|apply Kd.R_drewN|apply Kd.R_drew)); exact HO154.out)) (by decide) hg)).2.2) KL64.out ((Kd.R_reads' (Kd.R_over' (by (with_reducible repeat (first|apply Kd.R_alloc|apply Kd.R_drewN|apply Kd.R_drew)); exact HO_7.out) (Kd.R_typed (by (with_reducible repeat (first|apply Kd.R_alloc|apply Kd.R_drewN|apply Kd.R_drew)); exact HO154.out)) (by decide) hg)).2.1)))
   have n10_ := Aside0.mk (ho)
   clear HO_6 HO_7 BK137 HI135 HO164 HB HR151 HR158 HR168 HR175 HO154
   have HO_6 := n0_; have HO_7 := n1_; have BK137 := n2_; have HI135 := n3_; have HO164 := n4_; have HB := n5_; have HR151 := n6_; have HR158 := n7_; have HR168 := n8_; have HR175 := n9_; have HO161 := n10_
   clear n0_ n1_ n2_ n3_ n4_ n5_ n6_ n7_ n8_ n9_ n10_ ho hb hg hat
   refine hK.out _ _ trivial (fun hHeld => ?_)
   clear hK K
   refine norm_ (a' := ?_) ?_ ?_
   rotate_left
   ·show Act.put _ (some 105) _ = _
    simp only [Act.put, q1_, q2_, q3_, i64_w, i32_w]
    rfl
   exact norm_ (by simp only [putAll, Act.put, List.setIfInBounds_toArray, List.set_cons_zero, List.set_cons_succ]) (hCont (v146, v153, v160, v163) _ ⟨(by (with_reducible repeat (first|apply Kd.R_alloc|apply Kd.R_drewN|apply Kd.R_drew)); exact HO161.out), (by (with_reducible repeat (first|apply Kd.R_alloc|apply Kd.R_drewN|apply Kd.R_drew)); exact Kd.R_mono HO164.out (fun _ hk => hk.2)), (by (with_reducible repeat (first|apply Kd.R_alloc|apply Kd.R_drewN|apply Kd.R_drew)); exact Kd.R_mono HO_6.out (fun _ hk => hk.2)), (by (with_reducible repeat (first|apply Kd.R_alloc|apply Kd.R_drewN|apply Kd.R_drew)); exact Kd.R_mono HO_7.out (fun _ hk => hk.2)), (by (with_reducible repeat (first | refine blk_drewN ?_ _ | refine blk_drew ?_ | refine blk_alloc ?_ _)); exact BK137.out), (by repeat (first | (with_reducible exact HR151.out) | (with_reducible refine Kd.C_alloc ?_ _) | (with_reducible refine Kd.C_drewN ?_ _) | (with_reducible refine Kd.C_drew ?_) | exact HR151.out)), (by repeat (first | (with_reducible exact HR158.out) | (with_reducible refine Kd.C_alloc ?_ _) | (with_reducible refine Kd.C_drewN ?_ _) | (with_reducible refine Kd.C_drew ?_) | exact HR158.out)), (by repeat (first | (with_reducible exact HR168.out) | (with_reducible refine Kd.C_alloc ?_ _) | (with_reducible refine Kd.C_drewN ?_ _) | (with_reducible refine Kd.C_drew ?_) | exact HR168.out)), (by repeat (first | (with_reducible exact HR175.out) | (with_reducible refine Kd.C_alloc ?_ _) | (with_reducible refine Kd.C_drewN ?_ _) | (with_reducible refine Kd.C_drew ?_) | exact HR175.out)), (by repeat (first | (with_reducible first | exact HI135.out | apply IsS75.alloc | apply IsS75.drewN | apply IsS75.drew | refine IsS75.far ?_ (by (repeat (first | exact (Opq.NP.blk BK137.out (by decide)) | (with_reducible apply Opq.NP.setCell) | (with_reducible apply Opq.NP.drewN) | (with_reducible apply Opq.NP.drew) | (with_reducible apply Opq.NP.alloc))); done) _) | exact HI135.out)), (by repeat (first | (with_reducible first | exact HB.out | apply below_alloc | apply pw_below_drewN | apply below_drew1 | refine below_set ?_ (IsS75.ge HI135.out) | refine below_set ?_ GE137.out) | exact HB.out))⟩)
  skip
  refine Kd.R_lit_step (Kd.int .i64) _ 3 ?hg (N := 106) ?hd (xs := ([] : List Int)) (inner := []) (ok := fun _ => True) (okp := fun _ => True) ?hr ?hp (fun _ hk => hk) trivial (Below.refl _ _) (Nat.le_refl _) (by simp) ?_; (case hd => rfl); (case hg => rfl); (case hr => first | (go_simp; done) | (go_simp; rfl) | (go_simp; simp [IntKind.wrap_u8, IntKind.wrap_u32]; done)); (case hp => exact (Reps.none _ _))
  intro v163 w65 ho66 hb hg_ hnew_
  clear hg_ hnew_
  (first | rw [← Ny162.out] at ho66 | (simp only [Int.reduceToNat] at ho66; rw [← Ny162.out] at ho66))
  have n0_ := Aside0.mk (Kd.R_below (by (with_reducible repeat (first|apply Kd.R_alloc|apply Kd.R_drewN|apply Kd.R_drew)); exact HO_6.out) hb)
  have n1_ := Aside0.mk (Kd.R_elder' (by (with_reducible repeat (first|apply Kd.R_alloc|apply Kd.R_drewN|apply Kd.R_drew)); exact HO_7.out) (Kd.R_base ho66) hb)
  have n2_ := Aside0.mk (Kd.R_lower (Kd.R_new' ho66 (Kd.R_lt (by (with_reducible repeat (first|apply Kd.R_alloc|apply Kd.R_drewN|apply Kd.R_drew)); exact HO_7.out))) (below_size (by repeat (first | (with_reducible first | exact HB.out | apply below_alloc | apply pw_below_drewN | apply below_drew1 | refine below_set ?_ (IsS75.ge HI135.out) | refine below_set ?_ GE137.out) | exact HB.out))))
  have n3_ := Aside0.mk (blk_below (g := gb137) (o := .cells #[.bool ((rd_T62 l0 x8_2).f0), .int .u32 ((rd_T62 l0 x8_2).f1.f0), .int .i64 ((rd_T62 l0 x8_2).f1.f1), .int .i64 ((rd_T62 l0 x8_2).f2)] 62 (0, 0)) (by (with_reducible repeat (first | refine blk_drewN ?_ _ | refine blk_drew ?_ | refine blk_alloc ?_ _)); exact BK137.out) hb)
  have n4_ := Aside0.mk (IsS75.below (by repeat (first | (with_reducible first | exact HI135.out | apply IsS75.alloc | apply IsS75.drewN | apply IsS75.drew | refine IsS75.far ?_ (by (repeat (first | exact (Opq.NP.blk BK137.out (by decide)) | (with_reducible apply Opq.NP.setCell) | (with_reducible apply Opq.NP.drewN) | (with_reducible apply Opq.NP.drew) | (with_reducible apply Opq.NP.alloc))); done) _) | exact HI135.out)) hb)
  have n5_ := Aside0.mk (Kd.C_below (by repeat (first | (with_reducible exact HR151.out) | (with_reducible refine Kd.C_alloc ?_ _) | (with_reducible refine Kd.C_drewN ?_ _) | (with_reducible refine Kd.C_drew ?_) | exact HR151.out)) hb)
  have n6_ := Aside0.mk (Kd.C_below (by repeat (first | (with_reducible exact HR158.out) | (with_reducible refine Kd.C_alloc ?_ _) | (with_reducible refine Kd.C_drewN ?_ _) | (with_reducible refine Kd.C_drew ?_) | exact HR158.out)) hb)
  have n7_ := Aside0.mk (Kd.C_below (by repeat (first | (with_reducible exact HR168.out) | (with_reducible refine Kd.C_alloc ?_ _) | (with_reducible refine Kd.C_drewN ?_ _) | (with_reducible refine Kd.C_drew ?_) | exact HR168.out)) hb)
  have n8_ := Aside0.mk (Kd.C_below (by repeat (first | (with_reducible exact HR175.out) | (with_reducible refine Kd.C_alloc ?_ _) | (with_reducible refine Kd.C_drewN ?_ _) | (with_reducible refine Kd.C_drew ?_) | exact HR175.out)) hb)
  have n9_ := Aside0.mk (below_step (by repeat (first | (with_reducible first | exact HB.out | apply below_alloc | apply pw_below_drewN | apply below_drew1 | refine below_set ?_ (IsS75.ge HI135.out) | refine below_set ?_ GE137.out) | exact HB.out)) hb)
  clear HO_6 HO_7 BK137 HI135 HR151 HR158 HR168 HR175 HB
  have HO_6 := n0_; have HO_7 := n1_; have HO164 := n2_; have BK137 := n3_; have HI135 := n4_; have HR151 := n5_; have HR158 := n6_; have HR168 := n7_; have HR175 := n8_; have HB := n9_
  clear n0_ n1_ n2_ n3_ n4_ n5_ n6_ n7_ n8_ n9_ hb ho66
  refine hK.out _ _ trivial (fun hHeld => ?_)
  clear hK K
  refine norm_ (a' := ?_) ?_ ?_
  rotate_left
  ·show Act.put _ (some 106) _ = _
   simp only [Act.put, q1_, q2_, q3_, i64_w, i32_w]
   rfl
  refine one_ (i := 0) (N := some 96) #[T_,T_,T_,T_,F_,T_,T_,T_,T_,F_,T_,T_,T_,T_,F_,T_,T_,T_,T_,F_,F_,F_] rfl rfl (one_of HT_.out (by kernel_rfl)) (by decide) (fun K hK => ?_)
  refine Kd.R_lit_step k47 _ 47 ?hg (N := 96) ?hd (xs := ([] : List (S47))) (inner := []) (ok := fun _ => True) (okp := fun _ => True) ?hr ?hp (fun _ hk => hk) trivial (Below.refl _ _) (Nat.le_refl _) (by simp) ?_; (case hd => rfl); (case hg => rfl); (case hr => first | (go_simp; done) | (go_simp; rfl) | (go_simp; simp [IntKind.wrap_u8, IntKind.wrap_u32]; done)); (case hp => exact (Reps.none _ _))
  intro v146 w67 ho68 hb hg_ hnew_
  clear hg_ hnew_
  (first | rw [← Ny145.out] at ho68 | (simp only [Int.reduceToNat] at ho68; rw [← Ny145.out] at ho68))
  have n0_ := Aside0.mk (Kd.R_elder' (by (with_reducible repeat (first|apply Kd.R_alloc|apply Kd.R_drewN|apply Kd.R_drew)); exact HO_6.out) (Kd.R_base ho68) hb)
  have n1_ := Aside0.mk (Kd.R_below (by (with_reducible repeat (first|apply Kd.R_alloc|apply Kd.R_drewN|apply Kd.R_drew)); exact HO_7.out) hb)
  have n2_ := Aside0.mk (Kd.R_below (by (with_reducible repeat (first|apply Kd.R_alloc|apply Kd.R_drewN|apply Kd.R_drew)); exact HO164.out) hb)
  have n3_ := Aside0.mk (Kd.R_lower (Kd.R_new' ho68 (Kd.R_lt (by (with_reducible repeat (first|apply Kd.R_alloc|apply Kd.R_drewN|apply Kd.R_drew)); exact HO_6.out))) (below_size (by repeat (first | (with_reducible first | exact HB.out | apply below_alloc | apply pw_below_drewN | apply below_drew1 | refine below_set ?_ (IsS75.ge HI135.out) | refine below_set ?_ GE137.out) | exact HB.out))))
  have n4_ := Aside0.mk (blk_below (g := gb137) (o := .cells #[.bool ((rd_T62 l0 x8_2).f0), .int .u32 ((rd_T62 l0 x8_2).f1.f0), .int .i64 ((rd_T62 l0 x8_2).f1.f1), .int .i64 ((rd_T62 l0 x8_2).f2)] 62 (0, 0)) (by (with_reducible repeat (first | refine blk_drewN ?_ _ | refine blk_drew ?_ | refine blk_alloc ?_ _)); exact BK137.out) hb)
  have n5_ := Aside0.mk (IsS75.below (by repeat (first | (with_reducible first | exact HI135.out | apply IsS75.alloc | apply IsS75.drewN | apply IsS75.drew | refine IsS75.far ?_ (by (repeat (first | exact (Opq.NP.blk BK137.out (by decide)) | (with_reducible apply Opq.NP.setCell) | (with_reducible apply Opq.NP.drewN) | (with_reducible apply Opq.NP.drew) | (with_reducible apply Opq.NP.alloc))); done) _) | exact HI135.out)) hb)
  have n6_ := Aside0.mk (Kd.C_below (by repeat (first | (with_reducible exact HR151.out) | (with_reducible refine Kd.C_alloc ?_ _) | (with_reducible refine Kd.C_drewN ?_ _) | (with_reducible refine Kd.C_drew ?_) | exact HR151.out)) hb)
  have n7_ := Aside0.mk (Kd.C_below (by repeat (first | (with_reducible exact HR158.out) | (with_reducible refine Kd.C_alloc ?_ _) | (with_reducible refine Kd.C_drewN ?_ _) | (with_reducible refine Kd.C_drew ?_) | exact HR158.out)) hb)
  have n8_ := Aside0.mk (Kd.C_below (by repeat (first | (with_reducible exact HR168.out) | (with_reducible refine Kd.C_alloc ?_ _) | (with_reducible refine Kd.C_drewN ?_ _) | (with_reducible refine Kd.C_drew ?_) | exact HR168.out)) hb)
  have n9_ := Aside0.mk (Kd.C_below (by repeat (first | (with_reducible exact HR175.out) | (with_reducible refine Kd.C_alloc ?_ _) | (with_reducible refine Kd.C_drewN ?_ _) | (with_reducible refine Kd.C_drew ?_) | exact HR175.out)) hb)
  have n10_ := Aside0.mk (below_step (by repeat (first | (with_reducible first | exact HB.out | apply below_alloc | apply pw_below_drewN | apply below_drew1 | refine below_set ?_ (IsS75.ge HI135.out) | refine below_set ?_ GE137.out) | exact HB.out)) hb)
  clear HO_6 HO_7 HO164 BK137 HI135 HR151 HR158 HR168 HR175 HB
  have HO_6 := n0_; have HO_7 := n1_; have HO164 := n2_; have HO147 := n3_; have BK137 := n4_; have HI135 := n5_; have HR151 := n6_; have HR158 := n7_; have HR168 := n8_; have HR175 := n9_; have HB := n10_
  clear n0_ n1_ n2_ n3_ n4_ n5_ n6_ n7_ n8_ n9_ n10_ hb ho68
  refine hK.out _ _ trivial (fun hHeld => ?_)
  clear hK K
  refine norm_ (a' := ?_) ?_ ?_
  rotate_left
  ·show Act.put _ (some 96) _ = _
   simp only [Act.put, q1_, q2_, q3_, i64_w, i32_w]
   rfl
  refine one_ (i := 4) (N := some 100) #[T_,T_,T_,T_,T_,T_,T_,T_,T_,F_,T_,T_,T_,T_,F_,T_,T_,T_,T_,F_,F_,F_] rfl rfl (one_of HT_.out (by kernel_rfl)) (by decide) (fun K hK => ?_)
  refine Kd.R_append_rows_step k47 (w0 := w) w.heap.size (by rfl) (.tmp 96) (.tmp 99) 54 47 (.agg #[(.int .u32 0), (.int .i64 0)]) 16 rfl Try.underlying54 info47 rfl (by decide) (by omega) v146 y145 y148 _ _ _ (fun k_ => some k_ ≠ (.slice Ao24 x6_2.length co24 : Value).ownBlock) (fun _ => False) rfl rfl ?aO ?aR (fun _ _ h => h) (fun _ h => h.elim) ?aF ?aB ?aS ?aL ?_
  (case aR => repeat (first | exact (by repeat (first | (with_reducible exact HR151.out) | (with_reducible refine Kd.C_alloc ?_ _) | (with_reducible refine Kd.C_drewN ?_ _) | (with_reducible refine Kd.C_drew ?_) | exact HR151.out)) | (with_reducible refine Kd.C_alloc ?_ _) | (with_reducible refine Kd.C_drewN ?_ _) | (with_reducible refine Kd.C_drew ?_)))
  (case aB => exact (by repeat (first | (with_reducible first | exact HB.out | apply below_alloc | apply pw_below_drewN | apply below_drew1 | refine below_set ?_ (IsS75.ge HI135.out) | refine below_set ?_ GE137.out) | exact HB.out)))
  (case aF => exact (fun k_ hk => Kd.fresh' (Kd.R_lt (by (with_reducible repeat (first|apply Kd.R_alloc|apply Kd.R_drewN|apply Kd.R_drew)); exact HO_6.out)) k_ hk))
  (case aO => exact (by (with_reducible repeat (first|apply Kd.R_alloc|apply Kd.R_drewN|apply Kd.R_drew)); exact Kd.R_mono HO147.out (fun _ hk => hk.2)))
  (case aS => exact (below_size (by repeat (first | (with_reducible first | exact HB.out | apply below_alloc | apply pw_below_drewN | apply below_drew1 | refine below_set ?_ (IsS75.ge HI135.out) | refine below_set ?_ GE137.out) | exact HB.out))))
  (case aL => have := LMc45.out; omega)
  intro v153 w69 ho hb hg hat
  rw [← Ny152.out] at ho
  have n0_ := Aside0.mk (Kd.R_after (ok := (fun _ => True)) (by (with_reducible repeat (first|apply Kd.R_alloc|apply Kd.R_drewN|apply Kd.R_drew)); exact HO_6.out) hg hat)
  have n1_ := Aside0.mk (Kd.R_over' (by (with_reducible repeat (first|apply Kd.R_alloc|apply Kd.R_drewN|apply Kd.R_drew)); exact HO_7.out) (Kd.R_typed (by (with_reducible repeat (first|apply Kd.R_alloc|apply Kd.R_drewN|apply Kd.R_drew)); exact HO147.out)) (by decide) hg)
  have n2_ := Aside0.mk (blk_grown (g := gb137) (o := .cells #[.bool ((rd_T62 l0 x8_2).f0), .int .u32 ((rd_T62 l0 x8_2).f1.f0), .int .i64 ((rd_T62 l0 x8_2).f1.f1), .int .i64 ((rd_T62 l0 x8_2).f2)] 62 (0, 0)) (by (with_reducible repeat (first | refine blk_drewN ?_ _ | refine blk_drew ?_ | refine blk_alloc ?_ _)); exact BK137.out) hg (Kd.R_ne HO147.out BK137.out (by decide)))
  have n3_ := Aside0.mk (IsS75.grown (by repeat (first | (with_reducible first | exact HI135.out | apply IsS75.alloc | apply IsS75.drewN | apply IsS75.drew | refine IsS75.far ?_ (by (repeat (first | exact (Opq.NP.blk BK137.out (by decide)) | (with_reducible apply Opq.NP.setCell) | (with_reducible apply Opq.NP.drewN) | (with_reducible apply Opq.NP.drew) | (with_reducible apply Opq.NP.alloc))); done) _) | exact HI135.out)) hg (by (repeat (first | exact (Opq.NPr.typed (Kd.R_typed HO147.out) (by decide)) | (with_reducible apply Opq.NPr.setCell) | (with_reducible apply Opq.NPr.drewN) | (with_reducible apply Opq.NPr.drew) | (with_reducible apply Opq.NPr.alloc))); done))
  have n4_ := Aside0.mk (Kd.R_over' (by (with_reducible repeat (first|apply Kd.R_alloc|apply Kd.R_drewN|apply Kd.R_drew)); exact HO164.out) (Kd.R_typed (by (with_reducible repeat (first|apply Kd.R_alloc|apply Kd.R_drewN|apply Kd.R_drew)); exact HO147.out)) (by decide) hg)
  have n5_ := Aside0.mk (hb)
  have n6_ := Aside0.mk ((show Kd.C k47 w69 Ao24 y148.length y148 from by rw [Ny148.out]; exact Kd.C_take (m := (x10_3 : Int).toNat) ((Kd.R_reads' (Kd.R_after (ok := (fun _ => True)) (by (with_reducible repeat (first|apply Kd.R_alloc|apply Kd.R_drewN|apply Kd.R_drew)); exact HO_6.out) hg hat)).2.2) KL60.out))
  have n7_ := Aside0.mk ((show Kd.C k47 w69 A61 y155.length y155 from by rw [Ny155.out, KA61.out]; exact Kd.C_drop (m := ((ji46) : Int).toNat) (c := co24) ((Kd.R_reads' (Kd.R_after (ok := (fun _ => True)) (by (with_reducible repeat (first|apply Kd.R_alloc|apply Kd.R_drewN|apply Kd.R_drew)); exact HO_6.out) hg hat)).2.2) KL61.out ((Kd.R_reads' (Kd.R_after (ok := (fun _ => True)) (by (with_reducible repeat (first|apply Kd.R_alloc|apply Kd.R_drewN|apply Kd.R_drew)); exact HO_6.out) hg hat)).2.1)))
  have n8_ := Aside0.mk ((show Kd.C (Kd.int .i64) w69 Ao63 y165.length y165 from by rw [Ny165.out]; exact Kd.C_take (m := (x10_3 : Int).toNat) ((Kd.R_reads' (Kd.R_over' (by (with_reducible repeat (first|apply Kd.R_alloc|apply Kd.R_drewN|apply Kd.R_drew)); exact HO_7.out) (Kd.R_typed (by (with_reducible repeat (first|apply Kd.R_alloc|apply Kd.R_drewN|apply Kd.R_drew)); exact HO147.out)) (by decide) hg)).2.2) KL62.out))
  have n9_ := Aside0.mk ((show Kd.C (Kd.int .i64) w69 A64 y172.length y172 from by rw [Ny172.out, KA64.out]; exact Kd.C_drop (m := ((ji46) : Int).toNat) (c := co63) ((Kd.R_reads' (Kd.R_over' (by (with_reducible repeat (first|apply Kd.R_alloc|apply Kd.R_drewN|apply Kd.R_drew)); exact HO_7.out) (Kd.R_typed (by (with_reducible repeat (first|apply Kd.R_alloc|apply Kd.R_drewN|apply Kd.R_drew)); exact HO147.out)) (by decide) hg)).2.2) KL64.out ((Kd.R_reads' (Kd.R_over' (by (with_reducible repeat (first|apply Kd.R_alloc|apply Kd.R_drewN|apply Kd.R_drew)); exact HO_7.out) (Kd.R_typed (by (with_reducible repeat (first|apply Kd.R_alloc|apply Kd.R_drewN|apply Kd.R_drew)); exact HO147.out)) (by decide) hg)).2.1)))
  have n10_ := Aside0.mk (ho)
  clear HO_6 HO_7 BK137 HI135 HO164 HB HR151 HR158 HR168 HR175 HO147
  have HO_6 := n0_; have HO_7 := n1_; have BK137 := n2_; have HI135 := n3_; have HO164 := n4_; have HB := n5_; have HR151 := n6_; have HR158 := n7_; have HR168 := n8_; have HR175 := n9_; have HO154 := n10_
  clear n0_ n1_ n2_ n3_ n4_ n5_ n6_ n7_ n8_ n9_ n10_ ho hb hg hat
  refine hK.out _ _ trivial (fun hHeld => ?_)
  clear hK K
  refine norm_ (a' := ?_) ?_ ?_
  rotate_left
  ·show Act.put _ (some 100) _ = _
   simp only [Act.put, q1_, q2_, q3_, i64_w, i32_w]
   rfl
  refine one_ (i := 9) (N := some 105) #[T_,T_,T_,T_,T_,T_,T_,T_,T_,T_,T_,T_,T_,T_,F_,T_,T_,T_,T_,F_,F_,F_] rfl rfl (one_of HT_.out (by kernel_rfl)) (by decide) (fun K hK => ?_)
  refine Kd.R_append_rows_step k47 (w0 := w) w.heap.size (by rfl) (.tmp 100) (.tmp 104) 54 47 (.agg #[(.int .u32 0), (.int .i64 0)]) 16 rfl Try.underlying54 info47 rfl (by decide) (by omega) v153 y152 y155 _ _ _ (fun k_ => some k_ ≠ (.slice Ao24 x6_2.length co24 : Value).ownBlock) (fun _ => False) rfl rfl ?aO ?aR (fun _ _ h => h) (fun _ h => h.elim) ?aF ?aB ?aS ?aL ?_
  (case aR => repeat (first | exact (by repeat (first | (with_reducible exact HR158.out) | (with_reducible refine Kd.C_alloc ?_ _) | (with_reducible refine Kd.C_drewN ?_ _) | (with_reducible refine Kd.C_drew ?_) | exact HR158.out)) | (with_reducible refine Kd.C_alloc ?_ _) | (with_reducible refine Kd.C_drewN ?_ _) | (with_reducible refine Kd.C_drew ?_)))
  (case aB => exact (by repeat (first | (with_reducible first | exact HB.out | apply below_alloc | apply pw_below_drewN | apply below_drew1 | refine below_set ?_ (IsS75.ge HI135.out) | refine below_set ?_ GE137.out) | exact HB.out)))
  (case aF => exact (fun k_ hk => Kd.fresh' (Kd.R_lt (by (with_reducible repeat (first|apply Kd.R_alloc|apply Kd.R_drewN|apply Kd.R_drew)); exact HO_6.out)) k_ hk))
  (case aO => exact (by (with_reducible repeat (first|apply Kd.R_alloc|apply Kd.R_drewN|apply Kd.R_drew)); exact HO154.out))
  (case aS => exact (below_size (by repeat (first | (with_reducible first | exact HB.out | apply below_alloc | apply pw_below_drewN | apply below_drew1 | refine below_set ?_ (IsS75.ge HI135.out) | refine below_set ?_ GE137.out) | exact HB.out))))
  (case aL => have := LMc49.out; omega)
  intro v160 w70 ho hb hg hat
  rw [← Ny159.out] at ho
  have n0_ := Aside0.mk (Kd.R_after (ok := (fun _ => True)) (by (with_reducible repeat (first|apply Kd.R_alloc|apply Kd.R_drewN|apply Kd.R_drew)); exact HO_6.out) hg hat)
  have n1_ := Aside0.mk (Kd.R_over' (by (with_reducible repeat (first|apply Kd.R_alloc|apply Kd.R_drewN|apply Kd.R_drew)); exact HO_7.out) (Kd.R_typed (by (with_reducible repeat (first|apply Kd.R_alloc|apply Kd.R_drewN|apply Kd.R_drew)); exact HO154.out)) (by decide) hg)
  have n2_ := Aside0.mk (blk_grown (g := gb137) (o := .cells #[.bool ((rd_T62 l0 x8_2).f0), .int .u32 ((rd_T62 l0 x8_2).f1.f0), .int .i64 ((rd_T62 l0 x8_2).f1.f1), .int .i64 ((rd_T62 l0 x8_2).f2)] 62 (0, 0)) (by (with_reducible repeat (first | refine blk_drewN ?_ _ | refine blk_drew ?_ | refine blk_alloc ?_ _)); exact BK137.out) hg (Kd.R_ne HO154.out BK137.out (by decide)))
  have n3_ := Aside0.mk (IsS75.grown (by repeat (first | (with_reducible first | exact HI135.out | apply IsS75.alloc | apply IsS75.drewN | apply IsS75.drew | refine IsS75.far ?_ (by (repeat (first | exact (Opq.NP.blk BK137.out (by decide)) | (with_reducible apply Opq.NP.setCell) | (with_reducible apply Opq.NP.drewN) | (with_reducible apply Opq.NP.drew) | (with_reducible apply Opq.NP.alloc))); done) _) | exact HI135.out)) hg (by (repeat (first | exact (Opq.NPr.typed (Kd.R_typed HO154.out) (by decide)) | (with_reducible apply Opq.NPr.setCell) | (with_reducible apply Opq.NPr.drewN) | (with_reducible apply Opq.NPr.drew) | (with_reducible apply Opq.NPr.alloc))); done))
  have n4_ := Aside0.mk (Kd.R_over' (by (with_reducible repeat (first|apply Kd.R_alloc|apply Kd.R_drewN|apply Kd.R_drew)); exact HO164.out) (Kd.R_typed (by (with_reducible repeat (first|apply Kd.R_alloc|apply Kd.R_drewN|apply Kd.R_drew)); exact HO154.out)) (by decide) hg)
  have n5_ := Aside0.mk (hb)
  have n6_ := Aside0.mk ((show Kd.C k47 w70 Ao24 y148.length y148 from by rw [Ny148.out]; exact Kd.C_take (m := (x10_3 : Int).toNat) ((Kd.R_reads' (Kd.R_after (ok := (fun _ => True)) (by (with_reducible repeat (first|apply Kd.R_alloc|apply Kd.R_drewN|apply Kd.R_drew)); exact HO_6.out) hg hat)).2.2) KL60.out))
  have n7_ := Aside0.mk ((show Kd.C k47 w70 A61 y155.length y155 from by rw [Ny155.out, KA61.out]; exact Kd.C_drop (m := ((ji46) : Int).toNat) (c := co24) ((Kd.R_reads' (Kd.R_after (ok := (fun _ => True)) (by (with_reducible repeat (first|apply Kd.R_alloc|apply Kd.R_drewN|apply Kd.R_drew)); exact HO_6.out) hg hat)).2.2) KL61.out ((Kd.R_reads' (Kd.R_after (ok := (fun _ => True)) (by (with_reducible repeat (first|apply Kd.R_alloc|apply Kd.R_drewN|apply Kd.R_drew)); exact HO_6.out) hg hat)).2.1)))
  have n8_ := Aside0.mk ((show Kd.C (Kd.int .i64) w70 Ao63 y165.length y165 from by rw [Ny165.out]; exact Kd.C_take (m := (x10_3 : Int).toNat) ((Kd.R_reads' (Kd.R_over' (by (with_reducible repeat (first|apply Kd.R_alloc|apply Kd.R_drewN|apply Kd.R_drew)); exact HO_7.out) (Kd.R_typed (by (with_reducible repeat (first|apply Kd.R_alloc|apply Kd.R_drewN|apply Kd.R_drew)); exact HO154.out)) (by decide) hg)).2.2) KL62.out))
  have n9_ := Aside0.mk ((show Kd.C (Kd.int .i64) w70 A64 y172.length y172 from by rw [Ny172.out, KA64.out]; exact Kd.C_drop (m := ((ji46) : Int).toNat) (c := co63) ((Kd.R_reads' (Kd.R_over' (by (with_reducible repeat (first|apply Kd.R_alloc|apply Kd.R_drewN|apply Kd.R_drew)); exact HO_7.out) (Kd.R_typed (by (with_reducible repeat (first|apply Kd.R_alloc|apply Kd.R_drewN|apply Kd.R_drew)); exact HO154.out)) (by decide) hg)).2.2) KL64.out ((Kd.R_reads' (Kd.R_over' (by (with_reducible repeat (first|apply Kd.R_alloc|apply Kd.R_drewN|apply Kd.R_drew)); exact HO_7.out) (Kd.R_typed (by (with_reducible repeat (first|apply Kd.R_alloc|apply Kd.R_drewN|apply Kd.R_drew)); exact HO154.out)) (by decide) hg)).2.1)))
  have n10_ := Aside0.mk (ho)
  clear HO_6 HO_7 BK137 HI135 HO164 HB HR151 HR158 HR168 HR175 HO154
  have HO_6 := n0_; have HO_7 := n1_; have BK137 := n2_; have HI135 := n3_; have HO164 := n4_; have HB := n5_; have HR151 := n6_; have HR158 := n7_; have HR168 := n8_; have HR175 := n9_; have HO161 := n10_
  clear n0_ n1_ n2_ n3_ n4_ n5_ n6_ n7_ n8_ n9_ n10_ ho hb hg hat
  refine hK.out _ _ trivial (fun hHeld => ?_)
  clear hK K
  refine norm_ (a' := ?_) ?_ ?_
  rotate_left
  ·show Act.put _ (some 105) _ = _
   simp only [Act.put, q1_, q2_, q3_, i64_w, i32_w]
   rfl
  exact norm_ (by simp only [putAll, Act.put, List.setIfInBounds_toArray, List.set_cons_zero, List.set_cons_succ]) (hCont (v146, v153, v160, v163) _ ⟨(by (with_reducible repeat (first|apply Kd.R_alloc|apply Kd.R_drewN|apply Kd.R_drew)); exact HO161.out), (by (with_reducible repeat (first|apply Kd.R_alloc|apply Kd.R_drewN|apply Kd.R_drew)); exact Kd.R_mono HO164.out (fun _ hk => hk.2)), (by (with_reducible repeat (first|apply Kd.R_alloc|apply Kd.R_drewN|apply Kd.R_drew)); exact Kd.R_mono HO_6.out (fun _ hk => hk.2)), (by (with_reducible repeat (first|apply Kd.R_alloc|apply Kd.R_drewN|apply Kd.R_drew)); exact Kd.R_mono HO_7.out (fun _ hk => hk.2)), (by (with_reducible repeat (first | refine blk_drewN ?_ _ | refine blk_drew ?_ | refine blk_alloc ?_ _)); exact BK137.out), (by repeat (first | (with_reducible exact HR151.out) | (with_reducible refine Kd.C_alloc ?_ _) | (with_reducible refine Kd.C_drewN ?_ _) | (with_reducible refine Kd.C_drew ?_) | exact HR151.out)), (by repeat (first | (with_reducible exact HR158.out) | (with_reducible refine Kd.C_alloc ?_ _) | (with_reducible refine Kd.C_drewN ?_ _) | (with_reducible refine Kd.C_drew ?_) | exact HR158.out)), (by repeat (first | (with_reducible exact HR168.out) | (with_reducible refine Kd.C_alloc ?_ _) | (with_reducible refine Kd.C_drewN ?_ _) | (with_reducible refine Kd.C_drew ?_) | exact HR168.out)), (by repeat (first | (with_reducible exact HR175.out) | (with_reducible refine Kd.C_alloc ?_ _) | (with_reducible refine Kd.C_drewN ?_ _) | (with_reducible refine Kd.C_drew ?_) | exact HR175.out)), (by repeat (first | (with_reducible first | exact HI135.out | apply IsS75.alloc | apply IsS75.drewN | apply IsS75.drew | refine IsS75.far ?_ (by (repeat (first | exact (Opq.NP.blk BK137.out (by decide)) | (with_reducible apply Opq.NP.setCell) | (with_reducible apply Opq.NP.drewN) | (with_reducible apply Opq.NP.drew) | (with_reducible apply Opq.NP.alloc))); done) _) | exact HI135.out)), (by repeat (first | (with_reducible first | exact HB.out | apply below_alloc | apply pw_below_drewN | apply below_drew1 | refine below_set ?_ (IsS75.ge HI135.out) | refine below_set ?_ GE137.out) | exact HB.out))⟩)
 rintro ⟨v146, v153, v160, v163⟩ w71 ⟨h0_, h1_, h2_, h3_, h4_, h5_, h6_, h7_, h8_, h9_, h10_⟩
 have n0_ : Aside0 (Kd.R k47 47 w71 w.heap.size (fun k_ => some k_ ≠ (.slice Ao24 x6_2.length co24 : Value).ownBlock) v160 y159) := ⟨h0_⟩
 have n1_ : Aside0 (Kd.R (Kd.int .i64) 3 w71 w.heap.size (fun k_ => some k_ ≠ (.slice Ao63 x7_2.length co63 : Value).ownBlock) v163 y162) := ⟨h1_⟩
 have n2_ : Aside0 (Kd.R k47 47 w71 w.heap.size (fun k_ => some k_ ≠ (v160 : Value).ownBlock) (.slice Ao24 x6_2.length co24) x6_2) := ⟨h2_⟩
 have n3_ : Aside0 (Kd.R (Kd.int .i64) 3 w71 w.heap.size (fun k_ => some k_ ≠ (v163 : Value).ownBlock) (.slice Ao63 x7_2.length co63) x7_2) := ⟨h3_⟩
 have n4_ : Aside0 (w71.heap[gb137]? = some (.cells #[.bool ((rd_T62 l0 x8_2).f0), .int .u32 ((rd_T62 l0 x8_2).f1.f0), .int .i64 ((rd_T62 l0 x8_2).f1.f1), .int .i64 ((rd_T62 l0 x8_2).f2)] 62 (0, 0))) := ⟨h4_⟩
 have n5_ : Aside0 (Kd.C k47 w71 Ao24 y148.length y148) := ⟨h5_⟩
 have n6_ : Aside0 (Kd.C k47 w71 A61 y155.length y155) := ⟨h6_⟩
 have n7_ : Aside0 (Kd.C (Kd.int .i64) w71 Ao63 y165.length y165) := ⟨h7_⟩
 have n8_ : Aside0 (Kd.C (Kd.int .i64) w71 A64 y172.length y172) := ⟨h8_⟩
 have n9_ : Aside0 (IsS75 w w71 g135 t144) := ⟨h9_⟩
 have n10_ : Aside0 (Below w.heap.size w w71) := ⟨h10_⟩
 clear HO_6 HO_7 BK137 HI135 HB h0_ h1_ h2_ h3_ h4_ h5_ h6_ h7_ h8_ h9_ h10_
 have HO161 := n0_; have HO164 := n1_; have HO_6 := n2_; have HO_7 := n3_; have BK137 := n4_; have HR151 := n5_; have HR158 := n6_; have HR168 := n7_; have HR175 := n8_; have HI135 := n9_; have HB := n10_
 clear n0_ n1_ n2_ n3_ n4_ n5_ n6_ n7_ n8_ n9_ n10_
 have hHeld := trivial
 refine norm_ (a' := ?_) ?_ ?_
 rotate_left
 ·simp only [putAll, Act.put, List.setIfInBounds_toArray, List.set_cons_zero, List.set_cons_succ]
  rfl
 refine one_ (i := 14) (N := some 110) #[T_,T_,T_,T_,T_,T_,T_,T_,T_,T_,T_,T_,T_,T_,T_,T_,T_,T_,T_,F_,F_,F_] rfl rfl (one_of HT_.out (by kernel_rfl)) (by decide) (fun K hK => ?_)
 refine Kd.R_append_rows_step (Kd.int .i64) (w0 := w) w.heap.size (by rfl) (.tmp 106) (.tmp 109) 34 3 (.int .i64 0) 8 rfl Try.underlying34 info3 rfl (by decide) (by omega) v163 y162 y165 _ _ _ (fun k_ => some k_ ≠ (.slice Ao63 x7_2.length co63 : Value).ownBlock) (fun _ => False) rfl rfl ?aO ?aR (fun _ _ h => h) (fun _ h => h.elim) ?aF ?aB ?aS ?aL ?_
 (case aR => repeat (first | exact (by repeat (first | (with_reducible exact HR168.out) | (with_reducible refine Kd.C_alloc ?_ _) | (with_reducible refine Kd.C_drewN ?_ _) | (with_reducible refine Kd.C_drew ?_) | exact HR168.out)) | (with_reducible refine Kd.C_alloc ?_ _) | (with_reducible refine Kd.C_drewN ?_ _) | (with_reducible refine Kd.C_drew ?_)))
 (case aB => exact (by repeat (first | (with_reducible first | exact HB.out | apply below_alloc | apply pw_below_drewN | apply below_drew1 | refine below_set ?_ (IsS75.ge HI135.out) | refine below_set ?_ GE137.out) | exact HB.out)))
 (case aF => exact (fun k_ hk => Kd.fresh' (Kd.R_lt (by (with_reducible repeat (first|apply Kd.R_alloc|apply Kd.R_drewN|apply Kd.R_drew)); exact HO_7.out)) k_ hk))
 (case aO => exact (by (with_reducible repeat (first|apply Kd.R_alloc|apply Kd.R_drewN|apply Kd.R_drew)); exact HO164.out))
 (case aS => exact (below_size (by repeat (first | (with_reducible first | exact HB.out | apply below_alloc | apply pw_below_drewN | apply below_drew1 | refine below_set ?_ (IsS75.ge HI135.out) | refine below_set ?_ GE137.out) | exact HB.out))))
 (case aL => have := LMc52.out; omega)
 intro v170 w72 ho hb hg hat
 rw [← Ny169.out] at ho
 have n0_ := Aside0.mk (Kd.R_over' (by (with_reducible repeat (first|apply Kd.R_alloc|apply Kd.R_drewN|apply Kd.R_drew)); exact HO_6.out) (Kd.R_typed (by (with_reducible repeat (first|apply Kd.R_alloc|apply Kd.R_drewN|apply Kd.R_drew)); exact HO164.out)) (by decide) hg)
 have n1_ := Aside0.mk (Kd.R_after (ok := (fun _ => True)) (by (with_reducible repeat (first|apply Kd.R_alloc|apply Kd.R_drewN|apply Kd.R_drew)); exact Kd.R_mono HO_7.out (fun _ hk => ⟨trivial, hk⟩)) hg hat)
 have n2_ := Aside0.mk (blk_grown (g := gb137) (o := .cells #[.bool ((rd_T62 l0 x8_2).f0), .int .u32 ((rd_T62 l0 x8_2).f1.f0), .int .i64 ((rd_T62 l0 x8_2).f1.f1), .int .i64 ((rd_T62 l0 x8_2).f2)] 62 (0, 0)) (by (with_reducible repeat (first | refine blk_drewN ?_ _ | refine blk_drew ?_ | refine blk_alloc ?_ _)); exact BK137.out) hg (Kd.R_ne HO164.out BK137.out (by decide)))
 have n3_ := Aside0.mk (IsS75.grown (by repeat (first | (with_reducible first | exact HI135.out | apply IsS75.alloc | apply IsS75.drewN | apply IsS75.drew | refine IsS75.far ?_ (by (repeat (first | exact (Opq.NP.blk BK137.out (by decide)) | (with_reducible apply Opq.NP.setCell) | (with_reducible apply Opq.NP.drewN) | (with_reducible apply Opq.NP.drew) | (with_reducible apply Opq.NP.alloc))); done) _) | exact HI135.out)) hg (by (repeat (first | exact (Opq.NPr.typed (Kd.R_typed HO164.out) (by decide)) | (with_reducible apply Opq.NPr.setCell) | (with_reducible apply Opq.NPr.drewN) | (with_reducible apply Opq.NPr.drew) | (with_reducible apply Opq.NPr.alloc))); done))
 have n4_ := Aside0.mk (Kd.R_over' (by (with_reducible repeat (first|apply Kd.R_alloc|apply Kd.R_drewN|apply Kd.R_drew)); exact HO161.out) (Kd.R_typed (by (with_reducible repeat (first|apply Kd.R_alloc|apply Kd.R_drewN|apply Kd.R_drew)); exact HO164.out)) (by decide) hg)
 have n5_ := Aside0.mk (hb)
 have n6_ := Aside0.mk ((show Kd.C k47 w72 Ao24 y148.length y148 from by rw [Ny148.out]; exact Kd.C_take (m := (x10_3 : Int).toNat) ((Kd.R_reads' (Kd.R_over' (by (with_reducible repeat (first|apply Kd.R_alloc|apply Kd.R_drewN|apply Kd.R_drew)); exact HO_6.out) (Kd.R_typed (by (with_reducible repeat (first|apply Kd.R_alloc|apply Kd.R_drewN|apply Kd.R_drew)); exact HO164.out)) (by decide) hg)).2.2) KL60.out))
 have n7_ := Aside0.mk ((show Kd.C k47 w72 A61 y155.length y155 from by rw [Ny155.out, KA61.out]; exact Kd.C_drop (m := ((ji46) : Int).toNat) (c := co24) ((Kd.R_reads' (Kd.R_over' (by (with_reducible repeat (first|apply Kd.R_alloc|apply Kd.R_drewN|apply Kd.R_drew)); exact HO_6.out) (Kd.R_typed (by (with_reducible repeat (first|apply Kd.R_alloc|apply Kd.R_drewN|apply Kd.R_drew)); exact HO164.out)) (by decide) hg)).2.2) KL61.out ((Kd.R_reads' (Kd.R_over' (by (with_reducible repeat (first|apply Kd.R_alloc|apply Kd.R_drewN|apply Kd.R_drew)); exact HO_6.out) (Kd.R_typed (by (with_reducible repeat (first|apply Kd.R_alloc|apply Kd.R_drewN|apply Kd.R_drew)); exact HO164.out)) (by decide) hg)).2.1)))
 have n8_ := Aside0.mk ((show Kd.C (Kd.int .i64) w72 Ao63 y165.length y165 from by rw [Ny165.out]; exact Kd.C_take (m := (x10_3 : Int).toNat) ((Kd.R_reads' (Kd.R_after (ok := (fun _ => True)) (by (with_reducible repeat (first|apply Kd.R_alloc|apply Kd.R_drewN|apply Kd.R_drew)); exact Kd.R_mono HO_7.out (fun _ hk => ⟨trivial, hk⟩)) hg hat)).2.2) KL62.out))
 have n9_ := Aside0.mk ((show Kd.C (Kd.int .i64) w72 A64 y172.length y172 from by rw [Ny172.out, KA64.out]; exact Kd.C_drop (m := ((ji46) : Int).toNat) (c := co63) ((Kd.R_reads' (Kd.R_after (ok := (fun _ => True)) (by (with_reducible repeat (first|apply Kd.R_alloc|apply Kd.R_drewN|apply Kd.R_drew)); exact Kd.R_mono HO_7.out (fun _ hk => ⟨trivial, hk⟩)) hg hat)).2.2) KL64.out ((Kd.R_reads' (Kd.R_after (ok := (fun _ => True)) (by (with_reducible repeat (first|apply Kd.R_alloc|apply Kd.R_drewN|apply Kd.R_drew)); exact Kd.R_mono HO_7.out (fun _ hk => ⟨trivial, hk⟩)) hg hat)).2.1)))
 have n10_ := Aside0.mk (ho)
 clear HO_6 HO_7 BK137 HI135 HO161 HB HR151 HR158 HR168 HR175 HO164
 have HO_6 := n0_; have HO_7 := n1_; have BK137 := n2_; have HI135 := n3_; have HO161 := n4_; have HB := n5_; have HR151 := n6_; have HR158 := n7_; have HR168 := n8_; have HR175 := n9_; have HO171 := n10_
 clear n0_ n1_ n2_ n3_ n4_ n5_ n6_ n7_ n8_ n9_ n10_ ho hb hg hat
 refine hK.out _ _ trivial (fun hHeld => ?_)
 clear hK K
 refine norm_ (a' := ?_) ?_ ?_
 rotate_left
 ·show Act.put _ (some 110) _ = _
  simp only [Act.put, q1_, q2_, q3_, i64_w, i32_w]
  rfl
 refine one_ (i := 19) (N := some 115) #[T_,T_,T_,T_,T_,T_,T_,T_,T_,T_,T_,T_,T_,T_,T_,T_,T_,T_,T_,T_,F_,F_] rfl rfl (one_of HT_.out (by kernel_rfl)) (by decide) (fun K hK => ?_)
 refine Kd.R_append_rows_step (Kd.int .i64) (w0 := w) w.heap.size (by rfl) (.tmp 110) (.tmp 114) 34 3 (.int .i64 0) 8 rfl Try.underlying34 info3 rfl (by decide) (by omega) v170 y169 y172 _ _ _ (fun k_ => some k_ ≠ (.slice Ao63 x7_2.length co63 : Value).ownBlock) (fun _ => False) rfl rfl ?aO ?aR (fun _ _ h => h) (fun _ h => h.elim) ?aF ?aB ?aS ?aL ?_
 (case aR => repeat (first | exact (by repeat (first | (with_reducible exact HR175.out) | (with_reducible refine Kd.C_alloc ?_ _) | (with_reducible refine Kd.C_drewN ?_ _) | (with_reducible refine Kd.C_drew ?_) | exact HR175.out)) | (with_reducible refine Kd.C_alloc ?_ _) | (with_reducible refine Kd.C_drewN ?_ _) | (with_reducible refine Kd.C_drew ?_)))
 (case aB => exact (by repeat (first | (with_reducible first | exact HB.out | apply below_alloc | apply pw_below_drewN | apply below_drew1 | refine below_set ?_ (IsS75.ge HI135.out) | refine below_set ?_ GE137.out) | exact HB.out)))
 (case aF => exact (fun k_ hk => Kd.fresh' (Kd.R_lt (by (with_reducible repeat (first|apply Kd.R_alloc|apply Kd.R_drewN|apply Kd.R_drew)); exact HO_7.out)) k_ hk))
 (case aO => exact (by (with_reducible repeat (first|apply Kd.R_alloc|apply Kd.R_drewN|apply Kd.R_drew)); exact HO171.out))
 (case aS => exact (below_size (by repeat (first | (with_reducible first | exact HB.out | apply below_alloc | apply pw_below_drewN | apply below_drew1 | refine below_set ?_ (IsS75.ge HI135.out) | refine below_set ?_ GE137.out) | exact HB.out))))
 (case aL => have := LMc55.out; omega)
 intro v177 w73 ho hb hg hat
 rw [← Ny176.out] at ho
 have n0_ := Aside0.mk (Kd.R_over' (by (with_reducible repeat (first|apply Kd.R_alloc|apply Kd.R_drewN|apply Kd.R_drew)); exact HO_6.out) (Kd.R_typed (by (with_reducible repeat (first|apply Kd.R_alloc|apply Kd.R_drewN|apply Kd.R_drew)); exact HO171.out)) (by decide) hg)
 have n1_ := Aside0.mk (Kd.R_after (ok := (fun _ => True)) (by (with_reducible repeat (first|apply Kd.R_alloc|apply Kd.R_drewN|apply Kd.R_drew)); exact HO_7.out) hg hat)
 have n2_ := Aside0.mk (blk_grown (g := gb137) (o := .cells #[.bool ((rd_T62 l0 x8_2).f0), .int .u32 ((rd_T62 l0 x8_2).f1.f0), .int .i64 ((rd_T62 l0 x8_2).f1.f1), .int .i64 ((rd_T62 l0 x8_2).f2)] 62 (0, 0)) (by (with_reducible repeat (first | refine blk_drewN ?_ _ | refine blk_drew ?_ | refine blk_alloc ?_ _)); exact BK137.out) hg (Kd.R_ne HO171.out BK137.out (by decide)))
 have n3_ := Aside0.mk (IsS75.grown (by repeat (first | (with_reducible first | exact HI135.out | apply IsS75.alloc | apply IsS75.drewN | apply IsS75.drew | refine IsS75.far ?_ (by (repeat (first | exact (Opq.NP.blk BK137.out (by decide)) | (with_reducible apply Opq.NP.setCell) | (with_reducible apply Opq.NP.drewN) | (with_reducible apply Opq.NP.drew) | (with_reducible apply Opq.NP.alloc))); done) _) | exact HI135.out)) hg (by (repeat (first | exact (Opq.NPr.typed (Kd.R_typed HO171.out) (by decide)) | (with_reducible apply Opq.NPr.setCell) | (with_reducible apply Opq.NPr.drewN) | (with_reducible apply Opq.NPr.drew) | (with_reducible apply Opq.NPr.alloc))); done))
 have n4_ := Aside0.mk (Kd.R_over' (by (with_reducible repeat (first|apply Kd.R_alloc|apply Kd.R_drewN|apply Kd.R_drew)); exact HO161.out) (Kd.R_typed (by (with_reducible repeat (first|apply Kd.R_alloc|apply Kd.R_drewN|apply Kd.R_drew)); exact HO171.out)) (by decide) hg)
 have n5_ := Aside0.mk (hb)
 have n6_ := Aside0.mk ((show Kd.C k47 w73 Ao24 y148.length y148 from by rw [Ny148.out]; exact Kd.C_take (m := (x10_3 : Int).toNat) ((Kd.R_reads' (Kd.R_over' (by (with_reducible repeat (first|apply Kd.R_alloc|apply Kd.R_drewN|apply Kd.R_drew)); exact HO_6.out) (Kd.R_typed (by (with_reducible repeat (first|apply Kd.R_alloc|apply Kd.R_drewN|apply Kd.R_drew)); exact HO171.out)) (by decide) hg)).2.2) KL60.out))
 have n7_ := Aside0.mk ((show Kd.C k47 w73 A61 y155.length y155 from by rw [Ny155.out, KA61.out]; exact Kd.C_drop (m := ((ji46) : Int).toNat) (c := co24) ((Kd.R_reads' (Kd.R_over' (by (with_reducible repeat (first|apply Kd.R_alloc|apply Kd.R_drewN|apply Kd.R_drew)); exact HO_6.out) (Kd.R_typed (by (with_reducible repeat (first|apply Kd.R_alloc|apply Kd.R_drewN|apply Kd.R_drew)); exact HO171.out)) (by decide) hg)).2.2) KL61.out ((Kd.R_reads' (Kd.R_over' (by (with_reducible repeat (first|apply Kd.R_alloc|apply Kd.R_drewN|apply Kd.R_drew)); exact HO_6.out) (Kd.R_typed (by (with_reducible repeat (first|apply Kd.R_alloc|apply Kd.R_drewN|apply Kd.R_drew)); exact HO171.out)) (by decide) hg)).2.1)))
 have n8_ := Aside0.mk ((show Kd.C (Kd.int .i64) w73 Ao63 y165.length y165 from by rw [Ny165.out]; exact Kd.C_take (m := (x10_3 : Int).toNat) ((Kd.R_reads' (Kd.R_after (ok := (fun _ => True)) (by (with_reducible repeat (first|apply Kd.R_alloc|apply Kd.R_drewN|apply Kd.R_drew)); exact HO_7.out) hg hat)).2.2) KL62.out))
 have n9_ := Aside0.mk ((show Kd.C (Kd.int .i64) w73 A64 y172.length y172 from by rw [Ny172.out, KA64.out]; exact Kd.C_drop (m := ((ji46) : Int).toNat) (c := co63) ((Kd.R_reads' (Kd.R_after (ok := (fun _ => True)) (by (with_reducible repeat (first|apply Kd.R_alloc|apply Kd.R_drewN|apply Kd.R_drew)); exact HO_7.out) hg hat)).2.2) KL64.out ((Kd.R_reads' (Kd.R_after (ok := (fun _ => True)) (by (with_reducible repeat (first|apply Kd.R_alloc|apply Kd.R_drewN|apply Kd.R_drew)); exact HO_7.out) hg hat)).2.1)))
 have n10_ := Aside0.mk (ho)
 clear HO_6 HO_7 BK137 HI135 HO161 HB HR151 HR158 HR168 HR175 HO171
 have HO_6 := n0_; have HO_7 := n1_; have BK137 := n2_; have HI135 := n3_; have HO161 := n4_; have HB := n5_; have HR151 := n6_; have HR158 := n7_; have HR168 := n8_; have HR175 := n9_; have HO178 := n10_
 clear n0_ n1_ n2_ n3_ n4_ n5_ n6_ n7_ n8_ n9_ n10_ ho hb hg hat
 refine hK.out _ _ trivial (fun hHeld => ?_)
 clear hK K
 refine norm_ (a' := ?_) ?_ ?_
 rotate_left
 ·show Act.put _ (some 115) _ = _
  simp only [Act.put, q1_, q2_, q3_, i64_w, i32_w]
  rfl
 refine pure_ (i := 20) (N := some 6) (v := ?_) (a' := ?_) #[T_,T_,T_,T_,T_,T_,T_,T_,T_,T_,T_,T_,T_,T_,T_,T_,T_,T_,T_,T_,T_,F_] rfl rfl (any_of HT_.out (by kernel_rfl)) (fun _ _ _ h => h) (Or.inl ⟨by rfl, ?_⟩) ?_ ?_
 rotate_left
 ·intro w'
  go_simp
  with_reducible rfl
 rotate_left
 ·simp only [Act.put, q1_, q2_, q3_, i64_w, i32_w]
  rfl
 refine pure_ (i := 21) (N := some 7) (v := ?_) (a' := ?_) #[T_,T_,T_,T_,T_,T_,T_,T_,T_,T_,T_,T_,T_,T_,T_,T_,T_,T_,T_,T_,T_,T_] rfl rfl (any_of HT_.out (by kernel_rfl)) (fun _ _ _ h => h) (Or.inl ⟨by rfl, ?_⟩) ?_ ?_
 rotate_left
 ·intro w'
  go_simp
  with_reducible rfl
 rotate_left
 ·simp only [Act.put, q1_, q2_, q3_, i64_w, i32_w]
  rfl
 refine done_ (done_of HT_.out (by kernel_rfl)) ?_
 try go_wp2
 go_roundg kj22
 case measure => have := HJ2.out; have := HK2.out; have := HK3.out; have := HJ22.out; omega
 case rel => exact ⟨(y159), (y176), (wrap64 (x8_2 + 1)), (t144), (by first | rfl | (simp; done) | (simp [*]; done)), H', ⟨by have := HJ2.out; have := HK2.out; have := HK3.out; have := HJ22.out; omega⟩, ⟨by (with_reducible repeat (first | apply Kd.R_alloc | apply Kd.R_drewN | apply Kd.R_drew)); exact Kd.R_mono HO161.out (fun _ hk => trivial)⟩, ⟨by (with_reducible repeat (first | apply Kd.R_alloc | apply Kd.R_drewN | apply Kd.R_drew)); exact Kd.R_mono HO178.out (fun _ hk => trivial)⟩, ⟨by repeat (first | (with_reducible first | exact HI135.out | apply IsS75.alloc | apply IsS75.drewN | apply IsS75.drew | refine IsS75.far ?_ (by (repeat (first | exact (Opq.NP.blk BK137.out (by decide)) | (with_reducible apply Opq.NP.setCell) | (with_reducible apply Opq.NP.drewN) | (with_reducible apply Opq.NP.drew) | (with_reducible apply Opq.NP.alloc))); done) _) | exact HI135.out)⟩, ⟨by repeat (first | (with_reducible first | exact HB.out | apply below_alloc | apply pw_below_drewN | apply below_drew1 | refine below_set ?_ (IsS75.ge HI135.out) | refine below_set ?_ GE137.out) | exact HB.out)⟩⟩
end Go.Proofs.Yteheclbneoodeaa.PTriePlays
