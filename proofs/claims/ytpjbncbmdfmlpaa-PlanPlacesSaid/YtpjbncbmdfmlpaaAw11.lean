/- awake of layer 11. -/
import Derived.Test.YtpjbncbmdfmlpaaNm11
namespace Go.Proofs.Ytpjbncbmdfmlpaa
open Go.RowKit Go.BigFrame
set_option maxRecDepth 100000
set_option linter.unusedVariables false

abbrev sA : ByteArray := ⟨#[97]⟩
abbrev sB : ByteArray := ⟨#[98]⟩
abbrev sC : ByteArray := ⟨#[99]⟩
def rows3 : List Rw := [(sA, nilS), (sB, nilS), (sC, nilS)]
def recK (A : Option Addr) : Ch := ⟨⟨1, nilS, nilS, true, 0, rows3, [], nilS, nilS, 0, 0, 0, nilS, 0, 0⟩, A, 3, none, 0⟩
theorem lt_nil (x : ByteArray) : ltS x nilS = false := by
  rcases ltS_total x nilS with h | h | h
  · exfalso
    have h2 : ltL x.data.toList [] = true := h
    cases hx : x.data.toList <;> rw [hx] at h2 <;> simp [ltL] at h2
  · rw [h]; exact ltS_irrefl _
  · exact ltS_asymm h
theorem sz1 {s : ByteArray} (h : s.size ≤ 16) : SzOk s := by unfold SzOk; omega
theorem rows3_ok : RwsOk rows3 := ⟨by decide, fun p hp => by
  simp only [rows3, List.mem_cons, List.not_mem_nil, or_false] at hp
  rcases hp with rfl | rfl | rfl <;> exact ⟨sz1 (by decide), sz1 (by decide)⟩⟩
theorem rows3_right : RightR rows3 := ⟨fun p hp => by
  simp only [rows3, List.mem_cons, List.not_mem_nil, or_false] at hp
  rcases hp with rfl | rfl | rfl <;> decide, fun i p q hp hq => by
  match i, hp, hq with
  | 0, hp, hq => cases hp; cases hq; decide
  | 1, hp, hq => cases hp; cases hq; decide
  | k + 2, hp, hq => simp [rows3] at hq⟩
theorem rows3_sound : SoundR nilS nilS true rows3 := ⟨fun _ => rfl, rows3_right, fun p hp => by simp [inS, lt_nil]⟩
def lvK : Lw := ⟨nilS, nilS, true, 0, rows3, false⟩
theorem of_K (A : Option Addr) : ofM [(recK A).R] = some (true, lvK, Vw.zero) := by
  unfold ofM
  rw [if_pos (by rfl), foldL_one _ rfl rows3_sound]
  rfl
theorem reads_K {w : World} {b : Nat} {cs : Array Value} (h : Blk w b 62 cs) (hc : cs = (rwFlat rows3).toArray) : Reads w 2 (some ⟨b, 0, none⟩) 3 (rwFlat rows3) := by
  subst hc
  refine ⟨rfl, fun _ => ⟨_, rfl, fun j u hu => ?_⟩⟩
  rw [add_lit, Nat.zero_add]
  exact h.cell' (by simpa using hu)
abbrev limK : L6 := ⟨0, 0, 0, 2, 4, 0⟩
abbrev azK : Az := ⟨false, 0, 0, 0, Vw.zero, none, 0⟩
abbrev recZ7 : Array Value := recZ8
set_option maxHeartbeats 8000000 in
theorem awake11_ok (w : World) : Calls Try.prog 28 #[] w (RetQ (.bool true) w) := by
  go_enter Try.func28, Try.ntmps28
  obtain ⟨w1, hw1⟩ : ∃ z, z = w.alloc (.cells (rwFlat rows3).toArray 62) := ⟨_, rfl⟩
  have f1 : Fr none_ w w1 := by rw [hw1]; exact (Fr.refl none_ w).alloc _
  have BR : Hid (Blk w1 w.heap.size 62 (rwFlat rows3).toArray) := hid_ (by rw [hw1]; exact Blk.new w _ _)
  have F1 := hid_ f1
  have hs1 : w1.heap.size = w.heap.size + 1 := by rw [hw1]; simp
  go_upto_region 2 with (change wpList _ _ _ _ _ ((w.alloc (.cells (rwFlat rows3).toArray 62)).alloc (.cells recZ7 58)); rw [← hw1, show w.heap.size + 1 = w1.heap.size from hs1.symm]; refine wpList_store_mid rfl 58 (.tmp 1) (.tmp 9) rfl w1.heap.size 0 (recL (recK (some ⟨w.heap.size, 0, none⟩))).toArray rfl rfl (new_there w1 _ recZ7) rec_size8 (rec_one _) ?_; obtain ⟨w2, hw2⟩ : ∃ z, z = (w1.alloc (.cells recZ7 58)).setCells w1.heap.size 0 ((recL (recK (some ⟨w.heap.size, 0, none⟩))).toArray).toList := ⟨_, rfl⟩; change wpList _ _ _ _ _ ((w1.alloc (.cells recZ7 58)).setCells w1.heap.size 0 ((recL (recK (some ⟨w.heap.size, 0, none⟩))).toArray).toList); rw [← hw2]; have P2 : Hid (Blk w2 w1.heap.size 58 (recL (recK (some ⟨w.heap.size, 0, none⟩))).toArray ∧ Fr none_ w1 w2) := hid_ (by rw [hw2]; exact new_copy w1 _ recZ7 ((recL (recK (some ⟨w.heap.size, 0, none⟩))).toArray).toList rfl); clear hw2)
  clear hs1 hw1
  go_wp2_with (refine wpList_load_mid rfl 58 (.tmp 1) rfl w1.heap.size 0 rfl (recL (recK (some ⟨w.heap.size, 0, none⟩))) _ P2.out.1.range7 Try.underlying58 rfl rec_size8 ?_)
  obtain ⟨w3, hw3⟩ : ∃ z, z = w2.alloc (.cells (recL (recK (some ⟨w.heap.size, 0, none⟩))).toArray 58) := ⟨_, rfl⟩
  have f3 : Fr none_ w2 w3 := by rw [hw3]; exact (Fr.refl none_ w2).alloc _
  have B3 : Hid (Blk w3 w2.heap.size 58 (recL (recK (some ⟨w.heap.size, 0, none⟩))).toArray) := hid_ (by rw [hw3]; exact Blk.new w2 _ _)
  have F3 := hid_ (P2.out.2.then_none f3)
  change Calls _ _ _ (w2.alloc (.cells (recL (recK (some ⟨w.heap.size, 0, none⟩))).toArray 58)) _
  rw [← hw3]
  clear hw3 f3
  have hbr := BR.out.lt
  have hch : ChReads w3 (some ⟨w2.heap.size, 0, none⟩) 1 [(recK (some ⟨w.heap.size, 0, none⟩))] := ⟨rfl, fun _ => ⟨_, _, rfl, B3.out.lt, fun k C hC => by
    match k, hC with
    | 0, hC =>
      cases hC
      refine ⟨B3.out.range7, ⟨⟨reads_K (BR.out.fr F3.out id) rfl, Reads.nil_⟩, SzOk.nil, SzOk.nil, SzOk.nil, SzOk.nil, ⟨by show (0:Nat) ≤ 1000; omega, fun p hp => by simp [recK] at hp⟩, Nat.le_refl _, by simp [recK, maxLen]⟩⟩
    | k + 1, hC => simp at hC⟩⟩
  refine (of_ok 3 1 1 (some ⟨w2.heap.size, 0, none⟩) 1 1 [(recK (some ⟨w.heap.size, 0, none⟩))] [] none 0 w3 hch (by omega) (fun C hC => by obtain rfl := List.mem_singleton.1 hC; exact ⟨SzOk.nil, rows3_ok, by show (3 : Nat) ≤ 500; omega⟩) (fun C hC => by obtain rfl := List.mem_singleton.1 hC; exact Nat.zero_le _) Reads.nil_ (by simp)).mono ?_
  rintro e w4 (⟨leaf, lv, iv, A, c, B, d, C, x, D, y, hof, rfl, hpg, hf4⟩ | ⟨q, hq, hof, rfl, hf4⟩)
  rotate_left
  · have := of_K (some ⟨w.heap.size, 0, none⟩)
    rw [show [(recK (some ⟨w.heap.size, 0, none⟩))].map (·.R) = [(recK (some ⟨w.heap.size, 0, none⟩)).R] from rfl, this] at hof
    cases hof
  have hok := of_K (some ⟨w.heap.size, 0, none⟩)
  rw [show [(recK (some ⟨w.heap.size, 0, none⟩))].map (·.R) = [(recK (some ⟨w.heap.size, 0, none⟩)).R] from rfl, hok] at hof
  injection hof with hof
  injection hof with h1 hof
  injection hof with h2 h3
  subst h1 h2 h3
  have F4 := hid_ (F1.out.then_none (F3.out.then_none hf4))
  have VI := hid_ hpg.iv
  clear hok hpg hf4 hch B3 P2
  obtain ⟨P, hP⟩ : ∃ P : Pz, P = ⟨3, 1, 1, C, 1, x, .slice D 0 y, true, lvK, A, c, Vw.zero, B, d⟩ := ⟨_, rfl⟩
  have HPE := hid_ hP
  have POK : Hid (∀ w', Fr none_ w4 w' → PzOk w' P) := hid_ (fun w' hf => by rw [hP]; exact ⟨SzOk.nil, SzOk.nil, by show (3 : Nat) ≤ 300000; omega, VI.out.keep hf, by show 1 ≤ 4000; omega⟩)
  go_upto_region 3 with (refine wpList_store_mid rfl 45 (.tmp 2) (.tmp 15) rfl w4.heap.size 0 (pzA P) rfl (by rw [hP]; rfl) (new_there w4 _ pgZ) page_size (by rw [hP]; simp [Value.oneCell']) ?_; obtain ⟨w5, hw5⟩ : ∃ z, z = (w4.alloc (.cells pgZ 45)).setCells w4.heap.size 0 (pzA P).toList := ⟨_, rfl⟩; change wpList _ _ _ _ _ ((w4.alloc (.cells pgZ 45)).setCells w4.heap.size 0 (pzA P).toList); rw [← hw5]; have P5 : Hid (Blk w5 w4.heap.size 45 (pzA P) ∧ Fr none_ w4 w5) := hid_ (by rw [hw5]; exact new_copy w4 _ pgZ (pzA P).toList rfl); clear hw5)
  go_upto_region 4 with fail
  obtain ⟨w6, hw6⟩ : ∃ z, z = w5.alloc (.cells (l6A limK) 28) := ⟨_, rfl⟩
  have f6 : Fr none_ w5 w6 := by rw [hw6]; exact (Fr.refl none_ w5).alloc _
  have BL : Hid (Blk w6 w5.heap.size 28 (l6A limK)) := hid_ (by rw [hw6]; exact Blk.new w5 _ _)
  have BP : Hid (Blk w6 w4.heap.size 45 (pzA P)) := hid_ (P5.out.1.fr f6 id)
  have F6 : Hid (Fr none_ w4 w6) := hid_ (P5.out.2.then_none f6)
  change Code.wp _ _ _ _ (w5.alloc (.cells (l6A limK) 28))
  rw [← hw6]
  clear hw6 f6 P5 hP
  have hsize : P.size = 3 := by rw [HPE.out]; rfl
  have HSZ := hid_ hsize
  have hinK : inS P.low P.high P.unb sA = true := by rw [HPE.out]; simp [Pz.low, Pz.high, Pz.unb, inS, lvK, lt_nil]
  have D1 : Hid (decM P azK sA limK true = pnK 7) := hid_ (dec_d (by rw [HPE.out]; rfl) (by rw [HPE.out]; rfl) hinK (by
    unfold upkM
    rw [HSZ.out, HPE.out, if_neg (by show ¬ ((4 : Int) < ((1 : Nat) : Int)); omega), if_neg (by show ¬ ((2 : Int) < ((3 : Nat) : Int) ∧ (3 : Int) = 0); omega), if_pos (by show (2 : Int) < ((3 : Nat) : Int); omega)]))
  have D2 : Hid (decM P azK sA limK false = pnK 10) := hid_ ((dec_e (by rw [HPE.out]; rfl) rfl hinK (fun h => by cases h)).trans (by unfold decR; rw [HPE.out]; rfl))
  clear hsize hinK
  go_wp2_with (first | (refine wpList_load_midG (by kernel_rfl) 45 (.tmp 2) rfl w4.heap.size 0 rfl (pzA P).toList _ (Blk.range7 (l := (pzA P).toList) BP.out) Try.underlying45 rfl page_size ?_) | (refine wpList_load_midG (by kernel_rfl) 28 (.tmp 4) rfl w5.heap.size 0 rfl (l6A limK).toList _ (Blk.range7 (l := (l6A limK).toList) BL.out) Try.underlying28 rfl lim_size7 ?_))
  refine (decide_ok P azK sA limK true w6 (POK.out w6 F6.out) (VwIn.zero _) (sz1 (by decide)) (fun _ w' h1 h2 => upkeep_big P azK limK w' h1 h2 (by rw [HSZ.out]; decide))).mono ?_
  rintro e w7 ⟨rfl, hf7⟩
  have hfd7 : ∀ w : World, (Instr.field 81 (.agg #[.int .i64 7, .int .i64 0, .string ⟨#[]⟩, .int .i64 0, .int .i64 0, .int .i64 0, .string ⟨#[]⟩]) 0).run Try.prog w = .ok (.int .i64 7) w := fun _ => by kernel_rfl
  rw [D1.out, show Value.agg (pnA (pnK 7)) = .agg #[.int .i64 7, .int .i64 0, .string ⟨#[]⟩, .int .i64 0, .int .i64 0, .int .i64 0, .string ⟨#[]⟩] from rfl]
  replace BP := hid_ (BP.out.fr hf7 id)
  replace BL := hid_ (BL.out.fr hf7 id)
  replace F6 := hid_ (F6.out.then_none hf7)
  clear hf7
  go_wp2_with (first | (refine wpList_load_midG (by kernel_rfl) 45 (.tmp 2) rfl w4.heap.size 0 rfl (pzA P).toList _ (Blk.range7 (l := (pzA P).toList) BP.out) Try.underlying45 rfl page_size ?_) | (refine wpList_load_midG (by kernel_rfl) 28 (.tmp 4) rfl w5.heap.size 0 rfl (l6A limK).toList _ (Blk.range7 (l := (l6A limK).toList) BL.out) Try.underlying28 rfl lim_size7 ?_))
  refine (decide_ok P azK sA limK false w7 (POK.out w7 F6.out) (VwIn.zero _) (sz1 (by decide)) (fun h => by cases h)).mono ?_
  rintro e w8 ⟨rfl, hf8⟩
  have hfd10 : ∀ w : World, (Instr.field 81 (.agg #[.int .i64 10, .int .i64 0, .string ⟨#[]⟩, .int .i64 0, .int .i64 0, .int .i64 0, .string ⟨#[]⟩]) 0).run Try.prog w = .ok (.int .i64 10) w := fun _ => by kernel_rfl
  rw [D2.out, show Value.agg (pnA (pnK 10)) = .agg #[.int .i64 10, .int .i64 0, .string ⟨#[]⟩, .int .i64 0, .int .i64 0, .int .i64 0, .string ⟨#[]⟩] from rfl]
  replace F6 := hid_ (F6.out.then_none hf8)
  clear hf8
  go_wp2_with fail
  refine (name_ok 10 w8).mono ?_
  rintro e w9 ⟨rfl, hf9⟩
  replace F6 := hid_ (F6.out.then_none hf9)
  clear hf9
  rw [show nameM 10 = (⟨#[97, 99, 116]⟩ : ByteArray) from rfl]
  go_wp2
  go_ret
  exact ⟨rfl, F4.out.then_none F6.out⟩
end Go.Proofs.Ytpjbncbmdfmlpaa
