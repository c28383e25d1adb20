/- The document's arena: Live and Left. Written by gen_re4.py. -/
import Derived.Test.YtfoljojacakkeaaDoorRd4
import Derived.Test.YtfoljojacakkeaaDoorLive
namespace Go.Proofs.YtfoljojacakkeaaDoor
open Go.RowKit
set_option maxRecDepth 100000
set_option linter.unusedVariables false
/-- The live refs of the slots up to k. -/
def rliveTo (L : List RaP) : Nat → List Rf
  | 0 => []
  | k + 1 => rliveTo L k ++ if (slotP L ((k : Int) + 1)).2 = true then [((k : Int) + 1, (slotP L ((k : Int) + 1)).1)] else []
theorem rlive_hit {L : List RaP} {k : Nat} (hu : (slotP L ((k : Int) + 1)).2 = true) : rliveTo L (k + 1) = rliveTo L k ++ [((k : Int) + 1, (slotP L ((k : Int) + 1)).1)] := by simp [rliveTo, hu]
theorem rlive_miss {L : List RaP} {k : Nat} (hu : (slotP L ((k : Int) + 1)).2 = false) : rliveTo L (k + 1) = rliveTo L k := by simp [rliveTo, hu]
theorem rlive_le (L : List RaP) : ∀ k, (rliveTo L k).length ≤ k
  | 0 => Nat.le_refl _
  | k + 1 => by
    have := rlive_le L k
    rw [rliveTo, List.length_append]
    split <;> simp <;> omega
/-- How many of the slots up to k are left. -/
def rleftTo (L : List RaP) (last : Int) : Nat → Nat
  | 0 => 0
  | k + 1 => rleftTo L last k + if (slotP L ((k : Int) + 1)).2 = false ∧ (slotP L ((k : Int) + 1)).1 < last then 1 else 0
theorem rleft_le (L : List RaP) (last : Int) : ∀ k, rleftTo L last k ≤ k
  | 0 => Nat.le_refl _
  | k + 1 => by
    have := rleft_le L last k
    rw [rleftTo]
    split <;> omega
theorem rf_snoc (X : List Rf) (p : Rf) : rfFlat (X ++ [p]) = rfFlat X ++ [.int .i64 p.1, .int .i64 p.2] := by simp [rfFlat, rfCells]
def RLivePost (slots : Int) (L : List RaP) (w : World) (e : Ending) (w' : World) : Prop :=
  ∃ A c, e = .returned (.slice A (rliveTo L slots.toNat).length c) ∧ w'.ownsRow w.heap.size 38 2 (.slice A (rliveTo L slots.toNat).length c) (rliveTo L slots.toNat).length (rfFlat (rliveTo L slots.toNat)) ∧ Fr none_ w w'
set_option maxHeartbeats 8000000 in
theorem rlive_ok (slots last : Int) (L : List RaP) (A : Option Addr) (c : Nat) (w : World) (h0 : 0 ≤ slots) (h1 : slots ≤ 4096) (h : RaIn w L A c) : Calls Tryd.prog 16 #[raV slots last L A c] w (RLivePost slots L w) := by
  obtain ⟨i0, hi0, hz0, hs0, hb0⟩ := info_parts ref_info
  have Hi := hid_ (And.intro hi0 (And.intro hz0 (And.intro hs0 hb0)))
  clear hi0 hz0 hs0 hb0
  obtain ⟨w0, hw0⟩ : ∃ z, z = w.alloc (.cells (raA slots last L A c) 29) := ⟨_, rfl⟩
  have f0 : Fr none_ w w0 := by rw [hw0]; exact (Fr.refl none_ w).alloc _
  have BV : Hid (Blk w0 w.heap.size 29 (raA slots last L A c)) := hid_ (by rw [hw0]; exact Blk.new w _ _)
  have H := hid_ (h.keep f0)
  have F0 := hid_ f0
  have hlt0 := BV.out.lt
  clear f0 h
  go_enter Tryd.func16, Tryd.ntmps16
  go_upto_region 3 with fail
  change Code.wp _ _ _ _ (w.alloc (.cells (raA slots last L A c) 29))
  rw [← hw0]
  clear hw0
  go_wp2_with fail
  go_loopw [3, 4] (fun v i wr => ∃ n : Nat, (n : Int) ≤ slots ∧ i = .int .i64 ((n : Int) + 1) ∧ wr.ownsRow w0.heap.size 38 2 v (rliveTo L n).length (rfFlat (rliveTo L n)) ∧ Fr none_ w0 wr) (fun _ i _ => slots.toNat + 1 - (intOf i).toNat)
  case atStart => exact ⟨0, by omega, rfl, World.ownsRow_nil w0 w0.heap.size 38 2, Fr.refl _ _⟩
  case round =>
    obtain ⟨n, hn, rfl, hown, hfr⟩ := hrel
    have FR := hid_ hfr
    have hsz := hfr.size
    have Ho := hid_ hown
    have hul := rlive_le L n
    clear hown
    have v0 : wr.cell? ⟨w.heap.size, 0, none⟩ = some (.int .i64 slots) := (BV.out.fr hfr id).cell' rfl
    have v1 : wr.cell? ⟨w.heap.size, 1, none⟩ = some (.int .i64 last) := (BV.out.fr hfr id).cell' rfl
    have v2 : wr.cell? ⟨w.heap.size, 2, none⟩ = some (.slice A L.length c) := (BV.out.fr hfr id).cell' rfl
    clear hfr
    by_cases hlt : (n : Int) + 1 ≤ slots
    · have hd : decide ((n : Int) + 1 ≤ slots) = true := by simpa using hlt
      go_wp2_with fail
      refine (rslot_ok slots last L A c ((n : Int) + 1) wr (H.out.keep FR.out)).mono ?_
      rintro e wa ⟨rfl, hf⟩
      have FA := hid_ (FR.out.then_none hf)
      have hsa := hf.size
      have hwk : IntKind.i64.wrap ((n : Int) + 1 + 1) = (n : Int) + 1 + 1 := IntWalk.i64_in _ (by omega)
      obtain ⟨g, hg⟩ : ∃ g, (slotP L ((n : Int) + 1)).1 = g := ⟨_, rfl⟩
      obtain ⟨u, hu⟩ : ∃ u, (slotP L ((n : Int) + 1)).2 = u := ⟨_, rfl⟩
      rw [hg, hu]
      have HGU := hid_ (And.intro hg hu)
      have FWA := hid_ hf
      clear hg hu v0 v1 v2 hf
      cases u with
      | false =>
        go_wp2_with fail
        go_roundw
        case rel => exact ⟨n + 1, by omega, by go_num, by rw [rlive_miss HGU.out.2]; exact own_none Ho.out FWA.out, FA.out⟩
        case measure => simp [intOf]; omega
      | true =>
        have OA := hid_ (own_none Ho.out FWA.out)
        have RE := hid_ (reads_new wa 38 [.int .i64 ((n : Int) + 1), .int .i64 g] wa.heap.size rfl)
        have hbase : Hid (w0.heap.size ≤ (wa.alloc (.cells [.int .i64 ((n : Int) + 1), .int .i64 g].toArray 38)).heap.size) := hid_ (by rw [World.size_alloc]; omega)
        have hmx : Hid ((rliveTo L n).length + 1 ≤ maxLen) := hid_ (by unfold maxLen; omega)
        have hby : Hid (((rliveTo L n).length + 1) * 16 ≤ 140737488355328) := hid_ (by omega)
        go_wp2_with (at_builtin; refine wpList_append_any _ rfl (.tmp 20) (.tmp 24) 32 rfl w0.heap.size 38 i0 _ 2 16 Tryd.underlying32 Hi.out.1 Hi.out.2.1 Hi.out.2.2.1 Hi.out.2.2.2 rfl (by decide) _ (rliveTo L n).length (rfFlat (rliveTo L n)) rfl (OA.out.alloc _) (some ⟨wa.heap.size, 0, none⟩) 1 1 [.int .i64 ((n : Int) + 1), .int .i64 g] rfl RE.out (by intro u hu; simp at hu; rcases hu with rfl | rfl <;> rfl) hmx.out hby.out hbase.out ?_; intro A2 c2 wb hown hgr; have O2 := hid_ hown; have F2 := hid_ ((FA.out.alloc (.cells [.int .i64 ((n : Int) + 1), .int .i64 g].toArray 38)).grown hgr (fun k hk => .inr (OA.out.lt k hk).1)); clear hown hgr)
        go_roundw
        case rel =>
          refine ⟨n + 1, by omega, by go_num, ?_, F2.out⟩
          rw [rlive_hit HGU.out.2, HGU.out.1, List.length_append, rf_snoc]
          exact O2.out
        case measure => simp [intOf]; omega
    · have hd : decide ((n : Int) + 1 ≤ slots) = false := by simpa using hlt
      obtain rfl : n = slots.toNat := by omega
      obtain ⟨A2, c2, rfl, _⟩ := own_parts Ho.out
      go_wp2_with fail
      go_ret
      exact ⟨A2, c2, rfl, own_base Ho.out (Nat.le_of_lt (Nat.lt_of_le_of_lt (Nat.zero_le _) hlt0) |> fun _ => F0.out.size), F0.out.then_none FR.out⟩
set_option maxHeartbeats 8000000 in
theorem rleft_ok (slots last : Int) (L : List RaP) (A : Option Addr) (c : Nat) (w : World) (h0 : 0 ≤ slots) (h1 : slots ≤ 4096) (h : RaIn w L A c) : Calls Tryd.prog 18 #[raV slots last L A c] w fun e w' => e = .returned (.int .i64 (rleftTo L last slots.toNat)) ∧ Fr none_ w w' := by
  obtain ⟨w0, hw0⟩ : ∃ z, z = w.alloc (.cells (raA slots last L A c) 29) := ⟨_, rfl⟩
  have f0 : Fr none_ w w0 := by rw [hw0]; exact (Fr.refl none_ w).alloc _
  have BV : Hid (Blk w0 w.heap.size 29 (raA slots last L A c)) := hid_ (by rw [hw0]; exact Blk.new w _ _)
  have H := hid_ (h.keep f0)
  have F0 := hid_ f0
  have hlt0 := BV.out.lt
  clear f0 h
  go_enter Tryd.func18, Tryd.ntmps18
  go_upto_region 3 with fail
  change Code.wp _ _ _ _ (w.alloc (.cells (raA slots last L A c) 29))
  rw [← hw0]
  clear hw0
  go_wp2_with fail
  go_loopw [3, 4] (fun v i wr => ∃ n : Nat, (n : Int) ≤ slots ∧ i = .int .i64 ((n : Int) + 1) ∧ v = .int .i64 (rleftTo L last n) ∧ Fr none_ w0 wr) (fun _ i _ => slots.toNat + 1 - (intOf i).toNat)
  case atStart => exact ⟨0, by omega, rfl, rfl, Fr.refl _ _⟩
  case round =>
    obtain ⟨n, hn, rfl, rfl, hfr⟩ := hrel
    have FR := hid_ hfr
    have hsz := hfr.size
    have hul := rleft_le L last n
    have v0 : wr.cell? ⟨w.heap.size, 0, none⟩ = some (.int .i64 slots) := (BV.out.fr hfr id).cell' rfl
    have v1 : wr.cell? ⟨w.heap.size, 1, none⟩ = some (.int .i64 last) := (BV.out.fr hfr id).cell' rfl
    have v2 : wr.cell? ⟨w.heap.size, 2, none⟩ = some (.slice A L.length c) := (BV.out.fr hfr id).cell' rfl
    clear hfr
    by_cases hlt : (n : Int) + 1 ≤ slots
    · have hd : decide ((n : Int) + 1 ≤ slots) = true := by simpa using hlt
      go_wp2_with fail
      refine (rslot_ok slots last L A c ((n : Int) + 1) wr (H.out.keep FR.out)).mono ?_
      rintro e wa ⟨rfl, hf⟩
      have FA := hid_ (FR.out.then_none hf)
      have hsa := hf.size
      have hwk : IntKind.i64.wrap ((n : Int) + 1 + 1) = (n : Int) + 1 + 1 := IntWalk.i64_in _ (by omega)
      obtain ⟨g, hg⟩ : ∃ g, (slotP L ((n : Int) + 1)).1 = g := ⟨_, rfl⟩
      obtain ⟨u, hu⟩ : ∃ u, (slotP L ((n : Int) + 1)).2 = u := ⟨_, rfl⟩
      rw [hg, hu]
      have HGU := hid_ (And.intro hg hu)
      have FWA := hid_ hf
      clear hg hu v0 v1 v2 hf
      have v1 : wa.cell? ⟨w.heap.size, 1, none⟩ = some (.int .i64 last) := (BV.out.fr FA.out id).cell' rfl
      have hwl : IntKind.i64.wrap ((rleftTo L last n : Int) + 1) = (rleftTo L last n : Int) + 1 := IntWalk.i64_in _ (by omega)
      cases u with
      | true =>
        go_wp2_with fail
        go_roundw
        case rel => exact ⟨n + 1, by omega, by go_num, by rw [rleftTo, if_neg (by rw [HGU.out.2]; simp)]; rfl, FA.out⟩
        case measure => simp [intOf]; omega
      | false =>
        by_cases hgl : g < last
        · have hd2 : decide (g < last) = true := by simpa using hgl
          have HL := hid_ hgl
          clear hgl
          go_wp2_with fail
          go_roundw
          case rel => exact ⟨n + 1, by omega, by go_num, by rw [rleftTo, if_pos ⟨HGU.out.2, by rw [HGU.out.1]; exact HL.out⟩]; rfl, FA.out⟩
          case measure => simp [intOf]; omega
        · have hd2 : decide (g < last) = false := by simpa using hgl
          have HL := hid_ hgl
          clear hgl
          go_wp2_with fail
          go_roundw
          case rel => exact ⟨n + 1, by omega, by go_num, by rw [rleftTo, if_neg (by rw [HGU.out.1]; exact fun e => by have h1 := HL.out; have h2 := e.2; omega)]; rfl, FA.out⟩
          case measure => simp [intOf]; omega
    · have hd : decide ((n : Int) + 1 ≤ slots) = false := by simpa using hlt
      obtain rfl : n = slots.toNat := by omega
      go_wp2_with fail
      go_ret
      exact ⟨rfl, F0.out.then_none FR.out⟩
end Go.Proofs.YtfoljojacakkeaaDoor
