/- PageLoads returns true for every l and base. Conditions: none but the tied errors.errorType. -/
import Derived.Test.YtfihfjbakfadkaaGreatDoorRows
import Derived.Test.YtfihfjbakfadkaaGreatDoorCards
import Derived.Test.YtfihfjbakfadkaaGreatDoorTie
import Derived.SevenTiedAt
import Derived.Test.YtfihfjbakfadkaaGreatDoorMvA
import Derived.Test.YtfihfjbakfadkaaGreatDoorMvV
import Derived.Test.YtfihfjbakfadkaaGreatDoorMvW
namespace Go.Proofs.YtfihfjbakfadkaaGreatDoor
open Go.ChangeShapes Go.WideShapes Go.RowKit
set_option maxRecDepth 100000
set_option linter.unusedVariables false
namespace PPageLoads

theorem law {H:Type} (enc:TypeId × Value→H):LawWalk enc Tryz.prog 4 Tryz.f4.params.toList (fun W=>laidMetH Tryz.prog Rows.pageLoadsRow.laid W):=by
  intro W args ds ps base hA hval hlt hsz hX
  rw [Tryz.params4] at hA hval hsz
  obtain ⟨v0,vs0,d0,ds0,p0,q0,hargs,rfl,rfl,h0,r0⟩:=trodAll_cons hA
  obtain ⟨v1,vs1,d1,ds1,p1,q1,rfl,rfl,rfl,h1,r1⟩:=trodAll_cons r0
  obtain ⟨rfl,rfl,rfl⟩:=trodAll_nil r1
  obtain rfl:args=#[v0,v1]:=by cases args;simp_all
  have hw:∀ y ∈ DataW.weightsEach Tryz.prog [24,4] [d0,d1],y≤reachBytes:=fun y hy=>by simpa using List.all_eq_true.1 hsz y hy
  have w0:∀ y ∈ d0.weights Tryz.prog 24,y≤reachBytes:=fun y hy=>hw y (by simp [DataW.weightsEach,hy])
  have l0:∀ p ∈ p0,p.block < W.heap.size:=fun p hp=>hlt p (by simp [hp])
  have w1:∀ y ∈ d1.weights Tryz.prog 4,y≤reachBytes:=fun y hy=>hw y (by simp [DataW.weightsEach,hy])
  have l1:∀ p ∈ p1,p.block < W.heap.size:=fun p hp=>hlt p (by simp [hp])
  obtain ⟨A0,n0,cap0,rfl,hc0,hm0,hb0,hz0,hrd0⟩:=open_slice_arg 6 Tryz.underlying24 (hval 0 _ v0 rfl rfl) h0 l0 w0 (by rw [leaves_Record];rfl) (by rw [leaves_Record,cells_Record];rfl)
  obtain ⟨a1,rfl,rfl,rfl⟩:=open_bool Tryz.underlying4 (hval 1 _ v1 rfl rfl) h1
  exact (ploads10_walk_i A0 n0 cap0 hc0 hm0 a1 W (Record_at hrd0) (handle_of_laid hX)).mono fun e W' ⟨he,hf⟩=>⟨he,hf.below0⟩

theorem lifted (os:Os) (started:os.Started) (H:Type) (enc:TypeId × Value→H) :
    ReturnsInHanded {} Tryz.checked os 4 .any (fun w args=>(Rows.pageLoadsSpec.pre enc Tryz.prog Tryz.f4 [] false w args∧laidMetH Tryz.prog Rows.pageLoadsRow.laid w)∧sizedMet enc Tryz.prog Tryz.f4 (OpenSpec.ofChange Rows.pageLoadsSpec) false w args)
      (Rows.pageLoadsSpec.post enc Tryz.prog Tryz.f4 false true false false):=
  lift_laid (C:=Tryz.checked) (by kernel_rfl) started (by kernel_rfl) Tryz.func4 (by kernel_rfl) (by kernel_rfl) rfl Tryz.underlying4 rfl
    (fun ds h=>by
      match ds,h with
      | [d0,d1],_=>rfl)
    (ChangeSpec.witness_at (enc:=enc) (C:=Tryz.checked) (os:=os) (X:=fun w _=>laidMetH Tryz.prog Rows.pageLoadsRow.laid w) false (laidWorld os) #[.slice none 0 0,.bool false] 8 rfl (by kernel_rfl) (by kernel_rfl) (by kernel_rfl) (by kernel_rfl) (by kernel_rfl) (laidWorld_met os _))
    (law enc)

theorem row_holds:Rows.PageLoadsSaid:=
  OpenClaim.holds_of_wide 4 Tryz.f4 rfl rfl rfl rfl rfl rfl rfl ⟨rfl,rfl,rfl,rfl,rfl⟩ rfl rfl rfl rfl rfl (by kernel_rfl) Tryz.func4 (by kernel_rfl)
    (of_decide_eq_true (by kernel_rfl)) (by unfold Func.isWrapper;rw [if_neg (of_decide_eq_false (by kernel_rfl))];exact ⟨rfl,rfl⟩)
    (fun os started H enc _=>lifted os started H enc)

theorem card_holds:Rows.PageLoadsCardSaid:=
  Claim7.holds_tied_plain_at .later [] _ _ _ _
    row_holds (fun _ h=>by cases h) (by kernel_rfl) (fun _ h=>by cases h) pageLoads_row_tie rfl ⟨rfl,rfl⟩ (by kernel_rfl) rfl
    (fun f fn hf hfn=>by
      obtain rfl:f=4:=Option.some.inj ((show Tryz.prog.funcNamed Rows.pageLoadsRow.func=some 4 by kernel_rfl).symm.trans hf) |>.symm
      obtain rfl:fn=Tryz.f4:=(Option.some.inj (Tryz.func4.symm.trans hfn)).symm
      refine ⟨by kernel_rfl,fun j t ht=>?_⟩
      have hall:(Tryz.f4.params.toList.all fun t=>!Tryz.prog.wantsStandIn t)=true:=by kernel_rfl
      have hm:t ∈ Tryz.f4.params.toList:=by
        rw [Array.mem_toList_iff]
        exact Array.mem_of_getElem? ht
      have h1:=List.all_eq_true.1 hall t hm
      have h2:Tryz.prog.wantsStandIn t=false:=by simpa using h1
      exact h2)
    (by kernel_rfl)
#print axioms card_holds
end PPageLoads
end Go.Proofs.YtfihfjbakfadkaaGreatDoor
