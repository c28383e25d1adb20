/- InstallPlays returns true for every l, jobs and turns. Conditions: none but the tied errors.errorType. -/
import Derived.Test.YthcpccddcgbanaaGreatDoorRows
import Derived.Test.YthcpccddcgbanaaGreatDoorCards
import Derived.Test.YthcpccddcgbanaaGreatDoorTie
import Derived.SevenTiedAt
import Derived.Test.YthcpccddcgbanaaGreatDoorPiYI
import Derived.Test.YthcpccddcgbanaaGreatDoorPiYJ
import Derived.Test.YthcpccddcgbanaaGreatDoorPiYK
namespace Go.Proofs.YthcpccddcgbanaaGreatDoor
open Go.ChangeShapes Go.WideShapes Go.RowKit
set_option maxRecDepth 100000
set_option linter.unusedVariables false
namespace PInstallPlays

theorem law {H:Type} (enc:TypeId × Value→H):LawWalk enc Tryz.prog 3 Tryz.f3.params.toList (fun W=>laidMetH Tryz.prog Rows.installPlaysRow.laid W):=by
  intro W args ds ps base hA hval hlt hsz hX
  rw [Tryz.params3] at hA hval hsz
  obtain ⟨v0,vs0,d0,ds0,p0,q0,hargs,rfl,rfl,h0,r0⟩:=trodAll_cons hA
  obtain ⟨v1,vs1,d1,ds1,p1,q1,rfl,rfl,rfl,h1,r1⟩:=trodAll_cons r0
  obtain ⟨v2,vs2,d2,ds2,p2,q2,rfl,rfl,rfl,h2,r2⟩:=trodAll_cons r1
  obtain ⟨rfl,rfl,rfl⟩:=trodAll_nil r2
  obtain rfl:args=#[v0,v1,v2]:=by cases args;simp_all
  have hw:∀ y ∈ DataW.weightsEach Tryz.prog [23,24,25] [d0,d1,d2],y≤reachBytes:=fun y hy=>by simpa using List.all_eq_true.1 hsz y hy
  have w0:∀ y ∈ d0.weights Tryz.prog 23,y≤reachBytes:=fun y hy=>hw y (by simp [DataW.weightsEach,hy])
  have l0:∀ p ∈ p0,p.block < W.heap.size:=fun p hp=>hlt p (by simp [hp])
  have w1:∀ y ∈ d1.weights Tryz.prog 24,y≤reachBytes:=fun y hy=>hw y (by simp [DataW.weightsEach,hy])
  have l1:∀ p ∈ p1,p.block < W.heap.size:=fun p hp=>hlt p (by simp [hp])
  have w2:∀ y ∈ d2.weights Tryz.prog 25,y≤reachBytes:=fun y hy=>hw y (by simp [DataW.weightsEach,hy])
  have l2:∀ p ∈ p2,p.block < W.heap.size:=fun p hp=>hlt p (by simp [hp])
  obtain ⟨a0_0,a0_1,a0_2,a0_3,a0_4,a0_5,rfl,wa0_0,wa0_1,wa0_2,wa0_3,wa0_4,wa0_5⟩:=open_Lim12 (hval 0 _ v0 rfl rfl) h0 l0 w0
  obtain ⟨A1,n1,cap1,rfl,hc1,hm1,hb1,hz1,hrd1⟩:=open_slice_arg 6 Tryz.underlying24 (hval 1 _ v1 rfl rfl) h1 l1 w1 (by rw [leaves_Job12];rfl) (by rw [leaves_Job12,cells_Job12];rfl)
  obtain ⟨A2,n2,cap2,rfl,hc2,hm2,hb2,hz2,hrd2⟩:=open_slice_arg 6 Tryz.underlying25 (hval 2 _ v2 rfl rfl) h2 l2 w2 (by rw [leaves_B12];rfl) (by rw [leaves_B12,cells_B12];rfl)
  exact (plays12_walk_i a0_0 a0_1 a0_2 a0_3 a0_4 a0_5 A1 n1 cap1 hc1 hm1 A2 n2 cap2 hc2 hm2 W (handle_of_laid hX) (Job12_at hrd1) (B12_at hrd2)).mono fun e W' ⟨he,hf⟩=>⟨he,hf.below0⟩

theorem lifted (os:Os) (started:os.Started) (H:Type) (enc:TypeId × Value→H) :
    ReturnsInHanded {} Tryz.checked os 3 .any (fun w args=>(Rows.installPlaysSpec.pre enc Tryz.prog Tryz.f3 [] false w args∧laidMetH Tryz.prog Rows.installPlaysRow.laid w)∧sizedMet enc Tryz.prog Tryz.f3 (OpenSpec.ofChange Rows.installPlaysSpec) false w args)
      (Rows.installPlaysSpec.post enc Tryz.prog Tryz.f3 false true false false):=
  lift_laid (C:=Tryz.checked) (by kernel_rfl) started (by kernel_rfl) Tryz.func3 (by kernel_rfl) (by kernel_rfl) rfl Tryz.underlying4 rfl
    (fun ds h=>by
      match ds,h with
      | [d0,d1,d2],_=>rfl)
    (ChangeSpec.witness_at (enc:=enc) (C:=Tryz.checked) (os:=os) (X:=fun w _=>laidMetH Tryz.prog Rows.installPlaysRow.laid w) false (laidWorld os) #[.agg #[.int .i64 0,.int .i64 0,.int .i64 0,.int .i64 0,.int .i64 0,.int .i64 0],.slice none 0 0,.slice none 0 0] 8 rfl (by kernel_rfl) (by kernel_rfl) (by kernel_rfl) (by kernel_rfl) (by kernel_rfl) (laidWorld_met os _))
    (law enc)

theorem row_holds:Rows.InstallPlaysSaid:=
  OpenClaim.holds_of_wide 3 Tryz.f3 rfl rfl rfl rfl rfl rfl rfl ⟨rfl,rfl,rfl,rfl,rfl⟩ rfl rfl rfl rfl rfl (by kernel_rfl) Tryz.func3 (by kernel_rfl)
    (of_decide_eq_true (by kernel_rfl)) (by unfold Func.isWrapper;rw [if_neg (of_decide_eq_false (by kernel_rfl))];exact ⟨rfl,rfl⟩)
    (fun os started H enc _=>lifted os started H enc)

theorem card_holds:Rows.InstallPlaysCardSaid:=
  Claim7.holds_tied_plain_at .later [] _ _ _ _
    row_holds (fun _ h=>by cases h) (by kernel_rfl) (fun _ h=>by cases h) installPlays_row_tie rfl ⟨rfl,rfl⟩ (by kernel_rfl) rfl
    (fun f fn hf hfn=>by
      obtain rfl:f=3:=Option.some.inj ((show Tryz.prog.funcNamed Rows.installPlaysRow.func=some 3 by kernel_rfl).symm.trans hf) |>.symm
      obtain rfl:fn=Tryz.f3:=(Option.some.inj (Tryz.func3.symm.trans hfn)).symm
      refine ⟨by kernel_rfl,fun j t ht=>?_⟩
      have hall:(Tryz.f3.params.toList.all fun t=>!Tryz.prog.wantsStandIn t)=true:=by kernel_rfl
      have hm:t ∈ Tryz.f3.params.toList:=by
        rw [Array.mem_toList_iff]
        exact Array.mem_of_getElem? ht
      have h1:=List.all_eq_true.1 hall t hm
      have h2:Tryz.prog.wantsStandIn t=false:=by simpa using h1
      exact h2)
    (by kernel_rfl)
#print axioms card_holds
end PInstallPlays
end Go.Proofs.YthcpccddcgbanaaGreatDoor
