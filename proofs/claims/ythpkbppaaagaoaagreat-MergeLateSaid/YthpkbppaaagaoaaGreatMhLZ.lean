/- MergeLate returns true for every l, texts, at and split. Conditions: none. -/
import Derived.Test.YthpkbppaaagaoaaGreatRows
import Derived.Test.YthpkbppaaagaoaaGreatMhA
import Derived.Test.YthpkbppaaagaoaaGreatMhR
import Derived.Test.YthpkbppaaagaoaaGreatMhLA
namespace Go.Proofs.YthpkbppaaagaoaaGreat
open Go.ChangeShapes Go.WideShapes Go.RowKit
set_option maxRecDepth 100000
set_option linter.unusedVariables false
namespace PMergeLate

theorem law {H:Type} (enc:TypeId × Value→H):LawWalk enc Tryz.prog 5 Tryz.f5.params.toList (fun _=>True):=by
  intro W args ds ps base hA hval hlt hsz hX
  rw [Tryz.params5] at hA hval hsz
  obtain ⟨v0,vs0,d0,ds0,p0,q0,hargs,rfl,rfl,h0,r0⟩:=trodAll_cons hA
  obtain ⟨v1,vs1,d1,ds1,p1,q1,rfl,rfl,rfl,h1,r1⟩:=trodAll_cons r0
  obtain ⟨v2,vs2,d2,ds2,p2,q2,rfl,rfl,rfl,h2,r2⟩:=trodAll_cons r1
  obtain ⟨v3,vs3,d3,ds3,p3,q3,rfl,rfl,rfl,h3,r3⟩:=trodAll_cons r2
  obtain ⟨rfl,rfl,rfl⟩:=trodAll_nil r3
  obtain rfl:args=#[v0,v1,v2,v3]:=by cases args;simp_all
  have hw:∀ y ∈ DataW.weightsEach Tryz.prog [22,23,5,4] [d0,d1,d2,d3],y≤reachBytes:=fun y hy=>by simpa using List.all_eq_true.1 hsz y hy
  have w0:∀ y ∈ d0.weights Tryz.prog 22,y≤reachBytes:=fun y hy=>hw y (by simp [DataW.weightsEach,hy])
  have l0:∀ p ∈ p0,p.block < W.heap.size:=fun p hp=>hlt p (by simp [hp])
  have w1:∀ y ∈ d1.weights Tryz.prog 23,y≤reachBytes:=fun y hy=>hw y (by simp [DataW.weightsEach,hy])
  have l1:∀ p ∈ p1,p.block < W.heap.size:=fun p hp=>hlt p (by simp [hp])
  have w2:∀ y ∈ d2.weights Tryz.prog 5,y≤reachBytes:=fun y hy=>hw y (by simp [DataW.weightsEach,hy])
  have l2:∀ p ∈ p2,p.block < W.heap.size:=fun p hp=>hlt p (by simp [hp])
  have w3:∀ y ∈ d3.weights Tryz.prog 4,y≤reachBytes:=fun y hy=>hw y (by simp [DataW.weightsEach,hy])
  have l3:∀ p ∈ p3,p.block < W.heap.size:=fun p hp=>hlt p (by simp [hp])
  obtain ⟨A0,n0,cap0,rfl,hc0,hm0,hb0,hz0,hrd0⟩:=open_slice_arg 6 Tryz.underlying22 (hval 0 _ v0 rfl rfl) h0 l0 w0 (by rw [leaves_Row];rfl) (by rw [leaves_Row,cells_Row];rfl)
  obtain ⟨A1,n1,cap1,rfl,hc1,hm1,hb1,hz1,hrd1⟩:=open_slice_arg 6 Tryz.underlying23 (hval 1 _ v1 rfl rfl) h1 l1 w1 (by rw [leaves_Str];rfl) (by rw [leaves_Str,cells_Str];rfl)
  obtain ⟨a2,rfl,rfl,rfl,wf2⟩:=open_int Tryz.underlying5 (hval 2 _ v2 rfl rfl) h2
  obtain ⟨a3,rfl,rfl,rfl⟩:=open_bool Tryz.underlying4 (hval 3 _ v3 rfl rfl) h3
  exact (mlate13_i A0 n0 cap0 hc0 hm0 A1 n1 cap1 hc1 hm1 a2 wf2 a3 W hrd0 hrd1).mono fun e W' ⟨he,hf⟩=>⟨he,hf.below0⟩

theorem lifted (os:Os) (started:os.Started) (H:Type) (enc:TypeId × Value→H) :
    ReturnsInHanded {} Tryz.checked os 5 .any (Rows.mergeLateSpec.pre6 enc Tryz.prog Tryz.f5 Rows.mergeLateRow.domain false) (Rows.mergeLateSpec.post enc Tryz.prog Tryz.f5 false true false false):=
  lift_plain (C:=Tryz.checked) (by kernel_rfl) started (by kernel_rfl) Tryz.func5 (by kernel_rfl) (by kernel_rfl) rfl Tryz.underlying4 rfl
    (fun ds h=>by
      match ds,h with
      | [d0,d1,d2,d3],_=>rfl)
    (ChangeSpec.witness6 (enc:=enc) (C:=Tryz.checked) false ⟨#[],#[.slice none 0 0,.slice none 0 0,.int .u8 0,.bool false],[]⟩ 8 (by kernel_rfl) (by kernel_rfl) (by kernel_rfl) (by kernel_rfl))
    (law enc)

theorem row_holds:Rows.MergeLateSaid:=
  OpenClaim.holds_of_wide 5 Tryz.f5 rfl rfl rfl rfl rfl rfl rfl ⟨rfl,rfl,rfl,rfl,rfl⟩ rfl rfl rfl rfl rfl (by kernel_rfl) Tryz.func5 (by kernel_rfl)
    (of_decide_eq_true (by kernel_rfl)) (by unfold Func.isWrapper;rw [if_neg (of_decide_eq_false (by kernel_rfl))];exact ⟨rfl,rfl⟩)
    (fun os started H enc _=>lifted os started H enc)
#print axioms row_holds
end PMergeLate
end Go.Proofs.YthpkbppaaagaoaaGreat
