/- MergeOthers returns true for every l, texts, at, r and when. Conditions: none. -/
import Derived.Test.YthpkbppaaagaoaaGreatRows
import Derived.Test.YthpkbppaaagaoaaGreatMgA
import Derived.Test.YthpkbppaaagaoaaGreatMgOA
namespace Go.Proofs.YthpkbppaaagaoaaGreat
open Go.ChangeShapes Go.WideShapes Go.RowKit
set_option maxRecDepth 100000
set_option linter.unusedVariables false
open Go.Deep
section
variable {H:Type} {enc:TypeId × Value→H} {P:Program} {w:World}
theorem open_flat (m:Nat) {t:TypeId} {v:Value} {d:DataW H} {ps:List MemPlace} (h:DataW.Trod enc P w 0 (fun _=>true) true t v d ps)
    (hlt:∀ p ∈ ps,p.block < w.heap.size) (hwt:∀ y ∈ d.weights P t,y≤reachBytes):∀ o l,(o,l) ∈ leaves P m t→∃ u,v.cells.toList[o]?=some u∧Conf enc P w l u:=by
  obtain ⟨fuel,hf⟩:=h
  exact leaves_conf m t fuel _ _ hf hlt hwt

theorem open_agg (m:Nat) {t:TypeId} {fs:Array Field} {r:Reach} {b0:Nat} {v:Value} {d:DataW H} {ps:List MemPlace} (hs:P.underlying t=some (.struct fs)) (hv:Value.okWide P w r b0 t v) (h:DataW.Trod enc P w 0 (fun _=>true) true t v d ps)
    (hlt:∀ p ∈ ps,p.block < w.heap.size) (hwt:∀ y ∈ d.weights P t,y≤reachBytes):∃ cs:List Value,v=.agg cs.toArray∧cs.length=P.cellsOf t∧∀ o l,(o,l) ∈ leaves P m t→∃ u,cs[o]?=some u∧Conf enc P w l u:=by
  obtain ⟨cs,rfl,hsz⟩:=okWide_struct hs hv
  refine ⟨cs.toList,by simp,by simpa using hsz,?_⟩
  have:=open_flat (P:=P) (w:=w) m h hlt hwt
  simpa [Value.cells] using this

end
theorem open_Row {H:Type} {enc:TypeId × Value→H} {w:World} {r:Reach} {b0:Nat} {v:Value} {d:DataW H} {ps:List MemPlace} (hv:Value.okWide Tryz.prog w r b0 25 v) (h:DataW.Trod enc Tryz.prog w 0 (fun _=>true) true 25 v d ps)
    (hlt:∀ p ∈ ps,p.block < w.heap.size) (hwt:∀ y ∈ d.weights Tryz.prog 25,y≤reachBytes):∃ (x0:ByteArray) (x1:ByteArray),v=.agg #[.string x0,.string x1]∧x0.size≤reachBytes∧x1.size≤reachBytes:=by
  obtain ⟨cs,rfl,hl,hc⟩:=open_agg 6 Tryz.underlying25 hv h hlt hwt
  rw [cells_Row] at hl
  rw [leaves_Row] at hc
  obtain ⟨_,h0,x0,rfl,w0⟩:=hc 0 .string (by simp)
  obtain ⟨_,h1,x1,rfl,w1⟩:=hc 1 .string (by simp)
  match cs,hl with
  | [c0,c1],_ =>
    obtain rfl:c0=_:=by simpa using h0
    obtain rfl:c1=_:=by simpa using h1
    exact ⟨x0,x1,rfl,w0,w1⟩

namespace PMergeOthers

theorem law {H:Type} (enc:TypeId × Value→H):LawWalk enc Tryz.prog 3 Tryz.f3.params.toList (fun _=>True):=by
  intro W args ds ps base hA hval hlt hsz hX
  rw [Tryz.params3] at hA hval hsz
  obtain ⟨v0,vs0,d0,ds0,p0,q0,hargs,rfl,rfl,h0,r0⟩:=trodAll_cons hA
  obtain ⟨v1,vs1,d1,ds1,p1,q1,rfl,rfl,rfl,h1,r1⟩:=trodAll_cons r0
  obtain ⟨v2,vs2,d2,ds2,p2,q2,rfl,rfl,rfl,h2,r2⟩:=trodAll_cons r1
  obtain ⟨v3,vs3,d3,ds3,p3,q3,rfl,rfl,rfl,h3,r3⟩:=trodAll_cons r2
  obtain ⟨v4,vs4,d4,ds4,p4,q4,rfl,rfl,rfl,h4,r4⟩:=trodAll_cons r3
  obtain ⟨rfl,rfl,rfl⟩:=trodAll_nil r4
  obtain rfl:args=#[v0,v1,v2,v3,v4]:=by cases args;simp_all
  have hw:∀ y ∈ DataW.weightsEach Tryz.prog [22,23,5,25,26] [d0,d1,d2,d3,d4],y≤reachBytes:=fun y hy=>by simpa using List.all_eq_true.1 hsz y hy
  have w0:∀ y ∈ d0.weights Tryz.prog 22,y≤reachBytes:=fun y hy=>hw y (by simp [DataW.weightsEach,hy])
  have l0:∀ p ∈ p0,p.block < W.heap.size:=fun p hp=>hlt p (by simp [hp])
  have w1:∀ y ∈ d1.weights Tryz.prog 23,y≤reachBytes:=fun y hy=>hw y (by simp [DataW.weightsEach,hy])
  have l1:∀ p ∈ p1,p.block < W.heap.size:=fun p hp=>hlt p (by simp [hp])
  have w2:∀ y ∈ d2.weights Tryz.prog 5,y≤reachBytes:=fun y hy=>hw y (by simp [DataW.weightsEach,hy])
  have l2:∀ p ∈ p2,p.block < W.heap.size:=fun p hp=>hlt p (by simp [hp])
  have w3:∀ y ∈ d3.weights Tryz.prog 25,y≤reachBytes:=fun y hy=>hw y (by simp [DataW.weightsEach,hy])
  have l3:∀ p ∈ p3,p.block < W.heap.size:=fun p hp=>hlt p (by simp [hp])
  have w4:∀ y ∈ d4.weights Tryz.prog 26,y≤reachBytes:=fun y hy=>hw y (by simp [DataW.weightsEach,hy])
  have l4:∀ p ∈ p4,p.block < W.heap.size:=fun p hp=>hlt p (by simp [hp])
  obtain ⟨A0,n0,cap0,rfl,hc0,hm0,hb0,hz0,hrd0⟩:=open_slice_arg 6 Tryz.underlying22 (hval 0 _ v0 rfl rfl) h0 l0 w0 (by rw [leaves_Row];rfl) (by rw [leaves_Row,cells_Row];rfl)
  obtain ⟨A1,n1,cap1,rfl,hc1,hm1,hb1,hz1,hrd1⟩:=open_slice_arg 6 Tryz.underlying23 (hval 1 _ v1 rfl rfl) h1 l1 w1 (by rw [leaves_Str];rfl) (by rw [leaves_Str,cells_Str];rfl)
  obtain ⟨a2,rfl,rfl,rfl,wf2⟩:=open_int Tryz.underlying5 (hval 2 _ v2 rfl rfl) h2
  obtain ⟨a3_0,a3_1,rfl,wa3_0,wa3_1⟩:=open_Row (hval 3 _ v3 rfl rfl) h3 l3 w3
  obtain ⟨A4,n4,cap4,rfl,hc4,hm4,hb4,hz4,hrd4⟩:=open_slice_arg 6 Tryz.underlying26 (hval 4 _ v4 rfl rfl) h4 l4 w4 (by rw [leaves_B13];rfl) (by rw [leaves_B13,cells_B13];rfl)
  exact (mothers13_i A0 n0 cap0 hc0 hm0 A1 n1 cap1 hc1 hm1 a2 wf2 a3_0 a3_1 wa3_0 wa3_1 A4 n4 cap4 W hrd0 hrd1 hrd4).mono fun e W' ⟨he,hf⟩=>⟨he,hf.below0⟩

theorem lifted (os:Os) (started:os.Started) (H:Type) (enc:TypeId × Value→H) :
    ReturnsInHanded {} Tryz.checked os 3 .any (Rows.mergeOthersSpec.pre6 enc Tryz.prog Tryz.f3 Rows.mergeOthersRow.domain false) (Rows.mergeOthersSpec.post enc Tryz.prog Tryz.f3 false true false false):=
  lift_plain (C:=Tryz.checked) (by kernel_rfl) started (by kernel_rfl) Tryz.func3 (by kernel_rfl) (by kernel_rfl) rfl Tryz.underlying4 rfl
    (fun ds h=>by
      match ds,h with
      | [d0,d1,d2,d3,d4],_=>rfl)
    (ChangeSpec.witness6 (enc:=enc) (C:=Tryz.checked) false ⟨#[],#[.slice none 0 0,.slice none 0 0,.int .u8 0,.agg #[.string ⟨#[]⟩,.string ⟨#[]⟩],.slice none 0 0],[]⟩ 8 (by kernel_rfl) (by kernel_rfl) (by kernel_rfl) (by kernel_rfl))
    (law enc)

theorem row_holds:Rows.MergeOthersSaid:=
  OpenClaim.holds_of_wide 3 Tryz.f3 rfl rfl rfl rfl rfl rfl rfl ⟨rfl,rfl,rfl,rfl,rfl⟩ rfl rfl rfl rfl rfl (by kernel_rfl) Tryz.func3 (by kernel_rfl)
    (of_decide_eq_true (by kernel_rfl)) (by unfold Func.isWrapper;rw [if_neg (of_decide_eq_false (by kernel_rfl))];exact ⟨rfl,rfl⟩)
    (fun os started H enc _=>lifted os started H enc)
#print axioms row_holds
end PMergeOthers
end Go.Proofs.YthpkbppaaagaoaaGreat
