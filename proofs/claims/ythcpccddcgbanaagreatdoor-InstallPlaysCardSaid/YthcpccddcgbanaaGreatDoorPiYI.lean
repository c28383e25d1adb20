/- Texts of one proof, merged: Types12, Ty12. -/
import Derived.Test.YthcpccddcgbanaaGreatDoorPiA
import Derived.Test.YthcpccddcgbanaaGreatDoorPiYH
namespace Go.Proofs.YthcpccddcgbanaaGreatDoor
set_option maxRecDepth 100000
set_option linter.unusedVariables false
open Go.ChangeShapes Go.WideShapes Go.RowKit
set_option linter.unusedSimpArgs false

theorem cells_Job12:Tryz.prog.cellsOf 57=21:=by kernel_rfl
theorem leaves_Job12:leaves Tryz.prog 6 57=[(0,.int .i64),(1,.int .i64),(2,.int .i64),(3,.int .i64),(4,.slice 49),(5,.int .i64),(6,.string),(7,.string),(8,.bool),(9,.int .i64),(10,.slice 50),(11,.slice 51),(12,.string),(13,.string),(14,.int .i64),(15,.int .i64),(16,.int .i64),(17,.string),(18,.int .i64),(19,.int .i64),(20,.int .i64)]:=by kernel_rfl
def Job12At {H:Type} (enc:TypeId × Value→H) (w:World) (A:Option Addr) (n:Nat):Prop:=
 0 < n→∃ b off,A=some ⟨b,off,none⟩∧b < w.heap.size∧∀ k,k < n→∃ (x0:Int) (x1:Int) (x2:Int) (x3:Int) (x4:Value) (x5:Int) (x6:ByteArray) (x7:ByteArray) (x8:Bool) (x9:Int) (x10:Value) (x11:Value) (x12:ByteArray) (x13:ByteArray) (x14:Int) (x15:Int) (x16:Int) (x17:ByteArray) (x18:Int) (x19:Int) (x20:Int),(Lit.int .i64 x0).wf=true∧(Lit.int .i64 x1).wf=true∧(Lit.int .i64 x2).wf=true∧(Lit.int .i64 x3).wf=true∧Conf enc Tryz.prog w (.slice 49) x4∧(Lit.int .i64 x5).wf=true∧x6.size≤reachBytes∧x7.size≤reachBytes∧(Lit.int .i64 x9).wf=true∧Conf enc Tryz.prog w (.slice 50) x10∧Conf enc Tryz.prog w (.slice 51) x11∧x12.size≤reachBytes∧x13.size≤reachBytes∧(Lit.int .i64 x14).wf=true∧(Lit.int .i64 x15).wf=true∧(Lit.int .i64 x16).wf=true∧x17.size≤reachBytes∧(Lit.int .i64 x18).wf=true∧(Lit.int .i64 x19).wf=true∧(Lit.int .i64 x20).wf=true∧w.cell? ⟨b,off+k * 21,none⟩=some (.int .i64 x0)∧w.cell? ⟨b,off+k * 21+1,none⟩=some (.int .i64 x1)∧w.cell? ⟨b,off+k * 21+1+1,none⟩=some (.int .i64 x2)∧w.cell? ⟨b,off+k * 21+1+1+1,none⟩=some (.int .i64 x3)∧w.cell? ⟨b,off+k * 21+1+1+1+1,none⟩=some (x4)∧w.cell? ⟨b,off+k * 21+1+1+1+1+1,none⟩=some (.int .i64 x5)∧w.cell? ⟨b,off+k * 21+1+1+1+1+1+1,none⟩=some (.string x6)∧w.cell? ⟨b,off+k * 21+1+1+1+1+1+1+1,none⟩=some (.string x7)∧w.cell? ⟨b,off+k * 21+1+1+1+1+1+1+1+1,none⟩=some (.bool x8)∧w.cell? ⟨b,off+k * 21+1+1+1+1+1+1+1+1+1,none⟩=some (.int .i64 x9)∧w.cell? ⟨b,off+k * 21+1+1+1+1+1+1+1+1+1+1,none⟩=some (x10)∧w.cell? ⟨b,off+k * 21+1+1+1+1+1+1+1+1+1+1+1,none⟩=some (x11)∧w.cell? ⟨b,off+k * 21+1+1+1+1+1+1+1+1+1+1+1+1,none⟩=some (.string x12)∧w.cell? ⟨b,off+k * 21+1+1+1+1+1+1+1+1+1+1+1+1+1,none⟩=some (.string x13)∧w.cell? ⟨b,off+k * 21+1+1+1+1+1+1+1+1+1+1+1+1+1+1,none⟩=some (.int .i64 x14)∧w.cell? ⟨b,off+k * 21+1+1+1+1+1+1+1+1+1+1+1+1+1+1+1,none⟩=some (.int .i64 x15)∧w.cell? ⟨b,off+k * 21+1+1+1+1+1+1+1+1+1+1+1+1+1+1+1+1,none⟩=some (.int .i64 x16)∧w.cell? ⟨b,off+k * 21+1+1+1+1+1+1+1+1+1+1+1+1+1+1+1+1+1,none⟩=some (.string x17)∧w.cell? ⟨b,off+k * 21+1+1+1+1+1+1+1+1+1+1+1+1+1+1+1+1+1+1,none⟩=some (.int .i64 x18)∧w.cell? ⟨b,off+k * 21+1+1+1+1+1+1+1+1+1+1+1+1+1+1+1+1+1+1+1,none⟩=some (.int .i64 x19)∧w.cell? ⟨b,off+k * 21+1+1+1+1+1+1+1+1+1+1+1+1+1+1+1+1+1+1+1+1,none⟩=some (.int .i64 x20)
theorem Job12_at {H:Type} {enc:TypeId × Value→H} {w:World} {A:Option Addr} {n:Nat} (h:Rd enc Tryz.prog w 6 57 A n):Job12At enc w A n:=by
  intro hn
  obtain ⟨b,off,hA,hb,hc⟩:=h hn
  refine ⟨b,off,hA,hb,fun k hk=>?_⟩
  have hk:=hc k hk
  rw [leaves_Job12,cells_Job12] at hk
  obtain ⟨_,h0,x0,rfl,w0⟩:=hk 0 (.int .i64) (by simp)
  obtain ⟨_,h1,x1,rfl,w1⟩:=hk 1 (.int .i64) (by simp)
  obtain ⟨_,h2,x2,rfl,w2⟩:=hk 2 (.int .i64) (by simp)
  obtain ⟨_,h3,x3,rfl,w3⟩:=hk 3 (.int .i64) (by simp)
  obtain ⟨x4,h4,w4⟩:=hk 4 (.slice 49) (by simp)
  obtain ⟨_,h5,x5,rfl,w5⟩:=hk 5 (.int .i64) (by simp)
  obtain ⟨_,h6,x6,rfl,w6⟩:=hk 6 .string (by simp)
  obtain ⟨_,h7,x7,rfl,w7⟩:=hk 7 .string (by simp)
  obtain ⟨_,h8,x8,rfl⟩:=hk 8 .bool (by simp)
  obtain ⟨_,h9,x9,rfl,w9⟩:=hk 9 (.int .i64) (by simp)
  obtain ⟨x10,h10,w10⟩:=hk 10 (.slice 50) (by simp)
  obtain ⟨x11,h11,w11⟩:=hk 11 (.slice 51) (by simp)
  obtain ⟨_,h12,x12,rfl,w12⟩:=hk 12 .string (by simp)
  obtain ⟨_,h13,x13,rfl,w13⟩:=hk 13 .string (by simp)
  obtain ⟨_,h14,x14,rfl,w14⟩:=hk 14 (.int .i64) (by simp)
  obtain ⟨_,h15,x15,rfl,w15⟩:=hk 15 (.int .i64) (by simp)
  obtain ⟨_,h16,x16,rfl,w16⟩:=hk 16 (.int .i64) (by simp)
  obtain ⟨_,h17,x17,rfl,w17⟩:=hk 17 .string (by simp)
  obtain ⟨_,h18,x18,rfl,w18⟩:=hk 18 (.int .i64) (by simp)
  obtain ⟨_,h19,x19,rfl,w19⟩:=hk 19 (.int .i64) (by simp)
  obtain ⟨_,h20,x20,rfl,w20⟩:=hk 20 (.int .i64) (by simp)
  exact ⟨x0,x1,x2,x3,x4,x5,x6,x7,x8,x9,x10,x11,x12,x13,x14,x15,x16,x17,x18,x19,x20,w0,w1,w2,w3,w4,w5,w6,w7,w9,w10,w11,w12,w13,w14,w15,w16,w17,w18,w19,w20,h0,h1,h2,h3,h4,h5,h6,h7,h8,h9,h10,h11,h12,h13,h14,h15,h16,h17,h18,h19,h20⟩
theorem cells_Lim12:Tryz.prog.cellsOf 23=6:=by kernel_rfl
theorem leaves_Lim12:leaves Tryz.prog 6 23=[(0,.int .i64),(1,.int .i64),(2,.int .i64),(3,.int .i64),(4,.int .i64),(5,.int .i64)]:=by kernel_rfl
theorem open_Lim12 {H:Type} {enc:TypeId × Value→H} {w:World} {r:Reach} {b0:Nat} {v:Value} {d:DataW H} {ps:List MemPlace} (hv:Value.okWide Tryz.prog w r b0 23 v) (h:DataW.Trod enc Tryz.prog w 0 (fun _=>true) true 23 v d ps)
    (hlt:∀ p ∈ ps,p.block < w.heap.size) (hwt:∀ y ∈ d.weights Tryz.prog 23,y≤reachBytes):∃ (x0:Int) (x1:Int) (x2:Int) (x3:Int) (x4:Int) (x5:Int),v=.agg #[.int .i64 x0,.int .i64 x1,.int .i64 x2,.int .i64 x3,.int .i64 x4,.int .i64 x5]∧(Lit.int .i64 x0).wf=true∧(Lit.int .i64 x1).wf=true∧(Lit.int .i64 x2).wf=true∧(Lit.int .i64 x3).wf=true∧(Lit.int .i64 x4).wf=true∧(Lit.int .i64 x5).wf=true:=by
  obtain ⟨cs,rfl,hl,hc⟩:=open_agg 6 Tryz.underlying23 hv h hlt hwt
  rw [cells_Lim12] at hl
  rw [leaves_Lim12] at hc
  obtain ⟨_,h0,x0,rfl,w0⟩:=hc 0 (.int .i64) (by simp)
  obtain ⟨_,h1,x1,rfl,w1⟩:=hc 1 (.int .i64) (by simp)
  obtain ⟨_,h2,x2,rfl,w2⟩:=hc 2 (.int .i64) (by simp)
  obtain ⟨_,h3,x3,rfl,w3⟩:=hc 3 (.int .i64) (by simp)
  obtain ⟨_,h4,x4,rfl,w4⟩:=hc 4 (.int .i64) (by simp)
  obtain ⟨_,h5,x5,rfl,w5⟩:=hc 5 (.int .i64) (by simp)
  match cs,hl with
  | [c0,c1,c2,c3,c4,c5],_ =>
    obtain rfl:c0=_:=by simpa using h0
    obtain rfl:c1=_:=by simpa using h1
    obtain rfl:c2=_:=by simpa using h2
    obtain rfl:c3=_:=by simpa using h3
    obtain rfl:c4=_:=by simpa using h4
    obtain rfl:c5=_:=by simpa using h5
    exact ⟨x0,x1,x2,x3,x4,x5,rfl,w0,w1,w2,w3,w4,w5⟩

open Go.RowKit Go.ChangeShapes Go.WideShapes

set_option maxHeartbeats 1000000 in
theorem recs12 {H:Type} {enc:TypeId × Value→H} {w:World} {v:Value} (h:Conf enc Tryz.prog w (.slice 49) v):∃ (A:Option Addr) (c:Nat) (Cs:List Cr),v=.slice A Cs.length c∧(0 < Cs.length→∃ b off,A=some ⟨b,off,none⟩∧b < w.heap.size∧∀ (k:Nat) (C:Cr),Cs[k]?=some C→w.rangeAt b (off+k * 15) (crA C).toList)∧∀ C ∈ Cs,RecReads w C.R C.A C.B:=by
  obtain ⟨fuel,d,ps,ht,hlt,hwt⟩:=h
  obtain ⟨A,n,c,rfl,h1,h2,h3,h4,h5⟩:=open_list 6 Tryz.underlying49 ht hlt hwt (by rw [leaves_Record];rfl) (by rw [leaves_Record,cells_Record];rfl)
  have h:=Record_at h5
  rcases Nat.eq_zero_or_pos n with h0 | h0
  · subst h0;exact ⟨A,c,[],rfl,fun h=>absurd h (by simp),fun C hC=>by cases hC⟩
  · obtain ⟨b,off,hA,hb,hc⟩:=h h0
    obtain ⟨L,hl,hL⟩:=choose_list (α:=Cr) (P:=fun k C=>w.rangeAt b (off+k * 15) (crA C).toList∧RecReads w C.R C.A C.B) n (fun k hk=>by
      obtain ⟨x0,x1,x2,x3,x4,x5,x6,x7,x8,x9,x10,x11,x12,x13,x14,w0,w1,w2,w4,w5,w6,w7,w8,w9,w10,w11,w12,w13,w14,h0,h1,h2,h3,h4,h5,h6,h7,h8,h9,h10,h11,h12,h13,h14⟩:=hc k hk
      obtain ⟨A5,n5,c5,L5,rfl,q1,q2,-,r5⟩:=rows_conf w5
      obtain ⟨A6,n6,c6,L6,rfl,p1,p2,-,r6⟩:=ents_conf w6
      obtain rfl:=r5.1
      obtain rfl:=r6.1
      refine ⟨⟨⟨x0,x1,x2,x3,x4,L5,L6,x7,x8,x9,x10,x11,x12,x13,x14⟩,A5,c5,A6,c6⟩,fun j v hv=>?_,⟨r5.reads,r6.reads⟩⟩
      match j,hv with
      | 0,hv=>obtain rfl:=Option.some.inj hv;exact h0
      | 1,hv=>obtain rfl:=Option.some.inj hv;exact h1
      | 2,hv=>obtain rfl:=Option.some.inj hv;exact h2
      | 3,hv=>obtain rfl:=Option.some.inj hv;exact h3
      | 4,hv=>obtain rfl:=Option.some.inj hv;exact h4
      | 5,hv=>obtain rfl:=Option.some.inj hv;exact h5
      | 6,hv=>obtain rfl:=Option.some.inj hv;exact h6
      | 7,hv=>obtain rfl:=Option.some.inj hv;exact h7
      | 8,hv=>obtain rfl:=Option.some.inj hv;exact h8
      | 9,hv=>obtain rfl:=Option.some.inj hv;exact h9
      | 10,hv=>obtain rfl:=Option.some.inj hv;exact h10
      | 11,hv=>obtain rfl:=Option.some.inj hv;exact h11
      | 12,hv=>obtain rfl:=Option.some.inj hv;exact h12
      | 13,hv=>obtain rfl:=Option.some.inj hv;exact h13
      | 14,hv=>obtain rfl:=Option.some.inj hv;exact h14)
    subst hl
    exact ⟨A,c,L,rfl,fun _=>⟨b,off,hA,hb,fun k C hC=>(hL k C hC).1⟩,fun C hC=>by
      obtain ⟨k,hk⟩:=List.mem_iff_getElem?.1 hC
      exact (hL k C hk).2⟩
theorem job_raw {H:Type} {enc:TypeId × Value→H} {w:World} {x0 x1 x2 x3:Int} {x4:Value} {x5:Int} {x6 x7:ByteArray} {x8:Bool} {x9:Int} {x10 x11:Value} {x12 x13:ByteArray} {x14 x15 x16:Int} {x17:ByteArray} {x18 x19 x20:Int}
    (w4:Conf enc Tryz.prog w (.slice 49) x4) (w10:Conf enc Tryz.prog w (.slice 50) x10) (w11:Conf enc Tryz.prog w (.slice 51) x11) :
    ∃ (J:Jd) (q:Jl),(#[.int .i64 x0,.int .i64 x1,.int .i64 x2,.int .i64 x3,x4,.int .i64 x5,.string x6,.string x7,.bool x8,.int .i64 x9,x10,x11,.string x12,.string x13,.int .i64 x14,.int .i64 x15,.int .i64 x16,.string x17,.int .i64 x18,.int .i64 x19,.int .i64 x20]:Array Value)=jobB J q∧JobRaw w J q:=by
  obtain ⟨A,c,Cs,rfl,hr,ho⟩:=recs12 w4
  obtain ⟨A5,n5,c5,L5,rfl,q1,q2,-,r5⟩:=rows_conf w10
  obtain ⟨A6,n6,c6,L6,rfl,p1,p2,-,r6⟩:=ents_conf w11
  obtain rfl:=r5.1
  obtain rfl:=r6.1
  exact ⟨⟨x0,x1,x2,x3,Cs.map (·.R),⟨x5,x6,x7,x8,x9,L5,L6,x12,x13,x14,x15,x16,x17,x18,x19⟩,x20⟩,⟨0,0,0,0,A,Cs,c,A5,c5,A6,c6,fun _=>none⟩,rfl,hr,ho,rfl,⟨r5.reads,r6.reads⟩⟩
set_option maxHeartbeats 1000000 in
theorem jobs_in {H:Type} {enc:TypeId × Value→H} {w:World} {A:Option Addr} {n:Nat} (h:Job12At enc w A n):∃ L,JobsIn w A n L:=by
  rcases Nat.eq_zero_or_pos n with h0 | h0
  · subst h0;exact ⟨[],rfl,fun h=>absurd h (by omega)⟩
  · obtain ⟨b,off,hA,hb,hc⟩:=h h0
    obtain ⟨L,hl,hL⟩:=choose_list (α:=Jq) (P:=fun k p=>w.rangeAt b (off+k * 21) (jobB p.1 p.2).toList∧JobRaw w p.1 p.2) n (fun k hk=>by
      obtain ⟨x0,x1,x2,x3,x4,x5,x6,x7,x8,x9,x10,x11,x12,x13,x14,x15,x16,x17,x18,x19,x20,w0,w1,w2,w3,w4,w5,w6,w7,w9,w10,w11,w12,w13,w14,w15,w16,w17,w18,w19,w20,h0,h1,h2,h3,h4,h5,h6,h7,h8,h9,h10,h11,h12,h13,h14,h15,h16,h17,h18,h19,h20⟩:=hc k hk
      obtain ⟨J,q,e,hJ⟩:=job_raw (x0:=x0) (x1:=x1) (x2:=x2) (x3:=x3) (x5:=x5) (x6:=x6) (x7:=x7) (x8:=x8) (x9:=x9) (x12:=x12) (x13:=x13) (x14:=x14) (x15:=x15) (x16:=x16) (x17:=x17) (x18:=x18) (x19:=x19) (x20:=x20) w4 w10 w11
      refine ⟨(J,q),fun j v hv=>?_,hJ⟩
      rw [← e] at hv
      clear e hJ
      match j,hv with
      | 0,hv=>obtain rfl:=Option.some.inj hv;exact h0
      | 1,hv=>obtain rfl:=Option.some.inj hv;exact h1
      | 2,hv=>obtain rfl:=Option.some.inj hv;exact h2
      | 3,hv=>obtain rfl:=Option.some.inj hv;exact h3
      | 4,hv=>obtain rfl:=Option.some.inj hv;exact h4
      | 5,hv=>obtain rfl:=Option.some.inj hv;exact h5
      | 6,hv=>obtain rfl:=Option.some.inj hv;exact h6
      | 7,hv=>obtain rfl:=Option.some.inj hv;exact h7
      | 8,hv=>obtain rfl:=Option.some.inj hv;exact h8
      | 9,hv=>obtain rfl:=Option.some.inj hv;exact h9
      | 10,hv=>obtain rfl:=Option.some.inj hv;exact h10
      | 11,hv=>obtain rfl:=Option.some.inj hv;exact h11
      | 12,hv=>obtain rfl:=Option.some.inj hv;exact h12
      | 13,hv=>obtain rfl:=Option.some.inj hv;exact h13
      | 14,hv=>obtain rfl:=Option.some.inj hv;exact h14
      | 15,hv=>obtain rfl:=Option.some.inj hv;exact h15
      | 16,hv=>obtain rfl:=Option.some.inj hv;exact h16
      | 17,hv=>obtain rfl:=Option.some.inj hv;exact h17
      | 18,hv=>obtain rfl:=Option.some.inj hv;exact h18
      | 19,hv=>obtain rfl:=Option.some.inj hv;exact h19
      | 20,hv=>obtain rfl:=Option.some.inj hv;exact h20)
    exact ⟨L,hl,fun _=>⟨b,off,hA,hb,hL⟩⟩
theorem leaves_U8b:leaves Tryz.prog 6 5=[(0,.int .u8)]:=by kernel_rfl
theorem cells_U8b:Tryz.prog.cellsOf 5=1:=by kernel_rfl
def Bytes12 (w:World) (A:Option Addr) (n:Nat):Prop:=∀ k,k < n→∃ b off x,A=some ⟨b,off,none⟩∧b < w.heap.size∧w.cell? ⟨b,off+k,none⟩=some (.int .u8 x)∧0≤x∧x≤255
theorem Bytes12.keep {w w':World} {A:Option Addr} {n:Nat} (h:Bytes12 w A n) (hf:Fr none_ w w'):Bytes12 w' A n:=fun k hk=>by
  obtain ⟨b,off,x,hA,hb,hc,h0,h1⟩:=h k hk
  exact ⟨b,off,x,hA,by have:=hf.size;omega,cellFr hc hf,h0,h1⟩
theorem B12_at {H:Type} {enc:TypeId × Value→H} {w:World} {A:Option Addr} {n:Nat} (h:Rd enc Tryz.prog w 6 5 A n):Bytes12 w A n:=fun k hk=>by
  obtain ⟨b,off,hA,hb,hc⟩:=h (by omega)
  have hk:=hc k hk
  rw [leaves_U8b,cells_U8b] at hk
  obtain ⟨_,h0,x0,rfl,w0⟩:=hk 0 (.int .u8) (by simp)
  exact ⟨b,off,x0,hA,hb,by simpa using h0,(wf_u8 w0).1,(wf_u8 w0).2⟩
theorem leaves_B12:leaves Tryz.prog 6 5=[(0,.int .u8)]:=leaves_U8b
theorem cells_B12:Tryz.prog.cellsOf 5=1:=cells_U8b
end Go.Proofs.YthcpccddcgbanaaGreatDoor
