/- Texts of one proof, merged: Ro13b. -/
import Derived.Test.YthpkbppaaagaoaaGreatMgR
namespace Go.Proofs.YthpkbppaaagaoaaGreat
open Go.RowKit Go.BigFrame
set_option maxRecDepth 100000
set_option linter.unusedVariables false

theorem own_one13 (w:World) (v:Value) (w':World) (h:w'=w.alloc (.cells #[v] 41)):w'.ownsRow w.heap.size 41 1 (.slice (some ⟨w.heap.size,0,none⟩) 1 1) 1 [v]:=by
  subst h
  exact ⟨rfl,.inr ⟨w.heap.size,1,_,rfl,Nat.le_refl _,heap_alloc_new w _,Nat.le_refl _,by decide,rfl,rfl⟩⟩
section
variable {c:Cf} {Φ:Nat} {cur:List Rw} {W w:World} {m:Nat} {k:Int} {lm:Lm} {x x0:St} {js:Nat→List Nat} {M b0 u nI:Nat}
theorem Hlp.fr_g {ss:List Sl} {b0 h:Nat} {w w':World} {p:Nat} {d:List Nat} {s0 g0:Int} {y:Hz} {S:Nat→Prop} (H:Hlp ss b0 w h (.going p d s0 g0) y) (hf:Fr S w w') (h1:∀ k t cs,Blk w k t cs→t≠41→¬ S k):Hlp ss b0 w' h (.going p d s0 g0) y:=by
  obtain ⟨A,cc,e1,e2⟩:=H.gr
  have hs:=H.sub
  refine ⟨H.b.fr hf (h1 h _ _ H.b (by decide)),⟨A,cc,e1,e2.off hf (fun k cs hb=>h1 k _ cs hb (by decide))⟩,H.hb,⟨hs.1,hs.2.1,hs.2.2.1,hs.2.2.2.1.off hf (fun k hk=>?_) (fun k t cs hb ht=>h1 k t cs hb (by rcases ht with rfl | rfl <;> decide)),hs.2.2.2.2⟩⟩
  obtain ⟨_,t,cs,hb,ht⟩:=H.foot_blk (.inr hk)
  exact h1 k t cs hb (by rcases ht with rfl | rfl | rfl | rfl | rfl | rfl <;> decide)
theorem hps_row {L:List H1} {w':World} (P:Hps c Φ cur W w m k lm x js M b0 u L) (hg:∀ z ∈ L,z.ph=.going 0 [] 0 0) {b:Nat} {n:Nat} {v:Value} {xs:List Value} (hf:Fr (fun q=>v.ownBlock=some q) w w') (ho:w.ownsRow b 41 1 v n xs) (hb:W.heap.size≤b):Hps c Φ cur W w' m k lm x js M b0 u L:=by
  cases hv:v.ownBlock with
  | none =>
    refine P.keep (hf.mono (fun q _ e=>?_))
    rw [hv] at e
    cases e
  | some g =>
    obtain ⟨hbg,cs,hB⟩:=own_blk ho hv
    have ho':Fr (only g) w w':=hf.mono (fun q _ e=>by
      rw [hv] at e
      exact (Option.some.inj e).symm)
    have hty:∀ k t cs',Blk w k t cs'→t≠41→¬ only g k:=fun k t cs' hk hne e=>by
      have e':k=g:=e
      subst e'
      exact hne (hk.uniq hB).1
    refine ⟨P.mm.beside ho' hB (by decide) (by decide),P.wd,P.k0,P.mb,Nat.le_trans P.bw ho'.size,P.f.then_only ho' (.inr (by omega)),P.ls,P.rm,fun z hz=>?_,P.dj,P.dn⟩
    obtain ⟨hH,hK,hI⟩:=P.hp z hz
    refine ⟨?_,hK,hI⟩
    rw [hg z hz] at hH ⊢
    exact hH.fr_g ho' hty
theorem runs_one {z0 z1:H1} (O:RunOk c lm u [z0] nI) (hI4:nI≤4) (R:RunSt c cur W m lm M b0 u [z0] x0 nI Φ k x js [z1] w) (hk:k+30≤980) {b:Nat} {A:Option Addr} {cap:Nat} (ho:w.ownsRow b 41 1 (.slice A 1 cap) 1 [hptr z0.h]) :
    Calls Tryz.prog 27 #[.slice A 1 cap,.pointer (some ⟨m,0,none⟩)] w fun e w'=>∃ k' x' js' z',e=.returned (.bool true)∧RunSt c cur W m lm M b0 u [z0] x0 nI 3 k' x' js' [z'] w'∧z'.ph=.over true∧z'.h=z0.h∧k'≤k+30∧Kept13 w w':=by
  refine (runs13_ok O hI4 [0] (fun i hi=>by obtain rfl:=List.mem_singleton.1 hi;exact Nat.zero_lt_one) R (by simpa using hk) (A:=A) (cap:=cap) (b:=b) ho).mono ?_
  rintro e w' ⟨Φ',k',x',js',L',rfl,hR,_,_,hk',hov,_,hkp⟩
  obtain ⟨z,hz,hzo⟩:=hov 0 (List.mem_singleton.2 rfl)
  have hlen:=hR.len
  obtain ⟨z',rfl⟩:=List.length_eq_one_iff.1 hlen
  obtain rfl:z'=z:=by simpa using hz
  obtain ⟨rfl,hd⟩:=hR.hp.one_done hzo
  have hh:z'.h=z0.h:=by
    have:=hR.hs
    simpa using this
  exact ⟨k',x',js',z',rfl,hR,hd,hh,by simpa using hk',hkp⟩
theorem gone_of {L:List H1} {z:H1} (P:Hps c Φ cur W w m k lm x js M b0 u L) (hz:z ∈ L) (ho:z.ph=.over true):Calls Tryz.prog 33 #[.pointer (some ⟨z.h,0,none⟩)] w fun e w'=>e=.returned (.tuple #[.agg #[.int .i64 z.y.H.as_,.int .i64 z.y.H.ag],.int .i64 ((c.i:Int)+1)])∧Fr none_ w w':=by
  obtain ⟨hH,hK,_⟩:=P.hp z hz
  rw [ho] at hH
  have:=mgone_yes hH.b hH.sub.2.1
  rw [hK.2.2.2.1] at this
  exact this
theorem gone_at {L:List H1} {z:H1} {d:Bool} (P:Hps c Φ cur W w m k lm x js M b0 u L) (hz:z ∈ L) (ho:z.ph=.over d):Φ=3∧x.ps[c.i+1]?=some (true,z.y.H.as_,z.y.H.ag):=by
  obtain ⟨_,_,hI⟩:=P.hp z hz
  rw [ho] at hI
  exact hI
theorem gone_chain {L:List H1} (P:Hps c 3 cur W w m k lm x js M b0 u L) {a b:Int} (h:x.ps[c.i+1]?=some (true,a,b)):Links x.ss (js (c.i+1)) a b∧(js (c.i+1)).length=2:=by
  obtain ⟨s,g,k1,k2,_⟩:=P.wd.pg (c.i+1) P.wd.iM
  obtain ⟨e1,e2⟩:=ps_head k1 h
  subst e1
  subst e2
  exact ⟨k2,P.wd.gl⟩
theorem done_of {L:List H1} {z:H1} {d:Bool} (P:Hps c Φ cur W w m k lm x js M b0 u L) (hz:z ∈ L) (ho:z.ph=.over d):Calls Tryz.prog 24 #[.pointer (some ⟨z.h,0,none⟩)] w fun e w'=>e=.returned (.tuple #[.bool d,.nilIface])∧Fr none_ w w':=by
  obtain ⟨hH,_,_⟩:=P.hp z hz
  rw [ho] at hH
  exact hH.done_
end
end Go.Proofs.YthpkbppaaagaoaaGreat
