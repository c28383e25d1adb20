/- Texts of one proof, merged: CloneB, Own8, Res7, Pg7, Rm10, Chain9, Acc9, Mc9, Ldr10, LdrA10, Uw, Few8, In8, Few7, HoldM8, Dec7, Upk7, Nm11, Cs11, Md11, Qs7, Ux, Uv. -/
import Derived.Deep.MidRow
import Derived.Deep.DeepCutAuto
import Derived.BigRegion
import Derived.Deep.QuietTactic
import Derived.BigQuiet
import Derived.Test.YtfihfjbakfadkaaGreatDoorMvA
import Derived.Test.YtfihfjbakfadkaaGreatDoorMvD
import Derived.Test.YtfihfjbakfadkaaGreatDoorMvG
import Derived.Test.YtfihfjbakfadkaaGreatDoorMvH
namespace Go.Proofs.YtfihfjbakfadkaaGreatDoor
set_option maxRecDepth 100000
set_option linter.unusedVariables false
open Go.RowKit

set_option maxHeartbeats 2000000 in
theorem clone_big (R:Rc) (A:Option Addr) (c:Nat) (B:Option Addr) (d:Nat) (w:World) (h:RecReads w R A B) (hr:R.rows.length≤4398046511104) (he:R.ents.length≤1000) :
  Calls Tryz.prog 8 #[recV R (.slice A R.rows.length c) (.slice B R.ents.length d)] w (ClonePost R w):=by
 obtain ⟨i0,hi0,hz0,hs0,hb0⟩:=info_parts row_info
 obtain ⟨j0,hj0,hy0,ht0,hc0⟩:=info_parts entry_info
 have Hi:=hid_ (And.intro hi0 (And.intro hz0 (And.intro hs0 hb0)))
 have Hj:=hid_ (And.intro hj0 (And.intro hy0 (And.intro ht0 hc0)))
 have H:=hid_ h
 clear hi0 hz0 hs0 hb0 hj0 hy0 ht0 hc0 h
 go_enter Tryz.func8,Tryz.ntmps8
 go_wp2_with (first
  | (at_builtin;refine wpList_append_any _ rfl (.tmp 3) (.tmp 5) 28 rfl w.heap.size 143 i0 _ 2 32 Tryz.underlying28 Hi.out.1 Hi.out.2.1 Hi.out.2.2.1 Hi.out.2.2.2 rfl (by omega) (.slice (some ⟨w.heap.size+1+1,0,none⟩) 0 0) 0 [] rfl (own_empty_at _ _ _ _ _ (by simp;omega) (by simp)) A R.rows.length c (rwFlat R.rows) rfl (((H.out.r.alloc _).alloc _).alloc _) (rwFlat_one _) (by simp only [maxLen];omega) (by omega) (by simp;omega) ?_;intro A1 c1 w3 hown3 hgr3;have hp:=clone_packA (vr:=.slice A R.rows.length c) (ve:=.slice B R.ents.length d) H.out hown3 hgr3;have HP:=hid_ hp;have e6:w3.cell? ⟨w.heap.size,6,none⟩=some (.slice B R.ents.length d):=hp.k0.cell' rfl;have e5:w3.cell? ⟨w.heap.size,5,none⟩=some (.slice A R.rows.length c):=hp.k0.cell' rfl;have f5:=hp.k0.frozen 5;have l3:=hp.k0.lt;clear hown3 hgr3 hp)
  | (at_builtin;refine wpList_append_any _ rfl (.tmp 8) (.tmp 10) 29 rfl w.heap.size 59 j0 _ 2 24 Tryz.underlying29 Hj.out.1 Hj.out.2.1 Hj.out.2.2.1 Hj.out.2.2.2 rfl (by omega) (.slice (some ⟨w3.heap.size,0,none⟩) 0 0) 0 [] rfl (own_empty_at _ _ _ _ _ (by simp;omega) (by simp)) B R.ents.length d (etFlat R.ents) rfl (HP.out.rd5 H.out) (etFlat_one _) (by simp only [maxLen];omega) (by omega) (by simp;omega) ?_;intro A2 c2 w5 hown5 hgr5;have hp:=clone_packB HP.out hown5 hgr5;have HQ:=hid_ hp;have r0:w5.cell? ⟨w.heap.size,0,none⟩=some (.int .i64 R.kind):=hp.k0.cell' rfl;have r1:w5.cell? ⟨w.heap.size,1,none⟩=some (.string R.low):=hp.k0.cell' rfl;have r2:w5.cell? ⟨w.heap.size,2,none⟩=some (.string R.high):=hp.k0.cell' rfl;have r3:w5.cell? ⟨w.heap.size,3,none⟩=some (.bool R.unb):=hp.k0.cell' rfl;have r4:w5.cell? ⟨w.heap.size,4,none⟩=some (.int .i64 R.right):=hp.k0.cell' rfl;have r5:w5.cell? ⟨w.heap.size,5,none⟩=some (.slice A1 R.rows.length c1):=hp.k0.cell' rfl;have r6:w5.cell? ⟨w.heap.size,6,none⟩=some (.slice B R.ents.length d):=hp.k0.cell' rfl;have r7:w5.cell? ⟨w.heap.size,7,none⟩=some (.string R.key):=hp.k0.cell' rfl;have r8:w5.cell? ⟨w.heap.size,8,none⟩=some (.string R.val):=hp.k0.cell' rfl;have r9:w5.cell? ⟨w.heap.size,9,none⟩=some (.int .i64 R.page):=hp.k0.cell' rfl;have r10:w5.cell? ⟨w.heap.size,10,none⟩=some (.int .i64 R.hpage):=hp.k0.cell' rfl;have r11:w5.cell? ⟨w.heap.size,11,none⟩=some (.int .i64 R.hleft):=hp.k0.cell' rfl;have r12:w5.cell? ⟨w.heap.size,12,none⟩=some (.string R.hkey):=hp.k0.cell' rfl;have r13:w5.cell? ⟨w.heap.size,13,none⟩=some (.int .i64 R.nslot):=hp.k0.cell' rfl;have r14:w5.cell? ⟨w.heap.size,14,none⟩=some (.int .i64 R.ngen):=hp.k0.cell' rfl;have fr6:=hp.k0.frozen 6;have s0:w5.cell? ⟨w.heap.size+1,0,none⟩=some (.int .i64 0):=hp.k1.cell' rfl;have s1:w5.cell? ⟨w.heap.size+1,1,none⟩=some (.string nilS):=hp.k1.cell' rfl;have s2:w5.cell? ⟨w.heap.size+1,2,none⟩=some (.string nilS):=hp.k1.cell' rfl;have s3:w5.cell? ⟨w.heap.size+1,3,none⟩=some (.bool false):=hp.k1.cell' rfl;have s4:w5.cell? ⟨w.heap.size+1,4,none⟩=some (.int .i64 0):=hp.k1.cell' rfl;have s5:w5.cell? ⟨w.heap.size+1,5,none⟩=some (.slice none 0 0):=hp.k1.cell' rfl;have s6:w5.cell? ⟨w.heap.size+1,6,none⟩=some (.slice none 0 0):=hp.k1.cell' rfl;have s7:w5.cell? ⟨w.heap.size+1,7,none⟩=some (.string nilS):=hp.k1.cell' rfl;have s8:w5.cell? ⟨w.heap.size+1,8,none⟩=some (.string nilS):=hp.k1.cell' rfl;have s9:w5.cell? ⟨w.heap.size+1,9,none⟩=some (.int .i64 0):=hp.k1.cell' rfl;have s10:w5.cell? ⟨w.heap.size+1,10,none⟩=some (.int .i64 0):=hp.k1.cell' rfl;have s11:w5.cell? ⟨w.heap.size+1,11,none⟩=some (.int .i64 0):=hp.k1.cell' rfl;have s12:w5.cell? ⟨w.heap.size+1,12,none⟩=some (.string nilS):=hp.k1.cell' rfl;have s13:w5.cell? ⟨w.heap.size+1,13,none⟩=some (.int .i64 0):=hp.k1.cell' rfl;have s14:w5.cell? ⟨w.heap.size+1,14,none⟩=some (.int .i64 0):=hp.k1.cell' rfl;have z0:=hp.k1.frozen 0;have z1:=hp.k1.frozen 1;have z2:=hp.k1.frozen 2;have z3:=hp.k1.frozen 3;have z4:=hp.k1.frozen 4;have z5:=hp.k1.frozen 5;have z6:=hp.k1.frozen 6;have z7:=hp.k1.frozen 7;have z8:=hp.k1.frozen 8;have z9:=hp.k1.frozen 9;have z10:=hp.k1.frozen 10;have z11:=hp.k1.frozen 11;have z12:=hp.k1.frozen 12;have z13:=hp.k1.frozen 13;have z14:=hp.k1.frozen 14;clear hown5 hgr5 hp))
 clear r0 s0 z0 r1 s1 z1 r2 s2 z2 r3 s3 z3 r4 s4 z4 r5 s5 z5 r6 s6 z6 r7 s7 z7 r8 s8 z8 r9 s9 z9 r10 s10 z10 r11 s11 z11 r12 s12 z12 r13 s13 z13 r14 s14 z14 fr6 e5 e6 f5
 have F6:=Fr.only1 w5 ⟨w.heap.size,6,none⟩ (.slice A2 R.ents.length c2)
 have K1:=HQ.out.k1.fr F6 (only_ne (by simp))
 obtain ⟨qb,qf⟩:=box15 K1 (.int .i64 R.kind) (.string R.low) (.string R.high) (.bool R.unb) (.int .i64 R.right) (.slice A1 R.rows.length c1) (.slice A2 R.ents.length c2) (.string R.key) (.string R.val) (.int .i64 R.page) (.int .i64 R.hpage) (.int .i64 R.hleft) (.string R.hkey) (.int .i64 R.nslot) (.int .i64 R.ngen)
 have q0:=qb.cell' (i:=0) rfl
 have q1:=qb.cell' (i:=1) rfl
 have q2:=qb.cell' (i:=2) rfl
 have q3:=qb.cell' (i:=3) rfl
 have q4:=qb.cell' (i:=4) rfl
 have q5:=qb.cell' (i:=5) rfl
 have q6:=qb.cell' (i:=6) rfl
 have q7:=qb.cell' (i:=7) rfl
 have q8:=qb.cell' (i:=8) rfl
 have q9:=qb.cell' (i:=9) rfl
 have q10:=qb.cell' (i:=10) rfl
 have q11:=qb.cell' (i:=11) rfl
 have q12:=qb.cell' (i:=12) rfl
 have q13:=qb.cell' (i:=13) rfl
 have q14:=qb.cell' (i:=14) rfl
 have O1:=own_fr (own_fr HQ.out.o1 F6 (fun k hk e=>own_blk_ne HQ.out.o1 HQ.out.k0 (by decide) (by rw [hk,show k=w.heap.size from e]))) qf (fun k hk e=>own_blk_ne HQ.out.o1 HQ.out.k1 (by decide) (by rw [hk,show k=w.heap.size+1 from e]))
 have O2:=own_fr (own_fr HQ.out.o2 F6 (fun k hk e=>own_blk_ne HQ.out.o2 HQ.out.k0 (by decide) (by rw [hk,show k=w.heap.size from e]))) qf (fun k hk e=>own_blk_ne HQ.out.o2 HQ.out.k1 (by decide) (by rw [hk,show k=w.heap.size+1 from e]))
 have G:=(HQ.out.f5.then_only F6 (.inr (Nat.le_refl _))).then_only qf (.inr (by omega))
 clear K1 F6 qb qf
 refine bodyPost_ret (v:=recV R (.slice A1 R.rows.length c1) (.slice A2 R.ents.length c2)) ?_ rfl ⟨A1,c1,A2,c2,rfl,⟨O1,O2⟩,G⟩
 simp [results,Tryz.results8,go_sem,q0,q1,q2,q3,q4,q5,q6,q7,q8,q9,q10,q11,q12,q13,q14]
open Go.RowKit Go.BigFrame

def recFlat (L:List Ch):List Value:=(L.map recL).flatten
theorem recFlat_app (L M:List Ch):recFlat (L ++ M)=recFlat L ++ recFlat M:=by simp [recFlat]
theorem recFlat_get:∀ (L:List Ch) (i:Nat) (C:Ch),L[i]?=some C→∀ (j:Nat) (v:Value),(recL C)[j]?=some v→(recFlat L)[i * 15+j]?=some v
  | [],i,C,h,_,_,_=>by simp at h
  | q :: L,0,C,h,j,v,hv=>by
    obtain rfl:q=C:=by simpa using h
    have hj:j < (recL q).length:=(List.getElem?_eq_some_iff.1 hv).1
    show (recL q ++ recFlat L)[0 * 15+j]?=some v
    rw [show 0 * 15+j=j by omega,List.getElem?_append_left hj]
    exact hv
  | q :: L,i+1,C,h,j,v,hv=>by
    have:=recFlat_get L i C (by simpa using h) j v hv
    show (recL q ++ recFlat L)[(i+1) * 15+j]?=some v
    rw [List.getElem?_append_right (by simp;omega)]
    simp only [List.length_cons,List.length_nil]
    rw [show (i+1) * 15+j - (0+1+1+1+1+1+1+1+1+1+1+1+1+1+1+1)=i * 15+j by omega]
    exact this
theorem record_info:(Tryz.prog.info? 33).map (fun i=>(i.zero,i.size,i.bytes))=some (some (.agg recZ8),15,192):=by kernel_rfl
structure ChOwn (w:World) (C:Ch):Prop where
  own:RecOwn w 0 C.R (.slice C.A C.R.rows.length C.c) (.slice C.B C.R.ents.length C.d)
  low:SzOk C.R.low
  high:SzOk C.R.high
  key:SzOk C.R.key
  hkey:SzOk C.R.hkey
  ents:EtsOk C.R.ents
theorem ChOwn.ok {w:World} {C:Ch} (h:ChOwn w C):ChOk w C:=by
  obtain ⟨A',c',e,h1,h2,_⟩:=own_parts h.own.e
  have e1:C.B=A'∧C.d=c':=by injection e with e1 e2 e3;exact ⟨e1,e3⟩
  exact ⟨h.own.reads,h.low,h.high,h.key,h.hkey,h.ents,by rw [e1.2];exact h1,by rw [e1.2];exact h2⟩
theorem chReads_own {w:World} {base n c:Nat} {A:Option Addr} {Cs:List Ch} (ho:w.ownsRow base 33 15 (.slice A n c) n (recFlat Cs)) (hn:Cs.length=n) (hc:∀ C ∈ Cs,ChOk w C):ChReads w A n Cs:=by
  refine ⟨hn,fun h0=>?_⟩
  obtain ⟨A',c',e,_,_,hp⟩:=own_parts ho
  have e1:A=A':=by injection e
  obtain ⟨g,hg,hl,hcell⟩:=hp h0
  refine ⟨g,0,by rw [e1,hg],hl,fun k C hC=>⟨fun j v hv=>?_,hc C (List.mem_of_getElem? hC)⟩⟩
  have:=hcell (k * 15+j) v (recFlat_get Cs k C hC j v hv)
  rw [Nat.zero_add]
  exact this
open Go.RowKit
section
variable {P:Program} {fn:Func} (tmps:Array Value) (w:World)
theorem results_cell7 {t:Tmp} {ty:TypeId} (h:fn.results=#[.cell t ty]) (b o:Nat) (cs:List Value) (d:TypeDesc) (ha:tmps.getD t undef=.pointer (some ⟨b,o,none⟩)) (hc:w.rangeAt b o cs)
    (hu:P.underlying ty=some d) (hd:d.isRow=true) (hi:(P.info? ty).map (·.size)=some cs.length):(results fn tmps).run P w=.ok (.agg cs.toArray) w:=by
  have hl:=run_loadVar_mid (P:=P) w b o ty cs d hc hu hd hi
  have ha':tmps[t]?.getD undef=.pointer (some ⟨b,o,none⟩):=by simpa using ha
  simp [results,h,ha',asAddr,hl]
theorem results_cell_tmp7 {t s:Tmp} {ty:TypeId} (h:fn.results=#[.cell t ty,.tmp s]) (b o:Nat) (cs:List Value) (d:TypeDesc) (ha:tmps.getD t undef=.pointer (some ⟨b,o,none⟩)) (hc:w.rangeAt b o cs)
    (hu:P.underlying ty=some d) (hd:d.isRow=true) (hi:(P.info? ty).map (·.size)=some cs.length):(results fn tmps).run P w=.ok (.tuple #[.agg cs.toArray,tmps.getD s undef]) w:=by
  have hl:=run_loadVar_mid (P:=P) w b o ty cs d hc hu hd hi
  have ha':tmps[t]?.getD undef=.pointer (some ⟨b,o,none⟩):=by simpa using ha
  simp [results,h,ha',asAddr,hl]
end
open Go.RowKit Go.BigFrame

abbrev pgA (n hs hg:Int) (vc vr:Value) (leaf:Bool) (lv:Lw) (sl:Value) (iv:Vw) (si:Value):Array Value:=#[.int .i64 n,.int .i64 hs,.int .i64 hg,vc,vr,.bool leaf,.string lv.low,.string lv.high,.bool lv.unb,.int .i64 lv.right,sl,.bool lv.gone,.string iv.low,.string iv.high,.bool iv.unb,.int .i64 iv.right,si,.bool iv.held,.int .i64 iv.hp,.int .i64 iv.hl,.string iv.hk]
abbrev pgZ:Array Value:=#[.int .i64 0,.int .i64 0,.int .i64 0,.slice none 0 0,.slice none 0 0,.bool false,.string ⟨#[]⟩,.string ⟨#[]⟩,.bool false,.int .i64 0,.slice none 0 0,.bool false,.string ⟨#[]⟩,.string ⟨#[]⟩,.bool false,.int .i64 0,.slice none 0 0,.bool false,.int .i64 0,.int .i64 0,.string ⟨#[]⟩]
theorem page_size:(Tryz.prog.info? 40).map (·.size)=some 21:=by kernel_rfl
theorem pref_info:(Tryz.prog.info? 23).map (fun i=>(i.zero,i.size,i.bytes))=some (some (.agg #[.int .i64 0,.int .i64 0]),2,16):=by kernel_rfl
def rpFlat (L:List (Int × Int)):List Value:=(L.map fun p=>[.int .i64 p.1,.int .i64 p.2]).flatten
theorem rpFlat_one (L:List (Int × Int)):∀ u ∈ rpFlat L,u.oneCell'=true:=by
  intro u hu
  simp only [rpFlat,List.mem_flatten,List.mem_map] at hu
  obtain ⟨l,⟨p,_,rfl⟩,hu⟩:=hu
  simp only [List.mem_cons,List.not_mem_nil,or_false] at hu
  rcases hu with rfl | rfl <;> rfl
theorem upM_kind {V V':Vw} {R:Rc} (h:upM V R=some V'):KindOk R:=by
  unfold upM at h
  unfold KindOk
  split at h
  · omega
  split at h
  · omega
  split at h
  · omega
  split at h
  · omega
  · cases h
theorem foldU_kind:∀ {l:List Rc} {V:Vw},foldU l=some V→∀ R ∈ l,KindOk R
  | [],V,h,R,hR=>by cases hR
  | [b],V,h,R,hR=>by
    obtain rfl:R=b:=by simpa using hR
    unfold foldU at h
    split at h
    · rename_i hb;unfold KindOk;omega
    · cases h
  | r :: s :: t,V,h,R,hR=>by
    rw [foldU_cons _ (by simp)] at h
    cases hf:foldU (s :: t) with
    | none=>rw [hf] at h;cases h
    | some V0 =>
      rw [hf] at h
      rcases List.mem_cons.1 hR with rfl | hR
      · exact upM_kind h
      · exact foldU_kind hf R hR
theorem foldU_no {l:List Rc} (h:(∀ R ∈ l,KindOk R)→foldU l=none):foldU l=none:=by
  cases hf:foldU l with
  | none=>rfl
  | some V=>rw [h (foldU_kind hf)] at hf;cases hf
theorem upL_kind {V V':Lw} {R:Rc} (h:upL V R=some V'):KindL R:=by
  unfold upL at h
  unfold KindL
  split at h
  · cases h
  split at h
  · omega
  split at h
  · omega
  split at h
  · omega
  split at h
  · omega
  split at h
  · omega
  · cases h
theorem foldL_kind:∀ {l:List Rc} {V:Lw},foldL l=some V→∀ R ∈ l,KindL R
  | [],V,h,R,hR=>by cases hR
  | [b],V,h,R,hR=>by
    obtain rfl:R=b:=by simpa using hR
    unfold foldL at h
    split at h
    · rename_i hb;unfold KindL;omega
    · cases h
  | r :: s :: t,V,h,R,hR=>by
    rw [foldL_cons _ (by simp)] at h
    cases hf:foldL (s :: t) with
    | none=>rw [hf] at h;cases h
    | some V0 =>
      rw [hf] at h
      rcases List.mem_cons.1 hR with rfl | hR
      · exact upL_kind h
      · exact foldL_kind hf R hR
theorem foldL_bad {l:List Rc} (h:∃ R ∈ l,¬ KindL R):foldL l=none:=by
  obtain ⟨R,hR,hn⟩:=h
  cases hf:foldL l with
  | none=>rfl
  | some V=>exact absurd (foldL_kind hf R hR) hn
theorem LwIn.base {b0 b:Nat} {w:World} {V:Lw} {A:Option Addr} {c:Nat} (h:LwIn b w V A c) (hb:b0≤b):LwIn b0 w V A c:=⟨own_base h.own hb,h.ok⟩
def leafB (l:List Rc):Bool:=match l[l.length - 1]? with
  | some R=>decide (R.kind=1)
  | none=>false
noncomputable def ofM (l:List Rc):Option (Bool × Lw × Vw):=
  if leafB l then (foldL l).map fun v=>(true,v,Vw.zero) else (foldU l).map fun v=>(false,Lw.zero,v)
structure PgIn (b0:Nat) (w:World) (L:List Rc) (refs:List (Int × Int)) (lv:Lw) (iv:Vw) (A:Option Addr) (c:Nat) (B:Option Addr) (d:Nat) (C:Option Addr) (x:Nat) (D:Option Addr) (y:Nat):Prop where
  lv:LwIn b0 w lv A c
  iv:VwIn w iv B d
  ch:∃ Cs:List Ch,Cs.map (·.R)=L∧w.ownsRow b0 33 15 (.slice C L.length x) L.length (recFlat Cs)∧∀ E ∈ Cs,ChOwn w E
  rf:w.ownsRow b0 23 2 (.slice D refs.length y) refs.length (rpFlat refs)
theorem ChOwn.only {w w':World} {C:Ch} {g:Nat} {t:TypeId} {cs:Array Value} (h:ChOwn w C) (hf:Fr (only g) w w') (hg:Blk w g t cs) (h1:143≠t) (h2:59≠t):ChOwn w' C:=⟨h.own.only hf hg h1 h2,h.low,h.high,h.key,h.hkey,h.ents⟩
theorem VwIn.farP {w w':World} {V:Vw} {A:Option Addr} {c X:Nat} {n hs hg:Int} {vc vr sl si:Value} {leaf:Bool} {lv:Lw} {iv:Vw} (h:VwIn w V A c) (hX:Blk w X 40 (pgA n hs hg vc vr leaf lv sl iv si)) (hsl:∃ A n c,sl=.slice A n c) (hsi:∃ A n c,si=.slice A n c) (hvr:∃ A n c,vr=.slice A n c) (hf:Fr (only X) w w'):VwIn w' V A c:=by
  refine ⟨?_,h.cap,h.capm,h.ok⟩
  rcases Nat.eq_zero_or_pos V.ents.length with h0 | h0
  · exact ⟨h.rd.1,fun hn=>absurd hn (by omega)⟩
  · obtain ⟨p,hp⟩:∃ p,V.ents[0]?=some p:=⟨_,List.getElem?_eq_getElem h0⟩
    obtain ⟨b,off,rfl,hb,c0,c1⟩:=et_at h.rd hp
    refine h.rd.fr hf (fun ad e=>?_)
    cases e
    intro e
    have e':b=X:=e
    subst e'
    rw [hX.cell] at c0 c1
    simp only [Nat.zero_mul,Nat.add_zero] at c0 c1
    obtain ⟨_,_,_,rfl⟩:=hsl
    obtain ⟨_,_,_,rfl⟩:=hsi
    obtain ⟨_,_,_,rfl⟩:=hvr
    match off,c0,c1 with
    | 0,c0,c1=>simp at c0
    | 1,c0,c1=>simp at c0
    | 2,c0,c1=>simp at c0
    | 3,c0,c1=>simp at c1
    | 4,c0,c1=>simp at c0
    | 5,c0,c1=>simp at c0
    | 6,c0,c1=>simp at c1
    | 7,c0,c1=>simp at c1
    | 8,c0,c1=>simp at c0
    | 9,c0,c1=>simp at c0
    | 10,c0,c1=>simp at c0
    | 11,c0,c1=>simp at c0
    | 12,c0,c1=>simp at c1
    | 13,c0,c1=>simp at c1
    | 14,c0,c1=>simp at c0
    | 15,c0,c1=>simp at c0
    | 16,c0,c1=>simp at c0
    | 17,c0,c1=>simp at c0
    | 18,c0,c1=>simp at c0
    | 19,c0,c1=>simp at c0
    | 20,c0,c1=>simp at c1
    | k+21,c0,c1=>simp at c0
theorem LwIn.zero (b0:Nat) (w:World):LwIn b0 w Lw.zero none 0:=⟨World.ownsRow_nil _ _ _ _,⟨SzOk.nil,SzOk.nil,by show (0:Nat)≤300000;omega,fun p hp=>by simp [Lw.zero] at hp⟩⟩
theorem VwIn.zero (w:World):VwIn w Vw.zero none 0:=⟨Reads.nil_,Nat.le_refl _,by simp,⟨SzOk.nil,SzOk.nil,SzOk.nil,⟨by show (0:Nat)≤1000;omega,fun p hp=>by simp [Vw.zero] at hp⟩⟩⟩
open Go.RowKit Go.BigFrame

abbrev dmA (l:Lm) (sn sl:Int) (sv:Value) (tn:Int) (tv:Value) (cn cl:Int) (cv:Value) (k:Int):Array Value:=#[.int .i64 (l.s:Int),.int .i64 (l.p:Int),.int .i64 l.t,.int .i64 l.r,.int .i64 l.c,.int .i64 l.n,.int .i64 sn,.int .i64 sl,sv,.int .i64 tn,tv,.int .i64 cn,.int .i64 cl,cv,.int .i64 k]
abbrev dmZ:Array Value:=#[.int .i64 0,.int .i64 0,.int .i64 0,.int .i64 0,.int .i64 0,.int .i64 0,.int .i64 0,.int .i64 0,.slice none 0 0,.int .i64 0,.slice none 0 0,.int .i64 0,.int .i64 0,.slice none 0 0,.int .i64 0]
theorem dm_size:(Tryz.prog.info? 82).map (·.size)=some 15:=by kernel_rfl
theorem Blk.thereN {w:World} {g:Nat} {t:TypeId} {cs:Array Value} (h:Blk w g t cs) {o n:Nat} (hn:o+n≤cs.size):w.there g o n:=by
  intro j hj
  refine ⟨?_,h.frozen _⟩
  rw [h.cell,Array.getElem?_eq_getElem (by omega)]
  rfl
theorem Blk.rangeN {w:World} {g:Nat} {t:TypeId} {cs:Array Value} (h:Blk w g t cs) {o:Nat} {vs:List Value} (he:∀ (j:Nat) (v:Value),vs[j]?=some v→cs[o+j]?=some v):w.rangeAt g o vs:=fun j v hv=>by
  rw [h.cell]
  exact he j v hv
theorem Blk.putN {w w':World} {g o:Nat} {t:TypeId} {cs cs':Array Value} {vs:List Value} (h:Blk w g t cs) (hw:w'=w.setCells g o vs) (he:setA cs o vs=cs'):Blk w' g t cs'∧Fr (only g) w w':=by
  subst hw
  refine ⟨?_,Fr.setCells _ _ _ (Fr.refl _ _) (.inl rfl)⟩
  rw [← he]
  exact Blk.setCells vs o _ _ h
theorem no_slot {last:Int} {i:Nat} (h:NoSlot last [] i) (hl:0 < last):i=0:=by
  rcases Nat.eq_zero_or_pos i with h0 | h0
  · exact h0
  · rcases h 1 (by omega) (by omega) with e | e
    · have e':false=true:=e
      cases e'
    · have e':last≤0:=e
      omega
def DNew (l:Lm) (w:World) (e:Ending) (w':World):Prop:=
  ∃ (PA:Option Addr) (pc:Nat) (T:Option Addr) (tc:Nat) (C:Option Addr) (cn cc:Nat),e=.returned (.agg (dmA l l.s l.n (.slice PA 1 pc) l.p (.slice T 1 tc) 1 l.n (.slice C cn cc) 0))∧RaIn w' [⟨1,1,leafR,none,0,none,0,true⟩] PA pc∧ROwn w' (.slice T 1 tc) [(0,1,1)]∧(∀ ad,T=some ad→w.heap.size≤ad.block)∧Fr none_ w w'
theorem ra_far {w w':World} {A:Option Addr} {c X:Nat} (h:RaIn w [⟨1,1,leafR,none,0,none,0,true⟩] A c) (hn:∀ ad,A=some ad→ad.block≠X) (hf:Fr (only X) w w'):RaIn w' [⟨1,1,leafR,none,0,none,0,true⟩] A c:=
  ⟨h.rd.fr hf (fun ad e e2=>hn ad e e2),h.cap,h.capm,h.len,fun p hp=>by
    obtain rfl:p=⟨1,1,leafR,none,0,none,0,true⟩:=by simpa using hp
    exact reads_leaf w',h.sz⟩
set_option maxHeartbeats 16000000 in
theorem rnew9_ok (l:Lm) (hl:l.Right) (w:World):Calls Tryz.prog 56 #[.agg (lmA l)] w (DNew l w):=by
 obtain ⟨w0,hw0⟩:∃ z,z=(w.alloc (.cells (lmA l) 67)).alloc (.cells dmZ 82):=⟨_,rfl⟩
 have f0:Fr none_ w w0:=by rw [hw0];exact ((Fr.refl none_ w).alloc _).alloc _
 have BL:Hid (Blk w0 w.heap.size 67 (lmA l)):=hid_ (by rw [hw0];exact (Blk.new w _ _).alloc _)
 have BZ:Hid (Blk w0 (w.heap.size+1) 82 dmZ):=hid_ (by rw [hw0];exact Blk.new_at4 _ _ (by simp))
 have F0:=hid_ f0
 have HL:=hid_ hl
 clear f0 hl
 go_enter Tryz.func56,Tryz.ntmps56
 go_upto_region 1 with fail
 change Code.wp _ _ _ _ ((w.alloc (.cells (lmA l) 67)).alloc (.cells dmZ 82))
 rw [← hw0]
 clear hw0
 obtain ⟨gL,hgL⟩:∃ g,g=w.heap.size:=⟨_,rfl⟩
 rw [← hgL] at BL BZ
 rw [← hgL]
 have HGL:=hid_ hgL
 clear hgL
 have l0:w0.cell? ⟨gL,0,none⟩=some (.int .i64 (l.s:Int)):=BL.out.cell' rfl
 have l1:w0.cell? ⟨gL,1,none⟩=some (.int .i64 (l.p:Int)):=BL.out.cell' rfl
 have l2:w0.cell? ⟨gL,2,none⟩=some (.int .i64 l.t):=BL.out.cell' rfl
 have l3:w0.cell? ⟨gL,3,none⟩=some (.int .i64 l.r):=BL.out.cell' rfl
 have l4:w0.cell? ⟨gL,4,none⟩=some (.int .i64 l.c):=BL.out.cell' rfl
 have l5:w0.cell? ⟨gL,5,none⟩=some (.int .i64 l.n):=BL.out.cell' rfl
 go_upto_region 2 with (refine wpList_store_mid rfl 82 (.tmp 3) (.tmp 11) rfl w0.heap.size 0 (dmA l 0 0 (.slice none 0 0) 0 (.slice none 0 0) 0 0 (.slice none 0 0) 0) rfl rfl (new_there w0 _ dmZ) dm_size (by simp [Value.oneCell']) ?_;obtain ⟨w1,hw1⟩:∃ z,z=(w0.alloc (.cells dmZ 82)).setCells w0.heap.size 0 (dmA l 0 0 (.slice none 0 0) 0 (.slice none 0 0) 0 0 (.slice none 0 0) 0).toList:=⟨_,rfl⟩;change wpList _ _ _ _ _ ((w0.alloc (.cells dmZ 82)).setCells w0.heap.size 0 (dmA l 0 0 (.slice none 0 0) 0 (.slice none 0 0) 0 0 (.slice none 0 0) 0).toList);rw [← hw1];have Q1:Hid (Blk w1 w0.heap.size 82 (dmA l 0 0 (.slice none 0 0) 0 (.slice none 0 0) 0 0 (.slice none 0 0) 0)∧Fr none_ w0 w1):=hid_ (by rw [hw1];exact new_copy w0 82 dmZ (dmA l 0 0 (.slice none 0 0) 0 (.slice none 0 0) 0 0 (.slice none 0 0) 0).toList rfl);clear hw1)
 obtain ⟨gM,hgM⟩:∃ g,g=w0.heap.size:=⟨_,rfl⟩
 have BM:=hid_ Q1.out.1
 rw [← hgM] at BM
 rw [← hgM]
 have HM0:Hid (w.heap.size≤gM∧gM≠gL∧gL+1≠gM):=hid_ (by have h1:=BL.out.lt;have h2:=BZ.out.lt;have h3:=F0.out.size;omega)
 clear hgM
 replace BL:=hid_ (BL.out.fr Q1.out.2 id)
 replace BZ:=hid_ (BZ.out.fr Q1.out.2 id)
 replace F0:=hid_ (F0.out.then_none Q1.out.2)
 clear Q1 l0 l1 l2 l3 l4 l5
 have hs1:=HL.out.s
 have hp1:=HL.out.p
 have ht1:=HL.out.t
 have hn1:=HL.out.n
 have hok:newOk (l.s:Int) l.n=true:=by unfold newOk;simp;omega
 have HOK:=hid_ hok
 clear hok
 have l0:w1.cell? ⟨gL,0,none⟩=some (.int .i64 (l.s:Int)):=BL.out.cell' rfl
 have l5:w1.cell? ⟨gL,5,none⟩=some (.int .i64 l.n):=BL.out.cell' rfl
 go_wp2_with fail
 refine (ranew_ok (l.s:Int) l.n w1).mono ?_
 rintro e w2 ⟨rfl,hf2⟩
 rw [HOK.out,newV,if_pos HOK.out]
 replace BL:=hid_ (BL.out.fr hf2 id)
 replace BZ:=hid_ (BZ.out.fr hf2 id)
 replace BM:=hid_ (BM.out.fr hf2 id)
 replace F0:=hid_ (F0.out.then_none hf2)
 clear hf2 l0 l5
 go_upto_region 3 with (refine wpList_store_mid rfl 74 (.tmp 20) (.tmp 18) rfl gM 6 #[.int .i64 (l.s:Int),.int .i64 l.n,.slice none 0 0] rfl rfl (BM.out.thereN (Nat.le_of_ble_eq_true rfl)) (by kernel_rfl) (by simp [Value.oneCell']) ?_;obtain ⟨w3,hw_⟩:∃ z,z=w2.setCells gM 6 [.int .i64 (l.s:Int),.int .i64 l.n,.slice none 0 0]:=⟨_,rfl⟩;change wpList _ _ _ _ _ (w2.setCells gM 6 [.int .i64 (l.s:Int),.int .i64 l.n,.slice none 0 0]);rw [← hw_];have S_w3:=hid_ (BM.out.putN (cs':=(dmA l l.s l.n (.slice none 0 0) 0 (.slice none 0 0) 0 0 (.slice none 0 0) 0)) hw_ (by simp only [setA,List.setIfInBounds_toArray,List.set_cons_zero,List.set_cons_succ]));clear hw_)
 replace BL:=hid_ (BL.out.fr S_w3.out.2 (only_ne (Ne.symm HM0.out.2.1)))
 replace BZ:=hid_ (BZ.out.fr S_w3.out.2 (only_ne HM0.out.2.2))
 replace BM:=hid_ S_w3.out.1
 replace F0:=hid_ (F0.out.then_only S_w3.out.2 (.inr HM0.out.1))
 clear S_w3
 have l1:w3.cell? ⟨gL,1,none⟩=some (.int .i64 (l.p:Int)):=BL.out.cell' rfl
 go_wp2_with fail
 refine (rtnew (l.p:Int) w3).mono ?_
 rintro e w4 ⟨rfl,hf4⟩
 replace BL:=hid_ (BL.out.fr hf4 id)
 replace BZ:=hid_ (BZ.out.fr hf4 id)
 replace BM:=hid_ (BM.out.fr hf4 id)
 replace F0:=hid_ (F0.out.then_none hf4)
 clear hf4 l1
 go_upto_region 4 with (refine wpList_store_mid rfl 77 (.tmp 27) (.tmp 25) rfl gM 9 #[.int .i64 (l.p:Int),.slice none 0 0] rfl rfl (BM.out.thereN (Nat.le_of_ble_eq_true rfl)) (by kernel_rfl) (by simp [Value.oneCell']) ?_;obtain ⟨w5,hw_⟩:∃ z,z=w4.setCells gM 9 [.int .i64 (l.p:Int),.slice none 0 0]:=⟨_,rfl⟩;change wpList _ _ _ _ _ (w4.setCells gM 9 [.int .i64 (l.p:Int),.slice none 0 0]);rw [← hw_];have S_w5:=hid_ (BM.out.putN (cs':=(dmA l l.s l.n (.slice none 0 0) l.p (.slice none 0 0) 0 0 (.slice none 0 0) 0)) hw_ (by simp only [setA,List.setIfInBounds_toArray,List.set_cons_zero,List.set_cons_succ]));clear hw_)
 replace BL:=hid_ (BL.out.fr S_w5.out.2 (only_ne (Ne.symm HM0.out.2.1)))
 replace BZ:=hid_ (BZ.out.fr S_w5.out.2 (only_ne HM0.out.2.2))
 replace BM:=hid_ S_w5.out.1
 replace F0:=hid_ (F0.out.then_only S_w5.out.2 (.inr HM0.out.1))
 clear S_w5
 obtain ⟨tn,htn⟩:∃ tn:Nat,l.t=(tn:Int):=⟨l.t.toNat,by omega⟩
 have l2:w5.cell? ⟨gL,2,none⟩=some (.int .i64 l.t):=BL.out.cell' rfl
 have l5:w5.cell? ⟨gL,5,none⟩=some (.int .i64 l.n):=BL.out.cell' rfl
 rw [htn] at l2
 go_wp2_with fail
 refine (rknew_ok tn l.n w5 (by omega) (by omega) (by omega) (by omega)).mono ?_
 rintro e w6 ⟨C,cc,rfl,-,hf6⟩
 rw [List.length_replicate]
 replace BL:=hid_ (BL.out.fr hf6 id)
 replace BZ:=hid_ (BZ.out.fr hf6 id)
 replace BM:=hid_ (BM.out.fr hf6 id)
 replace F0:=hid_ (F0.out.then_none hf6)
 clear hf6 l2 l5
 go_upto_region 5 with (refine wpList_store_mid rfl 80 (.tmp 36) (.tmp 34) rfl gM 11 #[.int .i64 1,.int .i64 l.n,.slice C tn cc] rfl rfl (BM.out.thereN (Nat.le_of_ble_eq_true rfl)) (by kernel_rfl) (by simp [Value.oneCell']) ?_;obtain ⟨w7,hw_⟩:∃ z,z=w6.setCells gM 11 [.int .i64 1,.int .i64 l.n,.slice C tn cc]:=⟨_,rfl⟩;change wpList _ _ _ _ _ (w6.setCells gM 11 [.int .i64 1,.int .i64 l.n,.slice C tn cc]);rw [← hw_];have S_w7:=hid_ (BM.out.putN (cs':=(dmA l l.s l.n (.slice none 0 0) l.p (.slice none 0 0) 1 l.n (.slice C tn cc) 0)) hw_ (by simp only [setA,List.setIfInBounds_toArray,List.set_cons_zero,List.set_cons_succ]));clear hw_)
 replace BL:=hid_ (BL.out.fr S_w7.out.2 (only_ne (Ne.symm HM0.out.2.1)))
 replace BZ:=hid_ (BZ.out.fr S_w7.out.2 (only_ne HM0.out.2.2))
 replace BM:=hid_ S_w7.out.1
 replace F0:=hid_ (F0.out.then_only S_w7.out.2 (.inr HM0.out.1))
 clear S_w7
 have z6:w7.cell? ⟨gM,6,none⟩=some (.int .i64 (l.s:Int)):=BM.out.cell' rfl
 have z7:w7.cell? ⟨gM,7,none⟩=some (.int .i64 l.n):=BM.out.cell' rfl
 have z8:w7.cell? ⟨gM,8,none⟩=some (.slice none 0 0):=BM.out.cell' rfl
 go_wp2_with fail
 refine (ralloc_ok (l.s:Int) l.n [] none 0 leafR none 0 none 0 w7 (by omega) (by omega) (by omega) (fun n=>Int.le_refl _) (by simp) (RaIn.nil w7) (reads_leaf w7) ⟨by simp,by simp⟩).mono ?_
 intro e w8 hal
 obtain ⟨PA,pc,rfl,hra,hpa,hf8⟩:∃ (PA:Option Addr) (pc:Nat),e=.returned (.tuple #[raV (l.s:Int) l.n [⟨1,1,leafR,none,0,none,0,true⟩] PA pc,.agg #[.int .i64 1,.int .i64 1],.int .i64 0])∧RaIn w8 [⟨1,1,leafR,none,0,none,0,true⟩] PA pc∧(∀ ad,PA=some ad→w7.heap.size≤ad.block)∧Fr none_ w7 w8:=by
  rcases hal with ⟨i,A2,c2,h1,h2,h3,h4,rfl,h6,h8,h7⟩ | ⟨h1,_⟩
  ·obtain rfl:=no_slot h2 (by have:=HL.out.n;omega)
   exact ⟨A2,c2,rfl,h6,h8,h7⟩
  ·have:=no_slot h1 (by have:=HL.out.n;omega)
   have:=HL.out.s
   omega
 have RA:=hid_ hra
 have HPA:Hid (∀ ad,PA=some ad→ad.block≠gM∧ad.block≠gL+1):=hid_ (fun ad e=>by have h1:=hpa ad e;have h2:=BM.out.lt;have h3:=BZ.out.lt;omega)
 clear hpa
 replace BL:=hid_ (BL.out.fr hf8 id)
 replace BZ:=hid_ (BZ.out.fr hf8 id)
 replace BM:=hid_ (BM.out.fr hf8 id)
 replace F0:=hid_ (F0.out.then_none hf8)
 clear hal hra hf8 z6 z7 z8
 go_upto_region 6 with fail
 obtain ⟨w9,hw9⟩:∃ z,z=(w8.alloc (.cells (raA (l.s:Int) l.n [⟨1,1,leafR,none,0,none,0,true⟩] PA pc) 74)).alloc (.cells #[.int .i64 1,.int .i64 1] 23):=⟨_,rfl⟩
 have K9:Hid (Blk w9 w8.heap.size 74 (raA (l.s:Int) l.n [⟨1,1,leafR,none,0,none,0,true⟩] PA pc)∧Blk w9 (w8.heap.size+1) 23 #[.int .i64 1,.int .i64 1]∧Fr none_ w8 w9):=hid_ (by rw [hw9];exact ⟨(Blk.new w8 _ _).alloc _,Blk.new_at4 _ _ (by simp),((Fr.refl none_ w8).alloc _).alloc _⟩)
 change Code.wp _ _ _ _ ((w8.alloc (.cells (raA (l.s:Int) l.n [⟨1,1,leafR,none,0,none,0,true⟩] PA pc) 74)).alloc (.cells #[.int .i64 1,.int .i64 1] 23))
 rw [← hw9]
 clear hw9
 have BX:=hid_ K9.out.2.1
 have BA:=hid_ K9.out.1
 obtain ⟨gA,hgA⟩:∃ g,g=w8.heap.size:=⟨_,rfl⟩
 rw [← hgA] at BA BX
 rw [← hgA]
 have HGA:Hid (gA≠gM∧gA+1≠gM):=hid_ (by have:=BM.out.lt;omega)
 clear hgA
 replace BL:=hid_ (BL.out.fr K9.out.2.2 id)
 replace BZ:=hid_ (BZ.out.fr K9.out.2.2 id)
 replace BM:=hid_ (BM.out.fr K9.out.2.2 id)
 replace F0:=hid_ (F0.out.then_none K9.out.2.2)
 replace RA:=hid_ (RA.out.keep K9.out.2.2)
 clear K9
 have z6:w9.cell? ⟨gA,0,none⟩=some (.int .i64 (l.s:Int)):=BA.out.cell' rfl
 have z7:w9.cell? ⟨gA,1,none⟩=some (.int .i64 l.n):=BA.out.cell' rfl
 have z8:w9.cell? ⟨gA,2,none⟩=some (.slice PA 1 pc):=BA.out.cell' rfl
 go_upto_region 7 with (refine wpList_store_mid rfl 74 (.tmp 46) (.tmp 45) rfl gM 6 #[.int .i64 (l.s:Int),.int .i64 l.n,.slice PA 1 pc] rfl rfl (BM.out.thereN (Nat.le_of_ble_eq_true rfl)) (by kernel_rfl) (by simp [Value.oneCell']) ?_;obtain ⟨w10,hw_⟩:∃ z,z=w9.setCells gM 6 [.int .i64 (l.s:Int),.int .i64 l.n,.slice PA 1 pc]:=⟨_,rfl⟩;change wpList _ _ _ _ _ (w9.setCells gM 6 [.int .i64 (l.s:Int),.int .i64 l.n,.slice PA 1 pc]);rw [← hw_];have S_w10:=hid_ (BM.out.putN (cs':=(dmA l l.s l.n (.slice PA 1 pc) l.p (.slice none 0 0) 1 l.n (.slice C tn cc) 0)) hw_ (by simp only [setA,List.setIfInBounds_toArray,List.set_cons_zero,List.set_cons_succ]));clear hw_)
 have RA':Hid (RaIn w10 [⟨1,1,leafR,none,0,none,0,true⟩] PA pc):=hid_ (ra_far RA.out (fun ad e=>(HPA.out ad e).1) S_w10.out.2)
 replace BX:=hid_ (BX.out.fr S_w10.out.2 (only_ne HGA.out.2))
 replace BL:=hid_ (BL.out.fr S_w10.out.2 (only_ne (Ne.symm HM0.out.2.1)))
 replace BZ:=hid_ (BZ.out.fr S_w10.out.2 (only_ne HM0.out.2.2))
 replace BM:=hid_ S_w10.out.1
 replace F0:=hid_ (F0.out.then_only S_w10.out.2 (.inr HM0.out.1))
 clear S_w10
 clear z6 z7 z8 RA BA
 have z9:w10.cell? ⟨gM,9,none⟩=some (.int .i64 (l.p:Int)):=BM.out.cell' rfl
 have z10:w10.cell? ⟨gM,10,none⟩=some (.slice none 0 0):=BM.out.cell' rfl
 go_wp2_with fail
 refine (rtake_ok l.p 0 none 0 [] w10 (World.ownsRow_nil _ _ _ _) (by simp) (by omega) (by omega) (findL_no [] 0 (fun p hp=>by cases hp)) (fun j hj=>by omega)).mono ?_
 rintro e w11 ⟨T1,c1,rfl,ho11,hf11⟩
 have O11:=hid_ ho11
 replace BL:=hid_ (BL.out.fr hf11 id)
 replace BZ:=hid_ (BZ.out.fr hf11 id)
 replace BM:=hid_ (BM.out.fr hf11 id)
 replace F0:=hid_ (F0.out.then_none hf11)
 replace RA':=hid_ (RA'.out.keep hf11)
 replace BX:=hid_ (BX.out.fr hf11 id)
 clear ho11 hf11 z9 z10
 go_upto_region 8 with fail
 obtain ⟨w12,hw12⟩:∃ z,z=w11.alloc (.cells #[.int .i64 (l.p:Int),.slice T1 1 c1] 77):=⟨_,rfl⟩
 have K12:Hid (Blk w12 w11.heap.size 77 #[.int .i64 (l.p:Int),.slice T1 1 c1]∧Fr none_ w11 w12):=hid_ (by rw [hw12];exact ⟨Blk.new w11 _ _,(Fr.refl none_ w11).alloc _⟩)
 change Code.wp _ _ _ _ (w11.alloc (.cells #[.int .i64 (l.p:Int),.slice T1 1 c1] 77))
 rw [← hw12]
 clear hw12
 have BT:=hid_ K12.out.1
 obtain ⟨gT,hgT⟩:∃ g,g=w11.heap.size:=⟨_,rfl⟩
 rw [← hgT] at BT
 rw [← hgT]
 have HPT:Hid (∀ ad,PA=some ad→ad.block≠gT):=hid_ (fun ad e=>by
  obtain ⟨b,off,e1,hb,_⟩:=RA'.out.at_ (k:=0) rfl
  rw [e1] at e
  cases e
  rw [hgT]
  exact Nat.ne_of_lt hb)
 have HGT:Hid (gT≠gM∧w.heap.size≤gT):=hid_ (by have:=BM.out.lt;have:=F0.out.size;omega)
 clear hgT
 replace BL:=hid_ (BL.out.fr K12.out.2 id)
 replace BZ:=hid_ (BZ.out.fr K12.out.2 id)
 replace BM:=hid_ (BM.out.fr K12.out.2 id)
 replace F0:=hid_ (F0.out.then_none K12.out.2)
 replace RA':=hid_ (RA'.out.keep K12.out.2)
 replace BX:=hid_ (BX.out.fr K12.out.2 id)
 replace O11:=hid_ (own_none O11.out K12.out.2)
 clear K12
 have t0:w12.cell? ⟨gT,0,none⟩=some (.int .i64 (l.p:Int)):=BT.out.cell' rfl
 have t1:w12.cell? ⟨gT,1,none⟩=some (.slice T1 1 c1):=BT.out.cell' rfl
 have x0:w12.cell? ⟨gA+1,0,none⟩=some (.int .i64 1):=BX.out.cell' rfl
 have x1:w12.cell? ⟨gA+1,1,none⟩=some (.int .i64 1):=BX.out.cell' rfl
 go_wp2_with fail
 refine (rswap_yes (l.p:Int) 0 T1 c1 [(0,0,0)] 0 0 1 1 w12 O11.out (by simp) (by omega) (by omega) 0 0 rfl rfl).mono ?_
 rintro e w13 ⟨T2,c2,rfl,ho13,hf13,ht2⟩
 have HT2:Hid (∀ ad,T2=some ad→w.heap.size≤ad.block):=hid_ (fun ad e=>by have:=ht2 ad e;have:=F0.out.size;omega)
 clear ht2
 have O13:Hid (ROwn w13 (.slice T2 1 c2) [(0,1,1)]):=hid_ ho13
 replace BT:=hid_ (BT.out.fr hf13 id)
 replace BL:=hid_ (BL.out.fr hf13 id)
 replace BZ:=hid_ (BZ.out.fr hf13 id)
 replace BM:=hid_ (BM.out.fr hf13 id)
 replace F0:=hid_ (F0.out.then_none hf13)
 replace RA':=hid_ (RA'.out.keep hf13)
 clear ho13 hf13 t0 t1 x0 x1 O11 BX
 have t0:w13.cell? ⟨gT,0,none⟩=some (.int .i64 (l.p:Int)):=BT.out.cell' rfl
 have t1:w13.cell? ⟨gT,1,none⟩=some (.slice T1 1 c1):=BT.out.cell' rfl
 have y0:=BT.out.frozen 0
 have y1:=BT.out.frozen 1
 go_upto_region 9 with fail
 obtain ⟨w14,hw14⟩:∃ z,z=(w13.setCell ⟨gT,0,none⟩ (.int .i64 (l.p:Int))).setCell ⟨gT,1,none⟩ (.slice T2 1 c2):=⟨_,rfl⟩
 have S_w14:Hid (Blk w14 gT 77 #[.int .i64 (l.p:Int),.slice T2 1 c2]∧Fr (only gT) w13 w14):=hid_ (by rw [hw14];exact box2 BT.out _ _)
 change Code.wp _ _ _ _ ((w13.setCell ⟨gT,0,none⟩ (.int .i64 (l.p:Int))).setCell ⟨gT,1,none⟩ (.slice T2 1 c2))
 rw [← hw14]
 clear hw14 t0 t1 y0 y1
 replace RA':=hid_ (ra_far RA'.out HPT.out S_w14.out.2)
 replace O13:=hid_ (own_fr O13.out S_w14.out.2 (fun k hk e=>own_blk_ne O13.out BT.out (by decide) (by rw [hk,show k=gT from e])))
 replace BL:=hid_ (BL.out.fr S_w14.out.2 (only_ne (Blk.ne_ BL.out BT.out (by decide))))
 replace BZ:=hid_ (BZ.out.fr S_w14.out.2 (only_ne (Blk.ne_ BZ.out BT.out (by decide))))
 replace BM:=hid_ (BM.out.fr S_w14.out.2 (only_ne (Ne.symm HGT.out.1)))
 replace F0:=hid_ (F0.out.then_only S_w14.out.2 (.inr HGT.out.2))
 replace BT:=hid_ S_w14.out.1
 clear S_w14
 have t0:w14.cell? ⟨gT,0,none⟩=some (.int .i64 (l.p:Int)):=BT.out.cell' rfl
 have t1:w14.cell? ⟨gT,1,none⟩=some (.slice T2 1 c2):=BT.out.cell' rfl
 go_upto_region 10 with (refine wpList_store_mid rfl 77 (.tmp 63) (.tmp 62) rfl gM 9 #[.int .i64 (l.p:Int),.slice T2 1 c2] rfl rfl (BM.out.thereN (Nat.le_of_ble_eq_true rfl)) (by kernel_rfl) (by simp [Value.oneCell']) ?_;obtain ⟨w15,hw_⟩:∃ z,z=w14.setCells gM 9 [.int .i64 (l.p:Int),.slice T2 1 c2]:=⟨_,rfl⟩;change wpList _ _ _ _ _ (w14.setCells gM 9 [.int .i64 (l.p:Int),.slice T2 1 c2]);rw [← hw_];have S_w15:=hid_ (BM.out.putN (cs':=(dmA l l.s l.n (.slice PA 1 pc) l.p (.slice T2 1 c2) 1 l.n (.slice C tn cc) 0)) hw_ (by simp only [setA,List.setIfInBounds_toArray,List.set_cons_zero,List.set_cons_succ]));clear hw_)
 replace RA':=hid_ (ra_far RA'.out (fun ad e=>(HPA.out ad e).1) S_w15.out.2)
 replace O13:=hid_ (own_fr O13.out S_w15.out.2 (fun k hk e=>own_blk_ne O13.out BM.out (by decide) (by rw [hk,show k=gM from e])))
 replace BL:=hid_ (BL.out.fr S_w15.out.2 (only_ne (Ne.symm HM0.out.2.1)))
 replace BZ:=hid_ (BZ.out.fr S_w15.out.2 (only_ne HM0.out.2.2))
 replace BM:=hid_ S_w15.out.1
 replace F0:=hid_ (F0.out.then_only S_w15.out.2 (.inr HM0.out.1))
 clear S_w15
 clear t0 t1 BT
 go_wp2_with (first | (refine wpList_load_mid rfl 82 (.tmp 3) rfl gM 0 rfl (dmA l l.s l.n (.slice PA 1 pc) l.p (.slice T2 1 c2) 1 l.n (.slice C tn cc) 0).toList _ (BM.out.rangeN (fun j v hv=>by rw [Nat.zero_add];simpa using hv)) Tryz.underlying82 rfl dm_size ?_) | (refine wpList_store_mid rfl 82 (.tmp 2) (.tmp 64) rfl (gL+1) 0 (dmA l l.s l.n (.slice PA 1 pc) l.p (.slice T2 1 c2) 1 l.n (.slice C tn cc) 0) rfl rfl (BZ.out.thereN (Nat.le_of_ble_eq_true rfl)) dm_size (by simp [Value.oneCell']) ?_;have ov:=BZ.out.over4 (dmA l l.s l.n (.slice PA 1 pc) l.p (.slice T2 1 c2) 1 l.n (.slice C tn cc) 0).toList rfl;obtain ⟨w16,hw16⟩:∃ z,z=w15.setCells (gL+1) 0 (dmA l l.s l.n (.slice PA 1 pc) l.p (.slice T2 1 c2) 1 l.n (.slice C tn cc) 0).toList:=⟨_,rfl⟩;rw [← hw16] at ov;change wpList _ _ _ _ _ (w15.setCells (gL+1) 0 (dmA l l.s l.n (.slice PA 1 pc) l.p (.slice T2 1 c2) 1 l.n (.slice C tn cc) 0).toList);rw [← hw16];have OV:=hid_ ov;clear hw16 ov))
 refine bodyPost_ret (results_cell7 _ _ rfl (gL+1) 0 (dmA l l.s l.n (.slice PA 1 pc) l.p (.slice T2 1 c2) 1 l.n (.slice C tn cc) 0).toList _ rfl (Blk.range7 (l:=(dmA l l.s l.n (.slice PA 1 pc) l.p (.slice T2 1 c2) 1 l.n (.slice C tn cc) 0).toList) OV.out.1) Tryz.underlying82 rfl dm_size) rfl ⟨PA,pc,T2,c2,C,tn,cc,rfl,ra_far RA'.out (fun ad e=>(HPA.out ad e).2) OV.out.2,own_fr O13.out OV.out.2 (fun k hk e=>own_blk_ne O13.out BZ.out (by decide) (by rw [hk,show k=gL+1 from e])),HT2.out,F0.out.then_only OV.out.2 (.inr (by have:=HGL.out;omega))⟩
open Go.RowKit

structure Cr where
  R:Rc
  A:Option Addr
  c:Nat
  B:Option Addr
  d:Nat
abbrev crA (C:Cr):Array Value:=recA C.R (.slice C.A C.R.rows.length C.c) (.slice C.B C.R.ents.length C.d)
def crFlat (L:List Cr):List Value:=(L.map fun C=>(crA C).toList).flatten
theorem crFlat_snoc (L:List Cr) (C:Cr):crFlat (L ++ [C])=crFlat L ++ (crA C).toList:=by simp [crFlat]
def rf9Flat (L:List (Int × Int)):List Value:=(L.map fun p=>[Value.int .i64 p.1,Value.int .i64 p.2]).flatten
theorem rf9Flat_snoc (L:List (Int × Int)) (p:Int × Int):rf9Flat (L ++ [p])=rf9Flat L ++ [Value.int .i64 p.1,Value.int .i64 p.2]:=by simp [rf9Flat]
theorem rec_info9:(Tryz.prog.info? 33).map (fun i=>(i.zero,i.size,i.bytes))=some (some (.agg recZ),15,192):=by kernel_rfl
theorem ref_info9:(Tryz.prog.info? 23).map (fun i=>(i.zero,i.size,i.bytes))=some (some (.agg #[.int .i64 0,.int .i64 0]),2,16):=by kernel_rfl
theorem cr_one (C:Cr):∀ u ∈ (crA C).toList,u.oneCell'=true:=by
  intro u hu
  simp only [List.mem_cons,List.not_mem_nil,or_false] at hu
  rcases hu with rfl | rfl | rfl | rfl | rfl | rfl | rfl | rfl | rfl | rfl | rfl | rfl | rfl | rfl | rfl <;> rfl
theorem RecOwn.grown {w w':World} {base:Nat} {R:Rc} {vr ve:Value} (h:RecOwn w base R vr ve) {b size n:Nat} {e:TypeId} {v:Value} {xs:List Value} (ho:w.ownsRow b e size v n xs) (h1:143≠e) (h2:59≠e) (hg:w.grownBy w' v.ownBlock):RecOwn w' base R vr ve:=by
  refine ⟨h.r.kept hg ?_,h.e.kept hg ?_⟩
  · cases hk:vr.ownBlock with
    | none=>exact .inl rfl
    | some k=>exact .inr (fun e'=>own_own_ne h.r ho h1 k hk e'.symm)
  · cases hk:ve.ownBlock with
    | none=>exact .inl rfl
    | some k=>exact .inr (fun e'=>own_own_ne h.e ho h2 k hk e'.symm)
theorem own_kept {w w':World} {base size n base' size' n':Nat} {e e':TypeId} {v v':Value} {xs xs':List Value} (h:w.ownsRow base e size v n xs) (ho:w.ownsRow base' e' size' v' n' xs') (hne:e≠e') (hg:w.grownBy w' v'.ownBlock):w'.ownsRow base e size v n xs:=by
  refine h.kept hg ?_
  cases hk:v.ownBlock with
  | none=>exact .inl rfl
  | some k=>exact .inr (fun e'=>own_own_ne h ho hne k hk e'.symm)
theorem Blk.there9 {w:World} {g n:Nat} {t:TypeId} {cs:Array Value} (h:Blk w g t cs) (hn:cs.size=n):w.there g 0 n:=by
  subst hn
  intro j hj
  refine ⟨?_,h.frozen _⟩
  rw [h.cell,Nat.zero_add,Array.getElem?_eq_getElem hj]
  rfl
theorem Blk.over9 {w:World} {g:Nat} {t:TypeId} {zs:Array Value} (h:Blk w g t zs) (vs:List Value) (hz:zs.size=vs.length):Blk (w.setCells g 0 vs) g t vs.toArray∧Fr (only g) w (w.setCells g 0 vs):=by
  refine ⟨?_,Fr.setCells _ _ _ (Fr.refl _ _) (.inl rfl)⟩
  have h:=Blk.setCells vs 0 _ _ h
  have e:setA zs 0 vs=vs.toArray:=by
    apply Array.ext_getElem?
    intro k
    rcases Nat.lt_or_ge k vs.length with h1 | h1
    · have:=setA_in vs zs 0 k vs[k] (List.getElem?_eq_getElem h1) (by omega)
      rw [Nat.zero_add] at this
      rw [this,List.getElem?_toArray,List.getElem?_eq_getElem h1]
    · rw [Array.getElem?_eq_none (by rw [setA_size];omega),Array.getElem?_eq_none (by simpa using h1)]
  rwa [e] at h
theorem reads_blk9 {w:World} {t:TypeId} {cs:List Value} {b:Nat} (h:Blk w b t cs.toArray):Reads w cs.length (some ⟨b,0,none⟩) 1 cs:=
  ⟨by simp,fun _=>⟨_,rfl,fun j u hu=>by rw [add_lit,Nat.zero_add];exact h.cell' (by simpa using hu)⟩⟩
def Links (ss:List Sl):List Nat→Int→Int→Prop
  | [],s,g=>s=0∧g=0
  | j :: rest,s,g=>s=(j:Int)+1∧∃ y,ss[j]?=some y∧y.used=true∧y.gen=g∧Links ss rest y.R.nslot y.R.ngen
def recOf (ss:List Sl) (j:Nat):Rc:=(ss.getD j Sl.zero).R
def refOf (ss:List Sl) (j:Nat):Int × Int:=((j:Int)+1,(ss.getD j Sl.zero).gen)
theorem slotD {ss:List Sl} {j:Nat} {y:Sl} (h:ss[j]?=some y):ss.getD j Sl.zero=y:=by simp [h]
structure Ch9 (w:World) (bx b:Nat) (cx cb:Array Value) (vl:Value) (nl:Nat) (xl:List Value) (vr:Value) (nr:Nat) (xr:List Value) (Cs:List Cr) (wr:World):Prop where
  l:wr.ownsRow w.heap.size 33 15 vl nl xl
  r:wr.ownsRow w.heap.size 23 2 vr nr xr
  nl:∀ k,vl.ownBlock=some k→k≠b
  nr:∀ k,vr.ownBlock=some k→k≠bx
  bx:Blk wr bx 23 cx
  bt:Blk wr b 33 cb
  own:∀ C ∈ Cs,RecOwn wr 0 C.R (.slice C.A C.R.rows.length C.c) (.slice C.B C.R.ents.length C.d)
  f:Fr none_ w wr
section
variable {w wr w':World} {bx b:Nat} {cx cb:Array Value} {vl:Value} {nl:Nat} {xl:List Value} {vr:Value} {nr:Nat} {xr:List Value} {Cs:List Cr}
theorem Ch9.keep (h:Ch9 w bx b cx cb vl nl xl vr nr xr Cs wr) (hf:Fr none_ wr w'):Ch9 w bx b cx cb vl nl xl vr nr xr Cs w':=
  ⟨own_none h.l hf,own_none h.r hf,h.nl,h.nr,h.bx.fr hf id,h.bt.fr hf id,fun C hC=>(h.own C hC).keep hf,h.f.then_none hf⟩
theorem Ch9.putL (h:Ch9 w bx b cx cb vl nl xl vr nr xr Cs wr) {v':Value} {m:Nat} {ys:List Value} (ho:w'.ownsRow w.heap.size 33 15 v' (nl+m) (xl ++ ys)) (hg:wr.grownBy w' vl.ownBlock) (hat:v'.ownBlock=vl.ownBlock∨v'.ownBlock=some wr.heap.size):Ch9 w bx b cx cb v' (nl+m) (xl ++ ys) vr nr xr Cs w':=
  ⟨ho,own_kept h.r h.l (by decide) hg,fun k hk=>by
      rcases hat with e | e
      · exact h.nl k (e ▸ hk)
      · have h1:=h.bt.lt
        have:wr.heap.size=k:=Option.some.inj (e.symm.trans hk)
        omega,h.nr,h.bx.grown hg (fun e=>own_blk_ne h.l h.bx (by decide) e.symm),h.bt.grown hg (fun e=>h.nl b e.symm rfl),fun C hC=>(h.own C hC).grown h.l (by decide) (by decide) hg,h.f.grown hg (fun k hk=>.inr (h.l.lt k hk).1)⟩
theorem Ch9.putR (h:Ch9 w bx b cx cb vl nl xl vr nr xr Cs wr) {v':Value} {m:Nat} {ys:List Value} (ho:w'.ownsRow w.heap.size 23 2 v' (nr+m) (xr ++ ys)) (hg:wr.grownBy w' vr.ownBlock) (hat:v'.ownBlock=vr.ownBlock∨v'.ownBlock=some wr.heap.size):Ch9 w bx b cx cb vl nl xl v' (nr+m) (xr ++ ys) Cs w':=
  ⟨own_kept h.l h.r (by decide) hg,ho,h.nl,fun k hk=>by
      rcases hat with e | e
      · exact h.nr k (e ▸ hk)
      · have h1:=h.bx.lt
        have:wr.heap.size=k:=Option.some.inj (e.symm.trans hk)
        omega,h.bx.grown hg (fun e=>h.nr bx e.symm rfl),h.bt.grown hg (fun e=>own_blk_ne h.r h.bt (by decide) e.symm),fun C hC=>(h.own C hC).grown h.r (by decide) (by decide) hg,h.f.grown hg (fun k hk=>.inr (h.r.lt k hk).1)⟩
end
def lenOf:Value→Nat
  | .slice _ n _=>n
  | _=>0
def ChainPost (ss:List Sl) (js:List Nat) (w:World) (e:Ending) (w':World):Prop:=
  ∃ (A:Option Addr) (c:Nat) (B:Option Addr) (d:Nat) (Cs:List Cr),e=.returned (.tuple #[.slice A js.length c,.slice B js.length d,.nilIface])∧Cs.map (·.R)=js.map (recOf ss)∧w'.ownsRow w.heap.size 33 15 (.slice A js.length c) js.length (crFlat Cs)∧w'.ownsRow w.heap.size 23 2 (.slice B js.length d) js.length (rf9Flat (js.map (refOf ss)))∧(∀ C ∈ Cs,RecOwn w' 0 C.R (.slice C.A C.R.rows.length C.c) (.slice C.B C.R.ents.length C.d))∧Fr none_ w w'
structure ChL (w:World) (ss:List Sl) (js:List Nat) (bx:Nat) (pre rest:List Nat) (s g:Int) (A:Option Addr) (c:Nat) (B:Option Addr) (d:Nat) (Cs:List Cr) (wr:World):Prop where
  eq:js=pre ++ rest
  li:Links ss rest s g
  l:wr.ownsRow w.heap.size 33 15 (.slice A pre.length c) pre.length (crFlat Cs)
  r:wr.ownsRow w.heap.size 23 2 (.slice B pre.length d) pre.length (rf9Flat (pre.map (refOf ss)))
  nr:∀ k,(Value.slice B pre.length d).ownBlock=some k→k≠bx
  bx:Blk wr bx 23 #[.int .i64 s,.int .i64 g]
  cs:Cs.map (·.R)=pre.map (recOf ss)
  own:∀ C ∈ Cs,RecOwn wr 0 C.R (.slice C.A C.R.rows.length C.c) (.slice C.B C.R.ents.length C.d)
  f:Fr none_ w wr
set_option maxHeartbeats 16000000 in
theorem chain_ok {m:Nat} {k:Int} {l:Lm} {x:St} (w:World) (h:Mm w m k l x) (pg:Nat) (s0 g0:Int) (hp:x.ps[pg]?=some (true,s0,g0)) (js:List Nat) (hj:Links x.ss js s0 g0) (hl:js.length≤l.s) (hl2:l.s≤4096) :
  Calls Tryz.prog 57 #[.pointer (some ⟨m,0,none⟩),.int .i64 (pg:Int)] w (ChainPost x.ss js w):=by
 have H:=hid_ h
 have HJ:=hid_ hj
 obtain ⟨i0,hi0,hz0,hs0,hb0⟩:=info_parts rec_info9
 have Hi:=hid_ (And.intro hi0 (And.intro hz0 (And.intro hs0 hb0)))
 obtain ⟨j0,hj0,hy0,ht0,hc0⟩:=info_parts ref_info9
 have Hj:=hid_ (And.intro hj0 (And.intro hy0 (And.intro ht0 hc0)))
 have m8:w.cell? ⟨m,8,none⟩=some (.pointer (some ⟨x.T,0,none⟩)):=h.b.cell' rfl
 clear hi0 hz0 hs0 hb0 hj0 hy0 ht0 hc0 h hj
 go_enter Tryz.func57,Tryz.ntmps57
 go_wp2_with fail
 refine (head_ok x.T x.H x.ps pg s0 g0 _ H.out.tb hp).mono ?_
 rintro e w1 ⟨rfl,hf1⟩
 have F1:=hid_ hf1
 have hsw1:=hf1.size
 clear hf1 m8
 go_upto_region 4 with fail
 obtain ⟨w2,hw2⟩:∃ z,z=w1.alloc (.cells #[.int .i64 s0,.int .i64 g0] 23):=⟨_,rfl⟩
 have fw2:Fr none_ w1 w2:=by rw [hw2];exact (Fr.refl none_ w1).alloc _
 have BX:Hid (Blk w2 w1.heap.size 23 (#[.int .i64 s0,.int .i64 g0])):=hid_ (by rw [hw2];exact Blk.new w1 _ _)
 replace F1:=hid_ (F1.out.then_none fw2)
 change Code.wp _ _ _ _ (w1.alloc (.cells #[.int .i64 s0,.int .i64 g0] 23))
 rw [← hw2]
 clear hw2 fw2
 have hsz2:=F1.out.size
 have hbx:=BX.out.lt
 have hw1:w1.heap.size < w2.heap.size:=hbx
 go_wp2_with fail
 go_loopw [9,10] (fun u v wr=>∃ (pre rest:List Nat) (s g:Int) (A:Option Addr) (c:Nat) (B:Option Addr) (d:Nat) (Cs:List Cr),u=.slice A pre.length c∧v=.slice B pre.length d∧ChL w x.ss js w1.heap.size pre rest s g A c B d Cs wr) (fun u _ _=>js.length - lenOf u)
 case atStart=>exact ⟨[],js,s0,g0,none,0,none,0,[],rfl,rfl,⟨rfl,HJ.out,World.ownsRow_nil _ _ _ _,World.ownsRow_nil _ _ _ _,(fun k hk=>by simp [Value.ownBlock] at hk),BX.out,rfl,(fun C hC=>by cases hC),F1.out⟩⟩
 case round =>
  obtain ⟨pre,rest,s,g,A,c,B,d,Cs,rfl,rfl,hR⟩:=hrel
  have HR:=hid_ hR
  have hjl:js.length=pre.length+rest.length:=by rw [hR.eq];simp
  have x0:wr.cell? ⟨w1.heap.size,0,none⟩=some (.int .i64 s):=hR.bx.cell' rfl
  have x1:wr.cell? ⟨w1.heap.size,1,none⟩=some (.int .i64 g):=hR.bx.cell' rfl
  have hq:=neq_ref
  have hli:=hR.li
  clear hR
  cases rest with
  | nil =>
   obtain ⟨rfl,rfl⟩:=hli
   go_wp2_with fail
   have heq:js=pre:=by have:=HR.out.eq;simpa using this
   subst heq
   go_ret3
   exact ⟨A,c,B,d,Cs,rfl,HR.out.cs,HR.out.l,HR.out.r,HR.out.own,HR.out.f⟩
  | cons j rest =>
   obtain ⟨rfl,y,hy,hu,hg,hli'⟩:=hli
   have HY:=hid_ (And.intro hy (And.intro hu (And.intro hg hli')))
   have d0:(((j:Int)+1)==0)=false:=by simp;omega
   have hne:((pre.length:Int)==(l.s:Int))=false:=by simp at hjl ⊢;omega
   have M1:=hid_ (H.out.keep HR.out.f)
   have m1:wr.cell? ⟨m,1,none⟩=some (.int .i64 (l.s:Int)):=M1.out.b.cell' rfl
   clear hy hu hg hli'
   go_upto_region 11 with fail
   clear m1
   have m7:wr.cell? ⟨m,7,none⟩=some (.pointer (some ⟨x.a,0,none⟩)):=M1.out.b.cell' rfl
   go_cut [11,12] (fun u v wq=>∃ (b:Nat) (C:Cr),u=.pointer (some ⟨b,0,none⟩)∧v=.nilIface∧wr.heap.size≤b∧C.R=y.R∧Blk wq b 33 (crA C)∧RecOwn wq 0 C.R (.slice C.A C.R.rows.length C.c) (.slice C.B C.R.ents.length C.d)∧Fr none_ wr wq)
   case first =>
    have hS1:(fun w':World=>Fr none_ wr w') wr.drew:=(Fr.refl none_ wr).drew
    refine wp_region_U (m:=12) (S:=fun w':World=>Fr none_ wr w') (by kernel_rfl) ?_
    refine wpAnyU_take2 (i:=0) (v:=_) rfl (by kernel_rfl) (by kernel_rfl) (by kernel_rfl) (by kernel_rfl) (fun _ _ _ h=>h) (.inl ⟨by kernel_rfl,fun w' hS=>by go_simp;rfl⟩) hS1 ?_
    refine wpAnyU_take2 (i:=1) (v:=_) rfl (by kernel_rfl) (by kernel_rfl) (by kernel_rfl) (by kernel_rfl) (fun _ _ _ h=>h) (.inl ⟨by kernel_rfl,fun w' hS=>by go_simp;rfl⟩) hS1 ?_
    refine wpAnyU_take2 (i:=2) (v:=_) rfl (by kernel_rfl) (by kernel_rfl) (by kernel_rfl) (by kernel_rfl) (fun _ _ _ h=>h) (.inl ⟨by kernel_rfl,fun w' hS=>by go_simp;rfl⟩) hS1 ?_
    refine wpAnyU_take2 (i:=3) (v:=_) rfl (by kernel_rfl) (by kernel_rfl) (by kernel_rfl) (by kernel_rfl) (fun _ _ _ h=>h) (.inl ⟨by kernel_rfl,fun w' hS=>by have s_7:=cellFr m7 hS;go_simp;rfl⟩) hS1 ?_
    refine wpAnyU_take2 (i:=4) (v:=_) rfl (by kernel_rfl) (by kernel_rfl) (by kernel_rfl) (by kernel_rfl) (fun _ _ _ h=>h) (.inl ⟨by kernel_rfl,fun w' hS=>by have s_0:=cellFr x0 hS;have s_1:=cellFr x1 hS;go_simp;rfl⟩) hS1 ?_
    clear m7 x0 x1
    refine wpAnyU_two (i:=5) (j:=9) rfl rfl rfl rfl (by kernel_rfl) ?_ ?_
    ·go_simp
     refine (load_ok ((j:Int)+1) g (M1.out.ar.keep (Fr.refl none_ wr).drew) HY.out.1 rfl HY.out.2.1 HY.out.2.2.1).mono ?_
     rintro e w3 ⟨A2,c2,B2,d2,rfl,ho2,hf2⟩
     have fS:=(Fr.refl none_ wr).drew.then_none hf2
     have RO:=hid_ ho2
     refine ⟨fS,?_⟩
     have hb:wr.heap.size≤w3.heap.size:=fS.size
     clear ho2 hf2 hS1
     refine wpAnyU_take2 (i:=6) (v:=_) rfl (by kernel_rfl) (by kernel_rfl) (by kernel_rfl) (by kernel_rfl) (fun _ _ _ h=>h) (.inl ⟨by kernel_rfl,fun w' hS=>by go_simp;rfl⟩) fS ?_
     refine wpAnyU_take2 (i:=7) (v:=_) rfl (by kernel_rfl) (by kernel_rfl) (by kernel_rfl) (by kernel_rfl) (fun _ _ _ h=>h) (.inl ⟨by kernel_rfl,fun w' hS=>by go_simp;rfl⟩) fS ?_
     refine wpAnyU_take2 (i:=8) (v:=_) rfl (by kernel_rfl) (by kernel_rfl) (by kernel_rfl) (by kernel_rfl) (fun _ _ _ h=>h) (.inl ⟨by kernel_rfl,fun w' hS=>by go_simp;rfl⟩) fS ?_
     refine wpAnyU_oneW (i:=9) rfl (by kernel_rfl) (by kernel_rfl) ?_
     go_simp
     refine ⟨fS.alloc _,?_⟩
     obtain ⟨w4,hw4⟩:∃ z,z=w3.alloc (.cells recZ 33):=⟨_,rfl⟩
     have f4:Fr none_ w3 w4:=by rw [hw4];exact (Fr.refl none_ w3).alloc _
     have BT:Hid (Blk w4 w3.heap.size 33 recZ):=hid_ (by rw [hw4];exact Blk.new w3 _ _)
     replace RO:=hid_ (RO.out.keep f4)
     replace fS:=fS.then_none f4
     change wpAnyU _ _ _ _ _ _ _ _ _ (w3.alloc (.cells recZ 33))
     rw [← hw4]
     clear hw4 f4
     refine wpAnyU_oneW (i:=10) rfl (by kernel_rfl) (by kernel_rfl) ?_
     refine wp_store_mid 33 (.tmp 11) (.tmp 49) rfl w3.heap.size 0 (crA ⟨y.R,A2,c2,B2,d2⟩) rfl rfl (BT.out.there9 rfl) rec_size (by simp [Value.oneCell']) ?_
     obtain ⟨w5,hw5⟩:∃ z,z=w4.setCells (w3.heap.size) 0 (crA ⟨y.R,A2,c2,B2,d2⟩).toList:=⟨_,rfl⟩
     have ov:=BT.out.over9 (crA ⟨y.R,A2,c2,B2,d2⟩).toList rfl
     rw [← hw5] at ov
     have fS5:=fS.then_only ov.2 (.inr hb)
     have OV:=hid_ (And.intro (show Blk w5 (w3.heap.size) 33 (crA ⟨y.R,A2,c2,B2,d2⟩) from ov.1) (RO.out.only ov.2 BT.out (by decide) (by decide)))
     refine ⟨.inr (by rw [← hw5];exact fS5),?_⟩
     change wpAnyU _ _ _ _ _ _ _ _ _ (w4.setCells (w3.heap.size) 0 (crA ⟨y.R,A2,c2,B2,d2⟩).toList)
     rw [← hw5]
     clear hw5 ov
     refine wpAnyU_take2 (i:=11) (v:=_) rfl (by kernel_rfl) (by kernel_rfl) (by kernel_rfl) (by kernel_rfl) (fun _ _ _ h=>h) (.inl ⟨by kernel_rfl,fun w' hS=>by go_simp;rfl⟩) fS5 ?_
     refine wpAnyU_done (by kernel_rfl) ?_ _
     go_wp2_with fail
     go_meet
     exact ⟨_,⟨y.R,A2,c2,B2,d2⟩,rfl,rfl,hb,rfl,OV.out.1,OV.out.2.base (Nat.zero_le _),fS5⟩
    ·go_simp
     refine ⟨((Fr.refl none_ wr).alloc _).drew,?_⟩
     obtain ⟨w3,hw3⟩:∃ z,z=(wr.alloc (.cells recZ 33)).drew:=⟨_,rfl⟩
     have f3:Fr none_ wr w3:=by rw [hw3];exact ((Fr.refl none_ wr).alloc _).drew
     have BT:Hid (Blk w3 wr.heap.size 33 recZ):=hid_ (by rw [hw3];exact (Blk.new wr _ _).drew)
     change wpAnyU _ _ _ _ _ _ _ _ _ ((wr.alloc (.cells recZ 33)).drew)
     rw [← hw3]
     clear hw3 hS1
     refine wpAnyU_oneW (i:=5) rfl (by kernel_rfl) (by kernel_rfl) ?_
     go_simp
     refine (load_ok ((j:Int)+1) g (M1.out.ar.keep f3) HY.out.1 rfl HY.out.2.1 HY.out.2.2.1).mono ?_
     rintro e w4 ⟨A2,c2,B2,d2,rfl,ho2,hf2⟩
     have fS:=f3.then_none hf2
     have RO:=hid_ ho2
     refine ⟨fS,?_⟩
     have hb:wr.heap.size≤wr.heap.size:=Nat.le_refl _
     replace BT:=hid_ (BT.out.fr hf2 id)
     clear ho2 hf2 f3
     refine wpAnyU_take2 (i:=6) (v:=_) rfl (by kernel_rfl) (by kernel_rfl) (by kernel_rfl) (by kernel_rfl) (fun _ _ _ h=>h) (.inl ⟨by kernel_rfl,fun w' hS=>by go_simp;rfl⟩) fS ?_
     refine wpAnyU_take2 (i:=7) (v:=_) rfl (by kernel_rfl) (by kernel_rfl) (by kernel_rfl) (by kernel_rfl) (fun _ _ _ h=>h) (.inl ⟨by kernel_rfl,fun w' hS=>by go_simp;rfl⟩) fS ?_
     refine wpAnyU_take2 (i:=8) (v:=_) rfl (by kernel_rfl) (by kernel_rfl) (by kernel_rfl) (by kernel_rfl) (fun _ _ _ h=>h) (.inl ⟨by kernel_rfl,fun w' hS=>by go_simp;rfl⟩) fS ?_
     refine wpAnyU_oneW (i:=10) rfl (by kernel_rfl) (by kernel_rfl) ?_
     refine wp_store_mid 33 (.tmp 11) (.tmp 49) rfl wr.heap.size 0 (crA ⟨y.R,A2,c2,B2,d2⟩) rfl rfl (BT.out.there9 rfl) rec_size (by simp [Value.oneCell']) ?_
     obtain ⟨w5,hw5⟩:∃ z,z=w4.setCells (wr.heap.size) 0 (crA ⟨y.R,A2,c2,B2,d2⟩).toList:=⟨_,rfl⟩
     have ov:=BT.out.over9 (crA ⟨y.R,A2,c2,B2,d2⟩).toList rfl
     rw [← hw5] at ov
     have fS5:=fS.then_only ov.2 (.inr hb)
     have OV:=hid_ (And.intro (show Blk w5 (wr.heap.size) 33 (crA ⟨y.R,A2,c2,B2,d2⟩) from ov.1) (RO.out.only ov.2 BT.out (by decide) (by decide)))
     refine ⟨.inr (by rw [← hw5];exact fS5),?_⟩
     change wpAnyU _ _ _ _ _ _ _ _ _ (w4.setCells (wr.heap.size) 0 (crA ⟨y.R,A2,c2,B2,d2⟩).toList)
     rw [← hw5]
     clear hw5 ov
     refine wpAnyU_take2 (i:=11) (v:=_) rfl (by kernel_rfl) (by kernel_rfl) (by kernel_rfl) (by kernel_rfl) (fun _ _ _ h=>h) (.inl ⟨by kernel_rfl,fun w' hS=>by go_simp;rfl⟩) fS5 ?_
     refine wpAnyU_done (by kernel_rfl) ?_ _
     go_wp2_with fail
     go_meet
     exact ⟨_,⟨y.R,A2,c2,B2,d2⟩,rfl,rfl,hb,rfl,OV.out.1,OV.out.2.base (Nat.zero_le _),fS5⟩
   case rest =>
    obtain ⟨b,C,rfl,rfl,hb,hCR,hbt,hown,hf11⟩:=hcut
    have F0:=hid_ (HR.out.f.then_none hf11)
    have hlb:∀ k,(Value.slice A pre.length c).ownBlock=some k→k≠b:=fun k hk=>by have:=(HR.out.l.lt k hk).2;omega
    have P0:Hid (Ch9 w w1.heap.size b #[.int .i64 ((j:Int)+1),.int .i64 g] (crA C) (.slice A pre.length c) pre.length (crFlat Cs) (.slice B pre.length d) pre.length (rf9Flat (pre.map (refOf x.ss))) Cs wc):=hid_ ⟨own_none HR.out.l hf11,own_none HR.out.r hf11,hlb,HR.out.nr,HR.out.bx.fr hf11 id,hbt,fun C hC=>(HR.out.own C hC).keep hf11,F0.out⟩
    have NW:=hid_ hown
    have HC:=hid_ hCR
    clear hbt hown hf11 hlb F0 m7 x0 x1 M1 hCR
    go_upto_region 14 with fail
    go_cut [9,10] (fun u v wq=>∃ (A':Option Addr) (c':Nat) (B':Option Addr) (d':Nat),u=.slice A' (pre.length+1) c'∧v=.slice B' (pre.length+1) d'∧Ch9 w w1.heap.size b #[.int .i64 ((j:Int)+1),.int .i64 g] (crA C) (.slice A' (pre.length+1) c') (pre.length+1) (crFlat Cs ++ (crA C).toList) (.slice B' (pre.length+1) d') (pre.length+1) (rf9Flat (pre.map (refOf x.ss)) ++ [.int .i64 ((j:Int)+1),.int .i64 g]) Cs wq∧RecOwn wq 0 C.R (.slice C.A C.R.rows.length C.c) (.slice C.B C.R.ents.length C.d))
    case first =>
     have hS1:(fun w':World=>Blk w' b 33 (crA C)∧Blk w' w1.heap.size 23 #[.int .i64 ((j:Int)+1),.int .i64 g]) wc.drew:=⟨P0.out.bt.drew,P0.out.bx.drew⟩
     refine wp_region_U (m:=10) (S:=(fun w':World=>Blk w' b 33 (crA C)∧Blk w' w1.heap.size 23 #[.int .i64 ((j:Int)+1),.int .i64 g])) (by kernel_rfl) ?_
     refine wpAnyU_take2 (i:=0) (v:=_) rfl (by kernel_rfl) (by kernel_rfl) (by kernel_rfl) (by kernel_rfl) (fun _ _ _ h=>h) (.inl ⟨by kernel_rfl,fun w' hS=>by go_simp;rfl⟩) hS1 ?_
     refine wpAnyU_take2 (i:=1) (v:=_) rfl (by kernel_rfl) (by kernel_rfl) (by kernel_rfl) (by kernel_rfl) (fun _ _ _ h=>h) (.inl ⟨by kernel_rfl,fun w' hS=>by have s_0:w'.cell? ⟨b,0,none⟩=some (.int .i64 C.R.kind):=hS.1.cell' rfl;have s_1:w'.cell? ⟨b,1,none⟩=some (.string C.R.low):=hS.1.cell' rfl;have s_2:w'.cell? ⟨b,2,none⟩=some (.string C.R.high):=hS.1.cell' rfl;have s_3:w'.cell? ⟨b,3,none⟩=some (.bool C.R.unb):=hS.1.cell' rfl;have s_4:w'.cell? ⟨b,4,none⟩=some (.int .i64 C.R.right):=hS.1.cell' rfl;have s_5:w'.cell? ⟨b,5,none⟩=some (.slice C.A C.R.rows.length C.c):=hS.1.cell' rfl;have s_6:w'.cell? ⟨b,6,none⟩=some (.slice C.B C.R.ents.length C.d):=hS.1.cell' rfl;have s_7:w'.cell? ⟨b,7,none⟩=some (.string C.R.key):=hS.1.cell' rfl;have s_8:w'.cell? ⟨b,8,none⟩=some (.string C.R.val):=hS.1.cell' rfl;have s_9:w'.cell? ⟨b,9,none⟩=some (.int .i64 C.R.page):=hS.1.cell' rfl;have s_10:w'.cell? ⟨b,10,none⟩=some (.int .i64 C.R.hpage):=hS.1.cell' rfl;have s_11:w'.cell? ⟨b,11,none⟩=some (.int .i64 C.R.hleft):=hS.1.cell' rfl;have s_12:w'.cell? ⟨b,12,none⟩=some (.string C.R.hkey):=hS.1.cell' rfl;have s_13:w'.cell? ⟨b,13,none⟩=some (.int .i64 C.R.nslot):=hS.1.cell' rfl;have s_14:w'.cell? ⟨b,14,none⟩=some (.int .i64 C.R.ngen):=hS.1.cell' rfl;go_simp;rfl⟩) hS1 ?_
     refine wpAnyU_take2 (i:=4) (v:=_) rfl (by kernel_rfl) (by kernel_rfl) (by kernel_rfl) (by kernel_rfl) (fun _ _ _ h=>h) (.inl ⟨by kernel_rfl,fun w' hS=>by go_simp;rfl⟩) hS1 ?_
     refine wpAnyU_take2 (i:=5) (v:=_) rfl (by kernel_rfl) (by kernel_rfl) (by kernel_rfl) (by kernel_rfl) (fun _ _ _ h=>h) (.inl ⟨by kernel_rfl,fun w' hS=>by have s_0:w'.cell? ⟨w1.heap.size,0,none⟩=some (.int .i64 ((j:Int)+1)):=hS.2.cell' rfl;have s_1:w'.cell? ⟨w1.heap.size,1,none⟩=some (.int .i64 g):=hS.2.cell' rfl;go_simp;rfl⟩) hS1 ?_
     replace P0:=hid_ (P0.out.keep (Fr.refl none_ wc).drew)
     replace NW:=hid_ (NW.out.keep (Fr.refl none_ wc).drew)
     obtain ⟨we,hwe⟩:∃ z,z=wc.drew:=⟨_,rfl⟩
     rw [← hwe] at P0 NW hS1
     change wpAnyU _ _ _ _ _ _ _ _ _ wc.drew
     rw [← hwe]
     clear hwe hS1
     refine wpAnyU_two (i:=2) (j:=6) rfl rfl rfl rfl (by kernel_rfl) ?_ ?_
     ·skip
      go_simp
      obtain ⟨wb1,hz⟩:∃ z,z=we.alloc (.cells #[.int .i64 C.R.kind,.string C.R.low,.string C.R.high,.bool C.R.unb,.int .i64 C.R.right,.slice C.A C.R.rows.length C.c,.slice C.B C.R.ents.length C.d,.string C.R.key,.string C.R.val,.int .i64 C.R.page,.int .i64 C.R.hpage,.int .i64 C.R.hleft,.string C.R.hkey,.int .i64 C.R.nslot,.int .i64 C.R.ngen] 33):=⟨_,rfl⟩
      have fz:Fr none_ we wb1:=by rw [hz];exact (Fr.refl none_ we).alloc _
      have PL:Hid (Blk wb1 we.heap.size 33 #[.int .i64 C.R.kind,.string C.R.low,.string C.R.high,.bool C.R.unb,.int .i64 C.R.right,.slice C.A C.R.rows.length C.c,.slice C.B C.R.ents.length C.d,.string C.R.key,.string C.R.val,.int .i64 C.R.page,.int .i64 C.R.hpage,.int .i64 C.R.hleft,.string C.R.hkey,.int .i64 C.R.nslot,.int .i64 C.R.ngen]):=hid_ (by rw [hz];exact Blk.new we _ _)
      replace P0:=hid_ (P0.out.keep fz)
      replace NW:=hid_ (NW.out.keep fz)
      rw [← hz]
      refine ⟨⟨P0.out.bt,P0.out.bx⟩,?_⟩
      clear hz fz
      refine wpAnyU_two (i:=3) (j:=6) rfl rfl rfl rfl (by kernel_rfl) ?_ ?_
      ·skip
       skip -- 3
       refine wp_append_at _ (.tmp 57) (.tmp 59) 24 rfl w.heap.size 33 i0 _ 15 192 Tryz.underlying24 Hi.out.1 Hi.out.2.1 Hi.out.2.2.1 Hi.out.2.2.2 rfl (by omega) _ _ _ rfl P0.out.l (some ⟨we.heap.size,0,none⟩) 1 1 (crA C).toList rfl (reads_blk9 PL.out) (cr_one C) (by simp only [maxLen];omega) (by omega) P0.out.f.size ?_
       intro v2 wp2 hown hgr hat
       replace NW:=hid_ (NW.out.grown P0.out.l (by decide) (by decide) hgr)
       replace P0:=hid_ (P0.out.putL hown hgr hat)
       refine ⟨.inr ⟨P0.out.bt,P0.out.bx⟩,?_⟩
       clear hown hgr hat
       refine wpAnyU_oneW (i:=6) rfl (by kernel_rfl) (by kernel_rfl) ?_
       go_simp
       obtain ⟨wb3,hz⟩:∃ z,z=wp2.alloc (.cells #[.int .i64 ((j:Int)+1),.int .i64 g] 23):=⟨_,rfl⟩
       have fz:Fr none_ wp2 wb3:=by rw [hz];exact (Fr.refl none_ wp2).alloc _
       have PR:Hid (Blk wb3 wp2.heap.size 23 #[.int .i64 ((j:Int)+1),.int .i64 g]):=hid_ (by rw [hz];exact Blk.new wp2 _ _)
       replace P0:=hid_ (P0.out.keep fz)
       replace NW:=hid_ (NW.out.keep fz)
       rw [← hz]
       refine ⟨⟨P0.out.bt,P0.out.bx⟩,?_⟩
       clear hz fz
       refine wpAnyU_oneW (i:=7) rfl (by kernel_rfl) (by kernel_rfl) ?_
       refine wp_append_at _ (.tmp 61) (.tmp 63) 27 rfl w.heap.size 23 j0 _ 2 16 Tryz.underlying27 Hj.out.1 Hj.out.2.1 Hj.out.2.2.1 Hj.out.2.2.2 rfl (by omega) _ _ _ rfl P0.out.r (some ⟨wp2.heap.size,0,none⟩) 1 1 [.int .i64 ((j:Int)+1),.int .i64 g] rfl (reads_blk9 PR.out) (by simp [Value.oneCell']) (by simp only [maxLen];omega) (by omega) P0.out.f.size ?_
       intro v4 wp4 hown hgr hat
       replace NW:=hid_ (NW.out.grown P0.out.r (by decide) (by decide) hgr)
       replace P0:=hid_ (P0.out.putR hown hgr hat)
       refine ⟨.inr ⟨P0.out.bt,P0.out.bx⟩,?_⟩
       clear hown hgr hat
       have hS2:(fun w':World=>Blk w' b 33 (crA C)∧Blk w' w1.heap.size 23 #[.int .i64 ((j:Int)+1),.int .i64 g]) wp4:=⟨P0.out.bt,P0.out.bx⟩
       obtain ⟨A',c',e1⟩:=P0.out.l.shape
       obtain ⟨B',d',e2⟩:=P0.out.r.shape
       subst e1
       subst e2
       refine wpAnyU_take2 (i:=8) (v:=_) rfl (by kernel_rfl) (by kernel_rfl) (by kernel_rfl) (by kernel_rfl) (fun _ _ _ h=>h) (.inl ⟨by kernel_rfl,fun w' hS=>by go_simp;rfl⟩) hS2 ?_
       refine wpAnyU_take2 (i:=9) (v:=_) rfl (by kernel_rfl) (by kernel_rfl) (by kernel_rfl) (by kernel_rfl) (fun _ _ _ h=>h) (.inl ⟨by kernel_rfl,fun w' hS=>by go_simp;rfl⟩) hS2 ?_
       refine wpAnyU_done (by kernel_rfl) ?_ _
       go_wp2_with fail
       go_meet
       exact ⟨A',c',B',d',rfl,rfl,P0.out,NW.out⟩
      ·skip
       go_simp
       obtain ⟨wb5,hz⟩:∃ z,z=wb1.alloc (.cells #[.int .i64 ((j:Int)+1),.int .i64 g] 23):=⟨_,rfl⟩
       have fz:Fr none_ wb1 wb5:=by rw [hz];exact (Fr.refl none_ wb1).alloc _
       have PR:Hid (Blk wb5 wb1.heap.size 23 #[.int .i64 ((j:Int)+1),.int .i64 g]):=hid_ (by rw [hz];exact Blk.new wb1 _ _)
       replace PL:=hid_ (PL.out.fr fz id)
       replace P0:=hid_ (P0.out.keep fz)
       replace NW:=hid_ (NW.out.keep fz)
       rw [← hz]
       refine ⟨⟨P0.out.bt,P0.out.bx⟩,?_⟩
       clear hz fz
       refine wpAnyU_oneW (i:=3) rfl (by kernel_rfl) (by kernel_rfl) ?_
       refine wp_append_at _ (.tmp 57) (.tmp 59) 24 rfl w.heap.size 33 i0 _ 15 192 Tryz.underlying24 Hi.out.1 Hi.out.2.1 Hi.out.2.2.1 Hi.out.2.2.2 rfl (by omega) _ _ _ rfl P0.out.l (some ⟨we.heap.size,0,none⟩) 1 1 (crA C).toList rfl (reads_blk9 PL.out) (cr_one C) (by simp only [maxLen];omega) (by omega) P0.out.f.size ?_
       intro v6 wp6 hown hgr hat
       replace PR:=hid_ (PR.out.grown hgr (Ne.symm (own_blk_ne P0.out.l PR.out (by decide))))
       replace NW:=hid_ (NW.out.grown P0.out.l (by decide) (by decide) hgr)
       replace P0:=hid_ (P0.out.putL hown hgr hat)
       refine ⟨.inr ⟨P0.out.bt,P0.out.bx⟩,?_⟩
       clear hown hgr hat
       refine wpAnyU_oneW (i:=7) rfl (by kernel_rfl) (by kernel_rfl) ?_
       refine wp_append_at _ (.tmp 61) (.tmp 63) 27 rfl w.heap.size 23 j0 _ 2 16 Tryz.underlying27 Hj.out.1 Hj.out.2.1 Hj.out.2.2.1 Hj.out.2.2.2 rfl (by omega) _ _ _ rfl P0.out.r (some ⟨wb1.heap.size,0,none⟩) 1 1 [.int .i64 ((j:Int)+1),.int .i64 g] rfl (reads_blk9 PR.out) (by simp [Value.oneCell']) (by simp only [maxLen];omega) (by omega) P0.out.f.size ?_
       intro v7 wp7 hown hgr hat
       replace NW:=hid_ (NW.out.grown P0.out.r (by decide) (by decide) hgr)
       replace P0:=hid_ (P0.out.putR hown hgr hat)
       refine ⟨.inr ⟨P0.out.bt,P0.out.bx⟩,?_⟩
       clear hown hgr hat
       have hS2:(fun w':World=>Blk w' b 33 (crA C)∧Blk w' w1.heap.size 23 #[.int .i64 ((j:Int)+1),.int .i64 g]) wp7:=⟨P0.out.bt,P0.out.bx⟩
       obtain ⟨A',c',e1⟩:=P0.out.l.shape
       obtain ⟨B',d',e2⟩:=P0.out.r.shape
       subst e1
       subst e2
       refine wpAnyU_take2 (i:=8) (v:=_) rfl (by kernel_rfl) (by kernel_rfl) (by kernel_rfl) (by kernel_rfl) (fun _ _ _ h=>h) (.inl ⟨by kernel_rfl,fun w' hS=>by go_simp;rfl⟩) hS2 ?_
       refine wpAnyU_take2 (i:=9) (v:=_) rfl (by kernel_rfl) (by kernel_rfl) (by kernel_rfl) (by kernel_rfl) (fun _ _ _ h=>h) (.inl ⟨by kernel_rfl,fun w' hS=>by go_simp;rfl⟩) hS2 ?_
       refine wpAnyU_done (by kernel_rfl) ?_ _
       go_wp2_with fail
       go_meet
       exact ⟨A',c',B',d',rfl,rfl,P0.out,NW.out⟩
     ·skip
      go_simp
      obtain ⟨wb8,hz⟩:∃ z,z=we.alloc (.cells #[.int .i64 ((j:Int)+1),.int .i64 g] 23):=⟨_,rfl⟩
      have fz:Fr none_ we wb8:=by rw [hz];exact (Fr.refl none_ we).alloc _
      have PR:Hid (Blk wb8 we.heap.size 23 #[.int .i64 ((j:Int)+1),.int .i64 g]):=hid_ (by rw [hz];exact Blk.new we _ _)
      replace P0:=hid_ (P0.out.keep fz)
      replace NW:=hid_ (NW.out.keep fz)
      rw [← hz]
      refine ⟨⟨P0.out.bt,P0.out.bx⟩,?_⟩
      clear hz fz
      refine wpAnyU_oneW (i:=2) rfl (by kernel_rfl) (by kernel_rfl) ?_
      go_simp
      obtain ⟨wb9,hz⟩:∃ z,z=wb8.alloc (.cells #[.int .i64 C.R.kind,.string C.R.low,.string C.R.high,.bool C.R.unb,.int .i64 C.R.right,.slice C.A C.R.rows.length C.c,.slice C.B C.R.ents.length C.d,.string C.R.key,.string C.R.val,.int .i64 C.R.page,.int .i64 C.R.hpage,.int .i64 C.R.hleft,.string C.R.hkey,.int .i64 C.R.nslot,.int .i64 C.R.ngen] 33):=⟨_,rfl⟩
      have fz:Fr none_ wb8 wb9:=by rw [hz];exact (Fr.refl none_ wb8).alloc _
      have PL:Hid (Blk wb9 wb8.heap.size 33 #[.int .i64 C.R.kind,.string C.R.low,.string C.R.high,.bool C.R.unb,.int .i64 C.R.right,.slice C.A C.R.rows.length C.c,.slice C.B C.R.ents.length C.d,.string C.R.key,.string C.R.val,.int .i64 C.R.page,.int .i64 C.R.hpage,.int .i64 C.R.hleft,.string C.R.hkey,.int .i64 C.R.nslot,.int .i64 C.R.ngen]):=hid_ (by rw [hz];exact Blk.new wb8 _ _)
      replace PR:=hid_ (PR.out.fr fz id)
      replace P0:=hid_ (P0.out.keep fz)
      replace NW:=hid_ (NW.out.keep fz)
      rw [← hz]
      refine ⟨⟨P0.out.bt,P0.out.bx⟩,?_⟩
      clear hz fz
      refine wpAnyU_oneW (i:=3) rfl (by kernel_rfl) (by kernel_rfl) ?_
      refine wp_append_at _ (.tmp 57) (.tmp 59) 24 rfl w.heap.size 33 i0 _ 15 192 Tryz.underlying24 Hi.out.1 Hi.out.2.1 Hi.out.2.2.1 Hi.out.2.2.2 rfl (by omega) _ _ _ rfl P0.out.l (some ⟨wb8.heap.size,0,none⟩) 1 1 (crA C).toList rfl (reads_blk9 PL.out) (cr_one C) (by simp only [maxLen];omega) (by omega) P0.out.f.size ?_
      intro v10 wp10 hown hgr hat
      replace PR:=hid_ (PR.out.grown hgr (Ne.symm (own_blk_ne P0.out.l PR.out (by decide))))
      replace NW:=hid_ (NW.out.grown P0.out.l (by decide) (by decide) hgr)
      replace P0:=hid_ (P0.out.putL hown hgr hat)
      refine ⟨.inr ⟨P0.out.bt,P0.out.bx⟩,?_⟩
      clear hown hgr hat
      refine wpAnyU_oneW (i:=7) rfl (by kernel_rfl) (by kernel_rfl) ?_
      refine wp_append_at _ (.tmp 61) (.tmp 63) 27 rfl w.heap.size 23 j0 _ 2 16 Tryz.underlying27 Hj.out.1 Hj.out.2.1 Hj.out.2.2.1 Hj.out.2.2.2 rfl (by omega) _ _ _ rfl P0.out.r (some ⟨we.heap.size,0,none⟩) 1 1 [.int .i64 ((j:Int)+1),.int .i64 g] rfl (reads_blk9 PR.out) (by simp [Value.oneCell']) (by simp only [maxLen];omega) (by omega) P0.out.f.size ?_
      intro v11 wp11 hown hgr hat
      replace NW:=hid_ (NW.out.grown P0.out.r (by decide) (by decide) hgr)
      replace P0:=hid_ (P0.out.putR hown hgr hat)
      refine ⟨.inr ⟨P0.out.bt,P0.out.bx⟩,?_⟩
      clear hown hgr hat
      have hS2:(fun w':World=>Blk w' b 33 (crA C)∧Blk w' w1.heap.size 23 #[.int .i64 ((j:Int)+1),.int .i64 g]) wp11:=⟨P0.out.bt,P0.out.bx⟩
      obtain ⟨A',c',e1⟩:=P0.out.l.shape
      obtain ⟨B',d',e2⟩:=P0.out.r.shape
      subst e1
      subst e2
      refine wpAnyU_take2 (i:=8) (v:=_) rfl (by kernel_rfl) (by kernel_rfl) (by kernel_rfl) (by kernel_rfl) (fun _ _ _ h=>h) (.inl ⟨by kernel_rfl,fun w' hS=>by go_simp;rfl⟩) hS2 ?_
      refine wpAnyU_take2 (i:=9) (v:=_) rfl (by kernel_rfl) (by kernel_rfl) (by kernel_rfl) (by kernel_rfl) (fun _ _ _ h=>h) (.inl ⟨by kernel_rfl,fun w' hS=>by go_simp;rfl⟩) hS2 ?_
      refine wpAnyU_done (by kernel_rfl) ?_ _
      go_wp2_with fail
      go_meet
      exact ⟨A',c',B',d',rfl,rfl,P0.out,NW.out⟩
    case rest =>
     obtain ⟨A',c',B',d',rfl,rfl,hP,hN⟩:=hcut
     have P1:=hid_ hP
     have N1:=hid_ hN
     have z13:wc.cell? ⟨b,13,none⟩=some (.int .i64 C.R.nslot):=hP.bt.cell' rfl
     have z14:wc.cell? ⟨b,14,none⟩=some (.int .i64 C.R.ngen):=hP.bt.cell' rfl
     have y0:=hP.bx.frozen 0
     have y1:=hP.bx.frozen 1
     have x0:wc.cell? ⟨w1.heap.size,0,none⟩=some (.int .i64 ((j:Int)+1)):=hP.bx.cell' rfl
     have x1:wc.cell? ⟨w1.heap.size,1,none⟩=some (.int .i64 g):=hP.bx.cell' rfl
     clear hP hN
     go_wp2_with fail
     obtain ⟨wS,hwS⟩:∃ z,z=(wc.setCell ⟨w1.heap.size,0,none⟩ (.int .i64 C.R.nslot)).setCell ⟨w1.heap.size,1,none⟩ (.int .i64 C.R.ngen):=⟨_,rfl⟩
     have hb2:=box2 P1.out.bx (.int .i64 C.R.nslot) (.int .i64 C.R.ngen)
     rw [← hwS] at hb2
     have B2:=hid_ hb2
     have hlen:(pre ++ [j]).length=pre.length+1:=by simp
     have hL:ChL w x.ss js w1.heap.size (pre ++ [j]) rest C.R.nslot C.R.ngen A' c' B' d' (Cs ++ [C]) wS:=by
      refine ⟨by rw [HR.out.eq];simp,by rw [HC.out];exact HY.out.2.2.2,?_,?_,?_,B2.out.1,?_,?_,P1.out.f.then_only B2.out.2 (.inr hsw1)⟩
      ·rw [hlen,crFlat_snoc]
       exact own_fr P1.out.l B2.out.2 (fun k hk e=>own_blk_ne P1.out.l P1.out.bx (by decide) (by rw [hk];exact congrArg some e))
      ·rw [hlen,List.map_append,List.map_cons,List.map_nil,rf9Flat_snoc]
       have e1:refOf x.ss j=((j:Int)+1,g):=by unfold refOf;rw [slotD HY.out.1,HY.out.2.2.1]
       rw [e1]
       exact own_fr P1.out.r B2.out.2 (fun k hk e=>P1.out.nr k hk e)
      ·rw [hlen]
       exact P1.out.nr
      ·rw [List.map_append,List.map_append,HR.out.cs]
       have e1:recOf x.ss j=C.R:=by unfold recOf;rw [slotD HY.out.1,HC.out]
       simp [e1]
      ·intro D hD
       rcases List.mem_append.1 hD with hD | hD
       ·exact (P1.out.own D hD).only B2.out.2 P1.out.bx (by decide) (by decide)
       ·obtain rfl:D=C:=by simpa using hD
        exact N1.out.only B2.out.2 P1.out.bx (by decide) (by decide)
     have HL:=hid_ hL
     clear hL hb2 z13 z14 y0 y1 x0 x1
     clear B2
     subst hwS
     go_roundw
     case rel=>exact ⟨pre ++ [j],rest,_,_,A',c',B',d',Cs ++ [C],by rw [hlen],by rw [hlen],HL.out⟩
     case measure=>simp [lenOf];simp at hjl;omega
open Go.RowKit

theorem fat_nil (p:ByteArray) (s:Int) (w:World):Calls Tryz.prog 90 #[.string p,.int .i64 s,.nilIface] w fun e w'=>e=.returned .nilIface∧w=w':=by
  go_enter Tryz.func90,Tryz.ntmps90
  go_wp2
  go_ret
  exact ⟨rfl,rfl⟩
abbrev sArena9:ByteArray:=⟨#[97,114,101,110,97]⟩
theorem fat_err (p:ByteArray) (s k:Int) (w:World):Calls Tryz.prog 90 #[.string p,.int .i64 s,errV k] w fun e w'=>e=.returned (.iface 239 (.pointer (some ⟨w.heap.size,0,none⟩)))∧Blk w' w.heap.size 241 #[.string p,.int .i64 s,errV k]∧Fr none_ w w':=by
  go_enter Tryz.func90,Tryz.ntmps90
  go_wp2
  go_ret
  exact ⟨rfl,Blk.new w _ _,(Fr.refl none_ w).alloc _⟩
abbrev sTable9:ByteArray:=⟨#[116,97,98,108,101]⟩
def pgC (ps:List Pg) (n:Int):Int:=if n < 0∨(ps.length:Int)≤n then 1 else if (ps[n.toNat]?.map (·.1)).getD false=true then 0 else 6
theorem head_bad {T H:Nat} {ps:List Pg} (n:Int) (w:World) (h:Tbl w T H ps) (hb:pgC ps n≠0):Calls Tryz.prog 89 #[.pointer (some ⟨T,0,none⟩),.int .i64 n] w fun e w'=>e=.returned (.tuple #[.agg #[.int .i64 0,.int .i64 0],errV (pgC ps n)])∧Fr none_ w w':=by
  by_cases h1:n < 0∨(ps.length:Int)≤n
  · have e:pgC ps n=1:=if_pos h1
    rw [e]
    exact head_err (some ⟨T,0,none⟩) n 1 w (fun w' hf=>mapAt_arg T H ps n w' (h.keep hf) h1)
  · obtain ⟨i,rfl⟩:∃ i:Nat,n=(i:Int):=⟨n.toNat,by omega⟩
    obtain ⟨⟨u,s,g⟩,hp⟩:∃ p,ps[i]?=some p:=⟨_,List.getElem?_eq_getElem (by omega)⟩
    cases u with
    | true =>
      have e:pgC ps (i:Int)=0:=by unfold pgC;rw [if_neg h1];simp [hp]
      exact absurd e hb
    | false =>
      have e:pgC ps (i:Int)=6:=by unfold pgC;rw [if_neg h1];simp [hp]
      rw [e]
      exact head_err (some ⟨T,0,none⟩) i 6 w (fun w' hf=>mapAt_none T H ps i s g w' (h.keep hf) hp)
def mall (m:Nat) (x:St):Nat→Prop:=fun i=>i=m∨i=x.G∨i=x.H∨i=x.C∨i=x.M
theorem mall_m {m:Nat} {x:St} {w w':World} (h:Fr (only m) w w'):Fr (mall m x) w w':=h.mono (fun _ _ e=>.inl e)
theorem mall_G {m:Nat} {x:St} {w w':World} (h:Fr (only x.G) w w'):Fr (mall m x) w w':=h.mono (fun _ _ e=>.inr (.inl e))
theorem mall_H {m:Nat} {x:St} {w w':World} (h:Fr (only x.H) w w'):Fr (mall m x) w w':=h.mono (fun _ _ e=>.inr (.inr (.inl e)))
theorem mall_tr {m:Nat} {x:St} {a b c:World} (h:Fr (mall m x) a b) (k:Fr (mall m x) b c):Fr (mall m x) a c:=h.trans k (fun _ _=>id) (fun _ _=>id)
theorem tick_mm (m:Nat) (k:Int) (l:Lm) (x:St) (w:World) (h:Mm w m k l x) (h0:0≤k) (h1:k≤100000):Calls Tryz.prog 88 #[.pointer (some ⟨m,0,none⟩)] w fun e w'=>e=.returned (.tuple #[])∧Mm w' m (k+1) l x∧Fr (mall m x) w w':=by
  have c0:w.cell? ⟨m,0,none⟩=some (.int .i64 k):=h.b.cell' rfl
  have y0:=h.b.frozen 0
  have H:=hid_ h
  clear h
  go_enter Tryz.func88,Tryz.ntmps88
  go_wp2
  exact bodyPost_end (v:=.tuple #[]) (by simp [results,Tryz.results88,go_sem]) rfl ⟨rfl,H.out.count _,mall_m (Fr.only1 w ⟨m,0,none⟩ _)⟩
theorem tick_mo (m:Nat) (k:Int) (l:Lm) (x:St) (w:World) (h:Mm w m k l x) (h0:0≤k) (h1:k≤100000):Calls Tryz.prog 88 #[.pointer (some ⟨m,0,none⟩)] w fun e w'=>e=.returned (.tuple #[])∧Mm w' m (k+1) l x∧Fr (only m) w w':=by
  have c0:w.cell? ⟨m,0,none⟩=some (.int .i64 k):=h.b.cell' rfl
  have y0:=h.b.frozen 0
  have H:=hid_ h
  clear h
  go_enter Tryz.func88,Tryz.ntmps88
  go_wp2
  exact bodyPost_end (v:=.tuple #[]) (by simp [results,Tryz.results88,go_sem]) rfl ⟨rfl,H.out.count _,Fr.only1 w ⟨m,0,none⟩ _⟩
theorem Mm.ref {w w':World} {m:Nat} {k:Int} {l:Lm} {x:St} {b:Nat} {cs:Array Value} (h:Mm w m k l x) (hb:Blk w b 23 cs) (hf:Fr (only b) w w'):Mm w' m k l x:=by
  obtain ⟨cs',hG,_⟩:=h.ar.hG
  obtain ⟨cap,cur,hT0,hH,_⟩:=id h.tb
  exact ⟨h.b.fr hf (only_ne (Blk.ne_ h.b hb (by decide))),h.ar.beside hf hb (by decide) (by decide) (Blk.ne_ h.ar.hA hb (by decide)) (Blk.ne_ hG hb (by decide)),h.tb.fr hf (only_ne (Blk.ne_ hT0 hb (by decide))) (only_ne (Blk.ne_ hH hb (by decide))),h.ck.fr hf (only_ne (Blk.ne_ h.ck.hC hb (by decide))) (only_ne (h.ck.mne hb))⟩
def swapPs (ps:List Pg) (i:Nat) (s g a b c d:Int):List Pg:=if s=a∧g=b then ps.set i (true,c,d) else ps
theorem Mm.nref {w:World} {m:Nat} {k:Int} {l:Lm} {x:St} {b:Nat} {cs:Array Value} (h:Mm w m k l x) (hb:Blk w b 23 cs):¬ mall m x b:=by
  obtain ⟨cs,hG,_⟩:=h.ar.hG
  obtain ⟨cap,cur,hT0,hH,_⟩:=id h.tb
  rintro (e | e | e | e | e)
  · exact Blk.ne_ hb h.b (by decide) e
  · exact Blk.ne_ hb hG (by decide) e
  · exact Blk.ne_ hb hH (by decide) e
  · exact Blk.ne_ hb h.ck.hC (by decide) e
  · exact h.ck.mne hb e.symm
theorem Mm.rec9 {w w':World} {m:Nat} {k:Int} {l:Lm} {x:St} {b:Nat} {cs:Array Value} (h:Mm w m k l x) (hb:Blk w b 33 cs) (hf:Fr (only b) w w'):Mm w' m k l x:=by
  obtain ⟨cs',hG,_⟩:=h.ar.hG
  obtain ⟨cap,cur,hT0,hH,_⟩:=id h.tb
  exact ⟨h.b.fr hf (only_ne (Blk.ne_ h.b hb (by decide))),h.ar.beside hf hb (by decide) (by decide) (Blk.ne_ h.ar.hA hb (by decide)) (Blk.ne_ hG hb (by decide)),h.tb.fr hf (only_ne (Blk.ne_ hT0 hb (by decide))) (only_ne (Blk.ne_ hH hb (by decide))),h.ck.fr hf (only_ne (Blk.ne_ h.ck.hC hb (by decide))) (only_ne (h.ck.mne hb))⟩
theorem at_live {ss:List Sl} {s g:Int} (h:atC ss s g=0):∃ (j:Nat) (y:Sl),s=(j:Int)+1∧ss[j]?=some y∧y.used=true∧y.gen=g:=by
  rcases atC_cases ss s g with ⟨h1,_⟩ | ⟨i,y,h1,h2,h3⟩
  · rw [h1] at h;cases h
  · rcases h3 with ⟨h3,_⟩ | ⟨_,h4,h5⟩
    · rw [h3] at h;cases h
    · exact ⟨i,y,h1,h2,h4,h5⟩
def Ev (w:World) (v:Value) (p:ByteArray) (s c:Int):Prop:=
  (c=0∧v=.nilIface)∨(c≠0∧∃ b,v=.iface 239 (.pointer (some ⟨b,0,none⟩))∧Blk w b 241 #[.string p,.int .i64 s,errV c])
theorem Ev.fr {w w':World} {v:Value} {p:ByteArray} {s c:Int} {S:Nat→Prop} (h:Ev w v p s c) (hf:Fr S w w') (hS:∀ b cs,Blk w b 241 cs→¬ S b):Ev w' v p s c:=by
  rcases h with h | ⟨h,b,hv,hb⟩
  · exact .inl h
  · exact .inr ⟨h,b,hv,hb.fr hf (hS b _ hb)⟩
theorem Ev.keep {w w':World} {v:Value} {p:ByteArray} {s c:Int} (h:Ev w v p s c) (hf:Fr none_ w w'):Ev w' v p s c:=h.fr hf (fun _ _ _=>id)
theorem Ev.only {w w':World} {v:Value} {p:ByteArray} {s c:Int} {g:Nat} {t:TypeId} {cs:Array Value} (h:Ev w v p s c) (hf:Fr (only g) w w') (hg:Blk w g t cs) (hne:241≠t):Ev w' v p s c:=
  h.fr hf (fun b _ hb=>only_ne (Blk.ne_ hb hg hne))
theorem fat_ev (p:ByteArray) (s k:Int) (w:World):Calls Tryz.prog 90 #[.string p,.int .i64 s,errOf k] w fun e w'=>∃ v,e=.returned v∧Ev w' v p s k∧Fr none_ w w':=by
  by_cases h:k=0
  · subst h
    exact (fat_nil p s w).mono fun e w' h=>⟨_,h.1,.inl ⟨rfl,rfl⟩,by rw [← h.2];exact Fr.refl _ _⟩
  · rw [errOf_pos h]
    exact (fat_err p s k w).mono fun e w' hh=>⟨_,hh.1,.inr ⟨h,_,rfl,hh.2.1⟩,hh.2.2⟩
open Go.RowKit

theorem mapAt_bad {T H:Nat} {ps:List Pg} (n:Int) (w:World) (h:Tbl w T H ps) (hb:pgC ps n≠0):Calls Tryz.prog 87 #[.pointer (some ⟨T,0,none⟩),.int .i64 n] w fun e w'=>e=.returned (.tuple #[.pointer none,errV (pgC ps n)])∧w=w':=by
  by_cases h1:n < 0∨(ps.length:Int)≤n
  · have e:pgC ps n=1:=if_pos h1
    rw [e]
    exact mapAt_arg T H ps n w h h1
  · obtain ⟨i,rfl⟩:∃ i:Nat,n=(i:Int):=⟨n.toNat,by omega⟩
    obtain ⟨⟨u,s,g⟩,hp⟩:∃ p,ps[i]?=some p:=⟨_,List.getElem?_eq_getElem (by omega)⟩
    cases u with
    | true =>
      have e:pgC ps (i:Int)=0:=by unfold pgC;rw [if_neg h1];simp [hp]
      exact absurd e hb
    | false =>
      have e:pgC ps (i:Int)=6:=by unfold pgC;rw [if_neg h1];simp [hp]
      rw [e]
      exact mapAt_none T H ps i s g w h hp
theorem pgC_zero {ps:List Pg} {n:Int} (h:pgC ps n=0):∃ (i:Nat) (s g:Int),n=(i:Int)∧ps[i]?=some (true,s,g):=by
  unfold pgC at h
  split at h
  · cases h
  · rename_i h1
    split at h
    · rename_i h2
      obtain ⟨⟨u,s,g⟩,hp⟩:∃ p,ps[n.toNat]?=some p:=⟨_,List.getElem?_eq_getElem (by omega)⟩
      rw [hp] at h2
      obtain rfl:u=true:=by simpa using h2
      exact ⟨n.toNat,s,g,by omega,hp⟩
    · cases h
theorem pgC_used {ps:List Pg} {i:Nat} {s g:Int} (h:ps[i]?=some (true,s,g)):pgC ps (i:Int)=0:=by
  have hlt:=(List.getElem?_eq_some_iff.1 h).1
  unfold pgC
  rw [if_neg (by omega)]
  simp [h]
def HeadR (ps:List Pg) (n s g c:Int):Prop:=(∃ i:Nat,n=(i:Int)∧ps[i]?=some (true,s,g)∧c=0)∨(pgC ps n≠0∧s=0∧g=0∧c=pgC ps n)
theorem head_any {T H:Nat} {ps:List Pg} (n:Int) (w:World) (h:Tbl w T H ps):Calls Tryz.prog 89 #[.pointer (some ⟨T,0,none⟩),.int .i64 n] w fun e w'=>∃ s g c,e=.returned (.tuple #[.agg #[.int .i64 s,.int .i64 g],errOf c])∧HeadR ps n s g c∧Fr none_ w w':=by
  by_cases hb:pgC ps n=0
  · obtain ⟨i,s,g,rfl,hp⟩:=pgC_zero hb
    exact (head_ok T H ps i s g w h hp).mono fun e w' hh=>⟨s,g,0,hh.1,.inl ⟨i,rfl,hp,rfl⟩,hh.2⟩
  · exact (head_bad n w h hb).mono fun e w' hh=>⟨0,0,pgC ps n,by rw [errOf_pos hb];exact hh.1,.inr ⟨hb,rfl,rfl,rfl⟩,hh.2⟩
def SwapR (ps:List Pg) (n a b c d:Int) (ok:Bool) (k:Int) (ps':List Pg):Prop:=
  (∃ (i:Nat) (s g:Int),n=(i:Int)∧ps[i]?=some (true,s,g)∧ok=(s==a && g==b)∧k=0∧ps'=swapPs ps i s g a b c d)∨(pgC ps n≠0∧ok=false∧k=pgC ps n∧ps'=ps)
theorem swap_any {T H:Nat} {ps:List Pg} (n a b c d:Int) (w:World) (h:Tbl w T H ps):Calls Tryz.prog 50 #[.pointer (some ⟨T,0,none⟩),.int .i64 n,.agg #[.int .i64 a,.int .i64 b],.agg #[.int .i64 c,.int .i64 d]] w fun e w'=>∃ ok k ps',e=.returned (.tuple #[.bool ok,errOf k])∧SwapR ps n a b c d ok k ps'∧Tbl w' T H ps'∧Fr (only H) w w':=by
  by_cases hb:pgC ps n=0
  · obtain ⟨i,s,g,rfl,hp⟩:=pgC_zero hb
    exact (swap_ok T H ps i s g a b c d w h hp).mono fun e w' hh=>⟨_,0,_,hh.1,.inl ⟨i,s,g,rfl,hp,rfl,rfl,rfl⟩,hh.2.1,hh.2.2⟩
  · exact (swap_err (some ⟨T,0,none⟩) n (pgC ps n) a b c d w (fun w1 hf=>mapAt_bad n w1 (h.keep hf) hb)).mono fun e w' hh=>⟨false,pgC ps n,ps,by rw [errOf_pos hb];exact hh.1,.inr ⟨hb,rfl,rfl,rfl⟩,h.keep hh.2,hh.2.mono (fun _ _ e=>e.elim)⟩
def AllocR (last:Int) (ss:List Sl) (R:Rc) (sl gn c:Int) (ss':List Sl):Prop:=
  (∃ (i:Nat) (s:Sl) (vr ve:Value),ss[i]?=some s∧(s.used=false∧s.gen≠last)∧(∀ (j:Nat) (t:Sl),j < i→ss[j]?=some t→t.used=true∨t.gen=last)∧sl=(i:Int)+1∧gn=s.gen+1∧c=0∧ss'=ss.set i ⟨s.gen+1,true,R,vr,ve⟩) ∨
  ((∀ (j:Nat) (t:Sl),ss[j]?=some t→t.used=true∨t.gen=last)∧sl=0∧gn=0∧c=allocErr ss∧ss'=ss)
theorem allocErr_pos (ss:List Sl):allocErr ss≠0:=by unfold allocErr;split <;> decide
theorem alloc_any (R:Rc) (A:Option Addr) (c:Nat) (B:Option Addr) (d:Nat) {w:World} {a G:Nat} {last:Int} {ss:List Sl} (h:Ar w a G last ss) (hr:RecReads w R A B) (hz:R.rows.length≤1000∧R.ents.length≤1000) :
    Calls Tryz.prog 48 #[.pointer (some ⟨a,0,none⟩),recV R (.slice A R.rows.length c) (.slice B R.ents.length d)] w fun e w'=>∃ sl gn k ss',e=.returned (.tuple #[.agg #[.int .i64 sl,.int .i64 gn],errOf k])∧AllocR last ss R sl gn k ss'∧Ar w' a G last ss'∧Fr (only G) w w':=by
  refine (alloc_ok R A c B d w a G last ss h hr hz).mono ?_
  rintro e w' (⟨i,s,vr,ve,h1,h2,h3,rfl,hA,-,hf⟩ | ⟨h1,rfl,hf⟩)
  · exact ⟨_,_,0,_,rfl,.inl ⟨i,s,vr,ve,h1,h2,h3,rfl,rfl,rfl,rfl⟩,hA,hf⟩
  · exact ⟨0,0,allocErr ss,ss,by rw [errOf_pos (allocErr_pos ss)],.inr ⟨h1,rfl,rfl,rfl,rfl⟩,h.keep hf,hf.mono (fun _ _ e=>e.elim)⟩
def LoadR (ss:List Sl) (sl gn:Int) (R:Rc) (c:Int):Prop:=
  (∃ (i:Nat) (s:Sl),sl=(i:Int)+1∧ss[i]?=some s∧s.used=true∧s.gen=gn∧c=0∧R=s.R)∨(atC ss sl gn≠0∧c=atC ss sl gn∧R=Rc.zero)
theorem load_any (sl gn:Int) {w:World} {a G:Nat} {last:Int} {ss:List Sl} (h:Ar w a G last ss):Calls Tryz.prog 100 #[.pointer (some ⟨a,0,none⟩),.agg #[.int .i64 sl,.int .i64 gn]] w fun e w'=>∃ R A c B d k,e=.returned (.tuple #[recV R (.slice A R.rows.length c) (.slice B R.ents.length d),errOf k])∧LoadR ss sl gn R k∧RecOwn w' w.heap.size R (.slice A R.rows.length c) (.slice B R.ents.length d)∧Fr none_ w w':=by
  by_cases hb:atC ss sl gn=0
  · obtain ⟨i,s,h1,h2,h3,h4⟩:=at_live hb
    refine (load_ok sl gn h h2 h1 h3 h4).mono ?_
    rintro e w' ⟨A,c,B,d,rfl,hO,hf⟩
    exact ⟨s.R,A,c,B,d,0,rfl,.inl ⟨i,s,h1,h2,h3,h4,rfl,rfl⟩,hO,hf⟩
  · refine (load_bad sl gn h hb).mono ?_
    rintro e w' ⟨rfl,hf⟩
    exact ⟨Rc.zero,none,0,none,0,atC ss sl gn,by rw [errOf_pos hb];rfl,.inr ⟨hb,rfl,rfl⟩,RecOwn.zero _ _,hf⟩
section
variable (m:Nat) (k:Int) (l:Lm) (x:St) (w:World)
theorem memHead_any (h:Mm w m k l x) (h0:0≤k) (h1:k≤100000) (n:Int):Calls Tryz.prog 51 #[.pointer (some ⟨m,0,none⟩),.int .i64 n] w fun e w'=>∃ s g c v,e=.returned (.tuple #[.agg #[.int .i64 s,.int .i64 g],v])∧HeadR x.ps n s g c∧Ev w' v sTable9 n c∧Mm w' m (k+1) l x∧Fr (mall m x) w w':=by
 have H:=hid_ (h.keep ((Fr.refl none_ w).alloc (.cells #[.int .i64 0,.int .i64 0] 23)))
 have hltm:=h.b.lt
 have B0:=hid_ (Blk.new w 23 #[.int .i64 0,.int .i64 0])
 have F0:=hid_ ((Fr.refl none_ w).alloc (.cells #[.int .i64 0,.int .i64 0] 23))
 clear h
 go_enter Tryz.func51,Tryz.ntmps51
 go_wp2_with fail
 refine (tick_mm m k l x _ H.out h0 h1).mono ?_
 rintro e w1 ⟨rfl,hM1,hf1⟩
 have M1:=hid_ hM1
 have nB:¬ mall m x w.heap.size:=H.out.nref B0.out
 have B4:=hid_ (B0.out.fr hf1 nB)
 have F1:=hid_ ((F0.out.mono (fun _ _ e=>e.elim)).trans (S':=mall m x) (S'':=mall m x) hf1 (fun _ _=>id) (fun _ _=>id):Fr (mall m x) w w1)
 clear hM1 hf1 nB
 have c8:w1.cell? ⟨m,8,none⟩=some (.pointer (some ⟨x.T,0,none⟩)):=M1.out.b.cell' rfl
 go_wp2_with fail
 refine (head_any n _ M1.out.tb).mono ?_
 rintro e w2 ⟨s,g,c,rfl,hR,hf2⟩
 have R2:=hid_ hR
 clear hR
 replace M1:=hid_ (M1.out.keep hf2)
 replace F1:=hid_ (F1.out.then_none hf2)
 replace B4:=hid_ (B4.out.fr hf2 id)
 clear hf2 c8
 go_upto_region 5 with fail
 obtain ⟨w3,hw3⟩:∃ z,z=w2.alloc (.cells #[.int .i64 s,.int .i64 g] 23):=⟨_,rfl⟩
 have fw3:Fr none_ w2 w3:=by rw [hw3];exact (Fr.refl none_ w2).alloc _
 have B6:Hid (Blk w3 w2.heap.size 23 (#[.int .i64 s,.int .i64 g])):=hid_ (by rw [hw3];exact Blk.new w2 _ _)
 replace M1:=hid_ (M1.out.keep fw3)
 replace F1:=hid_ (F1.out.then_none fw3)
 replace B4:=hid_ (B4.out.fr fw3 id)
 change Code.wp _ _ _ _ (w2.alloc (.cells #[.int .i64 s,.int .i64 g] 23))
 rw [← hw3]
 clear hw3 fw3
 have x0:w3.cell? ⟨w2.heap.size,0,none⟩=some (.int .i64 s):=B6.out.cell' rfl
 have x1:w3.cell? ⟨w2.heap.size,1,none⟩=some (.int .i64 g):=B6.out.cell' rfl
 have hS1:(fun w':World=>Fr none_ w3 w') w3.drew:=(Fr.refl none_ w3).drew
 refine wp_region_U (m:=4) (S:=fun w':World=>Fr none_ w3 w') (by kernel_rfl) ?_
 refine wpAnyU_take2 (i:=0) (v:=_) rfl (by kernel_rfl) (by kernel_rfl) (by kernel_rfl) (by kernel_rfl) (fun _ _ _ h=>h) (.inl ⟨by kernel_rfl,fun w' hS=>by have s_0:=cellFr x0 hS;have s_1:=cellFr x1 hS;go_simp;rfl⟩) hS1 ?_
 refine wpAnyU_take2 (i:=1) (v:=_) rfl (by kernel_rfl) (by kernel_rfl) (by kernel_rfl) (by kernel_rfl) (fun _ _ _ h=>h) (.inl ⟨by kernel_rfl,fun w' hS=>by go_simp;rfl⟩) hS1 ?_
 refine wpAnyU_take2 (i:=2) (v:=_) rfl (by kernel_rfl) (by kernel_rfl) (by kernel_rfl) (by kernel_rfl) (fun _ _ _ h=>h) (.inl ⟨by kernel_rfl,fun w' hS=>by go_simp;rfl⟩) hS1 ?_
 refine wpAnyU_oneW (i:=3) rfl (by kernel_rfl) (by kernel_rfl) ?_
 go_simp
 refine (fat_ev sTable9 n c _).mono ?_
 rintro e w4 ⟨v,rfl,hev,hf4⟩
 have fS4:=hS1.then_none hf4
 refine ⟨fS4,?_⟩
 have E4:=hid_ hev
 replace M1:=hid_ (M1.out.keep fS4)
 replace F1:=hid_ (F1.out.then_none fS4)
 replace B4:=hid_ (B4.out.fr fS4 id)
 replace B6:=hid_ (B6.out.fr fS4 id)
 have y0:=B4.out.frozen 0
 have y1:=B4.out.frozen 1
 have z0:w4.cell? ⟨w.heap.size,0,none⟩=some (.int .i64 0):=B4.out.cell' rfl
 have z1:w4.cell? ⟨w.heap.size,1,none⟩=some (.int .i64 0):=B4.out.cell' rfl
 clear hS1 x0 x1 hev hf4 fS4
 refine wpAnyU_oneW (i:=4) rfl (by kernel_rfl) (by kernel_rfl) ?_
 go_simp
 clear y0 y1 z0 z1
 obtain ⟨qb,qf⟩:=box2 B4.out (.int .i64 s) (.int .i64 g)
 obtain ⟨w5,hw5⟩:∃ z,z=((w4.setCell ⟨w.heap.size,0,none⟩ (.int .i64 s)).setCell ⟨w.heap.size,1,none⟩ (.int .i64 g)):=⟨_,rfl⟩
 have qb2:Blk w5 w.heap.size 23 #[.int .i64 s,.int .i64 g]:=by rw [hw5];exact qb
 have qf2:Fr (only w.heap.size) w4 w5:=by rw [hw5];exact qf
 rw [← hw5]
 clear hw5 qb qf
 have q0:=qb2.cell' (i:=0) rfl
 have q1:=qb2.cell' (i:=1) rfl
 refine wpAnyU_oneW (i:=5) rfl (by kernel_rfl) (by kernel_rfl) ?_
 go_simp
 refine wpAnyU_done (by kernel_rfl) ?_ _
 go_wp2_with fail
 refine bodyPost_ret (v:=.tuple #[.agg #[.int .i64 s,.int .i64 g],v]) ?_ rfl ⟨s,g,c,v,rfl,R2.out,E4.out.only qf2 B4.out (by decide),M1.out.ref B4.out qf2,F1.out.then_only qf2 (.inr (Nat.le_refl _))⟩
 simp [results,Tryz.results51,go_sem,q0,q1]
set_option maxHeartbeats 2000000 in
theorem memSwap_any (h:Mm w m k l x) (h0:0≤k) (h1:k≤100000) (n a b c d:Int):Calls Tryz.prog 53 #[.pointer (some ⟨m,0,none⟩),.int .i64 n,.agg #[.int .i64 a,.int .i64 b],.agg #[.int .i64 c,.int .i64 d]] w fun e w'=>∃ ok kk ps' v,e=.returned (.tuple #[.bool ok,v])∧SwapR x.ps n a b c d ok kk ps'∧Ev w' v sTable9 n kk∧Mm w' m (k+1) l { x with ps:=ps' }∧Fr (mall m x) w w':=by
 obtain ⟨w0,hw0⟩:∃ z,z=(w.alloc (.cells #[.int .i64 a,.int .i64 b] 23)).alloc (.cells #[.int .i64 c,.int .i64 d] 23):=⟨_,rfl⟩
 have f0:Fr none_ w w0:=by rw [hw0];exact ((Fr.refl none_ w).alloc _).alloc _
 have B0:=hid_ (show Blk w0 w.heap.size 23 #[.int .i64 a,.int .i64 b] by rw [hw0];exact (Blk.new w _ _).alloc _)
 have B1:=hid_ (show Blk w0 (w.heap.size+1) 23 #[.int .i64 c,.int .i64 d] by rw [hw0];have:=Blk.new (w.alloc (.cells #[.int .i64 a,.int .i64 b] 23)) 23 #[.int .i64 c,.int .i64 d];rwa [World.size_alloc] at this)
 have H:=hid_ (h.keep f0)
 have F0:=hid_ f0
 clear h f0
 go_enter Tryz.func53,Tryz.ntmps53
 go_upto_region 1 with fail
 change Code.wp _ _ _ _ ((w.alloc (.cells #[.int .i64 a,.int .i64 b] 23)).alloc (.cells #[.int .i64 c,.int .i64 d] 23))
 rw [← hw0]
 clear hw0
 go_wp2_with fail
 refine (tick_mm m k l x _ H.out h0 h1).mono ?_
 rintro e w1 ⟨rfl,hM1,hf1⟩
 have M1:=hid_ hM1
 have B4:=hid_ (B0.out.fr hf1 (H.out.nref B0.out))
 have B5:=hid_ (B1.out.fr hf1 (H.out.nref B1.out))
 have F1:=hid_ ((F0.out.mono (fun _ _ e=>e.elim)).trans (S':=mall m x) (S'':=mall m x) hf1 (fun _ _=>id) (fun _ _=>id):Fr (mall m x) w w1)
 clear hM1 hf1
 have c8:w1.cell? ⟨m,8,none⟩=some (.pointer (some ⟨x.T,0,none⟩)):=M1.out.b.cell' rfl
 have x0:w1.cell? ⟨w.heap.size,0,none⟩=some (.int .i64 a):=B4.out.cell' rfl
 have x1:w1.cell? ⟨w.heap.size,1,none⟩=some (.int .i64 b):=B4.out.cell' rfl
 have y0:w1.cell? ⟨w.heap.size+1,0,none⟩=some (.int .i64 c):=B5.out.cell' rfl
 have y1:w1.cell? ⟨w.heap.size+1,1,none⟩=some (.int .i64 d):=B5.out.cell' rfl
 have nH:¬ only x.H m∧¬ only x.H w.heap.size∧¬ only x.H (w.heap.size+1):=by
  obtain ⟨cap,cur,hT0,hH,_⟩:=id M1.out.tb
  exact ⟨only_ne (Blk.ne_ M1.out.b hH (by decide)),only_ne (Blk.ne_ B4.out hH (by decide)),only_ne (Blk.ne_ B5.out hH (by decide))⟩
 go_upto_region 4 with fail
 have hS1:(fun w':World=>Fr (only x.H) w1 w') w1.drew:=(Fr.refl _ w1).drew
 refine wp_region_U (m:=13) (S:=fun w':World=>Fr (only x.H) w1 w') (by kernel_rfl) ?_
 refine wpAnyU_take2 (i:=0) (v:=_) rfl (by kernel_rfl) (by kernel_rfl) (by kernel_rfl) (by kernel_rfl) (fun _ _ _ h=>h) (.inl ⟨by kernel_rfl,fun w' hS=>by go_simp;rfl⟩) hS1 ?_
 refine wpAnyU_take2 (i:=1) (v:=_) rfl (by kernel_rfl) (by kernel_rfl) (by kernel_rfl) (by kernel_rfl) (fun _ _ _ h=>h) (.inl ⟨by kernel_rfl,fun w' hS=>by go_simp;rfl⟩) hS1 ?_
 refine wpAnyU_take2 (i:=2) (v:=_) rfl (by kernel_rfl) (by kernel_rfl) (by kernel_rfl) (by kernel_rfl) (fun _ _ _ h=>h) (.inl ⟨by kernel_rfl,fun w' hS=>by go_simp;rfl⟩) hS1 ?_
 refine wpAnyU_take2 (i:=3) (v:=_) rfl (by kernel_rfl) (by kernel_rfl) (by kernel_rfl) (by kernel_rfl) (fun _ _ _ h=>h) (.inl ⟨by kernel_rfl,fun w' hS=>by have s_:=cellFrS c8 hS nH.1;go_simp;rfl⟩) hS1 ?_
 refine wpAnyU_take2 (i:=4) (v:=_) rfl (by kernel_rfl) (by kernel_rfl) (by kernel_rfl) (by kernel_rfl) (fun _ _ _ h=>h) (.inl ⟨by kernel_rfl,fun w' hS=>by go_simp;rfl⟩) hS1 ?_
 refine wpAnyU_take2 (i:=5) (v:=_) rfl (by kernel_rfl) (by kernel_rfl) (by kernel_rfl) (by kernel_rfl) (fun _ _ _ h=>h) (.inl ⟨by kernel_rfl,fun w' hS=>by have s_0:=cellFrS x0 hS nH.2.1;have s_1:=cellFrS x1 hS nH.2.1;go_simp;rfl⟩) hS1 ?_
 refine wpAnyU_take2 (i:=6) (v:=_) rfl (by kernel_rfl) (by kernel_rfl) (by kernel_rfl) (by kernel_rfl) (fun _ _ _ h=>h) (.inl ⟨by kernel_rfl,fun w' hS=>by have s_0:=cellFrS y0 hS nH.2.2;have s_1:=cellFrS y1 hS nH.2.2;go_simp;rfl⟩) hS1 ?_
 clear c8 x0 x1 y0 y1
 refine wpAnyU_oneW (i:=7) rfl (by kernel_rfl) (by kernel_rfl) ?_
 go_simp
 refine (swap_any n a b c d _ (M1.out.tb.keep (Fr.refl none_ w1).drew)).mono ?_
 rintro e w2 ⟨ok,kk,ps',rfl,hR,hT2,hf2⟩
 have R2:=hid_ hR
 have M2:=hid_ ((M1.out.keep (Fr.refl none_ w1).drew).tbPut hT2 hf2)
 have fS:Fr (only x.H) w1 w2:=(Fr.refl (only x.H) w1).drew.then_only hf2 (.inl (Eq.refl _))
 have F2:=hid_ (mall_tr F1.out (mall_H fS))
 refine ⟨fS,?_⟩
 clear hT2 hf2 hS1 hR
 refine wpAnyU_take2 (i:=8) (v:=_) rfl (by kernel_rfl) (by kernel_rfl) (by kernel_rfl) (by kernel_rfl) (fun _ _ _ h=>h) (.inl ⟨by kernel_rfl,fun w' hS=>by go_simp;rfl⟩) fS ?_
 refine wpAnyU_take2 (i:=9) (v:=_) rfl (by kernel_rfl) (by kernel_rfl) (by kernel_rfl) (by kernel_rfl) (fun _ _ _ h=>h) (.inl ⟨by kernel_rfl,fun w' hS=>by go_simp;rfl⟩) fS ?_
 refine wpAnyU_take2 (i:=10) (v:=_) rfl (by kernel_rfl) (by kernel_rfl) (by kernel_rfl) (by kernel_rfl) (fun _ _ _ h=>h) (.inl ⟨by kernel_rfl,fun w' hS=>by go_simp;rfl⟩) fS ?_
 refine wpAnyU_take2 (i:=11) (v:=_) rfl (by kernel_rfl) (by kernel_rfl) (by kernel_rfl) (by kernel_rfl) (fun _ _ _ h=>h) (.inl ⟨by kernel_rfl,fun w' hS=>by go_simp;rfl⟩) fS ?_
 refine wpAnyU_take2 (i:=12) (v:=_) rfl (by kernel_rfl) (by kernel_rfl) (by kernel_rfl) (by kernel_rfl) (fun _ _ _ h=>h) (.inl ⟨by kernel_rfl,fun w' hS=>by go_simp;rfl⟩) fS ?_
 refine wpAnyU_done (by kernel_rfl) ?_ _
 go_wp2_with fail
 refine (fat_ev sTable9 n kk _).mono ?_
 rintro e w3 ⟨v,rfl,hev,hf3⟩
 have E3:=hid_ hev
 have F3:=hid_ hf3
 clear hev hf3
 go_wp2_with fail
 go_ret2
 exact ⟨ok,kk,ps',v,rfl,R2.out,E3.out,M2.out.keep F3.out,F2.out.then_none F3.out⟩
set_option maxHeartbeats 4000000 in
theorem memAlloc_any (h:Mm w m k l x) (h0:0≤k) (h1:k≤100000) (R:Rc) (A:Option Addr) (c:Nat) (B:Option Addr) (d:Nat) (hr:∀ w',Fr (only m) w w'→RecReads w' R A B) (hz:R.rows.length≤1000∧R.ents.length≤1000) :
  Calls Tryz.prog 52 #[.pointer (some ⟨m,0,none⟩),recV R (.slice A R.rows.length c) (.slice B R.ents.length d)] w fun e w'=>∃ sl gn kk ss' v,e=.returned (.tuple #[.agg #[.int .i64 sl,.int .i64 gn],v])∧AllocR l.n x.ss R sl gn kk ss'∧Ev w' v sArena9 0 kk∧Mm w' m (k+1) l { x with ss:=ss' }∧Fr (mall m x) w w':=by
 obtain ⟨w0,hw0⟩:∃ z,z=(w.alloc (recB R (.slice A R.rows.length c) (.slice B R.ents.length d))).alloc (.cells #[.int .i64 0,.int .i64 0] 23):=⟨_,rfl⟩
 have f0:Fr none_ w w0:=by rw [hw0];exact ((Fr.refl none_ w).alloc _).alloc _
 have B0:=hid_ (show Blk w0 w.heap.size 33 (recA R (.slice A R.rows.length c) (.slice B R.ents.length d)) by rw [hw0];exact (Blk.new w _ _).alloc _)
 have B1:=hid_ (show Blk w0 (w.heap.size+1) 23 #[.int .i64 0,.int .i64 0] by rw [hw0];have:=Blk.new (w.alloc (recB R (.slice A R.rows.length c) (.slice B R.ents.length d))) 23 #[.int .i64 0,.int .i64 0];rwa [World.size_alloc] at this)
 have H:=hid_ (h.keep f0)
 have F0:=hid_ f0
 have HR:=hid_ hr
 clear h f0 hr
 go_enter Tryz.func52,Tryz.ntmps52
 go_upto_region 1 with fail
 change Code.wp _ _ _ _ ((w.alloc (recB R (.slice A R.rows.length c) (.slice B R.ents.length d))).alloc (.cells #[.int .i64 0,.int .i64 0] 23))
 rw [← hw0]
 clear hw0
 go_wp2_with fail
 refine (tick_mo m k l x _ H.out h0 h1).mono ?_
 rintro e w1 ⟨rfl,hM1,hf1⟩
 have M1:=hid_ hM1
 have B4:=hid_ (B0.out.fr hf1 (only_ne (Blk.ne_ B0.out H.out.b (by decide))))
 have B5:=hid_ (B1.out.fr hf1 (only_ne (Blk.ne_ B1.out H.out.b (by decide))))
 have FO:Hid (Fr (only m) w w1):=hid_ ((F0.out.mono (fun _ _ e=>e.elim)).trans (S':=only m) (S'':=only m) hf1 (fun _ _=>id) (fun _ _=>id))
 have F1:Hid (Fr (mall m x) w w1):=hid_ (mall_m FO.out)
 have RD:=hid_ (HR.out w1 FO.out)
 have hszw:=FO.out.size
 clear hM1 hf1
 have c7:w1.cell? ⟨m,7,none⟩=some (.pointer (some ⟨x.a,0,none⟩)):=M1.out.b.cell' rfl
 have nG:¬ only x.G m∧¬ only x.G w.heap.size∧¬ only x.G (w.heap.size+1):=⟨only_ne (M1.out.ar.gne M1.out.b (by decide)),only_ne (M1.out.ar.gne B4.out (by decide)),only_ne (M1.out.ar.gne B5.out (by decide))⟩
 go_upto_region 4 with fail
 go_cut [6,7] (fun u v wq=>∃ (b:Nat) (sl gn kk:Int) (ss':List Sl),u=.pointer (some ⟨b,0,none⟩)∧v=errOf kk∧w1.heap.size≤b∧Blk wq b 23 #[.int .i64 sl,.int .i64 gn]∧AllocR l.n x.ss R sl gn kk ss'∧Mm wq m (k+1) l { x with ss:=ss' }∧Fr (only x.G) w1 wq)
 case first =>
  have hS1:(fun w':World=>Fr (only x.G) w1 w') w1.drew:=(Fr.refl _ w1).drew
  refine wp_region_U (m:=12) (S:=fun w':World=>Fr (only x.G) w1 w') (by kernel_rfl) ?_
  refine wpAnyU_take2 (i:=0) (v:=_) rfl (by kernel_rfl) (by kernel_rfl) (by kernel_rfl) (by kernel_rfl) (fun _ _ _ h=>h) (.inl ⟨by kernel_rfl,fun w' hS=>by go_simp;rfl⟩) hS1 ?_
  refine wpAnyU_take2 (i:=1) (v:=_) rfl (by kernel_rfl) (by kernel_rfl) (by kernel_rfl) (by kernel_rfl) (fun _ _ _ h=>h) (.inl ⟨by kernel_rfl,fun w' hS=>by go_simp;rfl⟩) hS1 ?_
  refine wpAnyU_take2 (i:=2) (v:=_) rfl (by kernel_rfl) (by kernel_rfl) (by kernel_rfl) (by kernel_rfl) (fun _ _ _ h=>h) (.inl ⟨by kernel_rfl,fun w' hS=>by go_simp;rfl⟩) hS1 ?_
  refine wpAnyU_take2 (i:=3) (v:=_) rfl (by kernel_rfl) (by kernel_rfl) (by kernel_rfl) (by kernel_rfl) (fun _ _ _ h=>h) (.inl ⟨by kernel_rfl,fun w' hS=>by have s_:=cellFrS c7 hS nG.1;go_simp;rfl⟩) hS1 ?_
  refine wpAnyU_take2 (i:=4) (v:=_) rfl (by kernel_rfl) (by kernel_rfl) (by kernel_rfl) (by kernel_rfl) (fun _ _ _ h=>h) (.inl ⟨by kernel_rfl,fun w' hS=>by have s_0:w'.cell? ⟨w.heap.size,0,none⟩=some (.int .i64 R.kind):=cellFrS (B4.out.cell' rfl) hS nG.2.1;have s_1:w'.cell? ⟨w.heap.size,1,none⟩=some (.string R.low):=cellFrS (B4.out.cell' rfl) hS nG.2.1;have s_2:w'.cell? ⟨w.heap.size,2,none⟩=some (.string R.high):=cellFrS (B4.out.cell' rfl) hS nG.2.1;have s_3:w'.cell? ⟨w.heap.size,3,none⟩=some (.bool R.unb):=cellFrS (B4.out.cell' rfl) hS nG.2.1;have s_4:w'.cell? ⟨w.heap.size,4,none⟩=some (.int .i64 R.right):=cellFrS (B4.out.cell' rfl) hS nG.2.1;have s_5:w'.cell? ⟨w.heap.size,5,none⟩=some (.slice A R.rows.length c):=cellFrS (B4.out.cell' rfl) hS nG.2.1;have s_6:w'.cell? ⟨w.heap.size,6,none⟩=some (.slice B R.ents.length d):=cellFrS (B4.out.cell' rfl) hS nG.2.1;have s_7:w'.cell? ⟨w.heap.size,7,none⟩=some (.string R.key):=cellFrS (B4.out.cell' rfl) hS nG.2.1;have s_8:w'.cell? ⟨w.heap.size,8,none⟩=some (.string R.val):=cellFrS (B4.out.cell' rfl) hS nG.2.1;have s_9:w'.cell? ⟨w.heap.size,9,none⟩=some (.int .i64 R.page):=cellFrS (B4.out.cell' rfl) hS nG.2.1;have s_10:w'.cell? ⟨w.heap.size,10,none⟩=some (.int .i64 R.hpage):=cellFrS (B4.out.cell' rfl) hS nG.2.1;have s_11:w'.cell? ⟨w.heap.size,11,none⟩=some (.int .i64 R.hleft):=cellFrS (B4.out.cell' rfl) hS nG.2.1;have s_12:w'.cell? ⟨w.heap.size,12,none⟩=some (.string R.hkey):=cellFrS (B4.out.cell' rfl) hS nG.2.1;have s_13:w'.cell? ⟨w.heap.size,13,none⟩=some (.int .i64 R.nslot):=cellFrS (B4.out.cell' rfl) hS nG.2.1;have s_14:w'.cell? ⟨w.heap.size,14,none⟩=some (.int .i64 R.ngen):=cellFrS (B4.out.cell' rfl) hS nG.2.1;go_simp;rfl⟩) hS1 ?_
  clear c7
  refine wpAnyU_two (i:=5) (j:=9) rfl rfl rfl rfl (by kernel_rfl) ?_ ?_
  ·go_simp
   refine (alloc_any R A c B d (M1.out.ar.keep ((Fr.refl none_ w1).drew)) (RD.out.keep ((Fr.refl none_ w1).drew)) hz).mono ?_
   rintro e w3 ⟨sl,gn,kk,ss',rfl,hR,hA3,hf3⟩
   have R3:=hid_ hR
   have M3:=hid_ ((M1.out.keep ((Fr.refl none_ w1).drew)).arPut hA3 hf3)
   have fS:Fr (only x.G) w1 w3:=((Fr.refl (only x.G) w1).then_none ((Fr.refl none_ w1).drew)).then_only hf3 (.inl (Eq.refl _))
   refine ⟨fS,?_⟩
   clear hR hA3 hf3 hS1
   have hb:w1.heap.size≤w3.heap.size:=fS.size
   refine wpAnyU_take2 (i:=6) (v:=_) rfl (by kernel_rfl) (by kernel_rfl) (by kernel_rfl) (by kernel_rfl) (fun _ _ _ h=>h) (.inl ⟨by kernel_rfl,fun w' hS=>by go_simp;rfl⟩) fS ?_
   refine wpAnyU_take2 (i:=7) (v:=_) rfl (by kernel_rfl) (by kernel_rfl) (by kernel_rfl) (by kernel_rfl) (fun _ _ _ h=>h) (.inl ⟨by kernel_rfl,fun w' hS=>by go_simp;rfl⟩) fS ?_
   refine wpAnyU_take2 (i:=8) (v:=_) rfl (by kernel_rfl) (by kernel_rfl) (by kernel_rfl) (by kernel_rfl) (fun _ _ _ h=>h) (.inl ⟨by kernel_rfl,fun w' hS=>by go_simp;rfl⟩) fS ?_
   refine wpAnyU_oneW (i:=9) rfl (by kernel_rfl) (by kernel_rfl) ?_
   go_simp
   refine ⟨fS.alloc _,?_⟩
   obtain ⟨w4,hw4⟩:∃ z,z=w3.alloc (.cells #[.int .i64 0,.int .i64 0] 23):=⟨_,rfl⟩
   have f4:Fr none_ w3 w4:=by rw [hw4];exact (Fr.refl none_ w3).alloc _
   have BA:=hid_ (show Blk w4 w3.heap.size 23 #[.int .i64 0,.int .i64 0] by rw [hw4];exact Blk.new w3 _ _)
   replace M3:=hid_ (M3.out.keep f4)
   replace fS:=fS.then_none f4
   rw [← hw4]
   clear hw4 f4
   have y0:=BA.out.frozen 0
   have y1:=BA.out.frozen 1
   have z0:w4.cell? ⟨w3.heap.size,0,none⟩=some (.int .i64 0):=BA.out.cell' rfl
   have z1:w4.cell? ⟨w3.heap.size,1,none⟩=some (.int .i64 0):=BA.out.cell' rfl
   refine wpAnyU_oneW (i:=10) rfl (by kernel_rfl) (by kernel_rfl) ?_
   go_simp
   clear y0 y1 z0 z1
   obtain ⟨qb,qf⟩:=box2 BA.out (.int .i64 sl) (.int .i64 gn)
   obtain ⟨w5,hw5⟩:∃ z,z=(w4.setCell ⟨w3.heap.size,0,none⟩ (.int .i64 sl)).setCell ⟨w3.heap.size,1,none⟩ (.int .i64 gn):=⟨_,rfl⟩
   rw [← hw5] at qb qf
   rw [← hw5]
   have fS5:=fS.then_only qf (.inr hb)
   refine ⟨fS5,?_⟩
   have M5:=hid_ (M3.out.ref BA.out qf)
   have Q5:=hid_ qb
   clear hw5 qb qf
   refine wpAnyU_take2 (i:=11) (v:=_) rfl (by kernel_rfl) (by kernel_rfl) (by kernel_rfl) (by kernel_rfl) (fun _ _ _ h=>h) (.inl ⟨by kernel_rfl,fun w' hS=>by go_simp;rfl⟩) fS5 ?_
   refine wpAnyU_done (by kernel_rfl) ?_ _
   go_wp2_with fail
   go_meet
   exact ⟨_,sl,gn,kk,ss',rfl,rfl,hb,Q5.out,R3.out,M5.out,fS5⟩
  ·go_simp
   refine ⟨((Fr.refl (only x.G) w1).alloc _).drew,?_⟩
   obtain ⟨w2,hw2⟩:∃ z,z=(w1.alloc (.cells #[.int .i64 0,.int .i64 0] 23)).drew:=⟨_,rfl⟩
   have f2:Fr none_ w1 w2:=by rw [hw2];exact ((Fr.refl none_ w1).alloc _).drew
   have BA:=hid_ (show Blk w2 w1.heap.size 23 #[.int .i64 0,.int .i64 0] by rw [hw2];exact (Blk.new w1 _ _).drew)
   rw [← hw2]
   clear hw2 hS1
   refine wpAnyU_oneW (i:=5) rfl (by kernel_rfl) (by kernel_rfl) ?_
   go_simp
   refine (alloc_any R A c B d (M1.out.ar.keep (f2)) (RD.out.keep (f2)) hz).mono ?_
   rintro e w3 ⟨sl,gn,kk,ss',rfl,hR,hA3,hf3⟩
   have R3:=hid_ hR
   have M3:=hid_ ((M1.out.keep (f2)).arPut hA3 hf3)
   have fS:Fr (only x.G) w1 w3:=((Fr.refl (only x.G) w1).then_none (f2)).then_only hf3 (.inl (Eq.refl _))
   refine ⟨fS,?_⟩
   have hb:w1.heap.size≤w1.heap.size:=Nat.le_refl _
   replace BA:=hid_ (BA.out.fr hf3 (only_ne ((M1.out.ar.keep f2).gne BA.out (by decide))))
   clear hR hA3 hf3 f2
   refine wpAnyU_take2 (i:=6) (v:=_) rfl (by kernel_rfl) (by kernel_rfl) (by kernel_rfl) (by kernel_rfl) (fun _ _ _ h=>h) (.inl ⟨by kernel_rfl,fun w' hS=>by go_simp;rfl⟩) fS ?_
   refine wpAnyU_take2 (i:=7) (v:=_) rfl (by kernel_rfl) (by kernel_rfl) (by kernel_rfl) (by kernel_rfl) (fun _ _ _ h=>h) (.inl ⟨by kernel_rfl,fun w' hS=>by go_simp;rfl⟩) fS ?_
   refine wpAnyU_take2 (i:=8) (v:=_) rfl (by kernel_rfl) (by kernel_rfl) (by kernel_rfl) (by kernel_rfl) (fun _ _ _ h=>h) (.inl ⟨by kernel_rfl,fun w' hS=>by go_simp;rfl⟩) fS ?_
   have y0:=BA.out.frozen 0
   have y1:=BA.out.frozen 1
   have z0:w3.cell? ⟨w1.heap.size,0,none⟩=some (.int .i64 0):=BA.out.cell' rfl
   have z1:w3.cell? ⟨w1.heap.size,1,none⟩=some (.int .i64 0):=BA.out.cell' rfl
   refine wpAnyU_oneW (i:=10) rfl (by kernel_rfl) (by kernel_rfl) ?_
   go_simp
   clear y0 y1 z0 z1
   obtain ⟨qb,qf⟩:=box2 BA.out (.int .i64 sl) (.int .i64 gn)
   obtain ⟨w5,hw5⟩:∃ z,z=(w3.setCell ⟨w1.heap.size,0,none⟩ (.int .i64 sl)).setCell ⟨w1.heap.size,1,none⟩ (.int .i64 gn):=⟨_,rfl⟩
   rw [← hw5] at qb qf
   rw [← hw5]
   have fS5:=fS.then_only qf (.inr hb)
   refine ⟨fS5,?_⟩
   have M5:=hid_ (M3.out.ref BA.out qf)
   have Q5:=hid_ qb
   clear hw5 qb qf
   refine wpAnyU_take2 (i:=11) (v:=_) rfl (by kernel_rfl) (by kernel_rfl) (by kernel_rfl) (by kernel_rfl) (fun _ _ _ h=>h) (.inl ⟨by kernel_rfl,fun w' hS=>by go_simp;rfl⟩) fS5 ?_
   refine wpAnyU_done (by kernel_rfl) ?_ _
   go_wp2_with fail
   go_meet
   exact ⟨_,sl,gn,kk,ss',rfl,rfl,hb,Q5.out,R3.out,M5.out,fS5⟩
 case rest =>
  obtain ⟨b,sl,gn,kk,ss',rfl,rfl,hb,hbb,hR,hM,hf⟩:=hcut
  have M6:=hid_ hM
  have R6:=hid_ hR
  have B6:=hid_ hbb
  have F6:=hid_ (mall_tr F1.out (mall_G hf))
  have B7:=hid_ (B5.out.fr hf nG.2.2)
  clear hM hR hbb hf nG
  go_upto_region 5 with fail
  have x0:wc.cell? ⟨b,0,none⟩=some (.int .i64 sl):=B6.out.cell' rfl
  have x1:wc.cell? ⟨b,1,none⟩=some (.int .i64 gn):=B6.out.cell' rfl
  have hS1:(fun w':World=>Fr none_ wc w') wc.drew:=(Fr.refl none_ wc).drew
  refine wp_region_U (m:=3) (S:=fun w':World=>Fr none_ wc w') (by kernel_rfl) ?_
  refine wpAnyU_take2 (i:=0) (v:=_) rfl (by kernel_rfl) (by kernel_rfl) (by kernel_rfl) (by kernel_rfl) (fun _ _ _ h=>h) (.inl ⟨by kernel_rfl,fun w' hS=>by have s_0:=cellFr x0 hS;have s_1:=cellFr x1 hS;go_simp;rfl⟩) hS1 ?_
  refine wpAnyU_take2 (i:=1) (v:=_) rfl (by kernel_rfl) (by kernel_rfl) (by kernel_rfl) (by kernel_rfl) (fun _ _ _ h=>h) (.inl ⟨by kernel_rfl,fun w' hS=>by go_simp;rfl⟩) hS1 ?_
  refine wpAnyU_oneW (i:=2) rfl (by kernel_rfl) (by kernel_rfl) ?_
  go_simp
  refine (fat_ev sArena9 0 kk _).mono ?_
  rintro e w4 ⟨v,rfl,hev,hf4⟩
  have fS4:=hS1.then_none hf4
  refine ⟨fS4,?_⟩
  have E4:=hid_ hev
  replace M6:=hid_ (M6.out.keep fS4)
  replace F6:=hid_ (F6.out.then_none fS4)
  replace B7:=hid_ (B7.out.fr fS4 id)
  have y0:=B7.out.frozen 0
  have y1:=B7.out.frozen 1
  have z0:w4.cell? ⟨w.heap.size+1,0,none⟩=some (.int .i64 0):=B7.out.cell' rfl
  have z1:w4.cell? ⟨w.heap.size+1,1,none⟩=some (.int .i64 0):=B7.out.cell' rfl
  clear hS1 x0 x1 hev hf4 fS4
  refine wpAnyU_oneW (i:=3) rfl (by kernel_rfl) (by kernel_rfl) ?_
  go_simp
  clear y0 y1 z0 z1
  obtain ⟨qb,qf⟩:=box2 B7.out (.int .i64 sl) (.int .i64 gn)
  obtain ⟨w5,hw5⟩:∃ z,z=((w4.setCell ⟨w.heap.size+1,0,none⟩ (.int .i64 sl)).setCell ⟨w.heap.size+1,1,none⟩ (.int .i64 gn)):=⟨_,rfl⟩
  have qb2:Blk w5 (w.heap.size+1) 23 #[.int .i64 sl,.int .i64 gn]:=by rw [hw5];exact qb
  have qf2:Fr (only (w.heap.size+1)) w4 w5:=by rw [hw5];exact qf
  rw [← hw5]
  clear hw5 qb qf
  have q0:=qb2.cell' (i:=0) rfl
  have q1:=qb2.cell' (i:=1) rfl
  refine wpAnyU_oneW (i:=4) rfl (by kernel_rfl) (by kernel_rfl) ?_
  go_simp
  refine wpAnyU_done (by kernel_rfl) ?_ _
  go_wp2_with fail
  refine bodyPost_ret (v:=.tuple #[.agg #[.int .i64 sl,.int .i64 gn],v]) ?_ rfl ⟨sl,gn,kk,ss',v,rfl,R6.out,E4.out.only qf2 B7.out (by decide),M6.out.ref B7.out qf2,F6.out.then_only qf2 (.inr (by omega))⟩
  simp [results,Tryz.results52,go_sem,q0,q1]
set_option maxHeartbeats 4000000 in
theorem memLoad_any (h:Mm w m k l x) (h0:0≤k) (h1:k≤100000) (sl gn:Int) :
  Calls Tryz.prog 62 #[.pointer (some ⟨m,0,none⟩),.agg #[.int .i64 sl,.int .i64 gn]] w fun e w'=>∃ R A c B d kk v,e=.returned (.tuple #[recV R (.slice A R.rows.length c) (.slice B R.ents.length d),v])∧LoadR x.ss sl gn R kk∧Ev w' v sArena9 sl kk∧Mm w' m (k+1) l x∧RecOwn w' w.heap.size R (.slice A R.rows.length c) (.slice B R.ents.length d)∧Fr (mall m x) w w':=by
 obtain ⟨w0,hw0⟩:∃ z,z=(w.alloc (.cells #[.int .i64 sl,.int .i64 gn] 23)).alloc (.cells recZ 33):=⟨_,rfl⟩
 have f0:Fr none_ w w0:=by rw [hw0];exact ((Fr.refl none_ w).alloc _).alloc _
 have B0:=hid_ (show Blk w0 w.heap.size 23 #[.int .i64 sl,.int .i64 gn] by rw [hw0];exact (Blk.new w _ _).alloc _)
 have B1:=hid_ (show Blk w0 (w.heap.size+1) 33 recZ by rw [hw0];have:=Blk.new (w.alloc (.cells #[.int .i64 sl,.int .i64 gn] 23)) 33 recZ;rwa [World.size_alloc] at this)
 have H:=hid_ (h.keep f0)
 have F0:=hid_ f0
 clear h f0
 go_enter Tryz.func62,Tryz.ntmps62
 go_upto_region 1 with fail
 change Code.wp _ _ _ _ ((w.alloc (.cells #[.int .i64 sl,.int .i64 gn] 23)).alloc (.cells recZ 33))
 rw [← hw0]
 clear hw0
 go_wp2_with fail
 refine (tick_mo m k l x _ H.out h0 h1).mono ?_
 rintro e w1 ⟨rfl,hM1,hf1⟩
 have M1:=hid_ hM1
 have B4:=hid_ (B0.out.fr hf1 (only_ne (Blk.ne_ B0.out H.out.b (by decide))))
 have B5:=hid_ (B1.out.fr hf1 (only_ne (Blk.ne_ B1.out H.out.b (by decide))))
 have FO:Hid (Fr (only m) w w1):=hid_ ((F0.out.mono (fun _ _ e=>e.elim)).trans (S':=only m) (S'':=only m) hf1 (fun _ _=>id) (fun _ _=>id))
 have F1:Hid (Fr (mall m x) w w1):=hid_ (mall_m FO.out)
 have hszw:=FO.out.size
 clear hM1 hf1
 have c7:w1.cell? ⟨m,7,none⟩=some (.pointer (some ⟨x.a,0,none⟩)):=M1.out.b.cell' rfl
 have x0:w1.cell? ⟨w.heap.size,0,none⟩=some (.int .i64 sl):=B4.out.cell' rfl
 have x1:w1.cell? ⟨w.heap.size,1,none⟩=some (.int .i64 gn):=B4.out.cell' rfl
 go_upto_region 4 with fail
 go_cut [6,7] (fun u v wq=>∃ (b:Nat) (R:Rc) (A:Option Addr) (c:Nat) (B:Option Addr) (d:Nat) (kk:Int),u=.pointer (some ⟨b,0,none⟩)∧v=errOf kk∧w1.heap.size≤b∧Blk wq b 33 (recA R (.slice A R.rows.length c) (.slice B R.ents.length d))∧LoadR x.ss sl gn R kk∧RecOwn wq w1.heap.size R (.slice A R.rows.length c) (.slice B R.ents.length d)∧Fr none_ w1 wq)
 case first =>
  have hS1:(fun w':World=>Fr none_ w1 w') w1.drew:=(Fr.refl none_ w1).drew
  refine wp_region_U (m:=12) (S:=fun w':World=>Fr none_ w1 w') (by kernel_rfl) ?_
  refine wpAnyU_take2 (i:=0) (v:=_) rfl (by kernel_rfl) (by kernel_rfl) (by kernel_rfl) (by kernel_rfl) (fun _ _ _ h=>h) (.inl ⟨by kernel_rfl,fun w' hS=>by go_simp;rfl⟩) hS1 ?_
  refine wpAnyU_take2 (i:=1) (v:=_) rfl (by kernel_rfl) (by kernel_rfl) (by kernel_rfl) (by kernel_rfl) (fun _ _ _ h=>h) (.inl ⟨by kernel_rfl,fun w' hS=>by go_simp;rfl⟩) hS1 ?_
  refine wpAnyU_take2 (i:=2) (v:=_) rfl (by kernel_rfl) (by kernel_rfl) (by kernel_rfl) (by kernel_rfl) (fun _ _ _ h=>h) (.inl ⟨by kernel_rfl,fun w' hS=>by go_simp;rfl⟩) hS1 ?_
  refine wpAnyU_take2 (i:=3) (v:=_) rfl (by kernel_rfl) (by kernel_rfl) (by kernel_rfl) (by kernel_rfl) (fun _ _ _ h=>h) (.inl ⟨by kernel_rfl,fun w' hS=>by have s_:=cellFr c7 hS;go_simp;rfl⟩) hS1 ?_
  refine wpAnyU_take2 (i:=4) (v:=_) rfl (by kernel_rfl) (by kernel_rfl) (by kernel_rfl) (by kernel_rfl) (fun _ _ _ h=>h) (.inl ⟨by kernel_rfl,fun w' hS=>by have s_0:=cellFr x0 hS;have s_1:=cellFr x1 hS;go_simp;rfl⟩) hS1 ?_
  clear c7 x0 x1
  refine wpAnyU_two (i:=5) (j:=9) rfl rfl rfl rfl (by kernel_rfl) ?_ ?_
  ·go_simp
   refine (load_any sl gn (M1.out.ar.keep ((Fr.refl none_ w1).drew))).mono ?_
   rintro e w3 ⟨R,A,c,B,d,kk,rfl,hR,hO3,hf3⟩
   have R3:=hid_ hR
   have O3:=hid_ (hO3.base (b':=w1.heap.size) ((Fr.refl none_ w1).drew).size)
   have fS:=((Fr.refl none_ w1).drew).then_none hf3
   refine ⟨fS,?_⟩
   clear hR hO3 hf3 hS1
   have hb:w1.heap.size≤w3.heap.size:=fS.size
   refine wpAnyU_take2 (i:=6) (v:=_) rfl (by kernel_rfl) (by kernel_rfl) (by kernel_rfl) (by kernel_rfl) (fun _ _ _ h=>h) (.inl ⟨by kernel_rfl,fun w' hS=>by go_simp;rfl⟩) fS ?_
   refine wpAnyU_take2 (i:=7) (v:=_) rfl (by kernel_rfl) (by kernel_rfl) (by kernel_rfl) (by kernel_rfl) (fun _ _ _ h=>h) (.inl ⟨by kernel_rfl,fun w' hS=>by go_simp;rfl⟩) fS ?_
   refine wpAnyU_take2 (i:=8) (v:=_) rfl (by kernel_rfl) (by kernel_rfl) (by kernel_rfl) (by kernel_rfl) (fun _ _ _ h=>h) (.inl ⟨by kernel_rfl,fun w' hS=>by go_simp;rfl⟩) fS ?_
   refine wpAnyU_oneW (i:=9) rfl (by kernel_rfl) (by kernel_rfl) ?_
   go_simp
   refine ⟨fS.alloc _,?_⟩
   obtain ⟨w4,hw4⟩:∃ z,z=w3.alloc (.cells recZ 33):=⟨_,rfl⟩
   have f4:Fr none_ w3 w4:=by rw [hw4];exact (Fr.refl none_ w3).alloc _
   have BA:=hid_ (show Blk w4 w3.heap.size 33 recZ by rw [hw4];exact Blk.new w3 _ _)
   replace O3:=hid_ (O3.out.keep f4)
   replace fS:=fS.then_none f4
   change wpAnyU _ _ _ _ _ _ _ _ _ (w3.alloc (.cells recZ 33))
   rw [← hw4]
   clear hw4 f4
   refine wpAnyU_oneW (i:=10) rfl (by kernel_rfl) (by kernel_rfl) ?_
   refine wp_store_mid 33 (.tmp 6) (.tmp 23) rfl w3.heap.size 0 (recA R (.slice A R.rows.length c) (.slice B R.ents.length d)) rfl rfl (BA.out.there9 rfl) rec_size (by simp [Value.oneCell']) ?_
   obtain ⟨w5,hw5⟩:∃ z,z=w4.setCells (w3.heap.size) 0 (recA R (.slice A R.rows.length c) (.slice B R.ents.length d)).toList:=⟨_,rfl⟩
   have ov:=BA.out.over9 (recA R (.slice A R.rows.length c) (.slice B R.ents.length d)).toList rfl
   rw [← hw5] at ov
   have fS5:=fS.then_only ov.2 (.inr hb)
   have O5:=hid_ (O3.out.only ov.2 BA.out (by decide) (by decide))
   have Q5:=hid_ (show Blk w5 (w3.heap.size) 33 (recA R (.slice A R.rows.length c) (.slice B R.ents.length d)) from ov.1)
   refine ⟨.inr (by rw [← hw5];exact fS5),?_⟩
   change wpAnyU _ _ _ _ _ _ _ _ _ (w4.setCells (w3.heap.size) 0 (recA R (.slice A R.rows.length c) (.slice B R.ents.length d)).toList)
   rw [← hw5]
   clear hw5 ov
   refine wpAnyU_take2 (i:=11) (v:=_) rfl (by kernel_rfl) (by kernel_rfl) (by kernel_rfl) (by kernel_rfl) (fun _ _ _ h=>h) (.inl ⟨by kernel_rfl,fun w' hS=>by go_simp;rfl⟩) fS5 ?_
   refine wpAnyU_done (by kernel_rfl) ?_ _
   go_wp2_with fail
   go_meet
   exact ⟨_,R,A,c,B,d,kk,rfl,rfl,hb,Q5.out,R3.out,O5.out,fS5⟩
  ·go_simp
   refine ⟨((Fr.refl none_ w1).alloc _).drew,?_⟩
   obtain ⟨w2,hw2⟩:∃ z,z=(w1.alloc (.cells recZ 33)).drew:=⟨_,rfl⟩
   have f2:Fr none_ w1 w2:=by rw [hw2];exact ((Fr.refl none_ w1).alloc _).drew
   have BA:=hid_ (show Blk w2 w1.heap.size 33 recZ by rw [hw2];exact (Blk.new w1 _ _).drew)
   change wpAnyU _ _ _ _ _ _ _ _ _ ((w1.alloc (.cells recZ 33)).drew)
   rw [← hw2]
   clear hw2 hS1
   refine wpAnyU_oneW (i:=5) rfl (by kernel_rfl) (by kernel_rfl) ?_
   go_simp
   refine (load_any sl gn (M1.out.ar.keep (f2))).mono ?_
   rintro e w3 ⟨R,A,c,B,d,kk,rfl,hR,hO3,hf3⟩
   have R3:=hid_ hR
   have O3:=hid_ (hO3.base (b':=w1.heap.size) (f2).size)
   have fS:=(f2).then_none hf3
   refine ⟨fS,?_⟩
   have hb:w1.heap.size≤w1.heap.size:=Nat.le_refl _
   replace BA:=hid_ (BA.out.fr hf3 id)
   clear hR hO3 hf3 f2
   refine wpAnyU_take2 (i:=6) (v:=_) rfl (by kernel_rfl) (by kernel_rfl) (by kernel_rfl) (by kernel_rfl) (fun _ _ _ h=>h) (.inl ⟨by kernel_rfl,fun w' hS=>by go_simp;rfl⟩) fS ?_
   refine wpAnyU_take2 (i:=7) (v:=_) rfl (by kernel_rfl) (by kernel_rfl) (by kernel_rfl) (by kernel_rfl) (fun _ _ _ h=>h) (.inl ⟨by kernel_rfl,fun w' hS=>by go_simp;rfl⟩) fS ?_
   refine wpAnyU_take2 (i:=8) (v:=_) rfl (by kernel_rfl) (by kernel_rfl) (by kernel_rfl) (by kernel_rfl) (fun _ _ _ h=>h) (.inl ⟨by kernel_rfl,fun w' hS=>by go_simp;rfl⟩) fS ?_
   refine wpAnyU_oneW (i:=10) rfl (by kernel_rfl) (by kernel_rfl) ?_
   refine wp_store_mid 33 (.tmp 6) (.tmp 23) rfl w1.heap.size 0 (recA R (.slice A R.rows.length c) (.slice B R.ents.length d)) rfl rfl (BA.out.there9 rfl) rec_size (by simp [Value.oneCell']) ?_
   obtain ⟨w5,hw5⟩:∃ z,z=w3.setCells (w1.heap.size) 0 (recA R (.slice A R.rows.length c) (.slice B R.ents.length d)).toList:=⟨_,rfl⟩
   have ov:=BA.out.over9 (recA R (.slice A R.rows.length c) (.slice B R.ents.length d)).toList rfl
   rw [← hw5] at ov
   have fS5:=fS.then_only ov.2 (.inr hb)
   have O5:=hid_ (O3.out.only ov.2 BA.out (by decide) (by decide))
   have Q5:=hid_ (show Blk w5 (w1.heap.size) 33 (recA R (.slice A R.rows.length c) (.slice B R.ents.length d)) from ov.1)
   refine ⟨.inr (by rw [← hw5];exact fS5),?_⟩
   change wpAnyU _ _ _ _ _ _ _ _ _ (w3.setCells (w1.heap.size) 0 (recA R (.slice A R.rows.length c) (.slice B R.ents.length d)).toList)
   rw [← hw5]
   clear hw5 ov
   refine wpAnyU_take2 (i:=11) (v:=_) rfl (by kernel_rfl) (by kernel_rfl) (by kernel_rfl) (by kernel_rfl) (fun _ _ _ h=>h) (.inl ⟨by kernel_rfl,fun w' hS=>by go_simp;rfl⟩) fS5 ?_
   refine wpAnyU_done (by kernel_rfl) ?_ _
   go_wp2_with fail
   go_meet
   exact ⟨_,R,A,c,B,d,kk,rfl,rfl,hb,Q5.out,R3.out,O5.out,fS5⟩
 case rest =>
  obtain ⟨b,R,A,c,B,d,kk,rfl,rfl,hb,hbb,hR,hO,hf⟩:=hcut
  have R6:=hid_ hR
  have M6:=hid_ (M1.out.keep hf)
  have O6:=hid_ hO
  have B6:=hid_ hbb
  have F6:=hid_ (F1.out.then_none hf)
  have B7:=hid_ (B5.out.fr hf id)
  have B8:=hid_ (B4.out.fr hf id)
  clear hO hbb hf hR
  go_upto_region 5 with fail
  have hS1:(fun w':World=>Fr none_ wc w') wc.drew:=(Fr.refl none_ wc).drew
  refine wp_region_U (m:=5) (S:=fun w':World=>Fr none_ wc w') (by kernel_rfl) ?_
  refine wpAnyU_take2 (i:=0) (v:=_) rfl (by kernel_rfl) (by kernel_rfl) (by kernel_rfl) (by kernel_rfl) (fun _ _ _ h=>h) (.inl ⟨by kernel_rfl,fun w' hS=>by have s_0:w'.cell? ⟨b,0,none⟩=some (.int .i64 R.kind):=cellFr (B6.out.cell' rfl) hS;have s_1:w'.cell? ⟨b,1,none⟩=some (.string R.low):=cellFr (B6.out.cell' rfl) hS;have s_2:w'.cell? ⟨b,2,none⟩=some (.string R.high):=cellFr (B6.out.cell' rfl) hS;have s_3:w'.cell? ⟨b,3,none⟩=some (.bool R.unb):=cellFr (B6.out.cell' rfl) hS;have s_4:w'.cell? ⟨b,4,none⟩=some (.int .i64 R.right):=cellFr (B6.out.cell' rfl) hS;have s_5:w'.cell? ⟨b,5,none⟩=some (.slice A R.rows.length c):=cellFr (B6.out.cell' rfl) hS;have s_6:w'.cell? ⟨b,6,none⟩=some (.slice B R.ents.length d):=cellFr (B6.out.cell' rfl) hS;have s_7:w'.cell? ⟨b,7,none⟩=some (.string R.key):=cellFr (B6.out.cell' rfl) hS;have s_8:w'.cell? ⟨b,8,none⟩=some (.string R.val):=cellFr (B6.out.cell' rfl) hS;have s_9:w'.cell? ⟨b,9,none⟩=some (.int .i64 R.page):=cellFr (B6.out.cell' rfl) hS;have s_10:w'.cell? ⟨b,10,none⟩=some (.int .i64 R.hpage):=cellFr (B6.out.cell' rfl) hS;have s_11:w'.cell? ⟨b,11,none⟩=some (.int .i64 R.hleft):=cellFr (B6.out.cell' rfl) hS;have s_12:w'.cell? ⟨b,12,none⟩=some (.string R.hkey):=cellFr (B6.out.cell' rfl) hS;have s_13:w'.cell? ⟨b,13,none⟩=some (.int .i64 R.nslot):=cellFr (B6.out.cell' rfl) hS;have s_14:w'.cell? ⟨b,14,none⟩=some (.int .i64 R.ngen):=cellFr (B6.out.cell' rfl) hS;go_simp;rfl⟩) hS1 ?_
  refine wpAnyU_take2 (i:=1) (v:=_) rfl (by kernel_rfl) (by kernel_rfl) (by kernel_rfl) (by kernel_rfl) (fun _ _ _ h=>h) (.inl ⟨by kernel_rfl,fun w' hS=>by go_simp;rfl⟩) hS1 ?_
  refine wpAnyU_take2 (i:=2) (v:=_) rfl (by kernel_rfl) (by kernel_rfl) (by kernel_rfl) (by kernel_rfl) (fun _ _ _ h=>h) (.inl ⟨by kernel_rfl,fun w' hS=>by have s_:w'.cell? ⟨w.heap.size,0,none⟩=some (.int .i64 sl):=cellFr (B8.out.cell' rfl) hS;go_simp;rfl⟩) hS1 ?_
  refine wpAnyU_take2 (i:=3) (v:=_) rfl (by kernel_rfl) (by kernel_rfl) (by kernel_rfl) (by kernel_rfl) (fun _ _ _ h=>h) (.inl ⟨by kernel_rfl,fun w' hS=>by go_simp;rfl⟩) hS1 ?_
  refine wpAnyU_oneW (i:=4) rfl (by kernel_rfl) (by kernel_rfl) ?_
  go_simp
  refine (fat_ev sArena9 sl kk _).mono ?_
  rintro e w4 ⟨v,rfl,hev,hf4⟩
  have fS4:=hS1.then_none hf4
  refine ⟨fS4,?_⟩
  have E4:=hid_ hev
  replace M6:=hid_ (M6.out.keep fS4)
  replace F6:=hid_ (F6.out.then_none fS4)
  replace B7:=hid_ (B7.out.fr fS4 id)
  replace O6:=hid_ (O6.out.keep fS4)
  clear hev hf4 fS4
  refine wpAnyU_oneW (i:=5) rfl (by kernel_rfl) (by kernel_rfl) ?_
  refine wp_store_mid 33 (.tmp 4) (.tmp 25) rfl (w.heap.size+1) 0 (recA R (.slice A R.rows.length c) (.slice B R.ents.length d)) rfl rfl (B7.out.there9 rfl) rec_size (by simp [Value.oneCell']) ?_
  obtain ⟨w5,hw5⟩:∃ z,z=w4.setCells (w.heap.size+1) 0 (recA R (.slice A R.rows.length c) (.slice B R.ents.length d)).toList:=⟨_,rfl⟩
  have ov:=B7.out.over9 (recA R (.slice A R.rows.length c) (.slice B R.ents.length d)).toList rfl
  rw [← hw5] at ov
  have qb2:Blk w5 (w.heap.size+1) 33 (recA R (.slice A R.rows.length c) (.slice B R.ents.length d)):=ov.1
  have qf2:Fr (only (w.heap.size+1)) w4 w5:=ov.2
  refine ⟨.inl (by decide),?_⟩
  change wpAnyU _ _ _ _ _ _ _ _ _ (w4.setCells (w.heap.size+1) 0 (recA R (.slice A R.rows.length c) (.slice B R.ents.length d)).toList)
  rw [← hw5]
  clear hw5 ov hS1
  refine wpAnyU_oneW (i:=6) rfl (by kernel_rfl) (by kernel_rfl) ?_
  go_simp
  refine wpAnyU_done (by kernel_rfl) ?_ _
  go_wp2_with fail
  have q0:=qb2.cell' (i:=0) rfl
  have q1:=qb2.cell' (i:=1) rfl
  have q2:=qb2.cell' (i:=2) rfl
  have q3:=qb2.cell' (i:=3) rfl
  have q4:=qb2.cell' (i:=4) rfl
  have q5:=qb2.cell' (i:=5) rfl
  have q6:=qb2.cell' (i:=6) rfl
  have q7:=qb2.cell' (i:=7) rfl
  have q8:=qb2.cell' (i:=8) rfl
  have q9:=qb2.cell' (i:=9) rfl
  have q10:=qb2.cell' (i:=10) rfl
  have q11:=qb2.cell' (i:=11) rfl
  have q12:=qb2.cell' (i:=12) rfl
  have q13:=qb2.cell' (i:=13) rfl
  have q14:=qb2.cell' (i:=14) rfl
  refine bodyPost_ret (v:=.tuple #[recV R (.slice A R.rows.length c) (.slice B R.ents.length d),v]) ?_ rfl ⟨R,A,c,B,d,kk,v,rfl,R6.out,E4.out.only qf2 B7.out (by decide),M6.out.rec9 B7.out qf2,(O6.out.only qf2 B7.out (by decide) (by decide)).base hszw,F6.out.then_only qf2 (.inr (by omega))⟩
  simp [results,Tryz.results62,go_sem,q0,q1,q2,q3,q4,q5,q6,q7,q8,q9,q10,q11,q12,q13,q14]
end
open Go.RowKit Go.BigFrame

structure LdS where
  n:Int
  begun:Bool
  over:Bool
  hs:Int
  hg:Int
  ns:Int
  ng:Int
  A:Option Addr
  c:Nat
  L:List Cr
  B:Option Addr
  e:Nat
  refs:List (Int × Int)
  ve:Value
abbrev ldA (s:LdS):Array Value:=#[.int .i64 s.n,.bool s.begun,.bool s.over,.int .i64 s.hs,.int .i64 s.hg,.int .i64 s.ns,.int .i64 s.ng,.slice s.A s.L.length s.c,.slice s.B s.refs.length s.e,s.ve]
abbrev LdS.new (n:Int):LdS:=⟨n,false,false,0,0,0,0,none,0,[],none,0,[],.nilIface⟩
structure Ldr (b0:Nat) (w:World) (g:Nat) (s:LdS):Prop where
  b:Blk w g 137 (ldA s)
  lb:b0≤g
  l:w.ownsRow b0 33 15 (.slice s.A s.L.length s.c) s.L.length (crFlat s.L)
  r:w.ownsRow b0 23 2 (.slice s.B s.refs.length s.e) s.refs.length (rf9Flat s.refs)
  own:∀ C ∈ s.L,RecOwn w b0 C.R (.slice C.A C.R.rows.length C.c) (.slice C.B C.R.ents.length C.d)
theorem Ldr.fr {b0 g:Nat} {w w':World} {s:LdS} {S:Nat→Prop} (h:Ldr b0 w g s) (hf:Fr S w w') (hS:∀ i,S i→i < b0):Ldr b0 w' g s:=
  ⟨h.b.fr hf (fun e=>by have:=hS g e;have:=h.lb;omega),h.lb,
   own_fr h.l hf (fun k hk e=>by have:=hS k e;have:=(h.l.lt k hk).1;omega),
   own_fr h.r hf (fun k hk e=>by have:=hS k e;have:=(h.r.lt k hk).1;omega),
   fun C hC=>(h.own C hC).fr hf (fun k hk e=>by have:=hS k e;have:=((h.own C hC).r.lt k hk).1;omega) (fun k hk e=>by have:=hS k e;have:=((h.own C hC).e.lt k hk).1;omega)⟩
theorem Ldr.keep {b0 g:Nat} {w w':World} {s:LdS} (h:Ldr b0 w g s) (hf:Fr none_ w w'):Ldr b0 w' g s:=h.fr hf (fun _ e=>e.elim)
theorem Ldr.upd {b0 g:Nat} {w w':World} {s s':LdS} (h:Ldr b0 w g s) (hb:Blk w' g 137 (ldA s')) (hf:Fr (only g) w w') (e:(s'.A,s'.c,s'.L,s'.B,s'.e,s'.refs)=(s.A,s.c,s.L,s.B,s.e,s.refs)):Ldr b0 w' g s':=by
  obtain ⟨n',bg',ov',hs',hg',ns',ng',A',c',L',B',e',refs',ve'⟩:=s'
  obtain ⟨n,bg,ov,hs,hg,ns,ng,A,c,L,B,e0,refs,ve⟩:=s
  simp only [Prod.mk.injEq] at e
  obtain ⟨rfl,rfl,rfl,rfl,rfl,rfl⟩:=e
  have hl:=h.l
  have hr:=h.r
  have ho:=h.own
  exact ⟨hb,h.lb,own_fr hl hf (fun k hk e=>own_blk_ne hl h.b (by decide) (by rw [hk,show k=g from e])),own_fr hr hf (fun k hk e=>own_blk_ne hr h.b (by decide) (by rw [hk,show k=g from e])),fun C hC=>(ho C hC).only hf h.b (by decide) (by decide)⟩
theorem Mm.ldr {w w':World} {m:Nat} {k:Int} {l:Lm} {x:St} {b:Nat} {cs:Array Value} (h:Mm w m k l x) (hb:Blk w b 137 cs) (hf:Fr (only b) w w'):Mm w' m k l x:=by
  obtain ⟨cs',hG,_⟩:=h.ar.hG
  obtain ⟨cap,cur,hT0,hH,_⟩:=id h.tb
  exact ⟨h.b.fr hf (only_ne (Blk.ne_ h.b hb (by decide))),h.ar.beside hf hb (by decide) (by decide) (Blk.ne_ h.ar.hA hb (by decide)) (Blk.ne_ hG hb (by decide)),h.tb.fr hf (only_ne (Blk.ne_ hT0 hb (by decide))) (only_ne (Blk.ne_ hH hb (by decide))),h.ck.fr hf (only_ne (Blk.ne_ h.ck.hC hb (by decide))) (only_ne (h.ck.mne hb))⟩
theorem Mm.grown {w w':World} {m:Nat} {k:Int} {l:Lm} {x:St} {base size n:Nat} {e:TypeId} {v:Value} {xs:List Value} (h:Mm w m k l x) (ho:w.ownsRow base e size v n xs) (he:e=33∨e=23) (hg:w.grownBy w' v.ownBlock):Mm w' m k l x:=by
  obtain ⟨cs',hG,hc⟩:=h.ar.hG
  obtain ⟨cap,cur,hT0,hH,_⟩:=id h.tb
  have hf:Fr (fun b=>v.ownBlock=some b) w w':=Fr.grown (Fr.refl _ _) hg (fun k hk=>.inl hk)
  have hM:¬ v.ownBlock=some x.M:=by
    rcases ho.2 with ⟨rfl,_⟩ | ⟨g',cap,cur,rfl,_,hh,_⟩
    · simp [Value.ownBlock]
    · intro e'
      have e2:g'=x.M:=by simpa [Value.ownBlock] using e'
      exact h.ck.mne (show Blk w g' e _ from hh) e2.symm
  have n1:e≠117:=by rcases he with rfl | rfl <;> decide
  have n2:e≠179:=by rcases he with rfl | rfl <;> decide
  have n3:e≠188:=by rcases he with rfl | rfl <;> decide
  have n4:143≠e:=by rcases he with rfl | rfl <;> decide
  have n5:59≠e:=by rcases he with rfl | rfl <;> decide
  exact ⟨h.b.fr hf (own_blk_ne ho h.b n1),⟨h.ar.hA.fr hf (own_blk_ne ho h.ar.hA n2),⟨cs',hG.fr hf (own_blk_ne ho hG n3),hc⟩,fun i s hs=>(h.ar.own i s hs).grown ho n4 n5 hg,h.ar.l40,h.ar.len,h.ar.gen,h.ar.sz⟩,
    h.tb.fr hf (own_blk_ne ho hT0 (by rcases he with rfl | rfl <;> decide)) (own_blk_ne ho hH (by rcases he with rfl | rfl <;> decide)),h.ck.fr hf (own_blk_ne ho h.ck.hC (by rcases he with rfl | rfl <;> decide)) hM⟩
def lall (m:Nat) (x:St) (b0:Nat):Nat→Prop:=fun i=>mall m x i∨b0≤i
theorem ldBegin_ok (n:Int) (w:World):Calls Tryz.prog 24 #[.int .i64 n] w fun e w'=>e=.returned (.pointer (some ⟨w.heap.size,0,none⟩))∧Ldr w.heap.size w' w.heap.size (LdS.new n)∧Fr none_ w w':=by
  go_enter Tryz.func24,Tryz.ntmps24
  go_wp2
  go_ret
  exact ⟨rfl,⟨Blk.new w _ _,Nat.le_refl _,World.ownsRow_nil _ _ _ _,World.ownsRow_nil _ _ _ _,fun C hC=>by cases hC⟩,(Fr.refl none_ w).alloc _⟩
theorem ldOver_ok {b0 g:Nat} {w:World} {s:LdS} (h:Ldr b0 w g s):Calls Tryz.prog 27 #[.pointer (some ⟨g,0,none⟩)] w fun e w'=>e=.returned (.bool s.over)∧w=w':=by
  have c2:w.cell? ⟨g,2,none⟩=some (.bool s.over):=h.b.cell' rfl
  clear h
  go_enter Tryz.func27,Tryz.ntmps27
  go_wp2
  go_ret
  exact ⟨rfl,rfl⟩
theorem ldStop_ok {b0 g:Nat} {w:World} {s:LdS} (v:Value) (hv:v=.nilIface∨∃ t u,v=.iface t u) (h:Ldr b0 w g s):Calls Tryz.prog 61 #[.pointer (some ⟨g,0,none⟩),v] w fun e w'=>e=.returned (.bool true)∧Ldr b0 w' g { s with over:=true,ve:=v }∧Fr (only g) w w':=by
  have H:=hid_ h
  have c2:w.cell? ⟨g,2,none⟩=some (.bool s.over):=h.b.cell' rfl
  have c9:w.cell? ⟨g,9,none⟩=some s.ve:=h.b.cell' rfl
  have y2:=h.b.frozen 2
  have y9:=h.b.frozen 9
  have hs0:=h.b.lt
  clear h
  go_enter Tryz.func61,Tryz.ntmps61
  rcases hv with rfl | ⟨t,u,rfl⟩
  · go_wp2
    go_ret
    have b1:=(H.out.b.set_ 2 (.bool true)).set_ 9 .nilIface
    have f1:Fr (only g) w ((w.setCell ⟨g,2,none⟩ (.bool true)).setCell ⟨g,9,none⟩ .nilIface):=Fr.setCell (p:=⟨g,9,none⟩) (Fr.only1 w ⟨g,2,none⟩ _) (.inl rfl) _
    exact ⟨rfl,H.out.upd b1 f1 rfl,f1⟩
  · go_wp2
    go_ret
    have b1:=(H.out.b.set_ 2 (.bool true)).set_ 9 (.iface t u)
    have f1:Fr (only g) w ((w.setCell ⟨g,2,none⟩ (.bool true)).setCell ⟨g,9,none⟩ (.iface t u)):=Fr.setCell (p:=⟨g,9,none⟩) (Fr.only1 w ⟨g,2,none⟩ _) (.inl rfl) _
    exact ⟨rfl,H.out.upd b1 f1 rfl,f1⟩
open Go.RowKit Go.BigFrame

theorem step_over {b0 g:Nat} {w:World} {s:LdS} (m:Value) (h:Ldr b0 w g s) (ho:s.over=true):Calls Tryz.prog 28 #[.pointer (some ⟨g,0,none⟩),m] w fun e w'=>e=.returned (.bool true)∧w=w':=by
  have H:=hid_ h
  have HO:=hid_ ho
  clear h ho
  go_enter Tryz.func28,Tryz.ntmps28
  go_wp2_with fail
  refine (ldOver_ok H.out).mono ?_
  rintro e w' ⟨rfl,rfl⟩
  rw [HO.out]
  go_wp2_with fail
  go_ret
  exact ⟨rfl,rfl⟩
def lown (m:Nat) (x:St) (g:Nat) (s:LdS):Nat→Prop:=fun i=>mall m x i∨i=g∨(Value.slice s.A s.L.length s.c).ownBlock=some i∨(Value.slice s.B s.refs.length s.e).ownBlock=some i
theorem Ldr.lall {b0 g m:Nat} {w:World} {s:LdS} {x:St} (h:Ldr b0 w g s) (i:Nat) (e:lown m x g s i):Go.Proofs.YtfihfjbakfadkaaGreatDoor.lall m x b0 i:=by
  rcases e with e | e | e | e
  · exact .inl e
  · exact .inr (by rw [e];exact h.lb)
  · exact .inr (h.l.lt i e).1
  · exact .inr (h.r.lt i e).1
def LdFirstO (b0 g m:Nat) (k:Int) (l:Lm) (x:St) (s:LdS) (w:World) (e:Ending) (w':World):Prop:=
  ∃ (a b c:Int) (v:Value),HeadR x.ps s.n a b c∧Ev w' v sTable9 s.n c∧Mm w' m (k+1) l x∧Fr (lown m x g s) w w' ∧
    ((c≠0∧e=.returned (.bool true)∧Ldr b0 w' g { s with over:=true,ve:=v }) ∨
     (c=0∧a=0∧b=0∧e=.returned (.bool true)∧Ldr b0 w' g { s with over:=true,ve:=errV 10 }) ∨
     (c=0∧¬ (a=0∧b=0)∧e=.returned (.bool false)∧Ldr b0 w' g { s with begun:=true,hs:=a,hg:=b,ns:=a,ng:=b }))
set_option maxHeartbeats 4000000 in
theorem step_firstO {b0 g m:Nat} {k:Int} {l:Lm} {x:St} {w:World} {s:LdS} (h:Ldr b0 w g s) (hm:Mm w m k l x) (hb:∀ i,mall m x i→i < b0) (h0:0≤k) (h1:k≤100000) (ho:s.over=false) (hg:s.begun=false) :
  Calls Tryz.prog 28 #[.pointer (some ⟨g,0,none⟩),.pointer (some ⟨m,0,none⟩)] w (LdFirstO b0 g m k l x s w):=by
 have H:=hid_ h
 have HM:=hid_ hm
 have HB:=hid_ hb
 have HO:=hid_ ho
 have c1:w.cell? ⟨g,1,none⟩=some (.bool false):=by rw [← hg];exact h.b.cell' rfl
 have c0:w.cell? ⟨g,0,none⟩=some (.int .i64 s.n):=h.b.cell' rfl
 have hsg:=h.b.lt
 have HG:=hid_ hg
 clear h hm hb ho hg
 go_enter Tryz.func28,Tryz.ntmps28
 go_wp2_with fail
 refine (ldOver_ok H.out).mono ?_
 rintro e w' ⟨rfl,rfl⟩
 rw [HO.out]
 go_wp2_with fail
 refine (memHead_any m k l x _ HM.out h0 h1 s.n).mono ?_
 rintro e w1 ⟨a,b,c,v,rfl,hhd,hev,hmm,hf1⟩
 have HD:=hid_ hhd
 have EV:=hid_ hev
 replace H:=hid_ (H.out.fr hf1 HB.out)
 replace HM:=hid_ hmm
 have F1:=hid_ (hf1.mono (S':=lown m x g s) (fun i _ e=>.inl e))
 have hsz1:=hf1.size
 clear hhd hev hmm hf1 c0 c1
 go_upto_region 5 with fail
 obtain ⟨w2,hw2⟩:∃ z,z=w1.alloc (.cells #[.int .i64 a,.int .i64 b] 23):=⟨_,rfl⟩
 have f2:Fr none_ w1 w2:=by rw [hw2];exact (Fr.refl none_ w1).alloc _
 have BR:Hid (Blk w2 w1.heap.size 23 #[.int .i64 a,.int .i64 b]):=hid_ (by rw [hw2];exact Blk.new w1 _ _)
 change Code.wp _ _ _ _ (w1.alloc (.cells #[.int .i64 a,.int .i64 b] 23))
 rw [← hw2]
 clear hw2
 replace H:=hid_ (H.out.keep f2)
 replace HM:=hid_ (HM.out.keep f2)
 replace EV:=hid_ (EV.out.keep f2)
 replace F1:=hid_ (F1.out.then_none f2)
 clear f2
 have hlb:=H.out.lb
 have r0:w2.cell? ⟨w1.heap.size,0,none⟩=some (.int .i64 a):=BR.out.cell' rfl
 have r1:w2.cell? ⟨w1.heap.size,1,none⟩=some (.int .i64 b):=BR.out.cell' rfl
 have hgl:g < w1.heap.size:=by omega
 have hq:=eql_ref
 rcases EV.out with ⟨hc,rfl⟩ | ⟨hc,q,rfl,-⟩
 ·have HC:=hid_ hc
  clear hc
  by_cases hz:a=0∧b=0
  ·obtain ⟨rfl,rfl⟩:=hz
   go_wp2_with fail
   refine (ldStop_ok (errV 10) (.inr ⟨_,_,rfl⟩) H.out).mono ?_
   rintro e w3 ⟨rfl,hl3,hf3⟩
   go_wp2_with fail
   go_ret
   exact ⟨0,0,c,.nilIface,HD.out,.inl ⟨HC.out,rfl⟩,HM.out.ldr H.out.b hf3,F1.out.then_only hf3 (.inl (.inr (.inl rfl))),.inr (.inl ⟨HC.out,rfl,rfl,rfl,hl3⟩)⟩
  ·have hd:(a==0 && b==0)=false:=by
    simp only [Bool.and_eq_false_iff,beq_eq_false_iff_ne]
    omega
   have HZ:=hid_ hz
   clear hz
   have y1:=H.out.b.frozen 1
   have y3:=H.out.b.frozen 3
   have y4:=H.out.b.frozen 4
   have y5:=H.out.b.frozen 5
   have y6:=H.out.b.frozen 6
   have hsg2:=H.out.b.lt
   have g1:w2.cell? ⟨g,1,none⟩=some (.bool s.begun):=H.out.b.cell' rfl
   have g3:w2.cell? ⟨g,3,none⟩=some (.int .i64 s.hs):=H.out.b.cell' rfl
   have g4:w2.cell? ⟨g,4,none⟩=some (.int .i64 s.hg):=H.out.b.cell' rfl
   have g5:w2.cell? ⟨g,5,none⟩=some (.int .i64 s.ns):=H.out.b.cell' rfl
   have g6:w2.cell? ⟨g,6,none⟩=some (.int .i64 s.ng):=H.out.b.cell' rfl
   go_wp2_with fail
   go_region
   have b3:=(((((H.out.b.set_ 1 (.bool true)).set_ 3 (.int .i64 a)).set_ 4 (.int .i64 b)).set_ 5 (.int .i64 a)).set_ 6 (.int .i64 b)).drew
   have f3:=(Fr.setCell (p:=⟨g,6,none⟩) (Fr.setCell (p:=⟨g,5,none⟩) (Fr.setCell (p:=⟨g,4,none⟩) (Fr.setCell (p:=⟨g,3,none⟩) (Fr.only1 w2 ⟨g,1,none⟩ (.bool true)) (.inl rfl) (.int .i64 a)) (.inl rfl) (.int .i64 b)) (.inl rfl) (.int .i64 a)) (.inl rfl) (.int .i64 b)).drew
   obtain ⟨w3,hw3⟩:∃ z,z=(((((w2.setCell ⟨g,1,none⟩ (.bool true)).setCell ⟨g,3,none⟩ (.int .i64 a)).setCell ⟨g,4,none⟩ (.int .i64 b)).setCell ⟨g,5,none⟩ (.int .i64 a)).setCell ⟨g,6,none⟩ (.int .i64 b)).drew:=⟨_,rfl⟩
   rw [← hw3] at b3 f3 ⊢
   clear hw3
   have L3:Hid (Ldr b0 w3 g { s with begun:=true,hs:=a,hg:=b,ns:=a,ng:=b }):=hid_ (H.out.upd b3 f3 rfl)
   replace HM:=hid_ (HM.out.ldr H.out.b f3)
   replace F1:=hid_ (F1.out.then_only f3 (.inl (.inr (.inl rfl))))
   clear b3 f3 g1 g3 g4 g5 g6 y1 y3 y4 y5 y6 r0 r1 hq hd
   go_wp2_with fail
   go_ret
   exact ⟨a,b,c,.nilIface,HD.out,.inl ⟨HC.out,rfl⟩,HM.out,F1.out,.inr (.inr ⟨HC.out,HZ.out,rfl,L3.out⟩)⟩
 ·have HC:=hid_ hc
  have EQ:=hid_ EV.out
  clear hc
  go_wp2_with fail
  refine (ldStop_ok (.iface 239 (.pointer (some ⟨q,0,none⟩))) (.inr ⟨_,_,rfl⟩) H.out).mono ?_
  rintro e w3 ⟨rfl,hl3,hf3⟩
  go_wp2_with fail
  go_ret
  exact ⟨a,b,c,_,HD.out,EQ.out.only hf3 H.out.b (by decide),HM.out.ldr H.out.b hf3,F1.out.then_only hf3 (.inl (.inr (.inl rfl))),.inl ⟨HC.out,rfl,hl3⟩⟩
def LdFirst (b0 g m:Nat) (k:Int) (l:Lm) (x:St) (s:LdS) (w:World) (e:Ending) (w':World):Prop:=
  ∃ (a b c:Int) (v:Value),HeadR x.ps s.n a b c∧Ev w' v sTable9 s.n c∧Mm w' m (k+1) l x∧Fr (lall m x b0) w w' ∧
    ((c≠0∧e=.returned (.bool true)∧Ldr b0 w' g { s with over:=true,ve:=v }) ∨
     (c=0∧a=0∧b=0∧e=.returned (.bool true)∧Ldr b0 w' g { s with over:=true,ve:=errV 10 }) ∨
     (c=0∧¬ (a=0∧b=0)∧e=.returned (.bool false)∧Ldr b0 w' g { s with begun:=true,hs:=a,hg:=b,ns:=a,ng:=b }))
theorem step_first {b0 g m:Nat} {k:Int} {l:Lm} {x:St} {w:World} {s:LdS} (h:Ldr b0 w g s) (hm:Mm w m k l x) (hb:∀ i,mall m x i→i < b0) (h0:0≤k) (h1:k≤100000) (ho:s.over=false) (hg:s.begun=false) :
    Calls Tryz.prog 28 #[.pointer (some ⟨g,0,none⟩),.pointer (some ⟨m,0,none⟩)] w (LdFirst b0 g m k l x s w):=(step_firstO h hm hb h0 h1 ho hg).mono fun e w' hh=>by
  obtain ⟨a,b,c,v,h1,h2,h3,h4,h5⟩:=hh
  exact ⟨a,b,c,v,h1,h2,h3,h4.mono (fun i _ e=>h.lall i e),h5⟩
open Go.RowKit
structure UwA (P:Program) (md:Region.Mode) (ops:Array Oper) (Q:Exit→Act→World→Prop) (S:World→Prop) (m fuel:Nat) (listed:Array Bool) (a:Act) (w:World):Prop where
  h:wpAnyU P md ops Q S m fuel listed a w
section
variable {P:Program} {md:Region.Mode} {ops:Array Oper} {Q:Exit→Act→World→Prop} {S:World→Prop} {m fuel:Nat} {listed:Array Bool} {a:Act} {w:World} {oi:Oper}
theorem u_take (i:Nat) (d:Option Tmp) (v:Value) (hi:ops[i]?=some oi) (hd:oi.dst=d) (hs:Region.noSelect ops=true) (hf:Region.free md ops listed i=true) (hr:(Region.ready md ops listed).contains i=true)
    (hm:((List.range ops.size).all (fun j=>!decide (m≤j) || decide (j=i) || waitsB md ops ops.size j i) && closedB md ops listed)=true)
    (hQ:∀ c a w,Q (.panic c) (a.put oi.dst v) w→Q (.panic c) a w) (hy:YieldsIf P ops S oi v a) (hS:S w)
    (h:UwA P md ops Q S m fuel (listed.setIfInBounds i true) (a.put d v) w):UwA P md ops Q S m (fuel+1) listed a w:=by
  subst hd
  exact ⟨wpAnyU_take2 hi hs hf hr hm hQ hy hS h.h⟩
theorem y_val {v:Value} (hw:Region.wanted oi (yielded ops a.tmps)=true) (hx:∀ w,S w→(execOp a.eval oi).run P w=.ok (.value v) w):YieldsIf P ops S oi v a:=.inl ⟨hw,hx⟩
theorem run_loadAt_cellU (w:World) (ad:Addr) (ty:TypeId) (v:Value) (d:TypeDesc) (hc:w.cell? ad=some v) (hu:P.underlying ty=some d) (hd:d.isRow=false) :
    (Instr.loadAt ty (.pointer (some ad))).run P w=.ok v w:=by
  have hagg:(isAgg ty).run P w=.ok false w:=by
    unfold isAgg
    rw [Sem.run_bind,run_underlying hu w]
    cases d <;> simp_all
  have hl:(load ad).run P w=.ok v w:=by
    rw [run_load,hc]
  simp only [Instr.loadAt,Instr.sureAddr,loadVar,Sem.run_bind,Sem.run_pure,Result.andThen_ok,hagg,Bool.false_eq_true,if_false,hl]
theorem y_cell {v:Value} (ty:TypeId) (x:Operand) (ad:Addr) (td:TypeDesc) (hw:Region.wanted oi (yielded ops a.tmps)=true) (ho:oi.op=.load ty x) (hx:a.eval x=.pointer (some ad)) (hc:∀ w,S w→w.cell? ad=some v) (hu:P.underlying ty=some td) (hr:td.isRow=false):YieldsIf P ops S oi v a:=
  .inl ⟨hw,fun w hS=>by
    unfold execOp
    simp only [ho,hx,Sem.run_bind,Sem.run_pure,Result.andThen_ok,run_loadAt_cellU w ad ty v td (hc w hS) hu hr]⟩
theorem u_one (i:Nat) (hi:ops[i]?=some oi) (hw:Region.wanted oi (yielded ops a.tmps)=true) (hr:Region.ready md ops listed=[i])
    (h:Oper.wp P oi a w (fun a' w'=>(m≤i∨S w')∧UwA P md ops Q S m fuel (listed.setIfInBounds i true) a' w') Q):UwA P md ops Q S m (fuel+1) listed a w:=by
  refine ⟨wpAnyU_all hr (by simp) (fun j hj=>?_)⟩
  obtain rfl:j=i:=by simpa using hj
  refine wpOp_mono (K:=fun a' w'=>(m≤j∨S w')∧UwA P md ops Q S m fuel (listed.setIfInBounds j true) a' w') (fun a' w' h'=>⟨h'.1,h'.2.h⟩) ?_
  unfold wpOp
  simp only [hi,hw,if_true]
  exact .inl h
theorem u_call (i:Nat) (d:Option Tmp) (f:FuncId) (vs:Array Value) (v:Value) (F:World→Prop) (hi:ops[i]?=some oi) (hd:oi.dst=d) (hw:Region.wanted oi (yielded ops a.tmps)=true) (hr:Region.ready md ops listed=[i])
    (hx:(execOp a.eval oi).run P w=.ok (.enter f vs) w) (hc:Calls P f vs w (fun e w'=>e=.returned v∧F w'))
    (h:∀ w',F w'→S w'∧UwA P md ops Q S m fuel (listed.setIfInBounds i true) (a.put d v) w'):UwA P md ops Q S m (fuel+1) listed a w:=by
  subst hd
  refine u_one i hi hw hr ?_
  unfold Oper.wp
  rw [hx,Oper.upon_enter]
  refine hc.mono ?_
  rintro e w' ⟨rfl,hF⟩
  exact ⟨.inr (h w' hF).1,(h w' hF).2⟩
theorem u_callE (i:Nat) (d:Option Tmp) (f:FuncId) (vs:Array Value) (F:Value→World→Prop) (hi:ops[i]?=some oi) (hd:oi.dst=d) (hw:Region.wanted oi (yielded ops a.tmps)=true) (hr:Region.ready md ops listed=[i])
    (hx:(execOp a.eval oi).run P w=.ok (.enter f vs) w) (hc:Calls P f vs w (fun e w'=>∃ v,e=.returned v∧F v w'))
    (h:∀ v w',F v w'→S w'∧UwA P md ops Q S m fuel (listed.setIfInBounds i true) (a.put d v) w'):UwA P md ops Q S m (fuel+1) listed a w:=by
  subst hd
  refine u_one i hi hw hr ?_
  unfold Oper.wp
  rw [hx,Oper.upon_enter]
  refine hc.mono ?_
  rintro e w' ⟨v,rfl,hF⟩
  exact ⟨.inr (h v w' hF).1,(h v w' hF).2⟩
theorem u_store (i:Nat) (ty:TypeId) (x y:Operand) (b o:Nat) (cells:Array Value) (hi:ops[i]?=some oi) (hd:oi.dst=none) (hw:Region.wanted oi (yielded ops a.tmps)=true) (hr:Region.ready md ops listed=[i])
    (ho:oi.op=.store ty x y) (hx:a.eval x=.pointer (some ⟨b,o,none⟩)) (hy:a.eval y=.agg cells) (ht:w.there b o cells.size) (hz:(P.info? ty).map (·.size)=some cells.size) (h1:cells.all (·.oneCell')=true)
    (h:∀ w',w'=w.setCells b o cells.toList→S w'∧UwA P md ops Q S m fuel (listed.setIfInBounds i true) a w'):UwA P md ops Q S m (fuel+1) listed a w:=by
  refine u_one i hi hw hr ?_
  refine wp_store_mid ty x y ho b o cells hx hy ht hz h1 ?_
  rw [hd]
  exact ⟨.inr (h _ rfl).1,(h _ rfl).2⟩
theorem u_done (hr:Region.ready md ops listed=[]) (h:Q .normal a w):UwA P md ops Q S m fuel listed a w:=⟨wpAnyU_done hr h fuel⟩
theorem wp_region_u (m:Nat) (S:World→Prop) {id:Nat} (hm:P.follows .mixedOrders=true)
    (h:UwA P .any ops Q S m ops.size (Array.replicate ops.size false) a w.drew):(Code.region id ops true).wp P Q a w:=wp_region_U hm h.h
end
open Go.RowKit Go.ChangeShapes Go.WideShapes

structure ChIn (w:World) (C:Ch):Prop where
  rd:RecReads w C.R C.A C.B
  low:SzOk C.R.low
  high:SzOk C.R.high
  key:SzOk C.R.key
  hkey:SzOk C.R.hkey
  ents:∀ p ∈ C.R.ents,SzOk p.1
  cap:C.R.ents.length≤C.d
  capm:C.d≤maxLen
  rows:C.R.rows.length≤4398046511104
theorem ChIn.keep {w w':World} {C:Ch} (h:ChIn w C) (hf:Fr none_ w w'):ChIn w' C:=⟨h.rd.keep hf,h.low,h.high,h.key,h.hkey,h.ents,h.cap,h.capm,h.rows⟩
def InReads (w:World) (A:Option Addr) (n:Nat) (L:List Ch):Prop:=
  L.length=n∧(0 < n→∃ b off,A=some ⟨b,off,none⟩∧b < w.heap.size∧∀ (k:Nat) (C:Ch),L[k]?=some C→w.rangeAt b (off+k * 15) (recL C)∧ChIn w C)
theorem InReads.keep {w w':World} {A:Option Addr} {n:Nat} {L:List Ch} (h:InReads w A n L) (hf:Fr none_ w w'):InReads w' A n L:=
  ⟨h.1,fun hn=>by
    obtain ⟨b,off,hA,hb,hc⟩:=h.2 hn
    exact ⟨b,off,hA,by have:=hf.size;omega,fun k D hD=>⟨fun j v hv=>cellFr ((hc k D hD).1 j v hv) hf,(hc k D hD).2.keep hf⟩⟩⟩
theorem InReads.at_ {w:World} {A:Option Addr} {n:Nat} {L:List Ch} (h:InReads w A n L) {k:Nat} {C:Ch} (hC:L[k]?=some C):∃ b off,A=some ⟨b,off,none⟩∧b < w.heap.size∧w.rangeAt b (off+k * 15) (recL C)∧ChIn w C:=by
  obtain ⟨b,off,hA,hb,hc⟩:=h.2 (by have:=(List.getElem?_eq_some_iff.1 hC).1;have:=h.1;omega)
  exact ⟨b,off,hA,hb,hc k C hC⟩
def FewOk8 (L:List Ch):Prop:=L.length≤40∧∀ (k:Nat) (C:Ch),L[k]?=some C→C.R.ents.length≤100
def FewPost8 (L:List Ch) (w:World) (e:Ending) (w':World):Prop:=∃ b:Bool,e=.returned (.bool b)∧(b=true→FewOk8 L)∧Fr none_ w w'
theorem min_le (x:Int) (h:0≤x):∃ y:Int,(if 3001 < x then (3001:Int) else x)=y∧0≤y∧y≤3001:=⟨_,rfl,by split <;> omega,by split <;> omega⟩
theorem few_step {L:List Ch} {k m:Nat} {C:Ch} (h:m≤100→∀ (j:Nat) (D:Ch),j < k→L[j]?=some D→D.R.ents.length≤100) (hC:L[k]?=some C) :
    m+C.R.ents.length≤100→∀ (j:Nat) (D:Ch),j < k+1→L[j]?=some D→D.R.ents.length≤100:=fun hm j D hj hD=>by
  rcases Nat.lt_or_ge j k with h1 | h1
  · exact h (by omega) j D h1 hD
  · obtain rfl:j=k:=by omega
    rw [hC] at hD
    cases hD
    omega
set_option maxHeartbeats 4000000 in
theorem few8_ok (A:Option Addr) (n cap:Nat) (L:List Ch) (w:World) (h:InReads w A n L) (hm:n≤maxLen):Calls Tryz.prog 30 #[.slice A n cap] w (FewPost8 L w):=by
 unfold maxLen at hm
 have H:=hid_ h
 have hln:=h.1
 clear h
 go_enter Tryz.func30,Tryz.ntmps30
 go_wp2_with fail
 go_loopw [3,4,5] (fun a y i wr=>∃ (k m:Nat) (x:Int),k≤n∧k≤41∧i=.int .i64 k∧a=.int .i64 m∧y=.int .i64 x∧m≤k * 101∧0≤x∧x≤(k:Int) * 400000∧(m≤100→∀ (j:Nat) (C:Ch),j < k→L[j]?=some C→C.R.ents.length≤100)∧Fr none_ w wr) (fun _ _ i _=>n - (intOf i).toNat)
 case atStart=>exact ⟨0,0,0,Nat.zero_le _,by omega,rfl,rfl,rfl,by omega,by omega,by omega,fun _ j C hj=>by omega,Fr.refl _ _⟩
 case round =>
  obtain ⟨k,m,x,hk,hk41,rfl,rfl,rfl,hm1,hx0,hx1,hall,hfr⟩:=hrel
  have HA:=hid_ hall
  have F:=hid_ hfr
  clear hall hfr
  by_cases hlt:k < n
  ·obtain ⟨C,hC⟩:∃ C,L[k]?=some C:=⟨_,List.getElem?_eq_getElem (by omega)⟩
   obtain ⟨b,off,rfl,hb,hR,hO⟩:=(H.out.keep F.out).at_ hC
   have hi0:(0:Int)≤(k:Int):=Int.natCast_nonneg _
   have hi1:(k:Int) < (n:Int):=by omega
   by_cases h40:(k:Int)≤40
   ·have HD:=hid_ hC
    have r1:=hR 1 _ rfl
    have r2:=hR 2 _ rfl
    have r7:=hR 7 _ rfl
    have r12:=hR 12 _ rfl
    have z1:=hO.low.le
    have z2:=hO.high.le
    have z7:=hO.key.le
    have z12:=hO.hkey.le
    have HE:=hid_ hO.ents
    have hcap:=hO.cap
    have hcapm:=hO.capm
    unfold maxLen at hcapm
    obtain ⟨m1,e1,m1a,m1b⟩:=min_le (C.R.low.size:Int) (by omega)
    obtain ⟨m2,e2,m2a,m2b⟩:=min_le (C.R.high.size:Int) (by omega)
    obtain ⟨m3,e3,m3a,m3b⟩:=min_le (C.R.key.size:Int) (by omega)
    obtain ⟨m4,e4,m4a,m4b⟩:=min_le (C.R.hkey.size:Int) (by omega)
    clear hR hO hC
    go_wp2_with fail
    go_quiet (fail)
    go_wp2_with fail
    clear r1 r2 r7 r12 e1 e2 e3 e4 z1 z2 z7 z12
    have hs0:0≤x+(m3+m1+m2+m4):=by omega
    have hs1:x+(m3+m1+m2+m4)≤(k:Int) * 400000+12004:=by omega
    clear m1a m1b m2a m2b m3a m3b m4a m4b hx0 hx1
    go_loopw [3,4,6] (fun a y i wr=>∃ (t:Nat) (x':Int),t≤C.R.ents.length∧t≤101∧i=.int .i64 t∧a=.int .i64 ((m+t:Nat):Int)∧y=.int .i64 x'∧0≤x'∧x'≤(k:Int) * 400000+12004+(t:Int) * 3001∧Fr none_ w wr) (fun _ _ i _=>C.R.ents.length - (intOf i).toNat)
    case atStart=>exact ⟨0,_,Nat.zero_le _,by omega,rfl,rfl,rfl,by omega,by omega,F.out.drewN _⟩
    case round =>
     obtain ⟨t,x',ht,ht1,rfl,rfl,rfl,hx2,hx3,hfr⟩:=hrel
     have FX:=hid_ hfr
     clear hfr hb
     obtain ⟨b',off',e,hb,hR,hO⟩:=(H.out.keep FX.out).at_ HD.out
     obtain ⟨rfl,rfl⟩:b=b'∧off=off':=by injection e with e;injection e with e1 e2;exact ⟨e1,e2⟩
     clear e
     have r6:=hR 6 _ rfl
     have hj0:(0:Int)≤(t:Int):=Int.natCast_nonneg _
     by_cases hle:t < C.R.ents.length
     ·obtain ⟨p,hp⟩:∃ p,C.R.ents[t]?=some p:=⟨_,List.getElem?_eq_getElem hle⟩
      obtain ⟨b2,off2,eB,hb2,q0,q1⟩:=et_at hO.rd.2 hp
      have hj1:(t:Int) < (C.R.ents.length:Int):=by omega
      have zp:=(HE.out p (List.mem_of_getElem? hp)).le
      rw [eB] at r6
      clear hR hO hp
      by_cases h100:(t:Int)≤100
      ·obtain ⟨m5,e5,m5a,m5b⟩:=min_le (p.1.size:Int) (by omega)
       go_wp2_with fail
       go_roundw
       case rel=>exact ⟨t+1,_,by omega,by omega,by go_num,by go_num,rfl,by omega,by omega,FX.out⟩
       case measure=>simp [intOf];omega
      ·go_wp2_with fail
       go_roundw
       case rel=>exact ⟨k+1,m+t,x',by omega,by omega,by go_num,rfl,rfl,by omega,by omega,by omega,fun h=>by omega,FX.out⟩
       case measure=>simp [intOf];omega
     ·obtain rfl:t=C.R.ents.length:=by omega
      clear hR hO
      have hj1:¬ ((C.R.ents.length:Int) < (C.R.ents.length:Int)):=by omega
      go_wp2_with fail
      go_roundw
      case rel=>exact ⟨k+1,m+C.R.ents.length,x',by omega,by omega,by go_num,rfl,rfl,by omega,by omega,by omega,few_step HA.out HD.out,FX.out⟩
      case measure=>simp [intOf];omega
   ·obtain rfl:k=41:=by omega
    go_wp2
    go_ret
    exact ⟨false,rfl,(fun h=>by cases h),F.out⟩
  ·obtain rfl:k=n:=by omega
   have hall:m≤100→∀ (j:Nat) (C:Ch),L[j]?=some C→C.R.ents.length≤100:=fun h j D hD=>HA.out h j D (by have:=(List.getElem?_eq_some_iff.1 hD).1;omega) hD
   have HB:=hid_ hall
   clear hall
   by_cases g1:(k:Int)≤40
   ·by_cases g2:(m:Int)≤100
    ·by_cases g3:x≤3000
     ·go_wp2
      go_ret
      exact ⟨true,rfl,fun _=>⟨by omega,HB.out (by omega)⟩,F.out⟩
     ·go_wp2
      go_ret
      exact ⟨false,rfl,(fun h=>by cases h),F.out⟩
    ·go_wp2
     go_ret
     exact ⟨false,rfl,(fun h=>by cases h),F.out⟩
   ·go_wp2
    go_ret
    exact ⟨false,rfl,(fun h=>by cases h),F.out⟩
open Go.RowKit Go.ChangeShapes Go.WideShapes

theorem bytes_Row:Tryz.prog.bytesOf 143=32:=by kernel_rfl
theorem rows_conf2 {H:Type} {enc:TypeId × Value→H} {w:World} {v:Value} (h:Conf enc Tryz.prog w (.slice 28) v):∃ A n c L,v=.slice A n c∧n≤c∧c≤4398046511104∧RwReads w A n L:=by
  obtain ⟨fuel,d,ps,ht,hlt,hwt⟩:=h
  obtain ⟨A,n,c,rfl,h1,h2,h3,h4,h5⟩:=open_list 6 Tryz.underlying28 ht hlt hwt (by rw [leaves_Row];rfl) (by rw [leaves_Row,cells_Row];rfl)
  obtain ⟨L,hL⟩:=rows_of (Row_at h5)
  rw [bytes_Row] at h3
  unfold reachBytes at h3
  exact ⟨A,n,c,L,rfl,h1,by omega,hL⟩
theorem szOk_of {s:ByteArray} (h:s.size≤reachBytes):SzOk s:=by
  unfold SzOk
  unfold reachBytes at h
  omega
open Go.RowKit Go.ChangeShapes Go.WideShapes

def RwIn (L:List Ch):Prop:=∀ C ∈ L,SzOk C.R.val∧∀ p ∈ C.R.rows,SzOk p.1∧SzOk p.2
def FewOk7 (L:List Ch):Prop:=L.length≤40∧∀ (k:Nat) (C:Ch),L[k]?=some C→C.R.rows.length≤100
def FewPost7 (L:List Ch) (w:World) (e:Ending) (w':World):Prop:=∃ b:Bool,e=.returned (.bool b)∧(b=true→FewOk7 L)∧Fr none_ w w'
theorem few_step7 {L:List Ch} {k m:Nat} {C:Ch} (h:m≤100→∀ (j:Nat) (D:Ch),j < k→L[j]?=some D→D.R.rows.length≤100) (hC:L[k]?=some C) :
    m+C.R.rows.length≤100→∀ (j:Nat) (D:Ch),j < k+1→L[j]?=some D→D.R.rows.length≤100:=fun hm j D hj hD=>by
  rcases Nat.lt_or_ge j k with h1 | h1
  · exact h (by omega) j D h1 hD
  · obtain rfl:j=k:=by omega
    rw [hC] at hD
    cases hD
    omega
set_option maxHeartbeats 4000000 in
theorem few7_ok (A:Option Addr) (n cap:Nat) (L:List Ch) (w:World) (h:InReads w A n L) (hw:RwIn L) (hm:n≤maxLen):Calls Tryz.prog 29 #[.slice A n cap] w (FewPost7 L w):=by
 unfold maxLen at hm
 have HRL:Hid (∀ C ∈ L,C.R.rows.length≤4398046511104):=hid_ (fun C hC=>by obtain ⟨k,hk⟩:=List.mem_iff_getElem?.1 hC;obtain ⟨_,_,_,_,_,hO⟩:=h.at_ hk;exact hO.rows)
 have H:=hid_ h
 have HW:=hid_ hw
 have hln:=h.1
 clear h hw
 go_enter Tryz.func29,Tryz.ntmps29
 go_wp2_with fail
 go_loopw [3,4,5] (fun a y i wr=>∃ (k m:Nat) (x:Int),k≤n∧k≤41∧i=.int .i64 k∧a=.int .i64 m∧y=.int .i64 x∧m≤k * 101∧0≤x∧x≤(k:Int) * 700000∧(m≤100→∀ (j:Nat) (C:Ch),j < k→L[j]?=some C→C.R.rows.length≤100)∧Fr none_ w wr) (fun _ _ i _=>n - (intOf i).toNat)
 case atStart=>exact ⟨0,0,0,Nat.zero_le _,by omega,rfl,rfl,rfl,by omega,by omega,by omega,fun _ j C hj=>by omega,Fr.refl _ _⟩
 case round =>
  obtain ⟨k,m,x,hk,hk41,rfl,rfl,rfl,hm1,hx0,hx1,hall,hfr⟩:=hrel
  have HA:=hid_ hall
  have F:=hid_ hfr
  clear hall hfr
  by_cases hlt:k < n
  ·obtain ⟨C,hC⟩:∃ C,L[k]?=some C:=⟨_,List.getElem?_eq_getElem (by omega)⟩
   obtain ⟨b,off,rfl,hb,hR,hO⟩:=(H.out.keep F.out).at_ hC
   have hi0:(0:Int)≤(k:Int):=Int.natCast_nonneg _
   have hi1:(k:Int) < (n:Int):=by omega
   by_cases h40:(k:Int)≤40
   ·have HD:=hid_ hC
    have r1:=hR 1 _ rfl
    have r2:=hR 2 _ rfl
    have r7:=hR 7 _ rfl
    have r8:=hR 8 _ rfl
    have z1:=hO.low.le
    have z2:=hO.high.le
    have z7:=hO.key.le
    have z8:=(HW.out C (List.mem_of_getElem? hC)).1.le
    have HE:=hid_ (HW.out C (List.mem_of_getElem? hC)).2
    have hcap:=HRL.out C (List.mem_of_getElem? hC)
    obtain ⟨m1,e1,m1a,m1b⟩:=min_le (C.R.low.size:Int) (by omega)
    obtain ⟨m2,e2,m2a,m2b⟩:=min_le (C.R.high.size:Int) (by omega)
    obtain ⟨m3,e3,m3a,m3b⟩:=min_le (C.R.key.size:Int) (by omega)
    obtain ⟨m4,e4,m4a,m4b⟩:=min_le (C.R.val.size:Int) (by omega)
    clear hR hO hC
    go_wp2_with fail
    go_quiet (fail)
    go_wp2_with fail
    clear r1 r2 r7 r8 e1 e2 e3 e4 z1 z2 z7 z8
    have hs0:0≤x+(m3+m4+m1+m2):=by omega
    have hs1:x+(m3+m4+m1+m2)≤(k:Int) * 700000+12004:=by omega
    clear m1a m1b m2a m2b m3a m3b m4a m4b hx0 hx1
    go_loopw [3,4,6] (fun a y i wr=>∃ (t:Nat) (x':Int),t≤C.R.rows.length∧t≤101∧i=.int .i64 t∧a=.int .i64 ((m+t:Nat):Int)∧y=.int .i64 x'∧0≤x'∧x'≤(k:Int) * 700000+12004+(t:Int) * 6002∧Fr none_ w wr) (fun _ _ i _=>C.R.rows.length - (intOf i).toNat)
    case atStart=>exact ⟨0,_,Nat.zero_le _,by omega,rfl,rfl,rfl,by omega,by omega,F.out.drewN _⟩
    case round =>
     obtain ⟨t,x',ht,ht1,rfl,rfl,rfl,hx2,hx3,hfr⟩:=hrel
     have FX:=hid_ hfr
     clear hfr hb
     obtain ⟨b',off',e,hb,hR,hO⟩:=(H.out.keep FX.out).at_ HD.out
     obtain ⟨rfl,rfl⟩:b=b'∧off=off':=by injection e with e;injection e with e1 e2;exact ⟨e1,e2⟩
     clear e
     have r5:=hR 5 _ rfl
     have hj0:(0:Int)≤(t:Int):=Int.natCast_nonneg _
     by_cases hle:t < C.R.rows.length
     ·obtain ⟨p,hp⟩:∃ p,C.R.rows[t]?=some p:=⟨_,List.getElem?_eq_getElem hle⟩
      obtain ⟨b2,off2,eB,hb2,q0,q1⟩:=rw_at hO.rd.1 hp
      have hj1:(t:Int) < (C.R.rows.length:Int):=by omega
      have zp:=(HE.out p (List.mem_of_getElem? hp)).1.le
      have zp2:=(HE.out p (List.mem_of_getElem? hp)).2.le
      rw [eB] at r5
      clear hR hO hp
      by_cases h100:(t:Int)≤100
      ·obtain ⟨m5,e5,m5a,m5b⟩:=min_le (p.1.size:Int) (by omega)
       obtain ⟨m6,e6,m6a,m6b⟩:=min_le (p.2.size:Int) (by omega)
       go_wp2_with fail
       go_quiet (fail)
       go_wp2_with fail
       go_roundw
       case rel=>exact ⟨t+1,_,by omega,by omega,by go_num,by go_num,rfl,by omega,by omega,by repeat (first | exact FX.out | apply Fr.drewN | apply Fr.drew)⟩
       case measure=>simp [intOf];omega
      ·go_wp2_with fail
       go_roundw
       case rel=>exact ⟨k+1,m+t,x',by omega,by omega,by go_num,rfl,rfl,by omega,by omega,by omega,fun h=>by omega,FX.out⟩
       case measure=>simp [intOf];omega
     ·obtain rfl:t=C.R.rows.length:=by omega
      clear hR hO
      have hj1:¬ ((C.R.rows.length:Int) < (C.R.rows.length:Int)):=by omega
      go_wp2_with fail
      go_roundw
      case rel=>exact ⟨k+1,m+C.R.rows.length,x',by omega,by omega,by go_num,rfl,rfl,by omega,by omega,by omega,few_step7 HA.out HD.out,FX.out⟩
      case measure=>simp [intOf];omega
   ·obtain rfl:k=41:=by omega
    go_wp2
    go_ret
    exact ⟨false,rfl,(fun h=>by cases h),F.out⟩
  ·obtain rfl:k=n:=by omega
   have hall:m≤100→∀ (j:Nat) (C:Ch),L[j]?=some C→C.R.rows.length≤100:=fun h j D hD=>HA.out h j D (by have:=(List.getElem?_eq_some_iff.1 hD).1;omega) hD
   have HB:=hid_ hall
   clear hall
   by_cases g1:(k:Int)≤40
   ·by_cases g2:(m:Int)≤100
    ·by_cases g3:x≤3000
     ·go_wp2
      go_ret
      exact ⟨true,rfl,fun _=>⟨by omega,HB.out (by omega)⟩,F.out⟩
     ·go_wp2
      go_ret
      exact ⟨false,rfl,(fun h=>by cases h),F.out⟩
    ·go_wp2
     go_ret
     exact ⟨false,rfl,(fun h=>by cases h),F.out⟩
   ·go_wp2
    go_ret
    exact ⟨false,rfl,(fun h=>by cases h),F.out⟩
open Go.RowKit Go.BigFrame

def NB (V:Vw) (page:Int) (k:Nat):Prop:=∀ (j:Nat) (p:Et),1≤j→j < k→V.ents[j]?=some p→p.2≠page
open Go.RowKit Go.BigFrame

structure Pz where
  n:Int
  hs:Int
  hg:Int
  C:Option Addr
  nc:Nat
  x:Nat
  vr:Value
  leaf:Bool
  lv:Lw
  A:Option Addr
  c:Nat
  iv:Vw
  B:Option Addr
  d:Nat
abbrev pzA (P:Pz):Array Value:=pgA P.n P.hs P.hg (.slice P.C P.nc P.x) P.vr P.leaf P.lv (.slice P.A P.lv.rows.length P.c) P.iv (.slice P.B P.iv.ents.length P.d)
def Pz.low (P:Pz):ByteArray:=if P.leaf then P.lv.low else P.iv.low
def Pz.high (P:Pz):ByteArray:=if P.leaf then P.lv.high else P.iv.high
def Pz.unb (P:Pz):Bool:=if P.leaf then P.lv.unb else P.iv.unb
def Pz.right (P:Pz):Int:=if P.leaf then P.lv.right else P.iv.right
def Pz.size (P:Pz):Nat:=P.lv.rows.length+P.iv.ents.length
theorem results_tmp4 {fn:Func} {t u v x:Tmp} (h:fn.results=#[.tmp t,.tmp u,.tmp v,.tmp x]) (tmps:Array Value) (P:Program) (w:World) :
    (results fn tmps).run P w=.ok (.tuple #[tmps.getD t undef,tmps.getD u undef,tmps.getD v undef,tmps.getD x undef]) w:=by
  simp [results,h]
abbrev RetQ (v:Value) (w:World) (e:Ending) (w':World):Prop:=e=.returned v∧Fr none_ w w'
set_option maxHeartbeats 4000000 in
theorem bounds_ok (P:Pz) (w:World):Calls Tryz.prog 13 #[.agg (pzA P)] w (RetQ (.tuple #[.string P.low,.string P.high,.bool P.unb,.int .i64 P.right]) w):=by
  obtain ⟨w0,hw0⟩:∃ z,z=w.alloc (.cells (pzA P) 40):=⟨_,rfl⟩
  have f0:Fr none_ w w0:=by rw [hw0];exact (Fr.refl none_ w).alloc _
  have B0:Hid (Blk w0 w.heap.size 40 (pzA P)):=hid_ (by rw [hw0];exact Blk.new w _ _)
  have F0:=hid_ f0
  clear f0
  go_enter Tryz.func13,Tryz.ntmps13
  go_upto_region 1 with fail
  change Code.wp _ _ _ _ (w.alloc (.cells (pzA P) 40))
  rw [← hw0]
  clear hw0
  have p5:w0.cell? ⟨w.heap.size,5,none⟩=some (.bool P.leaf):=B0.out.cell' rfl
  have p6:w0.cell? ⟨w.heap.size,6,none⟩=some (.string P.lv.low):=B0.out.cell' rfl
  have p7:w0.cell? ⟨w.heap.size,7,none⟩=some (.string P.lv.high):=B0.out.cell' rfl
  have p8:w0.cell? ⟨w.heap.size,8,none⟩=some (.bool P.lv.unb):=B0.out.cell' rfl
  have p9:w0.cell? ⟨w.heap.size,9,none⟩=some (.int .i64 P.lv.right):=B0.out.cell' rfl
  have p12:w0.cell? ⟨w.heap.size,12,none⟩=some (.string P.iv.low):=B0.out.cell' rfl
  have p13:w0.cell? ⟨w.heap.size,13,none⟩=some (.string P.iv.high):=B0.out.cell' rfl
  have p14:w0.cell? ⟨w.heap.size,14,none⟩=some (.bool P.iv.unb):=B0.out.cell' rfl
  have p15:w0.cell? ⟨w.heap.size,15,none⟩=some (.int .i64 P.iv.right):=B0.out.cell' rfl
  cases hl:P.leaf with
  | true =>
    rw [hl] at p5
    have HL:=hid_ hl
    clear hl
    go_wp2_with fail
    go_quiet (fail)
    go_wp2
    (try simp only [Exit.inBlock,Exit.then])
    refine bodyPost_ret (results_tmp4 rfl _ _ _) rfl ?_
    exact ⟨by simp [Pz.low,Pz.high,Pz.unb,Pz.right,HL.out],by repeat (first | exact F0.out | apply Fr.drewN | apply Fr.drew)⟩
  | false =>
    rw [hl] at p5
    have HL:=hid_ hl
    clear hl
    go_wp2_with fail
    go_quiet (fail)
    go_wp2
    (try simp only [Exit.inBlock,Exit.then])
    refine bodyPost_ret (results_tmp4 rfl _ _ _) rfl ?_
    exact ⟨by simp [Pz.low,Pz.high,Pz.unb,Pz.right,HL.out],by repeat (first | exact F0.out | apply Fr.drewN | apply Fr.drew)⟩
set_option maxHeartbeats 4000000 in
theorem phas_ok (P:Pz) (key:ByteArray) (w:World) (h1:SzOk P.low) (h2:SzOk P.high) (h3:SzOk key):Calls Tryz.prog 15 #[.agg (pzA P),.string key] w (RetQ (.bool (inS P.low P.high P.unb key)) w):=by
  obtain ⟨w0,hw0⟩:∃ z,z=w.alloc (.cells (pzA P) 40):=⟨_,rfl⟩
  have f0:Fr none_ w w0:=by rw [hw0];exact (Fr.refl none_ w).alloc _
  have B0:Hid (Blk w0 w.heap.size 40 (pzA P)):=hid_ (by rw [hw0];exact Blk.new w _ _)
  have F0:=hid_ f0
  have HS:=hid_ (And.intro h1 (And.intro h2 h3))
  clear f0 h1 h2 h3
  go_enter Tryz.func15,Tryz.ntmps15
  go_upto_region 1 with fail
  change Code.wp _ _ _ _ (w.alloc (.cells (pzA P) 40))
  rw [← hw0]
  clear hw0
  go_wp2_with (refine wpList_load_mid rfl 40 (.tmp 2) rfl w.heap.size 0 rfl (pzA P).toList _ (Blk.range7 (l:=(pzA P).toList) B0.out) Tryz.underlying40 rfl page_size ?_)
  refine (bounds_ok P w0).mono ?_
  rintro e w1 ⟨rfl,hf⟩
  replace F0:=hid_ (F0.out.then_none hf)
  clear hf
  go_wp2_with fail
  refine (in_ok P.low P.high P.unb key _ HS.out.1.le HS.out.2.1.le HS.out.2.2.le).mono ?_
  rintro e w2 ⟨rfl,q,rfl⟩
  go_wp2
  go_ret
  exact ⟨rfl,F0.out.drewN q⟩
open Go.RowKit Go.BigFrame

structure L6 where
  a0:Int
  a1:Int
  a2:Int
  rows:Int
  chain:Int
  a5:Int
open Go.RowKit Go.BigFrame

theorem wpList_load_midG {P:Program} {ops:Array Oper} {rest:List Oper} {op:Oper} {a:Act} {w:World} {Q:Exit→Act→World→Prop} (hw:Region.wanted op (yielded ops a.tmps)=true) (ty:TypeId) (x:Operand) (ho:op.op=.load ty x)
    (b o:Nat) (hx:a.eval x=.pointer (some ⟨b,o,none⟩)) (cs:List Value) (d:TypeDesc) (hc:w.rangeAt b o cs)
    (hu:P.underlying ty=some d) (hd:d.isRow=true) (hi:(P.info? ty).map (·.size)=some cs.length)
    (h:wpList P ops Q rest (a.put op.dst (.agg cs.toArray)) w):wpList P ops Q (op :: rest) a w:=by
  unfold wpList
  rw [if_pos hw]
  exact .inl (wp_load_mid ty x ho b o hx cs d hc hu hd hi h)
open Go.RowKit Go.BigFrame Go.ChangeShapes Go.WideShapes

set_option maxHeartbeats 1000000 in
theorem ins_of2 {H:Type} {enc:TypeId × Value→H} {w:World} {A:Option Addr} {n:Nat} (h:RecordAt enc w A n):∃ L,InReads w A n L∧RwIn L:=by
 rcases Nat.eq_zero_or_pos n with h0 | h0
 ·subst h0;exact ⟨[],⟨rfl,fun h=>absurd h (by omega)⟩,fun C hC=>by simp at hC⟩
 ·obtain ⟨b,off,hA,hb,hc⟩:=h h0
  obtain ⟨L,hl,hL⟩:=choose_list (α:=Ch) (P:=fun k C=>(w.rangeAt b (off+k * 15) (recL C)∧ChIn w C)∧(SzOk C.R.val∧∀ p ∈ C.R.rows,SzOk p.1∧SzOk p.2)) n (fun k hk=>by
   obtain ⟨x0,x1,x2,x3,x4,x5,x6,x7,x8,x9,x10,x11,x12,x13,x14,w0,w1,w2,w4,w5,w6,w7,w8,w9,w10,w11,w12,w13,w14,h0,h1,h2,h3,h4,h5,h6,h7,h8,h9,h10,h11,h12,h13,h14⟩:=hc k hk
   obtain ⟨A5,n5,c5,L5,rfl,q1,q2,r5⟩:=rows_conf2 w5
   obtain ⟨A6,n6,c6,L6,rfl,p1,p2,-,r6⟩:=ents_conf w6
   have ks:∀ p ∈ L6,SzOk p.1:=fun p hp=>by
    obtain ⟨j,hj⟩:=List.mem_iff_getElem?.1 hp
    obtain ⟨_,_,_,_,hc⟩:=r6.2 (by have:=(List.getElem?_eq_some_iff.1 hj).1;have:=r6.1;omega)
    exact szOk_of (hc j p hj).1.1
   have kr:∀ p ∈ L5,SzOk p.1∧SzOk p.2:=fun p hp=>by
    obtain ⟨j,hj⟩:=List.mem_iff_getElem?.1 hp
    obtain ⟨_,_,_,_,hc⟩:=r5.2 (by have:=(List.getElem?_eq_some_iff.1 hj).1;have:=r5.1;omega)
    exact ⟨szOk_of (hc j p hj).1.1,szOk_of (hc j p hj).1.2⟩
   obtain rfl:=r5.1
   obtain rfl:=r6.1
   refine ⟨⟨⟨x0,x1,x2,x3,x4,L5,L6,x7,x8,x9,x10,x11,x12,x13,x14⟩,A5,c5,A6,c6⟩,⟨fun j v hv=>?_,⟨r5.reads,r6.reads⟩,szOk_of w1,szOk_of w2,szOk_of w7,szOk_of w12,ks,p1,p2,by show L5.length≤_;omega⟩,szOk_of w8,kr⟩
   match j,hv with
   | 0,hv=>have e:some (.int .i64 x0)=some v:=hv;rw [← Option.some.inj e];exact h0
   | 1,hv=>have e:some (.string x1)=some v:=hv;rw [← Option.some.inj e];exact h1
   | 2,hv=>have e:some (.string x2)=some v:=hv;rw [← Option.some.inj e];exact h2
   | 3,hv=>have e:some (.bool x3)=some v:=hv;rw [← Option.some.inj e];exact h3
   | 4,hv=>have e:some (.int .i64 x4)=some v:=hv;rw [← Option.some.inj e];exact h4
   | 5,hv=>have e:some (.slice A5 L5.length c5)=some v:=hv;rw [← Option.some.inj e];exact h5
   | 6,hv=>have e:some (.slice A6 L6.length c6)=some v:=hv;rw [← Option.some.inj e];exact h6
   | 7,hv=>have e:some (.string x7)=some v:=hv;rw [← Option.some.inj e];exact h7
   | 8,hv=>have e:some (.string x8)=some v:=hv;rw [← Option.some.inj e];exact h8
   | 9,hv=>have e:some (.int .i64 x9)=some v:=hv;rw [← Option.some.inj e];exact h9
   | 10,hv=>have e:some (.int .i64 x10)=some v:=hv;rw [← Option.some.inj e];exact h10
   | 11,hv=>have e:some (.int .i64 x11)=some v:=hv;rw [← Option.some.inj e];exact h11
   | 12,hv=>have e:some (.string x12)=some v:=hv;rw [← Option.some.inj e];exact h12
   | 13,hv=>have e:some (.int .i64 x13)=some v:=hv;rw [← Option.some.inj e];exact h13
   | 14,hv=>have e:some (.int .i64 x14)=some v:=hv;rw [← Option.some.inj e];exact h14
   | j+15,hv=>simp at hv)
  exact ⟨L,⟨hl,fun _=>⟨b,off,hA,hb,fun k C hC=>(hL k C hC).1⟩⟩,fun C hC=>by obtain ⟨k,hk⟩:=List.mem_iff_getElem?.1 hC;exact (hL k C hk).2⟩
open Go.RowKit Go.BigFrame

section
variable {P:Program} {md:Region.Mode} {ops:Array Oper} {Q:Exit→Act→World→Prop} {S:World→Prop}
end
theorem VwIn.farZ {w w':World} {V:Vw} {A:Option Addr} {c X:Nat} (h:VwIn w V A c) (hX:Blk w X 40 pgZ) (hf:Fr (only X) w w'):VwIn w' V A c:=
  h.farP (n:=0) (hs:=0) (hg:=0) (vc:=.slice none 0 0) (vr:=.slice none 0 0) (leaf:=false) (lv:=Lw.zero) (sl:=.slice none 0 0) (iv:=Vw.zero) (si:=.slice none 0 0) hX ⟨_,_,_,rfl⟩ ⟨_,_,_,rfl⟩ ⟨_,_,_,rfl⟩ hf
theorem few_ents {L:List Ch} (h:FewOk8 L):∀ C ∈ L,C.R.ents.length≤100:=fun C hC=>by obtain ⟨k,hk⟩:=List.mem_iff_getElem?.1 hC;exact h.2 k C hk
theorem few_rows {L:List Ch} (h:FewOk7 L) (hw:RwIn L):RwOkL L:=fun C hC=>by
  obtain ⟨k,hk⟩:=List.mem_iff_getElem?.1 hC
  have:=h.2 k C hk
  exact ⟨(hw C hC).1,⟨by omega,(hw C hC).2⟩,by omega⟩
open Go.RowKit Go.BigFrame
section
structure Qw7 (P:Program) (ops:Array Oper) (C:World→Prop) (Q:Act→Prop) (l:List Oper) (a:Act):Prop where
  h:wpQuiet P ops C Q l a
variable {P:Program} {ops:Array Oper} {C:World→Prop} {Q:Act→Prop} {a:Act} {o:Oper} {rest:List Oper}
theorem q_skip7 (d:Option Tmp) (hd:o.dst=d) (hw:Region.wanted o (yielded ops a.tmps)=false) (h:Qw7 P ops C Q rest (a.put d undef)):Qw7 P ops C Q (o :: rest) a:=by
  subst hd
  exact ⟨wpQuiet_skip hw h.h⟩
theorem q_val7 (d:Option Tmp) (v:Value) (hd:o.dst=d) (hw:Region.wanted o (yielded ops a.tmps)=true) (hx:∀ w,C w→(execOp a.eval o).run P w=.ok (.value v) w) (h:Qw7 P ops C Q rest (a.put d v)):Qw7 P ops C Q (o :: rest) a:=by
  subst hd
  refine ⟨wpQuiet_want hw fun K hK=>⟨v,fun w hC=>?_,hK _ h.h⟩⟩
  unfold Oper.quietAt
  rw [hx w hC]
  exact ⟨rfl,rfl⟩
theorem q_call7 (d:Option Tmp) (v:Value) (f:FuncId) (vs:Array Value) (hd:o.dst=d) (hw:Region.wanted o (yielded ops a.tmps)=true) (hx:∀ w,C w→(execOp a.eval o).run P w=.ok (.enter f vs) w) (hc:∀ w,C w→Calls P f vs w fun e w'=>e=.returned v∧C w') (h:Qw7 P ops C Q rest (a.put d v)):Qw7 P ops C Q (o :: rest) a:=by
  subst hd
  refine ⟨wpQuiet_want hw fun K hK=>⟨v,fun w hC=>?_,hK _ h.h⟩⟩
  unfold Oper.quietAt
  rw [hx w hC]
  exact ⟨rfl,hc w hC⟩
theorem run_loadAt_cell7 (w:World) (ad:Addr) (ty:TypeId) (v:Value) (d:TypeDesc) (hc:w.cell? ad=some v) (hu:P.underlying ty=some d) (hd:d.isRow=false) :
    (Instr.loadAt ty (.pointer (some ad))).run P w=.ok v w:=by
  have hagg:(isAgg ty).run P w=.ok false w:=by
    unfold isAgg
    rw [Sem.run_bind,run_underlying hu w]
    cases d <;> simp_all
  have hl:(load ad).run P w=.ok v w:=by
    rw [run_load,hc]
  simp only [Instr.loadAt,Instr.sureAddr,loadVar,Sem.run_bind,Sem.run_pure,Result.andThen_ok,hagg,Bool.false_eq_true,if_false,hl]
theorem q_cell7 (d:Option Tmp) (v:Value) (ty:TypeId) (x:Operand) (ad:Addr) (td:TypeDesc) (hd:o.dst=d) (hw:Region.wanted o (yielded ops a.tmps)=true) (ho:o.op=.load ty x) (hx:a.eval x=.pointer (some ad)) (hc:∀ w,C w→w.cell? ad=some v) (hu:P.underlying ty=some td) (hr:td.isRow=false) (h:Qw7 P ops C Q rest (a.put d v)):Qw7 P ops C Q (o :: rest) a:=
  q_val7 d v hd hw (fun w hC=>by
    unfold execOp
    simp only [ho,hx,Sem.run_bind,Sem.run_pure,Result.andThen_ok,run_loadAt_cell7 w ad ty v td (hc w hC) hu hr]) h
theorem q_mid7 (d:Option Tmp) (cs:List Value) (ty:TypeId) (x:Operand) (b off:Nat) (td:TypeDesc) (hd:o.dst=d) (hw:Region.wanted o (yielded ops a.tmps)=true) (ho:o.op=.load ty x) (hx:a.eval x=.pointer (some ⟨b,off,none⟩)) (hc:∀ w,C w→w.rangeAt b off cs) (hu:P.underlying ty=some td) (hr:td.isRow=true) (hi:(P.info? ty).map (·.size)=some cs.length) (h:Qw7 P ops C Q rest (a.put d (.agg cs.toArray))):Qw7 P ops C Q (o :: rest) a:=
  q_val7 d _ hd hw (fun w hC=>by
    unfold execOp
    simp only [ho,hx,Sem.run_bind,Sem.run_pure,Result.andThen_ok,run_loadAt_mid w b off ty cs td (hc w hC) hu hr hi]) h
theorem q_done7 (h:Q a):Qw7 P ops C Q [] a:=⟨h⟩
theorem wp_region_q7 (C:World→Prop) {id:Nat} {K:Exit→Act→World→Prop} {l:List Oper} {w:World} (hm:P.follows .mixedOrders=true) (hB:Region.lexB .any l.toArray=true) (h0:C w.drew)
    (h:Qw7 P l.toArray C (fun a'=>∀ w',C w'→K .normal a' w') l a):(Code.region id l.toArray true).wp P K a w:=
  wp_region_quiet (C:=C) hm hB h0 (by simpa using h.h)
theorem q_bool7 (d:Option Tmp) (b c:Bool) (hbc:b=c) (hd:o.dst=d) (hw:Region.wanted o (yielded ops a.tmps)=true) (hx:∀ w,C w→(execOp a.eval o).run P w=.ok (.value (.bool b)) w) (h:Qw7 P ops C Q rest (a.put d (.bool c))):Qw7 P ops C Q (o :: rest) a:=
  q_val7 d (.bool c) hd hw (fun w hC=>by rw [← hbc];exact hx w hC) h
end
open Go.RowKit
theorem run_sliceHi {n m c:Nat} {A:Option Addr} (t e:TypeId) (hu:Tryz.prog.underlying t=some (.slice e)) (hs:∀ w,(sizeOf e).run Tryz.prog w=.ok 2 w) (hb:n≤c) (w:World) :
    (Instr.sliceAt t (.slice A m c) none (some (.int .i64 n)) none).run Tryz.prog w=.ok (.slice A n c) w:=by
  have h1:(n:Int)≤(c:Int):=by omega
  have h0:(0:Int)≤(n:Int):=Int.natCast_nonneg _
  simp [hu,go_sem,h1,h0,hs]
theorem run_sliceLo {n m c:Nat} {A:Option Addr} (t e:TypeId) (hu:Tryz.prog.underlying t=some (.slice e)) (hs:∀ w,(sizeOf e).run Tryz.prog w=.ok 2 w) (hb:n≤m) (hc:m≤c) (w:World) :
    (Instr.sliceAt t (.slice A m c) (some (.int .i64 n)) none none).run Tryz.prog w=.ok (.slice (if c=n then A else A.map (·.add (n * 2))) (m - n) (c - n)) w:=by
  have h1:(n:Int)≤(c:Int):=by omega
  have h2:(n:Int)≤(m:Int):=by omega
  have h0:(0:Int)≤(n:Int):=Int.natCast_nonneg _
  simp [hu,go_sem,h0,h2,hs]
section
variable {ops:Array Oper} {S:World→Prop} {a:Act} {oi:Oper}
theorem y_sliceHi {n m c:Nat} {A:Option Addr} (t:TypeId) (x h:Operand) (e:TypeId) (hw:Region.wanted oi (yielded ops a.tmps)=true) (ho:oi.op=.slice t x none (some h) none) (hu:Tryz.prog.underlying t=some (.slice e)) (hs:∀ w,(sizeOf e).run Tryz.prog w=.ok 2 w)
    (hx:a.eval x=.slice A m c) (hh:a.eval h=.int .i64 n) (hb:n≤c):YieldsIf Tryz.prog ops S oi (.slice A n c) a:=.inl ⟨hw,fun w hS=>by
  unfold execOp
  simp only [ho,Option.map_none,Option.map_some,hx,hh,Sem.run_bind,Sem.run_pure,Result.andThen_ok,run_sliceHi t e hu hs hb]⟩
theorem y_int {P:Program} {x y:Int} (hxy:x=y) (hw:Region.wanted oi (yielded ops a.tmps)=true) (hx:∀ w,S w→(execOp a.eval oi).run P w=.ok (.value (.int .i64 x)) w):YieldsIf P ops S oi (.int .i64 y) a:=.inl ⟨hw,fun w hS=>by rw [← hxy];exact hx w hS⟩
theorem y_sliceLo {n m c:Nat} {A:Option Addr} (t:TypeId) (x h:Operand) (e:TypeId) (hw:Region.wanted oi (yielded ops a.tmps)=true) (ho:oi.op=.slice t x (some h) none none) (hu:Tryz.prog.underlying t=some (.slice e)) (hs:∀ w,(sizeOf e).run Tryz.prog w=.ok 2 w)
    (hx:a.eval x=.slice A m c) (hh:a.eval h=.int .i64 n) (hb:n≤m) (hc:m≤c):YieldsIf Tryz.prog ops S oi (.slice (if c=n then A else A.map (·.add (n * 2))) (m - n) (c - n)) a:=.inl ⟨hw,fun w hS=>by
  unfold execOp
  simp only [ho,Option.map_none,Option.map_some,hx,hh,Sem.run_bind,Sem.run_pure,Result.andThen_ok,run_sliceLo t e hu hs hb hc]⟩
theorem ent_sz:∀ w,(sizeOf 59).run Tryz.prog w=.ok 2 w:=fun w=>by kernel_rfl
variable {P:Program} {md:Region.Mode} {Q:Exit→Act→World→Prop} {m fuel:Nat} {listed:Array Bool} {w:World}
theorem u_run (i:Nat) (d:Option Tmp) (v:Value) (w2:World) (hi:ops[i]?=some oi) (hd:oi.dst=d) (hw:Region.wanted oi (yielded ops a.tmps)=true) (hr:Region.ready md ops listed=[i])
    (hx:(execOp a.eval oi).run P w=.ok (.value v) w2) (hS:m≤i∨S w2) (h:UwA P md ops Q S m fuel (listed.setIfInBounds i true) (a.put d v) w2):UwA P md ops Q S m (fuel+1) listed a w:=by
  subst hd
  refine u_one i hi hw hr ?_
  unfold Oper.wp
  rw [hx,Oper.upon_value]
  exact ⟨hS,h⟩
theorem wp_known {K:Act→World→Prop} (v:Value) (w2:World) (hx:(execOp a.eval oi).run P w=.ok (.value v) w2) (h:K (a.put oi.dst v) w2):Oper.wp P oi a w K Q:=by
  unfold Oper.wp
  rw [hx,Oper.upon_value]
  exact h
theorem q_int7 {o:Oper} {rest:List Oper} {C:World→Prop} {R:Act→Prop} (d:Option Tmp) (x y:Int) (hxy:x=y) (hd:o.dst=d) (hw:Region.wanted o (yielded ops a.tmps)=true) (hx:∀ w,C w→(execOp a.eval o).run P w=.ok (.value (.int .i64 x)) w) (h:Qw7 P ops C R rest (a.put d (.int .i64 y))):Qw7 P ops C R (o :: rest) a:=
  q_val7 d (.int .i64 y) hd hw (fun w hC=>by rw [← hxy];exact hx w hC) h
theorem ex_max (x:Operand) (t1 t2:TypeId) (k:Int) (ho:oi.op=.call { callee:=.builtin .max,args:=#[x,.const (.int .i64 0)],argTypes:=#[t1,t2] }) (hx:a.eval x=.int .i64 k) (hk:0≤k) (w:World):(execOp a.eval oi).run Tryz.prog w=.ok (.value (.int .i64 k)) w:=by
  unfold execOp
  simp only [ho,resolve,invoke,builtin,Sem.run_bind,Sem.run_pure,Result.andThen_ok,List.map_toArray,List.map_cons,List.map_nil,hx]
  rw [show a.eval (.const (.int .i64 0))=Value.int .i64 0 from rfl]
  have h1:¬ k < 0:=by omega
  simp [go_sem,Builtin.max_,Builtin.max2,h1]
theorem ex_index (t e:TypeId) (x y:Operand) (b off n m c:Nat) (ho:oi.op=.indexAddr t x y) (hx:a.eval x=.slice (some ⟨b,off,none⟩) m c) (hy:a.eval y=.int .i64 n) (hu:Tryz.prog.underlying t=some (.slice e)) (hs:∀ w,(sizeOf e).run Tryz.prog w=.ok 2 w) (hn:n < m) (w:World) :
    (execOp a.eval oi).run Tryz.prog w=.ok (.value (.pointer (some ⟨b,off+n * 2,none⟩))) w:=by
  unfold execOp
  simp only [ho,hx,hy,Sem.run_bind,Sem.run_pure]
  have h0:(0:Int)≤(n:Int):=Int.natCast_nonneg _
  have h1:(n:Int) < (m:Int):=by omega
  simp [go_sem,hu,hs,h0,h1]
theorem u_two {oj:Oper} (i j:Nat) (hi:ops[i]?=some oi) (hj:ops[j]?=some oj) (wi:Region.wanted oi (yielded ops a.tmps)=true) (wj:Region.wanted oj (yielded ops a.tmps)=true) (hr:Region.ready md ops listed=[i,j])
    (h1:Oper.wp P oi a w (fun a' w'=>(m≤i∨S w')∧UwA P md ops Q S m fuel (listed.setIfInBounds i true) a' w') Q)
    (h2:Oper.wp P oj a w (fun a' w'=>(m≤j∨S w')∧UwA P md ops Q S m fuel (listed.setIfInBounds j true) a' w') Q):UwA P md ops Q S m (fuel+1) listed a w:=
  ⟨wpAnyU_two7 hi hj wi wj hr (Oper.wp_mono (fun a' w' h'=>⟨h'.1,h'.2.h⟩) h1) (Oper.wp_mono (fun a' w' h'=>⟨h'.1,h'.2.h⟩) h2)⟩
end
open Go.RowKit
open Go
section
variable {P:Program} {md:Region.Mode} {ops:Array Oper} {Q:Exit→Act→World→Prop} {S:World→Prop}
def wpAnyV (P:Program) (md:Region.Mode) (ops:Array Oper) (Q:Exit→Act→World→Prop) (S:World→Prop) (m:Nat):Nat→Array Bool→Act→World→Prop
  | 0,listed,a,w=>Region.ready md ops listed=[]∧Q .normal a w
  | fuel+1,listed,a,w =>
    (Region.ready md ops listed=[]→Q .normal a w) ∧
    ∀ i ∈ Region.ready md ops listed,wpOp P ops Q i (fun a' w'=>(m≤i∨(S w→S w'))∧wpAnyV P md ops Q S m fuel (listed.setIfInBounds i true) a' w') a w
theorem wpAny_of_V {m:Nat}:∀ (fuel:Nat) (listed:Array Bool) (a:Act) (w:World),wpAnyV P md ops Q S m fuel listed a w→wpAny P md ops Q fuel listed a w
  | 0,_,_,_,h=>h
  | fuel+1,_,_,_,h=>⟨h.1,fun i hi=>wpOp_mono (fun a' w' h'=>wpAny_of_V fuel _ a' w' h'.2) (h.2 i hi)⟩
theorem wpAnyV_of_U {m:Nat}:∀ (fuel:Nat) (listed:Array Bool) (a:Act) (w:World),wpAnyU P md ops Q S m fuel listed a w→wpAnyV P md ops Q S m fuel listed a w
  | 0,_,_,_,h=>h
  | fuel+1,_,_,_,h=>⟨h.1,fun i hi=>wpOp_mono (fun a' w' h'=>⟨h'.1.imp_right (fun hs _=>hs),wpAnyV_of_U fuel _ a' w' h'.2⟩) (h.2 i hi)⟩
theorem wpAnyV_pure {m i:Nat} {oi:Oper} {v:Value} (hi:ops[i]?=some oi) (hsel:∀ (j:Nat) (o:Oper) cs b,ops[j]?=some o→o.op≠.select cs b)
    (hQ:∀ c a w,Q (.panic c) (a.put oi.dst v) w→Q (.panic c) a w) :
    ∀ (fuel:Nat) (listed:Array Bool) (a:Act) (w:World),
      (∀ j oj,ops[j]?=some oj→j≠i→listed.getD j true=false→(∀ e ∈ oj.after,Region.binds md e=true→e.on≠i)→oi.apart ops oj=true) →
      i ∈ Region.ready md ops listed→YieldsIf P ops (fun _=>True) oi v a →
      wpAnyV P md ops Q S m fuel (listed.setIfInBounds i true) (a.put oi.dst v) w→wpAnyV P md ops Q S m (fuel+1) listed a w:=by
  intro fuel
  induction fuel with
  | zero =>
    intro listed a w _ hr hy H
    refine ⟨fun h=>(by rw [h] at hr;cases hr),fun j hj=>?_⟩
    by_cases hji:j=i
    · subst hji;exact hy.wpOp hi trivial ⟨.inr id,H⟩
    · have:=ready_mono hj hji
      rw [H.1] at this
      cases this
  | succ fuel ih =>
    intro listed a w hfree hr hy H
    refine ⟨fun h=>(by rw [h] at hr;cases hr),fun j hj=>?_⟩
    by_cases hji:j=i
    · subst hji;exact hy.wpOp hi trivial ⟨.inr id,H⟩
    · have h1:=H.2 j (ready_mono hj hji)
      obtain ⟨hjun,oj,hoj,hall⟩:=mem_ready.1 hj
      have hnot:∀ e ∈ oj.after,Region.binds md e=true→e.on≠i:=fun e he hb heq=>by
        have h1:=hall e he hb
        have h0:=(mem_ready.1 hr).1
        rw [heq] at h1
        rcases Nat.lt_or_ge i listed.size with h' | h'
        · simp [h'] at h0 h1;rw [h0] at h1;cases h1
        · simp [Array.getElem?_eq_none h'] at h1
      have h2:=wpOp_putIf hoj (hfree j oj hoj hji hjun hnot) (fun cs b=>hsel i oi cs b hi) (fun cs b=>hsel j oj cs b hoj) hQ hy h1
      have hfree':∀ k ok,ops[k]?=some ok→k≠i→(listed.setIfInBounds j true).getD k true=false →
          (∀ e ∈ ok.after,Region.binds md e=true→e.on≠i)→oi.apart ops ok=true:=fun k ok hk hki hun hno=>by
        refine hfree k ok hk hki ?_ hno
        by_cases hjk:j=k
        · subst hjk;exact hjun
        · rw [getD_set_ne true hjk] at hun;exact hun
      refine wpOp_mono (fun a' w' h3=>?_) h2
      refine ⟨h3.2.1,ih (listed.setIfInBounds j true) a' w' hfree' (ready_mono hr (Ne.symm hji)) h3.1 ?_⟩
      rw [Array.setIfInBounds_comm _ _ hji]
      exact h3.2.2
theorem wp_region_u1 (m:Nat) (S:World→Prop) (i n:Nat) (d:Option Tmp) (v:Value) {id:Nat} {oi:Oper} {a:Act} {w:World} (hm:P.follows .mixedOrders=true) (hn:ops.size=n+1) (hi:ops[i]?=some oi) (hd:oi.dst=d)
    (hs:Region.noSelect ops=true) (hf:Region.free .any ops (Array.replicate ops.size false) i=true) (hr:(Region.ready .any ops (Array.replicate ops.size false)).contains i=true)
    (hQ:∀ c a w,Q (.panic c) (a.put oi.dst v) w→Q (.panic c) a w) (hy:YieldsIf P ops (fun _=>True) oi v a)
    (h:UwA P .any ops Q S m n ((Array.replicate ops.size false).setIfInBounds i true) (a.put d v) w.drew):(Code.region id ops true).wp P Q a w:=by
  subst hd
  refine wp_region_any hm (wpAny_of_V (S:=S) (m:=m) _ _ _ _ ?_)
  rw [show ops.size=n+1 from hn]
  rw [show ops.size=n+1 from hn] at hf hr h
  exact wpAnyV_pure hi (Region.noSelect_spec hs) hQ n _ _ _ (Region.free_spec hi hf) (by simpa using hr) hy (wpAnyV_of_U _ _ _ _ h.h)
variable {oi:Oper} {a:Act} {w:World}
theorem wp_knownD {K:Act→World→Prop} (d:Option Tmp) (hd:oi.dst=d) (v:Value) (w2:World) (hx:(execOp a.eval oi).run P w=.ok (.value v) w2) (h:K (a.put d v) w2):Oper.wp P oi a w K Q:=by
  subst hd
  unfold Oper.wp
  rw [hx,Oper.upon_value]
  exact h
theorem wp_dst {K:Act→World→Prop} (d:Option Tmp) (hd:oi.dst=d) (h:oi.dst=d→Oper.wp P oi a w K Q):Oper.wp P oi a w K Q:=h hd
end
end Go.Proofs.YtfihfjbakfadkaaGreatDoor
