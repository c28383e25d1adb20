/- Texts of one proof, merged: Is, ArFirst, ClkN, Mem9, Rk10, Cmp, Qx, Vw, Join, Rw7, U7, Rs7, Tk7. -/
import Derived.LaidEql
import Derived.Stop.Asserts
import Derived.RowKitTokens
import Derived.Maps.OwnOps
import Derived.Maps.OwnSet
import Derived.Maps.RangeWalk
import Derived.IntWalk
import Derived.Deep.Cut
import Derived.Deep.RegionHeld3
import Derived.Deep.RegionLaw
import Derived.Deep.RegionWith
import Derived.Laws.MakeOwn
import Derived.Deep.QuietTactic
import Derived.BigQuiet
import Derived.WalkSpells
import Derived.WalkLawsBesides
import Derived.Deep.DeepCutAuto
import Derived.Test.YtfihfjbakfadkaaGreatDoorMvA
import Derived.Test.YtfihfjbakfadkaaGreatDoorMvC
namespace Go.Proofs.YtfihfjbakfadkaaGreatDoor
set_option maxRecDepth 100000
set_option linter.unusedVariables false
open Go.RowKit Go.Extern.Stop Go.Stop Go.Extern

theorem run_equalIn_iface_int {P:Program} (w:World) (d:Nat) {ti tn:TypeId} {ms:Array (String × TypeId)} {i:TypeInfo} {k:IntKind} (a b:Int)
    (hi:P.underlying ti=some (.interface ms)) (hn:P.underlying tn=some (.int k)) (hinfo:P.info? tn=some i) (hcomp:i.comparable=true) :
    (Op.equalIn (d+2) ti (.iface tn (.int k a)) (.iface tn (.int k b))).run P w=.ok (a==b) w:=by
  simp [Op.equalIn,run_underlying hi,run_underlying hn,typeInfo,hinfo,hcomp]
theorem run_eql_iface_int {P:Program} (w:World) {ti tn:TypeId} {ms:Array (String × TypeId)} {i:TypeInfo} {k:IntKind} (a b:Int)
    (hi:P.underlying ti=some (.interface ms)) (hn:P.underlying tn=some (.int k)) (hinfo:P.info? tn=some i) (hcomp:i.comparable=true) :
    (binOp .eql ti (.iface tn (.int k a)) (.iface tn (.int k b))).run P w=.ok (.bool (a==b)) w:=by
  simp only [binOp]
  simp [Op.equal,Op.maxDepth,run_equalIn_iface_int w 9998 a b hi hn hinfo hcomp]

theorem isTypeOf (v:Value) (w:World):(Extern.ReflectliteType.typeOf #[.iface 49 v]).run Tryz.prog w=.ok (.iface 227 (.agg #[.pointer (some ⟨1,49,none⟩)])) w:=by kernel_rfl
def cmpEntry : Array Value → Sem Value := Extern.ReflectliteType.method fun t => do Extern.Rtype.noPackHeld "Comparable" t; pure (.bool (← typeInfo t).comparable)
theorem isComparable (w:World):(cmpEntry #[.agg #[.pointer (some ⟨1,49,none⟩)]]).run Tryz.prog w=.ok (.bool true) w:=by kernel_rfl
theorem isMethodComparable (v : Value) (w : World) : (Go.method 380 227 v "Comparable").run Tryz.prog w = .ok (155, v) w := by kernel_rfl
theorem isComp:(Tryz.prog.info? 49).map (·.comparable)=some true:=by kernel_rfl
theorem noIsE (v:Value) (xT:TypeId) (w:World):(Instr.typeAssert (.iface 49 v) xT 245 true).run Tryz.prog w=.ok (.tuple #[.nilIface,.bool false]) w:=run_typeAssert_lacksB Tryz.underlying245 (by kernel_rfl) (by kernel_rfl) v xT w
theorem noUnwrapE (v:Value) (xT:TypeId) (w:World):(Instr.typeAssert (.iface 49 v) xT 234 true).run Tryz.prog w=.ok (.tuple #[.nilIface,.bool false]) w:=run_typeAssert_lacksB Tryz.underlying234 (by kernel_rfl) (by kernel_rfl) v xT w
theorem noUnwrapsE (v:Value) (xT:TypeId) (w:World):(Instr.typeAssert (.iface 49 v) xT 236 true).run Tryz.prog w=.ok (.tuple #[.nilIface,.bool false]) w:=run_typeAssert_lacksB Tryz.underlying236 (by kernel_rfl) (by kernel_rfl) v xT w

theorem isF (k c:Int) (w:World):Calls Tryz.prog 26 #[errV k,.int .i64 c] w fun e w'=>e=.returned (.bool (k==c))∧w=w':=by
  obtain ⟨i,hi,hcmp⟩:=Option.map_eq_some_iff.1 isComp
  have h8:=@run_callFunc_extern Tryz.prog 101 _ Extern.ReflectliteType.typeOf Tryz.func101 (by kernel_rfl) (by kernel_rfl) (by kernel_rfl) (by kernel_rfl)
  have h32:=@run_callFunc_extern Tryz.prog 155 _ cmpEntry Tryz.func155 (by kernel_rfl) (by kernel_rfl) (by kernel_rfl) (by kernel_rfl)
  have tT:=isTypeOf
  have cT:=isComparable
  have mR:=isMethodComparable
  have nE:=noIsE
  have uE:=noUnwrapE
  have vE:=noUnwrapsE
  have heq:=fun w=>run_eql_iface_int (P:=Tryz.prog) w k c Tryz.underlying42 Tryz.underlying49 hi hcmp
  have Hi:=hid_ (And.intro hi hcmp)
  clear hi hcmp
  by_cases hk:k=c
  · subst hk
    have hb:(k==k)=true:=by simp
    rw [hb]
    simp only [hb] at heq
    clear hb
    go_enter Tryz.func26,Tryz.ntmps26
    go_wp2
    refine wp_loop_rounds 1 ?_
    rw [rounds_succ]
    go_wp2
    go_ret
    exact ⟨rfl,rfl⟩
  · have hb:(k==c)=false:=by simpa using hk
    rw [hb]
    simp only [hb] at heq
    clear hb hk
    go_enter Tryz.func26,Tryz.ntmps26
    go_wp2
    refine wp_loop_rounds 1 ?_
    rw [rounds_succ]
    go_wp2
    go_ret
    exact ⟨rfl,rfl⟩
open Go.RowKit

theorem AllocPost.first {w w':World} {a G:Nat} {last:Int} {ss:List Sl} {R:Rc} {e:Ending} (h:AllocPost w a G last ss R e w') {i:Nat} {s:Sl} (hs:ss[i]?=some s) (hu:s.used=false) (hg:s.gen≠last) (hno:∀ j t,j < i→ss[j]?=some t→t.used=true∨t.gen=last) :
    ∃ vr ve,e=.returned (.tuple #[.agg #[.int .i64 ((i:Int)+1),.int .i64 (s.gen+1)],.nilIface])∧Ar w' a G last (ss.set i ⟨s.gen+1,true,R,vr,ve⟩)∧RecOwn w' w.heap.size R vr ve∧Fr (only G) w w':=by
  rcases h with ⟨k,t,vr,ve,ht,⟨h1,h2⟩,h3,he,hA,hO,hF⟩ | ⟨h1,_⟩
  · obtain rfl:k=i:=by
      rcases Nat.lt_trichotomy k i with hl | hl | hl
      · rcases hno k t hl ht with h | h
        · rw [h1] at h;cases h
        · exact absurd h h2
      · exact hl
      · rcases h3 i s hl hs with h | h
        · rw [hu] at h;cases h
        · exact absurd h hg
    obtain rfl:=Option.some.inj (hs.symm.trans ht)
    exact ⟨vr,ve,he,hA,hO,hF⟩
  · rcases h1 i s hs with h | h
    · rw [hu] at h;cases h
    · exact absurd h hg
open Go.RowKit
open Go.Maps (Keyed int_keyed keyOf_int_mk)

abbrev Ins:=DataW Unit
structure Clk (w:World) (C M:Nat) (now last threads:Int) (n:Nat) (D:Ins):Prop where
  hC:Blk w C 185 #[.int .i64 now,.int .i64 last,.int .i64 threads,.map (some M)]
  hM:w.ownsMap Tryz.prog 3 (plainElem (H:=Unit) Tryz.prog 3) M n D

theorem map_fr {w w':World} {S:Nat→Prop} {M n:Nat} {D:Ins} (h:w.ownsMap Tryz.prog 3 (plainElem (H:=Unit) Tryz.prog 3) M n D) (hf:Fr S w w') (hS:¬ S M):w'.ownsMap Tryz.prog 3 (plainElem (H:=Unit) Tryz.prog 3) M n D:=by
  have hl:=h.lt
  obtain ⟨es,clock,hb,r⟩:=h
  exact ⟨es,clock,(hf.block M hl hS).trans hb,r⟩
theorem Clk.fr {w w':World} {S:Nat→Prop} {C M n:Nat} {now last threads:Int} {D:Ins} (h:Clk w C M now last threads n D) (hf:Fr S w w') (hC:¬ S C) (hM:¬ S M):Clk w' C M now last threads n D:=
  ⟨h.hC.fr hf hC,map_fr h.hM hf hM⟩
def NewClk (threads last:Int) (w:World) (e:Ending) (w':World):Prop:=
  ∃ C M,e=.returned (.pointer (some ⟨C,0,none⟩))∧Clk w' C M 1 last threads 0 (.map [])∧Fr none_ w w'∧w.heap.size≤C∧w.heap.size≤M

set_option maxHeartbeats 1000000 in
theorem clkNew_ok (threads last:Int) (w:World) (h1:1≤threads) (h2:threads≤64) (h3:1≤last) (h4:last≤1099511627776):Calls Tryz.prog 47 #[.int .i64 threads,.int .i64 last] w (NewClk threads last w):=by
  have hmm:=@run_makeMap Tryz.prog
  have d1:decide (threads < 1)=false:=by simp;omega
  have d2:decide (64 < threads)=false:=by simp;omega
  have d3:decide (last < 1)=false:=by simp;omega
  go_enter Tryz.func47,Tryz.ntmps47
  go_wp2_with fail
  go_ret
  refine ⟨w.heap.size+1,w.heap.size,rfl,⟨?_,(World.ownsMap_made w _ _ _).alloc _⟩,((Fr.refl none_ w).alloc _).alloc _,by omega,Nat.le_refl _⟩
  have:=Blk.new (w.alloc (.map #[] 0)) 185 #[.int .i64 1,.int .i64 last,.int .i64 threads,.map (some w.heap.size)]
  simpa using this

open Go.RowKit

section
variable {P:Program} {md:Region.Mode} {ops:Array Oper} {Q:Exit→Act→World→Prop} {S:World→Prop}
theorem wpAnyU_oneW {m i:Nat} {oi:Oper} {fuel:Nat} {listed:Array Bool} {a:Act} {w:World} (hi:ops[i]?=some oi) (hw:Region.wanted oi (yielded ops a.tmps)=true) (hr:Region.ready md ops listed=[i])
    (h:Oper.wp P oi a w (fun a' w'=>(m≤i∨S w')∧wpAnyU P md ops Q S m fuel (listed.setIfInBounds i true) a' w') Q):wpAnyU P md ops Q S m (fuel+1) listed a w:=by
  refine wpAnyU_all hr (by simp) (fun j hj=>?_)
  obtain rfl:j=i:=by simpa using hj
  unfold wpOp
  simp only [hi,hw,if_true]
  exact .inl h
end
structure Lm where
  s:Nat
  p:Nat
  t:Int
  r:Int
  c:Int
  n:Int
abbrev lmA (l:Lm):Array Value:=#[.int .i64 (l.s:Int),.int .i64 (l.p:Int),.int .i64 l.t,.int .i64 l.r,.int .i64 l.c,.int .i64 l.n]
structure Lm.Right (l:Lm):Prop where
  s:4≤(l.s:Int)∧(l.s:Int)≤4096
  p:3≤(l.p:Int)∧(l.p:Int)≤256
  t:1≤l.t∧l.t≤64
  r:2≤l.r∧l.r≤64
  c:2≤l.c∧l.c≤64
  n:8≤l.n∧l.n≤1099511627776
structure St where
  a:Nat
  G:Nat
  ss:List Sl
  T:Nat
  H:Nat
  ps:List Pg
  C:Nat
  M:Nat
  now:Int
  n:Nat
  D:Ins
abbrev mmA (k:Int) (l:Lm) (x:St):Array Value:=#[.int .i64 k,.int .i64 (l.s:Int),.int .i64 (l.p:Int),.int .i64 l.t,.int .i64 l.r,.int .i64 l.c,.int .i64 l.n,.pointer (some ⟨x.a,0,none⟩),.pointer (some ⟨x.T,0,none⟩),.pointer (some ⟨x.C,0,none⟩)]
structure Mm (w:World) (m:Nat) (k:Int) (l:Lm) (x:St):Prop where
  b:Blk w m 117 (mmA k l x)
  ar:Ar w x.a x.G l.n x.ss
  tb:Tbl w x.T x.H x.ps
  ck:Clk w x.C x.M x.now l.n l.t x.n x.D
theorem Tbl.keep {w w':World} {T G:Nat} {ps:List Pg} (h:Tbl w T G ps) (hf:Fr none_ w w'):Tbl w' T G ps:=h.fr hf id id
theorem Clk.keep {w w':World} {C M n:Nat} {now last threads:Int} {D:Ins} (h:Clk w C M now last threads n D) (hf:Fr none_ w w'):Clk w' C M now last threads n D:=h.fr hf id id
theorem Mm.keep {w w':World} {m:Nat} {k:Int} {l:Lm} {x:St} (h:Mm w m k l x) (hf:Fr none_ w w'):Mm w' m k l x:=⟨h.b.fr hf id,h.ar.keep hf,h.tb.keep hf,h.ck.keep hf⟩
section
variable {w w':World} {m:Nat} {k:Int} {l:Lm} {x:St}
theorem Ar.gne {a G:Nat} {last:Int} {ss:List Sl} (h:Ar w a G last ss) {g:Nat} {t:TypeId} {cs:Array Value} (hb:Blk w g t cs) (ht:188≠t):g≠G:=by
  obtain ⟨cs',hG,_⟩:=h.hG
  exact (Blk.ne_ hG hb ht).symm
theorem Clk.mne {C M n:Nat} {now last threads:Int} {D:Ins} (h:Clk w C M now last threads n D) {g:Nat} {t:TypeId} {cs:Array Value} (hb:Blk w g t cs):M≠g:=by
  rintro rfl
  obtain ⟨es,clock,hm,r⟩:=h.hM
  unfold Blk at hb
  rw [hb] at hm
  cases hm
theorem Mm.arPut (h:Mm w m k l x) {ss':List Sl} (hA:Ar w' x.a x.G l.n ss') (hf:Fr (only x.G) w w'):Mm w' m k l { x with ss:=ss' }:=by
  obtain ⟨cs,hG,_⟩:=h.ar.hG
  obtain ⟨cap,cur,hT,hH,_⟩:=id h.tb
  exact ⟨h.b.fr hf (only_ne (h.ar.gne h.b (by decide))),hA,h.tb.fr hf (only_ne (h.ar.gne hT (by decide))) (only_ne (h.ar.gne hH (by decide))),h.ck.fr hf (only_ne (h.ar.gne h.ck.hC (by decide))) (only_ne (h.ck.mne hG))⟩
theorem Mm.tbPut (h:Mm w m k l x) {ps':List Pg} (hT:Tbl w' x.T x.H ps') (hf:Fr (only x.H) w w'):Mm w' m k l { x with ps:=ps' }:=by
  obtain ⟨cs,hG,_⟩:=h.ar.hG
  obtain ⟨cap,cur,hT0,hH,_⟩:=id h.tb
  exact ⟨h.b.fr hf (only_ne (Blk.ne_ h.b hH (by decide))),h.ar.beside hf hH (by decide) (by decide) (Blk.ne_ h.ar.hA hH (by decide)) (Blk.ne_ hG hH (by decide)),hT,h.ck.fr hf (only_ne (Blk.ne_ h.ck.hC hH (by decide))) (only_ne (h.ck.mne hH))⟩
theorem Mm.count (h:Mm w m k l x) (k':Int):Mm (w.setCell ⟨m,0,none⟩ (.int .i64 k')) m k' l x:=by
  obtain ⟨cs,hG,_⟩:=h.ar.hG
  obtain ⟨cap,cur,hT0,hH,_⟩:=id h.tb
  have hf:=Fr.only1 w ⟨m,0,none⟩ (.int .i64 k')
  exact ⟨h.b.set_ 0 _,h.ar.beside hf h.b (by decide) (by decide) (Blk.ne_ h.ar.hA h.b (by decide)) (Blk.ne_ hG h.b (by decide)),h.tb.fr hf (only_ne (Blk.ne_ hT0 h.b (by decide))) (only_ne (Blk.ne_ hH h.b (by decide))),h.ck.fr hf (only_ne (Blk.ne_ h.ck.hC h.b (by decide))) (only_ne (h.ck.mne h.b))⟩
end
theorem rep_set {α:Type} {n:Nat} (h:0 < n) (z y:α):(List.replicate n z).set 0 y=y :: List.replicate (n - 1) z:=by
  cases n with
  | zero=>omega
  | succ n=>simp [List.replicate_succ]
theorem rep_get {α:Type} {n:Nat} (h:0 < n) (z:α):(List.replicate n z)[0]?=some z:=by
  cases n with
  | zero=>omega
  | succ n=>simp [List.replicate_succ]
abbrev leafR:Rc:=⟨1,nilS,nilS,true,0,[],[],nilS,nilS,0,0,0,nilS,0,0⟩
theorem reads_leaf (w:World):RecReads w leafR none none:=⟨⟨rfl,fun h=>absurd h (Nat.lt_irrefl 0)⟩,⟨rfl,fun h=>absurd h (Nat.lt_irrefl 0)⟩⟩
def NewMem (l:Lm) (w:World) (e:Ending) (w':World):Prop:=
  ∃ (m a G:Nat) (vr ve:Value) (T H C M:Nat),e=.returned (.tuple #[.pointer (some ⟨m,0,none⟩),.nilIface])∧Mm w' m 0 l ⟨a,G,⟨1,true,leafR,vr,ve⟩ :: List.replicate (l.s - 1) Sl.zero,T,H,(true,1,1) :: List.replicate (l.p - 1) (false,0,0),C,M,1,0,.map []⟩∧Fr none_ w w'∧w.heap.size≤m∧w.heap.size≤C∧w.heap.size≤M∧w.heap.size≤G∧w.heap.size≤H
theorem within_yes (n a b:Int) (w:World) (h1:a≤n) (h2:n≤b):Calls Tryz.prog 86 #[.int .i64 n,.int .i64 a,.int .i64 b] w fun e w'=>e=.returned (.bool true)∧w=w':=by
  have d1:decide (a≤n)=true:=by simpa using h1
  have d2:decide (n≤b)=true:=by simpa using h2
  clear h1 h2
  go_enter Tryz.func86,Tryz.ntmps86
  go_wp2
  go_ret
  exact ⟨rfl,rfl⟩
set_option maxHeartbeats 4000000 in
theorem right_yes (l:Lm) (w:World) (hl:l.Right):Calls Tryz.prog 44 #[.agg (lmA l)] w fun e w'=>e=.returned (.bool true)∧Fr none_ w w':=by
  have HL:=hid_ hl
  clear hl
  go_enter Tryz.func44,Tryz.ntmps44
  go_wp2_with fail
  refine (within_yes _ _ _ _ HL.out.s.1 HL.out.s.2).mono ?_
  rintro e w1 ⟨rfl,rfl⟩
  go_wp2_with fail
  refine (within_yes _ _ _ _ HL.out.p.1 HL.out.p.2).mono ?_
  rintro e w1 ⟨rfl,rfl⟩
  go_wp2_with fail
  refine (within_yes _ _ _ _ HL.out.t.1 HL.out.t.2).mono ?_
  rintro e w1 ⟨rfl,rfl⟩
  go_wp2_with fail
  refine (within_yes _ _ _ _ HL.out.r.1 HL.out.r.2).mono ?_
  rintro e w1 ⟨rfl,rfl⟩
  go_wp2_with fail
  refine (within_yes _ _ _ _ HL.out.c.1 HL.out.c.2).mono ?_
  rintro e w1 ⟨rfl,rfl⟩
  go_wp2_with fail
  refine (within_yes _ _ _ _ HL.out.n.1 HL.out.n.2).mono ?_
  rintro e w1 ⟨rfl,rfl⟩
  go_wp2_with fail
  go_ret
  exact ⟨rfl,(Fr.refl none_ w).alloc _⟩
set_option maxHeartbeats 8000000 in
theorem memNew_ok (l:Lm) (w:World) (hl:l.Right):Calls Tryz.prog 18 #[.agg (lmA l)] w (NewMem l w):=by
 have HL:=hid_ hl
 clear hl
 have F:=hid_ (Fr.refl none_ w)
 go_enter Tryz.func18,Tryz.ntmps18
 go_upto_region 1 with fail
 obtain ⟨w0,hw0⟩:∃ z,z=w.alloc (.cells (lmA l) 67):=⟨_,rfl⟩
 have fw0:Fr none_ w w0:=by rw [hw0];exact (Fr.refl none_ w).alloc _
 have BL:Hid (Blk w0 w.heap.size 67 (lmA l)):=hid_ (by rw [hw0];exact Blk.new w _ _)
 replace F:=hid_ (F.out.then_none fw0)
 change Code.wp _ _ _ _ (w.alloc (.cells (lmA l) 67))
 rw [← hw0]
 clear hw0 fw0
 have v0:w0.cell? ⟨w.heap.size,0,none⟩=some (.int .i64 (l.s:Int)):=BL.out.cell' rfl
 have v1:w0.cell? ⟨w.heap.size,1,none⟩=some (.int .i64 (l.p:Int)):=BL.out.cell' rfl
 have v2:w0.cell? ⟨w.heap.size,2,none⟩=some (.int .i64 l.t):=BL.out.cell' rfl
 have v3:w0.cell? ⟨w.heap.size,3,none⟩=some (.int .i64 l.r):=BL.out.cell' rfl
 have v4:w0.cell? ⟨w.heap.size,4,none⟩=some (.int .i64 l.c):=BL.out.cell' rfl
 have v5:w0.cell? ⟨w.heap.size,5,none⟩=some (.int .i64 l.n):=BL.out.cell' rfl
 go_wp2_with fail
 refine (right_yes l _ HL.out).mono ?_
 rintro e w1 ⟨rfl,hf1⟩
 replace F:=hid_ (F.out.then_none hf1)
 replace BL:=hid_ (BL.out.fr hf1 id)
 clear hf1
 clear v0 v1 v2 v3 v4 v5
 have v0:w1.cell? ⟨w.heap.size,0,none⟩=some (.int .i64 (l.s:Int)):=BL.out.cell' rfl
 have v1:w1.cell? ⟨w.heap.size,1,none⟩=some (.int .i64 (l.p:Int)):=BL.out.cell' rfl
 have v2:w1.cell? ⟨w.heap.size,2,none⟩=some (.int .i64 l.t):=BL.out.cell' rfl
 have v3:w1.cell? ⟨w.heap.size,3,none⟩=some (.int .i64 l.r):=BL.out.cell' rfl
 have v4:w1.cell? ⟨w.heap.size,4,none⟩=some (.int .i64 l.c):=BL.out.cell' rfl
 have v5:w1.cell? ⟨w.heap.size,5,none⟩=some (.int .i64 l.n):=BL.out.cell' rfl
 go_upto_region 3 with fail
 have hS0:(fun w':World=>Fr none_ w1 w') w1.drew:=(Fr.refl none_ w1).drew
 refine wp_region_U (m:=14) (S:=fun w':World=>Fr none_ w1 w') (by kernel_rfl) ?_
 refine wpAnyU_take2 (i:=0) (v:=_) rfl (by kernel_rfl) (by kernel_rfl) (by kernel_rfl) (by kernel_rfl) (fun _ _ _ h=>h) (.inl ⟨by kernel_rfl,fun w' hS=>by have s_0:=cellFr v0 hS;have s_1:=cellFr v1 hS;have s_2:=cellFr v2 hS;have s_3:=cellFr v3 hS;have s_4:=cellFr v4 hS;have s_5:=cellFr v5 hS;go_simp;rfl⟩) hS0 ?_
 refine wpAnyU_take2 (i:=1) (v:=_) rfl (by kernel_rfl) (by kernel_rfl) (by kernel_rfl) (by kernel_rfl) (fun _ _ _ h=>h) (.inl ⟨by kernel_rfl,fun w' hS=>by go_simp;rfl⟩) hS0 ?_
 refine wpAnyU_take2 (i:=2) (v:=_) rfl (by kernel_rfl) (by kernel_rfl) (by kernel_rfl) (by kernel_rfl) (fun _ _ _ h=>h) (.inl ⟨by kernel_rfl,fun w' hS=>by have s_0:=cellFr v0 hS;have s_1:=cellFr v1 hS;have s_2:=cellFr v2 hS;have s_3:=cellFr v3 hS;have s_4:=cellFr v4 hS;have s_5:=cellFr v5 hS;go_simp;rfl⟩) hS0 ?_
 refine wpAnyU_take2 (i:=3) (v:=_) rfl (by kernel_rfl) (by kernel_rfl) (by kernel_rfl) (by kernel_rfl) (fun _ _ _ h=>h) (.inl ⟨by kernel_rfl,fun w' hS=>by go_simp;rfl⟩) hS0 ?_
 refine wpAnyU_take2 (i:=4) (v:=_) rfl (by kernel_rfl) (by kernel_rfl) (by kernel_rfl) (by kernel_rfl) (fun _ _ _ h=>h) (.inl ⟨by kernel_rfl,fun w' hS=>by have s_0:=cellFr v0 hS;have s_1:=cellFr v1 hS;have s_2:=cellFr v2 hS;have s_3:=cellFr v3 hS;have s_4:=cellFr v4 hS;have s_5:=cellFr v5 hS;go_simp;rfl⟩) hS0 ?_
 refine wpAnyU_take2 (i:=6) (v:=_) rfl (by kernel_rfl) (by kernel_rfl) (by kernel_rfl) (by kernel_rfl) (fun _ _ _ h=>h) (.inl ⟨by kernel_rfl,fun w' hS=>by go_simp;rfl⟩) hS0 ?_
 refine wpAnyU_take2 (i:=7) (v:=_) rfl (by kernel_rfl) (by kernel_rfl) (by kernel_rfl) (by kernel_rfl) (fun _ _ _ h=>h) (.inl ⟨by kernel_rfl,fun w' hS=>by have s_0:=cellFr v0 hS;have s_1:=cellFr v1 hS;have s_2:=cellFr v2 hS;have s_3:=cellFr v3 hS;have s_4:=cellFr v4 hS;have s_5:=cellFr v5 hS;go_simp;rfl⟩) hS0 ?_
 refine wpAnyU_take2 (i:=9) (v:=_) rfl (by kernel_rfl) (by kernel_rfl) (by kernel_rfl) (by kernel_rfl) (fun _ _ _ h=>h) (.inl ⟨by kernel_rfl,fun w' hS=>by go_simp;rfl⟩) hS0 ?_
 refine wpAnyU_take2 (i:=10) (v:=_) rfl (by kernel_rfl) (by kernel_rfl) (by kernel_rfl) (by kernel_rfl) (fun _ _ _ h=>h) (.inl ⟨by kernel_rfl,fun w' hS=>by have s_0:=cellFr v0 hS;have s_1:=cellFr v1 hS;have s_2:=cellFr v2 hS;have s_3:=cellFr v3 hS;have s_4:=cellFr v4 hS;have s_5:=cellFr v5 hS;go_simp;rfl⟩) hS0 ?_
 refine wpAnyU_take2 (i:=11) (v:=_) rfl (by kernel_rfl) (by kernel_rfl) (by kernel_rfl) (by kernel_rfl) (fun _ _ _ h=>h) (.inl ⟨by kernel_rfl,fun w' hS=>by go_simp;rfl⟩) hS0 ?_
 refine wpAnyU_take2 (i:=12) (v:=_) rfl (by kernel_rfl) (by kernel_rfl) (by kernel_rfl) (by kernel_rfl) (fun _ _ _ h=>h) (.inl ⟨by kernel_rfl,fun w' hS=>by have s_0:=cellFr v0 hS;have s_1:=cellFr v1 hS;have s_2:=cellFr v2 hS;have s_3:=cellFr v3 hS;have s_4:=cellFr v4 hS;have s_5:=cellFr v5 hS;go_simp;rfl⟩) hS0 ?_
 refine wpAnyU_oneW (i:=5) rfl (by kernel_rfl) (by kernel_rfl) ?_
 go_simp
 refine (arNew_ok l.s l.n _ (by have:=HL.out.s;omega) (by have:=HL.out.s;omega) (by have:=HL.out.n;omega) HL.out.n.2).mono ?_
 rintro e w2 ⟨a,G,rfl,hA,hf2,ha,hG⟩
 have HGw:=hid_ (show w.heap.size≤G by have:=F.out.size;simp at hG;omega)
 have HHw:=hid_ (show w.heap.size≤w2.heap.size by have:=F.out.size;have:=hf2.size;simp at this;omega)
 have fS:=(Fr.refl none_ w1).drew.then_none hf2
 refine ⟨fS,?_⟩
 have A1:=hid_ hA
 clear hA hf2 hS0
 clear v0 v1 v2 v3 v4 v5
 refine wpAnyU_oneW (i:=8) rfl (by kernel_rfl) (by kernel_rfl) ?_
 go_simp
 refine (mapNew_ok l.p _ (by have:=HL.out.p;omega) (by have:=HL.out.p;omega)).mono ?_
 rintro e w3 ⟨rfl,hT,hf3,-⟩
 have fS:=fS.then_none hf3
 refine ⟨fS,?_⟩
 replace A1:=hid_ (A1.out.keep hf3)
 have T1:=hid_ hT
 clear hT hf3
 refine wpAnyU_oneW (i:=13) rfl (by kernel_rfl) (by kernel_rfl) ?_
 go_simp
 refine (clkNew_ok l.t l.n _ HL.out.t.1 HL.out.t.2 (by have:=HL.out.n;omega) HL.out.n.2).mono ?_
 rintro e w4 ⟨C,M,rfl,hC,hf4,hc1,hc2⟩
 have HCw:=hid_ (show w.heap.size≤C∧w.heap.size≤M by have:=F.out.size;have:=fS.size;omega)
 have fS:=fS.then_none hf4
 refine ⟨fS,?_⟩
 replace A1:=hid_ (A1.out.keep hf4)
 replace T1:=hid_ (T1.out.keep hf4)
 have C1:=hid_ hC
 clear hC hf4
 refine wpAnyU_oneW (i:=14) rfl (by kernel_rfl) (by kernel_rfl) ?_
 go_simp
 refine wpAnyU_oneW (i:=15) rfl (by kernel_rfl) (by kernel_rfl) ?_
 go_simp
 refine wpAnyU_oneW (i:=16) rfl (by kernel_rfl) (by kernel_rfl) ?_
 go_simp
 refine wpAnyU_done (by kernel_rfl) ?_ _
 replace F:=hid_ (F.out.then_none fS)
 clear fS
 go_upto_region 4 with fail
 have HMw:=hid_ F.out.size
 obtain ⟨w5,hw5⟩:∃ z,z=w4.alloc (.cells #[.int .i64 0,.int .i64 (l.s:Int),.int .i64 (l.p:Int),.int .i64 l.t,.int .i64 l.r,.int .i64 l.c,.int .i64 l.n,.pointer (some ⟨a,0,none⟩),.pointer (some ⟨w2.heap.size+1,0,none⟩),.pointer (some ⟨C,0,none⟩)] 117):=⟨_,rfl⟩
 have fw5:Fr none_ w4 w5:=by rw [hw5];exact (Fr.refl none_ w4).alloc _
 have BM:Hid (Blk w5 w4.heap.size 117 (#[.int .i64 0,.int .i64 (l.s:Int),.int .i64 (l.p:Int),.int .i64 l.t,.int .i64 l.r,.int .i64 l.c,.int .i64 l.n,.pointer (some ⟨a,0,none⟩),.pointer (some ⟨w2.heap.size+1,0,none⟩),.pointer (some ⟨C,0,none⟩)])):=hid_ (by rw [hw5];exact Blk.new w4 _ _)
 replace F:=hid_ (F.out.then_none fw5)
 replace A1:=hid_ (A1.out.keep fw5)
 replace T1:=hid_ (T1.out.keep fw5)
 replace C1:=hid_ (C1.out.keep fw5)
 change Code.wp _ _ _ _ (w4.alloc (.cells #[.int .i64 0,.int .i64 (l.s:Int),.int .i64 (l.p:Int),.int .i64 l.t,.int .i64 l.r,.int .i64 l.c,.int .i64 l.n,.pointer (some ⟨a,0,none⟩),.pointer (some ⟨w2.heap.size+1,0,none⟩),.pointer (some ⟨C,0,none⟩)] 117))
 rw [← hw5]
 clear hw5 fw5
 have M5:Hid (Mm w5 w4.heap.size 0 l ⟨a,G,List.replicate l.s Sl.zero,w2.heap.size+1,w2.heap.size,List.replicate l.p (false,0,0),C,M,1,0,.map []⟩):=hid_ ⟨BM.out,A1.out,T1.out,C1.out⟩
 have hw1:=F.out.size
 have m7:w5.cell? ⟨w4.heap.size,7,none⟩=some (.pointer (some ⟨a,0,none⟩)):=BM.out.cell' rfl
 go_wp2_with fail
 refine (alloc_ok leafR none 0 none 0 _ a G l.n _ M5.out.ar (reads_leaf _) ⟨by decide,by decide⟩).mono ?_
 rintro e w6 h6
 obtain ⟨vr,ve,rfl,hA6,-,hf6⟩:=h6.first (i:=0) (s:=Sl.zero) (rep_get (by have:=HL.out.s;omega) _) rfl (by show (0:Int)≠l.n;have:=HL.out.n;omega) (fun j t hj=>by omega)
 rw [rep_set (by have:=HL.out.s;omega)] at hA6
 have M6:Hid (Mm w6 w4.heap.size 0 l ⟨a,G,⟨1,true,leafR,vr,ve⟩ :: List.replicate (l.s - 1) Sl.zero,w2.heap.size+1,w2.heap.size,List.replicate l.p (false,0,0),C,M,1,0,.map []⟩):=hid_ (M5.out.arPut hA6 hf6)
 have F6:=hid_ (F.out.then_only hf6 (.inr HGw.out))
 clear h6 hA6 hf6 m7 M5 BM A1 T1 C1 F
 go_upto_region 5 with fail
 obtain ⟨w7,hw7⟩:∃ z,z=w6.alloc (.cells #[.int .i64 1,.int .i64 1] 23):=⟨_,rfl⟩
 have fw7:Fr none_ w6 w7:=by rw [hw7];exact (Fr.refl none_ w6).alloc _
 have BX:Hid (Blk w7 w6.heap.size 23 (#[.int .i64 1,.int .i64 1])):=hid_ (by rw [hw7];exact Blk.new w6 _ _)
 replace F6:=hid_ (F6.out.then_none fw7)
 replace M6:=hid_ (M6.out.keep fw7)
 change Code.wp _ _ _ _ (w6.alloc (.cells #[.int .i64 1,.int .i64 1] 23))
 rw [← hw7]
 clear hw7 fw7
 have m8:w7.cell? ⟨w4.heap.size,8,none⟩=some (.pointer (some ⟨w2.heap.size+1,0,none⟩)):=M6.out.b.cell' rfl
 go_wp2_with fail
 refine (mtake_ok _ _ _ 0 0 0 _ M6.out.tb (rep_get (by have:=HL.out.p;omega) _) (fun j p hj=>by omega)).mono ?_
 rintro e w8 ⟨rfl,h8⟩
 have hT8:Tbl w8 (w2.heap.size+1) w2.heap.size ((List.replicate l.p (false,0,0)).set 0 (true,0,0)):=by rw [h8];exact M6.out.tb.set_ (by simp;have:=HL.out.p;omega) _
 have hf8:Fr (only w2.heap.size) w7 w8:=by rw [h8];exact setPg_only _ _ _ _
 rw [rep_set (by have:=HL.out.p;omega)] at hT8
 replace BX:=hid_ (BX.out.fr hf8 (only_ne (by obtain ⟨cap,cur,hT0,hH,_⟩:=id M6.out.tb;exact Blk.ne_ BX.out hH (by decide))))
 replace M6:=hid_ (M6.out.tbPut hT8 hf8)
 replace F6:=hid_ (F6.out.then_only hf8 (.inr HHw.out))
 clear h8 hT8 hf8 m8
 have m8:w8.cell? ⟨w4.heap.size,8,none⟩=some (.pointer (some ⟨w2.heap.size+1,0,none⟩)):=M6.out.b.cell' rfl
 have x0:w8.cell? ⟨w6.heap.size,0,none⟩=some (.int .i64 1):=BX.out.cell' rfl
 have x1:w8.cell? ⟨w6.heap.size,1,none⟩=some (.int .i64 1):=BX.out.cell' rfl
 go_upto_region 10 with fail
 have nH:¬ only w2.heap.size w4.heap.size∧¬ only w2.heap.size w6.heap.size:=by
  obtain ⟨cap,cur,hT0,hH,_⟩:=id M6.out.tb
  exact ⟨only_ne (Blk.ne_ M6.out.b hH (by decide)),only_ne (Blk.ne_ BX.out hH (by decide))⟩
 have hS1:(fun w':World=>Fr (only w2.heap.size) w8 w') w8.drew:=(Fr.refl _ w8).drew
 refine wp_region_U (m:=13) (S:=fun w':World=>Fr (only w2.heap.size) w8 w') (by kernel_rfl) ?_
 refine wpAnyU_take2 (i:=0) (v:=_) rfl (by kernel_rfl) (by kernel_rfl) (by kernel_rfl) (by kernel_rfl) (fun _ _ _ h=>h) (.inl ⟨by kernel_rfl,fun w' hS=>by go_simp;rfl⟩) hS1 ?_
 refine wpAnyU_take2 (i:=1) (v:=_) rfl (by kernel_rfl) (by kernel_rfl) (by kernel_rfl) (by kernel_rfl) (fun _ _ _ h=>h) (.inl ⟨by kernel_rfl,fun w' hS=>by go_simp;rfl⟩) hS1 ?_
 refine wpAnyU_take2 (i:=2) (v:=_) rfl (by kernel_rfl) (by kernel_rfl) (by kernel_rfl) (by kernel_rfl) (fun _ _ _ h=>h) (.inl ⟨by kernel_rfl,fun w' hS=>by go_simp;rfl⟩) hS1 ?_
 refine wpAnyU_take2 (i:=3) (v:=_) rfl (by kernel_rfl) (by kernel_rfl) (by kernel_rfl) (by kernel_rfl) (fun _ _ _ h=>h) (.inl ⟨by kernel_rfl,fun w' hS=>by have s_8:=cellFrS m8 hS nH.1;go_simp;rfl⟩) hS1 ?_
 refine wpAnyU_take2 (i:=4) (v:=_) rfl (by kernel_rfl) (by kernel_rfl) (by kernel_rfl) (by kernel_rfl) (fun _ _ _ h=>h) (.inl ⟨by kernel_rfl,fun w' hS=>by go_simp;rfl⟩) hS1 ?_
 refine wpAnyU_take2 (i:=5) (v:=_) rfl (by kernel_rfl) (by kernel_rfl) (by kernel_rfl) (by kernel_rfl) (fun _ _ _ h=>h) (.inl ⟨by kernel_rfl,fun w' hS=>by go_simp;rfl⟩) hS1 ?_
 refine wpAnyU_take2 (i:=6) (v:=_) rfl (by kernel_rfl) (by kernel_rfl) (by kernel_rfl) (by kernel_rfl) (fun _ _ _ h=>h) (.inl ⟨by kernel_rfl,fun w' hS=>by have s_0:=cellFrS x0 hS nH.2;have s_1:=cellFrS x1 hS nH.2;go_simp;rfl⟩) hS1 ?_
 clear m8 x0 x1
 refine wpAnyU_oneW (i:=7) rfl (by kernel_rfl) (by kernel_rfl) ?_
 go_simp
 refine (swap_ok _ _ _ 0 0 0 0 0 1 1 _ (M6.out.tb.keep (Fr.refl none_ _).drew) rfl).mono ?_
 rintro e w9 ⟨rfl,hT9,hf9⟩
 have hT9':Tbl w9 (w2.heap.size+1) w2.heap.size ((true,1,1) :: List.replicate (l.p - 1) (false,0,0)):=by simpa using hT9
 have M9:=hid_ ((M6.out.keep (Fr.refl none_ w8).drew).tbPut hT9' hf9)
 have fS9:(fun w':World=>Fr (only w2.heap.size) w8 w') w9:=(Fr.refl (only w2.heap.size) w8).drew.then_only hf9 (.inl (Eq.refl _))
 have F9:=hid_ (F6.out.drew.then_only hf9 (.inr HHw.out))
 clear hT9 hT9' hf9 hS1
 simp only [beq_self_eq_true,Bool.and_self]
 refine ⟨fS9,?_⟩
 refine wpAnyU_take2 (i:=8) (v:=_) rfl (by kernel_rfl) (by kernel_rfl) (by kernel_rfl) (by kernel_rfl) (fun _ _ _ h=>h) (.inl ⟨by kernel_rfl,fun w' hS=>by go_simp;rfl⟩) fS9 ?_
 refine wpAnyU_take2 (i:=9) (v:=_) rfl (by kernel_rfl) (by kernel_rfl) (by kernel_rfl) (by kernel_rfl) (fun _ _ _ h=>h) (.inl ⟨by kernel_rfl,fun w' hS=>by go_simp;rfl⟩) fS9 ?_
 refine wpAnyU_take2 (i:=10) (v:=_) rfl (by kernel_rfl) (by kernel_rfl) (by kernel_rfl) (by kernel_rfl) (fun _ _ _ h=>h) (.inl ⟨by kernel_rfl,fun w' hS=>by go_simp;rfl⟩) fS9 ?_
 refine wpAnyU_take2 (i:=11) (v:=_) rfl (by kernel_rfl) (by kernel_rfl) (by kernel_rfl) (by kernel_rfl) (fun _ _ _ h=>h) (.inl ⟨by kernel_rfl,fun w' hS=>by go_simp;rfl⟩) fS9 ?_
 refine wpAnyU_take2 (i:=12) (v:=_) rfl (by kernel_rfl) (by kernel_rfl) (by kernel_rfl) (by kernel_rfl) (fun _ _ _ h=>h) (.inl ⟨by kernel_rfl,fun w' hS=>by go_simp;rfl⟩) fS9 ?_
 refine wpAnyU_done (by kernel_rfl) ?_ _
 go_wp2_with fail
 go_ret2
 exact ⟨_,_,_,_,_,_,_,_,_,rfl,M9.out,F9.out,HMw.out,HCw.out.1,HCw.out.2,HGw.out,HHw.out⟩
open Go.RowKit

theorem num_info:(Tryz.prog.info? 3).map (fun i=>(i.zero,i.size,i.bytes))=some (some (.int .i64 0),1,8):=by kernel_rfl
abbrev SOwn (w:World) (v:Value) (S:List Int):Prop:=w.ownsRow 0 3 1 v S.length (numFlat S)
abbrev rclk (now last:Int) (v:Value):Value:=.agg #[.int .i64 now,.int .i64 last,v]
abbrev rclkB (now last:Int) (v:Value):Obj:=.cells #[.int .i64 now,.int .i64 last,v] 80
theorem box3k {w1:World} {b:Nat} {t:TypeId} {c0 c1 c2:Value} (h:Blk w1 b t #[c0,c1,c2]) (x y z:Value) :
    Blk (((w1.setCell ⟨b,0,none⟩ x).setCell ⟨b,1,none⟩ y).setCell ⟨b,2,none⟩ z) b t #[x,y,z]∧Fr (only b) w1 (((w1.setCell ⟨b,0,none⟩ x).setCell ⟨b,1,none⟩ y).setCell ⟨b,2,none⟩ z):=
  ⟨((h.set_ 0 x).set_ 1 y).set_ 2 z,(((Fr.refl (only b) w1).setCell (p:=⟨b,0,none⟩) (.inl (Eq.refl _)) _).setCell (p:=⟨b,1,none⟩) (.inl (Eq.refl _)) _).setCell (p:=⟨b,2,none⟩) (.inl (Eq.refl _)) _⟩
theorem made_zero (n:Nat):(madeCells (Value.int IntKind.i64 0).cells (n * 1)).toList=numFlat (List.replicate n 0):=by
  rw [Nat.mul_one]
  exact (toList_madeCells_one (.int .i64 0) n).trans (by simp [numFlat])

theorem rknew_ok (n:Nat) (last:Int) (w:World) (h1:1≤n) (h2:n≤64) (h3:1≤last) (h4:last≤1099511627776):Calls Tryz.prog 96 #[.int .i64 n,.int .i64 last] w fun e w'=>∃ A c,e=.returned (.tuple #[rclk 1 last (.slice A (List.replicate n (0:Int)).length c),.bool true])∧SOwn w' (.slice A (List.replicate n (0:Int)).length c) (List.replicate n 0)∧Fr none_ w w':=by
  obtain ⟨i0,hi0,hz0,hs0,hb0⟩:=info_parts num_info
  have Hi:=hid_ (And.intro hi0 (And.intro hz0 (And.intro hs0 hb0)))
  have hb8:i0.bytes * n≤281474976710656:=by rw [hb0];omega
  clear hi0 hz0 hs0 hb0
  go_enter Tryz.func96,Tryz.ntmps96
  go_wp2_with (at_make;refine wpList_make_full _ rfl (.tmp 22) (.tmp 22) 78 rfl 0 3 i0 (.int .i64 0) 1 Tryz.underlying78 Hi.out.1 Hi.out.2.1 Hi.out.2.2.1 .i64 .i64 n n n rfl rfl rfl rfl hb8 (by simp only [maxLen];omega) (Nat.zero_le _) ?_;intro w1 hown1 hgr1;have F1:=hid_ (((Fr.refl none_ w).alloc (rclkB 0 0 (.slice none 0 0))).grown hgr1 (fun k hk=>by cases hk));have O1:=hid_ hown1;have B1:=hid_ ((Blk.new w 80 #[.int .i64 0,.int .i64 0,.slice none 0 0]).grown hgr1 (by simp));clear hown1 hgr1;have c0:w1.cell? ⟨w.heap.size,0,none⟩=some (.int .i64 0):=B1.out.cell' rfl;have c1:w1.cell? ⟨w.heap.size,1,none⟩=some (.int .i64 0):=B1.out.cell' rfl;have c2:w1.cell? ⟨w.heap.size,2,none⟩=some (.slice none 0 0):=B1.out.cell' rfl;have f0:=B1.out.frozen 0;have f1:=B1.out.frozen 1;have f2:=B1.out.frozen 2)
  obtain ⟨qb,qf⟩:=box3k B1.out (.int .i64 1) (.int .i64 last) (.slice (some ⟨w.heap.size+1,0,none⟩) n n)
  have q0:=qb.cell' (i:=0) rfl
  have q1:=qb.cell' (i:=1) rfl
  have q2:=qb.cell' (i:=2) rfl
  have O2:=own_fr O1.out qf (fun k hk e=>own_blk_ne O1.out B1.out (by decide) (by rw [hk,show k=w.heap.size from e]))
  have F2:=F1.out.then_only qf (.inr (Nat.le_refl _))
  have hl:(List.replicate n (0:Int)).length=n:=by simp
  rw [made_zero] at O2
  rw [World.size_alloc] at O2
  clear c0 c1 c2 f0 f1 f2
  refine bodyPost_ret (v:=.tuple #[rclk 1 last (.slice (some ⟨w.heap.size+1,0,none⟩) n n),.bool true]) (by simp [results,Tryz.results96,go_sem,q0,q1,q2]) rfl ⟨some ⟨w.heap.size+1,0,none⟩,n,by rw [hl],?_,F2⟩
  unfold SOwn
  rw [hl]
  exact O2

open Go.RowKit

def ltL:List UInt8→List UInt8→Bool
  | [],[]=>false
  | [],_ :: _=>true
  | _ :: _,[]=>false
  | a :: x,b :: y=>decide (a.toNat < b.toNat) || (decide (a.toNat=b.toNat) && ltL x y)
theorem u8_eq {a b:UInt8} (h:a.toNat=b.toNat):a=b:=UInt8.toNat_inj.1 h
theorem ltL_cons {a b:UInt8} {x y:List UInt8}:ltL (a :: x) (b :: y)=true ↔ a.toNat < b.toNat∨a.toNat=b.toNat∧ltL x y=true:=by
  simp [ltL]
theorem ltL_irrefl:∀ x:List UInt8,ltL x x=false
  | []=>rfl
  | a :: x=>by simp [ltL,ltL_irrefl x]
theorem ltL_trans:∀ {x y z:List UInt8},ltL x y=true→ltL y z=true→ltL x z=true
  | [],[],_,h,_=>by simp [ltL] at h
  | [],_ :: _,[],_,h=>by simp [ltL] at h
  | [],_ :: _,_ :: _,_,_=>rfl
  | _ :: _,[],_,h,_=>by simp [ltL] at h
  | _ :: _,_ :: _,[],_,h=>by simp [ltL] at h
  | a :: x,b :: y,c :: z,h,k=>by
    rw [ltL_cons] at h k ⊢
    rcases h with h | ⟨h,h'⟩ <;> rcases k with k | ⟨k,k'⟩
    · left;omega
    · left;omega
    · left;omega
    · right;exact ⟨by omega,ltL_trans h' k'⟩
theorem ltL_total:∀ (x y:List UInt8),ltL x y=true∨x=y∨ltL y x=true
  | [],[]=>.inr (.inl rfl)
  | [],_ :: _=>.inl rfl
  | _ :: _,[]=>.inr (.inr rfl)
  | a :: x,b :: y=>by
    rw [ltL_cons,ltL_cons]
    rcases Nat.lt_trichotomy a.toNat b.toNat with h | h | h
    · exact .inl (.inl h)
    · rcases ltL_total x y with k | rfl | k
      · exact .inl (.inr ⟨h,k⟩)
      · exact .inr (.inl (by rw [u8_eq h]))
      · exact .inr (.inr (.inr ⟨h.symm,k⟩))
    · exact .inr (.inr (.inl h))
def cpL:List UInt8→List UInt8→Nat
  | a :: x,b :: y=>if a=b then cpL x y+1 else 0
  | _,_=>0
theorem cpL_le:∀ (x y:List UInt8),cpL x y≤x.length∧cpL x y≤y.length
  | [],_=>⟨Nat.le_refl _,Nat.zero_le _⟩
  | _ :: _,[]=>⟨Nat.zero_le _,Nat.le_refl _⟩
  | a :: x,b :: y=>by
    have:=cpL_le x y
    rw [cpL]
    split <;> simp <;> omega
theorem cpL_in:∀ {x y:List UInt8} {i:Nat},i < cpL x y→x[i]?=y[i]?
  | [],_,i,h=>by simp [cpL] at h
  | _ :: _,[],i,h=>by simp [cpL] at h
  | a :: x,b :: y,i,h=>by
    rw [cpL] at h
    split at h
    · rename_i e
      cases i with
      | zero=>simp [e]
      | succ i=>simpa using cpL_in (x:=x) (y:=y) (i:=i) (by omega)
    · omega
theorem cpL_stop:∀ {x y:List UInt8} {a b:UInt8},x[cpL x y]?=some a→y[cpL x y]?=some b→a≠b
  | [],_,a,b,h,_=>by simp at h
  | _ :: _,[],a,b,_,h=>by simp at h
  | c :: x,d :: y,a,b,h,k=>by
    rw [cpL] at h k
    split at h
    · rename_i e
      rw [if_pos e] at k
      exact cpL_stop (x:=x) (y:=y) (by simpa using h) (by simpa using k)
    · rename_i e
      rw [if_neg e] at k
      have h1:c=a:=by simpa using h
      have h2:d=b:=by simpa using k
      rw [← h1,← h2];exact e
theorem cpL_is:∀ {x y:List UInt8} {n:Nat},(∀ i,i < n→x[i]?=y[i]?)→n≤x.length→n≤y.length→(n=x.length∨n=y.length∨∃ a b,x[n]?=some a∧y[n]?=some b∧a≠b)→cpL x y=n
  | [],y,n,_,h1,_,_=>by
    obtain rfl:n=0:=by simpa using h1
    simp [cpL]
  | _ :: _,[],n,_,_,h2,_=>by
    obtain rfl:n=0:=by simpa using h2
    simp [cpL]
  | c :: x,d :: y,0,_,_,_,h=>by
    rcases h with h | h | ⟨a,b,h1,h2,h3⟩
    · simp at h
    · simp at h
    · have e1:c=a:=by simpa using h1
      have e2:d=b:=by simpa using h2
      rw [cpL,if_neg (by rw [e1,e2];exact h3)]
  | c :: x,d :: y,n+1,hi,h1,h2,h=>by
    have e0:c=d:=by simpa using hi 0 (by omega)
    rw [cpL,if_pos e0]
    congr 1
    refine cpL_is (fun i hn=>by simpa using hi (i+1) (by omega)) (by simpa using h1) (by simpa using h2) ?_
    rcases h with h | h | ⟨a,b,h1,h2,h3⟩
    · exact .inl (by simpa using h)
    · exact .inr (.inl (by simpa using h))
    · exact .inr (.inr ⟨a,b,by simpa using h1,by simpa using h2,h3⟩)
theorem lt_of_end:∀ {x y:List UInt8},cpL x y=x.length→x.length < y.length→ltL x y=true
  | [],[],_,h=>by simp at h
  | [],_ :: _,_,_=>rfl
  | _ :: _,[],_,h=>by simp at h
  | a :: x,b :: y,h,hl=>by
    rw [cpL] at h
    split at h
    · rename_i e
      rw [ltL_cons]
      right
      exact ⟨by rw [e],lt_of_end (by simpa using h) (by simpa using hl)⟩
    · simp at h
theorem cp_comm:∀ x y:List UInt8,cpL x y=cpL y x
  | [],[]=>rfl
  | [],_ :: _=>rfl
  | _ :: _,[]=>rfl
  | a :: x,b :: y=>by
    rw [cpL,cpL]
    by_cases h:a=b
    · rw [if_pos h,if_pos h.symm,cp_comm x y]
    · rw [if_neg h,if_neg (fun e=>h e.symm)]
theorem lt_of_stop:∀ {x y:List UInt8} {a b:UInt8},x[cpL x y]?=some a→y[cpL x y]?=some b→a.toNat < b.toNat→ltL x y=true
  | [],_,a,b,h,_,_=>by simp at h
  | _ :: _,[],a,b,_,h,_=>by simp at h
  | c :: x,d :: y,a,b,h,k,l=>by
    rw [ltL_cons]
    rw [cpL] at h k
    split at h
    · rename_i e
      rw [if_pos e] at k
      exact .inr ⟨by rw [e],lt_of_stop (by simpa using h) (by simpa using k) l⟩
    · rename_i e
      rw [if_neg e] at k
      have h1:c=a:=by simpa using h
      have h2:d=b:=by simpa using k
      rw [h1,h2];exact .inl l
theorem eq_of_cp {x y:List UInt8} (h1:cpL x y=x.length) (h2:cpL x y=y.length):x=y:=by
  apply List.ext_getElem?
  intro i
  rcases Nat.lt_or_ge i (cpL x y) with h | h
  · exact cpL_in h
  · rw [List.getElem?_eq_none (by omega),List.getElem?_eq_none (by omega)]

def ltS (a b:ByteArray):Bool:=ltL a.data.toList b.data.toList
theorem ba_eq {a b:ByteArray} (h:a.data.toList=b.data.toList):a=b:=by
  cases a;cases b
  congr
  exact Array.toList_inj.1 h
theorem ltS_irrefl (a:ByteArray):ltS a a=false:=ltL_irrefl _
theorem ltS_trans {a b c:ByteArray} (h:ltS a b=true) (k:ltS b c=true):ltS a c=true:=ltL_trans h k
theorem ltS_total (a b:ByteArray):ltS a b=true∨a=b∨ltS b a=true:=by
  rcases ltL_total a.data.toList b.data.toList with h | h | h
  · exact .inl h
  · exact .inr (.inl (ba_eq h))
  · exact .inr (.inr h)
theorem ltS_asymm {a b:ByteArray} (h:ltS a b=true):ltS b a=false:=by
  cases h':ltS b a with
  | false=>rfl
  | true=>have:=ltS_trans h h';rw [ltS_irrefl] at this;cases this
theorem ltS_ne {a b:ByteArray} (h:ltS a b=true):a≠b:=by rintro rfl;rw [ltS_irrefl] at h;cases h
theorem ba_toList (a:ByteArray):a.toList=a.data.toList:=ByteArray.toList_eq a
def sEq (a b:ByteArray):Bool:=a.toList==b.toList
theorem sEq_iff {a b:ByteArray}:sEq a b=true ↔ a=b:=by
  unfold sEq
  rw [beq_iff_eq,ba_toList,ba_toList]
  exact ⟨ba_eq,fun h=>by rw [h]⟩
theorem sEq_self (a:ByteArray):sEq a a=true:=sEq_iff.2 rfl
theorem sEq_ne {a b:ByteArray} (h:a≠b):sEq a b=false:=by
  cases e:sEq a b with
  | false=>rfl
  | true=>exact absurd (sEq_iff.1 e) h
def cmpI (a b:ByteArray):Int:=if ltS a b=true then -1 else if a=b then 0 else 1
theorem cmp_lt {a b:ByteArray} (h:ltS a b=true):cmpI a b=-1:=if_pos h
theorem cmp_eq (a:ByteArray):cmpI a a=0:=by rw [cmpI,if_neg (by rw [ltS_irrefl];decide),if_pos rfl]
theorem cmp_gt {a b:ByteArray} (h:ltS b a=true):cmpI a b=1:=by rw [cmpI,if_neg (by rw [ltS_asymm h];decide),if_neg (fun e=>ltS_ne h e.symm)]
theorem cmp_neg (a b:ByteArray):decide (cmpI a b < 0)=ltS a b:=by
  rcases ltS_total a b with h | rfl | h
  · rw [cmp_lt h,h];rfl
  · rw [cmp_eq,ltS_irrefl];rfl
  · rw [cmp_gt h,ltS_asymm h];rfl
theorem cmp_le (a b:ByteArray):decide (cmpI a b≤0)=!ltS b a:=by
  rcases ltS_total a b with h | rfl | h
  · rw [cmp_lt h,ltS_asymm h];rfl
  · rw [cmp_eq,ltS_irrefl];rfl
  · rw [cmp_gt h,h];rfl
theorem cmp_ge (a b:ByteArray):decide (0≤cmpI a b)=!ltS a b:=by
  rcases ltS_total a b with h | rfl | h
  · rw [cmp_lt h,h];rfl
  · rw [cmp_eq,ltS_irrefl];rfl
  · rw [cmp_gt h,ltS_asymm h];rfl
def inS (low high:ByteArray) (unb:Bool) (key:ByteArray):Bool:=!ltS key low && (unb || ltS key high)

theorem ba_len (a:ByteArray):a.data.toList.length=a.size:=by simp
theorem ba_get {a:ByteArray} {i:Nat} (h:i < a.size):a.data.toList[i]?=some a[i]:=by
  rw [List.getElem?_eq_getElem (by rw [ba_len];exact h)]
  rfl

theorem drewN_drewN (w:World) (a b:Nat):(w.drewN a).drewN b=w.drewN (a+b):=by
  simp [World.drewN,Nat.add_assoc]
set_option maxHeartbeats 2000000 in
theorem common_ok (a b:ByteArray) (w:World) (ha:a.size≤9000000000000000000) (hb:b.size≤9000000000000000000) :
  Calls Tryz.prog 118 #[.string a,.string b] w fun e w'=>e=.returned (.int .i64 (cpL a.data.toList b.data.toList:Nat))∧∃ n,w'=w.drewN n:=by
 by_cases hmin:b.size < a.size
 ·go_enter Tryz.func118,Tryz.ntmps118
  go_wp2
  go_loopw [5,11] (fun n i wr=>∃ k:Nat,k≤b.size∧n=.int .i64 k∧i=.int .i64 k∧(∀ j,j < k→a.data.toList[j]?=b.data.toList[j]?)∧∃ q,wr=w.drewN q) (fun _ i _=>b.size - (intOf i).toNat)
  case atStart=>exact ⟨0,Nat.zero_le _,rfl,rfl,fun j hj=>by omega,0,rfl⟩
  case round =>
   obtain ⟨k,hk,rfl,rfl,hall,q,rfl⟩:=hrel
   have HA:=hid_ hall
   clear hall
   by_cases hlt:k < b.size
   ·have hka:k < a.size:=by omega
    have hkb:k < b.size:=by omega
    have hi0:(0:Int)≤(k:Int):=Int.natCast_nonneg _
    have hia:(k:Int) < (a.size:Int):=by omega
    have hib:(k:Int) < (b.size:Int):=by omega
    by_cases he:a[k]=b[k]
    ·have hne:((a[k].toNat:Int) != (b[k].toNat:Int))=false:=by rw [he];simp
     have HS:Hid (∀ j,j < k+1→a.data.toList[j]?=b.data.toList[j]?):=hid_ (fun j hj=>by
      rcases Nat.lt_succ_iff_lt_or_eq.1 hj with h | rfl
      ·exact HA.out j h
      ·rw [ba_get hka,ba_get hkb,he])
     clear he
     go_wp2_with fail
     go_quiet (fail)
     go_wp2_with fail
     go_roundw
     case rel=>exact ⟨k+1,by omega,by go_num,by go_num,HS.out,_,rfl⟩
     case measure=>simp [intOf];omega
    ·have hne:((a[k].toNat:Int) != (b[k].toNat:Int))=true:=by
      rw [bne_iff_ne]
      intro e
      exact he (u8_eq (by omega))
     have HE:Hid (cpL a.data.toList b.data.toList=k):=hid_ (cpL_is HA.out (by rw [ba_len];omega) (by rw [ba_len];omega) (.inr (.inr ⟨a[k],b[k],ba_get hka,ba_get hkb,he⟩)))
     clear he
     go_wp2_with fail
     go_quiet (fail)
     go_wp2_with fail
     go_ret
     refine ⟨by rw [HE.out];rfl,?_⟩
     first | exact ⟨_,rfl⟩ | exact ⟨_,drewN_drewN _ _ _⟩
   ·obtain rfl:k=b.size:=by omega
    have HE:Hid (cpL a.data.toList b.data.toList=b.size):=hid_ (cpL_is HA.out (by rw [ba_len];omega) (by rw [ba_len];omega) (by rw [ba_len,ba_len];omega))
    go_wp2_with fail
    go_ret
    refine ⟨by rw [HE.out];rfl,?_⟩
    first | exact ⟨_,rfl⟩ | exact ⟨_,drewN_drewN _ _ _⟩
 ·go_enter Tryz.func118,Tryz.ntmps118
  go_wp2
  go_loopw [5,11] (fun n i wr=>∃ k:Nat,k≤a.size∧n=.int .i64 k∧i=.int .i64 k∧(∀ j,j < k→a.data.toList[j]?=b.data.toList[j]?)∧∃ q,wr=w.drewN q) (fun _ i _=>a.size - (intOf i).toNat)
  case atStart=>exact ⟨0,Nat.zero_le _,rfl,rfl,fun j hj=>by omega,0,rfl⟩
  case round =>
   obtain ⟨k,hk,rfl,rfl,hall,q,rfl⟩:=hrel
   have HA:=hid_ hall
   clear hall
   by_cases hlt:k < a.size
   ·have hka:k < a.size:=by omega
    have hkb:k < b.size:=by omega
    have hi0:(0:Int)≤(k:Int):=Int.natCast_nonneg _
    have hia:(k:Int) < (a.size:Int):=by omega
    have hib:(k:Int) < (b.size:Int):=by omega
    by_cases he:a[k]=b[k]
    ·have hne:((a[k].toNat:Int) != (b[k].toNat:Int))=false:=by rw [he];simp
     have HS:Hid (∀ j,j < k+1→a.data.toList[j]?=b.data.toList[j]?):=hid_ (fun j hj=>by
      rcases Nat.lt_succ_iff_lt_or_eq.1 hj with h | rfl
      ·exact HA.out j h
      ·rw [ba_get hka,ba_get hkb,he])
     clear he
     go_wp2_with fail
     go_quiet (fail)
     go_wp2_with fail
     go_roundw
     case rel=>exact ⟨k+1,by omega,by go_num,by go_num,HS.out,_,rfl⟩
     case measure=>simp [intOf];omega
    ·have hne:((a[k].toNat:Int) != (b[k].toNat:Int))=true:=by
      rw [bne_iff_ne]
      intro e
      exact he (u8_eq (by omega))
     have HE:Hid (cpL a.data.toList b.data.toList=k):=hid_ (cpL_is HA.out (by rw [ba_len];omega) (by rw [ba_len];omega) (.inr (.inr ⟨a[k],b[k],ba_get hka,ba_get hkb,he⟩)))
     clear he
     go_wp2_with fail
     go_quiet (fail)
     go_wp2_with fail
     go_ret
     refine ⟨by rw [HE.out];rfl,?_⟩
     first | exact ⟨_,rfl⟩ | exact ⟨_,drewN_drewN _ _ _⟩
   ·obtain rfl:k=a.size:=by omega
    have HE:Hid (cpL a.data.toList b.data.toList=a.size):=hid_ (cpL_is HA.out (by rw [ba_len];omega) (by rw [ba_len];omega) (by rw [ba_len,ba_len];omega))
    go_wp2_with fail
    go_ret
    refine ⟨by rw [HE.out];rfl,?_⟩
    first | exact ⟨_,rfl⟩ | exact ⟨_,drewN_drewN _ _ _⟩

set_option maxHeartbeats 2000000 in
theorem compare_ok (a b:ByteArray) (w:World) (ha:a.size≤9000000000000000000) (hb:b.size≤9000000000000000000) :
  Calls Tryz.prog 85 #[.string a,.string b] w fun e w'=>e=.returned (.int .i64 (cmpI a b))∧∃ n,w'=w.drewN n:=by
 obtain ⟨n,hn⟩:∃ n,n=cpL a.data.toList b.data.toList:=⟨_,rfl⟩
 have hle:=cpL_le a.data.toList b.data.toList
 rw [ba_len,ba_len,← hn] at hle
 obtain ⟨hla,hlb⟩:=hle
 have HN:=hid_ hn
 clear hn
 by_cases h1:n=a.size
 ·have hA:((n:Int)==(a.size:Int))=true:=beq_iff_eq.2 (by omega)
  by_cases h2:n=b.size
  ·have hB:((n:Int)==(b.size:Int))=true:=beq_iff_eq.2 (by omega)
   have he:a=b:=ba_eq (eq_of_cp (by rw [ba_len,← HN.out,h1]) (by rw [ba_len,← HN.out,h2]))
   have HE:Hid (cmpI a b=0):=hid_ (by rw [he];exact cmp_eq b)
   clear h1 h2 he
   go_enter Tryz.func85,Tryz.ntmps85
   go_wp2_with fail
   refine (common_ok a b w ha hb).mono ?_
   rintro e w1 ⟨rfl,q,rfl⟩
   rw [← HN.out]
   go_wp2_with fail
   go_ret
   refine ⟨by rw [HE.out];rfl,?_⟩
   first | exact ⟨_,rfl⟩ | exact ⟨_,drewN_drewN _ _ _⟩
  ·have hB:((n:Int)==(b.size:Int))=false:=beq_eq_false_iff_ne.2 (by omega)
   have HE:Hid (cmpI a b=-1):=hid_ (cmp_lt (lt_of_end (by rw [ba_len,← HN.out,h1]) (by rw [ba_len,ba_len];omega)))
   clear h1 h2
   go_enter Tryz.func85,Tryz.ntmps85
   go_wp2_with fail
   refine (common_ok a b w ha hb).mono ?_
   rintro e w1 ⟨rfl,q,rfl⟩
   rw [← HN.out]
   go_wp2_with fail
   go_ret
   refine ⟨by rw [HE.out];rfl,?_⟩
   first | exact ⟨_,rfl⟩ | exact ⟨_,drewN_drewN _ _ _⟩
 ·have hA:((n:Int)==(a.size:Int))=false:=beq_eq_false_iff_ne.2 (by omega)
  by_cases h2:n=b.size
  ·have hB:((n:Int)==(b.size:Int))=true:=beq_iff_eq.2 (by omega)
   have HE:Hid (cmpI a b=1):=hid_ (cmp_gt (lt_of_end (by rw [cp_comm,ba_len,← HN.out,h2]) (by rw [ba_len,ba_len];omega)))
   clear h1 h2
   go_enter Tryz.func85,Tryz.ntmps85
   go_wp2_with fail
   refine (common_ok a b w ha hb).mono ?_
   rintro e w1 ⟨rfl,q,rfl⟩
   rw [← HN.out]
   go_wp2_with fail
   go_ret
   refine ⟨by rw [HE.out];rfl,?_⟩
   first | exact ⟨_,rfl⟩ | exact ⟨_,drewN_drewN _ _ _⟩
  ·have hB:((n:Int)==(b.size:Int))=false:=beq_eq_false_iff_ne.2 (by omega)
   have hka:n < a.size:=by omega
   have hkb:n < b.size:=by omega
   have hi0:(0:Int)≤(n:Int):=Int.natCast_nonneg _
   have hia:(n:Int) < (a.size:Int):=by omega
   have hib:(n:Int) < (b.size:Int):=by omega
   have ga:a.data.toList[cpL a.data.toList b.data.toList]?=some a[n]:=by rw [← HN.out];exact ba_get hka
   have gb:b.data.toList[cpL a.data.toList b.data.toList]?=some b[n]:=by rw [← HN.out];exact ba_get hkb
   have hst:=cpL_stop ga gb
   by_cases h3:a[n].toNat < b[n].toNat
   ·have hC:decide (a[n].toNat < b[n].toNat)=true:=decide_eq_true h3
    have HE:Hid (cmpI a b=-1):=hid_ (cmp_lt (lt_of_stop ga gb h3))
    clear h1 h2 h3 ga gb hst
    go_enter Tryz.func85,Tryz.ntmps85
    go_wp2_with fail
    refine (common_ok a b w ha hb).mono ?_
    rintro e w1 ⟨rfl,q,rfl⟩
    rw [← HN.out]
    go_wp2_with fail
    go_quiet (fail)
    go_wp2_with fail
    go_ret
    refine ⟨by rw [HE.out];rfl,?_⟩
    first | exact ⟨_,rfl⟩ | exact ⟨_,drewN_drewN _ _ _⟩
   ·have hC:decide (a[n].toNat < b[n].toNat)=false:=decide_eq_false h3
    have hgt:b[n].toNat < a[n].toNat:=by
     rcases Nat.lt_trichotomy a[n].toNat b[n].toNat with h | h | h
     ·exact absurd h h3
     ·exact absurd (u8_eq h) hst
     ·exact h
    rw [cp_comm] at ga gb
    have HE:Hid (cmpI a b=1):=hid_ (cmp_gt (lt_of_stop gb ga hgt))
    clear h1 h2 h3 ga gb hst hgt
    go_enter Tryz.func85,Tryz.ntmps85
    go_wp2_with fail
    refine (common_ok a b w ha hb).mono ?_
    rintro e w1 ⟨rfl,q,rfl⟩
    rw [← HN.out]
    go_wp2_with fail
    go_quiet (fail)
    go_wp2_with fail
    go_ret
    refine ⟨by rw [HE.out];rfl,?_⟩
    first | exact ⟨_,rfl⟩ | exact ⟨_,drewN_drewN _ _ _⟩

set_option maxHeartbeats 2000000 in
theorem in_ok (low high:ByteArray) (unb:Bool) (key:ByteArray) (w:World) (h1:low.size≤9000000000000000000) (h2:high.size≤9000000000000000000) (h3:key.size≤9000000000000000000) :
    Calls Tryz.prog 40 #[.string low,.string high,.bool unb,.string key] w fun e w'=>e=.returned (.bool (inS low high unb key))∧∃ n,w'=w.drewN n:=by
  have ca:=cmp_le low key
  have cb:=cmp_neg key high
  cases ha:ltS key low with
  | true =>
    have hr:Hid (inS low high unb key=false):=hid_ (by simp [inS,ha])
    rw [ha] at ca
    have ca':decide (cmpI low key≤0)=false:=ca
    clear ca cb ha
    go_enter Tryz.func40,Tryz.ntmps40
    go_wp2_with fail
    refine (compare_ok low key w h1 h3).mono ?_
    rintro e w1 ⟨rfl,q,rfl⟩
    go_wp2_with fail
    go_ret
    refine ⟨by rw [hr.out];rfl,?_⟩
    first | exact ⟨_,rfl⟩ | exact ⟨_,drewN_drewN _ _ _⟩
  | false =>
    rw [ha] at ca
    have ca':decide (cmpI low key≤0)=true:=ca
    cases unb with
    | true =>
      have hr:Hid (inS low high true key=true):=hid_ (by simp [inS,ha])
      clear ca cb ha
      go_enter Tryz.func40,Tryz.ntmps40
      go_wp2_with fail
      refine (compare_ok low key w h1 h3).mono ?_
      rintro e w1 ⟨rfl,q,rfl⟩
      go_wp2_with fail
      go_ret
      refine ⟨by rw [hr.out];rfl,?_⟩
      first | exact ⟨_,rfl⟩ | exact ⟨_,drewN_drewN _ _ _⟩
    | false =>
      have hr:Hid (inS low high false key=ltS key high):=hid_ (by simp [inS,ha])
      have CB:=hid_ cb
      clear ca cb ha
      go_enter Tryz.func40,Tryz.ntmps40
      go_wp2_with fail
      refine (compare_ok low key w h1 h3).mono ?_
      rintro e w1 ⟨rfl,q,rfl⟩
      go_wp2_with fail
      refine (compare_ok key high _ h3 h2).mono ?_
      rintro e w1 ⟨rfl,q2,rfl⟩
      go_wp2_with fail
      go_ret
      refine ⟨by rw [hr.out,← CB.out];rfl,?_⟩
      first | exact ⟨_,rfl⟩ | exact ⟨_,drewN_drewN _ _ _⟩
open Go

structure Wx (w:World) where
  v:World
  h:Fr none_ w v
instance Wx.some_ (w:World):Nonempty (Wx w):=⟨⟨w,Fr.refl _ _⟩⟩
def Wx.to {w:World} (x:Wx w):World:=x.v
theorem Wx.fr {w:World} (x:Wx w):Fr none_ w x.to:=x.h
theorem Wx.cell {w:World} (x:Wx w) {b o:Nat} {v:Value} (h:w.cell? ⟨b,o,none⟩=some v):x.to.cell? ⟨b,o,none⟩=some v:=
  (World.cell?_of_block (x.h.block b (World.block_lt_of_cell? w _ h) id)).trans h
section
variable {P:Program} {w:World}
theorem wp_region_quiet_x {id:Nat} {Q:Exit→Act→World→Prop} {a:Act} {l:List Oper} (hm:P.follows .mixedOrders=true) (hB:Region.lexB .any l.toArray=true)
    (h:wpQuiet P l.toArray (fun w'=>∃ x:Wx w,w'=x.to) (fun a'=>∀ w',(∃ x:Wx w,w'=x.to)→Q .normal a' w') l a):(Code.region id l.toArray true).wp P Q a w:=
  wp_region_quiet (C:=fun w'=>∃ x:Wx w,w'=x.to) hm hB ⟨⟨_,(Fr.refl none_ w).drew⟩,rfl⟩ (by simpa using h)
theorem Calls.quiet_x {f:FuncId} {args:Array Value} {x:Wx w} {v:Value}
    (h:Calls P f args x.to fun e w'=>e=.returned v∧Fr none_ x.to w'):Calls P f args x.to fun e w''=>e=.returned v∧∃ y:Wx w,w''=y.to:=
  h.mono fun _ w' ⟨he,hf⟩=>⟨he,⟨w',x.h.then_none hf⟩,rfl⟩
end
open Go.RowKit Go.BigFrame

structure Vw where
  low:ByteArray
  high:ByteArray
  unb:Bool
  right:Int
  ents:List Et
  held:Bool
  hp:Int
  hl:Int
  hk:ByteArray
def Vw.zero:Vw:=⟨nilS,nilS,false,0,[],false,0,0,nilS⟩
abbrev vwA (V:Vw) (ve:Value):Array Value:=#[.string V.low,.string V.high,.bool V.unb,.int .i64 V.right,ve,.bool V.held,.int .i64 V.hp,.int .i64 V.hl,.string V.hk]
abbrev vwV (V:Vw) (ve:Value):Value:=.agg (vwA V ve)
def SzOk (s:ByteArray):Prop:=s.size≤9000000000000000000
theorem SzOk.le {s:ByteArray} (h:SzOk s):s.size≤9000000000000000000:=h
theorem SzOk.nil:SzOk nilS:=by unfold SzOk;decide
def EtsOk (L:List Et):Prop:=L.length≤1000∧∀ p ∈ L,SzOk p.1
structure Vw.Ok (V:Vw):Prop where
  low:SzOk V.low
  high:SzOk V.high
  hk:SzOk V.hk
  ents:EtsOk V.ents
structure VwIn (w:World) (V:Vw) (A:Option Addr) (c:Nat):Prop where
  rd:Reads w 2 A V.ents.length (etFlat V.ents)
  cap:V.ents.length≤c
  capm:c≤maxLen
  ok:V.Ok
theorem VwIn.keep {w w':World} {V:Vw} {A:Option Addr} {c:Nat} (h:VwIn w V A c) (hf:Fr none_ w w'):VwIn w' V A c:=⟨h.rd.none_fr hf,h.cap,h.capm,h.ok⟩

def plN:List Et→ByteArray→Nat
  | [],_=>0
  | p :: t,key=>if ltS p.1 key=true then plN t key+1 else 0
theorem plN_le:∀ (L:List Et) (key:ByteArray),plN L key≤L.length
  | [],_=>Nat.le_refl _
  | p :: t,key=>by
    have:=plN_le t key
    rw [plN]
    split <;> simp <;> omega
theorem plN_in:∀ {L:List Et} {key:ByteArray} {i:Nat} {p:Et},i < plN L key→L[i]?=some p→ltS p.1 key=true
  | [],_,i,p,h,_=>by simp [plN] at h
  | q :: t,key,i,p,h,hp=>by
    rw [plN] at h
    split at h
    · cases i with
      | zero =>
        obtain rfl:q=p:=by simpa using hp
        assumption
      | succ i=>exact plN_in (L:=t) (i:=i) (by omega) (by simpa using hp)
    · omega
theorem plN_at:∀ {L:List Et} {key:ByteArray} {p:Et},L[plN L key]?=some p→ltS p.1 key=false
  | [],_,p,h=>by simp at h
  | q :: t,key,p,h=>by
    rw [plN] at h
    split at h
    · exact plN_at (L:=t) (by simpa using h)
    · obtain rfl:q=p:=by simpa using h
      rename_i h1
      simpa using h1
def atB (L:List Et) (key:ByteArray):Bool:=
  match L[plN L key]? with
  | some p=>sEq p.1 key
  | none=>false
theorem atB_some {L:List Et} {key:ByteArray} {p:Et} (h:L[plN L key]?=some p):atB L key=sEq p.1 key:=by simp [atB,h]
theorem atB_none {L:List Et} {key:ByteArray} (h:plN L key=L.length):atB L key=false:=by simp [atB,h]

set_option maxHeartbeats 4000000 in
theorem place_ok (V:Vw) (A:Option Addr) (c:Nat) (key:ByteArray) (w:World) (h:VwIn w V A c) (hk:SzOk key) :
  Calls Tryz.prog 112 #[vwV V (.slice A V.ents.length c),.string key] w fun e w'=>e=.returned (.tuple #[.int .i64 (plN V.ents key:Nat),.bool (atB V.ents key)])∧Fr none_ w w':=by
 obtain ⟨w0,hw0⟩:∃ w0,w0=w.alloc (.cells (vwA V (.slice A V.ents.length c)) 38):=⟨_,rfl⟩
 have f0:Fr none_ w w0:=by rw [hw0];exact (Fr.refl none_ w).alloc _
 have F0:=hid_ f0
 have H0:=hid_ (h.keep f0)
 have B0:Hid (Blk w0 w.heap.size 38 (vwA V (.slice A V.ents.length c))):=hid_ (by rw [hw0];exact Blk.new w _ _)
 have hle:=plN_le V.ents key
 have h1000:=h.ok.ents.1
 have HSZ:=hid_ (And.intro h.ok.ents.2 hk)
 clear h f0 hk
 go_enter Tryz.func112,Tryz.ntmps112
 go_wp2_with fail
 change Code.wp _ _ _ _ (w.alloc (.cells (vwA V (.slice A V.ents.length c)) 38))
 rw [← hw0]
 clear hw0
 go_loopw [6] (fun i wr=>∃ k:Nat,k≤plN V.ents key∧i=.int .i64 k∧Fr none_ w0 wr) (fun i _=>plN V.ents key - (intOf i).toNat)
 case atStart=>exact ⟨0,Nat.zero_le _,rfl,Fr.refl _ _⟩
 case round =>
  obtain ⟨k,hk,rfl,hF⟩:=hrel
  have B:=hid_ (B0.out.fr hF id)
  have H:=hid_ (H0.out.keep hF)
  have F:=hid_ hF
  clear hF
  have v4:wr.cell? ⟨w.heap.size,4,none⟩=some (.slice A V.ents.length c):=B.out.cell' rfl
  have hi0:(0:Int)≤(k:Int):=Int.natCast_nonneg _
  by_cases hlt:k < plN V.ents key
  ·have hkl:k < V.ents.length:=by omega
   have hi1:(k:Int) < (V.ents.length:Int):=by omega
   have hd1:decide ((k:Int) < (V.ents.length:Int))=true:=by simp;omega
   obtain ⟨p,hp⟩:∃ p,V.ents[k]?=some p:=⟨_,List.getElem?_eq_getElem hkl⟩
   obtain ⟨b,off,rfl,hb,c0,c1⟩:=et_at H.out.rd hp
   have hcmp:decide (cmpI p.1 key < 0)=true:=by rw [cmp_neg];exact plN_in hlt hp
   have hsz:=HSZ.out.1 p (List.mem_of_getElem? hp)
   have HCMP:=hid_ hcmp
   clear hp hcmp c1
   go_wp2_with fail
   refine (compare_ok p.1 key _ hsz.le HSZ.out.2.le).mono ?_
   rintro e w1 ⟨rfl,q,rfl⟩
   have hcmp:=HCMP.out
   have FQ:=hid_ (F.out.drewN q)
   clear v4 c0
   go_wp2_with fail
   go_roundw
   case rel=>exact ⟨k+1,by omega,by go_num,FQ.out⟩
   case measure=>simp [intOf];omega
  ·obtain rfl:k=plN V.ents key:=by omega
   by_cases hl:plN V.ents key < V.ents.length
   ·obtain ⟨p,hp⟩:∃ p,V.ents[plN V.ents key]?=some p:=⟨_,List.getElem?_eq_getElem hl⟩
    obtain ⟨b,off,rfl,hb,c0,c1⟩:=et_at H.out.rd hp
    have hcmp:decide (cmpI p.1 key < 0)=false:=by rw [cmp_neg];exact plN_at hp
    have hsz:=HSZ.out.1 p (List.mem_of_getElem? hp)
    have hat:=atB_some hp
    obtain ⟨n,hn⟩:∃ n,n=plN V.ents key:=⟨_,rfl⟩
    have hi1:(n:Int) < (V.ents.length:Int):=by omega
    have hd1:decide ((n:Int) < (V.ents.length:Int))=true:=by simp;omega
    have hd2:decide (n < V.ents.length)=true:=by simp;omega
    rw [← hn] at c0 c1 hi0
    rw [← hn]
    have HCMP:=hid_ hcmp
    have HAT:=hid_ hat
    have HN:=hid_ hn
    clear hp hcmp c1 hl hlt hat hn hk hle
    go_wp2_with fail
    refine (compare_ok p.1 key _ hsz.le HSZ.out.2.le).mono ?_
    rintro e w1 ⟨rfl,q,rfl⟩
    have hcmp:=HCMP.out
    have FQ:=hid_ (F.out.drewN q)
    go_wp2_with fail
    go_quiet (fail)
    go_wp2_with fail
    go_ret2
    exact ⟨by rw [HAT.out,← HN.out];rfl,F0.out.then_none (by repeat (first | exact FQ.out | apply Fr.drewN | apply Fr.drew))⟩
   ·have he:plN V.ents key=V.ents.length:=by omega
    have hat:=atB_none he
    have HAT:=hid_ hat
    have HE:=hid_ he
    have hd1:decide ((V.ents.length:Int) < (V.ents.length:Int))=false:=by simp
    rw [he]
    clear he hat hl hlt hk hle
    go_wp2_with fail
    go_quiet (fail)
    go_wp2_with fail
    go_ret2
    exact ⟨by rw [HAT.out,HE.out];rfl,F0.out.then_none (by repeat (first | exact F.out | apply Fr.drewN | apply Fr.drew))⟩

theorem vin_ok (V:Vw) (ve:Value) (key:ByteArray) (w:World) (h1:SzOk V.low) (h2:SzOk V.high) (h3:SzOk key) :
    Calls Tryz.prog 111 #[vwV V ve,.string key] w fun e w'=>e=.returned (.bool (inS V.low V.high V.unb key))∧Fr none_ w w':=by
  have F0:=hid_ ((Fr.refl none_ w).alloc (.cells (vwA V ve) 38))
  have H:=hid_ (And.intro h1 (And.intro h2 h3))
  clear h1 h2 h3
  go_enter Tryz.func111,Tryz.ntmps111
  go_wp2_with fail
  refine (in_ok V.low V.high V.unb key _ H.out.1.le H.out.2.1.le H.out.2.2.le).mono ?_
  rintro e w1 ⟨rfl,q,rfl⟩
  go_wp2
  go_ret
  exact ⟨rfl,F0.out.drewN q⟩
structure Sound (V:Vw):Prop where
  head:∃ p,V.ents[0]?=some p∧p.1=V.low
  high:V.unb=true→V.high=nilS
  inn:∀ p ∈ V.ents,inS V.low V.high V.unb p.1=true
  ris:∀ (i:Nat) (p q:Et),V.ents[i]?=some p→V.ents[i+1]?=some q→ltS p.1 q.1=true
def SoundTo (V:Vw) (k:Nat):Prop:=(∀ (j:Nat) (p:Et),j < k→V.ents[j]?=some p→inS V.low V.high V.unb p.1=true)∧∀ (j:Nat) (p q:Et),j+1 < k→V.ents[j]?=some p→V.ents[j+1]?=some q→ltS p.1 q.1=true
def SoundPost (V:Vw) (w:World) (e:Ending) (w':World):Prop:=∃ b:Bool,e=.returned (.bool b)∧(b=true ↔ Sound V)∧Fr none_ w w'
set_option maxHeartbeats 4000000 in
theorem sound_ok (V:Vw) (A:Option Addr) (c:Nat) (w:World) (h:VwIn w V A c) :
  Calls Tryz.prog 69 #[vwV V (.slice A V.ents.length c)] w (SoundPost V w):=by
 obtain ⟨w0,hw0⟩:∃ w0,w0=w.alloc (.cells (vwA V (.slice A V.ents.length c)) 38):=⟨_,rfl⟩
 have f0:Fr none_ w w0:=by rw [hw0];exact (Fr.refl none_ w).alloc _
 have F0:=hid_ f0
 have H0:=hid_ (h.keep f0)
 have B0:Hid (Blk w0 w.heap.size 38 (vwA V (.slice A V.ents.length c))):=hid_ (by rw [hw0];exact Blk.new w _ _)
 have h1000:=h.ok.ents.1
 have OK:=hid_ h.ok
 have v0:w0.cell? ⟨w.heap.size,0,none⟩=some (.string V.low):=B0.out.cell' rfl
 have v1:w0.cell? ⟨w.heap.size,1,none⟩=some (.string V.high):=B0.out.cell' rfl
 have v2:w0.cell? ⟨w.heap.size,2,none⟩=some (.bool V.unb):=B0.out.cell' rfl
 have v4:w0.cell? ⟨w.heap.size,4,none⟩=some (.slice A V.ents.length c):=B0.out.cell' rfl
 clear h f0
 by_cases hl0:V.ents.length=0
 ·have hne:¬ Sound V:=fun h=>by
   obtain ⟨p,hp,_⟩:=h.head
   rw [List.getElem?_eq_none (by omega)] at hp
   cases hp
  have HNE:=hid_ hne
  rw [hl0] at v4 hw0
  rw [hl0]
  clear hl0 hne
  go_enter Tryz.func69,Tryz.ntmps69
  go_wp2_with fail
  change Code.wp _ _ _ _ (w.alloc (.cells (vwA V (.slice A 0 c)) 38))
  rw [← hw0]
  clear hw0
  go_quiet (fail)
  go_wp2_with fail
  go_ret
  exact ⟨false,rfl,⟨(fun h=>by cases h),fun h=>absurd h HNE.out⟩,F0.out.drewN _⟩
 obtain ⟨p0,hp0⟩:∃ p,V.ents[0]?=some p:=⟨_,List.getElem?_eq_getElem (by omega)⟩
 obtain ⟨b,off,rfl,hb,c0,c1⟩:=et_at H0.out.rd hp0
 have hd0:decide ((0:Int) < (V.ents.length:Int))=true:=by simp;omega
 have hd0':((V.ents.length:Int)==0)=false:=beq_eq_false_iff_ne.2 (by omega)
 have hi1:(0:Int) < (V.ents.length:Int):=by omega
 simp only [Nat.zero_mul,Nat.add_zero] at c0
 have HP0:=hid_ hp0
 have HL0:=hid_ hl0
 clear hp0 c1 hl0
 by_cases hlow:p0.1=V.low
 case neg =>
  have hne:¬ Sound V:=fun h=>by
   obtain ⟨p,hp,e⟩:=h.head
   rw [HP0.out] at hp
   cases hp
   exact hlow e
  have HNE:=hid_ hne
  have hs1:=sEq_ne hlow
  unfold sEq at hs1
  have hs2:(p0.1.toList != V.low.toList)=true:=by simpa [bne] using hs1
  clear hne hlow
  go_enter Tryz.func69,Tryz.ntmps69
  go_wp2_with fail
  change Code.wp _ _ _ _ (w.alloc (.cells (vwA V (.slice (some ⟨b,off,none⟩) V.ents.length c)) 38))
  rw [← hw0]
  clear hw0
  go_quiet (fail)
  go_wp2_with fail
  go_ret
  exact ⟨false,rfl,⟨(fun h=>by cases h),fun h=>absurd h HNE.out⟩,F0.out.drewN _⟩
 have hs1:(p0.1.toList==V.low.toList)=true:=sEq_iff.2 hlow
 have hs2:(p0.1.toList != V.low.toList)=false:=by simpa [bne] using hs1
 have HLOW:=hid_ hlow
 clear hlow
 by_cases hhi:V.unb=true∧V.high≠nilS
 ·have hne:¬ Sound V:=fun h=>hhi.2 (h.high hhi.1)
  have HNE:=hid_ hne
  rw [hhi.1] at v2
  have hh:V.high.toList.isEmpty=false:=by
   cases e:V.high.toList.isEmpty with
   | false=>rfl
   | true=>exact absurd (ba_eq (by rw [← ba_toList,List.isEmpty_iff.1 e])) hhi.2
  have hh2:(!V.high.toList.isEmpty)=true:=by rw [hh];rfl
  clear hne hhi
  go_enter Tryz.func69,Tryz.ntmps69
  go_wp2_with fail
  change Code.wp _ _ _ _ (w.alloc (.cells (vwA V (.slice (some ⟨b,off,none⟩) V.ents.length c)) 38))
  rw [← hw0]
  clear hw0
  go_quiet (fail)
  go_wp2_with fail
  go_ret
  exact ⟨false,rfl,⟨(fun h=>by cases h),fun h=>absurd h HNE.out⟩,F0.out.drewN _⟩
 have HHI:Hid (V.unb=true→V.high=nilS):=hid_ (fun hu=>Classical.byContradiction fun hn=>hhi ⟨hu,hn⟩)
 clear hhi
 go_enter Tryz.func69,Tryz.ntmps69
 go_upto_region 1 with fail
 change Code.wp _ _ _ _ (w.alloc (.cells (vwA V (.slice (some ⟨b,off,none⟩) V.ents.length c)) 38))
 rw [← hw0]
 clear hw0
 go_cut [27] (fun v wq=>v=.bool false∧Fr none_ w0 wq)
 case first =>
  cases hu:V.unb with
  | false =>
   rw [hu] at v2
   clear hu
   go_quiet (fail)
   go_wp2
   go_meet
   case rel=>exact ⟨rfl,(Fr.refl none_ w0).drewN _⟩
  | true =>
   have hh:=HHI.out hu
   rw [hu] at v2
   rw [hh] at v1
   clear hu hh
   go_quiet (fail)
   go_wp2
   go_meet
   case rel=>exact ⟨rfl,(Fr.refl none_ w0).drewN _⟩
 case rest =>
 obtain ⟨rfl,hf⟩:=hcut
 have B1:=hid_ (B0.out.fr hf id)
 have F1:=hid_ (F0.out.then_none hf)
 have H1:=hid_ (H0.out.keep hf)
 clear hf v0 v1 v2 v4 c0 hs1 hs2 hd0 hd0'
 have v4:wc.cell? ⟨w.heap.size,4,none⟩=some (.slice (some ⟨b,off,none⟩) V.ents.length c):=B1.out.cell' rfl
 go_wp2_with fail
 clear v4 F0 H0 B0
 go_loopw [31] (fun i wr=>∃ k:Nat,k≤V.ents.length∧i=.int .i64 k∧SoundTo V k∧Fr none_ wc wr) (fun i _=>V.ents.length - (intOf i).toNat)
 case atStart=>exact ⟨0,Nat.zero_le _,rfl,⟨fun j p hj=>by omega,fun j p q hj=>by omega⟩,Fr.refl _ _⟩
 case round =>
  obtain ⟨k,hk,rfl,hst,hF⟩:=hrel
  have ST:=hid_ hst
  have B:=hid_ (B1.out.fr hF id)
  have H:=hid_ (H1.out.keep hF)
  have F:=hid_ (F1.out.then_none hF)
  have FC:=hid_ hF
  clear hst hF
  have hi0:(0:Int)≤(k:Int):=Int.natCast_nonneg _
  by_cases hlt:k < V.ents.length
  ·have hi1':(k:Int) < (V.ents.length:Int):=by omega
   obtain ⟨p,hp⟩:∃ p,V.ents[k]?=some p:=⟨_,List.getElem?_eq_getElem hlt⟩
   obtain ⟨b2,off2,hA,hb2,c0,c1⟩:=et_at H.out.rd hp
   obtain ⟨rfl,rfl⟩:b=b2∧off=off2:=by injection hA with hA;injection hA with e1 e2;exact ⟨e1,e2⟩
   have HP:=hid_ hp
   clear hp hA
   go_upto_region 6 with fail
   obtain ⟨X,hX⟩:∃ X,X=wr.heap.size:=⟨_,rfl⟩
   obtain ⟨w2,hw2⟩:∃ w2,w2=wr.alloc (.cells #[.string p.1,.int .i64 p.2] 59):=⟨_,rfl⟩
   have f2:Fr none_ wr w2:=by rw [hw2];exact (Fr.refl none_ wr).alloc _
   have BX:Hid (Blk w2 X 59 #[.string p.1,.int .i64 p.2]):=hid_ (by rw [hw2,hX];exact Blk.new wr _ _)
   have B2:=hid_ (B.out.fr f2 id)
   have H2:=hid_ (H.out.keep f2)
   have F2:=hid_ (FC.out.then_none f2)
   rw [← hX]
   change Code.wp _ _ _ _ (wr.alloc (.cells #[.string p.1,.int .i64 p.2] 59))
   rw [← hw2]
   clear hw2 hX f2 c0 c1
   have hpk:=OK.out.ents.2 p (List.mem_of_getElem? HP.out)
   have HPK:=hid_ hpk
   clear hpk
   go_cut [57] (fun v wq=>∃ bb:Bool,v=.bool bb∧(bb=false ↔ (inS V.low V.high V.unb p.1=true∧∀ q,0 < k→V.ents[k - 1]?=some q→ltS q.1 p.1=true))∧Fr none_ w2 wq)
   case first =>
    have v0:w2.cell? ⟨w.heap.size,0,none⟩=some (.string V.low):=B2.out.cell' rfl
    have v1:w2.cell? ⟨w.heap.size,1,none⟩=some (.string V.high):=B2.out.cell' rfl
    have v2:w2.cell? ⟨w.heap.size,2,none⟩=some (.bool V.unb):=B2.out.cell' rfl
    have v3:w2.cell? ⟨w.heap.size,3,none⟩=some (.int .i64 V.right):=B2.out.cell' rfl
    have v4:w2.cell? ⟨w.heap.size,4,none⟩=some (.slice (some ⟨b,off,none⟩) V.ents.length c):=B2.out.cell' rfl
    have v5:w2.cell? ⟨w.heap.size,5,none⟩=some (.bool V.held):=B2.out.cell' rfl
    have v6:w2.cell? ⟨w.heap.size,6,none⟩=some (.int .i64 V.hp):=B2.out.cell' rfl
    have v7:w2.cell? ⟨w.heap.size,7,none⟩=some (.int .i64 V.hl):=B2.out.cell' rfl
    have v8:w2.cell? ⟨w.heap.size,8,none⟩=some (.string V.hk):=B2.out.cell' rfl
    have x0:w2.cell? ⟨X,0,none⟩=some (.string p.1):=BX.out.cell' rfl
    have y0:∀ x:Wx w2,x.to.cell? ⟨w.heap.size,0,none⟩=some (.string V.low):=fun x=>x.cell v0
    have y1:∀ x:Wx w2,x.to.cell? ⟨w.heap.size,1,none⟩=some (.string V.high):=fun x=>x.cell v1
    have y2:∀ x:Wx w2,x.to.cell? ⟨w.heap.size,2,none⟩=some (.bool V.unb):=fun x=>x.cell v2
    have y3:∀ x:Wx w2,x.to.cell? ⟨w.heap.size,3,none⟩=some (.int .i64 V.right):=fun x=>x.cell v3
    have y4:∀ x:Wx w2,x.to.cell? ⟨w.heap.size,4,none⟩=some (.slice (some ⟨b,off,none⟩) V.ents.length c):=fun x=>x.cell v4
    have y5:∀ x:Wx w2,x.to.cell? ⟨w.heap.size,5,none⟩=some (.bool V.held):=fun x=>x.cell v5
    have y6:∀ x:Wx w2,x.to.cell? ⟨w.heap.size,6,none⟩=some (.int .i64 V.hp):=fun x=>x.cell v6
    have y7:∀ x:Wx w2,x.to.cell? ⟨w.heap.size,7,none⟩=some (.int .i64 V.hl):=fun x=>x.cell v7
    have y8:∀ x:Wx w2,x.to.cell? ⟨w.heap.size,8,none⟩=some (.string V.hk):=fun x=>x.cell v8
    have z0:∀ x:Wx w2,x.to.cell? ⟨X,0,none⟩=some (.string p.1):=fun x=>x.cell x0
    clear v0 v1 v2 v3 v4 v5 v6 v7 v8 x0
    cases hin:inS V.low V.high V.unb p.1 with
    | false =>
     have HC:Hid (∀ x:Wx w2,Calls Tryz.prog 111 #[vwV V (.slice (some ⟨b,off,none⟩) V.ents.length c),.string p.1] x.to fun e w'=>e=.returned (.bool false)∧Fr none_ x.to w'):=hid_ (fun x=>by
      have h:=vin_ok V (.slice (some ⟨b,off,none⟩) V.ents.length c) p.1 x.to OK.out.low OK.out.high HPK.out
      rwa [hin] at h)
     have HIN:=hid_ hin
     clear hin
     refine wp_region_quiet_x (by kernel_rfl) (by kernel_rfl) ?_
     repeat (first | go_big_quiet_step ((go_at_call 111;exact Calls.quiet_x (HC.out _))) | quiet_step ((go_at_call 111;exact Calls.quiet_x (HC.out _))))
     refine wpQuiet_nil ?_
     intro _ hw'
     obtain ⟨xq,hw''⟩:=hw'
     subst hw''
     go_wp2
     go_meet
     case rel=>exact ⟨true,rfl,⟨(fun h=>by cases h),fun h=>by rw [HIN.out] at h;cases h.1⟩,xq.fr⟩
    | true =>
     have HC:Hid (∀ x:Wx w2,Calls Tryz.prog 111 #[vwV V (.slice (some ⟨b,off,none⟩) V.ents.length c),.string p.1] x.to fun e w'=>e=.returned (.bool true)∧Fr none_ x.to w'):=hid_ (fun x=>by
      have h:=vin_ok V (.slice (some ⟨b,off,none⟩) V.ents.length c) p.1 x.to OK.out.low OK.out.high HPK.out
      rwa [hin] at h)
     have HIN:=hid_ hin
     clear hin
     by_cases hk0:0 < k
     ·obtain ⟨q,hq⟩:∃ q,V.ents[k - 1]?=some q:=⟨_,List.getElem?_eq_getElem (by omega)⟩
      obtain ⟨b3,off3,hA,hb3,d0,d1⟩:=et_at H2.out.rd hq
      obtain ⟨rfl,rfl⟩:b=b3∧off=off3:=by injection hA with hA;injection hA with e1 e2;exact ⟨e1,e2⟩
      have e0:∀ x:Wx w2,x.to.cell? ⟨b,off+(k - 1) * 2,none⟩=some (.string q.1):=fun x=>x.cell d0
      have hqk:=OK.out.ents.2 q (List.mem_of_getElem? hq)
      have HQK:=hid_ hqk
      have HQ:=hid_ hq
      have HQ':Hid ((∀ q',0 < k→V.ents[k - 1]?=some q'→ltS q'.1 p.1=true) ↔ ltS q.1 p.1=true):=hid_ ⟨fun h=>h q hk0 hq,fun h q' _ hq'=>by rw [hq] at hq';cases hq';exact h⟩
      have HC2:Hid (∀ x:Wx w2,Calls Tryz.prog 85 #[.string q.1,.string p.1] x.to fun e w'=>e=.returned (.int .i64 (cmpI q.1 p.1))∧Fr none_ x.to w'):=hid_ (fun x=>(compare_ok q.1 p.1 x.to HQK.out.le HPK.out.le).mono (by rintro e w' ⟨rfl,n,rfl⟩;exact ⟨rfl,(Fr.refl none_ _).drewN n⟩))
      have hw1:IntKind.i64.wrap ((k:Int) - 1)=((k - 1:Nat):Int):=by rw [show (k:Int) - 1=((k - 1:Nat):Int) by omega];exact IntWalk.i64_in _ (by omega)
      have hdk:decide (0 < k)=true:=decide_eq_true hk0
      have hj0:(0:Int)≤((k - 1:Nat):Int):=Int.natCast_nonneg _
      have hj1:((k - 1:Nat):Int) < (V.ents.length:Int):=by omega
      obtain ⟨j,hj⟩:∃ j,j=k - 1:=⟨_,rfl⟩
      rw [← hj] at e0 hw1 hj0 hj1
      have HJ:=hid_ hj
      have hge:=cmp_ge q.1 p.1
      have HGE:=hid_ hge
      clear hq hA d0 d1 hqk hj hge hk0
      refine wp_region_quiet_x (by kernel_rfl) (by kernel_rfl) ?_
      repeat (first | go_big_quiet_step ((first | (go_at_call 111;exact Calls.quiet_x (HC.out _)) | (go_at_call 85;exact Calls.quiet_x (HC2.out _)))) | quiet_step ((first | (go_at_call 111;exact Calls.quiet_x (HC.out _)) | (go_at_call 85;exact Calls.quiet_x (HC2.out _)))))
      refine wpQuiet_nil ?_
      intro _ hw'
      obtain ⟨xq,hw''⟩:=hw'
      subst hw''
      go_wp2
      go_meet
      case rel=>exact ⟨_,rfl,by
       rw [HGE.out,HIN.out,HQ'.out]
       cases ltS q.1 p.1 <;> simp,xq.fr⟩
     ·have hdk:decide (0 < k)=false:=decide_eq_false hk0
      have hk0':k=0:=by omega
      have HK0:=hid_ hk0'
      clear hk0 hk0'
      refine wp_region_quiet_x (by kernel_rfl) (by kernel_rfl) ?_
      repeat (first | go_big_quiet_step ((go_at_call 111;exact Calls.quiet_x (HC.out _))) | quiet_step ((go_at_call 111;exact Calls.quiet_x (HC.out _))))
      refine wpQuiet_nil ?_
      intro _ hw'
      obtain ⟨xq,hw''⟩:=hw'
      subst hw''
      go_wp2
      go_meet
      case rel=>exact ⟨false,rfl,⟨fun _=>⟨HIN.out,fun q h=>by have:=HK0.out;omega⟩,fun _=>rfl⟩,xq.fr⟩
   case rest =>
   obtain ⟨bb,rfl,hbb,hf⟩:=hcut
   have F3:=hid_ (F2.out.then_none hf)
   have HB:=hid_ hbb
   clear hf hbb B2 H2 BX F2
   cases bb with
   | true =>
    have hns:¬ Sound V:=fun hS=>by
     have h:=HB.out.2 ⟨hS.inn p (List.mem_of_getElem? HP.out),fun q h0 hq=>hS.ris (k - 1) q p hq (by rw [show k - 1+1=k by omega];exact HP.out)⟩
     cases h
    have HNS:=hid_ hns
    clear hns
    go_wp2_with fail
    go_ret
    exact ⟨false,rfl,⟨(fun h=>by cases h),fun h=>absurd h HNS.out⟩,F1.out.then_none F3.out⟩
   | false =>
    have hst:SoundTo V (k+1):=by
     have h:=HB.out.1 rfl
     refine ⟨fun j p' hj hp'=>?_,fun j p' q hj hp' hq=>?_⟩
     ·rcases Nat.lt_succ_iff_lt_or_eq.1 hj with hj | rfl
      ·exact ST.out.1 j p' hj hp'
      ·rw [HP.out] at hp';cases hp';exact h.1
     ·rcases Nat.lt_succ_iff_lt_or_eq.1 hj with hj | hj
      ·exact ST.out.2 j p' q hj hp' hq
      ·rw [hj,HP.out] at hq
       cases hq
       exact h.2 p' (by omega) (by rw [show k - 1=j by omega];exact hp')
    have HST:=hid_ hst
    clear hst
    go_wp2_with fail
    go_roundw
    case rel=>exact ⟨k+1,by omega,by go_num,HST.out,F3.out⟩
    case measure=>simp [intOf];omega
  ·obtain rfl:k=V.ents.length:=by omega
   have hS:Sound V:=⟨⟨p0,HP0.out,HLOW.out⟩,HHI.out,fun p hp=>by obtain ⟨j,hj,e⟩:=List.mem_iff_getElem.1 hp;exact ST.out.1 j p hj (by rw [List.getElem?_eq_getElem hj,e]),fun j p q hp hq=>ST.out.2 j p q (List.getElem?_eq_some_iff.1 hq).1 hp hq⟩
   have HS:=hid_ hS
   clear hS
   go_wp2_with fail
   go_ret
   exact ⟨true,rfl,⟨fun _=>HS.out,fun _=>rfl⟩,F.out⟩
open Go.RowKit Go.BigFrame

theorem box9 {w1:World} {b:Nat} {t:TypeId} {c0 c1 c2 c3 c4 c5 c6 c7 c8:Value} (h:Blk w1 b t #[c0,c1,c2,c3,c4,c5,c6,c7,c8]) (x0 x1 x2 x3 x4 x5 x6 x7 x8:Value) :
    Blk (((((((((w1.setCell ⟨b,0,none⟩ x0).setCell ⟨b,1,none⟩ x1).setCell ⟨b,2,none⟩ x2).setCell ⟨b,3,none⟩ x3).setCell ⟨b,4,none⟩ x4).setCell ⟨b,5,none⟩ x5).setCell ⟨b,6,none⟩ x6).setCell ⟨b,7,none⟩ x7).setCell ⟨b,8,none⟩ x8) b t #[x0,x1,x2,x3,x4,x5,x6,x7,x8]∧Fr (only b) w1 (((((((((w1.setCell ⟨b,0,none⟩ x0).setCell ⟨b,1,none⟩ x1).setCell ⟨b,2,none⟩ x2).setCell ⟨b,3,none⟩ x3).setCell ⟨b,4,none⟩ x4).setCell ⟨b,5,none⟩ x5).setCell ⟨b,6,none⟩ x6).setCell ⟨b,7,none⟩ x7).setCell ⟨b,8,none⟩ x8):=by
  refine ⟨?_,(((((((((Fr.refl (only b) w1).setCell (p:=⟨b,0,none⟩) (.inl (Eq.refl _)) x0).setCell (p:=⟨b,1,none⟩) (.inl (Eq.refl _)) x1).setCell (p:=⟨b,2,none⟩) (.inl (Eq.refl _)) x2).setCell (p:=⟨b,3,none⟩) (.inl (Eq.refl _)) x3).setCell (p:=⟨b,4,none⟩) (.inl (Eq.refl _)) x4).setCell (p:=⟨b,5,none⟩) (.inl (Eq.refl _)) x5).setCell (p:=⟨b,6,none⟩) (.inl (Eq.refl _)) x6).setCell (p:=⟨b,7,none⟩) (.inl (Eq.refl _)) x7).setCell (p:=⟨b,8,none⟩) (.inl (Eq.refl _)) x8⟩
  have e:=(((((((((h.set_ 0 x0).set_ 1 x1).set_ 2 x2).set_ 3 x3).set_ 4 x4).set_ 5 x5).set_ 6 x6).set_ 7 x7).set_ 8 x8)
  simp only [List.setIfInBounds_toArray,List.set_cons_zero,List.set_cons_succ] at e
  exact e

abbrev Pt:=Option Addr × Nat × List Et
abbrev ptV (x:Pt):Value:=.slice x.1 x.2.2.length x.2.1
def ptL (ps:List Pt):List Et:=(ps.map (·.2.2)).flatten
theorem etFlat_app (L M:List Et):etFlat (L ++ M)=etFlat L ++ etFlat M:=by simp [etFlat]
theorem etFlat_take:∀ (L:List Et) (n:Nat),etFlat (L.take n)=(etFlat L).take (n * 2)
  | [],n=>by simp [etFlat]
  | p :: t,0=>by simp [etFlat]
  | p :: t,n+1=>by
    have:=etFlat_take t n
    rw [show (n+1) * 2=n * 2+1+1 by omega]
    show etCells p ++ etFlat (t.take n)=(etCells p ++ etFlat t).take (n * 2+1+1)
    rw [this]
    rfl
theorem etFlat_drop (L:List Et) (n:Nat):etFlat (L.drop n)=(etFlat L).drop (n * 2):=by
  have h:etFlat L=etFlat (L.take n) ++ etFlat (L.drop n):=by rw [← etFlat_app,List.take_append_drop]
  rcases Nat.lt_or_ge L.length n with hl | hl
  · rw [List.drop_eq_nil_of_le (by omega),List.drop_eq_nil_of_le (by rw [etFlat_len];omega)]
    rfl
  · rw [h,List.drop_left' (by rw [etFlat_len];simp;omega)]
theorem ptL_take {ps:List Pt} {k:Nat} {x:Pt} (h:ps[k]?=some x):ptL (ps.take (k+1))=ptL (ps.take k) ++ x.2.2:=by
  simp [ptL,List.take_add_one,h]
theorem ptL_le (ps:List Pt):∀ k,(ptL (ps.take k)).length≤(ptL ps).length:=fun k=>by
  have:ptL ps=ptL (ps.take k) ++ ptL (ps.drop k):=by
    unfold ptL
    rw [← List.flatten_append,← List.map_append,List.take_append_drop]
  rw [this,List.length_append]
  omega
def JoinPost (w:World) (L:List Et) (e:Ending) (w':World):Prop:=
  ∃ A c,e=.returned (.slice A L.length c)∧w'.ownsRow w.heap.size 59 2 (.slice A L.length c) L.length (etFlat L)∧Fr none_ w w'
set_option maxHeartbeats 2000000 in
theorem joined_ok (b:Nat) (ps:List Pt) (w:World) (hb:∀ (i:Nat) x,ps[i]?=some x→w.cell? ⟨b,i,none⟩=some (ptV x)) (hr:∀ x ∈ ps,Reads w 2 x.1 x.2.2.length (etFlat x.2.2)) (hl:(ptL ps).length≤2000) (hn:ps.length≤10) :
    Calls Tryz.prog 68 #[.slice (some ⟨b,0,none⟩) ps.length ps.length] w (JoinPost w (ptL ps)):=by
  obtain ⟨i0,hi0,hz0,hs0,hb0⟩:=info_parts entry_info
  have Hi:=hid_ (And.intro hi0 (And.intro hz0 (And.intro hs0 hb0)))
  have HB:=hid_ hb
  have HR:=hid_ hr
  clear hi0 hz0 hs0 hb0 hb hr
  go_enter Tryz.func68,Tryz.ntmps68
  go_wp2_with fail
  go_loopw [3,8] (fun v i wr=>∃ k:Nat,k≤ps.length∧i=.int .i64 k∧wr.ownsRow w.heap.size 59 2 v (ptL (ps.take k)).length (etFlat (ptL (ps.take k)))∧Fr none_ w wr) (fun _ i _=>ps.length - (intOf i).toNat)
  case atStart=>exact ⟨0,Nat.zero_le _,rfl,World.ownsRow_nil _ _ _ _,Fr.refl _ _⟩
  case round =>
    obtain ⟨k,hk,rfl,hown,hF⟩:=hrel
    obtain ⟨A,c,rfl⟩:=hown.shape
    have O:=hid_ hown
    have F:=hid_ hF
    clear hown hF
    have hi0:(0:Int)≤(k:Int):=Int.natCast_nonneg _
    by_cases hlt:k < ps.length
    · have hi1:(k:Int) < (ps.length:Int):=by omega
      obtain ⟨x,hx⟩:∃ x,ps[k]?=some x:=⟨_,List.getElem?_eq_getElem hlt⟩
      obtain ⟨A2,c2,L2⟩:=x
      have hc:wr.cell? ⟨b,k,none⟩=some (.slice A2 L2.length c2):=cellFr (HB.out k _ hx) F.out
      have R:=hid_ ((HR.out _ (List.mem_of_getElem? hx)).none_fr F.out)
      have HT:=hid_ (ptL_take hx)
      have hle:(ptL (ps.take k)).length+L2.length≤(ptL ps).length:=by
        have:=ptL_le ps (k+1)
        rw [HT.out,List.length_append] at this
        exact this
      have hfs:=F.out.size
      clear hx
      go_wp2_with (at_builtin;refine wpList_append_any _ rfl (.tmp 12) (.tmp 13) 29 rfl w.heap.size 59 i0 _ 2 24 Tryz.underlying29 Hi.out.1 Hi.out.2.1 Hi.out.2.2.1 Hi.out.2.2.2 rfl (by omega) (.slice A (ptL (ps.take k)).length c) (ptL (ps.take k)).length (etFlat (ptL (ps.take k))) rfl O.out A2 L2.length c2 (etFlat L2) rfl R.out (etFlat_one _) (by simp only [maxLen];omega) (by omega) hfs ?_;intro A3 c3 w3 hown3 hgr3)
      have R3:w3.ownsRow w.heap.size 59 2 (.slice A3 ((ptL (ps.take k)).length+L2.length) c3) (ptL (ps.take (k+1))).length (etFlat (ptL (ps.take (k+1))))∧Fr none_ w w3:=by
        refine ⟨?_,F.out.grown hgr3 (fun b hb=>.inr (O.out.lt b hb).1)⟩
        rw [HT.out,List.length_append,etFlat_app]
        exact hown3
      have HR3:=hid_ R3
      clear R3 hown3 hgr3
      go_wp2
      go_roundw
      case rel=>exact ⟨k+1,by omega,by go_num,HR3.out.1,HR3.out.2⟩
      case measure=>simp [intOf];omega
    · obtain rfl:k=ps.length:=by omega
      have o:=O.out
      have f:=F.out
      rw [List.take_length] at o
      go_wp2
      go_ret
      rw [List.take_length]
      exact ⟨A,c,rfl,o,f⟩
open Go.RowKit Go.BigFrame

def plR:List Rw→ByteArray→Nat
  | [],_=>0
  | p :: t,key=>if ltS p.1 key=true then plR t key+1 else 0
theorem plR_le:∀ (L:List Rw) (key:ByteArray),plR L key≤L.length
  | [],_=>Nat.le_refl _
  | p :: t,key=>by
    have:=plR_le t key
    rw [plR]
    split <;> simp <;> omega
theorem plR_in:∀ {L:List Rw} {key:ByteArray} {i:Nat} {p:Rw},i < plR L key→L[i]?=some p→ltS p.1 key=true
  | [],_,i,p,h,_=>by simp [plR] at h
  | q :: t,key,i,p,h,hp=>by
    rw [plR] at h
    split at h
    · cases i with
      | zero =>
        obtain rfl:q=p:=by simpa using hp
        assumption
      | succ i=>exact plR_in (L:=t) (i:=i) (by omega) (by simpa using hp)
    · omega
theorem plR_at:∀ {L:List Rw} {key:ByteArray} {p:Rw},L[plR L key]?=some p→ltS p.1 key=false
  | [],_,p,h=>by simp at h
  | q :: t,key,p,h=>by
    rw [plR] at h
    split at h
    · exact plR_at (L:=t) (by simpa using h)
    · obtain rfl:q=p:=by simpa using h
      rename_i h1
      simpa using h1
def atR (L:List Rw) (key:ByteArray):Bool:=
  match L[plR L key]? with
  | some p=>sEq p.1 key
  | none=>false
theorem atR_some {L:List Rw} {key:ByteArray} {p:Rw} (h:L[plR L key]?=some p):atR L key=sEq p.1 key:=by simp [atR,h]
theorem atR_none {L:List Rw} {key:ByteArray} (h:plR L key=L.length):atR L key=false:=by simp [atR,h]
theorem atR_lt {L:List Rw} {key:ByteArray} (h:atR L key=true):plR L key < L.length:=by
  have h1:=plR_le L key
  rcases Nat.lt_or_ge (plR L key) L.length with h2 | h2
  · exact h2
  · rw [atR_none (by omega)] at h;cases h
def fitsR (p:Rw):Bool:=(decide (1≤p.1.size) && decide (p.1.size≤16)) && decide (p.2.size≤16)
structure RightR (L:List Rw):Prop where
  fit:∀ p ∈ L,fitsR p=true
  ris:∀ (i:Nat) (p q:Rw),L[i]?=some p→L[i+1]?=some q→ltS p.1 q.1=true
def RightTo (L:List Rw) (k:Nat):Prop:=(∀ (j:Nat) (p:Rw),j < k→L[j]?=some p→fitsR p=true)∧∀ (j:Nat) (p q:Rw),j+1 < k→L[j]?=some p→L[j+1]?=some q→ltS p.1 q.1=true
def RwsOk (L:List Rw):Prop:=L.length≤300000∧∀ p ∈ L,SzOk p.1∧SzOk p.2
def putR (L:List Rw) (r:Rw):List Rw:=L.take (plR L r.1) ++ [r] ++ L.drop (plR L r.1+if atR L r.1 then 1 else 0)
def dropR (L:List Rw) (key:ByteArray):List Rw:=if atR L key then L.take (plR L key) ++ L.drop (plR L key+1) else L
theorem putR_len (L:List Rw) (r:Rw):(putR L r).length≤L.length+1:=by
  have:=plR_le L r.1
  simp only [putR,List.length_append,List.length_take,List.length_drop,List.length_cons,List.length_nil]
  omega
theorem dropR_len (L:List Rw) (key:ByteArray):(dropR L key).length≤L.length:=by
  unfold dropR
  split
  · simp only [List.length_append,List.length_take,List.length_drop];omega
  · exact Nat.le_refl _
def inR (low high:ByteArray) (unb:Bool) (L:List Rw):List Rw:=L.filter fun p=>inS low high unb p.1
theorem inR_all {low high:ByteArray} {unb:Bool} {L:List Rw}:(inR low high unb L).length=L.length ↔ ∀ p ∈ L,inS low high unb p.1=true:=by
  unfold inR
  rw [List.length_filter_eq_length_iff]
structure SoundR (low high:ByteArray) (unb:Bool) (L:List Rw):Prop where
  hi:unb=true→high=nilS
  right:RightR L
  inn:∀ p ∈ L,inS low high unb p.1=true
abbrev PtR:=Option Addr × Nat × List Rw
abbrev ptRV (x:PtR):Value:=.slice x.1 x.2.2.length x.2.1
def ptRL (ps:List PtR):List Rw:=(ps.map (·.2.2)).flatten
theorem rwFlat_app (L M:List Rw):rwFlat (L ++ M)=rwFlat L ++ rwFlat M:=by simp [rwFlat]
theorem rwFlat_take:∀ (L:List Rw) (n:Nat),rwFlat (L.take n)=(rwFlat L).take (n * 2)
  | [],n=>by simp [rwFlat]
  | p :: t,0=>by simp [rwFlat]
  | p :: t,n+1=>by
    have:=rwFlat_take t n
    rw [show (n+1) * 2=n * 2+1+1 by omega]
    show rwCells p ++ rwFlat (t.take n)=(rwCells p ++ rwFlat t).take (n * 2+1+1)
    rw [this]
    rfl
theorem rwFlat_drop (L:List Rw) (n:Nat):rwFlat (L.drop n)=(rwFlat L).drop (n * 2):=by
  have h:rwFlat L=rwFlat (L.take n) ++ rwFlat (L.drop n):=by rw [← rwFlat_app,List.take_append_drop]
  rcases Nat.lt_or_ge L.length n with hl | hl
  · rw [List.drop_eq_nil_of_le (by omega),List.drop_eq_nil_of_le (by rw [rwFlat_len];omega)]
    rfl
  · rw [h,List.drop_left' (by rw [rwFlat_len];simp;omega)]
theorem ptRL_take {ps:List PtR} {k:Nat} {x:PtR} (h:ps[k]?=some x):ptRL (ps.take (k+1))=ptRL (ps.take k) ++ x.2.2:=by
  simp [ptRL,List.take_add_one,h]
theorem ptRL_le (ps:List PtR):∀ k,(ptRL (ps.take k)).length≤(ptRL ps).length:=fun k=>by
  have:ptRL ps=ptRL (ps.take k) ++ ptRL (ps.drop k):=by
    unfold ptRL
    rw [← List.flatten_append,← List.map_append,List.take_append_drop]
  rw [this,List.length_append]
  omega
def JoinPostR (w:World) (L:List Rw) (e:Ending) (w':World):Prop:=
  ∃ A c,e=.returned (.slice A L.length c)∧w'.ownsRow w.heap.size 143 2 (.slice A L.length c) L.length (rwFlat L)∧Fr none_ w w'
set_option maxHeartbeats 2000000 in
theorem list_ok (b:Nat) (ps:List PtR) (w:World) (hb:∀ (i:Nat) x,ps[i]?=some x→w.cell? ⟨b,i,none⟩=some (ptRV x)) (hr:∀ x ∈ ps,Reads w 2 x.1 x.2.2.length (rwFlat x.2.2)) (hl:(ptRL ps).length≤900000) (hn:ps.length≤10) :
    Calls Tryz.prog 103 #[.slice (some ⟨b,0,none⟩) ps.length ps.length] w (JoinPostR w (ptRL ps)):=by
  obtain ⟨i0,hi0,hz0,hs0,hb0⟩:=info_parts row_info
  have Hi:=hid_ (And.intro hi0 (And.intro hz0 (And.intro hs0 hb0)))
  have HB:=hid_ hb
  have HR:=hid_ hr
  clear hi0 hz0 hs0 hb0 hb hr
  go_enter Tryz.func103,Tryz.ntmps103
  go_wp2_with fail
  go_loopw [3,8] (fun v i wr=>∃ k:Nat,k≤ps.length∧i=.int .i64 k∧wr.ownsRow w.heap.size 143 2 v (ptRL (ps.take k)).length (rwFlat (ptRL (ps.take k)))∧Fr none_ w wr) (fun _ i _=>ps.length - (intOf i).toNat)
  case atStart=>exact ⟨0,Nat.zero_le _,rfl,World.ownsRow_nil _ _ _ _,Fr.refl _ _⟩
  case round =>
    obtain ⟨k,hk,rfl,hown,hF⟩:=hrel
    obtain ⟨A,c,rfl⟩:=hown.shape
    have O:=hid_ hown
    have F:=hid_ hF
    clear hown hF
    have hi0:(0:Int)≤(k:Int):=Int.natCast_nonneg _
    by_cases hlt:k < ps.length
    · have hi1:(k:Int) < (ps.length:Int):=by omega
      obtain ⟨x,hx⟩:∃ x,ps[k]?=some x:=⟨_,List.getElem?_eq_getElem hlt⟩
      obtain ⟨A2,c2,L2⟩:=x
      have hc:wr.cell? ⟨b,k,none⟩=some (.slice A2 L2.length c2):=cellFr (HB.out k _ hx) F.out
      have R:=hid_ ((HR.out _ (List.mem_of_getElem? hx)).none_fr F.out)
      have HT:=hid_ (ptRL_take hx)
      have hle:(ptRL (ps.take k)).length+L2.length≤(ptRL ps).length:=by
        have:=ptRL_le ps (k+1)
        rw [HT.out,List.length_append] at this
        exact this
      have hfs:=F.out.size
      clear hx
      go_wp2_with (at_builtin;refine wpList_append_any _ rfl (.tmp 12) (.tmp 13) 28 rfl w.heap.size 143 i0 _ 2 32 Tryz.underlying28 Hi.out.1 Hi.out.2.1 Hi.out.2.2.1 Hi.out.2.2.2 rfl (by omega) (.slice A (ptRL (ps.take k)).length c) (ptRL (ps.take k)).length (rwFlat (ptRL (ps.take k))) rfl O.out A2 L2.length c2 (rwFlat L2) rfl R.out (rwFlat_one _) (by simp only [maxLen];omega) (by omega) hfs ?_;intro A3 c3 w3 hown3 hgr3)
      have R3:w3.ownsRow w.heap.size 143 2 (.slice A3 ((ptRL (ps.take k)).length+L2.length) c3) (ptRL (ps.take (k+1))).length (rwFlat (ptRL (ps.take (k+1))))∧Fr none_ w w3:=by
        refine ⟨?_,F.out.grown hgr3 (fun b hb=>.inr (O.out.lt b hb).1)⟩
        rw [HT.out,List.length_append,rwFlat_app]
        exact hown3
      have HR3:=hid_ R3
      clear R3 hown3 hgr3
      go_wp2
      go_roundw
      case rel=>exact ⟨k+1,by omega,by go_num,HR3.out.1,HR3.out.2⟩
      case measure=>simp [intOf];omega
    · obtain rfl:k=ps.length:=by omega
      have o:=O.out
      have f:=F.out
      rw [List.take_length] at o
      go_wp2
      go_ret
      rw [List.take_length]
      exact ⟨A,c,rfl,o,f⟩
set_option maxHeartbeats 2000000 in
theorem bright_ok (k:ByteArray) (w:World) (h:SzOk k):Calls Tryz.prog 125 #[.string k] w fun e w'=>e=.returned (.bool (decide (1≤k.size) && decide (k.size≤16)))∧Fr none_ w w':=by
  have hl:=h.le
  clear h
  go_enter Tryz.func125,Tryz.ntmps125
  by_cases h1:1≤k.size
  · have e1:decide ((1:Int)≤(k.size:Int))=true:=by simp;omega
    have H1:=hid_ h1
    by_cases h2:k.size≤16
    · have e2:decide ((k.size:Int)≤16)=true:=by simp;omega
      have H2:=hid_ h2
      clear h1 h2
      go_wp2
      go_ret
      exact ⟨by simp [H1.out,H2.out],Fr.refl _ _⟩
    · have e2:decide ((k.size:Int)≤16)=false:=by simp;omega
      have H2:=hid_ h2
      clear h1 h2
      go_wp2
      go_ret
      exact ⟨by simp [H1.out,H2.out],Fr.refl _ _⟩
  · have e1:decide ((1:Int)≤(k.size:Int))=false:=by simp;omega
    have H1:=hid_ h1
    clear h1
    go_wp2
    go_ret
    exact ⟨by simp [H1.out],Fr.refl _ _⟩
abbrev rwV (p:Rw):Value:=.agg #[.string p.1,.string p.2]
set_option maxHeartbeats 2000000 in
theorem fits_ok (p:Rw) (w:World) (h1:SzOk p.1) (h2:SzOk p.2):Calls Tryz.prog 121 #[rwV p] w fun e w'=>e=.returned (.bool (fitsR p))∧Fr none_ w w':=by
  have hl:=h2.le
  have H1:=hid_ h1
  obtain ⟨w0,hw0⟩:∃ z,z=w.alloc (.cells #[.string p.1,.string p.2] 143):=⟨_,rfl⟩
  have f0:Fr none_ w w0:=by rw [hw0];exact (Fr.refl none_ w).alloc _
  have B0:Hid (Blk w0 w.heap.size 143 #[.string p.1,.string p.2]):=hid_ (by rw [hw0];exact Blk.new w _ _)
  have F0:=hid_ f0
  clear h1 h2 f0
  go_enter Tryz.func121,Tryz.ntmps121
  go_upto_region 1 with fail
  change Code.wp _ _ _ _ (w.alloc (.cells #[.string p.1,.string p.2] 143))
  rw [← hw0]
  clear hw0
  have c0:w0.cell? ⟨w.heap.size,0,none⟩=some (.string p.1):=B0.out.cell' rfl
  go_wp2_with fail
  refine (bright_ok p.1 _ H1.out).mono ?_
  rintro e w1 ⟨rfl,hf⟩
  have c1:w1.cell? ⟨w.heap.size,1,none⟩=some (.string p.2):=(B0.out.fr hf id).cell' rfl
  replace F0:=hid_ (F0.out.then_none hf)
  clear c0 hf
  obtain ⟨b,hb⟩:∃ b,(decide (1≤p.1.size) && decide (p.1.size≤16))=b:=⟨_,rfl⟩
  rw [hb]
  have HB:=hid_ hb
  clear hb
  cases b with
  | false =>
    go_wp2
    go_ret
    exact ⟨by simp [fitsR,HB.out],F0.out⟩
  | true =>
    by_cases h2:p.2.size≤16
    · have e2:decide ((p.2.size:Int)≤16)=true:=by simp;omega
      have H2:=hid_ h2
      clear h2
      go_wp2
      go_ret
      exact ⟨by simp [fitsR,HB.out,H2.out],F0.out⟩
    · have e2:decide ((p.2.size:Int)≤16)=false:=by simp;omega
      have H2:=hid_ h2
      clear h2
      go_wp2
      go_ret
      exact ⟨by simp [fitsR,HB.out,H2.out],F0.out⟩
set_option maxHeartbeats 4000000 in
theorem placeR_ok (L:List Rw) (A:Option Addr) (c:Nat) (key:ByteArray) (w:World) (h:Reads w 2 A L.length (rwFlat L)) (ho:RwsOk L) (hk:SzOk key) :
    Calls Tryz.prog 124 #[.slice A L.length c,.string key] w fun e w'=>e=.returned (.int .i64 (plR L key:Nat))∧Fr none_ w w':=by
  have H0:=hid_ h
  have hle:=plR_le L key
  have h1000:=ho.1
  have HSZ:=hid_ (And.intro ho.2 hk)
  clear h ho hk
  go_enter Tryz.func124,Tryz.ntmps124
  go_wp2_with fail
  go_loopw [5] (fun i wr=>∃ k:Nat,k≤plR L key∧i=.int .i64 k∧Fr none_ w wr) (fun i _=>plR L key - (intOf i).toNat)
  case atStart=>exact ⟨0,Nat.zero_le _,rfl,Fr.refl _ _⟩
  case round =>
    obtain ⟨k,hk,rfl,hF⟩:=hrel
    have H:=hid_ (H0.out.none_fr hF)
    have F:=hid_ hF
    clear hF
    have hi0:(0:Int)≤(k:Int):=Int.natCast_nonneg _
    by_cases hlt:k < plR L key
    · have hkl:k < L.length:=by omega
      have hi1:(k:Int) < (L.length:Int):=by omega
      have hd1:decide ((k:Int) < (L.length:Int))=true:=by simp;omega
      obtain ⟨p,hp⟩:∃ p,L[k]?=some p:=⟨_,List.getElem?_eq_getElem hkl⟩
      obtain ⟨b,off,rfl,hb,c0,c1⟩:=rw_at H.out hp
      have hcmp:decide (cmpI p.1 key < 0)=true:=by rw [cmp_neg];exact plR_in hlt hp
      have hsz:=(HSZ.out.1 p (List.mem_of_getElem? hp)).1
      have HCMP:=hid_ hcmp
      clear hp hcmp c1
      go_wp2_with fail
      refine (compare_ok p.1 key _ hsz.le HSZ.out.2.le).mono ?_
      rintro e w1 ⟨rfl,q,rfl⟩
      have hcmp:=HCMP.out
      have FQ:=hid_ (F.out.drewN q)
      clear c0
      go_wp2_with fail
      go_roundw
      case rel=>exact ⟨k+1,by omega,by go_num,FQ.out⟩
      case measure=>simp [intOf];omega
    · obtain rfl:k=plR L key:=by omega
      by_cases hl:plR L key < L.length
      · obtain ⟨p,hp⟩:∃ p,L[plR L key]?=some p:=⟨_,List.getElem?_eq_getElem hl⟩
        obtain ⟨b,off,rfl,hb,c0,c1⟩:=rw_at H.out hp
        have hcmp:decide (cmpI p.1 key < 0)=false:=by rw [cmp_neg];exact plR_at hp
        have hsz:=(HSZ.out.1 p (List.mem_of_getElem? hp)).1
        obtain ⟨n,hn⟩:∃ n,n=plR L key:=⟨_,rfl⟩
        have hi1:(n:Int) < (L.length:Int):=by omega
        have hd1:decide ((n:Int) < (L.length:Int))=true:=by simp;omega
        rw [← hn] at c0 c1 hi0
        rw [← hn]
        have HCMP:=hid_ hcmp
        have HN:=hid_ hn
        clear hp hcmp c1 hl hlt hn hk hle
        go_wp2_with fail
        refine (compare_ok p.1 key _ hsz.le HSZ.out.2.le).mono ?_
        rintro e w1 ⟨rfl,q,rfl⟩
        have hcmp:=HCMP.out
        have FQ:=hid_ (F.out.drewN q)
        go_wp2_with fail
        go_ret
        exact ⟨by rw [← HN.out];rfl,FQ.out⟩
      · have he:plR L key=L.length:=by omega
        have HE:=hid_ he
        have hd1:decide ((L.length:Int) < (L.length:Int))=false:=by simp
        rw [he]
        clear he hl hlt hk hle
        go_wp2_with fail
        go_ret
        exact ⟨by rw [HE.out];rfl,F.out⟩
set_option maxHeartbeats 4000000 in
theorem findR_ok (L:List Rw) (A:Option Addr) (c:Nat) (key:ByteArray) (w:World) (h:Reads w 2 A L.length (rwFlat L)) (ho:RwsOk L) (hk:SzOk key) :
    Calls Tryz.prog 123 #[.slice A L.length c,.string key] w fun e w'=>e=.returned (.tuple #[.int .i64 (plR L key:Nat),.bool (atR L key)])∧Fr none_ w w':=by
  have H0:=hid_ h
  have HO:=hid_ ho
  have HK:=hid_ hk
  have hle:=plR_le L key
  have h1000:=ho.1
  clear h ho hk
  go_enter Tryz.func123,Tryz.ntmps123
  go_wp2_with fail
  refine (placeR_ok L A c key _ H0.out HO.out HK.out).mono ?_
  rintro e w1 ⟨rfl,hf⟩
  have H:=hid_ (H0.out.none_fr hf)
  have F:=hid_ hf
  clear hf
  obtain ⟨n,hn⟩:∃ n,n=plR L key:=⟨_,rfl⟩
  rw [← hn]
  rw [← hn] at hle
  have HN:=hid_ hn
  have hi0:(0:Int)≤(n:Int):=Int.natCast_nonneg _
  by_cases hl:n < L.length
  · obtain ⟨p,hp⟩:∃ p,L[n]?=some p:=⟨_,List.getElem?_eq_getElem hl⟩
    obtain ⟨b,off,rfl,hb,c0,c1⟩:=rw_at H.out hp
    have hat:atR L key=sEq p.1 key:=atR_some (by rw [← hn];exact hp)
    have HAT:=hid_ hat
    have hi1:(n:Int) < (L.length:Int):=by omega
    have hd1:decide ((n:Int) < (L.length:Int))=true:=by simp;omega
    have hd2:decide (n < L.length)=true:=by simp;omega
    clear hp c1 hat hn hl
    go_wp2_with fail
    go_quiet (fail)
    go_wp2_with fail
    go_ret2
    exact ⟨by rw [HAT.out,← HN.out];rfl,by repeat (first | exact F.out | apply Fr.drewN | apply Fr.drew)⟩
  · have he:n=L.length:=by omega
    have hat:atR L key=false:=atR_none (by rw [← hn];exact he)
    have HAT:=hid_ hat
    have hd1:decide ((n:Int) < (L.length:Int))=false:=by simp;omega
    have hd2:decide (n < L.length)=false:=by simp;omega
    clear hat hn hl he
    go_wp2_with fail
    go_quiet (fail)
    go_wp2_with fail
    go_ret2
    exact ⟨by rw [HAT.out,← HN.out];rfl,by repeat (first | exact F.out | apply Fr.drewN | apply Fr.drew)⟩
theorem copyR_ok (L:List Rw) (A:Option Addr) (c:Nat) (w:World) (h:Reads w 2 A L.length (rwFlat L)) (hl:L.length≤300000) :
    Calls Tryz.prog 64 #[.slice A L.length c] w (JoinPostR w L):=by
  have H:=hid_ h
  clear h
  go_enter Tryz.func64,Tryz.ntmps64
  go_wp2_with fail
  have hB:=Blk.new w 28 #[.slice A L.length c]
  refine (list_ok w.heap.size [(A,c,L)] _ ?_ ?_ ?_ ?_).mono ?_
  · intro i x hx
    match i,hx with
    | 0,hx=>cases hx;rw [hB.cell];rfl
    | k+1,hx=>simp at hx
  · intro x hx
    obtain rfl:x=(A,c,L):=by simpa using hx
    exact H.out.alloc _
  · simp [ptRL];omega
  · simp
  rintro e w1 ⟨A',c',rfl,ho,hf⟩
  rw [show ptRL [(A,c,L)]=L by simp [ptRL]] at ho ⊢
  have O:=hid_ ho
  have F:=hid_ hf
  clear ho hf hB
  go_wp2
  go_ret
  exact ⟨A',c',rfl,own_base O.out (by simp),(((Fr.refl none_ w).alloc _).then_none F.out)⟩
open Go.RowKit
theorem Blk.there7 {w:World} {g n:Nat} {t:TypeId} {cs:Array Value} (h:Blk w g t cs) (hn:cs.size=n):w.there g 0 n:=by
  subst hn
  intro j hj
  refine ⟨?_,h.frozen _⟩
  rw [h.cell,Nat.zero_add,Array.getElem?_eq_getElem hj]
  rfl
theorem Blk.new7 {w:World} {b:Nat} (t:TypeId) (cs:Array Value) (h:b=w.heap.size):Blk (w.alloc (.cells cs t)) b t cs:=by
  subst h
  exact Blk.new w t cs
theorem Blk.over7 {w:World} {g:Nat} {t:TypeId} {zs:Array Value} (h:Blk w g t zs) (vs:List Value) (hz:zs.size=vs.length):Blk (w.setCells g 0 vs) g t vs.toArray∧Fr (only g) w (w.setCells g 0 vs):=by
  refine ⟨?_,Fr.setCells _ _ _ (Fr.refl _ _) (.inl rfl)⟩
  have h:=Blk.setCells vs 0 _ _ h
  have e:setA zs 0 vs=vs.toArray:=by
    apply Array.ext_getElem?
    intro k
    rcases Nat.lt_or_ge k vs.length with h1 | h1
    · have:=setA_in vs zs 0 k vs[k] (List.getElem?_eq_getElem h1) (by omega)
      rw [Nat.zero_add] at this
      rw [this,List.getElem?_toArray,List.getElem?_eq_getElem h1]
    · rw [Array.getElem?_eq_none (by rw [setA_size];omega),Array.getElem?_eq_none (by simpa using h1)]
  rwa [e] at h
theorem Blk.range7 {w:World} {g:Nat} {t:TypeId} {l:List Value} (h:Blk w g t l.toArray):w.rangeAt g 0 l:=fun j v hv=>by
  rw [Nat.zero_add]
  exact h.cell' (by simpa using hv)
section
variable {P:Program} {md:Region.Mode} {ops:Array Oper} {Q:Exit→Act→World→Prop} {S:World→Prop}
theorem wpAnyU_one7 {m i:Nat} {oi:Oper} {fuel:Nat} {listed:Array Bool} {a:Act} {w:World} (hi:ops[i]?=some oi) (hw:Region.wanted oi (yielded ops a.tmps)=true) (hr:Region.ready md ops listed=[i])
    (h:Oper.wp P oi a w (fun a' w'=>(m≤i∨S w')∧wpAnyU P md ops Q S m fuel (listed.setIfInBounds i true) a' w') Q):wpAnyU P md ops Q S m (fuel+1) listed a w:=by
  refine wpAnyU_all hr (by simp) (fun j hj=>?_)
  obtain rfl:j=i:=by simpa using hj
  unfold wpOp
  simp only [hi,hw,if_true]
  exact .inl h
theorem wpAnyU_two7 {m i j:Nat} {oi oj:Oper} {fuel:Nat} {listed:Array Bool} {a:Act} {w:World} (hi:ops[i]?=some oi) (hj:ops[j]?=some oj) (wi:Region.wanted oi (yielded ops a.tmps)=true) (wj:Region.wanted oj (yielded ops a.tmps)=true) (hr:Region.ready md ops listed=[i,j])
    (h1:Oper.wp P oi a w (fun a' w'=>(m≤i∨S w')∧wpAnyU P md ops Q S m fuel (listed.setIfInBounds i true) a' w') Q)
    (h2:Oper.wp P oj a w (fun a' w'=>(m≤j∨S w')∧wpAnyU P md ops Q S m fuel (listed.setIfInBounds j true) a' w') Q):wpAnyU P md ops Q S m (fuel+1) listed a w:=by
  refine wpAnyU_all hr (by simp) (fun k hk=>?_)
  have hk':k=i∨k=j:=by simpa using hk
  rcases hk' with rfl | rfl
  · unfold wpOp
    simp only [hi,wi,if_true]
    exact .inl h1
  · unfold wpOp
    simp only [hj,wj,if_true]
    exact .inl h2
end
open Go.RowKit Go.BigFrame

def RightPost (L:List Rw) (w:World) (e:Ending) (w':World):Prop:=∃ b:Bool,e=.returned (.bool b)∧(b=true ↔ RightR L)∧Fr none_ w w'
set_option maxHeartbeats 4000000 in
theorem rightR_ok (L:List Rw) (A:Option Addr) (c:Nat) (w:World) (h:Reads w 2 A L.length (rwFlat L)) (ho:RwsOk L) :
  Calls Tryz.prog 104 #[.slice A L.length c] w (RightPost L w):=by
 have H1:=hid_ h
 have OK:=hid_ ho
 have h1000:=ho.1
 clear h ho
 go_enter Tryz.func104,Tryz.ntmps104
 go_wp2_with fail
 go_loopw [7] (fun i wr=>∃ k:Nat,k≤L.length∧i=.int .i64 k∧RightTo L k∧Fr none_ w wr) (fun i _=>L.length - (intOf i).toNat)
 case atStart=>exact ⟨0,Nat.zero_le _,rfl,⟨fun j p hj=>by omega,fun j p q hj=>by omega⟩,Fr.refl _ _⟩
 case round =>
  obtain ⟨k,hk,rfl,hst,hF⟩:=hrel
  have ST:=hid_ hst
  have H:=hid_ (H1.out.none_fr hF)
  have F:=hid_ hF
  clear hst hF
  have hi0:(0:Int)≤(k:Int):=Int.natCast_nonneg _
  by_cases hlt:k < L.length
  ·have hi1':(k:Int) < (L.length:Int):=by omega
   obtain ⟨p,hp⟩:∃ p,L[k]?=some p:=⟨_,List.getElem?_eq_getElem hlt⟩
   obtain ⟨b,off,rfl,hb2,c0,c1⟩:=rw_at H.out hp
   have HP:=hid_ hp
   clear hp
   go_upto_region 4 with fail
   obtain ⟨X,hX⟩:∃ X,X=wr.heap.size:=⟨_,rfl⟩
   obtain ⟨w2,hw2⟩:∃ w2,w2=wr.alloc (.cells #[.string p.1,.string p.2] 143):=⟨_,rfl⟩
   have f2:Fr none_ wr w2:=by rw [hw2];exact (Fr.refl none_ wr).alloc _
   have BX:Hid (Blk w2 X 143 #[.string p.1,.string p.2]):=hid_ (by rw [hw2,hX];exact Blk.new wr _ _)
   have H2:=hid_ (H.out.none_fr f2)
   have F2:=hid_ (F.out.then_none f2)
   rw [← hX]
   change Code.wp _ _ _ _ (wr.alloc (.cells #[.string p.1,.string p.2] 143))
   rw [← hw2]
   clear hw2 hX f2 c0 c1
   have hpk:=OK.out.2 p (List.mem_of_getElem? HP.out)
   have HPK:=hid_ hpk
   clear hpk
   go_cut [30] (fun v wq=>∃ bb:Bool,v=.bool bb∧(bb=false ↔ (fitsR p=true∧∀ q,0 < k→L[k - 1]?=some q→ltS q.1 p.1=true))∧Fr none_ w2 wq)
   case first =>
    have x0:w2.cell? ⟨X,0,none⟩=some (.string p.1):=BX.out.cell' rfl
    have x1:w2.cell? ⟨X,1,none⟩=some (.string p.2):=BX.out.cell' rfl
    have z0:∀ x:Wx w2,x.to.cell? ⟨X,0,none⟩=some (.string p.1):=fun x=>x.cell x0
    have z1:∀ x:Wx w2,x.to.cell? ⟨X,1,none⟩=some (.string p.2):=fun x=>x.cell x1
    clear x0 x1
    cases hin:fitsR p with
    | false =>
     have HC:Hid (∀ x:Wx w2,Calls Tryz.prog 121 #[rwV p] x.to fun e w'=>e=.returned (.bool false)∧Fr none_ x.to w'):=hid_ (fun x=>by
      have h:=fits_ok p x.to HPK.out.1 HPK.out.2
      rwa [hin] at h)
     have HIN:=hid_ hin
     clear hin
     refine wp_region_quiet_x (by kernel_rfl) (by kernel_rfl) ?_
     repeat (first | go_big_quiet_step ((go_at_call 121;exact Calls.quiet_x (HC.out _))) | quiet_step ((go_at_call 121;exact Calls.quiet_x (HC.out _))))
     refine wpQuiet_nil ?_
     intro _ hw'
     obtain ⟨xq,hw''⟩:=hw'
     subst hw''
     go_wp2
     go_meet
     case rel=>exact ⟨true,rfl,⟨(fun h=>by cases h),fun h=>by rw [HIN.out] at h;cases h.1⟩,xq.fr⟩
    | true =>
     have HC:Hid (∀ x:Wx w2,Calls Tryz.prog 121 #[rwV p] x.to fun e w'=>e=.returned (.bool true)∧Fr none_ x.to w'):=hid_ (fun x=>by
      have h:=fits_ok p x.to HPK.out.1 HPK.out.2
      rwa [hin] at h)
     have HIN:=hid_ hin
     clear hin
     by_cases hk0:0 < k
     ·obtain ⟨q,hq⟩:∃ q,L[k - 1]?=some q:=⟨_,List.getElem?_eq_getElem (by omega)⟩
      obtain ⟨b3,off3,hA,hb3,d0,d1⟩:=rw_at H2.out hq
      obtain ⟨rfl,rfl⟩:b=b3∧off=off3:=by injection hA with hA;injection hA with e1 e2;exact ⟨e1,e2⟩
      have e0:∀ x:Wx w2,x.to.cell? ⟨b,off+(k - 1) * 2,none⟩=some (.string q.1):=fun x=>x.cell d0
      have hqk:=(OK.out.2 q (List.mem_of_getElem? hq)).1
      have HQK:=hid_ hqk
      have HQ:=hid_ hq
      have HQ':Hid ((∀ q',0 < k→L[k - 1]?=some q'→ltS q'.1 p.1=true) ↔ ltS q.1 p.1=true):=hid_ ⟨fun h=>h q hk0 hq,fun h q' _ hq'=>by rw [hq] at hq';cases hq';exact h⟩
      have HC2:Hid (∀ x:Wx w2,Calls Tryz.prog 85 #[.string q.1,.string p.1] x.to fun e w'=>e=.returned (.int .i64 (cmpI q.1 p.1))∧Fr none_ x.to w'):=hid_ (fun x=>(compare_ok q.1 p.1 x.to HQK.out.le HPK.out.1.le).mono (by rintro e w' ⟨rfl,n,rfl⟩;exact ⟨rfl,(Fr.refl none_ _).drewN n⟩))
      have hw1:IntKind.i64.wrap ((k:Int) - 1)=((k - 1:Nat):Int):=by rw [show (k:Int) - 1=((k - 1:Nat):Int) by omega];exact IntWalk.i64_in _ (by omega)
      have hdk:decide (0 < k)=true:=decide_eq_true hk0
      have hj0:(0:Int)≤((k - 1:Nat):Int):=Int.natCast_nonneg _
      have hj1:((k - 1:Nat):Int) < (L.length:Int):=by omega
      obtain ⟨j,hj⟩:∃ j,j=k - 1:=⟨_,rfl⟩
      rw [← hj] at e0 hw1 hj0 hj1
      have HJ:=hid_ hj
      have hge:=cmp_ge q.1 p.1
      have HGE:=hid_ hge
      clear hq hA d0 d1 hqk hj hge hk0
      refine wp_region_quiet_x (by kernel_rfl) (by kernel_rfl) ?_
      repeat (first | go_big_quiet_step ((first | (go_at_call 121;exact Calls.quiet_x (HC.out _)) | (go_at_call 85;exact Calls.quiet_x (HC2.out _)))) | quiet_step ((first | (go_at_call 121;exact Calls.quiet_x (HC.out _)) | (go_at_call 85;exact Calls.quiet_x (HC2.out _)))))
      refine wpQuiet_nil ?_
      intro _ hw'
      obtain ⟨xq,hw''⟩:=hw'
      subst hw''
      go_wp2
      go_meet
      case rel=>exact ⟨_,rfl,by
       rw [HGE.out,HIN.out,HQ'.out]
       cases ltS q.1 p.1 <;> simp,xq.fr⟩
     ·have hdk:decide (0 < k)=false:=decide_eq_false hk0
      have hk0':k=0:=by omega
      have HK0:=hid_ hk0'
      clear hk0 hk0'
      refine wp_region_quiet_x (by kernel_rfl) (by kernel_rfl) ?_
      repeat (first | go_big_quiet_step ((go_at_call 121;exact Calls.quiet_x (HC.out _))) | quiet_step ((go_at_call 121;exact Calls.quiet_x (HC.out _))))
      refine wpQuiet_nil ?_
      intro _ hw'
      obtain ⟨xq,hw''⟩:=hw'
      subst hw''
      go_wp2
      go_meet
      case rel=>exact ⟨false,rfl,⟨fun _=>⟨HIN.out,fun q h=>by have:=HK0.out;omega⟩,fun _=>rfl⟩,xq.fr⟩
   case rest =>
   obtain ⟨bb,rfl,hbb,hf⟩:=hcut
   have F3:=hid_ (F2.out.then_none hf)
   have HB:=hid_ hbb
   clear hf hbb H2 BX F2
   cases bb with
   | true =>
    have hns:¬ RightR L:=fun hS=>by
     have h:=HB.out.2 ⟨hS.fit p (List.mem_of_getElem? HP.out),fun q h0 hq=>hS.ris (k - 1) q p hq (by rw [show k - 1+1=k by omega];exact HP.out)⟩
     cases h
    have HNS:=hid_ hns
    clear hns
    go_wp2_with fail
    go_ret
    exact ⟨false,rfl,⟨(fun h=>by cases h),fun h=>absurd h HNS.out⟩,F3.out⟩
   | false =>
    have hst:RightTo L (k+1):=by
     have h:=HB.out.1 rfl
     refine ⟨fun j p' hj hp'=>?_,fun j p' q hj hp' hq=>?_⟩
     ·rcases Nat.lt_succ_iff_lt_or_eq.1 hj with hj | rfl
      ·exact ST.out.1 j p' hj hp'
      ·rw [HP.out] at hp';cases hp';exact h.1
     ·rcases Nat.lt_succ_iff_lt_or_eq.1 hj with hj | hj
      ·exact ST.out.2 j p' q hj hp' hq
      ·rw [hj,HP.out] at hq
       cases hq
       exact h.2 p' (by omega) (by rw [show k - 1=j by omega];exact hp')
    have HST:=hid_ hst
    clear hst
    go_wp2_with fail
    go_roundw
    case rel=>exact ⟨k+1,by omega,by go_num,HST.out,F3.out⟩
    case measure=>simp [intOf];omega
  ·obtain rfl:k=L.length:=by omega
   have hS:RightR L:=⟨fun p hp=>by obtain ⟨j,hj,e⟩:=List.mem_iff_getElem.1 hp;exact ST.out.1 j p hj (by rw [List.getElem?_eq_getElem hj,e]),fun j p q hp hq=>ST.out.2 j p q (List.getElem?_eq_some_iff.1 hq).1 hp hq⟩
   have HS:=hid_ hS
   clear hS
   go_wp2_with fail
   go_ret
   exact ⟨true,rfl,⟨fun _=>HS.out,fun _=>rfl⟩,F.out⟩

def PutPost (L:List Rw) (p:Rw) (w:World) (e:Ending) (w':World):Prop:=
  (fitsR p=true∧∃ A c,e=.returned (.tuple #[.slice A (putR L p).length c,.bool (atR L p.1),.nilIface])∧w'.ownsRow w.heap.size 143 2 (.slice A (putR L p).length c) (putR L p).length (rwFlat (putR L p))∧Fr none_ w w') ∨
  (fitsR p=false∧e=.returned (.tuple #[.slice none 0 0,.bool false,errV 1])∧Fr none_ w w')
theorem ptR_three (a b c:PtR):ptRL [a,b,c]=a.2.2 ++ b.2.2 ++ c.2.2:=by simp [ptRL]
theorem ptR_two (a b:PtR):ptRL [a,b]=a.2.2 ++ b.2.2:=by simp [ptRL]
theorem ptR_one (a:PtR):ptRL [a]=a.2.2:=by simp [ptRL]
theorem rwFlat_single (p:Rw):rwFlat [p]=[.string p.1,.string p.2]:=by simp [rwFlat,rwCells]
set_option maxHeartbeats 4000000 in
theorem putR_ok (L:List Rw) (A:Option Addr) (c:Nat) (p:Rw) (w:World) (h:Reads w 2 A L.length (rwFlat L)) (ho:RwsOk L) (hc:L.length≤c) (hm:c≤maxLen) (hp:SzOk p.1∧SzOk p.2) :
  Calls Tryz.prog 106 #[.slice A L.length c,rwV p] w (PutPost L p w):=by
 have HK:=hid_ hp
 have HO:=hid_ ho
 have hpl:=plR_le L p.1
 have h3:=ho.1
 unfold maxLen at hm
 obtain ⟨w0,hw0⟩:∃ z,z=w.alloc (.cells #[.string p.1,.string p.2] 143):=⟨_,rfl⟩
 have f0:Fr none_ w w0:=by rw [hw0];exact (Fr.refl none_ w).alloc _
 have B0:Hid (Blk w0 w.heap.size 143 #[.string p.1,.string p.2]):=hid_ (by rw [hw0];exact Blk.new w _ _)
 have F0:=hid_ f0
 have H:=hid_ (h.none_fr f0)
 clear h ho hp f0
 go_enter Tryz.func106,Tryz.ntmps106
 go_upto_region 1 with fail
 change Code.wp _ _ _ _ (w.alloc (.cells #[.string p.1,.string p.2] 143))
 rw [← hw0]
 clear hw0
 have c0:w0.cell? ⟨w.heap.size,0,none⟩=some (.string p.1):=B0.out.cell' rfl
 have c1:w0.cell? ⟨w.heap.size,1,none⟩=some (.string p.2):=B0.out.cell' rfl
 go_wp2_with fail
 refine (fits_ok p _ HK.out.1 HK.out.2).mono ?_
 rintro e w1 ⟨rfl,hf1⟩
 clear c0 c1
 replace F0:=hid_ (F0.out.then_none hf1)
 replace B0:=hid_ (B0.out.fr hf1 id)
 replace H:=hid_ (H.out.none_fr hf1)
 clear hf1
 cases hfit:fitsR p with
 | false =>
  have HF:=hid_ hfit
  clear hfit
  go_wp2
  go_ret3
  exact .inr ⟨HF.out,rfl,F0.out⟩
 | true =>
 have HF:=hid_ hfit
 clear hfit
 have c0:w1.cell? ⟨w.heap.size,0,none⟩=some (.string p.1):=B0.out.cell' rfl
 have c1:w1.cell? ⟨w.heap.size,1,none⟩=some (.string p.2):=B0.out.cell' rfl
 go_wp2_with fail
 refine (findR_ok L A c p.1 w1 H.out HO.out HK.out.1).mono ?_
 rintro e w2 ⟨rfl,hf2⟩
 clear c0 c1
 replace F0:=hid_ (F0.out.then_none hf2)
 replace B0:=hid_ (B0.out.fr hf2 id)
 replace H:=hid_ (H.out.none_fr hf2)
 clear hf2
 obtain ⟨n,hn⟩:∃ n,n=plR L p.1:=⟨_,rfl⟩
 obtain ⟨b,hb⟩:∃ b,b=atR L p.1:=⟨_,rfl⟩
 rw [← hn,← hb]
 rw [← hn] at hpl
 have hlt:b=true→n < L.length:=fun h=>by rw [hn];exact atR_lt (by rw [← hb];exact h)
 have HPUT:Hid (putR L p=L.take n ++ [p] ++ L.drop (n+if b then 1 else 0)):=hid_ (by rw [putR,← hn,← hb])
 have HB:=hid_ hb
 have HN:=hid_ hn
 clear hn hb
 have hi0:(0:Int)≤(n:Int):=Int.natCast_nonneg _
 have hi1:(n:Int)≤(L.length:Int):=by omega
 have hcl:(L.length:Int)≤(c:Int):=by omega
 have hi2:(n:Int)≤(c:Int):=by omega
 have CAP:=hid_ hc
 go_upto_if 22 with fail
 go_cut [9] (fun u wq=>∃ m:Nat,m=(n+if b then 1 else 0)∧u=.int .i64 m∧wq=w2)
 case first =>
  cases b with
  | false =>
   go_wp2
   go_meet
   case rel=>exact ⟨n,by simp,rfl,rfl⟩
  | true =>
   have:=hlt rfl
   go_wp2
   go_meet
   case rel =>
    refine ⟨n+1,by simp,?_,rfl⟩
    go_num
 case rest =>
  obtain ⟨m,hm7,rfl,rfl⟩:=hcut
  have hml:m≤L.length:=by
   cases b with
   | false=>simp at hm7;omega
   | true=>have:=hlt rfl;simp at hm7;omega
  rw [← hm7] at HPUT
  clear hm7 hlt
  obtain ⟨A5,hA5⟩:∃ A5,(if c=m then A else Option.map (fun x=>x.add (m * 2)) A)=A5:=⟨_,rfl⟩
  have R1:=hid_ (H.out.upto hpl)
  have R2:=H.out.cut hml CAP.out
  rw [hA5] at R2
  have R2':=hid_ R2
  clear R2
  have htl:(L.take n).length=n:=by simp;omega
  have hdl:(L.drop m).length=L.length - m:=by simp
  have hi3:(0:Int)≤(m:Int):=Int.natCast_nonneg _
  have hi4:(m:Int)≤(L.length:Int):=by omega
  have hi5:(m:Int)≤(c:Int):=by omega
  go_upto_region 7 with fail
  have c0:wc.cell? ⟨w.heap.size,0,none⟩=some (.string p.1):=B0.out.cell' rfl
  have c1:wc.cell? ⟨w.heap.size,1,none⟩=some (.string p.2):=B0.out.cell' rfl
  have hS0:(fun w':World=>Fr none_ wc w') wc.drew:=(Fr.refl none_ wc).drew
  refine wp_region_U (m:=14) (S:=fun w':World=>Fr none_ wc w') (by kernel_rfl) ?_
  refine wpAnyU_take2 (i:=0) (v:=_) rfl (by kernel_rfl) (by kernel_rfl) (by kernel_rfl) (by kernel_rfl) (fun _ _ _ h=>h) (.inl ⟨by kernel_rfl,fun w' hS=>by have s_c0:=cellFr c0 hS;have s_c1:=cellFr c1 hS;go_simp;rfl⟩) hS0 ?_
  refine wpAnyU_take2 (i:=1) (v:=_) rfl (by kernel_rfl) (by kernel_rfl) (by kernel_rfl) (by kernel_rfl) (fun _ _ _ h=>h) (.inl ⟨by kernel_rfl,fun w' hS=>by have s_c0:=cellFr c0 hS;have s_c1:=cellFr c1 hS;go_simp;rfl⟩) hS0 ?_
  refine wpAnyU_take2 (i:=2) (v:=_) rfl (by kernel_rfl) (by kernel_rfl) (by kernel_rfl) (by kernel_rfl) (fun _ _ _ h=>h) (.inl ⟨by kernel_rfl,fun w' hS=>by have s_c0:=cellFr c0 hS;have s_c1:=cellFr c1 hS;go_simp;rfl⟩) hS0 ?_
  refine wpAnyU_take2 (i:=3) (v:=_) rfl (by kernel_rfl) (by kernel_rfl) (by kernel_rfl) (by kernel_rfl) (fun _ _ _ h=>h) (.inl ⟨by kernel_rfl,fun w' hS=>by have s_c0:=cellFr c0 hS;have s_c1:=cellFr c1 hS;go_simp;rfl⟩) hS0 ?_
  refine wpAnyU_take2 (i:=5) (v:=_) rfl (by kernel_rfl) (by kernel_rfl) (by kernel_rfl) (by kernel_rfl) (fun _ _ _ h=>h) (.inl ⟨by kernel_rfl,fun w' hS=>by have s_c0:=cellFr c0 hS;have s_c1:=cellFr c1 hS;go_simp;rfl⟩) hS0 ?_
  refine wpAnyU_take2 (i:=6) (v:=_) rfl (by kernel_rfl) (by kernel_rfl) (by kernel_rfl) (by kernel_rfl) (fun _ _ _ h=>h) (.inl ⟨by kernel_rfl,fun w' hS=>by have s_c0:=cellFr c0 hS;have s_c1:=cellFr c1 hS;go_simp;rfl⟩) hS0 ?_
  refine wpAnyU_take2 (i:=7) (v:=_) rfl (by kernel_rfl) (by kernel_rfl) (by kernel_rfl) (by kernel_rfl) (fun _ _ _ h=>h) (.inl ⟨by kernel_rfl,fun w' hS=>by have s_c0:=cellFr c0 hS;have s_c1:=cellFr c1 hS;go_simp;rfl⟩) hS0 ?_
  refine wpAnyU_take2 (i:=10) (v:=_) rfl (by kernel_rfl) (by kernel_rfl) (by kernel_rfl) (by kernel_rfl) (fun _ _ _ h=>h) (.inl ⟨by kernel_rfl,fun w' hS=>by have s_c0:=cellFr c0 hS;have s_c1:=cellFr c1 hS;go_simp;rfl⟩) hS0 ?_
  refine wpAnyU_one7 (i:=4) rfl (by kernel_rfl) (by kernel_rfl) ?_
  go_simp
  refine ⟨(Fr.refl none_ wc).drew.alloc _,?_⟩
  refine wpAnyU_one7 (i:=8) rfl (by kernel_rfl) (by kernel_rfl) ?_
  go_simp
  refine ⟨((Fr.refl none_ wc).drew.alloc _).alloc _,?_⟩
  refine wpAnyU_one7 (i:=9) rfl (by kernel_rfl) (by kernel_rfl) ?_
  go_simp
  obtain ⟨w3,hw_w3⟩:∃ z,z=((wc.alloc (.cells #[.string p.1,.string p.2] 143)).alloc (.cells #[.slice A n c,.slice (some ⟨wc.heap.size,0,none⟩) 1 1,.slice A5 (L.length - m) (c - m)] 28)).drew:=⟨_,rfl⟩
  have f3:Fr none_ wc w3:=by rw [hw_w3];repeat (first | exact Fr.refl none_ wc | apply Fr.drew | apply Fr.alloc)
  have B3:=(Blk.new7 (w:=(wc.alloc (.cells #[.string p.1,.string p.2] 143))) (b:=wc.heap.size+1) 28 #[.slice A n c,.slice (some ⟨wc.heap.size,0,none⟩) 1 1,.slice A5 (L.length - m) (c - m)] (by simp)).drew
  rw [← hw_w3] at B3
  have E3:Reads w3 2 (some ⟨wc.heap.size,0,none⟩) 1 (rwFlat [p]):=by
   rw [hw_w3,rwFlat_single]
   exact ((reads_new wc 143 [.string p.1,.string p.2] wc.heap.size rfl).alloc _).drew
  rw [← hw_w3]
  clear hw_w3 c0 c1
  refine (list_ok (wc.heap.size+1) [(A,c,L.take n),(some ⟨wc.heap.size,0,none⟩,1,[p]),(A5,c - m,L.drop m)] w3 ?_ ?_ ?_ ?_).mono ?_
  ·intro i x hx
   match i,hx with
   | 0,hx=>cases hx;rw [B3.cell];show some (Value.slice A n c)=some (Value.slice (A) (L.take n).length (c));rw [htl]
   | 1,hx=>cases hx;rw [B3.cell];show some (Value.slice (some ⟨wc.heap.size,0,none⟩) 1 1)=some (Value.slice (some ⟨wc.heap.size,0,none⟩) ([p]).length (1));rfl
   | 2,hx=>cases hx;rw [B3.cell];show some (Value.slice A5 (L.length - m) (c - m))=some (Value.slice (A5) (L.drop m).length (c - m));rw [hdl]
   | k+3,hx=>simp at hx
  ·intro x hx
   simp only [List.mem_cons,List.not_mem_nil,or_false] at hx
   rcases hx with rfl | rfl | rfl
   ·show Reads w3 2 (A) (L.take n).length (rwFlat (L.take n))
    rw [htl,show rwFlat (L.take n)=(rwFlat L).take (n * 2) from rwFlat_take L n]
    exact R1.out.none_fr f3
   ·show Reads w3 2 (some ⟨wc.heap.size,0,none⟩) ([p]).length (rwFlat ([p]))
    exact E3
   ·show Reads w3 2 (A5) (L.drop m).length (rwFlat (L.drop m))
    rw [hdl,rwFlat_drop]
    exact R2'.out.none_fr f3
  ·simp [ptRL];omega
  ·simp
  rintro e w4 ⟨A',c',rfl,ho,hf4⟩
  rw [ptR_three,show (L.take n ++ [p] ++ L.drop m)=putR L p from HPUT.out.symm] at ho ⊢
  have hs3:=f3.size
  have hs0:=F0.out.size
  have O4:=hid_ (own_base ho (by omega:w.heap.size≤w3.heap.size))
  have F3:Hid (Fr none_ wc w4):=hid_ (f3.then_none hf4)
  have F4:=hid_ (F0.out.then_none F3.out)
  clear ho hf4 B3 E3 f3 htl hdl
  refine ⟨F3.out,?_⟩
  refine wpAnyU_one7 (i:=11) rfl (by kernel_rfl) (by kernel_rfl) ?_
  go_simp
  refine ⟨F3.out,?_⟩
  refine wpAnyU_one7 (i:=12) rfl (by kernel_rfl) (by kernel_rfl) ?_
  go_simp
  refine ⟨F3.out,?_⟩
  refine wpAnyU_one7 (i:=13) rfl (by kernel_rfl) (by kernel_rfl) ?_
  go_simp
  refine ⟨F3.out,?_⟩
  refine wpAnyU_done (by kernel_rfl) ?_ _
  go_wp2
  go_ret3
  exact .inl ⟨HF.out,A',c',by rw [HB.out];rfl,O4.out,F4.out⟩

def DropPost (L:List Rw) (key:ByteArray) (w:World) (e:Ending) (w':World):Prop:=
  ∃ A c,e=.returned (.tuple #[.slice A (dropR L key).length c,.bool (atR L key)])∧w'.ownsRow w.heap.size 143 2 (.slice A (dropR L key).length c) (dropR L key).length (rwFlat (dropR L key))∧Fr none_ w w'
set_option maxHeartbeats 4000000 in
theorem dropR_ok (L:List Rw) (A:Option Addr) (c:Nat) (key:ByteArray) (w:World) (h:Reads w 2 A L.length (rwFlat L)) (ho:RwsOk L) (hc:L.length≤c) (hm:c≤maxLen) (hk:SzOk key) :
  Calls Tryz.prog 108 #[.slice A L.length c,.string key] w (DropPost L key w):=by
 have HK:=hid_ hk
 have HO:=hid_ ho
 have hpl:=plR_le L key
 have h3:=ho.1
 unfold maxLen at hm
 have H:=hid_ h
 clear h ho hk
 go_enter Tryz.func108,Tryz.ntmps108
 go_wp2_with fail
 refine (findR_ok L A c key w H.out HO.out HK.out).mono ?_
 rintro e w1 ⟨rfl,hf⟩
 replace H:=hid_ (H.out.none_fr hf)
 have F0:=hid_ hf
 clear hf
 obtain ⟨n,hn⟩:∃ n,n=plR L key:=⟨_,rfl⟩
 obtain ⟨b,hb⟩:∃ b,b=atR L key:=⟨_,rfl⟩
 rw [← hn,← hb]
 rw [← hn] at hpl
 have hlt:b=true→n < L.length:=fun h=>by rw [hn];exact atR_lt (by rw [← hb];exact h)
 have HD:Hid (dropR L key=if b then L.take n ++ L.drop (n+1) else L):=hid_ (by rw [dropR,← hn,← hb])
 have HB:=hid_ hb
 have CAP:=hid_ hc
 clear hn hb
 have hi0:(0:Int)≤(n:Int):=Int.natCast_nonneg _
 have hs0:=F0.out.size
 cases b with
 | false =>
  have HD':Hid (dropR L key=L):=hid_ (by rw [HD.out];rfl)
  clear hlt
  go_wp2_with fail
  have hB:=Blk.new w1 28 #[.slice A L.length c]
  refine (list_ok (w1.heap.size) [(A,c,L)] _ ?_ ?_ ?_ ?_).mono ?_
  ·intro i x hx
   match i,hx with
   | 0,hx=>cases hx;rw [hB.cell];show some (Value.slice A L.length c)=some (Value.slice (A) (L).length (c));rfl
   | k+1,hx=>simp at hx
  ·intro x hx
   simp only [List.mem_cons,List.not_mem_nil,or_false] at hx
   rcases hx with rfl
   ·show Reads (w1.alloc _) 2 (A) (L).length (rwFlat (L))
    exact H.out.alloc _
  ·simp [ptRL];omega
  ·simp
  rintro e w4 ⟨A',c',rfl,hown,hf4⟩
  rw [ptR_one] at hown ⊢
  have O4:=hid_ (own_base hown (by simp;omega:w.heap.size≤(w1.alloc (.cells #[.slice A L.length c] 28)).heap.size))
  have F4:=hid_ (((F0.out.alloc _).then_none hf4))
  clear hown hf4 hB
  go_wp2
  go_ret2
  refine ⟨A',c',?_,?_,F4.out⟩
  ·rw [HD'.out,HB.out];rfl
  ·rw [HD'.out];exact O4.out
 | true =>
  have hnl:=hlt rfl
  have HD':Hid (dropR L key=L.take n ++ L.drop (n+1)):=hid_ (by rw [HD.out];rfl)
  obtain ⟨m,hm7⟩:∃ m,m=n+1:=⟨_,rfl⟩
  have hml:m≤L.length:=by omega
  have hwr:IntKind.i64.wrap ((n:Int)+1)=(m:Int):=by rw [hm7];exact IntWalk.i64_in _ (by omega)
  rw [← hm7] at HD'
  clear hlt hm7
  obtain ⟨A5,hA5⟩:∃ A5,(if c=m then A else Option.map (fun x=>x.add (m * 2)) A)=A5:=⟨_,rfl⟩
  have R1:=hid_ (H.out.upto hpl)
  have R2:=H.out.cut hml CAP.out
  rw [hA5] at R2
  have R2':=hid_ R2
  clear R2
  have htl:(L.take n).length=n:=by simp;omega
  have hdl:(L.drop m).length=L.length - m:=by simp
  have hi1:(n:Int)≤(L.length:Int):=by omega
  have hi2:(n:Int)≤(c:Int):=by omega
  have hi3:(0:Int)≤(m:Int):=Int.natCast_nonneg _
  have hi4:(m:Int)≤(L.length:Int):=by omega
  have hi5:(m:Int)≤(c:Int):=by omega
  have hcl:(L.length:Int)≤(c:Int):=by omega
  go_upto_region 4 with fail
  have hS0:(fun w':World=>Fr none_ w1 w') w1.drew:=(Fr.refl none_ w1).drew
  refine wp_region_U (m:=11) (S:=fun w':World=>Fr none_ w1 w') (by kernel_rfl) ?_
  refine wpAnyU_take2 (i:=0) (v:=_) rfl (by kernel_rfl) (by kernel_rfl) (by kernel_rfl) (by kernel_rfl) (fun _ _ _ h=>h) (.inl ⟨by kernel_rfl,fun w' hS=>by skip;go_simp;rfl⟩) hS0 ?_
  refine wpAnyU_take2 (i:=1) (v:=_) rfl (by kernel_rfl) (by kernel_rfl) (by kernel_rfl) (by kernel_rfl) (fun _ _ _ h=>h) (.inl ⟨by kernel_rfl,fun w' hS=>by skip;go_simp;rfl⟩) hS0 ?_
  refine wpAnyU_take2 (i:=2) (v:=_) rfl (by kernel_rfl) (by kernel_rfl) (by kernel_rfl) (by kernel_rfl) (fun _ _ _ h=>h) (.inl ⟨by kernel_rfl,fun w' hS=>by skip;go_simp;rfl⟩) hS0 ?_
  refine wpAnyU_take2 (i:=3) (v:=_) rfl (by kernel_rfl) (by kernel_rfl) (by kernel_rfl) (by kernel_rfl) (fun _ _ _ h=>h) (.inl ⟨by kernel_rfl,fun w' hS=>by skip;go_simp;rfl⟩) hS0 ?_
  refine wpAnyU_take2 (i:=4) (v:=_) rfl (by kernel_rfl) (by kernel_rfl) (by kernel_rfl) (by kernel_rfl) (fun _ _ _ h=>h) (.inl ⟨by kernel_rfl,fun w' hS=>by skip;go_simp;rfl⟩) hS0 ?_
  refine wpAnyU_take2 (i:=5) (v:=_) rfl (by kernel_rfl) (by kernel_rfl) (by kernel_rfl) (by kernel_rfl) (fun _ _ _ h=>h) (.inl ⟨by kernel_rfl,fun w' hS=>by skip;go_simp;rfl⟩) hS0 ?_
  refine wpAnyU_take2 (i:=6) (v:=_) rfl (by kernel_rfl) (by kernel_rfl) (by kernel_rfl) (by kernel_rfl) (fun _ _ _ h=>h) (.inl ⟨by kernel_rfl,fun w' hS=>by skip;go_simp;rfl⟩) hS0 ?_
  refine wpAnyU_one7 (i:=7) rfl (by kernel_rfl) (by kernel_rfl) ?_
  go_simp
  refine ⟨(Fr.refl none_ w1).drew.alloc _,?_⟩
  refine wpAnyU_one7 (i:=8) rfl (by kernel_rfl) (by kernel_rfl) ?_
  go_simp
  obtain ⟨w3,hw_w3⟩:∃ z,z=(w1.alloc (.cells #[.slice A n c,.slice A5 (L.length - m) (c - m)] 28)).drew:=⟨_,rfl⟩
  have f3:Fr none_ w1 w3:=by rw [hw_w3];repeat (first | exact Fr.refl none_ w1 | apply Fr.drew | apply Fr.alloc)
  have B3:=(Blk.new7 (w:=w1) (b:=w1.heap.size) 28 #[.slice A n c,.slice A5 (L.length - m) (c - m)] (by simp)).drew
  rw [← hw_w3] at B3
  rw [← hw_w3]
  clear hw_w3
  refine (list_ok (w1.heap.size) [(A,c,L.take n),(A5,c - m,L.drop m)] w3 ?_ ?_ ?_ ?_).mono ?_
  ·intro i x hx
   match i,hx with
   | 0,hx=>cases hx;rw [B3.cell];show some (Value.slice A n c)=some (Value.slice (A) (L.take n).length (c));rw [htl]
   | 1,hx=>cases hx;rw [B3.cell];show some (Value.slice A5 (L.length - m) (c - m))=some (Value.slice (A5) (L.drop m).length (c - m));rw [hdl]
   | k+2,hx=>simp at hx
  ·intro x hx
   simp only [List.mem_cons,List.not_mem_nil,or_false] at hx
   rcases hx with rfl | rfl
   ·show Reads w3 2 (A) (L.take n).length (rwFlat (L.take n))
    rw [htl,show rwFlat (L.take n)=(rwFlat L).take (n * 2) from rwFlat_take L n]
    exact R1.out.none_fr f3
   ·show Reads w3 2 (A5) (L.drop m).length (rwFlat (L.drop m))
    rw [hdl,rwFlat_drop]
    exact R2'.out.none_fr f3
  ·simp [ptRL];omega
  ·simp
  rintro e w4 ⟨A',c',rfl,ho,hf4⟩
  rw [ptR_two,show L.take n ++ L.drop m=dropR L key from HD'.out.symm] at ho ⊢
  have hs3:=f3.size
  have O4:=hid_ (own_base ho (by omega:w.heap.size≤w3.heap.size))
  have F3:Hid (Fr none_ w1 w4):=hid_ (f3.then_none hf4)
  have F4:=hid_ (F0.out.then_none F3.out)
  clear ho hf4 B3 f3 htl hdl
  refine ⟨F3.out,?_⟩
  refine wpAnyU_one7 (i:=9) rfl (by kernel_rfl) (by kernel_rfl) ?_
  go_simp
  refine ⟨F3.out,?_⟩
  refine wpAnyU_one7 (i:=10) rfl (by kernel_rfl) (by kernel_rfl) ?_
  go_simp
  refine ⟨F3.out,?_⟩
  refine wpAnyU_done (by kernel_rfl) ?_ _
  go_wp2
  go_ret2
  exact ⟨A',c',by rw [← HB.out];rfl,O4.out,F4.out⟩

def CutPost (L:List Rw) (key:ByteArray) (w:World) (e:Ending) (w':World):Prop:=
  ∃ A c B n d,e=.returned (.tuple #[.slice A (L.take (plR L key)).length c,.slice B n d])∧w'.ownsRow w.heap.size 143 2 (.slice A (L.take (plR L key)).length c) (L.take (plR L key)).length (rwFlat (L.take (plR L key)))∧Fr none_ w w'
set_option maxHeartbeats 8000000 in
theorem cutR_ok (L:List Rw) (A:Option Addr) (c:Nat) (key:ByteArray) (w:World) (h:Reads w 2 A L.length (rwFlat L)) (ho:RwsOk L) (hc:L.length≤c) (hm:c≤maxLen) (hk:SzOk key) :
  Calls Tryz.prog 109 #[.slice A L.length c,.string key] w (CutPost L key w):=by
 have HK:=hid_ hk
 have HO:=hid_ ho
 have hpl:=plR_le L key
 have h3:=ho.1
 unfold maxLen at hm
 have H:=hid_ h
 clear h ho hk
 go_enter Tryz.func109,Tryz.ntmps109
 go_wp2_with fail
 refine (placeR_ok L A c key w H.out HO.out HK.out).mono ?_
 rintro e w1 ⟨rfl,hf⟩
 replace H:=hid_ (H.out.none_fr hf)
 have F0:=hid_ hf
 clear hf
 obtain ⟨n,hn⟩:∃ n,n=plR L key:=⟨_,rfl⟩
 rw [← hn]
 rw [← hn] at hpl
 have HN:=hid_ hn
 have CAP:=hid_ hc
 clear hn
 have hi0:(0:Int)≤(n:Int):=Int.natCast_nonneg _
 have hs0:=F0.out.size
 obtain ⟨A5,hA5⟩:∃ A5,(if c=n then A else Option.map (fun x=>x.add (n * 2)) A)=A5:=⟨_,rfl⟩
 have R1:=hid_ (H.out.upto hpl)
 have R2:=H.out.cut hpl CAP.out
 rw [hA5] at R2
 have R2':=hid_ R2
 clear R2
 have htl:(L.take n).length=n:=by simp;omega
 have hdl:(L.drop n).length=L.length - n:=by simp
 have hi1:(n:Int)≤(L.length:Int):=by omega
 have hi2:(n:Int)≤(c:Int):=by omega
 have hcl:(L.length:Int)≤(c:Int):=by omega
 go_upto_region 2 with fail
 have hS0:(fun w':World=>Fr none_ w1 w') w1.drew:=(Fr.refl none_ w1).drew
 refine wp_region_U (m:=12) (S:=fun w':World=>Fr none_ w1 w') (by kernel_rfl) ?_
 refine wpAnyU_take2 (i:=0) (v:=_) rfl (by kernel_rfl) (by kernel_rfl) (by kernel_rfl) (by kernel_rfl) (fun _ _ _ h=>h) (.inl ⟨by kernel_rfl,fun w' hS=>by skip;go_simp;rfl⟩) hS0 ?_
 refine wpAnyU_take2 (i:=1) (v:=_) rfl (by kernel_rfl) (by kernel_rfl) (by kernel_rfl) (by kernel_rfl) (fun _ _ _ h=>h) (.inl ⟨by kernel_rfl,fun w' hS=>by skip;go_simp;rfl⟩) hS0 ?_
 refine wpAnyU_take2 (i:=2) (v:=_) rfl (by kernel_rfl) (by kernel_rfl) (by kernel_rfl) (by kernel_rfl) (fun _ _ _ h=>h) (.inl ⟨by kernel_rfl,fun w' hS=>by skip;go_simp;rfl⟩) hS0 ?_
 refine wpAnyU_take2 (i:=5) (v:=_) rfl (by kernel_rfl) (by kernel_rfl) (by kernel_rfl) (by kernel_rfl) (fun _ _ _ h=>h) (.inl ⟨by kernel_rfl,fun w' hS=>by skip;go_simp;rfl⟩) hS0 ?_
 refine wpAnyU_take2 (i:=6) (v:=_) rfl (by kernel_rfl) (by kernel_rfl) (by kernel_rfl) (by kernel_rfl) (fun _ _ _ h=>h) (.inl ⟨by kernel_rfl,fun w' hS=>by skip;go_simp;rfl⟩) hS0 ?_
 refine wpAnyU_take2 (i:=7) (v:=_) rfl (by kernel_rfl) (by kernel_rfl) (by kernel_rfl) (by kernel_rfl) (fun _ _ _ h=>h) (.inl ⟨by kernel_rfl,fun w' hS=>by skip;go_simp;rfl⟩) hS0 ?_
 refine wpAnyU_two7 (i:=3) (j:=8) rfl rfl (by kernel_rfl) (by kernel_rfl) (by kernel_rfl) ?_ ?_
 ·go_simp
  refine ⟨(Fr.refl none_ w1).drew.alloc _,?_⟩
  refine wpAnyU_two7 (i:=4) (j:=8) rfl rfl (by kernel_rfl) (by kernel_rfl) (by kernel_rfl) ?_ ?_
  ·go_simp
   obtain ⟨w3,hw_w3⟩:∃ z,z=(w1.alloc (.cells #[.slice A n c] 28)).drew:=⟨_,rfl⟩
   have f3:Fr none_ w1 w3:=by rw [hw_w3];repeat (first | exact Fr.refl none_ w1 | apply Fr.drew | apply Fr.alloc)
   have B3:=(Blk.new7 (w:=w1) (b:=w1.heap.size) 28 #[.slice A n c] rfl).drew
   rw [← hw_w3] at B3
   rw [← hw_w3]
   clear hw_w3
   refine (list_ok (w1.heap.size) [(A,c,L.take n)] w3 ?_ ?_ ?_ ?_).mono ?_
   ·intro i x hx
    match i,hx with
    | 0,hx=>cases hx;rw [B3.cell];show some (Value.slice A n c)=some (Value.slice (A) (L.take n).length (c));rw [htl]
    | k+1,hx=>simp at hx
   ·intro x hx
    simp only [List.mem_cons,List.not_mem_nil,or_false] at hx
    rcases hx with rfl
    ·show Reads w3 2 (A) (L.take n).length (rwFlat (L.take n))
     rw [htl,show rwFlat (L.take n)=(rwFlat L).take (n * 2) from rwFlat_take L n]
     exact R1.out.none_fr f3
   ·simp [ptRL];omega
   ·simp
   rintro e w4 ⟨A',c',rfl,ho,hf4⟩
   rw [ptR_one] at ho ⊢
   have hs3:=f3.size
   have O4:=hid_ (own_base ho (by omega:w.heap.size≤w3.heap.size))
   have F3:Hid (Fr none_ w1 w4):=hid_ (f3.then_none hf4)
   clear ho hf4 B3
   refine ⟨F3.out,?_⟩
   refine wpAnyU_one7 (i:=8) rfl (by kernel_rfl) (by kernel_rfl) ?_
   go_simp
   obtain ⟨w5,hw5⟩:∃ z,z=w4.alloc (.cells #[.slice A5 (L.length - n) (c - n)] 28):=⟨_,rfl⟩
   have F5:Hid (Fr none_ w1 w5):=hid_ (by rw [hw5];exact F3.out.alloc _)
   have O5:=hid_ (own_none O4.out (by rw [hw5];exact (Fr.refl none_ w4).alloc (.cells #[.slice A5 (L.length - n) (c - n)] 28):Fr none_ w4 w5))
   have B5:Hid (Blk w5 w4.heap.size 28 #[.slice A5 (L.length - n) (c - n)]):=hid_ (by rw [hw5];exact Blk.new w4 _ _)
   rw [← hw5]
   clear hw5
   refine ⟨F5.out,?_⟩
   refine wpAnyU_one7 (i:=9) rfl (by kernel_rfl) (by kernel_rfl) ?_
   go_simp
   refine (list_ok (w4.heap.size) [(A5,c - n,L.drop n)] w5 ?_ ?_ ?_ ?_).mono ?_
   ·intro i x hx
    match i,hx with
    | 0,hx=>cases hx;rw [B5.out.cell];show some (Value.slice A5 (L.length - n) (c - n))=some (Value.slice (A5) (L.drop n).length (c - n));rw [hdl]
    | k+1,hx=>simp at hx
   ·intro x hx
    simp only [List.mem_cons,List.not_mem_nil,or_false] at hx
    rcases hx with rfl
    ·show Reads w5 2 (A5) (L.drop n).length (rwFlat (L.drop n))
     rw [hdl,rwFlat_drop]
     exact R2'.out.none_fr F5.out
   ·simp [ptRL];omega
   ·simp
   rintro e w6 ⟨B',d',rfl,ho6,hf6⟩
   have O6:=hid_ (own_none O5.out hf6)
   have F6:=hid_ (F5.out.then_none hf6)
   have F7:=hid_ (F0.out.then_none F6.out)
   clear ho6 hf6 B5
   refine ⟨F6.out,?_⟩
   refine wpAnyU_one7 (i:=10) rfl (by kernel_rfl) (by kernel_rfl) ?_
   go_simp
   refine ⟨F6.out,?_⟩
   refine wpAnyU_one7 (i:=11) rfl (by kernel_rfl) (by kernel_rfl) ?_
   go_simp
   refine ⟨F6.out,?_⟩
   refine wpAnyU_done (by kernel_rfl) ?_ _
   go_wp2
   go_ret2
   exact ⟨A',c',B',_,d',by rw [← HN.out,htl];rfl,by rw [← HN.out];exact O6.out,F7.out⟩
  ·go_simp
   refine ⟨((Fr.refl none_ w1).drew.alloc _).alloc _,?_⟩
   refine wpAnyU_one7 (i:=4) rfl (by kernel_rfl) (by kernel_rfl) ?_
   go_simp
   obtain ⟨w3,hw_w3⟩:∃ z,z=((w1.alloc (.cells #[.slice A n c] 28)).alloc (.cells #[.slice A5 (L.length - n) (c - n)] 28)).drew:=⟨_,rfl⟩
   have f3:Fr none_ w1 w3:=by rw [hw_w3];repeat (first | exact Fr.refl none_ w1 | apply Fr.drew | apply Fr.alloc)
   have B3:=((Blk.new7 (w:=w1) (b:=w1.heap.size) 28 #[.slice A n c] rfl).alloc (.cells #[.slice A5 (L.length - n) (c - n)] 28)).drew
   have B8:=(Blk.new7 (w:=w1.alloc (.cells #[.slice A n c] 28)) (b:=w1.heap.size+1) 28 #[.slice A5 (L.length - n) (c - n)] (by simp)).drew
   rw [← hw_w3] at B3 B8
   rw [← hw_w3]
   clear hw_w3
   refine (list_ok (w1.heap.size) [(A,c,L.take n)] w3 ?_ ?_ ?_ ?_).mono ?_
   ·intro i x hx
    match i,hx with
    | 0,hx=>cases hx;rw [B3.cell];show some (Value.slice A n c)=some (Value.slice (A) (L.take n).length (c));rw [htl]
    | k+1,hx=>simp at hx
   ·intro x hx
    simp only [List.mem_cons,List.not_mem_nil,or_false] at hx
    rcases hx with rfl
    ·show Reads w3 2 (A) (L.take n).length (rwFlat (L.take n))
     rw [htl,show rwFlat (L.take n)=(rwFlat L).take (n * 2) from rwFlat_take L n]
     exact R1.out.none_fr f3
   ·simp [ptRL];omega
   ·simp
   rintro e w4 ⟨A',c',rfl,ho,hf4⟩
   rw [ptR_one] at ho ⊢
   have hs3:=f3.size
   have O4:=hid_ (own_base ho (by omega:w.heap.size≤w3.heap.size))
   have F3:Hid (Fr none_ w1 w4):=hid_ (f3.then_none hf4)
   have F5:=F3
   have O5:=O4
   have B5:=hid_ (B8.fr hf4 id)
   clear ho hf4 B3 B8
   refine ⟨F3.out,?_⟩
   refine wpAnyU_one7 (i:=9) rfl (by kernel_rfl) (by kernel_rfl) ?_
   go_simp
   refine (list_ok (w1.heap.size+1) [(A5,c - n,L.drop n)] w4 ?_ ?_ ?_ ?_).mono ?_
   ·intro i x hx
    match i,hx with
    | 0,hx=>cases hx;rw [B5.out.cell];show some (Value.slice A5 (L.length - n) (c - n))=some (Value.slice (A5) (L.drop n).length (c - n));rw [hdl]
    | k+1,hx=>simp at hx
   ·intro x hx
    simp only [List.mem_cons,List.not_mem_nil,or_false] at hx
    rcases hx with rfl
    ·show Reads w4 2 (A5) (L.drop n).length (rwFlat (L.drop n))
     rw [hdl,rwFlat_drop]
     exact R2'.out.none_fr F5.out
   ·simp [ptRL];omega
   ·simp
   rintro e w6 ⟨B',d',rfl,ho6,hf6⟩
   have O6:=hid_ (own_none O5.out hf6)
   have F6:=hid_ (F5.out.then_none hf6)
   have F7:=hid_ (F0.out.then_none F6.out)
   clear ho6 hf6 B5
   refine ⟨F6.out,?_⟩
   refine wpAnyU_one7 (i:=10) rfl (by kernel_rfl) (by kernel_rfl) ?_
   go_simp
   refine ⟨F6.out,?_⟩
   refine wpAnyU_one7 (i:=11) rfl (by kernel_rfl) (by kernel_rfl) ?_
   go_simp
   refine ⟨F6.out,?_⟩
   refine wpAnyU_done (by kernel_rfl) ?_ _
   go_wp2
   go_ret2
   exact ⟨A',c',B',_,d',by rw [← HN.out,htl];rfl,by rw [← HN.out];exact O6.out,F7.out⟩
 ·go_simp
  refine ⟨(Fr.refl none_ w1).drew.alloc _,?_⟩
  refine wpAnyU_one7 (i:=3) rfl (by kernel_rfl) (by kernel_rfl) ?_
  go_simp
  refine ⟨((Fr.refl none_ w1).drew.alloc _).alloc _,?_⟩
  refine wpAnyU_one7 (i:=4) rfl (by kernel_rfl) (by kernel_rfl) ?_
  go_simp
  obtain ⟨w3,hw_w3⟩:∃ z,z=((w1.alloc (.cells #[.slice A5 (L.length - n) (c - n)] 28)).alloc (.cells #[.slice A n c] 28)).drew:=⟨_,rfl⟩
  have f3:Fr none_ w1 w3:=by rw [hw_w3];repeat (first | exact Fr.refl none_ w1 | apply Fr.drew | apply Fr.alloc)
  have B8:=((Blk.new7 (w:=w1) (b:=w1.heap.size) 28 #[.slice A5 (L.length - n) (c - n)] rfl).alloc (.cells #[.slice A n c] 28)).drew
  have B3:=(Blk.new7 (w:=w1.alloc (.cells #[.slice A5 (L.length - n) (c - n)] 28)) (b:=w1.heap.size+1) 28 #[.slice A n c] (by simp)).drew
  rw [← hw_w3] at B3 B8
  rw [← hw_w3]
  clear hw_w3
  refine (list_ok (w1.heap.size+1) [(A,c,L.take n)] w3 ?_ ?_ ?_ ?_).mono ?_
  ·intro i x hx
   match i,hx with
   | 0,hx=>cases hx;rw [B3.cell];show some (Value.slice A n c)=some (Value.slice (A) (L.take n).length (c));rw [htl]
   | k+1,hx=>simp at hx
  ·intro x hx
   simp only [List.mem_cons,List.not_mem_nil,or_false] at hx
   rcases hx with rfl
   ·show Reads w3 2 (A) (L.take n).length (rwFlat (L.take n))
    rw [htl,show rwFlat (L.take n)=(rwFlat L).take (n * 2) from rwFlat_take L n]
    exact R1.out.none_fr f3
  ·simp [ptRL];omega
  ·simp
  rintro e w4 ⟨A',c',rfl,ho,hf4⟩
  rw [ptR_one] at ho ⊢
  have hs3:=f3.size
  have O4:=hid_ (own_base ho (by omega:w.heap.size≤w3.heap.size))
  have F3:Hid (Fr none_ w1 w4):=hid_ (f3.then_none hf4)
  have F5:=F3
  have O5:=O4
  have B5:=hid_ (B8.fr hf4 id)
  clear ho hf4 B3 B8
  refine ⟨F3.out,?_⟩
  refine wpAnyU_one7 (i:=9) rfl (by kernel_rfl) (by kernel_rfl) ?_
  go_simp
  refine (list_ok (w1.heap.size) [(A5,c - n,L.drop n)] w4 ?_ ?_ ?_ ?_).mono ?_
  ·intro i x hx
   match i,hx with
   | 0,hx=>cases hx;rw [B5.out.cell];show some (Value.slice A5 (L.length - n) (c - n))=some (Value.slice (A5) (L.drop n).length (c - n));rw [hdl]
   | k+1,hx=>simp at hx
  ·intro x hx
   simp only [List.mem_cons,List.not_mem_nil,or_false] at hx
   rcases hx with rfl
   ·show Reads w4 2 (A5) (L.drop n).length (rwFlat (L.drop n))
    rw [hdl,rwFlat_drop]
    exact R2'.out.none_fr F5.out
  ·simp [ptRL];omega
  ·simp
  rintro e w6 ⟨B',d',rfl,ho6,hf6⟩
  have O6:=hid_ (own_none O5.out hf6)
  have F6:=hid_ (F5.out.then_none hf6)
  have F7:=hid_ (F0.out.then_none F6.out)
  clear ho6 hf6 B5
  refine ⟨F6.out,?_⟩
  refine wpAnyU_one7 (i:=10) rfl (by kernel_rfl) (by kernel_rfl) ?_
  go_simp
  refine ⟨F6.out,?_⟩
  refine wpAnyU_one7 (i:=11) rfl (by kernel_rfl) (by kernel_rfl) ?_
  go_simp
  refine ⟨F6.out,?_⟩
  refine wpAnyU_done (by kernel_rfl) ?_ _
  go_wp2
  go_ret2
  exact ⟨A',c',B',_,d',by rw [← HN.out,htl];rfl,by rw [← HN.out];exact O6.out,F7.out⟩

def joinR (a b:List Rw):Bool:=
  match a[a.length - 1]?,b[0]? with
  | some p,some q=>ltS p.1 q.1
  | _,_=>true
def JoinRPost (a b:List Rw) (w:World) (e:Ending) (w':World):Prop:=
  (joinR a b=true∧∃ A c,e=.returned (.tuple #[.slice A (a ++ b).length c,.nilIface])∧w'.ownsRow w.heap.size 143 2 (.slice A (a ++ b).length c) (a ++ b).length (rwFlat (a ++ b))∧Fr none_ w w') ∨
  (joinR a b=false∧e=.returned (.tuple #[.slice none 0 0,errV 2])∧Fr none_ w w')
theorem joinR_some {a b:List Rw} {p q:Rw} (h:a[a.length - 1]?=some p) (h':b[0]?=some q):joinR a b=ltS p.1 q.1:=by simp [joinR,h,h']
theorem joinR_nil {a b:List Rw} (h:a.length=0∨b.length=0):joinR a b=true:=by
  rcases h with h | h
  · rw [List.eq_nil_of_length_eq_zero h];simp [joinR]
  · rw [List.eq_nil_of_length_eq_zero h];unfold joinR;split <;> simp_all
set_option maxHeartbeats 4000000 in
theorem joinR_ok (a b:List Rw) (A B:Option Addr) (c d:Nat) (w:World) (ha:Reads w 2 A a.length (rwFlat a)) (hb:Reads w 2 B b.length (rwFlat b)) (hoa:RwsOk a) (hob:RwsOk b) :
  Calls Tryz.prog 110 #[.slice A a.length c,.slice B b.length d] w (JoinRPost a b w):=by
 have HA:=hid_ ha
 have HB:=hid_ hb
 have OA:=hid_ hoa
 have OB:=hid_ hob
 have l1:=hoa.1
 have l2:=hob.1
 clear ha hb hoa hob
 go_enter Tryz.func110,Tryz.ntmps110
 go_upto_region 1 with fail
 go_cut [28] (fun u wq=>u=.bool (!joinR a b)∧Fr none_ w wq)
 case rest =>
  obtain ⟨rfl,hf⟩:=hcut
  have F0:=hid_ hf
  have hs0:=hf.size
  clear hf
  cases hj:joinR a b with
  | false =>
   have HJ:=hid_ hj
   clear hj
   go_wp2_with fail
   go_ret2
   exact .inr ⟨HJ.out,rfl,F0.out⟩
  | true =>
   have HJ:=hid_ hj
   clear hj
   go_wp2_with fail
   have hB:=Blk.new wc 28 #[.slice A a.length c,.slice B b.length d]
   refine (list_ok (wc.heap.size) [(A,c,a),(B,d,b)] (wc.alloc (.cells #[.slice A a.length c,.slice B b.length d] 28)) ?_ ?_ ?_ ?_).mono ?_
   ·intro i x hx
    match i,hx with
    | 0,hx=>cases hx;rw [hB.cell];show some (Value.slice A a.length c)=some (Value.slice (A) (a).length (c));rfl
    | 1,hx=>cases hx;rw [hB.cell];show some (Value.slice B b.length d)=some (Value.slice (B) (b).length (d));rfl
    | k+2,hx=>simp at hx
   ·intro x hx
    simp only [List.mem_cons,List.not_mem_nil,or_false] at hx
    rcases hx with rfl | rfl
    ·show Reads (wc.alloc (.cells #[.slice A a.length c,.slice B b.length d] 28)) 2 (A) (a).length (rwFlat (a))
     exact (HA.out.none_fr F0.out).alloc _
    ·show Reads (wc.alloc (.cells #[.slice A a.length c,.slice B b.length d] 28)) 2 (B) (b).length (rwFlat (b))
     exact (HB.out.none_fr F0.out).alloc _
   ·simp [ptRL];omega
   ·simp
   rintro e w4 ⟨A',c',rfl,hown,hf4⟩
   rw [ptR_two] at hown ⊢
   have O4:=hid_ (own_base hown (by simp;omega:w.heap.size≤(wc.alloc (.cells #[.slice A a.length c,.slice B b.length d] 28)).heap.size))
   have F4:=hid_ (((F0.out.alloc _).then_none hf4))
   clear hown hf4 hB
   go_wp2
   go_ret2
   exact .inl ⟨HJ.out,A',c',by rw [List.length_append];rfl,O4.out,F4.out⟩
 case first =>
  by_cases h1:a.length=0
  ·have e1:decide ((0:Int) < (a.length:Int))=false:=decide_eq_false (by omega)
   have e2:decide (0 < a.length)=false:=decide_eq_false (by omega)
   have HJ:=hid_ (joinR_nil (a:=a) (b:=b) (.inl h1))
   have hdd:(0:Int)≤0:=by omega
   clear h1
   go_quiet (fail)
   go_wp2
   go_meet
   case rel=>exact ⟨by rw [HJ.out];rfl,by repeat (first | exact Fr.refl none_ w | apply Fr.drewN | apply Fr.drew)⟩
  ·have e1:decide ((0:Int) < (a.length:Int))=true:=decide_eq_true (by omega)
   have e2:decide (0 < a.length)=true:=decide_eq_true (by omega)
   by_cases h2:b.length=0
   ·have e3:decide ((0:Int) < (b.length:Int))=false:=decide_eq_false (by omega)
    have e4:decide (0 < b.length)=false:=decide_eq_false (by omega)
    have HJ:=hid_ (joinR_nil (a:=a) (b:=b) (.inr h2))
    clear h1 h2
    go_quiet (fail)
    go_wp2
    go_meet
    case rel=>exact ⟨by rw [HJ.out];rfl,by repeat (first | exact Fr.refl none_ w | apply Fr.drewN | apply Fr.drew)⟩
   ·have e3:decide ((0:Int) < (b.length:Int))=true:=decide_eq_true (by omega)
    have e4:decide (0 < b.length)=true:=decide_eq_true (by omega)
    obtain ⟨n,hn⟩:∃ n,n=a.length - 1:=⟨_,rfl⟩
    obtain ⟨p,hp⟩:∃ p,a[n]?=some p:=⟨_,List.getElem?_eq_getElem (by omega)⟩
    obtain ⟨q,hq⟩:∃ q,b[0]?=some q:=⟨_,List.getElem?_eq_getElem (by omega)⟩
    obtain ⟨gb,go,rfl,hgb,c0,c1⟩:=rw_at HA.out hp
    obtain ⟨hb2,ho2,rfl,hhb,d0,d1⟩:=rw_at HB.out hq
    have hw1:IntKind.i64.wrap ((a.length:Int) - 1)=(n:Int):=by rw [show (a.length:Int) - 1=(n:Int) by omega];exact IntWalk.i64_in _ (by omega)
    have hi0:(0:Int)≤(n:Int):=Int.natCast_nonneg _
    have hi1:(n:Int) < (a.length:Int):=by omega
    have hi2:(0:Int) < (b.length:Int):=by omega
    have HJ:=hid_ (joinR_some (by rw [← hn];exact hp) hq)
    have HC:Hid (∀ x:Wx w,Calls Tryz.prog 85 #[.string p.1,.string q.1] x.to fun e w'=>e=.returned (.int .i64 (cmpI p.1 q.1))∧Fr none_ x.to w'):=hid_ (fun x=>(compare_ok p.1 q.1 x.to (OA.out.2 p (List.mem_of_getElem? hp)).1.le (OB.out.2 q (List.mem_of_getElem? hq)).1.le).mono (by rintro e w' ⟨rfl,n,rfl⟩;exact ⟨rfl,(Fr.refl none_ _).drewN n⟩))
    have HGE:=hid_ (cmp_ge p.1 q.1)
    simp only [Nat.zero_mul,Nat.add_zero] at d0
    have y0:∀ x:Wx w,x.to.cell? ⟨gb,go+n * 2,none⟩=some (.string p.1):=fun x=>x.cell c0
    have y1:∀ x:Wx w,x.to.cell? ⟨hb2,ho2,none⟩=some (.string q.1):=fun x=>x.cell d0
    clear hp hq c0 c1 d0 d1 hn h1 h2
    refine wp_region_quiet_x (by kernel_rfl) (by kernel_rfl) ?_
    repeat (first | go_big_quiet_step ((go_at_call 85;exact Calls.quiet_x (HC.out _))) | quiet_step ((go_at_call 85;exact Calls.quiet_x (HC.out _))))
    refine wpQuiet_nil ?_
    intro _ hw'
    obtain ⟨xq,hw''⟩:=hw'
    subst hw''
    go_wp2
    go_meet
    case rel=>exact ⟨by rw [HJ.out,← HGE.out],xq.fr⟩
open Go.RowKit Go.BigFrame

structure TkSt (w wr:World) (low high:ByteArray) (unb:Bool) (M:List Rw):Prop where
  bs:Blk wr w.heap.size 147 #[.string low,.string high,.bool unb]
  bl:Blk wr (w.heap.size+1) 3 #[.int .i64 0]
  bo:∃ v,Blk wr (w.heap.size+1+1) 28 #[v]∧wr.ownsRow (w.heap.size+1+1+1) 143 2 v M.length (rwFlat M)
  fr:Fr none_ w wr
theorem TkSt.keep {w w1 w2:World} {low high:ByteArray} {unb:Bool} {M:List Rw} (h:TkSt w w1 low high unb M) (hf:Fr none_ w1 w2):TkSt w w2 low high unb M:=by
  obtain ⟨v,h1,h2⟩:=h.bo
  exact ⟨h.bs.fr hf id,h.bl.fr hf id,⟨v,h1.fr hf id,own_none h2 hf⟩,h.fr.then_none hf⟩
def GivePost (w:World) (low high:ByteArray) (unb:Bool) (M:List Rw) (p:Rw) (e:Ending) (w':World):Prop:=
  e=.returned (.bool true)∧TkSt w w' low high unb (if inS low high unb p.1=true then M ++ [p] else M)
set_option maxHeartbeats 4000000 in
theorem give_ok (w wr:World) (low high:ByteArray) (unb:Bool) (M:List Rw) (p:Rw) (h:TkSt w wr low high unb M) (hM:M.length≤300000) (h1:SzOk low) (h2:SzOk high) (h3:SzOk p.1) :
  Calls Tryz.prog 122 #[rwV p,.pointer (some ⟨w.heap.size,0,none⟩),.pointer (some ⟨w.heap.size+1+1,0,none⟩),.pointer (some ⟨w.heap.size+1,0,none⟩)] wr (GivePost w low high unb M p):=by
 obtain ⟨i0,hi0,hz0,hs0,hb0⟩:=info_parts row_info
 have Hi:=hid_ (And.intro hi0 (And.intro hz0 (And.intro hs0 hb0)))
 have HS:=hid_ (And.intro h1 (And.intro h2 h3))
 obtain ⟨w0,hw0⟩:∃ z,z=wr.alloc (.cells #[.string p.1,.string p.2] 143):=⟨_,rfl⟩
 have f0:Fr none_ wr w0:=by rw [hw0];exact (Fr.refl none_ wr).alloc _
 have B0:Hid (Blk w0 wr.heap.size 143 #[.string p.1,.string p.2]):=hid_ (by rw [hw0];exact Blk.new wr _ _)
 have T0:=hid_ (h.keep f0)
 have hsz:=h.fr.size
 have hszb:=h.bl.lt
 have hlo:=h.bo.elim fun v hv=>hv.1.lt
 clear hi0 hz0 hs0 hb0 h h1 h2 h3 f0
 go_enter Tryz.func122,Tryz.ntmps122
 go_upto_region 1 with fail
 change Code.wp _ _ _ _ (wr.alloc (.cells #[.string p.1,.string p.2] 143))
 rw [← hw0]
 clear hw0
 have c0:w0.cell? ⟨wr.heap.size,0,none⟩=some (.string p.1):=B0.out.cell' rfl
 have s0:w0.cell? ⟨w.heap.size,0,none⟩=some (.string low):=T0.out.bs.cell' rfl
 have s1:w0.cell? ⟨w.heap.size,1,none⟩=some (.string high):=T0.out.bs.cell' rfl
 have s2:w0.cell? ⟨w.heap.size,2,none⟩=some (.bool unb):=T0.out.bs.cell' rfl
 go_wp2_with fail
 refine (in_ok low high unb p.1 w0 HS.out.1.le HS.out.2.1.le HS.out.2.2.le).mono ?_
 rintro e w1 ⟨rfl,q,hw1⟩
 have f1:Fr none_ w0 w1:=by rw [hw1];exact (Fr.refl none_ w0).drewN q
 replace T0:=hid_ (T0.out.keep f1)
 replace B0:=hid_ (B0.out.fr f1 id)
 clear c0 s0 s1 s2 f1 hw1
 cases hin:inS low high unb p.1 with
 | false =>
  have HIN:=hid_ hin
  clear hin
  have l0:w1.cell? ⟨w.heap.size+1,0,none⟩=some (.int .i64 0):=T0.out.bl.cell' rfl
  go_wp2_with fail
  go_ret
  exact ⟨rfl,by rw [HIN.out];exact T0.out⟩
 | true =>
  have HIN:=hid_ hin
  clear hin
  obtain ⟨v,hbo,hown⟩:=T0.out.bo
  obtain ⟨A,c,rfl⟩:=hown.shape
  have O:=hid_ hown
  have BO:=hid_ hbo
  have HNE:=hid_ (And.intro (own_blk_ne hown hbo (by decide)) (And.intro (own_blk_ne hown T0.out.bs (by decide)) (own_blk_ne hown T0.out.bl (by decide))))
  have hob:=fun b hb=>(hown.lt b hb).1
  have HOB:=hid_ hob
  clear hown hob
  have o0:w1.cell? ⟨w.heap.size+1+1,0,none⟩=some (.slice A M.length c):=BO.out.cell' rfl
  have c0:w1.cell? ⟨wr.heap.size,0,none⟩=some (.string p.1):=B0.out.cell' rfl
  have c1:w1.cell? ⟨wr.heap.size,1,none⟩=some (.string p.2):=B0.out.cell' rfl
  have hb1:=B0.out.lt
  have hcl:=hbo.lt
  clear hbo
  go_upto_region 3 with (at_builtin;refine wpList_append_any _ rfl (.tmp 15) (.tmp 17) 28 rfl (w.heap.size+1+1+1) 143 i0 _ 2 32 Tryz.underlying28 Hi.out.1 Hi.out.2.1 Hi.out.2.2.1 Hi.out.2.2.2 rfl (by omega) (.slice A M.length c) M.length (rwFlat M) rfl (O.out.alloc _) (some ⟨w1.heap.size,0,none⟩) 1 1 [.string p.1,.string p.2] rfl (reads_new w1 _ [.string p.1,.string p.2] _ rfl) (by simp [Value.oneCell']) (by simp only [maxLen];omega) (by omega) (by simp;omega) ?_;intro A3 c3 w3 hown3 hgr3;have hf3:Fr (fun k=>(Value.slice A M.length c).ownBlock=some k) w1 w3:=((Fr.refl _ w1).alloc (.cells #[.string p.1,.string p.2] 143)).grown hgr3 (fun k hk=>.inl hk);have O3:=hid_ hown3;have BO3:=hid_ (BO.out.fr hf3 HNE.out.1);have BS3:=hid_ (T0.out.bs.fr hf3 HNE.out.2.1);have BL3:=hid_ (T0.out.bl.fr hf3 HNE.out.2.2);have F3:Hid (Fr none_ w w3):=hid_ (T0.out.fr.trans hf3 (fun _ _=>id) (fun k hk e=>absurd (HOB.out k e) (by omega)));have o3:w3.cell? ⟨w.heap.size+1+1,0,none⟩=some (.slice A M.length c):=BO3.out.cell' rfl;have z3:=BO3.out.frozen 0;clear hown3 hgr3 hf3)
  obtain ⟨w4,hw4⟩:∃ z,z=w3.setCell ⟨w.heap.size+1+1,0,none⟩ (.slice A3 (M.length+1) c3):=⟨_,rfl⟩
  have f4:Fr (only (w.heap.size+1+1)) w3 w4:=by rw [hw4];exact Fr.only1 w3 ⟨w.heap.size+1+1,0,none⟩ _
  have BO4:Blk w4 (w.heap.size+1+1) 28 #[.slice A3 (M.length+1) c3]:=by rw [hw4];exact BO3.out.set_ 0 _
  have O4:=own_fr O3.out f4 (fun k hk e=>own_blk_ne O3.out BO3.out (by decide) (by rw [hk,show k=w.heap.size+1+1 from e]))
  have T4:TkSt w w4 low high unb (M ++ [p]):=⟨BS3.out.fr f4 (only_ne (by omega)),BL3.out.fr f4 (only_ne (by omega)),⟨_,BO4,by rw [List.length_append,rwFlat_app,rwFlat_single];exact O4⟩,F3.out.then_only f4 (.inr (by omega))⟩
  have HT4:=hid_ T4
  change Code.wp _ _ _ _ (w3.setCell ⟨w.heap.size+1+1,0,none⟩ (.slice A3 (M.length+1) c3))
  rw [← hw4]
  clear hw4 f4 BO4 O4 T4 o3 z3 c0 c1 o0
  have l0:w4.cell? ⟨w.heap.size+1,0,none⟩=some (.int .i64 0):=HT4.out.bl.cell' rfl
  go_wp2_with fail
  go_ret
  exact ⟨rfl,by rw [HIN.out];exact HT4.out⟩
def TakePost (L:List Rw) (low high:ByteArray) (unb:Bool) (w:World) (e:Ending) (w':World):Prop:=
  ∃ A c,e=.returned (.slice A (inR low high unb L).length c)∧w'.ownsRow w.heap.size 143 2 (.slice A (inR low high unb L).length c) (inR low high unb L).length (rwFlat (inR low high unb L))∧Fr none_ w w'
theorem inR_take {low high:ByteArray} {unb:Bool} {L:List Rw} {k:Nat} {p:Rw} (hp:L[k]?=some p):inR low high unb (L.take (k+1))=if inS low high unb p.1=true then inR low high unb (L.take k) ++ [p] else inR low high unb (L.take k):=by
  unfold inR
  rw [List.take_add_one,hp,List.filter_append]
  by_cases h:inS low high unb p.1=true
  · rw [if_pos h];simp [h]
  · rw [if_neg h];simp [h]
theorem inR_le (low high:ByteArray) (unb:Bool) (L:List Rw):(inR low high unb L).length≤L.length:=List.length_filter_le _ _
set_option maxHeartbeats 4000000 in
theorem take_ok (L:List Rw) (A:Option Addr) (c:Nat) (low high:ByteArray) (unb:Bool) (w:World) (h:Reads w 2 A L.length (rwFlat L)) (ho:RwsOk L) (h1:SzOk low) (h2:SzOk high) :
  Calls Tryz.prog 105 #[.slice A L.length c,.agg #[.string low,.string high,.bool unb],.int .i64 0,.bool false] w (TakePost L low high unb w):=by
 obtain ⟨w0,hw0⟩:∃ z,z=((w.alloc (.cells #[.string low,.string high,.bool unb] 147)).alloc (.cells #[.int .i64 0] 3)).alloc (.cells #[.slice none 0 0] 28):=⟨_,rfl⟩
 have f0:Fr none_ w w0:=by rw [hw0];exact (((Fr.refl none_ w).alloc _).alloc _).alloc _
 have T0:Hid (TkSt w w0 low high unb []):=hid_ (by
  refine ⟨?_,?_,⟨_,?_,World.ownsRow_nil _ _ _ _⟩,f0⟩
  ·rw [hw0];exact ((Blk.new w _ _).alloc _).alloc _
  ·rw [hw0];exact (Blk.new7 _ _ (by simp)).alloc _
  ·rw [hw0];exact Blk.new7 _ _ (by simp))
 have H0:=hid_ h
 have HO:=hid_ ho
 have HS:=hid_ (And.intro h1 h2)
 have h3:=ho.1
 clear h ho h1 h2 f0
 go_enter Tryz.func105,Tryz.ntmps105
 go_upto_region 2 with fail
 change Code.wp _ _ _ _ (((w.alloc (.cells #[.string low,.string high,.bool unb] 147)).alloc (.cells #[.int .i64 0] 3)).alloc (.cells #[.slice none 0 0] 28))
 rw [← hw0]
 clear hw0
 go_wp2_with fail
 go_loopw [16] (fun i wr=>∃ k:Nat,k≤L.length∧i=.int .i64 k∧TkSt w wr low high unb (inR low high unb (L.take k))) (fun i _=>L.length - (intOf i).toNat)
 case atStart=>exact ⟨0,Nat.zero_le _,rfl,T0.out⟩
 case round =>
  obtain ⟨k,hk,rfl,hT⟩:=hrel
  have T:=hid_ hT
  have H:=hid_ (H0.out.none_fr hT.fr)
  clear hT
  have hi0:(0:Int)≤(k:Int):=Int.natCast_nonneg _
  by_cases hlt:k < L.length
  ·have hi1:(k:Int) < (L.length:Int):=by omega
   obtain ⟨p,hp⟩:∃ p,L[k]?=some p:=⟨_,List.getElem?_eq_getElem hlt⟩
   obtain ⟨b,off,rfl,hb,c0,c1⟩:=rw_at H.out hp
   have HT:=hid_ (inR_take (low:=low) (high:=high) (unb:=unb) hp)
   have hsz:=(HO.out.2 p (List.mem_of_getElem? hp)).1
   have hM:(inR low high unb (L.take k)).length≤300000:=by
    have:=inR_le low high unb (L.take k)
    have h2:(L.take k).length=k:=by simp;omega
    omega
   clear hp
   go_wp2_with fail
   refine (give_ok w wr low high unb _ p T.out hM HS.out.1 HS.out.2 hsz).mono ?_
   rintro e w1 ⟨rfl,hT1⟩
   rw [← HT.out] at hT1
   have T1:=hid_ hT1
   clear hT1 c0 c1
   go_wp2_with fail
   go_roundw
   case rel=>exact ⟨k+1,by omega,by go_num,T1.out⟩
   case measure=>simp [intOf];omega
  ·obtain rfl:k=L.length:=by omega
   have hT:=T.out
   rw [List.take_length] at hT
   obtain ⟨v,hbo,hown⟩:=hT.bo
   obtain ⟨A',c',rfl⟩:=hown.shape
   have O:=hid_ hown
   have FF:=hid_ hT.fr
   have v0:wr.cell? ⟨w.heap.size+1+1,0,none⟩=some (.slice A' (inR low high unb L).length c'):=hbo.cell' rfl
   clear hT hbo hown
   go_wp2_with fail
   go_ret
   exact ⟨A',c',rfl,own_base O.out (by omega),FF.out⟩
def SoundLPost (low high:ByteArray) (unb:Bool) (L:List Rw) (w:World) (e:Ending) (w':World):Prop:=∃ b:Bool,e=.returned (.bool b)∧(b=true ↔ SoundR low high unb L)∧Fr none_ w w'
set_option maxHeartbeats 4000000 in
theorem soundL_ok (L:List Rw) (A:Option Addr) (c:Nat) (low high:ByteArray) (unb:Bool) (w:World) (h:Reads w 2 A L.length (rwFlat L)) (ho:RwsOk L) (h1:SzOk low) (h2:SzOk high) :
  Calls Tryz.prog 65 #[.slice A L.length c,.agg #[.string low,.string high,.bool unb]] w (SoundLPost low high unb L w):=by
 obtain ⟨w0,hw0⟩:∃ z,z=w.alloc (.cells #[.string low,.string high,.bool unb] 147):=⟨_,rfl⟩
 have f0:Fr none_ w w0:=by rw [hw0];exact (Fr.refl none_ w).alloc _
 have B0:Hid (Blk w0 w.heap.size 147 #[.string low,.string high,.bool unb]):=hid_ (by rw [hw0];exact Blk.new w _ _)
 have H0:=hid_ (h.none_fr f0)
 have F0:=hid_ f0
 have HO:=hid_ ho
 have HS:=hid_ (And.intro h1 h2)
 have h3:=ho.1
 clear h ho h1 h2 f0
 go_enter Tryz.func65,Tryz.ntmps65
 go_upto_region 1 with fail
 change Code.wp _ _ _ _ (w.alloc (.cells #[.string low,.string high,.bool unb] 147))
 rw [← hw0]
 clear hw0
 go_cut [16] (fun u wq=>∃ bb:Bool,u=.bool bb∧(bb=false ↔ ((unb=true→high=nilS)∧RightR L))∧Fr none_ w0 wq)
 case first =>
  have v1:w0.cell? ⟨w.heap.size,1,none⟩=some (.string high):=B0.out.cell' rfl
  have v2:w0.cell? ⟨w.heap.size,2,none⟩=some (.bool unb):=B0.out.cell' rfl
  by_cases hb:unb=true∧high≠nilS
  ·rw [hb.1] at v2
   have hh:high.toList.isEmpty=false:=by
    cases e:high.toList.isEmpty with
    | false=>rfl
    | true=>exact absurd (ba_eq (by rw [← ba_toList,List.isEmpty_iff.1 e])) hb.2
   have hh2:(!high.toList.isEmpty)=true:=by rw [hh];rfl
   have HB:=hid_ hb
   clear hb
   go_wp2_with fail
   go_meet
   case rel=>exact ⟨true,rfl,⟨(fun h=>by cases h),fun h=>absurd (h.1 HB.out.1) HB.out.2⟩,Fr.refl _ _⟩
  ·have HHI:Hid (unb=true→high=nilS):=hid_ (fun hu=>Classical.byContradiction fun hn=>hb ⟨hu,hn⟩)
   clear hb
   cases unb with
   | false =>
    go_wp2_with fail
    refine (rightR_ok L A c _ H0.out HO.out).mono ?_
    rintro e w1 ⟨b,rfl,hb,hf⟩
    have HB:=hid_ hb
    have F1:=hid_ hf
    clear hb hf
    go_wp2_with fail
    go_meet
    case rel=>exact ⟨_,rfl,by rw [← HB.out];cases b <;> simp,F1.out⟩
   | true =>
    rw [HHI.out (by simp)] at v1
    go_wp2_with fail
    refine (rightR_ok L A c _ H0.out HO.out).mono ?_
    rintro e w1 ⟨b,rfl,hb,hf⟩
    have HB:=hid_ hb
    have F1:=hid_ hf
    clear hb hf
    go_wp2_with fail
    go_meet
    case rel=>exact ⟨_,rfl,by rw [← HB.out];have:=HHI.out (by simp);cases b <;> simp [this],F1.out⟩
 case rest =>
  obtain ⟨bb,rfl,hbb,hf⟩:=hcut
  have HB:=hid_ hbb
  have F1:=hid_ (F0.out.then_none hf)
  have B1:=hid_ (B0.out.fr hf id)
  have H1:=hid_ (H0.out.none_fr hf)
  clear hbb hf
  cases bb with
  | true =>
   go_wp2_with fail
   go_ret
   exact ⟨false,rfl,⟨(fun h=>by cases h),fun h=>by have:=HB.out.2 ⟨h.hi,h.right⟩;cases this⟩,F1.out⟩
  | false =>
   have v0:wc.cell? ⟨w.heap.size,0,none⟩=some (.string low):=B1.out.cell' rfl
   have v1:wc.cell? ⟨w.heap.size,1,none⟩=some (.string high):=B1.out.cell' rfl
   have v2:wc.cell? ⟨w.heap.size,2,none⟩=some (.bool unb):=B1.out.cell' rfl
   go_wp2_with fail
   refine (take_ok L A c low high unb wc H1.out HO.out HS.out.1 HS.out.2).mono ?_
   rintro e w2 ⟨A',c',rfl,hown,hf2⟩
   have F2:=hid_ (F1.out.then_none hf2)
   have hle:=inR_le low high unb L
   obtain ⟨n,hn⟩:∃ n,n=(inR low high unb L).length:=⟨_,rfl⟩
   rw [← hn]
   rw [← hn] at hle
   have HN:=hid_ hn
   clear hown hf2 hn v0 v1 v2
   by_cases he:n=L.length
   ·have e1:((n:Int)==(L.length:Int))=true:=beq_iff_eq.2 (by omega)
    have HE:=hid_ he
    clear he
    go_wp2_with fail
    go_ret
    exact ⟨true,rfl,⟨fun _=>⟨(HB.out.1 (by simp)).1,(HB.out.1 (by simp)).2,inR_all.1 (HN.out.symm.trans HE.out)⟩,fun _=>rfl⟩,F2.out⟩
   ·have e1:((n:Int)==(L.length:Int))=false:=beq_eq_false_iff_ne.2 (by omega)
    have HE:=hid_ he
    clear he
    go_wp2_with fail
    go_ret
    exact ⟨false,rfl,⟨(fun h=>by cases h),fun h=>absurd (HN.out.trans (inR_all.2 h.inn)) HE.out⟩,F2.out⟩
end Go.Proofs.YtfihfjbakfadkaaGreatDoor
