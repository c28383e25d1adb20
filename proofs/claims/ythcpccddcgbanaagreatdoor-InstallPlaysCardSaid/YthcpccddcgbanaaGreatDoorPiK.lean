/- Texts of one proof, merged: Is, ArFirst, ClkN, Mem9. -/
import Derived.LaidEql
import Derived.Stop.Asserts
import Derived.RowKitTokens
import Derived.Maps.OwnOps
import Derived.Maps.OwnSet
import Derived.Maps.RangeWalk
import Derived.IntWalk
import Derived.Deep.Cut
import Derived.Test.YthcpccddcgbanaaGreatDoorPiA
import Derived.Test.YthcpccddcgbanaaGreatDoorPiC
import Derived.Test.YthcpccddcgbanaaGreatDoorPiI
import Derived.Test.YthcpccddcgbanaaGreatDoorPiJ
namespace Go.Proofs.YthcpccddcgbanaaGreatDoor
set_option maxRecDepth 100000
set_option linter.unusedVariables false
open Go.RowKit Go.Extern.Stop Go.Stop Go.Extern

theorem run_equalIn_iface_int {P:Program} (w:World) (d:Nat) {ti tn:TypeId} {ms:Array (String × TypeId)} {i:TypeInfo} {k:IntKind} (a b:Int)
    (hi:P.underlying ti=some (.interface ms)) (hn:P.underlying tn=some (.int k)) (hinfo:P.info? tn=some i) (hcomp:i.comparable=true) :
    (Op.equalIn (d+2) ti (.iface tn (.int k a)) (.iface tn (.int k b))).run P w=.ok (a==b) w:=by
  simp [Op.equalIn,run_underlying hi,run_underlying hn,typeInfo,hinfo,hcomp]
theorem run_eql_iface_int {P:Program} (w:World) {ti tn:TypeId} {ms:Array (String × TypeId)} {i:TypeInfo} {k:IntKind} (a b:Int)
    (hi:P.underlying ti=some (.interface ms)) (hn:P.underlying tn=some (.int k)) (hinfo:P.info? tn=some i) (hcomp:i.comparable=true) :
    (binOp .eql ti (.iface tn (.int k a)) (.iface tn (.int k b))).run P w=.ok (.bool (a==b)) w:=by
  simp only [binOp]
  simp [Op.equal,Op.maxDepth,run_equalIn_iface_int w 9998 a b hi hn hinfo hcomp]

theorem isTypeOf (v:Value) (w:World):(Extern.ReflectliteType.typeOf #[.iface 65 v]).run Tryz.prog w=.ok (.iface 194 (.agg #[.pointer (some ⟨1,65,none⟩)])) w:=by kernel_rfl
def cmpEntry : Array Value → Sem Value := Extern.ReflectliteType.method fun t => do Extern.Rtype.noPackHeld "Comparable" t; pure (.bool (← typeInfo t).comparable)
theorem isComparable (w:World):(cmpEntry #[.agg #[.pointer (some ⟨1,65,none⟩)]]).run Tryz.prog w=.ok (.bool true) w:=by kernel_rfl
theorem isMethodComparable (v : Value) (w : World) : (Go.method 338 194 v "Comparable").run Tryz.prog w = .ok (119, v) w := by kernel_rfl
theorem isComp:(Tryz.prog.info? 65).map (·.comparable)=some true:=by kernel_rfl
theorem noIsE (v:Value) (xT:TypeId) (w:World):(Instr.typeAssert (.iface 65 v) xT 196 true).run Tryz.prog w=.ok (.tuple #[.nilIface,.bool false]) w:=run_typeAssert_lacksB Tryz.underlying196 (by kernel_rfl) (by kernel_rfl) v xT w
theorem noUnwrapE (v:Value) (xT:TypeId) (w:World):(Instr.typeAssert (.iface 65 v) xT 198 true).run Tryz.prog w=.ok (.tuple #[.nilIface,.bool false]) w:=run_typeAssert_lacksB Tryz.underlying198 (by kernel_rfl) (by kernel_rfl) v xT w
theorem noUnwrapsE (v:Value) (xT:TypeId) (w:World):(Instr.typeAssert (.iface 65 v) xT 200 true).run Tryz.prog w=.ok (.tuple #[.nilIface,.bool false]) w:=run_typeAssert_lacksB Tryz.underlying200 (by kernel_rfl) (by kernel_rfl) v xT w

theorem isF (k c:Int) (w:World):Calls Tryz.prog 16 #[errV k,.int .i64 c] w fun e w'=>e=.returned (.bool (k==c))∧w=w':=by
  obtain ⟨i,hi,hcmp⟩:=Option.map_eq_some_iff.1 isComp
  have h8:=@run_callFunc_extern Tryz.prog 79 _ Extern.ReflectliteType.typeOf Tryz.func79 (by kernel_rfl) (by kernel_rfl) (by kernel_rfl) (by kernel_rfl)
  have h32:=@run_callFunc_extern Tryz.prog 119 _ cmpEntry Tryz.func119 (by kernel_rfl) (by kernel_rfl) (by kernel_rfl) (by kernel_rfl)
  have tT:=isTypeOf
  have cT:=isComparable
  have mR:=isMethodComparable
  have nE:=noIsE
  have uE:=noUnwrapE
  have vE:=noUnwrapsE
  have heq:=fun w=>run_eql_iface_int (P:=Tryz.prog) w k c Tryz.underlying30 Tryz.underlying65 hi hcmp
  have Hi:=hid_ (And.intro hi hcmp)
  clear hi hcmp
  by_cases hk:k=c
  · subst hk
    have hb:(k==k)=true:=by simp
    rw [hb]
    simp only [hb] at heq
    clear hb
    go_enter Tryz.func16,Tryz.ntmps16
    go_wp2
    refine wp_loop_rounds 1 ?_
    rw [rounds_succ]
    go_wp2
    go_ret
    exact ⟨rfl,rfl⟩
  · have hb:(k==c)=false:=by simpa using hk
    rw [hb]
    simp only [hb] at heq
    clear hb hk
    go_enter Tryz.func16,Tryz.ntmps16
    go_wp2
    refine wp_loop_rounds 1 ?_
    rw [rounds_succ]
    go_wp2
    go_ret
    exact ⟨rfl,rfl⟩
open Go.RowKit

theorem AllocPost.first {w w':World} {a G:Nat} {last:Int} {ss:List Sl} {R:Rc} {e:Ending} (h:AllocPost w a G last ss R e w') {i:Nat} {s:Sl} (hs:ss[i]?=some s) (hu:s.used=false) (hg:s.gen≠last) (hno:∀ j t,j < i→ss[j]?=some t→t.used=true∨t.gen=last) :
    ∃ vr ve,e=.returned (.tuple #[.agg #[.int .i64 ((i:Int)+1),.int .i64 (s.gen+1)],.nilIface])∧Ar w' a G last (ss.set i ⟨s.gen+1,true,R,vr,ve⟩)∧RecOwn w' w.heap.size R vr ve∧Fr (only G) w w':=by
  rcases h with ⟨k,t,vr,ve,ht,⟨h1,h2⟩,h3,he,hA,hO,hF⟩ | ⟨h1,_⟩
  · obtain rfl:k=i:=by
      rcases Nat.lt_trichotomy k i with hl | hl | hl
      · rcases hno k t hl ht with h | h
        · rw [h1] at h;cases h
        · exact absurd h h2
      · exact hl
      · rcases h3 i s hl hs with h | h
        · rw [hu] at h;cases h
        · exact absurd h hg
    obtain rfl:=Option.some.inj (hs.symm.trans ht)
    exact ⟨vr,ve,he,hA,hO,hF⟩
  · rcases h1 i s hs with h | h
    · rw [hu] at h;cases h
    · exact absurd h hg
theorem AllocPost.none {w w':World} {a G:Nat} {last:Int} {ss:List Sl} {R:Rc} {e:Ending} (h:AllocPost w a G last ss R e w') (hno:∀ (j:Nat) t,ss[j]?=some t→t.used=true∨t.gen=last) :
    e=.returned (.tuple #[.agg #[.int .i64 0,.int .i64 0],errV (allocErr ss)])∧Fr none_ w w':=by
  rcases h with ⟨k,t,vr,ve,ht,⟨h1,h2⟩,_⟩ | ⟨_,h2⟩
  · rcases hno k t ht with h | h
    · rw [h1] at h;cases h
    · exact absurd h h2
  · exact h2
open Go.RowKit
open Go.Maps (Keyed int_keyed keyOf_int_mk)

abbrev Ins:=DataW Unit
structure Clk (w:World) (C M:Nat) (now last threads:Int) (n:Nat) (D:Ins):Prop where
  hC:Blk w C 144 #[.int .i64 now,.int .i64 last,.int .i64 threads,.map (some M)]
  hM:w.ownsMap Tryz.prog 3 (plainElem (H:=Unit) Tryz.prog 3) M n D

theorem map_fr {w w':World} {S:Nat→Prop} {M n:Nat} {D:Ins} (h:w.ownsMap Tryz.prog 3 (plainElem (H:=Unit) Tryz.prog 3) M n D) (hf:Fr S w w') (hS:¬ S M):w'.ownsMap Tryz.prog 3 (plainElem (H:=Unit) Tryz.prog 3) M n D:=by
  have hl:=h.lt
  obtain ⟨es,clock,hb,r⟩:=h
  exact ⟨es,clock,(hf.block M hl hS).trans hb,r⟩
theorem Clk.fr {w w':World} {S:Nat→Prop} {C M n:Nat} {now last threads:Int} {D:Ins} (h:Clk w C M now last threads n D) (hf:Fr S w w') (hC:¬ S C) (hM:¬ S M):Clk w' C M now last threads n D:=
  ⟨h.hC.fr hf hC,map_fr h.hM hf hM⟩
theorem Clk.ne {w:World} {C M n:Nat} {now last threads:Int} {D:Ins} (h:Clk w C M now last threads n D):C≠M:=by
  rintro rfl
  obtain ⟨es,clock,hb,r⟩:=h.hM
  have:=h.hC
  unfold Blk at this
  rw [this] at hb
  cases hb

def NewClk (threads last:Int) (w:World) (e:Ending) (w':World):Prop:=
  ∃ C M,e=.returned (.pointer (some ⟨C,0,none⟩))∧Clk w' C M 1 last threads 0 (.map [])∧Fr none_ w w'∧w.heap.size≤C∧w.heap.size≤M

set_option maxHeartbeats 1000000 in
theorem clkNew_ok (threads last:Int) (w:World) (h1:1≤threads) (h2:threads≤64) (h3:1≤last) (h4:last≤1099511627776):Calls Tryz.prog 27 #[.int .i64 threads,.int .i64 last] w (NewClk threads last w):=by
  have hmm:=@run_makeMap Tryz.prog
  have d1:decide (threads < 1)=false:=by simp;omega
  have d2:decide (64 < threads)=false:=by simp;omega
  have d3:decide (last < 1)=false:=by simp;omega
  go_enter Tryz.func27,Tryz.ntmps27
  go_wp2_with fail
  go_ret
  refine ⟨w.heap.size+1,w.heap.size,rfl,⟨?_,(World.ownsMap_made w _ _ _).alloc _⟩,((Fr.refl none_ w).alloc _).alloc _,by omega,Nat.le_refl _⟩
  have:=Blk.new (w.alloc (.map #[] 0)) 144 #[.int .i64 1,.int .i64 last,.int .i64 threads,.map (some w.heap.size)]
  simpa using this

open Go.RowKit

section
variable {P:Program} {md:Region.Mode} {ops:Array Oper} {Q:Exit→Act→World→Prop} {S:World→Prop}
theorem wpAnyU_oneW {m i:Nat} {oi:Oper} {fuel:Nat} {listed:Array Bool} {a:Act} {w:World} (hi:ops[i]?=some oi) (hw:Region.wanted oi (yielded ops a.tmps)=true) (hr:Region.ready md ops listed=[i])
    (h:Oper.wp P oi a w (fun a' w'=>(m≤i∨S w')∧wpAnyU P md ops Q S m fuel (listed.setIfInBounds i true) a' w') Q):wpAnyU P md ops Q S m (fuel+1) listed a w:=by
  refine wpAnyU_all hr (by simp) (fun j hj=>?_)
  obtain rfl:j=i:=by simpa using hj
  unfold wpOp
  simp only [hi,hw,if_true]
  exact .inl h
end
structure Lm where
  s:Nat
  p:Nat
  t:Int
  r:Int
  c:Int
  n:Int
abbrev lmA (l:Lm):Array Value:=#[.int .i64 (l.s:Int),.int .i64 (l.p:Int),.int .i64 l.t,.int .i64 l.r,.int .i64 l.c,.int .i64 l.n]
structure Lm.Right (l:Lm):Prop where
  s:4≤(l.s:Int)∧(l.s:Int)≤4096
  p:3≤(l.p:Int)∧(l.p:Int)≤256
  t:1≤l.t∧l.t≤64
  r:2≤l.r∧l.r≤64
  c:2≤l.c∧l.c≤64
  n:8≤l.n∧l.n≤1099511627776
structure St where
  a:Nat
  G:Nat
  ss:List Sl
  T:Nat
  H:Nat
  ps:List Pg
  C:Nat
  M:Nat
  now:Int
  n:Nat
  D:Ins
abbrev mmA (k:Int) (l:Lm) (x:St):Array Value:=#[.int .i64 k,.int .i64 (l.s:Int),.int .i64 (l.p:Int),.int .i64 l.t,.int .i64 l.r,.int .i64 l.c,.int .i64 l.n,.pointer (some ⟨x.a,0,none⟩),.pointer (some ⟨x.T,0,none⟩),.pointer (some ⟨x.C,0,none⟩)]
structure Mm (w:World) (m:Nat) (k:Int) (l:Lm) (x:St):Prop where
  b:Blk w m 94 (mmA k l x)
  ar:Ar w x.a x.G l.n x.ss
  tb:Tbl w x.T x.H x.ps
  ck:Clk w x.C x.M x.now l.n l.t x.n x.D
theorem Tbl.keep {w w':World} {T G:Nat} {ps:List Pg} (h:Tbl w T G ps) (hf:Fr none_ w w'):Tbl w' T G ps:=h.fr hf id id
theorem Clk.keep {w w':World} {C M n:Nat} {now last threads:Int} {D:Ins} (h:Clk w C M now last threads n D) (hf:Fr none_ w w'):Clk w' C M now last threads n D:=h.fr hf id id
theorem Mm.keep {w w':World} {m:Nat} {k:Int} {l:Lm} {x:St} (h:Mm w m k l x) (hf:Fr none_ w w'):Mm w' m k l x:=⟨h.b.fr hf id,h.ar.keep hf,h.tb.keep hf,h.ck.keep hf⟩
section
variable {w w':World} {m:Nat} {k:Int} {l:Lm} {x:St}
theorem Ar.gne {a G:Nat} {last:Int} {ss:List Sl} (h:Ar w a G last ss) {g:Nat} {t:TypeId} {cs:Array Value} (hb:Blk w g t cs) (ht:147≠t):g≠G:=by
  obtain ⟨cs',hG,_⟩:=h.hG
  exact (Blk.ne_ hG hb ht).symm
theorem Clk.mne {C M n:Nat} {now last threads:Int} {D:Ins} (h:Clk w C M now last threads n D) {g:Nat} {t:TypeId} {cs:Array Value} (hb:Blk w g t cs):M≠g:=by
  rintro rfl
  obtain ⟨es,clock,hm,r⟩:=h.hM
  unfold Blk at hb
  rw [hb] at hm
  cases hm
theorem Mm.arPut (h:Mm w m k l x) {ss':List Sl} (hA:Ar w' x.a x.G l.n ss') (hf:Fr (only x.G) w w'):Mm w' m k l { x with ss:=ss' }:=by
  obtain ⟨cs,hG,_⟩:=h.ar.hG
  obtain ⟨cap,cur,hT,hH,_⟩:=id h.tb
  exact ⟨h.b.fr hf (only_ne (h.ar.gne h.b (by decide))),hA,h.tb.fr hf (only_ne (h.ar.gne hT (by decide))) (only_ne (h.ar.gne hH (by decide))),h.ck.fr hf (only_ne (h.ar.gne h.ck.hC (by decide))) (only_ne (h.ck.mne hG))⟩
theorem Mm.tbPut (h:Mm w m k l x) {ps':List Pg} (hT:Tbl w' x.T x.H ps') (hf:Fr (only x.H) w w'):Mm w' m k l { x with ps:=ps' }:=by
  obtain ⟨cs,hG,_⟩:=h.ar.hG
  obtain ⟨cap,cur,hT0,hH,_⟩:=id h.tb
  exact ⟨h.b.fr hf (only_ne (Blk.ne_ h.b hH (by decide))),h.ar.beside hf hH (by decide) (by decide) (Blk.ne_ h.ar.hA hH (by decide)) (Blk.ne_ hG hH (by decide)),hT,h.ck.fr hf (only_ne (Blk.ne_ h.ck.hC hH (by decide))) (only_ne (h.ck.mne hH))⟩
theorem Mm.count (h:Mm w m k l x) (k':Int):Mm (w.setCell ⟨m,0,none⟩ (.int .i64 k')) m k' l x:=by
  obtain ⟨cs,hG,_⟩:=h.ar.hG
  obtain ⟨cap,cur,hT0,hH,_⟩:=id h.tb
  have hf:=Fr.only1 w ⟨m,0,none⟩ (.int .i64 k')
  exact ⟨h.b.set_ 0 _,h.ar.beside hf h.b (by decide) (by decide) (Blk.ne_ h.ar.hA h.b (by decide)) (Blk.ne_ hG h.b (by decide)),h.tb.fr hf (only_ne (Blk.ne_ hT0 h.b (by decide))) (only_ne (Blk.ne_ hH h.b (by decide))),h.ck.fr hf (only_ne (Blk.ne_ h.ck.hC h.b (by decide))) (only_ne (h.ck.mne h.b))⟩
end
theorem rep_set {α:Type} {n:Nat} (h:0 < n) (z y:α):(List.replicate n z).set 0 y=y :: List.replicate (n - 1) z:=by
  cases n with
  | zero=>omega
  | succ n=>simp [List.replicate_succ]
theorem rep_get {α:Type} {n:Nat} (h:0 < n) (z:α):(List.replicate n z)[0]?=some z:=by
  cases n with
  | zero=>omega
  | succ n=>simp [List.replicate_succ]
abbrev leafR:Rc:=⟨1,nilS,nilS,true,0,[],[],nilS,nilS,0,0,0,nilS,0,0⟩
theorem reads_leaf (w:World):RecReads w leafR none none:=⟨⟨rfl,fun h=>absurd h (Nat.lt_irrefl 0)⟩,⟨rfl,fun h=>absurd h (Nat.lt_irrefl 0)⟩⟩
def NewMem (l:Lm) (w:World) (e:Ending) (w':World):Prop:=
  ∃ (m a G:Nat) (vr ve:Value) (T H C M:Nat),e=.returned (.tuple #[.pointer (some ⟨m,0,none⟩),.nilIface])∧Mm w' m 0 l ⟨a,G,⟨1,true,leafR,vr,ve⟩ :: List.replicate (l.s - 1) Sl.zero,T,H,(true,1,1) :: List.replicate (l.p - 1) (false,0,0),C,M,1,0,.map []⟩∧Fr none_ w w'∧w.heap.size≤m∧w.heap.size≤C∧w.heap.size≤M∧w.heap.size≤G∧w.heap.size≤H
theorem within_yes (n a b:Int) (w:World) (h1:a≤n) (h2:n≤b):Calls Tryz.prog 62 #[.int .i64 n,.int .i64 a,.int .i64 b] w fun e w'=>e=.returned (.bool true)∧w=w':=by
  have d1:decide (a≤n)=true:=by simpa using h1
  have d2:decide (n≤b)=true:=by simpa using h2
  clear h1 h2
  go_enter Tryz.func62,Tryz.ntmps62
  go_wp2
  go_ret
  exact ⟨rfl,rfl⟩
set_option maxHeartbeats 4000000 in
theorem right_yes (l:Lm) (w:World) (hl:l.Right):Calls Tryz.prog 24 #[.agg (lmA l)] w fun e w'=>e=.returned (.bool true)∧Fr none_ w w':=by
  have HL:=hid_ hl
  clear hl
  go_enter Tryz.func24,Tryz.ntmps24
  go_wp2_with fail
  refine (within_yes _ _ _ _ HL.out.s.1 HL.out.s.2).mono ?_
  rintro e w1 ⟨rfl,rfl⟩
  go_wp2_with fail
  refine (within_yes _ _ _ _ HL.out.p.1 HL.out.p.2).mono ?_
  rintro e w1 ⟨rfl,rfl⟩
  go_wp2_with fail
  refine (within_yes _ _ _ _ HL.out.t.1 HL.out.t.2).mono ?_
  rintro e w1 ⟨rfl,rfl⟩
  go_wp2_with fail
  refine (within_yes _ _ _ _ HL.out.r.1 HL.out.r.2).mono ?_
  rintro e w1 ⟨rfl,rfl⟩
  go_wp2_with fail
  refine (within_yes _ _ _ _ HL.out.c.1 HL.out.c.2).mono ?_
  rintro e w1 ⟨rfl,rfl⟩
  go_wp2_with fail
  refine (within_yes _ _ _ _ HL.out.n.1 HL.out.n.2).mono ?_
  rintro e w1 ⟨rfl,rfl⟩
  go_wp2_with fail
  go_ret
  exact ⟨rfl,(Fr.refl none_ w).alloc _⟩
set_option maxHeartbeats 8000000 in
theorem memNew_ok (l:Lm) (w:World) (hl:l.Right):Calls Tryz.prog 6 #[.agg (lmA l)] w (NewMem l w):=by
 have HL:=hid_ hl
 clear hl
 have F:=hid_ (Fr.refl none_ w)
 go_enter Tryz.func6,Tryz.ntmps6
 go_upto_region 1 with fail
 obtain ⟨w0,hw0⟩:∃ z,z=w.alloc (.cells (lmA l) 23):=⟨_,rfl⟩
 have fw0:Fr none_ w w0:=by rw [hw0];exact (Fr.refl none_ w).alloc _
 have BL:Hid (Blk w0 w.heap.size 23 (lmA l)):=hid_ (by rw [hw0];exact Blk.new w _ _)
 replace F:=hid_ (F.out.then_none fw0)
 change Code.wp _ _ _ _ (w.alloc (.cells (lmA l) 23))
 rw [← hw0]
 clear hw0 fw0
 have v0:w0.cell? ⟨w.heap.size,0,none⟩=some (.int .i64 (l.s:Int)):=BL.out.cell' rfl
 have v1:w0.cell? ⟨w.heap.size,1,none⟩=some (.int .i64 (l.p:Int)):=BL.out.cell' rfl
 have v2:w0.cell? ⟨w.heap.size,2,none⟩=some (.int .i64 l.t):=BL.out.cell' rfl
 have v3:w0.cell? ⟨w.heap.size,3,none⟩=some (.int .i64 l.r):=BL.out.cell' rfl
 have v4:w0.cell? ⟨w.heap.size,4,none⟩=some (.int .i64 l.c):=BL.out.cell' rfl
 have v5:w0.cell? ⟨w.heap.size,5,none⟩=some (.int .i64 l.n):=BL.out.cell' rfl
 go_wp2_with fail
 refine (right_yes l _ HL.out).mono ?_
 rintro e w1 ⟨rfl,hf1⟩
 replace F:=hid_ (F.out.then_none hf1)
 replace BL:=hid_ (BL.out.fr hf1 id)
 clear hf1
 clear v0 v1 v2 v3 v4 v5
 have v0:w1.cell? ⟨w.heap.size,0,none⟩=some (.int .i64 (l.s:Int)):=BL.out.cell' rfl
 have v1:w1.cell? ⟨w.heap.size,1,none⟩=some (.int .i64 (l.p:Int)):=BL.out.cell' rfl
 have v2:w1.cell? ⟨w.heap.size,2,none⟩=some (.int .i64 l.t):=BL.out.cell' rfl
 have v3:w1.cell? ⟨w.heap.size,3,none⟩=some (.int .i64 l.r):=BL.out.cell' rfl
 have v4:w1.cell? ⟨w.heap.size,4,none⟩=some (.int .i64 l.c):=BL.out.cell' rfl
 have v5:w1.cell? ⟨w.heap.size,5,none⟩=some (.int .i64 l.n):=BL.out.cell' rfl
 go_upto_region 3 with fail
 have hS0:(fun w':World=>Fr none_ w1 w') w1.drew:=(Fr.refl none_ w1).drew
 refine wp_region_U (m:=14) (S:=fun w':World=>Fr none_ w1 w') (by kernel_rfl) ?_
 refine wpAnyU_take2 (i:=0) (v:=_) rfl (by kernel_rfl) (by kernel_rfl) (by kernel_rfl) (by kernel_rfl) (fun _ _ _ h=>h) (.inl ⟨by kernel_rfl,fun w' hS=>by have s_0:=cellFr v0 hS;have s_1:=cellFr v1 hS;have s_2:=cellFr v2 hS;have s_3:=cellFr v3 hS;have s_4:=cellFr v4 hS;have s_5:=cellFr v5 hS;go_simp;rfl⟩) hS0 ?_
 refine wpAnyU_take2 (i:=1) (v:=_) rfl (by kernel_rfl) (by kernel_rfl) (by kernel_rfl) (by kernel_rfl) (fun _ _ _ h=>h) (.inl ⟨by kernel_rfl,fun w' hS=>by go_simp;rfl⟩) hS0 ?_
 refine wpAnyU_take2 (i:=2) (v:=_) rfl (by kernel_rfl) (by kernel_rfl) (by kernel_rfl) (by kernel_rfl) (fun _ _ _ h=>h) (.inl ⟨by kernel_rfl,fun w' hS=>by have s_0:=cellFr v0 hS;have s_1:=cellFr v1 hS;have s_2:=cellFr v2 hS;have s_3:=cellFr v3 hS;have s_4:=cellFr v4 hS;have s_5:=cellFr v5 hS;go_simp;rfl⟩) hS0 ?_
 refine wpAnyU_take2 (i:=3) (v:=_) rfl (by kernel_rfl) (by kernel_rfl) (by kernel_rfl) (by kernel_rfl) (fun _ _ _ h=>h) (.inl ⟨by kernel_rfl,fun w' hS=>by go_simp;rfl⟩) hS0 ?_
 refine wpAnyU_take2 (i:=4) (v:=_) rfl (by kernel_rfl) (by kernel_rfl) (by kernel_rfl) (by kernel_rfl) (fun _ _ _ h=>h) (.inl ⟨by kernel_rfl,fun w' hS=>by have s_0:=cellFr v0 hS;have s_1:=cellFr v1 hS;have s_2:=cellFr v2 hS;have s_3:=cellFr v3 hS;have s_4:=cellFr v4 hS;have s_5:=cellFr v5 hS;go_simp;rfl⟩) hS0 ?_
 refine wpAnyU_take2 (i:=6) (v:=_) rfl (by kernel_rfl) (by kernel_rfl) (by kernel_rfl) (by kernel_rfl) (fun _ _ _ h=>h) (.inl ⟨by kernel_rfl,fun w' hS=>by go_simp;rfl⟩) hS0 ?_
 refine wpAnyU_take2 (i:=7) (v:=_) rfl (by kernel_rfl) (by kernel_rfl) (by kernel_rfl) (by kernel_rfl) (fun _ _ _ h=>h) (.inl ⟨by kernel_rfl,fun w' hS=>by have s_0:=cellFr v0 hS;have s_1:=cellFr v1 hS;have s_2:=cellFr v2 hS;have s_3:=cellFr v3 hS;have s_4:=cellFr v4 hS;have s_5:=cellFr v5 hS;go_simp;rfl⟩) hS0 ?_
 refine wpAnyU_take2 (i:=9) (v:=_) rfl (by kernel_rfl) (by kernel_rfl) (by kernel_rfl) (by kernel_rfl) (fun _ _ _ h=>h) (.inl ⟨by kernel_rfl,fun w' hS=>by go_simp;rfl⟩) hS0 ?_
 refine wpAnyU_take2 (i:=10) (v:=_) rfl (by kernel_rfl) (by kernel_rfl) (by kernel_rfl) (by kernel_rfl) (fun _ _ _ h=>h) (.inl ⟨by kernel_rfl,fun w' hS=>by have s_0:=cellFr v0 hS;have s_1:=cellFr v1 hS;have s_2:=cellFr v2 hS;have s_3:=cellFr v3 hS;have s_4:=cellFr v4 hS;have s_5:=cellFr v5 hS;go_simp;rfl⟩) hS0 ?_
 refine wpAnyU_take2 (i:=11) (v:=_) rfl (by kernel_rfl) (by kernel_rfl) (by kernel_rfl) (by kernel_rfl) (fun _ _ _ h=>h) (.inl ⟨by kernel_rfl,fun w' hS=>by go_simp;rfl⟩) hS0 ?_
 refine wpAnyU_take2 (i:=12) (v:=_) rfl (by kernel_rfl) (by kernel_rfl) (by kernel_rfl) (by kernel_rfl) (fun _ _ _ h=>h) (.inl ⟨by kernel_rfl,fun w' hS=>by have s_0:=cellFr v0 hS;have s_1:=cellFr v1 hS;have s_2:=cellFr v2 hS;have s_3:=cellFr v3 hS;have s_4:=cellFr v4 hS;have s_5:=cellFr v5 hS;go_simp;rfl⟩) hS0 ?_
 refine wpAnyU_oneW (i:=5) rfl (by kernel_rfl) (by kernel_rfl) ?_
 go_simp
 refine (arNew_ok l.s l.n _ (by have:=HL.out.s;omega) (by have:=HL.out.s;omega) (by have:=HL.out.n;omega) HL.out.n.2).mono ?_
 rintro e w2 ⟨a,G,rfl,hA,hf2,ha,hG⟩
 have HGw:=hid_ (show w.heap.size≤G by have:=F.out.size;simp at hG;omega)
 have HHw:=hid_ (show w.heap.size≤w2.heap.size by have:=F.out.size;have:=hf2.size;simp at this;omega)
 have fS:=(Fr.refl none_ w1).drew.then_none hf2
 refine ⟨fS,?_⟩
 have A1:=hid_ hA
 clear hA hf2 hS0
 clear v0 v1 v2 v3 v4 v5
 refine wpAnyU_oneW (i:=8) rfl (by kernel_rfl) (by kernel_rfl) ?_
 go_simp
 refine (mapNew_ok l.p _ (by have:=HL.out.p;omega) (by have:=HL.out.p;omega)).mono ?_
 rintro e w3 ⟨rfl,hT,hf3,-⟩
 have fS:=fS.then_none hf3
 refine ⟨fS,?_⟩
 replace A1:=hid_ (A1.out.keep hf3)
 have T1:=hid_ hT
 clear hT hf3
 refine wpAnyU_oneW (i:=13) rfl (by kernel_rfl) (by kernel_rfl) ?_
 go_simp
 refine (clkNew_ok l.t l.n _ HL.out.t.1 HL.out.t.2 (by have:=HL.out.n;omega) HL.out.n.2).mono ?_
 rintro e w4 ⟨C,M,rfl,hC,hf4,hc1,hc2⟩
 have HCw:=hid_ (show w.heap.size≤C∧w.heap.size≤M by have:=F.out.size;have:=fS.size;omega)
 have fS:=fS.then_none hf4
 refine ⟨fS,?_⟩
 replace A1:=hid_ (A1.out.keep hf4)
 replace T1:=hid_ (T1.out.keep hf4)
 have C1:=hid_ hC
 clear hC hf4
 refine wpAnyU_oneW (i:=14) rfl (by kernel_rfl) (by kernel_rfl) ?_
 go_simp
 refine wpAnyU_oneW (i:=15) rfl (by kernel_rfl) (by kernel_rfl) ?_
 go_simp
 refine wpAnyU_oneW (i:=16) rfl (by kernel_rfl) (by kernel_rfl) ?_
 go_simp
 refine wpAnyU_done (by kernel_rfl) ?_ _
 replace F:=hid_ (F.out.then_none fS)
 clear fS
 go_upto_region 4 with fail
 have HMw:=hid_ F.out.size
 obtain ⟨w5,hw5⟩:∃ z,z=w4.alloc (.cells #[.int .i64 0,.int .i64 (l.s:Int),.int .i64 (l.p:Int),.int .i64 l.t,.int .i64 l.r,.int .i64 l.c,.int .i64 l.n,.pointer (some ⟨a,0,none⟩),.pointer (some ⟨w2.heap.size+1,0,none⟩),.pointer (some ⟨C,0,none⟩)] 94):=⟨_,rfl⟩
 have fw5:Fr none_ w4 w5:=by rw [hw5];exact (Fr.refl none_ w4).alloc _
 have BM:Hid (Blk w5 w4.heap.size 94 (#[.int .i64 0,.int .i64 (l.s:Int),.int .i64 (l.p:Int),.int .i64 l.t,.int .i64 l.r,.int .i64 l.c,.int .i64 l.n,.pointer (some ⟨a,0,none⟩),.pointer (some ⟨w2.heap.size+1,0,none⟩),.pointer (some ⟨C,0,none⟩)])):=hid_ (by rw [hw5];exact Blk.new w4 _ _)
 replace F:=hid_ (F.out.then_none fw5)
 replace A1:=hid_ (A1.out.keep fw5)
 replace T1:=hid_ (T1.out.keep fw5)
 replace C1:=hid_ (C1.out.keep fw5)
 change Code.wp _ _ _ _ (w4.alloc (.cells #[.int .i64 0,.int .i64 (l.s:Int),.int .i64 (l.p:Int),.int .i64 l.t,.int .i64 l.r,.int .i64 l.c,.int .i64 l.n,.pointer (some ⟨a,0,none⟩),.pointer (some ⟨w2.heap.size+1,0,none⟩),.pointer (some ⟨C,0,none⟩)] 94))
 rw [← hw5]
 clear hw5 fw5
 have M5:Hid (Mm w5 w4.heap.size 0 l ⟨a,G,List.replicate l.s Sl.zero,w2.heap.size+1,w2.heap.size,List.replicate l.p (false,0,0),C,M,1,0,.map []⟩):=hid_ ⟨BM.out,A1.out,T1.out,C1.out⟩
 have hw1:=F.out.size
 have m7:w5.cell? ⟨w4.heap.size,7,none⟩=some (.pointer (some ⟨a,0,none⟩)):=BM.out.cell' rfl
 go_wp2_with fail
 refine (alloc_ok leafR none 0 none 0 _ a G l.n _ M5.out.ar (reads_leaf _) ⟨by decide,by decide⟩).mono ?_
 rintro e w6 h6
 obtain ⟨vr,ve,rfl,hA6,-,hf6⟩:=h6.first (i:=0) (s:=Sl.zero) (rep_get (by have:=HL.out.s;omega) _) rfl (by show (0:Int)≠l.n;have:=HL.out.n;omega) (fun j t hj=>by omega)
 rw [rep_set (by have:=HL.out.s;omega)] at hA6
 have M6:Hid (Mm w6 w4.heap.size 0 l ⟨a,G,⟨1,true,leafR,vr,ve⟩ :: List.replicate (l.s - 1) Sl.zero,w2.heap.size+1,w2.heap.size,List.replicate l.p (false,0,0),C,M,1,0,.map []⟩):=hid_ (M5.out.arPut hA6 hf6)
 have F6:=hid_ (F.out.then_only hf6 (.inr HGw.out))
 clear h6 hA6 hf6 m7 M5 BM A1 T1 C1 F
 go_upto_region 5 with fail
 obtain ⟨w7,hw7⟩:∃ z,z=w6.alloc (.cells #[.int .i64 1,.int .i64 1] 48):=⟨_,rfl⟩
 have fw7:Fr none_ w6 w7:=by rw [hw7];exact (Fr.refl none_ w6).alloc _
 have BX:Hid (Blk w7 w6.heap.size 48 (#[.int .i64 1,.int .i64 1])):=hid_ (by rw [hw7];exact Blk.new w6 _ _)
 replace F6:=hid_ (F6.out.then_none fw7)
 replace M6:=hid_ (M6.out.keep fw7)
 change Code.wp _ _ _ _ (w6.alloc (.cells #[.int .i64 1,.int .i64 1] 48))
 rw [← hw7]
 clear hw7 fw7
 have m8:w7.cell? ⟨w4.heap.size,8,none⟩=some (.pointer (some ⟨w2.heap.size+1,0,none⟩)):=M6.out.b.cell' rfl
 go_wp2_with fail
 refine (mtake_ok _ _ _ 0 0 0 _ M6.out.tb (rep_get (by have:=HL.out.p;omega) _) (fun j p hj=>by omega)).mono ?_
 rintro e w8 ⟨rfl,h8⟩
 have hT8:Tbl w8 (w2.heap.size+1) w2.heap.size ((List.replicate l.p (false,0,0)).set 0 (true,0,0)):=by rw [h8];exact M6.out.tb.set_ (by simp;have:=HL.out.p;omega) _
 have hf8:Fr (only w2.heap.size) w7 w8:=by rw [h8];exact setPg_only _ _ _ _
 rw [rep_set (by have:=HL.out.p;omega)] at hT8
 replace BX:=hid_ (BX.out.fr hf8 (only_ne (by obtain ⟨cap,cur,hT0,hH,_⟩:=id M6.out.tb;exact Blk.ne_ BX.out hH (by decide))))
 replace M6:=hid_ (M6.out.tbPut hT8 hf8)
 replace F6:=hid_ (F6.out.then_only hf8 (.inr HHw.out))
 clear h8 hT8 hf8 m8
 have m8:w8.cell? ⟨w4.heap.size,8,none⟩=some (.pointer (some ⟨w2.heap.size+1,0,none⟩)):=M6.out.b.cell' rfl
 have x0:w8.cell? ⟨w6.heap.size,0,none⟩=some (.int .i64 1):=BX.out.cell' rfl
 have x1:w8.cell? ⟨w6.heap.size,1,none⟩=some (.int .i64 1):=BX.out.cell' rfl
 go_upto_region 10 with fail
 have nH:¬ only w2.heap.size w4.heap.size∧¬ only w2.heap.size w6.heap.size:=by
  obtain ⟨cap,cur,hT0,hH,_⟩:=id M6.out.tb
  exact ⟨only_ne (Blk.ne_ M6.out.b hH (by decide)),only_ne (Blk.ne_ BX.out hH (by decide))⟩
 have hS1:(fun w':World=>Fr (only w2.heap.size) w8 w') w8.drew:=(Fr.refl _ w8).drew
 refine wp_region_U (m:=13) (S:=fun w':World=>Fr (only w2.heap.size) w8 w') (by kernel_rfl) ?_
 refine wpAnyU_take2 (i:=0) (v:=_) rfl (by kernel_rfl) (by kernel_rfl) (by kernel_rfl) (by kernel_rfl) (fun _ _ _ h=>h) (.inl ⟨by kernel_rfl,fun w' hS=>by go_simp;rfl⟩) hS1 ?_
 refine wpAnyU_take2 (i:=1) (v:=_) rfl (by kernel_rfl) (by kernel_rfl) (by kernel_rfl) (by kernel_rfl) (fun _ _ _ h=>h) (.inl ⟨by kernel_rfl,fun w' hS=>by go_simp;rfl⟩) hS1 ?_
 refine wpAnyU_take2 (i:=2) (v:=_) rfl (by kernel_rfl) (by kernel_rfl) (by kernel_rfl) (by kernel_rfl) (fun _ _ _ h=>h) (.inl ⟨by kernel_rfl,fun w' hS=>by go_simp;rfl⟩) hS1 ?_
 refine wpAnyU_take2 (i:=3) (v:=_) rfl (by kernel_rfl) (by kernel_rfl) (by kernel_rfl) (by kernel_rfl) (fun _ _ _ h=>h) (.inl ⟨by kernel_rfl,fun w' hS=>by have s_8:=cellFrS m8 hS nH.1;go_simp;rfl⟩) hS1 ?_
 refine wpAnyU_take2 (i:=4) (v:=_) rfl (by kernel_rfl) (by kernel_rfl) (by kernel_rfl) (by kernel_rfl) (fun _ _ _ h=>h) (.inl ⟨by kernel_rfl,fun w' hS=>by go_simp;rfl⟩) hS1 ?_
 refine wpAnyU_take2 (i:=5) (v:=_) rfl (by kernel_rfl) (by kernel_rfl) (by kernel_rfl) (by kernel_rfl) (fun _ _ _ h=>h) (.inl ⟨by kernel_rfl,fun w' hS=>by go_simp;rfl⟩) hS1 ?_
 refine wpAnyU_take2 (i:=6) (v:=_) rfl (by kernel_rfl) (by kernel_rfl) (by kernel_rfl) (by kernel_rfl) (fun _ _ _ h=>h) (.inl ⟨by kernel_rfl,fun w' hS=>by have s_0:=cellFrS x0 hS nH.2;have s_1:=cellFrS x1 hS nH.2;go_simp;rfl⟩) hS1 ?_
 clear m8 x0 x1
 refine wpAnyU_oneW (i:=7) rfl (by kernel_rfl) (by kernel_rfl) ?_
 go_simp
 refine (swap_ok _ _ _ 0 0 0 0 0 1 1 _ (M6.out.tb.keep (Fr.refl none_ _).drew) rfl).mono ?_
 rintro e w9 ⟨rfl,hT9,hf9⟩
 have hT9':Tbl w9 (w2.heap.size+1) w2.heap.size ((true,1,1) :: List.replicate (l.p - 1) (false,0,0)):=by simpa using hT9
 have M9:=hid_ ((M6.out.keep (Fr.refl none_ w8).drew).tbPut hT9' hf9)
 have fS9:(fun w':World=>Fr (only w2.heap.size) w8 w') w9:=(Fr.refl (only w2.heap.size) w8).drew.then_only hf9 (.inl (Eq.refl _))
 have F9:=hid_ (F6.out.drew.then_only hf9 (.inr HHw.out))
 clear hT9 hT9' hf9 hS1
 simp only [beq_self_eq_true,Bool.and_self]
 refine ⟨fS9,?_⟩
 refine wpAnyU_take2 (i:=8) (v:=_) rfl (by kernel_rfl) (by kernel_rfl) (by kernel_rfl) (by kernel_rfl) (fun _ _ _ h=>h) (.inl ⟨by kernel_rfl,fun w' hS=>by go_simp;rfl⟩) fS9 ?_
 refine wpAnyU_take2 (i:=9) (v:=_) rfl (by kernel_rfl) (by kernel_rfl) (by kernel_rfl) (by kernel_rfl) (fun _ _ _ h=>h) (.inl ⟨by kernel_rfl,fun w' hS=>by go_simp;rfl⟩) fS9 ?_
 refine wpAnyU_take2 (i:=10) (v:=_) rfl (by kernel_rfl) (by kernel_rfl) (by kernel_rfl) (by kernel_rfl) (fun _ _ _ h=>h) (.inl ⟨by kernel_rfl,fun w' hS=>by go_simp;rfl⟩) fS9 ?_
 refine wpAnyU_take2 (i:=11) (v:=_) rfl (by kernel_rfl) (by kernel_rfl) (by kernel_rfl) (by kernel_rfl) (fun _ _ _ h=>h) (.inl ⟨by kernel_rfl,fun w' hS=>by go_simp;rfl⟩) fS9 ?_
 refine wpAnyU_take2 (i:=12) (v:=_) rfl (by kernel_rfl) (by kernel_rfl) (by kernel_rfl) (by kernel_rfl) (fun _ _ _ h=>h) (.inl ⟨by kernel_rfl,fun w' hS=>by go_simp;rfl⟩) fS9 ?_
 refine wpAnyU_done (by kernel_rfl) ?_ _
 go_wp2_with fail
 go_ret2
 exact ⟨_,_,_,_,_,_,_,_,_,rfl,M9.out,F9.out,HMw.out,HCw.out.1,HCw.out.2,HGw.out,HHw.out⟩
end Go.Proofs.YthcpccddcgbanaaGreatDoor
