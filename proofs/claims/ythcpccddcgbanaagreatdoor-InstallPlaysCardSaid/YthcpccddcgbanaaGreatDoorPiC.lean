/- Texts of one proof, merged: RdAt, HeldT, Mid, Ar, Map, Ra10, HeldU. -/
import Derived.OrdersHeld
import Derived.Deep.MidRow
import Derived.WalkSpells
import Derived.WalkLawsBesides
import Derived.Deep.QuietTactic
import Derived.BigQuiet
import Derived.Deep.RegionHeld3
import Derived.Laws.MakeOwn
import Derived.Test.YthcpccddcgbanaaGreatDoorProg
import Derived.Deep.Cut
import Derived.Test.YthcpccddcgbanaaGreatDoorPiA
import Derived.Test.YthcpccddcgbanaaGreatDoorPiB
namespace Go.Proofs.YthcpccddcgbanaaGreatDoor
set_option maxRecDepth 100000
set_option linter.unusedVariables false
open Go.RowKit

theorem reads_lit {w:World} {size n:Nat} {A:Option Addr} {xs:List Value} (h:Reads w size A n xs) (hs:0 < size) (hn:0 < n):∃ b off,A=some ⟨b,off,none⟩∧b < w.heap.size∧∀ j u,xs[j]?=some u→w.cell? ⟨b,off+j,none⟩=some u:=by
  obtain ⟨ad,e,hc⟩:=h.2 hn
  have hl:0 < xs.length:=by rw [h.1];exact Nat.mul_pos hn hs
  have h0:=hc 0 xs[0] (List.getElem?_eq_getElem hl)
  have e0:ad.add 0=ad:=by simp [Addr.add]
  rw [e0] at h0
  have hspot:ad.spot=none:=by
    unfold World.cell? at h0
    split at h0
    · split at h0
      · cases h0
      · rename_i hs;simpa using hs
    · cases h0
  obtain ⟨b,off,sp⟩:=ad
  simp only at hspot
  subst hspot
  exact ⟨b,off,e,World.block_lt_of_cell? w _ h0,fun j u hu=>by rw [← add_lit];exact hc j u hu⟩
theorem rw_at {w:World} {A:Option Addr} {L:List Rw} (h:Reads w 2 A L.length (rwFlat L)) {k:Nat} {p:Rw} (hp:L[k]?=some p):∃ b off,A=some ⟨b,off,none⟩∧b < w.heap.size∧w.cell? ⟨b,off+k * 2,none⟩=some (.string p.1)∧w.cell? ⟨b,off+k * 2+1,none⟩=some (.string p.2):=by
  obtain ⟨b,off,e,hb,hc⟩:=reads_lit h (by omega) (by have:=(List.getElem?_eq_some_iff.1 hp).1;omega)
  obtain ⟨d0,d1⟩:=rwFlat_get L k p hp
  exact ⟨b,off,e,hb,hc _ _ d0,hc _ _ d1⟩
theorem et_at {w:World} {A:Option Addr} {L:List Et} (h:Reads w 2 A L.length (etFlat L)) {k:Nat} {p:Et} (hp:L[k]?=some p):∃ b off,A=some ⟨b,off,none⟩∧b < w.heap.size∧w.cell? ⟨b,off+k * 2,none⟩=some (.string p.1)∧w.cell? ⟨b,off+k * 2+1,none⟩=some (.int .i64 p.2):=by
  obtain ⟨b,off,e,hb,hc⟩:=reads_lit h (by omega) (by have:=(List.getElem?_eq_some_iff.1 hp).1;omega)
  obtain ⟨d0,d1⟩:=etFlat_get L k p hp
  exact ⟨b,off,e,hb,hc _ _ d0,hc _ _ d1⟩

open Go

section
variable {P:Program} {md:Region.Mode} {ops:Array Oper} {Q:Exit→Act→World→Prop} {S:World→Prop}
def wpAnyT (P:Program) (md:Region.Mode) (ops:Array Oper) (Q:Exit→Act→World→Prop) (S:World→Prop) (m:Nat):Nat→Array Bool→Act→World→Prop
  | 0,listed,a,w=>Region.ready md ops listed=[]∧Q .normal a w
  | fuel+1,listed,a,w =>
    (Region.ready md ops listed=[]→Q .normal a w) ∧
    ∀ i ∈ Region.ready md ops listed,wpOp P ops Q i (fun a' w'=>(i=m∨S w')∧wpAnyT P md ops Q S m fuel (listed.setIfInBounds i true) a' w') a w
theorem wpAny_of_T {m:Nat}:∀ (fuel:Nat) (listed:Array Bool) (a:Act) (w:World),wpAnyT P md ops Q S m fuel listed a w→wpAny P md ops Q fuel listed a w
  | 0,_,_,_,h=>h
  | fuel+1,_,_,_,h=>⟨h.1,fun i hi=>wpOp_mono (fun a' w' h'=>wpAny_of_T fuel _ a' w' h'.2) (h.2 i hi)⟩
theorem wpAnyT_first {m i:Nat} {oi:Oper} {v:Value} (hi:ops[i]?=some oi) (hsel:∀ (j:Nat) (o:Oper) cs b,ops[j]?=some o→o.op≠.select cs b)
    (hQ:∀ c a w,Q (.panic c) (a.put oi.dst v) w→Q (.panic c) a w) (hm:∃ om,ops[m]?=some om∧∃ e ∈ om.after,Region.binds md e=true∧e.on=i) :
    ∀ (fuel:Nat) (listed:Array Bool) (a:Act) (w:World),
      (∀ j oj,ops[j]?=some oj→j≠i→listed.getD j true=false→(∀ e ∈ oj.after,Region.binds md e=true→e.on≠i)→oi.apart ops oj=true) →
      i ∈ Region.ready md ops listed→YieldsIf P ops S oi v a→S w →
      wpAnyT P md ops Q S m fuel (listed.setIfInBounds i true) (a.put oi.dst v) w→wpAnyT P md ops Q S m (fuel+1) listed a w:=by
  intro fuel
  induction fuel with
  | zero =>
    intro listed a w _ hr hy hS H
    refine ⟨fun h=>(by rw [h] at hr;cases hr),fun j hj=>?_⟩
    by_cases hji:j=i
    · subst hji;exact hy.wpOp hi hS ⟨.inr hS,H⟩
    · have:=ready_mono hj hji
      rw [H.1] at this
      cases this
  | succ fuel ih =>
    intro listed a w hfree hr hy hS H
    refine ⟨fun h=>(by rw [h] at hr;cases hr),fun j hj=>?_⟩
    by_cases hji:j=i
    · subst hji;exact hy.wpOp hi hS ⟨.inr hS,H⟩
    · have h1:=H.2 j (ready_mono hj hji)
      obtain ⟨hjun,oj,hoj,hall⟩:=mem_ready.1 hj
      have hnot:∀ e ∈ oj.after,Region.binds md e=true→e.on≠i:=fun e he hb heq=>by
        have h1:=hall e he hb
        have h0:=(mem_ready.1 hr).1
        rw [heq] at h1
        rcases Nat.lt_or_ge i listed.size with h' | h'
        · simp [h'] at h0 h1;rw [h0] at h1;cases h1
        · simp [Array.getElem?_eq_none h'] at h1
      have hjm:j≠m:=by
        rintro rfl
        obtain ⟨om,hom,e,he,hb,heq⟩:=hm
        obtain rfl:=Option.some.inj (hoj.symm.trans hom)
        exact hnot e he hb heq
      have h2:=wpOp_putIf hoj (hfree j oj hoj hji hjun hnot) (fun cs b=>hsel i oi cs b hi) (fun cs b=>hsel j oj cs b hoj) hQ hy h1
      have hfree':∀ k ok,ops[k]?=some ok→k≠i→(listed.setIfInBounds j true).getD k true=false →
          (∀ e ∈ ok.after,Region.binds md e=true→e.on≠i)→oi.apart ops ok=true:=fun k ok hk hki hun hno=>by
        refine hfree k ok hk hki ?_ hno
        by_cases hjk:j=k
        · subst hjk;exact hjun
        · rw [getD_set_ne true hjk] at hun;exact hun
      refine wpOp_mono (fun a' w' h3=>?_) h2
      have hs:S w':=h3.2.1.resolve_left hjm
      refine ⟨.inr hs,ih (listed.setIfInBounds j true) a' w' hfree' (ready_mono hr (Ne.symm hji)) h3.1 hs ?_⟩
      rw [Array.setIfInBounds_comm _ _ hji]
      exact h3.2.2
theorem wpAnyT_take {m i:Nat} {oi:Oper} {v:Value} {fuel:Nat} {listed:Array Bool} {a:Act} {w:World} (hi:ops[i]?=some oi)
    (hs:Region.noSelect ops=true) (hf:Region.free md ops listed i=true) (hr:(Region.ready md ops listed).contains i=true)
    (hm:(ops[m]?.any fun om=>om.after.any fun e=>Region.binds md e && e.on==i)=true)
    (hQ:∀ c a w,Q (.panic c) (a.put oi.dst v) w→Q (.panic c) a w) (hy:YieldsIf P ops S oi v a) (hS:S w)
    (h:wpAnyT P md ops Q S m fuel (listed.setIfInBounds i true) (a.put oi.dst v) w):wpAnyT P md ops Q S m (fuel+1) listed a w:=
  wpAnyT_first hi (Region.noSelect_spec hs) hQ (by
    cases ho:ops[m]? with
    | none=>rw [ho] at hm;cases hm
    | some om =>
      rw [ho] at hm
      have hm':(om.after.any fun e=>Region.binds md e && e.on==i)=true:=hm
      obtain ⟨e,he,hb⟩:=Array.any_eq_true'.1 hm'
      simp at hb
      exact ⟨om,rfl,e,he,hb.1,hb.2⟩) fuel listed a w (Region.free_spec hi hf) (by simpa using hr) hy hS h
def closedB (md:Region.Mode) (ops:Array Oper) (listed:Array Bool):Bool:=
  (List.range ops.size).all fun k=>!listed.getD k false || (match ops[k]? with | some o=>o.after.all fun e=>!Region.binds md e || listed.getD e.on false | none=>true)
def waitsB (md:Region.Mode) (ops:Array Oper):Nat→Nat→Nat→Bool
  | 0,_,_=>false
  | f+1,m,i=>match ops[m]? with | some o=>o.after.any fun e=>Region.binds md e && (e.on==i || waitsB md ops f e.on i) | none=>false
def Closed (md:Region.Mode) (ops:Array Oper) (listed:Array Bool):Prop:=∀ k o,ops[k]?=some o→listed.getD k false=true→∀ e ∈ o.after,Region.binds md e=true→listed.getD e.on false=true
theorem closed_of {listed:Array Bool} (h:closedB md ops listed=true):Closed md ops listed:=by
  intro k o ho hl e he hb
  have hk:k < ops.size:=(Array.getElem?_eq_some_iff.1 ho).1
  have:=List.all_eq_true.1 h k (List.mem_range.2 hk)
  rw [ho,hl] at this
  simp only [Bool.not_true,Bool.false_or] at this
  have:=Array.all_eq_true'.1 this e he
  simpa [hb] using this
theorem getD_set_true {listed:Array Bool} {j k:Nat} (h:listed.getD k false=true):(listed.setIfInBounds j true).getD k false=true:=by
  by_cases e:j=k
  · subst e
    rcases Nat.lt_or_ge j listed.size with h' | h'
    · simp [h']
    · simp [Array.getElem?_eq_none h'] at h
  · simp [e] at h ⊢
    exact h
theorem Closed.set {listed:Array Bool} (h:Closed md ops listed) {j:Nat} (hj:j ∈ Region.ready md ops listed):Closed md ops (listed.setIfInBounds j true):=by
  obtain ⟨hjun,oj,hoj,hall⟩:=mem_ready.1 hj
  intro k o ho hl e he hb
  by_cases hkj:j=k
  · subst hkj
    obtain rfl:=Option.some.inj (hoj.symm.trans ho)
    exact getD_set_true (hall e he hb)
  · refine getD_set_true (h k o ho ?_ e he hb)
    simpa [hkj] using hl
theorem Closed.waits {listed:Array Bool} (h:Closed md ops listed):∀ {f k i:Nat},listed.getD k false=true→waitsB md ops f k i=true→listed.getD i false=true
  | 0,_,_,_,hw=>by simp [waitsB] at hw
  | f+1,k,i,hl,hw=>by
    rw [waitsB] at hw
    split at hw
    · rename_i o ho
      obtain ⟨e,he,hb⟩:=Array.any_eq_true'.1 hw
      simp only [Bool.and_eq_true,Bool.or_eq_true,beq_iff_eq] at hb
      have h1:=h k o ho hl e he hb.1
      rcases hb.2 with rfl | h2
      · exact h1
      · exact h.waits h1 h2
    · cases hw
theorem ready_waits {listed:Array Bool} (h:Closed md ops listed) {f m i:Nat} (hm:m ∈ Region.ready md ops listed) (hw:waitsB md ops f m i=true) (hi:i ∈ Region.ready md ops listed):False:=by
  obtain ⟨hmun,om,hom,hall⟩:=mem_ready.1 hm
  have hi0:=(mem_ready.1 hi).1
  have h1:listed.getD i false=true:=by
    cases f with
    | zero=>simp [waitsB] at hw
    | succ f =>
      rw [waitsB,hom] at hw
      obtain ⟨e,he,hb⟩:=Array.any_eq_true'.1 hw
      simp only [Bool.and_eq_true,Bool.or_eq_true,beq_iff_eq] at hb
      have h2:=hall e he hb.1
      rcases hb.2 with rfl | h3
      · exact h2
      · exact h.waits h2 h3
  rcases Nat.lt_or_ge i listed.size with h' | h'
  · simp [h'] at hi0 h1
    rw [hi0] at h1
    cases h1
  · simp [Array.getElem?_eq_none h'] at hi0
theorem wpAnyT_all {m:Nat} {rs:List Nat} {fuel:Nat} {listed:Array Bool} {a:Act} {w:World} (hr:Region.ready md ops listed=rs) (hne:rs≠[])
    (h:∀ i ∈ rs,wpOp P ops Q i (fun a' w'=>(i=m∨S w')∧wpAnyT P md ops Q S m fuel (listed.setIfInBounds i true) a' w') a w):wpAnyT P md ops Q S m (fuel+1) listed a w:=
  ⟨fun h0=>absurd (hr ▸ h0) hne,hr ▸ h⟩
theorem wpAnyT_one {m i:Nat} {oi:Oper} {fuel:Nat} {listed:Array Bool} {a:Act} {w:World} (hi:ops[i]?=some oi) (hg:oi.guard=none) (hr:Region.ready md ops listed=[i])
    (h:Oper.wp P oi a w (fun a' w'=>(i=m∨S w')∧wpAnyT P md ops Q S m fuel (listed.setIfInBounds i true) a' w') Q):wpAnyT P md ops Q S m (fuel+1) listed a w:=by
  refine wpAnyT_all hr (by simp) (fun j hj=>?_)
  obtain rfl:j=i:=by simpa using hj
  unfold wpOp
  have hw:Region.wanted oi (yielded ops a.tmps)=true:=by simp [Region.wanted,hg]
  simp only [hi,hw,if_true]
  exact .inl h
theorem wpAnyT_done {m:Nat} {listed:Array Bool} {a:Act} {w:World} (hr:Region.ready md ops listed=[]) (h:Q .normal a w):∀ fuel,wpAnyT P md ops Q S m fuel listed a w
  | 0=>⟨hr,h⟩
  | _+1=>⟨fun _=>h,by rw [hr];simp⟩
theorem wp_region_T {id m:Nat} {a:Act} {w:World} (hm:P.follows .mixedOrders=true)
    (h:wpAnyT P .any ops Q S m ops.size (Array.replicate ops.size false) a w.drew):(Code.region id ops true).wp P Q a w:=
  wp_region_any hm (wpAny_of_T _ _ _ _ h)
end
open Go.RowKit

def setA (cs:Array Value) (o:Nat):List Value→Array Value
  | []=>cs
  | v :: r=>setA (cs.setIfInBounds o v) (o+1) r
theorem setA_size:∀ (vs:List Value) (cs:Array Value) (o:Nat),(setA cs o vs).size=cs.size
  | [],cs,o=>rfl
  | v :: r,cs,o=>by rw [setA,setA_size r];simp
theorem setA_out:∀ (vs:List Value) (cs:Array Value) (o k:Nat),(k < o∨o+vs.length≤k)→(setA cs o vs)[k]?=cs[k]?
  | [],cs,o,k,h=>rfl
  | v :: r,cs,o,k,h=>by
    rw [setA,setA_out r _ _ _ (by simp at h;omega),Array.getElem?_setIfInBounds_ne (by simp at h;omega)]
theorem setA_in:∀ (vs:List Value) (cs:Array Value) (o j:Nat) (v:Value),vs[j]?=some v→o+j < cs.size→(setA cs o vs)[o+j]?=some v
  | [],cs,o,j,v,h,_=>by simp at h
  | u :: r,cs,o,0,v,h,hl=>by
    obtain rfl:u=v:=by simpa using h
    rw [setA,setA_out r _ _ _ (by omega)]
    have hl':o < cs.size:=by omega
    show (cs.setIfInBounds o u)[o]?=some u
    simp [hl']
  | u :: r,cs,o,j+1,v,h,hl=>by
    have:=setA_in r (cs.setIfInBounds o u) (o+1) j v (by simpa using h) (by simp;omega)
    rw [setA,show o+(j+1)=o+1+j by omega]
    exact this
theorem Blk.setCells {g:Nat} {t:TypeId}:∀ (vs:List Value) (o:Nat) (cs:Array Value) (w:World),Blk w g t cs→Blk (w.setCells g o vs) g t (setA cs o vs)
  | [],o,cs,w,h=>h
  | v :: r,o,cs,w,h=>Blk.setCells r (o+1) _ _ (h.set_ o v)
theorem Fr.setCells {g:Nat} {S:Nat→Prop} {a:World}:∀ (vs:List Value) (o:Nat) (w:World),Fr S a w→(S g∨a.heap.size≤g)→Fr S a (w.setCells g o vs)
  | [],o,w,h,_=>h
  | v :: r,o,w,h,hs=>Fr.setCells r (o+1) _ (h.setCell (p:=⟨g,o,none⟩) hs v) hs
theorem new_there (w:World) (t:TypeId) (cs:Array Value):(w.alloc (.cells cs t)).there w.heap.size 0 cs.size:=by
  intro j hj
  have hb:=Blk.new w t cs
  refine ⟨?_,hb.frozen _⟩
  rw [hb.cell,Nat.zero_add,Array.getElem?_eq_getElem hj]
  rfl
theorem new_copy (w:World) (t:TypeId) (zs:Array Value) (vs:List Value) (hz:zs.size=vs.length):Blk ((w.alloc (.cells zs t)).setCells w.heap.size 0 vs) w.heap.size t vs.toArray∧Fr none_ w ((w.alloc (.cells zs t)).setCells w.heap.size 0 vs):=by
  refine ⟨?_,Fr.setCells _ _ _ ((Fr.refl none_ w).alloc _) (.inr (Nat.le_refl _))⟩
  have h:=Blk.setCells vs 0 _ _ (Blk.new w t zs)
  have e:setA zs 0 vs=vs.toArray:=by
    apply Array.ext_getElem?
    intro k
    rcases Nat.lt_or_ge k vs.length with h1 | h1
    · have:=setA_in vs zs 0 k vs[k] (List.getElem?_eq_getElem h1) (by omega)
      rw [Nat.zero_add] at this
      rw [this,List.getElem?_toArray,List.getElem?_eq_getElem h1]
    · rw [Array.getElem?_eq_none (by rw [setA_size];omega),Array.getElem?_eq_none (by simpa using h1)]
  rwa [e] at h
open Go.RowKit

structure Sl where
  gen:Int
  used:Bool
  R:Rc
  vr:Value
  ve:Value
abbrev slL (s:Sl):List Value:=[.int .i64 s.gen,.bool s.used,.int .i64 s.R.kind,.string s.R.low,.string s.R.high,.bool s.R.unb,.int .i64 s.R.right,s.vr,s.ve,.string s.R.key,.string s.R.val,.int .i64 s.R.page,.int .i64 s.R.hpage,.int .i64 s.R.hleft,.string s.R.hkey,.int .i64 s.R.nslot,.int .i64 s.R.ngen]
def Sl.zero:Sl:=⟨0,false,Rc.zero,.slice none 0 0,.slice none 0 0⟩
def SlCells (cs:Array Value) (ss:List Sl):Prop:=cs.size=ss.length * 17∧∀ i s,ss[i]?=some s→∀ j v,(slL s)[j]?=some v→cs[i * 17+j]?=some v

theorem SlCells.set_ {cs:Array Value} {ss:List Sl} (h:SlCells cs ss) {i:Nat} (s:Sl) (hi:i < ss.length):SlCells (setA cs (i * 17) (slL s)) (ss.set i s):=by
  refine ⟨by rw [setA_size,h.1];simp,fun k t hk j v hj=>?_⟩
  have hjl:j < 17:=by have:=(List.getElem?_eq_some_iff.1 hj).1;simpa using this
  rw [List.getElem?_set] at hk
  split at hk
  · subst_vars
    obtain rfl:s=t:=by simpa using hk
    exact setA_in _ _ _ j v hj (by rw [h.1];omega)
  · rename_i hne
    rw [setA_out _ _ _ _ (by simp;omega)]
    exact h.2 k t hk j v hj

structure Ar (w:World) (a G:Nat) (last:Int) (ss:List Sl):Prop where
  hA:Blk w a 138 #[.slice (some ⟨G,0,none⟩) ss.length ss.length,.int .i64 last]
  hG:∃ cs,Blk w G 147 cs∧SlCells cs ss
  own:∀ (i:Nat) (s:Sl),ss[i]?=some s→RecOwn w 0 s.R s.vr s.ve
  l40:last≤1099511627776
  len:ss.length≤4096
  gen:∀ s ∈ ss,0≤s.gen∧s.gen≤last
  sz:∀ s ∈ ss,s.R.rows.length≤1000∧s.R.ents.length≤1000
section
variable {w w':World} {a G:Nat} {last:Int} {ss:List Sl}
theorem Ar.keep (h:Ar w a G last ss) (hf:Fr none_ w w'):Ar w' a G last ss:=by
  obtain ⟨cs,hG,hc⟩:=h.hG
  exact ⟨h.hA.fr hf id,⟨cs,hG.fr hf id,hc⟩,fun i s hs=>(h.own i s hs).keep hf,h.l40,h.len,h.gen,h.sz⟩
theorem Ar.ltA (h:Ar w a G last ss):a < w.heap.size:=h.hA.lt
theorem Ar.ltG (h:Ar w a G last ss):G < w.heap.size:=by obtain ⟨cs,hG,hc⟩:=h.hG;exact hG.lt
theorem Ar.ne (h:Ar w a G last ss):a≠G:=by obtain ⟨cs,hG,hc⟩:=h.hG;exact Blk.ne_ h.hA hG (by decide)
theorem Ar.cell (h:Ar w a G last ss) {i:Nat} {s:Sl} (hs:ss[i]?=some s) (j:Nat) {v:Value} (hv:(slL s)[j]?=some v):w.cell? ⟨G,i * 17+j,none⟩=some v:=by
  obtain ⟨cs,hG,hc⟩:=h.hG
  exact hG.cell' (hc.2 i s hs j v hv)
theorem Ar.frozen (h:Ar w a G last ss) (o:Nat):w.frozen? ⟨G,o,none⟩=false:=by
  obtain ⟨cs,hG,hc⟩:=h.hG
  exact hG.frozen o
theorem Ar.beside (h:Ar w a G last ss) {g:Nat} {t:TypeId} {cs:Array Value} (hf:Fr (only g) w w') (hg:Blk w g t cs) (h1:170≠t) (h2:172≠t) (h3:a≠g) (h4:G≠g):Ar w' a G last ss:=by
  obtain ⟨cs,hG,hc⟩:=h.hG
  exact ⟨h.hA.fr hf (only_ne h3),⟨cs,hG.fr hf (only_ne h4),hc⟩,fun i s hs=>(h.own i s hs).only hf hg h1 h2,h.l40,h.len,h.gen,h.sz⟩
theorem Ar.put (h:Ar w a G last ss) {i:Nat} {s:Sl} (hi:i < ss.length) (hf:Fr (only G) w w') (hb:∀ cs,Blk w G 147 cs→Blk w' G 147 (setA cs (i * 17) (slL s))) (ho:RecOwn w' 0 s.R s.vr s.ve) (hg:0≤s.gen∧s.gen≤last) (hz:s.R.rows.length≤1000∧s.R.ents.length≤1000):Ar w' a G last (ss.set i s):=by
  have hne:=h.ne
  obtain ⟨cs,hG,hc⟩:=h.hG
  refine ⟨by rw [List.length_set];exact h.hA.fr hf (only_ne hne),⟨_,hb cs hG,hc.set_ s hi⟩,fun k t hk=>?_,h.l40,by rw [List.length_set];exact h.len,fun t ht=>?_,fun t ht=>?_⟩
  · rw [List.getElem?_set] at hk
    split at hk
    · obtain rfl:s=t:=by simpa using hk
      exact ho
    · exact (h.own k t hk).only hf hG (by decide) (by decide)
  · rcases List.mem_or_eq_of_mem_set ht with ht | rfl
    · exact h.gen t ht
    · exact hg
  · rcases List.mem_or_eq_of_mem_set ht with ht | rfl
    · exact h.sz t ht
    · exact hz
end

theorem slot_info:(Tryz.prog.info? 147).map (fun i=>(i.zero,i.size,i.bytes))=some (some (.agg (slL Sl.zero).toArray),17,208):=by kernel_rfl
theorem made_slots (n:Nat):SlCells (madeCells (slL Sl.zero).toArray (n * 17)) (List.replicate n Sl.zero):=by
  refine ⟨by rw [size_madeCells,List.length_replicate],fun i s hs j v hv=>?_⟩
  have hjl:j < 17:=by have:=(List.getElem?_eq_some_iff.1 hv).1;simpa using this
  rw [List.getElem?_replicate] at hs
  split at hs
  · rename_i hin
    obtain rfl:Sl.zero=s:=by simpa using hs
    have hm:(i * 17+j) % 17=j:=by omega
    have hz:(slL Sl.zero).toArray.size=17:=rfl
    have hlt:i * 17+j < n * 17:=by omega
    unfold madeCells
    rw [Array.getElem?_map,Array.getElem?_range,if_pos hlt]
    simp only [Option.map_some,hz,hm]
    rw [List.getElem?_eq_some_iff] at hv
    obtain ⟨h1,h2⟩:=hv
    rw [← h2]
    congr 1
    exact getElem!_pos _ _ _
  · cases hs
def NewAr (n:Nat) (last:Int) (w:World) (e:Ending) (w':World):Prop:=
  ∃ a G,e=.returned (.pointer (some ⟨a,0,none⟩))∧Ar w' a G last (List.replicate n Sl.zero)∧Fr none_ w w'∧w.heap.size≤a∧w.heap.size≤G
theorem arNew_ok (n:Nat) (last:Int) (w:World) (h1:1≤n) (h2:n≤4096) (h3:1≤last) (h4:last≤1099511627776):Calls Tryz.prog 25 #[.int .i64 n,.int .i64 last] w (NewAr n last w):=by
  obtain ⟨i0,hi0,hz0,hs0,hb0⟩:=info_parts slot_info
  have hmk:=fun W:World=>run_make (P:=Tryz.prog) W 136 147 i0 _ Tryz.underlying136 hi0 hz0 .i64 .i64 (n:Int) (n:Int) (by omega) (by omega) (by rw [hb0];omega) (by omega)
  rw [hs0] at hmk
  simp only [Int.toNat_natCast] at hmk
  clear hi0 hz0 hs0 hb0
  go_enter Tryz.func25,Tryz.ntmps25
  go_wp2_with fail
  go_ret
  have hf:Fr none_ w ((w.alloc (.cells (madeCells (slL Sl.zero).toArray (n * 17)) 147)).alloc (.cells #[.slice (some ⟨w.heap.size,0,none⟩) n n,.int .i64 last] 138)):=((Fr.refl none_ w).alloc _).alloc _
  have hm:∀ s ∈ List.replicate n Sl.zero,s=Sl.zero:=fun s hs=>List.eq_of_mem_replicate hs
  refine ⟨w.heap.size+1,w.heap.size,rfl,⟨?_,⟨madeCells (slL Sl.zero).toArray (n * 17),?_,made_slots n⟩,fun i s hs=>?_,h4,?_,fun s hs=>?_,fun s hs=>?_⟩,hf,by omega,by omega⟩
  · have h0:=Blk.new (w.alloc (.cells (madeCells (slL Sl.zero).toArray (n * 17)) 147)) 138 #[.slice (some ⟨w.heap.size,0,none⟩) n n,.int .i64 last]
    rw [World.size_alloc] at h0
    rw [List.length_replicate]
    exact h0
  · exact (Blk.new w 147 _).alloc _
  · rw [hm s (List.mem_of_getElem? hs)]
    exact RecOwn.zero _ 0
  · rw [List.length_replicate];omega
  · rw [hm s hs];exact ⟨by decide,by show (0:Int)≤last;omega⟩
  · rw [hm s hs];exact ⟨by decide,by decide⟩
open Go.RowKit

abbrev Pg:=Bool × Int × Int

theorem eql_ref (s g a b:Int) (w:World):(binOp .eql 48 (.agg #[.int .i64 s,.int .i64 g]) (.agg #[.int .i64 a,.int .i64 b])).run Tryz.prog w=.ok (.bool (s==a && g==b)) w:=by
  have h:(Op.equal 48 (.agg #[.int .i64 s,.int .i64 g]) (.agg #[.int .i64 a,.int .i64 b])).run Tryz.prog w=.ok (s==a && g==b) w:=by
    simp only [Op.equal,Op.maxDepth]
    by_cases h1:s=a <;> by_cases h2:g=b <;> go_simp <;> simp [h1,h2]
  simp [binOp,h]
theorem neq_ref (s g a b:Int) (w:World):(binOp .neq 48 (.agg #[.int .i64 s,.int .i64 g]) (.agg #[.int .i64 a,.int .i64 b])).run Tryz.prog w=.ok (.bool (!(s==a && g==b))) w:=by
  have h:(Op.equal 48 (.agg #[.int .i64 s,.int .i64 g]) (.agg #[.int .i64 a,.int .i64 b])).run Tryz.prog w=.ok (s==a && g==b) w:=by
    simp only [Op.equal,Op.maxDepth]
    by_cases h1:s=a <;> by_cases h2:g=b <;> go_simp <;> simp [h1,h2]
  simp [binOp,h]

structure TblAt (w:World) (T G cap:Nat) (cur:Array Value) (ps:List Pg):Prop where
  hT:Blk w T 141 #[.slice (some ⟨G,0,none⟩) ps.length cap]
  hG:Blk w G 149 cur
  hn:ps.length≤256
  hc:ps.length≤cap
  hm:cap≤maxLen
  hs:ps.length * 3≤cur.size
  hp:∀ i p,ps[i]?=some p→cur[i * 3]?=some (.bool p.1)∧cur[i * 3+1]?=some (.int .i64 p.2.1)∧cur[i * 3+1+1]?=some (.int .i64 p.2.2)
def Tbl (w:World) (T G:Nat) (ps:List Pg):Prop:=∃ cap cur,TblAt w T G cap cur ps

theorem mapAt_arg (T G:Nat) (ps:List Pg) (n:Int) (w:World) (h:Tbl w T G ps) (hn:n < 0∨(ps.length:Int)≤n) :
    Calls Tryz.prog 63 #[.pointer (some ⟨T,0,none⟩),.int .i64 n] w fun e w'=>e=.returned (.tuple #[.pointer none,errV 1])∧w=w':=by
  obtain ⟨cap,cur,hT,hG,h1,h2,h3,h4,h5⟩:=h
  have c0:=hT.cell' (i:=0) rfl
  clear hT hG h5
  by_cases hn0:n < 0
  · clear hn
    go_enter Tryz.func63,Tryz.ntmps63
    go_wp2
    go_ret2
    exact ⟨rfl,rfl⟩
  · have hle:(ps.length:Int)≤n:=by omega
    clear hn
    go_enter Tryz.func63,Tryz.ntmps63
    go_wp2
    go_ret2
    exact ⟨rfl,rfl⟩

theorem mapAt_ok (T G:Nat) (ps:List Pg) (i:Nat) (s g:Int) (w:World) (h:Tbl w T G ps) (hi:ps[i]?=some (true,s,g)) :
    Calls Tryz.prog 63 #[.pointer (some ⟨T,0,none⟩),.int .i64 i] w fun e w'=>e=.returned (.tuple #[.pointer (some ⟨G,i * 3,none⟩),.nilIface])∧w=w':=by
  obtain ⟨cap,cur,hT,hG,h1,h2,h3,h4,h5⟩:=h
  obtain ⟨d0,d1,d2⟩:=h5 i _ hi
  have c0:=hT.cell' (i:=0) rfl
  have c1:=hG.cell' d0
  have c2:=hG.cell' d1
  have c3:=hG.cell' d2
  have hlt:i < ps.length:=(List.getElem?_eq_some_iff.1 hi).1
  clear hT hG h5 d0 d1 d2 hi
  go_enter Tryz.func63,Tryz.ntmps63
  go_wp2
  go_ret2
  exact ⟨rfl,rfl⟩

theorem mapAt_none (T G:Nat) (ps:List Pg) (i:Nat) (s g:Int) (w:World) (h:Tbl w T G ps) (hi:ps[i]?=some (false,s,g)) :
    Calls Tryz.prog 63 #[.pointer (some ⟨T,0,none⟩),.int .i64 i] w fun e w'=>e=.returned (.tuple #[.pointer none,errV 6])∧w=w':=by
  obtain ⟨cap,cur,hT,hG,h1,h2,h3,h4,h5⟩:=h
  obtain ⟨d0,d1,d2⟩:=h5 i _ hi
  have c0:=hT.cell' (i:=0) rfl
  have c1:=hG.cell' d0
  have c2:=hG.cell' d1
  have c3:=hG.cell' d2
  have hlt:i < ps.length:=(List.getElem?_eq_some_iff.1 hi).1
  clear hT hG h5 d0 d1 d2 hi
  go_enter Tryz.func63,Tryz.ntmps63
  go_wp2
  all_goals
    go_ret2
    exact ⟨rfl,rfl⟩

def setPg (w:World) (G i:Nat) (p:Pg):World:=((w.setCell ⟨G,i * 3,none⟩ (.bool p.1)).setCell ⟨G,i * 3+1,none⟩ (.int .i64 p.2.1)).setCell ⟨G,i * 3+1+1,none⟩ (.int .i64 p.2.2)

theorem Tbl.ne_ {w:World} {T G:Nat} {ps:List Pg} (h:Tbl w T G ps):T≠G:=by
  obtain ⟨cap,cur,hT,hG,_⟩:=h
  exact Blk.ne_ hT hG (by decide)

theorem Tbl.lt {w:World} {T G:Nat} {ps:List Pg} (h:Tbl w T G ps):T < w.heap.size∧G < w.heap.size:=by
  obtain ⟨cap,cur,hT,hG,_⟩:=h
  exact ⟨hT.lt,hG.lt⟩

theorem Tbl.set_ {w:World} {T G:Nat} {ps:List Pg} (h:Tbl w T G ps) {i:Nat} (hi:i < ps.length) (p:Pg):Tbl (setPg w G i p) T G (ps.set i p):=by
  have hne:=h.ne_
  obtain ⟨cap,cur,hT,hG,h1,h2,h3,h4,h5⟩:=h
  refine ⟨cap,((cur.setIfInBounds (i * 3) (.bool p.1)).setIfInBounds (i * 3+1) (.int .i64 p.2.1)).setIfInBounds (i * 3+1+1) (.int .i64 p.2.2),?_,?_,by simpa using h1,by simpa using h2,h3,by simpa using h4,?_⟩
  · rw [List.length_set]
    exact ((hT.far hne _).far hne _).far hne _
  · exact ((hG.set_ _ _).set_ _ _).set_ _ _
  · intro j q hj
    by_cases hji:j=i
    · subst hji
      rw [List.getElem?_set_self hi] at hj
      obtain rfl:p=q:=by simpa using hj
      have e0:j * 3+1+1 < cur.size:=by omega
      refine ⟨?_,?_,?_⟩ <;> grind
    · rw [List.getElem?_set_ne (fun e=>hji e.symm)] at hj
      obtain ⟨d0,d1,d2⟩:=h5 j q hj
      refine ⟨?_,?_,?_⟩ <;> grind

theorem Tbl.set_head {w:World} {T G:Nat} {ps:List Pg} (h:Tbl w T G ps) {i:Nat} {b:Bool} {s g:Int} (hi:ps[i]?=some (b,s,g)) (c d:Int) :
    Tbl ((w.setCell ⟨G,i * 3+1,none⟩ (.int .i64 c)).setCell ⟨G,i * 3+1+1,none⟩ (.int .i64 d)) T G (ps.set i (b,c,d)):=by
  have hne:=h.ne_
  have hlt:i < ps.length:=(List.getElem?_eq_some_iff.1 hi).1
  obtain ⟨cap,cur,hT,hG,h1,h2,h3,h4,h5⟩:=h
  refine ⟨cap,(cur.setIfInBounds (i * 3+1) (.int .i64 c)).setIfInBounds (i * 3+1+1) (.int .i64 d),?_,?_,by simpa using h1,by simpa using h2,h3,by simpa using h4,?_⟩
  · rw [List.length_set]
    exact (hT.far hne _).far hne _
  · exact (hG.set_ _ _).set_ _ _
  · intro j q hj
    by_cases hji:j=i
    · subst hji
      rw [List.getElem?_set_self hlt] at hj
      obtain rfl:(b,c,d)=q:=by simpa using hj
      obtain ⟨d0,d1,d2⟩:=h5 j _ hi
      have e0:j * 3+1+1 < cur.size:=by omega
      refine ⟨?_,?_,?_⟩ <;> grind
    · rw [List.getElem?_set_ne (fun e=>hji e.symm)] at hj
      obtain ⟨d0,d1,d2⟩:=h5 j q hj
      refine ⟨?_,?_,?_⟩ <;> grind

theorem Tbl.fr {w w':World} {S:Nat→Prop} {T G:Nat} {ps:List Pg} (h:Tbl w T G ps) (hf:Fr S w w') (hT:¬ S T) (hG:¬ S G):Tbl w' T G ps:=by
  obtain ⟨cap,cur,a,b,h1,h2,h3,h4,h5⟩:=h
  exact ⟨cap,cur,a.fr hf hT,b.fr hf hG,h1,h2,h3,h4,h5⟩

theorem setPg_fr {S:Nat→Prop} {a w:World} (h:Fr S a w) {G:Nat} (hG:S G∨a.heap.size≤G) (i:Nat) (p:Pg):Fr S a (setPg w G i p):=((h.setCell hG _).setCell hG _).setCell hG _

theorem setPg_only (w:World) (G i:Nat) (p:Pg):Fr (only G) w (setPg w G i p):=setPg_fr (Fr.refl (only G) w) (.inl (Eq.refl G)) i p

theorem give_ok (T G:Nat) (ps:List Pg) (i:Nat) (s g:Int) (w:World) (h:Tbl w T G ps) (hi:ps[i]?=some (true,s,g)) :
    Calls Tryz.prog 68 #[.pointer (some ⟨T,0,none⟩),.int .i64 i] w fun e w'=>e=.returned .nilIface∧w'=setPg w G i (false,0,0):=by
  have h':=h
  obtain ⟨cap,cur,hT,hG,h1,h2,h3,h4,h5⟩:=h
  obtain ⟨d0,d1,d2⟩:=h5 i _ hi
  have c1:=hG.cell' d0
  have c2:=hG.cell' d1
  have c3:=hG.cell' d2
  have f:=hG.frozen
  have f0:=f (i * 3)
  have f1:=f (i * 3+1)
  have f2:=f (i * 3+1+1)
  have H:=hid_ h'
  have Hi:=hid_ hi
  clear hT hG h5 d0 d1 d2 h' hi f
  go_enter Tryz.func68,Tryz.ntmps68
  go_wp2_with (go_at_call 63;refine (mapAt_ok T G ps i s g _ H.out Hi.out).mono ?_;rintro e w' ⟨rfl,rfl⟩)
  go_ret
  exact ⟨rfl,rfl⟩

theorem give_err (o:Option Addr) (n:Int) (k:Int) (w:World)
    (hat:∀ w1:World,w1=w→Calls Tryz.prog 63 #[.pointer o,.int .i64 n] w1 fun e w'=>e=.returned (.tuple #[.pointer none,errV k])∧w1=w') :
    Calls Tryz.prog 68 #[.pointer o,.int .i64 n] w fun e w'=>e=.returned (errV k)∧w=w':=by
  have H:=hid_ hat
  clear hat
  go_enter Tryz.func68,Tryz.ntmps68
  go_wp2_with (go_at_call 63;refine (H.out _ rfl).mono ?_;rintro e w' ⟨rfl,rfl⟩)
  go_ret
  exact ⟨rfl,rfl⟩

theorem head_err (o:Option Addr) (n:Int) (k:Int) (w:World)
    (hat:∀ w1:World,Fr none_ w w1→Calls Tryz.prog 63 #[.pointer o,.int .i64 n] w1 fun e w'=>e=.returned (.tuple #[.pointer none,errV k])∧w1=w') :
    Calls Tryz.prog 59 #[.pointer o,.int .i64 n] w fun e w'=>e=.returned (.tuple #[.agg #[.int .i64 0,.int .i64 0],errV k])∧Fr none_ w w':=by
  have H:=hid_ hat
  clear hat
  go_enter Tryz.func59,Tryz.ntmps59
  go_wp2_with (go_at_call 63;refine (H.out _ ((Fr.refl _ _).alloc _)).mono ?_;rintro e w' ⟨rfl,rfl⟩)
  exact bodyPost_ret (v:=.tuple #[.agg #[.int .i64 0,.int .i64 0],errV k]) (by simp [results,Tryz.results59,go_sem]) rfl ⟨rfl,(Fr.refl _ _).alloc _⟩

theorem head_ok (T G:Nat) (ps:List Pg) (i:Nat) (s g:Int) (w:World) (h:Tbl w T G ps) (hi:ps[i]?=some (true,s,g)) :
    Calls Tryz.prog 59 #[.pointer (some ⟨T,0,none⟩),.int .i64 i] w fun e w'=>e=.returned (.tuple #[.agg #[.int .i64 s,.int .i64 g],.nilIface])∧Fr none_ w w':=by
  have h':=h
  obtain ⟨cap,cur,hT,hG,h1,h2,h3,h4,h5⟩:=h
  obtain ⟨d0,d1,d2⟩:=h5 i _ hi
  have c2:=hG.cell' d1
  have c3:=hG.cell' d2
  have hlt:=hG.lt
  have H:=hid_ h'
  have Hi:=hid_ hi
  clear hT hG h5 d0 d1 d2 h' hi
  go_enter Tryz.func59,Tryz.ntmps59
  go_wp2_with (go_at_call 63;refine (mapAt_ok T G ps i s g _ (H.out.fr ((Fr.refl none_ _).alloc _) id id) Hi.out).mono ?_;rintro e w' ⟨rfl,rfl⟩)
  exact bodyPost_ret (v:=.tuple #[.agg #[.int .i64 s,.int .i64 g],.nilIface]) (by simp [results,Tryz.results59,go_sem]) rfl ⟨rfl,(Fr.refl _ _).alloc _⟩

theorem swap_err (o:Option Addr) (n:Int) (k a b c d:Int) (w:World)
    (hat:∀ w1:World,Fr none_ w w1→Calls Tryz.prog 63 #[.pointer o,.int .i64 n] w1 fun e w'=>e=.returned (.tuple #[.pointer none,errV k])∧w1=w') :
    Calls Tryz.prog 30 #[.pointer o,.int .i64 n,.agg #[.int .i64 a,.int .i64 b],.agg #[.int .i64 c,.int .i64 d]] w fun e w'=>e=.returned (.tuple #[.bool false,errV k])∧Fr none_ w w':=by
  have H:=hid_ hat
  clear hat
  go_enter Tryz.func30,Tryz.ntmps30
  go_wp2_with (go_at_call 63;refine (H.out _ (((Fr.refl _ _).alloc _).alloc _)).mono ?_;rintro e w' ⟨rfl,rfl⟩)
  go_ret2
  exact ⟨rfl,((Fr.refl _ _).alloc _).alloc _⟩

theorem swap_ok (T G:Nat) (ps:List Pg) (i:Nat) (s g a b c d:Int) (w:World) (h:Tbl w T G ps) (hi:ps[i]?=some (true,s,g)) :
    Calls Tryz.prog 30 #[.pointer (some ⟨T,0,none⟩),.int .i64 i,.agg #[.int .i64 a,.int .i64 b],.agg #[.int .i64 c,.int .i64 d]] w fun e w' =>
      e=.returned (.tuple #[.bool (s==a && g==b),.nilIface])∧Tbl w' T G (if s=a∧g=b then ps.set i (true,c,d) else ps)∧Fr (only G) w w':=by
  have h':=h
  obtain ⟨cap,cur,hT,hG,h1,h2,h3,h4,h5⟩:=h
  obtain ⟨d0,d1,d2⟩:=h5 i _ hi
  have c2:=hG.cell' d1
  have c3:=hG.cell' d2
  have f:=hG.frozen
  have f1:=f (i * 3+1)
  have f2:=f (i * 3+1+1)
  have hlt:=hG.lt
  have H:=hid_ h'
  have Hi:=hid_ hi
  clear hT hG h5 d0 d1 d2 h' hi f
  by_cases hc:s=a∧g=b
  · obtain ⟨rfl,rfl⟩:=hc
    go_enter Tryz.func30,Tryz.ntmps30
    go_wp2_with (go_at_call 63;refine (mapAt_ok T G ps i s g _ (H.out.fr (((Fr.refl none_ _).alloc _).alloc _) id id) Hi.out).mono ?_;rintro e w' ⟨rfl,rfl⟩)
    go_region
    all_goals go_wp2
    go_ret2
    exact ⟨rfl,(H.out.set_head Hi.out c d).fr ((((Fr.refl none_ _).alloc _).alloc _).drew) id id,(((((Fr.refl (only G) w).setCell (p:=⟨G,i * 3+1,none⟩) (.inl (Eq.refl G)) _).setCell (p:=⟨G,i * 3+1+1,none⟩) (.inl (Eq.refl G)) _).alloc _).alloc _).drew⟩
  · have hq:∀ w,(binOp .neq 48 (.agg #[.int .i64 s,.int .i64 g]) (.agg #[.int .i64 a,.int .i64 b])).run Tryz.prog w=.ok (.bool true) w:=fun w=>by
      rw [neq_ref]
      have:(s==a && g==b)=false:=by simpa using hc
      rw [this];rfl
    have Hc:=hid_ hc
    clear hc
    go_enter Tryz.func30,Tryz.ntmps30
    go_wp2_with (go_at_call 63;refine (mapAt_ok T G ps i s g _ (H.out.fr (((Fr.refl none_ _).alloc _).alloc _) id id) Hi.out).mono ?_;rintro e w' ⟨rfl,rfl⟩)
    go_region
    all_goals go_wp2
    go_ret2
    refine ⟨?_,?_,?_⟩
    · have:(s==a && g==b)=false:=by simpa using Hc.out
      rw [this];rfl
    · exact H.out.fr ((((Fr.refl none_ _).alloc _).alloc _).drew) id id
    · exact (((Fr.refl _ _).alloc _).alloc _).drew

open Go.RowKit

structure RaP where
  xs:Int
  xg:Int
  R:Rc
  A:Option Addr
  c:Nat
  B:Option Addr
  d:Nat
  live:Bool
abbrev ptLA (p:RaP):List Value:=[.int .i64 p.xs,.int .i64 p.xg,.int .i64 p.R.kind,.string p.R.low,.string p.R.high,.bool p.R.unb,.int .i64 p.R.right,.slice p.A p.R.rows.length p.c,.slice p.B p.R.ents.length p.d,.string p.R.key,.string p.R.val,.int .i64 p.R.page,.int .i64 p.R.hpage,.int .i64 p.R.hleft,.string p.R.hkey,.int .i64 p.R.nslot,.int .i64 p.R.ngen,.bool p.live]
def ptFlat (L:List RaP):List Value:=(L.map ptLA).flatten
theorem ptFlat_snoc (L:List RaP) (p:RaP):ptFlat (L ++ [p])=ptFlat L ++ ptLA p:=by simp [ptFlat]
theorem ptFlat_one (L:List RaP):∀ u ∈ ptFlat L,u.oneCell'=true:=by
  intro u hu
  simp only [ptFlat,List.mem_flatten,List.mem_map] at hu
  obtain ⟨l,⟨p,_,rfl⟩,hu⟩:=hu
  simp only [List.mem_cons,List.not_mem_nil,or_false] at hu
  rcases hu with rfl | rfl | rfl | rfl | rfl | rfl | rfl | rfl | rfl | rfl | rfl | rfl | rfl | rfl | rfl | rfl | rfl | rfl <;> rfl
theorem ptFlat_get:∀ (L:List RaP) (k:Nat) (p:RaP),L[k]?=some p→∀ (j:Nat) (v:Value),(ptLA p)[j]?=some v→(ptFlat L)[k * 18+j]?=some v
  | [],k,p,h,_,_,_=>by simp at h
  | q :: L,0,p,h,j,v,hv=>by
    obtain rfl:q=p:=by simpa using h
    have hj:j < (ptLA q).length:=(List.getElem?_eq_some_iff.1 hv).1
    rw [Nat.zero_mul,Nat.zero_add]
    show (((q :: L).map ptLA).flatten)[j]?=some v
    rw [List.map_cons,List.flatten_cons,List.getElem?_append_left hj]
    exact hv
  | q :: L,k+1,p,h,j,v,hv=>by
    have:=ptFlat_get L k p (by simpa using h) j v hv
    show (((q :: L).map ptLA).flatten)[(k+1) * 18+j]?=some v
    rw [List.map_cons,List.flatten_cons,List.getElem?_append_right (by simp;omega),show (k+1) * 18+j - (ptLA q).length=k * 18+j by simp;omega]
    exact this
structure RaIn (w:World) (L:List RaP) (A:Option Addr) (c:Nat):Prop where
  rd:Reads w 18 A L.length (ptFlat L)
  cap:L.length≤c
  capm:c≤maxLen
  len:L.length≤5000
  recs:∀ p ∈ L,RecReads w p.R p.A p.B
  sz:∀ p ∈ L,p.R.rows.length≤1000∧p.R.ents.length≤1000
theorem RaIn.keep {w w':World} {L:List RaP} {A:Option Addr} {c:Nat} (h:RaIn w L A c) (hf:Fr none_ w w'):RaIn w' L A c:=⟨h.rd.none_fr hf,h.cap,h.capm,h.len,fun p hp=>(h.recs p hp).keep hf,h.sz⟩
theorem RaIn.nil (w:World):RaIn w [] none 0:=⟨Reads.nil_,Nat.le_refl _,Nat.zero_le _,Nat.zero_le _,(fun p hp=>by cases hp),(fun p hp=>by cases hp)⟩
theorem RaIn.at_ {w:World} {L:List RaP} {A:Option Addr} {c:Nat} (h:RaIn w L A c) {k:Nat} {p:RaP} (hp:L[k]?=some p):∃ b off,A=some ⟨b,off,none⟩∧b < w.heap.size∧∀ (j:Nat) (v:Value),(ptLA p)[j]?=some v→w.cell? ⟨b,off+k * 18+j,none⟩=some v:=by
  obtain ⟨b,off,e,hb,hc⟩:=reads_lit h.rd (by omega) (by have:=(List.getElem?_eq_some_iff.1 hp).1;omega)
  refine ⟨b,off,e,hb,fun j v hv=>?_⟩
  have:=hc _ _ (ptFlat_get L k p hp j v hv)
  rwa [← Nat.add_assoc] at this
abbrev raA (slots last:Int) (L:List RaP) (A:Option Addr) (c:Nat):Array Value:=#[.int .i64 slots,.int .i64 last,.slice A L.length c]
abbrev raV (slots last:Int) (L:List RaP) (A:Option Addr) (c:Nat):Value:=.agg (raA slots last L A c)
def slotTo (L:List RaP) (n:Int):Nat→Int × Bool
  | 0=>(0,false)
  | k+1=>match L[k]? with
    | some p=>if p.xs=n then (p.xg,p.live) else slotTo L n k
    | none=>slotTo L n k
abbrev slotP (L:List RaP) (n:Int):Int × Bool:=slotTo L n L.length
theorem slot_hit {L:List RaP} {n:Int} {k:Nat} {p:RaP} (hp:L[k]?=some p) (h:p.xs=n):slotTo L n (k+1)=(p.xg,p.live):=by simp [slotTo,hp,h]
theorem slot_miss {L:List RaP} {n:Int} {k:Nat} {p:RaP} (hp:L[k]?=some p) (h:¬ p.xs=n):slotTo L n (k+1)=slotTo L n k:=by simp [slotTo,hp,h]
set_option maxHeartbeats 4000000 in
theorem rslot_ok (slots last:Int) (L:List RaP) (A:Option Addr) (c:Nat) (n:Int) (w:World) (h:RaIn w L A c):Calls Tryz.prog 64 #[raV slots last L A c,.int .i64 n] w fun e w'=>e=.returned (.tuple #[.int .i64 (slotP L n).1,.bool (slotP L n).2])∧Fr none_ w w':=by
  obtain ⟨w0,hw0⟩:∃ z,z=w.alloc (.cells (raA slots last L A c) 35):=⟨_,rfl⟩
  have f0:Fr none_ w w0:=by rw [hw0];exact (Fr.refl none_ w).alloc _
  have BV:Hid (Blk w0 w.heap.size 35 (raA slots last L A c)):=hid_ (by rw [hw0];exact Blk.new w _ _)
  have F0:=hid_ f0
  have H:=hid_ (h.keep f0)
  have hl:=h.len
  clear h f0
  go_enter Tryz.func64,Tryz.ntmps64
  go_upto_region 1 with fail
  change Code.wp _ _ _ _ (w.alloc (.cells (raA slots last L A c) 35))
  rw [← hw0]
  clear hw0
  go_wp2_with fail
  go_loopw [6,7,8] (fun g u i wr=>∃ k:Nat,k≤L.length∧i=.int .i64 k∧g=.int .i64 (slotTo L n k).1∧u=.bool (slotTo L n k).2∧w0=wr) (fun _ _ i _=>L.length - (intOf i).toNat)
  case atStart=>exact ⟨0,Nat.zero_le _,rfl,rfl,rfl,rfl⟩
  case round =>
    obtain ⟨k,hk,rfl,rfl,rfl,rfl⟩:=hrel
    have hi0:(0:Int)≤(k:Int):=Int.natCast_nonneg _
    have v2:w0.cell? ⟨w.heap.size,2,none⟩=some (.slice A L.length c):=BV.out.cell' rfl
    by_cases hlt:k < L.length
    · obtain ⟨p,hp⟩:∃ p,L[k]?=some p:=⟨_,List.getElem?_eq_getElem hlt⟩
      obtain ⟨b,off,rfl,hb,hc⟩:=H.out.at_ hp
      have d0:w0.cell? ⟨b,off+k * 18,none⟩=some (.int .i64 p.xs):=hc 0 _ rfl
      have d1:w0.cell? ⟨b,off+k * 18+1,none⟩=some (.int .i64 p.xg):=hc 1 _ rfl
      have d17:w0.cell? ⟨b,off+k * 18+17,none⟩=some (.bool p.live):=hc 17 _ rfl
      have HP:=hid_ hp
      have hi1:(k:Int) < (L.length:Int):=by omega
      clear hp hc
      by_cases hx:p.xs=n
      · have hd:(p.xs==n)=true:=by simpa using hx
        have HX:=hid_ hx
        clear hx
        go_wp2_with fail
        go_roundw
        case rel=>exact ⟨k+1,by omega,by go_num,by rw [slot_hit HP.out HX.out],by rw [slot_hit HP.out HX.out],by first | rfl | trivial⟩
        case measure=>simp [intOf];omega
      · have hd:(p.xs==n)=false:=by simpa using hx
        have HX:=hid_ hx
        clear hx
        go_wp2_with fail
        go_roundw
        case rel=>exact ⟨k+1,by omega,by go_num,by rw [slot_miss HP.out HX.out],by rw [slot_miss HP.out HX.out],by first | rfl | trivial⟩
        case measure=>simp [intOf];omega
    · obtain rfl:k=L.length:=by omega
      go_wp2_with fail
      go_ret2
      exact ⟨rfl,F0.out⟩
def FindIs (L:List RaP) (s g:Int) (k:Int):Prop:=
  (∃ (i:Nat) (p:RaP),k=(i:Int)∧L[i]?=some p∧p.xs=s∧p.xg=g∧p.live=true∧∀ (j:Nat) (q:RaP),j < i→L[j]?=some q→¬ (q.xs=s∧q.xg=g∧q.live=true))∨(k=-1∧∀ (j:Nat) (q:RaP),L[j]?=some q→¬ (q.xs=s∧q.xg=g∧q.live=true))
def FindPost (L:List RaP) (s g:Int) (w:World) (e:Ending) (w':World):Prop:=∃ k,FindIs L s g k∧e=.returned (.int .i64 k)∧Fr none_ w w'
set_option maxHeartbeats 8000000 in
theorem rafind_ok (slots last:Int) (L:List RaP) (A:Option Addr) (c:Nat) (s g:Int) (w:World) (h:RaIn w L A c):Calls Tryz.prog 73 #[raV slots last L A c,.agg #[.int .i64 s,.int .i64 g]] w (FindPost L s g w):=by
 obtain ⟨w0,hw0⟩:∃ z,z=(w.alloc (.cells (raA slots last L A c) 35)).alloc (.cells #[.int .i64 s,.int .i64 g] 48):=⟨_,rfl⟩
 have f0:Fr none_ w w0:=by rw [hw0];exact ((Fr.refl none_ w).alloc _).alloc _
 have BV:Hid (Blk w0 w.heap.size 35 (raA slots last L A c)):=hid_ (by rw [hw0];exact (Blk.new w _ _).alloc _)
 have BX:Hid (Blk w0 (w.heap.size+1) 48 #[.int .i64 s,.int .i64 g]):=hid_ (by
  have:=Blk.new (w.alloc (.cells (raA slots last L A c) 35)) 48 #[.int .i64 s,.int .i64 g]
  rw [World.size_alloc] at this
  rw [hw0];exact this)
 have F0:=hid_ f0
 have H:=hid_ (h.keep f0)
 have hl:=h.len
 clear h f0
 go_enter Tryz.func73,Tryz.ntmps73
 go_upto_region 1 with fail
 change Code.wp _ _ _ _ ((w.alloc (.cells (raA slots last L A c) 35)).alloc (.cells #[.int .i64 s,.int .i64 g] 48))
 rw [← hw0]
 clear hw0
 go_wp2_with fail
 go_loopw [5] (fun i wr=>∃ k:Nat,k≤L.length∧i=.int .i64 k∧(∀ (j:Nat) (q:RaP),j < k→L[j]?=some q→¬ (q.xs=s∧q.xg=g∧q.live=true))∧Fr none_ w0 wr) (fun i _=>L.length - (intOf i).toNat)
 case atStart=>exact ⟨0,Nat.zero_le _,rfl,fun j q hj=>by omega,Fr.refl _ _⟩
 case round =>
  obtain ⟨k,hk,rfl,hall,hfr⟩:=hrel
  have HA:=hid_ hall
  have FR:=hid_ hfr
  have hi0:(0:Int)≤(k:Int):=Int.natCast_nonneg _
  have v2:wr.cell? ⟨w.heap.size,2,none⟩=some (.slice A L.length c):=(BV.out.fr hfr id).cell' rfl
  have x0:wr.cell? ⟨w.heap.size+1,0,none⟩=some (.int .i64 s):=(BX.out.fr hfr id).cell' rfl
  have x1:wr.cell? ⟨w.heap.size+1,1,none⟩=some (.int .i64 g):=(BX.out.fr hfr id).cell' rfl
  clear hall hfr
  by_cases hlt:k < L.length
  ·obtain ⟨p,hp⟩:∃ p,L[k]?=some p:=⟨_,List.getElem?_eq_getElem hlt⟩
   obtain ⟨b,off,rfl,hb,hc⟩:=(H.out.keep FR.out).at_ hp
   have d0:wr.cell? ⟨b,off+k * 18,none⟩=some (.int .i64 p.xs):=hc 0 _ rfl
   have d1:wr.cell? ⟨b,off+k * 18+1,none⟩=some (.int .i64 p.xg):=hc 1 _ rfl
   have d17:wr.cell? ⟨b,off+k * 18+17,none⟩=some (.bool p.live):=hc 17 _ rfl
   have HP:=hid_ hp
   have hi1:(k:Int) < (L.length:Int):=by omega
   clear hp hc
   by_cases hx:p.xs=s∧p.xg=g
   ·have hq:∀ w',(binOp .eql 48 (.agg #[.int .i64 p.xs,.int .i64 p.xg]) (.agg #[.int .i64 s,.int .i64 g])).run Tryz.prog w'=.ok (.bool true) w':=fun w'=>by rw [eql_ref];simp [hx.1,hx.2]
    have HX:=hid_ hx
    clear hx
    cases hlv:p.live with
    | true =>
     have HV:=hid_ hlv
     rw [hlv] at d17
     clear hlv
     go_wp2_with fail
     go_quiet (fail)
     go_wp2_with fail
     go_ret
     exact ⟨(k:Int),.inl ⟨k,p,rfl,HP.out,HX.out.1,HX.out.2,HV.out,HA.out⟩,rfl,F0.out.then_none (by repeat (first | exact FR.out | apply Fr.drewN | apply Fr.drew))⟩
    | false =>
     have HV:=hid_ hlv
     rw [hlv] at d17
     clear hlv
     go_wp2_with fail
     go_quiet (fail)
     go_wp2_with fail
     go_roundw
     case rel =>
      refine ⟨k+1,by omega,by go_num,fun j q hj hq=>?_,by repeat (first | exact FR.out | apply Fr.drewN | apply Fr.drew)⟩
      rcases Nat.lt_succ_iff_lt_or_eq.1 hj with h | rfl
      ·exact HA.out j q h hq
      ·obtain rfl:=Option.some.inj (HP.out.symm.trans hq)
       rintro ⟨_,_,e⟩
       rw [HV.out] at e;cases e
     case measure=>simp [intOf];omega
   ·have hq:∀ w',(binOp .eql 48 (.agg #[.int .i64 p.xs,.int .i64 p.xg]) (.agg #[.int .i64 s,.int .i64 g])).run Tryz.prog w'=.ok (.bool false) w':=fun w'=>by
     have hd:(p.xs==s && p.xg==g)=false:=by
      cases h1:(p.xs==s) with
      | false=>rfl
      | true =>
       cases h2:(p.xg==g) with
       | false=>rfl
       | true=>exact absurd ⟨by simpa using h1,by simpa using h2⟩ hx
     rw [eql_ref,hd]
    have HX:=hid_ hx
    clear hx d17
    go_wp2_with fail
    go_quiet (fail)
    go_wp2_with fail
    go_roundw
    case rel =>
     refine ⟨k+1,by omega,by go_num,fun j q hj hq=>?_,by repeat (first | exact FR.out | apply Fr.drewN | apply Fr.drew)⟩
     rcases Nat.lt_succ_iff_lt_or_eq.1 hj with h | rfl
     ·exact HA.out j q h hq
     ·obtain rfl:=Option.some.inj (HP.out.symm.trans hq)
      rintro ⟨e1,e2,_⟩
      exact HX.out ⟨e1,e2⟩
    case measure=>simp [intOf];omega
  ·have hi1:¬ (k:Int) < (L.length:Int):=by omega
   go_wp2_with fail
   go_ret
   exact ⟨-1,.inr ⟨rfl,fun j q hq=>HA.out j q (by have:=(List.getElem?_eq_some_iff.1 hq).1;omega) hq⟩,rfl,F0.out.then_none FR.out⟩
open Go

section
variable {P:Program} {md:Region.Mode} {ops:Array Oper} {Q:Exit→Act→World→Prop} {S:World→Prop}
def wpAnyU (P:Program) (md:Region.Mode) (ops:Array Oper) (Q:Exit→Act→World→Prop) (S:World→Prop) (m:Nat):Nat→Array Bool→Act→World→Prop
  | 0,listed,a,w=>Region.ready md ops listed=[]∧Q .normal a w
  | fuel+1,listed,a,w =>
    (Region.ready md ops listed=[]→Q .normal a w) ∧
    ∀ i ∈ Region.ready md ops listed,wpOp P ops Q i (fun a' w'=>(m≤i∨S w')∧wpAnyU P md ops Q S m fuel (listed.setIfInBounds i true) a' w') a w
theorem wpAny_of_U {m:Nat}:∀ (fuel:Nat) (listed:Array Bool) (a:Act) (w:World),wpAnyU P md ops Q S m fuel listed a w→wpAny P md ops Q fuel listed a w
  | 0,_,_,_,h=>h
  | fuel+1,_,_,_,h=>⟨h.1,fun i hi=>wpOp_mono (fun a' w' h'=>wpAny_of_U fuel _ a' w' h'.2) (h.2 i hi)⟩
theorem wpAnyU_first2 {m i f:Nat} {oi:Oper} {v:Value} (hi:ops[i]?=some oi) (hsel:∀ (j:Nat) (o:Oper) cs b,ops[j]?=some o→o.op≠.select cs b)
    (hQ:∀ c a w,Q (.panic c) (a.put oi.dst v) w→Q (.panic c) a w) (hm:∀ j,j < ops.size→m≤j→j≠i→waitsB md ops f j i=true) :
    ∀ (fuel:Nat) (listed:Array Bool) (a:Act) (w:World),Closed md ops listed →
      (∀ j oj,ops[j]?=some oj→j≠i→listed.getD j true=false→(∀ e ∈ oj.after,Region.binds md e=true→e.on≠i)→oi.apart ops oj=true) →
      i ∈ Region.ready md ops listed→YieldsIf P ops S oi v a→S w →
      wpAnyU P md ops Q S m fuel (listed.setIfInBounds i true) (a.put oi.dst v) w→wpAnyU P md ops Q S m (fuel+1) listed a w:=by
  intro fuel
  induction fuel with
  | zero =>
    intro listed a w hc _ hr hy hS H
    refine ⟨fun h=>(by rw [h] at hr;cases hr),fun j hj=>?_⟩
    by_cases hji:j=i
    · subst hji;exact hy.wpOp hi hS ⟨.inr hS,H⟩
    · have:=ready_mono hj hji
      rw [H.1] at this
      cases this
  | succ fuel ih =>
    intro listed a w hc hfree hr hy hS H
    refine ⟨fun h=>(by rw [h] at hr;cases hr),fun j hj=>?_⟩
    by_cases hji:j=i
    · subst hji;exact hy.wpOp hi hS ⟨.inr hS,H⟩
    · have h1:=H.2 j (ready_mono hj hji)
      obtain ⟨hjun,oj,hoj,hall⟩:=mem_ready.1 hj
      have hnot:∀ e ∈ oj.after,Region.binds md e=true→e.on≠i:=fun e he hb heq=>by
        have h1:=hall e he hb
        have h0:=(mem_ready.1 hr).1
        rw [heq] at h1
        rcases Nat.lt_or_ge i listed.size with h' | h'
        · simp [h'] at h0 h1;rw [h0] at h1;cases h1
        · simp [Array.getElem?_eq_none h'] at h1
      have hjm:¬ m≤j:=fun hmj=>ready_waits hc hj (hm j (Array.getElem?_eq_some_iff.1 hoj).1 hmj hji) hr
      have h2:=wpOp_putIf hoj (hfree j oj hoj hji hjun hnot) (fun cs b=>hsel i oi cs b hi) (fun cs b=>hsel j oj cs b hoj) hQ hy h1
      have hfree':∀ k ok,ops[k]?=some ok→k≠i→(listed.setIfInBounds j true).getD k true=false →
          (∀ e ∈ ok.after,Region.binds md e=true→e.on≠i)→oi.apart ops ok=true:=fun k ok hk hki hun hno=>by
        refine hfree k ok hk hki ?_ hno
        by_cases hjk:j=k
        · subst hjk;exact hjun
        · rw [getD_set_ne true hjk] at hun;exact hun
      refine wpOp_mono (fun a' w' h3=>?_) h2
      have hs:S w':=h3.2.1.resolve_left hjm
      refine ⟨.inr hs,ih (listed.setIfInBounds j true) a' w' (hc.set hj) hfree' (ready_mono hr (Ne.symm hji)) h3.1 hs ?_⟩
      rw [Array.setIfInBounds_comm _ _ hji]
      exact h3.2.2
theorem wpAnyU_take2 {m i:Nat} {oi:Oper} {v:Value} {fuel:Nat} {listed:Array Bool} {a:Act} {w:World} (hi:ops[i]?=some oi)
    (hs:Region.noSelect ops=true) (hf:Region.free md ops listed i=true) (hr:(Region.ready md ops listed).contains i=true)
    (hm:((List.range ops.size).all (fun j=>!decide (m≤j) || decide (j=i) || waitsB md ops ops.size j i) && closedB md ops listed)=true)
    (hQ:∀ c a w,Q (.panic c) (a.put oi.dst v) w→Q (.panic c) a w) (hy:YieldsIf P ops S oi v a) (hS:S w)
    (h:wpAnyU P md ops Q S m fuel (listed.setIfInBounds i true) (a.put oi.dst v) w):wpAnyU P md ops Q S m (fuel+1) listed a w:=by
  rw [Bool.and_eq_true] at hm
  exact wpAnyU_first2 hi (Region.noSelect_spec hs) hQ (fun j hj hmj hji=>by have:=List.all_eq_true.1 hm.1 j (List.mem_range.2 hj);simpa [hmj,hji] using this) fuel listed a w (closed_of hm.2) (Region.free_spec hi hf) (by simpa using hr) hy hS h
theorem wpAnyU_all {m:Nat} {rs:List Nat} {fuel:Nat} {listed:Array Bool} {a:Act} {w:World} (hr:Region.ready md ops listed=rs) (hne:rs≠[])
    (h:∀ i ∈ rs,wpOp P ops Q i (fun a' w'=>(m≤i∨S w')∧wpAnyU P md ops Q S m fuel (listed.setIfInBounds i true) a' w') a w):wpAnyU P md ops Q S m (fuel+1) listed a w:=
  ⟨fun h0=>absurd (hr ▸ h0) hne,hr ▸ h⟩
theorem wpAnyU_two {m i j:Nat} {oi oj:Oper} {fuel:Nat} {listed:Array Bool} {a:Act} {w:World} (hi:ops[i]?=some oi) (hj:ops[j]?=some oj) (gi:oi.guard=none) (gj:oj.guard=none) (hr:Region.ready md ops listed=[i,j])
    (h1:Oper.wp P oi a w (fun a' w'=>(m≤i∨S w')∧wpAnyU P md ops Q S m fuel (listed.setIfInBounds i true) a' w') Q)
    (h2:Oper.wp P oj a w (fun a' w'=>(m≤j∨S w')∧wpAnyU P md ops Q S m fuel (listed.setIfInBounds j true) a' w') Q):wpAnyU P md ops Q S m (fuel+1) listed a w:=by
  refine wpAnyU_all hr (by simp) (fun k hk=>?_)
  have hk':k=i∨k=j:=by simpa using hk
  rcases hk' with rfl | rfl
  · unfold wpOp
    have hw:Region.wanted oi (yielded ops a.tmps)=true:=by simp [Region.wanted,gi]
    simp only [hi,hw,if_true]
    exact .inl h1
  · unfold wpOp
    have hw:Region.wanted oj (yielded ops a.tmps)=true:=by simp [Region.wanted,gj]
    simp only [hj,hw,if_true]
    exact .inl h2
theorem wpAnyU_done {m:Nat} {listed:Array Bool} {a:Act} {w:World} (hr:Region.ready md ops listed=[]) (h:Q .normal a w):∀ fuel,wpAnyU P md ops Q S m fuel listed a w
  | 0=>⟨hr,h⟩
  | _+1=>⟨fun _=>h,by rw [hr];simp⟩
theorem wp_region_U {id m:Nat} {a:Act} {w:World} (hm:P.follows .mixedOrders=true)
    (h:wpAnyU P .any ops Q S m ops.size (Array.replicate ops.size false) a w.drew):(Code.region id ops true).wp P Q a w:=
  wp_region_any hm (wpAny_of_U _ _ _ _ h)
end
end Go.Proofs.YthcpccddcgbanaaGreatDoor
