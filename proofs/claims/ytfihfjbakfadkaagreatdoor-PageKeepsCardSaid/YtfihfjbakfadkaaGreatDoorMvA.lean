/- Texts of one proof, merged: Base, Reads, More, Err, Open, TypesR, Rec, Clone, RdAt, HeldT, Mid, Ar, Map, Ra10, HeldU, Rb10, Rc10, As, ErrOf, Code, Map2, Rt10, Rt10b, Rt10c, Rt10d, Rt10e. -/
import Derived.WalkKit
import Derived.Carry
import Derived.ProofKit
import Derived.SizedLaws
import Derived.LaidLaws
import Derived.LaidHandle
import Derived.Stop.Joined
import Derived.Deep.QuietTactic
import Derived.Deep.Slices
import Derived.Laws.OwnMore
import Derived.Deep.AppendLies
import Derived.Maps.AppendAt
import Derived.RegionTactic
import Derived.OwnWalk
import Derived.Test.YtfihfjbakfadkaaGreatDoorProg
import Derived.WalkLawsBesides
import Derived.WalkSpells
import Derived.BigQuiet
import Derived.ChangeArms
import Derived.OrdersHeld
import Derived.Deep.MidRow
import Derived.Deep.RegionHeld3
import Derived.Laws.MakeOwn
import Derived.Deep.Cut
import Derived.Deep.DeepCutAuto
import Derived.LaidEql
import Derived.Stop.Asserts
import Derived.RowKitTokens
import Derived.Deep.RegionLaw
import Derived.Deep.RegionWith
namespace Go.Proofs.YtfihfjbakfadkaaGreatDoor
set_option maxRecDepth 100000
set_option linter.unusedVariables false
open Go.ChangeShapes Go.WideShapes Go.RowKit

structure Fr (S:Nat→Prop) (w w':World):Prop where
  os:w'.os=w.os
  tape:w'.tape=w.tape
  output:w'.output=w.output
  size:w.heap.size≤w'.heap.size
  block:∀ k,k < w.heap.size→¬ S k→w'.heap[k]?=w.heap[k]?

theorem hid_ {p:Prop} (h:p):Hid p:=h

def none_:Nat→Prop:=fun _=>False

def only (g:Nat):Nat→Prop:=fun k=>k=g
theorem only_ne {g k:Nat} (h:k≠g):¬ only g k:=h

theorem Fr.refl (S:Nat→Prop) (w:World):Fr S w w:=⟨rfl,rfl,rfl,Nat.le_refl _,fun _ _ _=>rfl⟩
theorem Fr.mono {S S':Nat→Prop} {w w':World} (h:Fr S w w') (hs:∀ k,k < w.heap.size→S k→S' k):Fr S' w w':=
  ⟨h.os,h.tape,h.output,h.size,fun k hk hn=>h.block k hk (fun e=>hn (hs k hk e))⟩
theorem Fr.trans {S S' S'':Nat→Prop} {a b c:World} (h:Fr S a b) (k:Fr S' b c) (h1:∀ i,i < a.heap.size→S i→S'' i) (h2:∀ i,i < a.heap.size→S' i→S'' i):Fr S'' a c:=
  ⟨k.os.trans h.os,k.tape.trans h.tape,k.output.trans h.output,Nat.le_trans h.size k.size,fun i hi hn =>
    (k.block i (Nat.lt_of_lt_of_le hi h.size) (fun e=>hn (h2 i hi e))).trans (h.block i hi (fun e=>hn (h1 i hi e)))⟩
theorem Fr.then_only {S:Nat→Prop} {a b c:World} {g:Nat} (h:Fr S a b) (k:Fr (only g) b c) (hg:S g∨a.heap.size≤g):Fr S a c:=
  h.trans k (fun _ _=>id) (fun i hi e=>by
    obtain rfl:i=g:=e
    rcases hg with hg | hg
    · exact hg
    · omega)
theorem Fr.then_none {S:Nat→Prop} {a b c:World} (h:Fr S a b) (k:Fr none_ b c):Fr S a c:=h.trans k (fun _ _=>id) (fun _ _ e=>e.elim)
theorem Fr.drew {S:Nat→Prop} {a w:World} (h:Fr S a w):Fr S a w.drew:=⟨h.os,h.tape,h.output,h.size,h.block⟩
theorem Fr.drewN {S:Nat→Prop} {a w:World} (h:Fr S a w) (n:Nat):Fr S a (w.drewN n):=⟨h.os,h.tape,h.output,h.size,h.block⟩
theorem Fr.alloc {S:Nat→Prop} {a w:World} (h:Fr S a w) (o:Obj):Fr S a (w.alloc o):=
  ⟨h.os,h.tape,h.output,Nat.le_trans h.size (by simp),fun k hk hn=>(Below.heap_alloc w o k (Nat.lt_of_lt_of_le hk h.size)).trans (h.block k hk hn)⟩
theorem Fr.setCell {S:Nat→Prop} {a w:World} (h:Fr S a w) {p:Addr} (hp:S p.block∨a.heap.size≤p.block) (u:Value):Fr S a (w.setCell p u):=
  ⟨h.os,h.tape,h.output,by simpa [World.setCell] using h.size,fun k hk hn=>(Below.heap_setCell w p u k (by
    rintro rfl
    rcases hp with hp | hp
    · exact hn hp
    · omega)).trans (h.block k hk hn)⟩
theorem Fr.grown {S:Nat→Prop} {a w w':World} {row:Option Nat} (h:Fr S a w) (hg:w.grownBy w' row) (hr:∀ k,row=some k→S k∨a.heap.size≤k):Fr S a w':=
  ⟨hg.os.trans h.os,hg.tape.trans h.tape,hg.output.trans h.output,Nat.le_trans h.size hg.size,fun k hk hn =>
    (hg.block k (Nat.lt_of_lt_of_le hk h.size) (fun e=>by
      rcases hr k e.symm with h' | h'
      · exact hn h'
      · omega)).trans (h.block k hk hn)⟩
theorem Fr.below {S:Nat→Prop} {w w':World} (h:Fr S w w') {B:Nat} (hB:B≤w.heap.size) (hs:∀ k,S k→B≤k):Below B w w':=
  ⟨h.os,h.tape,h.output,h.size,fun k hk=>h.block k (by omega) (fun e=>by have:=hs k e;omega)⟩
theorem Fr.below0 {w w':World} (h:Fr none_ w w'):Below w.heap.size w w':=h.below (Nat.le_refl _) (fun _ e=>e.elim)

def Blk (w:World) (g:Nat) (t:TypeId) (cs:Array Value):Prop:=w.heap[g]?=some (.cells cs t (0,0))

section
variable {w w':World} {g:Nat} {t:TypeId} {cs:Array Value} {S:Nat→Prop}
theorem Blk.lt (h:Blk w g t cs):g < w.heap.size:=by
  rcases Nat.lt_or_ge g w.heap.size with hlt | hge
  · exact hlt
  · unfold Blk at h;rw [Array.getElem?_eq_none hge] at h;cases h
theorem Blk.cell (h:Blk w g t cs) (i:Nat):w.cell? ⟨g,i,none⟩=cs[i]?:=cell_of_row w g i cs t (0,0) h
theorem Blk.cell' (h:Blk w g t cs) {i:Nat} {v:Value} (hv:cs[i]?=some v):w.cell? ⟨g,i,none⟩=some v:=(h.cell i).trans hv
theorem Blk.frozen (h:Blk w g t cs) (i:Nat):w.frozen? ⟨g,i,none⟩=false:=by
  unfold Blk at h
  simp [World.frozen?,h]
theorem Blk.new (w:World) (t:TypeId) (cs:Array Value):Blk (w.alloc (.cells cs t)) w.heap.size t cs:=heap_alloc_new w _
theorem Blk.drew (h:Blk w g t cs):Blk w.drew g t cs:=h
theorem Blk.alloc (h:Blk w g t cs) (o:Obj):Blk (w.alloc o) g t cs:=(Below.heap_alloc w o g h.lt).trans h
theorem Blk.set_ (h:Blk w g t cs) (i:Nat) (u:Value):Blk (w.setCell ⟨g,i,none⟩ u) g t (cs.setIfInBounds i u):=by
  unfold Blk at h ⊢
  simp [World.setCell,Array.getElem?_modify,h]
theorem Blk.far (h:Blk w g t cs) {p:Addr} (hp:g≠p.block) (u:Value):Blk (w.setCell p u) g t cs:=(Below.heap_setCell w p u g hp).trans h
theorem Blk.fr (h:Blk w g t cs) (hf:Fr S w w') (hg:¬ S g):Blk w' g t cs:=(hf.block g h.lt hg).trans h
theorem Blk.grown {row:Option Nat} (h:Blk w g t cs) (hb:w.grownBy w' row) (hg:some g≠row):Blk w' g t cs:=(hb.block g h.lt hg).trans h
theorem Blk.ne_ {g':Nat} {t':TypeId} {cs':Array Value} (h:Blk w g t cs) (h':Blk w g' t' cs') (hne:t≠t'):g≠g':=by
  rintro rfl
  unfold Blk at h h'
  rw [h] at h'
  injection h' with h'
  injection h' with _ ht
  exact hne ht
end

theorem _root_.Go.World.ownsRow.shape {w:World} {base:Nat} {e:TypeId} {size:Nat} {v:Value} {n:Nat} {xs:List Value} (h:w.ownsRow base e size v n xs):∃ A c,v=.slice A n c:=by
  rcases h.2 with ⟨rfl,rfl⟩ | ⟨g,cap,cur,rfl,_⟩
  · exact ⟨_,_,rfl⟩
  · exact ⟨_,_,rfl⟩

theorem wf_u8 {n:Int} (h:(Lit.int .u8 n).wf=true):0≤n∧n≤255:=by
  simp [Lit.wf,IntKind.min,IntKind.max,IntKind.signed,IntKind.bits] at h
  omega
section
variable {H:Type} {enc:TypeId × Value→H}

def LawWalk (enc:TypeId × Value→H) (P:Program) (f:FuncId) (ts:List TypeId) (X:World→Prop):Prop:=
  ∀ (W:World) (args:Array Value) (ds:List (DataW H)) (ps:List MemPlace) (base:Nat),DataW.TrodAll enc P W 0 (fun _=>true) true ts args.toList ds ps →
    (∀ (j:Nat) t v,ts[j]?=some t→args.toList[j]?=some v→Value.okWide P W .any base t v)→(∀ x ∈ ps,x.block < W.heap.size) →
    (DataW.weightsEach P ts ds).all (·≤reachBytes)=true→X W →
    Calls P f args W fun e W'=>e=.returned (.bool true)∧Below W.heap.size W W'

end
open Go.RowKit

theorem block_of_add (a:Addr) (n:Nat):(a.add n).block=a.block:=by unfold Addr.add;split <;> rfl
theorem add_of_add (a:Addr) (i j:Nat):(a.add i).add j=a.add (i+j):=by
  unfold Addr.add
  by_cases hi:i=0 <;> by_cases hj:j=0 <;> simp [hi,hj,Nat.add_assoc]
theorem add_lit (b off j:Nat):(⟨b,off,none⟩:Addr).add j=⟨b,off+j,none⟩:=by
  unfold Addr.add
  split <;> simp_all

def Reads (w:World) (size:Nat) (A:Option Addr) (n:Nat) (xs:List Value):Prop:=
  xs.length=n * size∧(0 < n→∃ ad,A=some ad∧∀ j u,xs[j]?=some u→w.cell? (ad.add j)=some u)

section
variable {w w':World} {size n:Nat} {A:Option Addr} {xs:List Value}
theorem Reads.nil_:Reads w size A 0 []:=⟨by simp,fun h=>absurd h (by omega)⟩
theorem Reads.cut (h:Reads w size A n xs) {k cap:Nat} (hk:k≤n) (hc:n≤cap) :
    Reads w size (if cap=k then A else A.map (·.add (k * size))) (n - k) (xs.drop (k * size)):=by
  refine ⟨by rw [List.length_drop,h.1,Nat.sub_mul],fun hn=>?_⟩
  obtain ⟨ad,rfl,hcell⟩:=h.2 (by omega)
  rw [if_neg (by omega)]
  refine ⟨ad.add (k * size),rfl,fun j u hu=>?_⟩
  rw [add_of_add]
  exact hcell _ u (by rw [← hu,List.getElem?_drop])
theorem Reads.upto (h:Reads w size A n xs) {k:Nat} (hk:k≤n):Reads w size A k (xs.take (k * size)):=by
  have hm:k * size≤n * size:=Nat.mul_le_mul_right _ hk
  refine ⟨by rw [List.length_take,h.1];omega,fun hn=>?_⟩
  obtain ⟨ad,rfl,hcell⟩:=h.2 (by omega)
  refine ⟨ad,rfl,fun j u hu=>hcell j u ?_⟩
  rw [List.getElem?_take] at hu
  split at hu
  · exact hu
  · cases hu
theorem Reads.of_own {base:Nat} {e:TypeId} {c:Nat} (h:w.ownsRow base e size (.slice A n c) n xs):Reads w size A n xs:=by
  refine ⟨h.1,fun hn=>?_⟩
  obtain ⟨g,cap,hv,_,hlt⟩:=h.form hn
  have hA:A=some ⟨g,0,none⟩:=by injection hv
  subst hA
  exact ⟨_,rfl,h.cells (g:=g) rfl⟩
theorem Reads.fr {S:Nat→Prop} (h:Reads w size A n xs) (hf:Fr S w w') (hS:∀ ad,A=some ad→¬ S ad.block):Reads w' size A n xs:=
  ⟨h.1,fun hn=>by
    obtain ⟨ad,e,hc⟩:=h.2 hn
    refine ⟨ad,e,fun j u hu=>?_⟩
    have h1:=hc j u hu
    have hlt:=World.block_lt_of_cell? w _ h1
    exact (World.cell?_of_block (hf.block _ hlt (by rw [block_of_add];exact hS ad e))).trans h1⟩
theorem Reads.none_fr (h:Reads w size A n xs) (hf:Fr none_ w w'):Reads w' size A n xs:=h.fr hf (fun _ _=>id)
theorem Reads.drew (h:Reads w size A n xs):Reads w.drew size A n xs:=h
theorem Reads.alloc (h:Reads w size A n xs) (o:Obj):Reads (w.alloc o) size A n xs:=h.none_fr ((Fr.refl none_ w).alloc o)
end

theorem own_empty (w:World) (t:TypeId) (size:Nat) (base:Nat) (hb:base≤w.heap.size):(w.alloc (.cells #[] t)).ownsRow base t size (.slice (some ⟨w.heap.size,0,none⟩) 0 0) 0 []:=
  World.ownsRow_made w #[] 0 hb (by simp) (by simp)

theorem own_empty_at (w:World) (t:TypeId) (size:Nat) (base b:Nat) (hb:base≤w.heap.size) (e:b=w.heap.size):(w.alloc (.cells #[] t)).ownsRow base t size (.slice (some ⟨b,0,none⟩) 0 0) 0 []:=by
  subst e
  exact own_empty w t size base hb

theorem reads_new (w:World) (t:TypeId) (cs:List Value) (b:Nat) (e:b=w.heap.size):Reads (w.alloc (.cells cs.toArray t)) cs.length (some ⟨b,0,none⟩) 1 cs:=by
  subst e
  refine ⟨by simp,fun _=>⟨_,rfl,fun j u hu=>?_⟩⟩
  rw [add_lit,Nat.zero_add]
  exact (Blk.new w t cs.toArray).cell' (by simpa using hu)

theorem own_fr {w w':World} {base:Nat} {e:TypeId} {size:Nat} {v:Value} {n:Nat} {xs:List Value} {S:Nat→Prop} (h:w.ownsRow base e size v n xs) (hf:Fr S w w') (hS:∀ k,v.ownBlock=some k→¬ S k):w'.ownsRow base e size v n xs:=by
  refine ⟨h.1,?_⟩
  rcases h.2 with hn | ⟨g,cap,cur,rfl,hb,hh,rest⟩
  · exact .inl hn
  · exact .inr ⟨g,cap,cur,rfl,hb,(hf.block g (Array.getElem?_eq_some_iff.1 hh).1 (hS g rfl)).trans hh,rest⟩
theorem own_none {w w':World} {base:Nat} {e:TypeId} {size:Nat} {v:Value} {n:Nat} {xs:List Value} (h:w.ownsRow base e size v n xs) (hf:Fr none_ w w'):w'.ownsRow base e size v n xs:=own_fr h hf (fun _ _=>id)
theorem own_base {w:World} {base base':Nat} {e:TypeId} {size:Nat} {v:Value} {n:Nat} {xs:List Value} (h:w.ownsRow base e size v n xs) (hb:base'≤base):w.ownsRow base' e size v n xs:=by
  refine ⟨h.1,?_⟩
  rcases h.2 with hn | ⟨g,cap,cur,rfl,hb',rest⟩
  · exact .inl hn
  · exact .inr ⟨g,cap,cur,rfl,by omega,rest⟩
theorem own_blk_ne {w:World} {base:Nat} {e:TypeId} {size n:Nat} {v:Value} {xs:List Value} (h:w.ownsRow base e size v n xs) {g:Nat} {t:TypeId} {cs:Array Value} (hg:Blk w g t cs) (hne:e≠t):v.ownBlock≠some g:=by
  rcases h.2 with ⟨rfl,_⟩ | ⟨g',cap,cur,rfl,_,hh,_⟩
  · simp [Value.ownBlock]
  · intro he
    have:g'=g:=by simpa [Value.ownBlock] using he
    subst this
    exact Blk.ne_ (t:=e) hh hg hne rfl
theorem own_own_ne {w:World} {base base':Nat} {e e':TypeId} {size size' n n':Nat} {v v':Value} {xs xs':List Value} (h:w.ownsRow base e size v n xs) (h':w.ownsRow base' e' size' v' n' xs') (hne:e≠e') (k:Nat) (hk:v.ownBlock=some k):¬ v'.ownBlock=some k:=by
  rcases h.2 with ⟨rfl,_⟩ | ⟨g,cap,cur,rfl,_,hh,_⟩
  · simp [Value.ownBlock] at hk
  · obtain rfl:g=k:=by simpa [Value.ownBlock] using hk
    exact own_blk_ne h' (g:=g) (t:=e) (cs:=cur) hh (Ne.symm hne)
theorem own_parts {w:World} {base:Nat} {e:TypeId} {size n:Nat} {v:Value} {xs:List Value} (h:w.ownsRow base e size v n xs) :
    ∃ A c,v=.slice A n c∧n≤c∧c≤maxLen∧(0 < n→∃ g,A=some ⟨g,0,none⟩∧g < w.heap.size∧∀ j u,xs[j]?=some u→w.cell? ⟨g,j,none⟩=some u):=by
  have hR:=h
  rcases h.2 with ⟨rfl,rfl⟩ | ⟨g,cap,cur,rfl,hb,hh,hc,hm,hs,ht⟩
  · exact ⟨none,0,rfl,Nat.le_refl _,by simp,fun h=>absurd h (by omega)⟩
  · refine ⟨_,_,rfl,hc,hm,fun _=>⟨g,rfl,(Array.getElem?_eq_some_iff.1 hh).1,fun j u hu=>?_⟩⟩
    have:=hR.cells (g:=g) rfl j u hu
    rwa [add_lit,Nat.zero_add] at this

section
variable {P:Program} (w:World)
theorem run_append_of_nil (base:Nat) (t ty e:TypeId) (i:TypeInfo) (size:Nat) (ht:P.underlying t=some (.slice e)) (hi:P.info? e=some i)
    (v:Value) (n:Nat) (xs:List Value) (hown:w.ownsRow base e size v n xs) (c:Nat):(Builtin.append_ #[t,t] ty #[v,.slice none 0 c]).run P w=.ok v w:=by
  rcases hown.2 with ⟨rfl,rfl⟩ | ⟨g,cap,cur,rfl,_,_,hnc,_⟩
  · simp [Builtin.append_,run_underlying ht,sizeOf,typeInfo,hi,Builtin.lenOf,Builtin.firstCells]
  · simp [Builtin.append_,run_underlying ht,sizeOf,typeInfo,hi,Builtin.lenOf,Builtin.firstCells,hnc,storeCells]

theorem run_append_any (base:Nat) (t ty e:TypeId) (i:TypeInfo) (z:Value) (size bytes:Nat) (ht:P.underlying t=some (.slice e)) (hi:P.info? e=some i) (hz:i.zero=some z)
    (hsize:i.size=size) (hby:i.bytes=bytes) (hzs:z.cells.size=size) (hsz:0 < size)
    (v:Value) (n:Nat) (xs:List Value) (hown:w.ownsRow base e size v n xs)
    (A:Option Addr) (m c:Nat) (news:List Value) (hr:Reads w size A m news) (h1:∀ u ∈ news,u.oneCell'=true)
    (h63:n+m≤maxLen) (hbytes:(n+m) * bytes≤140737488355328) (hbase:base≤w.heap.size) :
    ∃ v' w',(Builtin.append_ #[t,t] ty #[v,.slice A m c]).run P w=.ok v' w'∧w'.ownsRow base e size v' (n+m) (xs ++ news)∧w.grownBy w' v.ownBlock ∧
      (v'.ownBlock=v.ownBlock∨v'.ownBlock=some w.heap.size):=by
  rcases A with _ | ad
  · have hm:m=0:=by
      rcases Nat.eq_zero_or_pos m with h0 | h0
      · exact h0
      · obtain ⟨ad,h,_⟩:=hr.2 h0
        cases h
    subst hm
    have hn:news=[]:=List.eq_nil_of_length_eq_zero (by simpa using hr.1)
    subst hn
    exact ⟨v,w,run_append_of_nil w base t ty e i size ht hi v n xs hown c,by simpa using hown,World.grownBy.refl w _,.inl rfl⟩
  · have hcells:∀ j u,news[j]?=some u→w.cell? (ad.add j)=some u:=by
      intro j u hu
      rcases Nat.eq_zero_or_pos m with h0 | h0
      · subst h0
        have hn:news=[]:=List.eq_nil_of_length_eq_zero (by simpa using hr.1)
        subst hn
        simp at hu
      · obtain ⟨ad',h,hc⟩:=hr.2 h0
        injection h with h
        subst h
        exact hc j u hu
    obtain ⟨v',w',hrun,h2,h3,_,h5⟩:=run_append_own_at (P:=P) w base t ty e i z size bytes ht hi hz hsize hby hzs hsz v n xs hown ad m c news hr.1 hcells h1 h63 hbytes hbase
    exact ⟨v',w',hrun,h2,h3,h5⟩

theorem wp_append_any {o:Oper} {a:Act} {K:Act→World→Prop} {Q:Exit→Act→World→Prop} (s x:Operand) (t:TypeId)
    (ho:o.op=.call { callee:=.builtin .append,args:=#[s,x],argTypes:=#[t,t] })
    (base:Nat) (e:TypeId) (i:TypeInfo) (z:Value) (size bytes:Nat) (ht:P.underlying t=some (.slice e)) (hi:P.info? e=some i) (hz:i.zero=some z)
    (hsize:i.size=size) (hby:i.bytes=bytes) (hzs:z.cells.size=size) (hsz:0 < size)
    (v:Value) (n:Nat) (xs:List Value) (hs:a.eval s=v) (hown:w.ownsRow base e size v n xs)
    (A:Option Addr) (m c:Nat) (news:List Value) (hx:a.eval x=.slice A m c) (hr:Reads w size A m news) (h1:∀ u ∈ news,u.oneCell'=true)
    (h63:n+m≤maxLen) (hbytes:(n+m) * bytes≤140737488355328) (hbase:base≤w.heap.size)
    (h:∀ A' c' w',w'.ownsRow base e size (.slice A' (n+m) c') (n+m) (xs ++ news)→w.grownBy w' v.ownBlock→K (a.put o.dst (.slice A' (n+m) c')) w'):o.wp P a w K Q:=by
  obtain ⟨v',w',hrun,h2,h3,h4⟩:=run_append_any (P:=P) w base t o.type e i z size bytes ht hi hz hsize hby hzs hsz v n xs hown A m c news hr h1 h63 hbytes hbase
  obtain ⟨A',c',rfl⟩:=h2.shape
  unfold Oper.wp execOp
  simp only [ho,resolve,invoke,builtin,Sem.run_bind,Sem.run_pure,Result.andThen_ok,List.map_toArray,List.map_cons,List.map_nil,hs,hx,hrun]
  exact h A' c' w' h2 h3

theorem wpList_append_any {ops:Array Oper} {rest:List Oper} {o:Oper} {a:Act} {Q:Exit→Act→World→Prop} (hgd:o.guard=none) (s x:Operand) (t:TypeId)
    (ho:o.op=.call { callee:=.builtin .append,args:=#[s,x],argTypes:=#[t,t] })
    (base:Nat) (e:TypeId) (i:TypeInfo) (z:Value) (size bytes:Nat) (ht:P.underlying t=some (.slice e)) (hi:P.info? e=some i) (hz:i.zero=some z)
    (hsize:i.size=size) (hby:i.bytes=bytes) (hzs:z.cells.size=size) (hsz:0 < size)
    (v:Value) (n:Nat) (xs:List Value) (hs:a.eval s=v) (hown:w.ownsRow base e size v n xs)
    (A:Option Addr) (m c:Nat) (news:List Value) (hx:a.eval x=.slice A m c) (hr:Reads w size A m news) (h1:∀ u ∈ news,u.oneCell'=true)
    (h63:n+m≤maxLen) (hbytes:(n+m) * bytes≤140737488355328) (hbase:base≤w.heap.size)
    (h:∀ A' c' w',w'.ownsRow base e size (.slice A' (n+m) c') (n+m) (xs ++ news)→w.grownBy w' v.ownBlock→wpList P ops Q rest (a.put o.dst (.slice A' (n+m) c')) w'):wpList P ops Q (o :: rest) a w:=
  wpList_plain hgd fun _ hK=>wp_append_any w s x t ho base e i z size bytes ht hi hz hsize hby hzs hsz v n xs hs hown A m c news hx hr h1 h63 hbytes hbase fun A' c' w' h2 h3=>hK _ _ (h A' c' w' h2 h3)

end
open Go.RowKit

theorem Fr.toOnly {a w:World} {p:Addr} (h:Fr none_ a w) (u:Value):Fr (only p.block) a (w.setCell p u):=
  (h.mono (S':=only p.block) (fun _ _ e=>e.elim)).setCell (p:=p) (.inl (Eq.refl _)) u
theorem Fr.only1 (w:World) (p:Addr) (u:Value):Fr (only p.block) w (w.setCell p u):=(Fr.refl none_ w).toOnly u
theorem cellFr {w w':World} {p:Addr} {v:Value} (h:w.cell? p=some v) (hf:Fr none_ w w'):w'.cell? p=some v:=
  (World.cell?_of_block (hf.block _ (World.block_lt_of_cell? w _ h) id)).trans h
theorem cellFrS {S:Nat→Prop} {w w':World} {p:Addr} {v:Value} (h:w.cell? p=some v) (hf:Fr S w w') (hS:¬ S p.block):w'.cell? p=some v:=
  (World.cell?_of_block (hf.block _ (World.block_lt_of_cell? w _ h) hS)).trans h

theorem choose_list {α:Type} {P:Nat→α→Prop}:∀ (n:Nat),(∀ k,k < n→∃ x,P k x)→∃ L:List α,L.length=n∧∀ k x,L[k]?=some x→P k x
  | 0,_=>⟨[],rfl,fun k x h=>by simp at h⟩
  | n+1,h=>by
    obtain ⟨L,hl,hL⟩:=choose_list n (fun k hk=>h k (by omega))
    obtain ⟨x,hx⟩:=h n (by omega)
    refine ⟨L ++ [x],by simp [hl],fun k y hy=>?_⟩
    rcases Nat.lt_or_ge k L.length with h1 | h1
    · rw [List.getElem?_append_left h1] at hy;exact hL k y hy
    · rw [List.getElem?_append_right h1] at hy
      have:k - L.length=0:=by
        rcases Nat.eq_zero_or_pos (k - L.length) with h2 | h2
        · exact h2
        · rw [List.getElem?_eq_none (by simp;omega)] at hy;cases hy
      rw [this] at hy
      obtain rfl:x=y:=by simpa using hy
      obtain rfl:k=n:=by omega
      exact hx
def numFlat (N:List Int):List Value:=N.map (Value.int .i64)
section
variable {P:Program} (w:World)
theorem wp_append_at {o:Oper} {a:Act} {K:Act→World→Prop} {Q:Exit→Act→World→Prop} (s x:Operand) (t:TypeId)
    (ho:o.op=.call { callee:=.builtin .append,args:=#[s,x],argTypes:=#[t,t] })
    (base:Nat) (e:TypeId) (i:TypeInfo) (z:Value) (size bytes:Nat) (ht:P.underlying t=some (.slice e)) (hi:P.info? e=some i) (hz:i.zero=some z)
    (hsize:i.size=size) (hby:i.bytes=bytes) (hzs:z.cells.size=size) (hsz:0 < size)
    (v:Value) (n:Nat) (xs:List Value) (hs:a.eval s=v) (hown:w.ownsRow base e size v n xs)
    (A:Option Addr) (m c:Nat) (news:List Value) (hx:a.eval x=.slice A m c) (hr:Reads w size A m news) (h1:∀ u ∈ news,u.oneCell'=true)
    (h63:n+m≤maxLen) (hbytes:(n+m) * bytes≤140737488355328) (hbase:base≤w.heap.size)
    (h:∀ v' w',w'.ownsRow base e size v' (n+m) (xs ++ news)→w.grownBy w' v.ownBlock→(v'.ownBlock=v.ownBlock∨v'.ownBlock=some w.heap.size)→K (a.put o.dst v') w'):o.wp P a w K Q:=by
  obtain ⟨v',w',hrun,h2,h3,h4⟩:=run_append_any (P:=P) w base t o.type e i z size bytes ht hi hz hsize hby hzs hsz v n xs hown A m c news hr h1 h63 hbytes hbase
  unfold Oper.wp execOp
  simp only [ho,resolve,invoke,builtin,Sem.run_bind,Sem.run_pure,Result.andThen_ok,List.map_toArray,List.map_cons,List.map_nil,hs,hx,hrun]
  exact h v' w' h2 h3 h4
end
open Go.RowKit

abbrev errV (k:Int):Value:=.iface 49 (.int .i64 k)
open Go.ChangeShapes Go.WideShapes Go.RowKit Go.Deep

inductive Leaf where
  | int (k:IntKind)
  | bool
  | string
  | slice (t:TypeId)

def leaves (P:Program):Nat→TypeId→List (Nat × Leaf)
  | 0,_=>[]
  | n+1,t =>
    match P.underlying t with
    | some .bool=>[(0,.bool)]
    | some (.int k)=>[(0,.int k)]
    | some .string=>[(0,.string)]
    | some (.slice _)=>[(0,.slice t)]
    | some (.struct fs)=>fs.toList.flatMap fun f=>(leaves P n f.type).map fun x=>(f.offset+x.1,x.2)
    | _=>[]

section
variable {H:Type} (enc:TypeId × Value→H) (P:Program) (w:World)

def Conf:Leaf→Value→Prop
  | .int k,v=>∃ n,v=.int k n∧(Lit.int k n).wf=true
  | .bool,v=>∃ b,v=.bool b
  | .string,v=>∃ s:ByteArray,v=.string s∧s.size≤reachBytes
  | .slice t,v=>∃ fuel d ps,DataW.trod enc P w 0 (fun _=>true) true fuel t [v]=some (d,ps)∧(∀ p ∈ ps,p.block < w.heap.size)∧(∀ x ∈ d.weights P t,x≤reachBytes)
end

section
variable {H:Type} {enc:TypeId × Value→H} {P:Program} {w:World}

theorem leaves_conf:∀ (n:Nat) (t:TypeId) (fuel:Nat) (cs:List Value) (x:DataW H × List MemPlace),DataW.trod enc P w 0 (fun _=>true) true fuel t cs=some x →
    (∀ p ∈ x.2,p.block < w.heap.size)→(∀ y ∈ x.1.weights P t,y≤reachBytes)→∀ o l,(o,l) ∈ leaves P n t→∃ v,cs[o]?=some v∧Conf enc P w l v:=by
  intro n
  induction n with
  | zero=>intro t fuel cs x _ _ _ o l h;simp [leaves] at h
  | succ n ih =>
    intro t fuel cs x h hlt hwt o l hl
    simp only [leaves] at hl
    split at hl
    · rename_i hu
      obtain ⟨rfl,rfl⟩:o=0∧l=.bool:=by simpa using hl
      obtain ⟨b,rfl,_⟩:=DataW.trod_bool hu h
      exact ⟨_,rfl,b,rfl⟩
    · rename_i k hu
      obtain ⟨rfl,rfl⟩:o=0∧l=.int k:=by simpa using hl
      obtain ⟨b,rfl,_,hwf⟩:=DataW.trod_int hu h
      exact ⟨_,rfl,b,rfl,hwf⟩
    · rename_i hu
      obtain ⟨rfl,rfl⟩:o=0∧l=.string:=by simpa using hl
      obtain ⟨s,rfl,hx,_⟩:=DataW.trod_string hu h
      refine ⟨_,rfl,s,rfl,?_⟩
      subst hx
      simpa [DataW.weights] using hwt
    · rename_i e hu
      obtain ⟨rfl,rfl⟩:o=0∧l=.slice t:=by simpa using hl
      rcases DataW.trod_slice hu h with ⟨rfl,_⟩ | ⟨a,len,cap,elems,rest,m,_,rfl,_⟩
      · exact ⟨_,rfl,fuel,x.1,x.2,h,hlt,hwt⟩
      · exact ⟨_,rfl,fuel,x.1,x.2,h,hlt,hwt⟩
    · rename_i fs hu
      obtain ⟨f,hf,hx⟩:=List.mem_flatMap.1 hl
      obtain ⟨⟨o',l'⟩,hm,he⟩:=List.mem_map.1 hx
      obtain ⟨rfl,rfl⟩:f.offset+o'=o∧l'=l:=by simpa using he
      obtain ⟨xs,m,_,rfl,_,hlen,hg⟩:=DataW.trod_struct hu h
      obtain ⟨i,hi,hfi⟩:=List.mem_iff_getElem.1 hf
      have hfi':fs[i]?=some f:=by
        rw [← Array.getElem?_toList,List.getElem?_eq_getElem hi,hfi]
      have hil:i < xs.length:=by rw [hlen];simpa using hi
      have hgi:=hg i f hfi'
      rw [List.getElem?_eq_getElem hil] at hgi
      obtain ⟨v,hv,hc⟩:=ih f.type m _ xs[i] hgi (fun p hp=>hlt p (List.mem_flatMap.2 ⟨xs[i],List.getElem_mem hil,hp⟩)) (fun y hy=>hwt y (by
        simp only [DataW.weights,hu]
        refine DataW.weights_mem_each (j:=i) (t:=f.type) (d:=xs[i].1) ?_ ?_ y hy
        · rw [List.getElem?_map,List.getElem?_eq_getElem hi,hfi];rfl
        · rw [List.getElem?_map,List.getElem?_eq_getElem hil];rfl)) o' l' hm
      refine ⟨v,?_,hc⟩
      rw [List.getElem?_take] at hv
      split at hv
      · rw [List.getElem?_drop] at hv;exact hv
      · cases hv
    · simp at hl

theorem weightsAll_mem {e:TypeId}:∀ {l:List (DataW H)} {d:DataW H},d ∈ l→∀ y ∈ d.weights P e,y ∈ DataW.weightsAll P e l
  | x :: r,d,h,y,hy=>by
    simp only [DataW.weightsAll,List.mem_append]
    rcases List.mem_cons.1 h with rfl | h
    · exact .inl hy
    · exact .inr (weightsAll_mem h y hy)

def Rd (enc:TypeId × Value→H) (P:Program) (w:World) (m e:Nat) (A:Option Addr) (n:Nat):Prop:=
  0 < n→∃ b off,A=some ⟨b,off,none⟩∧b < w.heap.size∧∀ k,k < n→∀ o l,(o,l) ∈ leaves P m e→∃ u,w.cell? ⟨b,off+k * P.cellsOf e+o,none⟩=some u∧Conf enc P w l u

theorem open_list (m:Nat) {t e:TypeId} {fuel:Nat} {v:Value} {d:DataW H} {ps:List MemPlace} (ht:P.underlying t=some (.slice e)) (h:DataW.trod enc P w 0 (fun _=>true) true fuel t [v]=some (d,ps))
  (hlt:∀ p ∈ ps,p.block < w.heap.size) (hwt:∀ y ∈ d.weights P t,y≤reachBytes) (hne:(leaves P m e).isEmpty=false) (hin:(leaves P m e).all (fun x=>decide (x.1 < P.cellsOf e))=true) :
  ∃ A n c,v=.slice A n c∧n≤c∧c≤maxLen∧c * P.bytesOf e≤reachBytes∧(A=none→n=0∧c=0)∧Rd enc P w m e A n:=by
 rcases open_slice ht h with ⟨hv,hx⟩ | ⟨a,len,cap,m',fu,D,Pl,hv,hb,hl,hm,hmm,hx,hi⟩
 ·obtain rfl:v=.slice none 0 0:=by simpa using hv
  exact ⟨none,0,0,rfl,Nat.le_refl _,by simp,by simp,fun _=>⟨rfl,rfl⟩,fun h=>absurd h (by omega)⟩
 ·obtain rfl:v=.slice (some a) len cap:=by simpa using hv
  simp only [if_true] at hmm
  subst hmm
  obtain ⟨rfl,rfl⟩:d=_∧ps=_:=by simpa using hx
  have hwd:(((List.range len).map D).length+((List.range (m' - len)).map fun j=>D (len+j)).length) * P.bytesOf e≤reachBytes:=by
   refine hwt _ ?_
   simp only [DataW.weights,ht]
   exact List.mem_cons_self
  have hcap:m' * P.bytesOf e≤reachBytes:=by
   simp only [List.length_map,List.length_range] at hwd
   rwa [show len+(m' - len)=m' by omega] at hwd
  refine ⟨some a,len,m',rfl,hl,hm,hcap,(fun h=>by cases h),fun hn=>?_⟩
  have hsz:0 < P.cellsOf e:=by
   cases hlv:leaves P m e with
   | nil=>rw [hlv] at hne;cases hne
   | cons y ys=>rw [hlv] at hin;simp at hin;omega
  have hcell:∀ k,k < len→∃ cs:List Value,cs.length=P.cellsOf e∧(∀ j,j < P.cellsOf e→w.cell? (a.add (k * P.cellsOf e+j))=cs[j]?)∧∀ o l,(o,l) ∈ leaves P m e→∃ v,cs[o]?=some v∧Conf enc P w l v:=by
   intro k hk
   obtain ⟨cs,hc,htr⟩:=hi k (by omega)
   obtain ⟨_,hcl,hat⟩:=World.cells?_some hc
   refine ⟨cs,hcl,fun j hj=>by rw [← hat j hj,add_add],leaves_conf m e fu cs _ htr ?_ ?_⟩
   ·intro p hp
    refine hlt p ?_
    rw [List.mem_append]
    exact .inr (List.mem_flatMap.2 ⟨k,List.mem_range.2 (by omega),hp⟩)
   ·intro y hy
    refine hwt y ?_
    simp only [DataW.weights,ht,List.mem_cons,List.mem_append]
    exact .inr (.inl (weightsAll_mem (List.mem_map.2 ⟨k,List.mem_range.2 hk,rfl⟩) y hy))
  obtain ⟨cs0,hcl0,hat0,_⟩:=hcell 0 hn
  have h00:=hat0 0 hsz
  have hsome:∃ u,w.cell? a=some u:=by
   have:a.add (0 * P.cellsOf e+0)=a:=by simp [Addr.add]
   rw [this,List.getElem?_eq_getElem (by omega)] at h00
   exact ⟨_,h00⟩
  obtain ⟨u0,hu0⟩:=hsome
  have hspot:a.spot=none:=by
   unfold World.cell? at hu0
   split at hu0
   ·split at hu0
    ·cases hu0
    ·rename_i hs;simpa using hs
   ·cases hu0
  obtain ⟨b,off,sp⟩:=a
  simp only at hspot
  subst hspot
  have hadd:∀ j,(⟨b,off,none⟩:Addr).add j=⟨b,off+j,none⟩:=by
   intro j
   unfold Addr.add
   split <;> simp_all
  refine ⟨b,off,rfl,World.block_lt_of_cell? w _ hu0,fun k hk o l hol=>?_⟩
  obtain ⟨cs,hcl,hat,hcf⟩:=hcell k hk
  obtain ⟨v,hv,hc⟩:=hcf o l hol
  refine ⟨v,?_,hc⟩
  have hoe:o < P.cellsOf e:=by
   have:=List.all_eq_true.1 hin _ hol
   simpa using this
  have:=hat o hoe
  rw [hadd,hv] at this
  rw [Nat.add_assoc]
  exact this

end
open Go.ChangeShapes Go.WideShapes Go.RowKit
set_option linter.unusedSimpArgs false

theorem cells_Row:Tryz.prog.cellsOf 143=2:=by kernel_rfl
theorem leaves_Row:leaves Tryz.prog 6 143=[(0,.string),(1,.string)]:=by kernel_rfl
def RowAt (w:World) (A:Option Addr) (n:Nat):Prop:=
  0 < n→∃ b off,A=some ⟨b,off,none⟩∧b < w.heap.size∧∀ k,k < n→∃ (x0:ByteArray) (x1:ByteArray),x0.size≤reachBytes∧x1.size≤reachBytes∧w.cell? ⟨b,off+k * 2,none⟩=some (.string x0)∧w.cell? ⟨b,off+k * 2+1,none⟩=some (.string x1)
theorem Row_at {H:Type} {enc:TypeId × Value→H} {w:World} {A:Option Addr} {n:Nat} (h:Rd enc Tryz.prog w 6 143 A n):RowAt w A n:=by
  intro hn
  obtain ⟨b,off,hA,hb,hc⟩:=h hn
  refine ⟨b,off,hA,hb,fun k hk=>?_⟩
  have hk:=hc k hk
  rw [leaves_Row,cells_Row] at hk
  obtain ⟨_,h0,x0,rfl,w0⟩:=hk 0 .string (by simp)
  obtain ⟨_,h1,x1,rfl,w1⟩:=hk 1 .string (by simp)
  exact ⟨x0,x1,w0,w1,h0,h1⟩
theorem cells_Entry:Tryz.prog.cellsOf 59=2:=by kernel_rfl
theorem leaves_Entry:leaves Tryz.prog 6 59=[(0,.string),(1,.int .i64)]:=by kernel_rfl
def EntryAt (w:World) (A:Option Addr) (n:Nat):Prop:=
  0 < n→∃ b off,A=some ⟨b,off,none⟩∧b < w.heap.size∧∀ k,k < n→∃ (x0:ByteArray) (x1:Int),x0.size≤reachBytes∧(Lit.int .i64 x1).wf=true∧w.cell? ⟨b,off+k * 2,none⟩=some (.string x0)∧w.cell? ⟨b,off+k * 2+1,none⟩=some (.int .i64 x1)
theorem Entry_at {H:Type} {enc:TypeId × Value→H} {w:World} {A:Option Addr} {n:Nat} (h:Rd enc Tryz.prog w 6 59 A n):EntryAt w A n:=by
  intro hn
  obtain ⟨b,off,hA,hb,hc⟩:=h hn
  refine ⟨b,off,hA,hb,fun k hk=>?_⟩
  have hk:=hc k hk
  rw [leaves_Entry,cells_Entry] at hk
  obtain ⟨_,h0,x0,rfl,w0⟩:=hk 0 .string (by simp)
  obtain ⟨_,h1,x1,rfl,w1⟩:=hk 1 (.int .i64) (by simp)
  exact ⟨x0,x1,w0,w1,h0,h1⟩
theorem cells_Record:Tryz.prog.cellsOf 33=15:=by kernel_rfl
theorem leaves_Record:leaves Tryz.prog 6 33=[(0,.int .i64),(1,.string),(2,.string),(3,.bool),(4,.int .i64),(5,.slice 28),(6,.slice 29),(7,.string),(8,.string),(9,.int .i64),(10,.int .i64),(11,.int .i64),(12,.string),(13,.int .i64),(14,.int .i64)]:=by kernel_rfl
def RecordAt {H:Type} (enc:TypeId × Value→H) (w:World) (A:Option Addr) (n:Nat):Prop:=
  0 < n→∃ b off,A=some ⟨b,off,none⟩∧b < w.heap.size∧∀ k,k < n→∃ (x0:Int) (x1:ByteArray) (x2:ByteArray) (x3:Bool) (x4:Int) (x5:Value) (x6:Value) (x7:ByteArray) (x8:ByteArray) (x9:Int) (x10:Int) (x11:Int) (x12:ByteArray) (x13:Int) (x14:Int),(Lit.int .i64 x0).wf=true∧x1.size≤reachBytes∧x2.size≤reachBytes∧(Lit.int .i64 x4).wf=true∧Conf enc Tryz.prog w (.slice 28) x5∧Conf enc Tryz.prog w (.slice 29) x6∧x7.size≤reachBytes∧x8.size≤reachBytes∧(Lit.int .i64 x9).wf=true∧(Lit.int .i64 x10).wf=true∧(Lit.int .i64 x11).wf=true∧x12.size≤reachBytes∧(Lit.int .i64 x13).wf=true∧(Lit.int .i64 x14).wf=true∧w.cell? ⟨b,off+k * 15,none⟩=some (.int .i64 x0)∧w.cell? ⟨b,off+k * 15+1,none⟩=some (.string x1)∧w.cell? ⟨b,off+k * 15+1+1,none⟩=some (.string x2)∧w.cell? ⟨b,off+k * 15+1+1+1,none⟩=some (.bool x3)∧w.cell? ⟨b,off+k * 15+1+1+1+1,none⟩=some (.int .i64 x4)∧w.cell? ⟨b,off+k * 15+1+1+1+1+1,none⟩=some (x5)∧w.cell? ⟨b,off+k * 15+1+1+1+1+1+1,none⟩=some (x6)∧w.cell? ⟨b,off+k * 15+1+1+1+1+1+1+1,none⟩=some (.string x7)∧w.cell? ⟨b,off+k * 15+1+1+1+1+1+1+1+1,none⟩=some (.string x8)∧w.cell? ⟨b,off+k * 15+1+1+1+1+1+1+1+1+1,none⟩=some (.int .i64 x9)∧w.cell? ⟨b,off+k * 15+1+1+1+1+1+1+1+1+1+1,none⟩=some (.int .i64 x10)∧w.cell? ⟨b,off+k * 15+1+1+1+1+1+1+1+1+1+1+1,none⟩=some (.int .i64 x11)∧w.cell? ⟨b,off+k * 15+1+1+1+1+1+1+1+1+1+1+1+1,none⟩=some (.string x12)∧w.cell? ⟨b,off+k * 15+1+1+1+1+1+1+1+1+1+1+1+1+1,none⟩=some (.int .i64 x13)∧w.cell? ⟨b,off+k * 15+1+1+1+1+1+1+1+1+1+1+1+1+1+1,none⟩=some (.int .i64 x14)
theorem Record_at {H:Type} {enc:TypeId × Value→H} {w:World} {A:Option Addr} {n:Nat} (h:Rd enc Tryz.prog w 6 33 A n):RecordAt enc w A n:=by
  intro hn
  obtain ⟨b,off,hA,hb,hc⟩:=h hn
  refine ⟨b,off,hA,hb,fun k hk=>?_⟩
  have hk:=hc k hk
  rw [leaves_Record,cells_Record] at hk
  obtain ⟨_,h0,x0,rfl,w0⟩:=hk 0 (.int .i64) (by simp)
  obtain ⟨_,h1,x1,rfl,w1⟩:=hk 1 .string (by simp)
  obtain ⟨_,h2,x2,rfl,w2⟩:=hk 2 .string (by simp)
  obtain ⟨_,h3,x3,rfl⟩:=hk 3 .bool (by simp)
  obtain ⟨_,h4,x4,rfl,w4⟩:=hk 4 (.int .i64) (by simp)
  obtain ⟨x5,h5,w5⟩:=hk 5 (.slice 28) (by simp)
  obtain ⟨x6,h6,w6⟩:=hk 6 (.slice 29) (by simp)
  obtain ⟨_,h7,x7,rfl,w7⟩:=hk 7 .string (by simp)
  obtain ⟨_,h8,x8,rfl,w8⟩:=hk 8 .string (by simp)
  obtain ⟨_,h9,x9,rfl,w9⟩:=hk 9 (.int .i64) (by simp)
  obtain ⟨_,h10,x10,rfl,w10⟩:=hk 10 (.int .i64) (by simp)
  obtain ⟨_,h11,x11,rfl,w11⟩:=hk 11 (.int .i64) (by simp)
  obtain ⟨_,h12,x12,rfl,w12⟩:=hk 12 .string (by simp)
  obtain ⟨_,h13,x13,rfl,w13⟩:=hk 13 (.int .i64) (by simp)
  obtain ⟨_,h14,x14,rfl,w14⟩:=hk 14 (.int .i64) (by simp)
  exact ⟨x0,x1,x2,x3,x4,x5,x6,x7,x8,x9,x10,x11,x12,x13,x14,w0,w1,w2,w4,w5,w6,w7,w8,w9,w10,w11,w12,w13,w14,h0,h1,h2,h3,h4,h5,h6,h7,h8,h9,h10,h11,h12,h13,h14⟩
open Go.ChangeShapes Go.WideShapes Go.RowKit

abbrev Rw:=ByteArray × ByteArray
abbrev Et:=ByteArray × Int
structure Rc where
  kind:Int
  low:ByteArray
  high:ByteArray
  unb:Bool
  right:Int
  rows:List Rw
  ents:List Et
  key:ByteArray
  val:ByteArray
  page:Int
  hpage:Int
  hleft:Int
  hkey:ByteArray
  nslot:Int
  ngen:Int
abbrev nilS:ByteArray:=⟨#[]⟩
def Rc.zero:Rc:=⟨0,nilS,nilS,false,0,[],[],nilS,nilS,0,0,0,nilS,0,0⟩
abbrev recA (R:Rc) (vr ve:Value):Array Value:=#[.int .i64 R.kind,.string R.low,.string R.high,.bool R.unb,.int .i64 R.right,vr,ve,.string R.key,.string R.val,.int .i64 R.page,.int .i64 R.hpage,.int .i64 R.hleft,.string R.hkey,.int .i64 R.nslot,.int .i64 R.ngen]
abbrev recV (R:Rc) (vr ve:Value):Value:=.agg (recA R vr ve)
abbrev recB (R:Rc) (vr ve:Value):Obj:=.cells (recA R vr ve) 33

def rwCells (p:Rw):List Value:=[.string p.1,.string p.2]
def etCells (p:Et):List Value:=[.string p.1,.int .i64 p.2]
def rwFlat (L:List Rw):List Value:=(L.map rwCells).flatten
def etFlat (L:List Et):List Value:=(L.map etCells).flatten
theorem rwFlat_len (L:List Rw):(rwFlat L).length=L.length * 2:=by
  unfold rwFlat
  induction L with
  | nil=>rfl
  | cons p t ih=>simp [rwCells] at ih ⊢;omega
theorem etFlat_len (L:List Et):(etFlat L).length=L.length * 2:=by
  unfold etFlat
  induction L with
  | nil=>rfl
  | cons p t ih=>simp [etCells] at ih ⊢;omega
theorem rwFlat_one (L:List Rw):∀ u ∈ rwFlat L,u.oneCell'=true:=by
  intro u hu
  simp only [rwFlat,List.mem_flatten,List.mem_map] at hu
  obtain ⟨l,⟨p,_,rfl⟩,hu⟩:=hu
  simp only [rwCells,List.mem_cons,List.not_mem_nil,or_false] at hu
  rcases hu with rfl | rfl <;> rfl
theorem etFlat_one (L:List Et):∀ u ∈ etFlat L,u.oneCell'=true:=by
  intro u hu
  simp only [etFlat,List.mem_flatten,List.mem_map] at hu
  obtain ⟨l,⟨p,_,rfl⟩,hu⟩:=hu
  simp only [etCells,List.mem_cons,List.not_mem_nil,or_false] at hu
  rcases hu with rfl | rfl <;> rfl
theorem rwFlat_get:∀ (L:List Rw) (i:Nat) (p:Rw),L[i]?=some p→(rwFlat L)[i * 2]?=some (.string p.1)∧(rwFlat L)[i * 2+1]?=some (.string p.2)
  | [],i,p,h=>by simp at h
  | q :: L,0,p,h=>by
    obtain rfl:q=p:=by simpa using h
    simp [rwFlat,rwCells]
  | q :: L,i+1,p,h=>by
    have:=rwFlat_get L i p (by simpa using h)
    rw [show (i+1) * 2=i * 2+1+1 by omega]
    simpa [rwFlat,rwCells] using this
theorem etFlat_get:∀ (L:List Et) (i:Nat) (p:Et),L[i]?=some p→(etFlat L)[i * 2]?=some (.string p.1)∧(etFlat L)[i * 2+1]?=some (.int .i64 p.2)
  | [],i,p,h=>by simp at h
  | q :: L,0,p,h=>by
    obtain rfl:q=p:=by simpa using h
    simp [etFlat,etCells]
  | q :: L,i+1,p,h=>by
    have:=etFlat_get L i p (by simpa using h)
    rw [show (i+1) * 2=i * 2+1+1 by omega]
    simpa [etFlat,etCells] using this
theorem flat2_inv {α:Type} (f g:α→Value):∀ (L:List α) (j:Nat) (u:Value),((L.map fun p=>[f p,g p]).flatten)[j]?=some u→∃ (k:Nat) (p:α),L[k]?=some p∧((j=k * 2∧u=f p)∨(j=k * 2+1∧u=g p))
  | [],j,u,h=>by simp at h
  | q :: L,j,u,h=>by
    simp only [List.map_cons,List.flatten_cons] at h
    match j,h with
    | 0,h=>exact ⟨0,q,rfl,.inl ⟨rfl,by simpa using h.symm⟩⟩
    | 1,h=>exact ⟨0,q,rfl,.inr ⟨rfl,by simpa using h.symm⟩⟩
    | j+2,h =>
      obtain ⟨k,p,hp,hh⟩:=flat2_inv f g L j u (by simpa using h)
      refine ⟨k+1,p,by simpa using hp,?_⟩
      rcases hh with ⟨e,hu⟩ | ⟨e,hu⟩
      · exact .inl ⟨by omega,hu⟩
      · exact .inr ⟨by omega,hu⟩

def RwReads (w:World) (A:Option Addr) (n:Nat) (L:List Rw):Prop:=
  L.length=n∧(0 < n→∃ b off,A=some ⟨b,off,none⟩∧b < w.heap.size∧∀ k p,L[k]?=some p →
    (p.1.size≤reachBytes∧p.2.size≤reachBytes)∧w.cell? ⟨b,off+k * 2,none⟩=some (.string p.1)∧w.cell? ⟨b,off+k * 2+1,none⟩=some (.string p.2))
def EtReads (w:World) (A:Option Addr) (n:Nat) (L:List Et):Prop:=
  L.length=n∧(0 < n→∃ b off,A=some ⟨b,off,none⟩∧b < w.heap.size∧∀ k p,L[k]?=some p →
    (p.1.size≤reachBytes∧(Lit.int .i64 p.2).wf=true)∧w.cell? ⟨b,off+k * 2,none⟩=some (.string p.1)∧w.cell? ⟨b,off+k * 2+1,none⟩=some (.int .i64 p.2))
theorem rows_of {w:World} {A:Option Addr} {n:Nat} (h:RowAt w A n):∃ L,RwReads w A n L:=by
  rcases Nat.eq_zero_or_pos n with h0 | h0
  · subst h0;exact ⟨[],rfl,fun h=>absurd h (by omega)⟩
  · obtain ⟨b,off,hA,hb,hc⟩:=h h0
    obtain ⟨L,hl,hL⟩:=choose_list (α:=Rw) (P:=fun k p=>(p.1.size≤reachBytes∧p.2.size≤reachBytes)∧w.cell? ⟨b,off+k * 2,none⟩=some (.string p.1)∧w.cell? ⟨b,off+k * 2+1,none⟩=some (.string p.2)) n (fun k hk=>by
      obtain ⟨x0,x1,w0,w1,h0,h1⟩:=hc k hk
      exact ⟨(x0,x1),⟨w0,w1⟩,h0,h1⟩)
    exact ⟨L,hl,fun _=>⟨b,off,hA,hb,hL⟩⟩
theorem ents_of {w:World} {A:Option Addr} {n:Nat} (h:EntryAt w A n):∃ L,EtReads w A n L:=by
  rcases Nat.eq_zero_or_pos n with h0 | h0
  · subst h0;exact ⟨[],rfl,fun h=>absurd h (by omega)⟩
  · obtain ⟨b,off,hA,hb,hc⟩:=h h0
    obtain ⟨L,hl,hL⟩:=choose_list (α:=Et) (P:=fun k p=>(p.1.size≤reachBytes∧(Lit.int .i64 p.2).wf=true)∧w.cell? ⟨b,off+k * 2,none⟩=some (.string p.1)∧w.cell? ⟨b,off+k * 2+1,none⟩=some (.int .i64 p.2)) n (fun k hk=>by
      obtain ⟨x0,x1,w0,w1,h0,h1⟩:=hc k hk
      exact ⟨(x0,x1),⟨w0,w1⟩,h0,h1⟩)
    exact ⟨L,hl,fun _=>⟨b,off,hA,hb,hL⟩⟩
theorem RwReads.reads {w:World} {A:Option Addr} {n:Nat} {L:List Rw} (h:RwReads w A n L):Reads w 2 A n (rwFlat L):=by
  refine ⟨by rw [rwFlat_len,h.1],fun hn=>?_⟩
  obtain ⟨b,off,hA,hb,hc⟩:=h.2 hn
  refine ⟨⟨b,off,none⟩,hA,fun j u hu=>?_⟩
  obtain ⟨k,p,hp,hh⟩:=flat2_inv (fun p:Rw=>Value.string p.1) (fun p=>.string p.2) L j u hu
  obtain ⟨_,c0,c1⟩:=hc k p hp
  rw [add_lit]
  rcases hh with ⟨rfl,rfl⟩ | ⟨rfl,rfl⟩
  · exact c0
  · exact c1
theorem EtReads.reads {w:World} {A:Option Addr} {n:Nat} {L:List Et} (h:EtReads w A n L):Reads w 2 A n (etFlat L):=by
  refine ⟨by rw [etFlat_len,h.1],fun hn=>?_⟩
  obtain ⟨b,off,hA,hb,hc⟩:=h.2 hn
  refine ⟨⟨b,off,none⟩,hA,fun j u hu=>?_⟩
  obtain ⟨k,p,hp,hh⟩:=flat2_inv (fun p:Et=>Value.string p.1) (fun p=>.int .i64 p.2) L j u hu
  obtain ⟨_,c0,c1⟩:=hc k p hp
  rw [add_lit]
  rcases hh with ⟨rfl,rfl⟩ | ⟨rfl,rfl⟩
  · exact c0
  · exact c1
theorem ents_conf {H:Type} {enc:TypeId × Value→H} {w:World} {v:Value} (h:Conf enc Tryz.prog w (.slice 29) v):∃ A n c L,v=.slice A n c∧n≤c∧c≤maxLen∧(A=none→n=0∧c=0)∧EtReads w A n L:=by
  obtain ⟨fuel,d,ps,ht,hlt,hwt⟩:=h
  obtain ⟨A,n,c,rfl,h1,h2,h3,h4,h5⟩:=open_list 6 Tryz.underlying29 ht hlt hwt (by rw [leaves_Entry];rfl) (by rw [leaves_Entry,cells_Entry];rfl)
  obtain ⟨L,hL⟩:=ents_of (Entry_at h5)
  exact ⟨A,n,c,L,rfl,h1,h2,h4,hL⟩

theorem row_info:(Tryz.prog.info? 143).map (fun i=>(i.zero,i.size,i.bytes))=some (some (.agg #[.string nilS,.string nilS]),2,32):=by kernel_rfl
theorem entry_info:(Tryz.prog.info? 59).map (fun i=>(i.zero,i.size,i.bytes))=some (some (.agg #[.string nilS,.int .i64 0]),2,24):=by kernel_rfl

structure RecOwn (w:World) (base:Nat) (R:Rc) (vr ve:Value):Prop where
  r:w.ownsRow base 143 2 vr R.rows.length (rwFlat R.rows)
  e:w.ownsRow base 59 2 ve R.ents.length (etFlat R.ents)
theorem RecOwn.keep {w w':World} {base:Nat} {R:Rc} {vr ve:Value} (h:RecOwn w base R vr ve) (hf:Fr none_ w w'):RecOwn w' base R vr ve:=⟨own_none h.r hf,own_none h.e hf⟩
theorem RecOwn.base {w:World} {b b':Nat} {R:Rc} {vr ve:Value} (h:RecOwn w b R vr ve) (hb:b'≤b):RecOwn w b' R vr ve:=⟨own_base h.r hb,own_base h.e hb⟩
theorem RecOwn.fr {w w':World} {S:Nat→Prop} {base:Nat} {R:Rc} {vr ve:Value} (h:RecOwn w base R vr ve) (hf:Fr S w w') (hr:∀ k,vr.ownBlock=some k→¬ S k) (he:∀ k,ve.ownBlock=some k→¬ S k):RecOwn w' base R vr ve:=⟨own_fr h.r hf hr,own_fr h.e hf he⟩
theorem RecOwn.only {w w':World} {base g:Nat} {R:Rc} {vr ve:Value} {t:TypeId} {cs:Array Value} (h:RecOwn w base R vr ve) (hf:Fr (only g) w w') (hg:Blk w g t cs) (h1:143≠t) (h2:59≠t):RecOwn w' base R vr ve:=
  h.fr hf (fun k hk e=>own_blk_ne h.r hg h1 (by rw [hk,show k=g from e])) (fun k hk e=>own_blk_ne h.e hg h2 (by rw [hk,show k=g from e]))
theorem RecOwn.zero (w:World) (base:Nat):RecOwn w base Rc.zero (.slice none 0 0) (.slice none 0 0):=⟨World.ownsRow_nil _ _ _ _,World.ownsRow_nil _ _ _ _⟩
theorem box15 {w1:World} {b:Nat} {t:TypeId} {c0 c1 c2 c3 c4 c5 c6 c7 c8 c9 c10 c11 c12 c13 c14:Value} (h:Blk w1 b t #[c0,c1,c2,c3,c4,c5,c6,c7,c8,c9,c10,c11,c12,c13,c14]) (x0 x1 x2 x3 x4 x5 x6 x7 x8 x9 x10 x11 x12 x13 x14:Value) :
    Blk (((((((((((((((w1.setCell ⟨b,0,none⟩ x0).setCell ⟨b,1,none⟩ x1).setCell ⟨b,2,none⟩ x2).setCell ⟨b,3,none⟩ x3).setCell ⟨b,4,none⟩ x4).setCell ⟨b,5,none⟩ x5).setCell ⟨b,6,none⟩ x6).setCell ⟨b,7,none⟩ x7).setCell ⟨b,8,none⟩ x8).setCell ⟨b,9,none⟩ x9).setCell ⟨b,10,none⟩ x10).setCell ⟨b,11,none⟩ x11).setCell ⟨b,12,none⟩ x12).setCell ⟨b,13,none⟩ x13).setCell ⟨b,14,none⟩ x14) b t #[x0,x1,x2,x3,x4,x5,x6,x7,x8,x9,x10,x11,x12,x13,x14]∧Fr (only b) w1 (((((((((((((((w1.setCell ⟨b,0,none⟩ x0).setCell ⟨b,1,none⟩ x1).setCell ⟨b,2,none⟩ x2).setCell ⟨b,3,none⟩ x3).setCell ⟨b,4,none⟩ x4).setCell ⟨b,5,none⟩ x5).setCell ⟨b,6,none⟩ x6).setCell ⟨b,7,none⟩ x7).setCell ⟨b,8,none⟩ x8).setCell ⟨b,9,none⟩ x9).setCell ⟨b,10,none⟩ x10).setCell ⟨b,11,none⟩ x11).setCell ⟨b,12,none⟩ x12).setCell ⟨b,13,none⟩ x13).setCell ⟨b,14,none⟩ x14):=by
  refine ⟨?_,((((((((((((((((Fr.refl (only b) w1).setCell (p:=⟨b,0,none⟩) (.inl (Eq.refl _)) x0).setCell (p:=⟨b,1,none⟩) (.inl (Eq.refl _)) x1).setCell (p:=⟨b,2,none⟩) (.inl (Eq.refl _)) x2).setCell (p:=⟨b,3,none⟩) (.inl (Eq.refl _)) x3).setCell (p:=⟨b,4,none⟩) (.inl (Eq.refl _)) x4).setCell (p:=⟨b,5,none⟩) (.inl (Eq.refl _)) x5).setCell (p:=⟨b,6,none⟩) (.inl (Eq.refl _)) x6).setCell (p:=⟨b,7,none⟩) (.inl (Eq.refl _)) x7).setCell (p:=⟨b,8,none⟩) (.inl (Eq.refl _)) x8).setCell (p:=⟨b,9,none⟩) (.inl (Eq.refl _)) x9).setCell (p:=⟨b,10,none⟩) (.inl (Eq.refl _)) x10).setCell (p:=⟨b,11,none⟩) (.inl (Eq.refl _)) x11).setCell (p:=⟨b,12,none⟩) (.inl (Eq.refl _)) x12).setCell (p:=⟨b,13,none⟩) (.inl (Eq.refl _)) x13).setCell (p:=⟨b,14,none⟩) (.inl (Eq.refl _)) x14)⟩
  have e:=(((((((((((((((h.set_ 0 x0).set_ 1 x1).set_ 2 x2).set_ 3 x3).set_ 4 x4).set_ 5 x5).set_ 6 x6).set_ 7 x7).set_ 8 x8).set_ 9 x9).set_ 10 x10).set_ 11 x11).set_ 12 x12).set_ 13 x13).set_ 14 x14)
  simp only [List.setIfInBounds_toArray,List.set_cons_zero,List.set_cons_succ] at e
  exact e
open Go.RowKit

structure RecReads (w:World) (R:Rc) (A B:Option Addr):Prop where
  r:Reads w 2 A R.rows.length (rwFlat R.rows)
  e:Reads w 2 B R.ents.length (etFlat R.ents)
theorem RecReads.keep {w w':World} {R:Rc} {A B:Option Addr} (h:RecReads w R A B) (hf:Fr none_ w w'):RecReads w' R A B:=⟨h.r.none_fr hf,h.e.none_fr hf⟩
theorem RecOwn.reads {w:World} {base:Nat} {R:Rc} {A B:Option Addr} {c d:Nat} (h:RecOwn w base R (.slice A R.rows.length c) (.slice B R.ents.length d)):RecReads w R A B:=⟨Reads.of_own h.r,Reads.of_own h.e⟩
theorem RecOwn.shape {w:World} {base:Nat} {R:Rc} {vr ve:Value} (h:RecOwn w base R vr ve):∃ A c B d,vr=.slice A R.rows.length c∧ve=.slice B R.ents.length d:=by
  obtain ⟨A,c,e1⟩:=h.r.shape
  obtain ⟨B,d,e2⟩:=h.e.shape
  exact ⟨A,c,B,d,e1,e2⟩

structure CloneA (w w3:World) (R:Rc) (vr ve v1:Value) (A B:Option Addr):Prop where
  f3:Fr none_ w w3
  o1:w3.ownsRow w.heap.size 143 2 v1 R.rows.length (rwFlat R.rows)
  k0:Blk w3 w.heap.size 33 (recA R vr ve)
  k1:Blk w3 (w.heap.size+1) 33 (recA Rc.zero (.slice none 0 0) (.slice none 0 0))
  rd:RecReads w3 R A B
theorem clone_packA {w w3:World} {R:Rc} {vr ve:Value} {A B A1:Option Addr} {c1:Nat} (h:RecReads w R A B) (hown:w3.ownsRow w.heap.size 143 2 (.slice A1 (0+R.rows.length) c1) (0+R.rows.length) ([] ++ rwFlat R.rows))
    (hgr:(((w.alloc (recB R vr ve)).alloc (recB Rc.zero (.slice none 0 0) (.slice none 0 0))).alloc (.cells #[] 143)).grownBy w3 (Value.slice (some ⟨w.heap.size+1+1,0,none⟩) 0 0).ownBlock):CloneA w w3 R vr ve (.slice A1 R.rows.length c1) A B:=by
  simp only [Nat.zero_add,List.nil_append] at hown
  have F3:Fr none_ ((w.alloc (recB R vr ve)).alloc (recB Rc.zero (.slice none 0 0) (.slice none 0 0))) w3:=((Fr.refl none_ _).alloc (.cells #[] 143)).grown hgr (fun k hk=>.inr (by
    have:w.heap.size+1+1=k:=by simpa [Value.ownBlock] using hk
    simp only [World.size_alloc]
    omega))
  have k1:=(Blk.new (w.alloc (recB R vr ve)) 33 (recA Rc.zero (.slice none 0 0) (.slice none 0 0))).fr F3 id
  rw [World.size_alloc] at k1
  have f:=(((Fr.refl none_ w).alloc (recB R vr ve)).alloc (recB Rc.zero (.slice none 0 0) (.slice none 0 0))).then_none F3
  exact ⟨f,hown,((Blk.new w _ _).alloc _).fr F3 id,k1,h.keep f⟩
structure CloneB (w w5:World) (R:Rc) (ve v1 v2:Value):Prop where
  f5:Fr none_ w w5
  o1:w5.ownsRow w.heap.size 143 2 v1 R.rows.length (rwFlat R.rows)
  o2:w5.ownsRow w.heap.size 59 2 v2 R.ents.length (etFlat R.ents)
  k0:Blk w5 w.heap.size 33 (recA R v1 ve)
  k1:Blk w5 (w.heap.size+1) 33 (recA Rc.zero (.slice none 0 0) (.slice none 0 0))
theorem clone_packB {w w3 w5:World} {R:Rc} {vr ve v1:Value} {A B A2:Option Addr} {c2:Nat} (h:CloneA w w3 R vr ve v1 A B) (hown:w5.ownsRow w.heap.size 59 2 (.slice A2 (0+R.ents.length) c2) (0+R.ents.length) ([] ++ etFlat R.ents))
    (hgr:((w3.setCell ⟨w.heap.size,5,none⟩ v1).alloc (.cells #[] 59)).grownBy w5 (Value.slice (some ⟨w3.heap.size,0,none⟩) 0 0).ownBlock):CloneB w w5 R ve v1 (.slice A2 R.ents.length c2):=by
  simp only [Nat.zero_add,List.nil_append] at hown
  have F1:=Fr.only1 w3 ⟨w.heap.size,5,none⟩ v1
  have hs:(w3.setCell ⟨w.heap.size,5,none⟩ v1).heap.size=w3.heap.size:=by simp
  have F5:Fr none_ (w3.setCell ⟨w.heap.size,5,none⟩ v1) w5:=((Fr.refl none_ _).alloc (.cells #[] 59)).grown hgr (fun k hk=>.inr (by
    have:w3.heap.size=k:=by simpa [Value.ownBlock] using hk
    rw [hs]
    omega))
  exact ⟨(h.f3.then_only F1 (.inr (Nat.le_refl _))).then_none F5,own_none (own_fr h.o1 F1 (fun k hk e=>own_blk_ne h.o1 h.k0 (by decide) (by rw [hk,show k=w.heap.size from e]))) F5,hown,(h.k0.set_ 5 v1).fr F5 id,(h.k1.fr F1 (only_ne (by simp))).fr F5 id⟩
theorem Reads.old {w:World} {size n:Nat} {A:Option Addr} {xs:List Value} (h:Reads w size A n xs) (hs:0 < size) (hn:0 < n):∀ ad,A=some ad→ad.block < w.heap.size:=by
  intro ad e
  obtain ⟨ad',e',hc⟩:=h.2 hn
  rw [e] at e'
  cases e'
  have hl:0 < xs.length:=by rw [h.1];exact Nat.mul_pos hn hs
  have:=World.block_lt_of_cell? w _ (hc 0 xs[0] (List.getElem?_eq_getElem hl))
  rwa [block_of_add] at this

theorem CloneA.rd5 {w w3:World} {R:Rc} {vr ve v1:Value} {A B:Option Addr} (h:CloneA w w3 R vr ve v1 A B) (h0:RecReads w R A B):Reads ((w3.setCell ⟨w.heap.size,5,none⟩ v1).alloc (.cells #[] 59)) 2 B R.ents.length (etFlat R.ents):=by
  rcases Nat.eq_zero_or_pos R.ents.length with hz | hz
  · exact ⟨by rw [etFlat_len],fun hn=>by omega⟩
  · exact (h.rd.e.fr (Fr.only1 w3 ⟨w.heap.size,5,none⟩ v1) (fun ad e=>only_ne (by have:=h0.e.old (by omega) hz ad e;show ad.block≠w.heap.size;omega))).alloc _
def ClonePost (R:Rc) (w:World) (e:Ending) (w':World):Prop:=
  ∃ A c B d,e=.returned (recV R (.slice A R.rows.length c) (.slice B R.ents.length d))∧RecOwn w' w.heap.size R (.slice A R.rows.length c) (.slice B R.ents.length d)∧Fr none_ w w'
set_option maxHeartbeats 2000000 in
theorem clone_ok (R:Rc) (A:Option Addr) (c:Nat) (B:Option Addr) (d:Nat) (w:World) (h:RecReads w R A B) (hr:R.rows.length≤1000) (he:R.ents.length≤1000) :
  Calls Tryz.prog 8 #[recV R (.slice A R.rows.length c) (.slice B R.ents.length d)] w (ClonePost R w):=by
 obtain ⟨i0,hi0,hz0,hs0,hb0⟩:=info_parts row_info
 obtain ⟨j0,hj0,hy0,ht0,hc0⟩:=info_parts entry_info
 have Hi:=hid_ (And.intro hi0 (And.intro hz0 (And.intro hs0 hb0)))
 have Hj:=hid_ (And.intro hj0 (And.intro hy0 (And.intro ht0 hc0)))
 have H:=hid_ h
 clear hi0 hz0 hs0 hb0 hj0 hy0 ht0 hc0 h
 go_enter Tryz.func8,Tryz.ntmps8
 go_wp2_with (first
  | (at_builtin;refine wpList_append_any _ rfl (.tmp 3) (.tmp 5) 28 rfl w.heap.size 143 i0 _ 2 32 Tryz.underlying28 Hi.out.1 Hi.out.2.1 Hi.out.2.2.1 Hi.out.2.2.2 rfl (by omega) (.slice (some ⟨w.heap.size+1+1,0,none⟩) 0 0) 0 [] rfl (own_empty_at _ _ _ _ _ (by simp;omega) (by simp)) A R.rows.length c (rwFlat R.rows) rfl (((H.out.r.alloc _).alloc _).alloc _) (rwFlat_one _) (by simp only [maxLen];omega) (by omega) (by simp;omega) ?_;intro A1 c1 w3 hown3 hgr3;have hp:=clone_packA (vr:=.slice A R.rows.length c) (ve:=.slice B R.ents.length d) H.out hown3 hgr3;have HP:=hid_ hp;have e6:w3.cell? ⟨w.heap.size,6,none⟩=some (.slice B R.ents.length d):=hp.k0.cell' rfl;have e5:w3.cell? ⟨w.heap.size,5,none⟩=some (.slice A R.rows.length c):=hp.k0.cell' rfl;have f5:=hp.k0.frozen 5;have l3:=hp.k0.lt;clear hown3 hgr3 hp)
  | (at_builtin;refine wpList_append_any _ rfl (.tmp 8) (.tmp 10) 29 rfl w.heap.size 59 j0 _ 2 24 Tryz.underlying29 Hj.out.1 Hj.out.2.1 Hj.out.2.2.1 Hj.out.2.2.2 rfl (by omega) (.slice (some ⟨w3.heap.size,0,none⟩) 0 0) 0 [] rfl (own_empty_at _ _ _ _ _ (by simp;omega) (by simp)) B R.ents.length d (etFlat R.ents) rfl (HP.out.rd5 H.out) (etFlat_one _) (by simp only [maxLen];omega) (by omega) (by simp;omega) ?_;intro A2 c2 w5 hown5 hgr5;have hp:=clone_packB HP.out hown5 hgr5;have HQ:=hid_ hp;have r0:w5.cell? ⟨w.heap.size,0,none⟩=some (.int .i64 R.kind):=hp.k0.cell' rfl;have r1:w5.cell? ⟨w.heap.size,1,none⟩=some (.string R.low):=hp.k0.cell' rfl;have r2:w5.cell? ⟨w.heap.size,2,none⟩=some (.string R.high):=hp.k0.cell' rfl;have r3:w5.cell? ⟨w.heap.size,3,none⟩=some (.bool R.unb):=hp.k0.cell' rfl;have r4:w5.cell? ⟨w.heap.size,4,none⟩=some (.int .i64 R.right):=hp.k0.cell' rfl;have r5:w5.cell? ⟨w.heap.size,5,none⟩=some (.slice A1 R.rows.length c1):=hp.k0.cell' rfl;have r6:w5.cell? ⟨w.heap.size,6,none⟩=some (.slice B R.ents.length d):=hp.k0.cell' rfl;have r7:w5.cell? ⟨w.heap.size,7,none⟩=some (.string R.key):=hp.k0.cell' rfl;have r8:w5.cell? ⟨w.heap.size,8,none⟩=some (.string R.val):=hp.k0.cell' rfl;have r9:w5.cell? ⟨w.heap.size,9,none⟩=some (.int .i64 R.page):=hp.k0.cell' rfl;have r10:w5.cell? ⟨w.heap.size,10,none⟩=some (.int .i64 R.hpage):=hp.k0.cell' rfl;have r11:w5.cell? ⟨w.heap.size,11,none⟩=some (.int .i64 R.hleft):=hp.k0.cell' rfl;have r12:w5.cell? ⟨w.heap.size,12,none⟩=some (.string R.hkey):=hp.k0.cell' rfl;have r13:w5.cell? ⟨w.heap.size,13,none⟩=some (.int .i64 R.nslot):=hp.k0.cell' rfl;have r14:w5.cell? ⟨w.heap.size,14,none⟩=some (.int .i64 R.ngen):=hp.k0.cell' rfl;have fr6:=hp.k0.frozen 6;have s0:w5.cell? ⟨w.heap.size+1,0,none⟩=some (.int .i64 0):=hp.k1.cell' rfl;have s1:w5.cell? ⟨w.heap.size+1,1,none⟩=some (.string nilS):=hp.k1.cell' rfl;have s2:w5.cell? ⟨w.heap.size+1,2,none⟩=some (.string nilS):=hp.k1.cell' rfl;have s3:w5.cell? ⟨w.heap.size+1,3,none⟩=some (.bool false):=hp.k1.cell' rfl;have s4:w5.cell? ⟨w.heap.size+1,4,none⟩=some (.int .i64 0):=hp.k1.cell' rfl;have s5:w5.cell? ⟨w.heap.size+1,5,none⟩=some (.slice none 0 0):=hp.k1.cell' rfl;have s6:w5.cell? ⟨w.heap.size+1,6,none⟩=some (.slice none 0 0):=hp.k1.cell' rfl;have s7:w5.cell? ⟨w.heap.size+1,7,none⟩=some (.string nilS):=hp.k1.cell' rfl;have s8:w5.cell? ⟨w.heap.size+1,8,none⟩=some (.string nilS):=hp.k1.cell' rfl;have s9:w5.cell? ⟨w.heap.size+1,9,none⟩=some (.int .i64 0):=hp.k1.cell' rfl;have s10:w5.cell? ⟨w.heap.size+1,10,none⟩=some (.int .i64 0):=hp.k1.cell' rfl;have s11:w5.cell? ⟨w.heap.size+1,11,none⟩=some (.int .i64 0):=hp.k1.cell' rfl;have s12:w5.cell? ⟨w.heap.size+1,12,none⟩=some (.string nilS):=hp.k1.cell' rfl;have s13:w5.cell? ⟨w.heap.size+1,13,none⟩=some (.int .i64 0):=hp.k1.cell' rfl;have s14:w5.cell? ⟨w.heap.size+1,14,none⟩=some (.int .i64 0):=hp.k1.cell' rfl;have z0:=hp.k1.frozen 0;have z1:=hp.k1.frozen 1;have z2:=hp.k1.frozen 2;have z3:=hp.k1.frozen 3;have z4:=hp.k1.frozen 4;have z5:=hp.k1.frozen 5;have z6:=hp.k1.frozen 6;have z7:=hp.k1.frozen 7;have z8:=hp.k1.frozen 8;have z9:=hp.k1.frozen 9;have z10:=hp.k1.frozen 10;have z11:=hp.k1.frozen 11;have z12:=hp.k1.frozen 12;have z13:=hp.k1.frozen 13;have z14:=hp.k1.frozen 14;clear hown5 hgr5 hp))
 clear r0 s0 z0 r1 s1 z1 r2 s2 z2 r3 s3 z3 r4 s4 z4 r5 s5 z5 r6 s6 z6 r7 s7 z7 r8 s8 z8 r9 s9 z9 r10 s10 z10 r11 s11 z11 r12 s12 z12 r13 s13 z13 r14 s14 z14 fr6 e5 e6 f5
 have F6:=Fr.only1 w5 ⟨w.heap.size,6,none⟩ (.slice A2 R.ents.length c2)
 have K1:=HQ.out.k1.fr F6 (only_ne (by simp))
 obtain ⟨qb,qf⟩:=box15 K1 (.int .i64 R.kind) (.string R.low) (.string R.high) (.bool R.unb) (.int .i64 R.right) (.slice A1 R.rows.length c1) (.slice A2 R.ents.length c2) (.string R.key) (.string R.val) (.int .i64 R.page) (.int .i64 R.hpage) (.int .i64 R.hleft) (.string R.hkey) (.int .i64 R.nslot) (.int .i64 R.ngen)
 have q0:=qb.cell' (i:=0) rfl
 have q1:=qb.cell' (i:=1) rfl
 have q2:=qb.cell' (i:=2) rfl
 have q3:=qb.cell' (i:=3) rfl
 have q4:=qb.cell' (i:=4) rfl
 have q5:=qb.cell' (i:=5) rfl
 have q6:=qb.cell' (i:=6) rfl
 have q7:=qb.cell' (i:=7) rfl
 have q8:=qb.cell' (i:=8) rfl
 have q9:=qb.cell' (i:=9) rfl
 have q10:=qb.cell' (i:=10) rfl
 have q11:=qb.cell' (i:=11) rfl
 have q12:=qb.cell' (i:=12) rfl
 have q13:=qb.cell' (i:=13) rfl
 have q14:=qb.cell' (i:=14) rfl
 have O1:=own_fr (own_fr HQ.out.o1 F6 (fun k hk e=>own_blk_ne HQ.out.o1 HQ.out.k0 (by decide) (by rw [hk,show k=w.heap.size from e]))) qf (fun k hk e=>own_blk_ne HQ.out.o1 HQ.out.k1 (by decide) (by rw [hk,show k=w.heap.size+1 from e]))
 have O2:=own_fr (own_fr HQ.out.o2 F6 (fun k hk e=>own_blk_ne HQ.out.o2 HQ.out.k0 (by decide) (by rw [hk,show k=w.heap.size from e]))) qf (fun k hk e=>own_blk_ne HQ.out.o2 HQ.out.k1 (by decide) (by rw [hk,show k=w.heap.size+1 from e]))
 have G:=(HQ.out.f5.then_only F6 (.inr (Nat.le_refl _))).then_only qf (.inr (by omega))
 clear K1 F6 qb qf
 refine bodyPost_ret (v:=recV R (.slice A1 R.rows.length c1) (.slice A2 R.ents.length c2)) ?_ rfl ⟨A1,c1,A2,c2,rfl,⟨O1,O2⟩,G⟩
 simp [results,Tryz.results8,go_sem,q0,q1,q2,q3,q4,q5,q6,q7,q8,q9,q10,q11,q12,q13,q14]
open Go.RowKit

theorem reads_lit {w:World} {size n:Nat} {A:Option Addr} {xs:List Value} (h:Reads w size A n xs) (hs:0 < size) (hn:0 < n):∃ b off,A=some ⟨b,off,none⟩∧b < w.heap.size∧∀ j u,xs[j]?=some u→w.cell? ⟨b,off+j,none⟩=some u:=by
  obtain ⟨ad,e,hc⟩:=h.2 hn
  have hl:0 < xs.length:=by rw [h.1];exact Nat.mul_pos hn hs
  have h0:=hc 0 xs[0] (List.getElem?_eq_getElem hl)
  have e0:ad.add 0=ad:=by simp [Addr.add]
  rw [e0] at h0
  have hspot:ad.spot=none:=by
    unfold World.cell? at h0
    split at h0
    · split at h0
      · cases h0
      · rename_i hs;simpa using hs
    · cases h0
  obtain ⟨b,off,sp⟩:=ad
  simp only at hspot
  subst hspot
  exact ⟨b,off,e,World.block_lt_of_cell? w _ h0,fun j u hu=>by rw [← add_lit];exact hc j u hu⟩
theorem rw_at {w:World} {A:Option Addr} {L:List Rw} (h:Reads w 2 A L.length (rwFlat L)) {k:Nat} {p:Rw} (hp:L[k]?=some p):∃ b off,A=some ⟨b,off,none⟩∧b < w.heap.size∧w.cell? ⟨b,off+k * 2,none⟩=some (.string p.1)∧w.cell? ⟨b,off+k * 2+1,none⟩=some (.string p.2):=by
  obtain ⟨b,off,e,hb,hc⟩:=reads_lit h (by omega) (by have:=(List.getElem?_eq_some_iff.1 hp).1;omega)
  obtain ⟨d0,d1⟩:=rwFlat_get L k p hp
  exact ⟨b,off,e,hb,hc _ _ d0,hc _ _ d1⟩
theorem et_at {w:World} {A:Option Addr} {L:List Et} (h:Reads w 2 A L.length (etFlat L)) {k:Nat} {p:Et} (hp:L[k]?=some p):∃ b off,A=some ⟨b,off,none⟩∧b < w.heap.size∧w.cell? ⟨b,off+k * 2,none⟩=some (.string p.1)∧w.cell? ⟨b,off+k * 2+1,none⟩=some (.int .i64 p.2):=by
  obtain ⟨b,off,e,hb,hc⟩:=reads_lit h (by omega) (by have:=(List.getElem?_eq_some_iff.1 hp).1;omega)
  obtain ⟨d0,d1⟩:=etFlat_get L k p hp
  exact ⟨b,off,e,hb,hc _ _ d0,hc _ _ d1⟩

open Go

section
variable {P:Program} {md:Region.Mode} {ops:Array Oper} {Q:Exit→Act→World→Prop} {S:World→Prop}
def wpAnyT (P:Program) (md:Region.Mode) (ops:Array Oper) (Q:Exit→Act→World→Prop) (S:World→Prop) (m:Nat):Nat→Array Bool→Act→World→Prop
  | 0,listed,a,w=>Region.ready md ops listed=[]∧Q .normal a w
  | fuel+1,listed,a,w =>
    (Region.ready md ops listed=[]→Q .normal a w) ∧
    ∀ i ∈ Region.ready md ops listed,wpOp P ops Q i (fun a' w'=>(i=m∨S w')∧wpAnyT P md ops Q S m fuel (listed.setIfInBounds i true) a' w') a w
theorem wpAny_of_T {m:Nat}:∀ (fuel:Nat) (listed:Array Bool) (a:Act) (w:World),wpAnyT P md ops Q S m fuel listed a w→wpAny P md ops Q fuel listed a w
  | 0,_,_,_,h=>h
  | fuel+1,_,_,_,h=>⟨h.1,fun i hi=>wpOp_mono (fun a' w' h'=>wpAny_of_T fuel _ a' w' h'.2) (h.2 i hi)⟩
theorem wpAnyT_first {m i:Nat} {oi:Oper} {v:Value} (hi:ops[i]?=some oi) (hsel:∀ (j:Nat) (o:Oper) cs b,ops[j]?=some o→o.op≠.select cs b)
    (hQ:∀ c a w,Q (.panic c) (a.put oi.dst v) w→Q (.panic c) a w) (hm:∃ om,ops[m]?=some om∧∃ e ∈ om.after,Region.binds md e=true∧e.on=i) :
    ∀ (fuel:Nat) (listed:Array Bool) (a:Act) (w:World),
      (∀ j oj,ops[j]?=some oj→j≠i→listed.getD j true=false→(∀ e ∈ oj.after,Region.binds md e=true→e.on≠i)→oi.apart ops oj=true) →
      i ∈ Region.ready md ops listed→YieldsIf P ops S oi v a→S w →
      wpAnyT P md ops Q S m fuel (listed.setIfInBounds i true) (a.put oi.dst v) w→wpAnyT P md ops Q S m (fuel+1) listed a w:=by
  intro fuel
  induction fuel with
  | zero =>
    intro listed a w _ hr hy hS H
    refine ⟨fun h=>(by rw [h] at hr;cases hr),fun j hj=>?_⟩
    by_cases hji:j=i
    · subst hji;exact hy.wpOp hi hS ⟨.inr hS,H⟩
    · have:=ready_mono hj hji
      rw [H.1] at this
      cases this
  | succ fuel ih =>
    intro listed a w hfree hr hy hS H
    refine ⟨fun h=>(by rw [h] at hr;cases hr),fun j hj=>?_⟩
    by_cases hji:j=i
    · subst hji;exact hy.wpOp hi hS ⟨.inr hS,H⟩
    · have h1:=H.2 j (ready_mono hj hji)
      obtain ⟨hjun,oj,hoj,hall⟩:=mem_ready.1 hj
      have hnot:∀ e ∈ oj.after,Region.binds md e=true→e.on≠i:=fun e he hb heq=>by
        have h1:=hall e he hb
        have h0:=(mem_ready.1 hr).1
        rw [heq] at h1
        rcases Nat.lt_or_ge i listed.size with h' | h'
        · simp [h'] at h0 h1;rw [h0] at h1;cases h1
        · simp [Array.getElem?_eq_none h'] at h1
      have hjm:j≠m:=by
        rintro rfl
        obtain ⟨om,hom,e,he,hb,heq⟩:=hm
        obtain rfl:=Option.some.inj (hoj.symm.trans hom)
        exact hnot e he hb heq
      have h2:=wpOp_putIf hoj (hfree j oj hoj hji hjun hnot) (fun cs b=>hsel i oi cs b hi) (fun cs b=>hsel j oj cs b hoj) hQ hy h1
      have hfree':∀ k ok,ops[k]?=some ok→k≠i→(listed.setIfInBounds j true).getD k true=false →
          (∀ e ∈ ok.after,Region.binds md e=true→e.on≠i)→oi.apart ops ok=true:=fun k ok hk hki hun hno=>by
        refine hfree k ok hk hki ?_ hno
        by_cases hjk:j=k
        · subst hjk;exact hjun
        · rw [getD_set_ne true hjk] at hun;exact hun
      refine wpOp_mono (fun a' w' h3=>?_) h2
      have hs:S w':=h3.2.1.resolve_left hjm
      refine ⟨.inr hs,ih (listed.setIfInBounds j true) a' w' hfree' (ready_mono hr (Ne.symm hji)) h3.1 hs ?_⟩
      rw [Array.setIfInBounds_comm _ _ hji]
      exact h3.2.2
theorem wpAnyT_take {m i:Nat} {oi:Oper} {v:Value} {fuel:Nat} {listed:Array Bool} {a:Act} {w:World} (hi:ops[i]?=some oi)
    (hs:Region.noSelect ops=true) (hf:Region.free md ops listed i=true) (hr:(Region.ready md ops listed).contains i=true)
    (hm:(ops[m]?.any fun om=>om.after.any fun e=>Region.binds md e && e.on==i)=true)
    (hQ:∀ c a w,Q (.panic c) (a.put oi.dst v) w→Q (.panic c) a w) (hy:YieldsIf P ops S oi v a) (hS:S w)
    (h:wpAnyT P md ops Q S m fuel (listed.setIfInBounds i true) (a.put oi.dst v) w):wpAnyT P md ops Q S m (fuel+1) listed a w:=
  wpAnyT_first hi (Region.noSelect_spec hs) hQ (by
    cases ho:ops[m]? with
    | none=>rw [ho] at hm;cases hm
    | some om =>
      rw [ho] at hm
      have hm':(om.after.any fun e=>Region.binds md e && e.on==i)=true:=hm
      obtain ⟨e,he,hb⟩:=Array.any_eq_true'.1 hm'
      simp at hb
      exact ⟨om,rfl,e,he,hb.1,hb.2⟩) fuel listed a w (Region.free_spec hi hf) (by simpa using hr) hy hS h
def closedB (md:Region.Mode) (ops:Array Oper) (listed:Array Bool):Bool:=
  (List.range ops.size).all fun k=>!listed.getD k false || (match ops[k]? with | some o=>o.after.all fun e=>!Region.binds md e || listed.getD e.on false | none=>true)
def waitsB (md:Region.Mode) (ops:Array Oper):Nat→Nat→Nat→Bool
  | 0,_,_=>false
  | f+1,m,i=>match ops[m]? with | some o=>o.after.any fun e=>Region.binds md e && (e.on==i || waitsB md ops f e.on i) | none=>false
def Closed (md:Region.Mode) (ops:Array Oper) (listed:Array Bool):Prop:=∀ k o,ops[k]?=some o→listed.getD k false=true→∀ e ∈ o.after,Region.binds md e=true→listed.getD e.on false=true
theorem closed_of {listed:Array Bool} (h:closedB md ops listed=true):Closed md ops listed:=by
  intro k o ho hl e he hb
  have hk:k < ops.size:=(Array.getElem?_eq_some_iff.1 ho).1
  have:=List.all_eq_true.1 h k (List.mem_range.2 hk)
  rw [ho,hl] at this
  simp only [Bool.not_true,Bool.false_or] at this
  have:=Array.all_eq_true'.1 this e he
  simpa [hb] using this
theorem getD_set_true {listed:Array Bool} {j k:Nat} (h:listed.getD k false=true):(listed.setIfInBounds j true).getD k false=true:=by
  by_cases e:j=k
  · subst e
    rcases Nat.lt_or_ge j listed.size with h' | h'
    · simp [h']
    · simp [Array.getElem?_eq_none h'] at h
  · simp [e] at h ⊢
    exact h
theorem Closed.set {listed:Array Bool} (h:Closed md ops listed) {j:Nat} (hj:j ∈ Region.ready md ops listed):Closed md ops (listed.setIfInBounds j true):=by
  obtain ⟨hjun,oj,hoj,hall⟩:=mem_ready.1 hj
  intro k o ho hl e he hb
  by_cases hkj:j=k
  · subst hkj
    obtain rfl:=Option.some.inj (hoj.symm.trans ho)
    exact getD_set_true (hall e he hb)
  · refine getD_set_true (h k o ho ?_ e he hb)
    simpa [hkj] using hl
theorem Closed.waits {listed:Array Bool} (h:Closed md ops listed):∀ {f k i:Nat},listed.getD k false=true→waitsB md ops f k i=true→listed.getD i false=true
  | 0,_,_,_,hw=>by simp [waitsB] at hw
  | f+1,k,i,hl,hw=>by
    rw [waitsB] at hw
    split at hw
    · rename_i o ho
      obtain ⟨e,he,hb⟩:=Array.any_eq_true'.1 hw
      simp only [Bool.and_eq_true,Bool.or_eq_true,beq_iff_eq] at hb
      have h1:=h k o ho hl e he hb.1
      rcases hb.2 with rfl | h2
      · exact h1
      · exact h.waits h1 h2
    · cases hw
theorem ready_waits {listed:Array Bool} (h:Closed md ops listed) {f m i:Nat} (hm:m ∈ Region.ready md ops listed) (hw:waitsB md ops f m i=true) (hi:i ∈ Region.ready md ops listed):False:=by
  obtain ⟨hmun,om,hom,hall⟩:=mem_ready.1 hm
  have hi0:=(mem_ready.1 hi).1
  have h1:listed.getD i false=true:=by
    cases f with
    | zero=>simp [waitsB] at hw
    | succ f =>
      rw [waitsB,hom] at hw
      obtain ⟨e,he,hb⟩:=Array.any_eq_true'.1 hw
      simp only [Bool.and_eq_true,Bool.or_eq_true,beq_iff_eq] at hb
      have h2:=hall e he hb.1
      rcases hb.2 with rfl | h3
      · exact h2
      · exact h.waits h2 h3
  rcases Nat.lt_or_ge i listed.size with h' | h'
  · simp [h'] at hi0 h1
    rw [hi0] at h1
    cases h1
  · simp [Array.getElem?_eq_none h'] at hi0
theorem wpAnyT_first2 {m i f:Nat} {oi:Oper} {v:Value} (hi:ops[i]?=some oi) (hsel:∀ (j:Nat) (o:Oper) cs b,ops[j]?=some o→o.op≠.select cs b)
    (hQ:∀ c a w,Q (.panic c) (a.put oi.dst v) w→Q (.panic c) a w) (hm:waitsB md ops f m i=true) :
    ∀ (fuel:Nat) (listed:Array Bool) (a:Act) (w:World),Closed md ops listed →
      (∀ j oj,ops[j]?=some oj→j≠i→listed.getD j true=false→(∀ e ∈ oj.after,Region.binds md e=true→e.on≠i)→oi.apart ops oj=true) →
      i ∈ Region.ready md ops listed→YieldsIf P ops S oi v a→S w →
      wpAnyT P md ops Q S m fuel (listed.setIfInBounds i true) (a.put oi.dst v) w→wpAnyT P md ops Q S m (fuel+1) listed a w:=by
  intro fuel
  induction fuel with
  | zero =>
    intro listed a w hc _ hr hy hS H
    refine ⟨fun h=>(by rw [h] at hr;cases hr),fun j hj=>?_⟩
    by_cases hji:j=i
    · subst hji;exact hy.wpOp hi hS ⟨.inr hS,H⟩
    · have:=ready_mono hj hji
      rw [H.1] at this
      cases this
  | succ fuel ih =>
    intro listed a w hc hfree hr hy hS H
    refine ⟨fun h=>(by rw [h] at hr;cases hr),fun j hj=>?_⟩
    by_cases hji:j=i
    · subst hji;exact hy.wpOp hi hS ⟨.inr hS,H⟩
    · have h1:=H.2 j (ready_mono hj hji)
      obtain ⟨hjun,oj,hoj,hall⟩:=mem_ready.1 hj
      have hnot:∀ e ∈ oj.after,Region.binds md e=true→e.on≠i:=fun e he hb heq=>by
        have h1:=hall e he hb
        have h0:=(mem_ready.1 hr).1
        rw [heq] at h1
        rcases Nat.lt_or_ge i listed.size with h' | h'
        · simp [h'] at h0 h1;rw [h0] at h1;cases h1
        · simp [Array.getElem?_eq_none h'] at h1
      have hjm:j≠m:=by
        rintro rfl
        exact ready_waits hc hj hm hr
      have h2:=wpOp_putIf hoj (hfree j oj hoj hji hjun hnot) (fun cs b=>hsel i oi cs b hi) (fun cs b=>hsel j oj cs b hoj) hQ hy h1
      have hfree':∀ k ok,ops[k]?=some ok→k≠i→(listed.setIfInBounds j true).getD k true=false →
          (∀ e ∈ ok.after,Region.binds md e=true→e.on≠i)→oi.apart ops ok=true:=fun k ok hk hki hun hno=>by
        refine hfree k ok hk hki ?_ hno
        by_cases hjk:j=k
        · subst hjk;exact hjun
        · rw [getD_set_ne true hjk] at hun;exact hun
      refine wpOp_mono (fun a' w' h3=>?_) h2
      have hs:S w':=h3.2.1.resolve_left hjm
      refine ⟨.inr hs,ih (listed.setIfInBounds j true) a' w' (hc.set hj) hfree' (ready_mono hr (Ne.symm hji)) h3.1 hs ?_⟩
      rw [Array.setIfInBounds_comm _ _ hji]
      exact h3.2.2
theorem wpAnyT_take2 {m i:Nat} {oi:Oper} {v:Value} {fuel:Nat} {listed:Array Bool} {a:Act} {w:World} (hi:ops[i]?=some oi)
    (hs:Region.noSelect ops=true) (hf:Region.free md ops listed i=true) (hr:(Region.ready md ops listed).contains i=true)
    (hm:(waitsB md ops ops.size m i && closedB md ops listed)=true)
    (hQ:∀ c a w,Q (.panic c) (a.put oi.dst v) w→Q (.panic c) a w) (hy:YieldsIf P ops S oi v a) (hS:S w)
    (h:wpAnyT P md ops Q S m fuel (listed.setIfInBounds i true) (a.put oi.dst v) w):wpAnyT P md ops Q S m (fuel+1) listed a w:=by
  rw [Bool.and_eq_true] at hm
  exact wpAnyT_first2 hi (Region.noSelect_spec hs) hQ hm.1 fuel listed a w (closed_of hm.2) (Region.free_spec hi hf) (by simpa using hr) hy hS h
theorem wpAnyT_all {m:Nat} {rs:List Nat} {fuel:Nat} {listed:Array Bool} {a:Act} {w:World} (hr:Region.ready md ops listed=rs) (hne:rs≠[])
    (h:∀ i ∈ rs,wpOp P ops Q i (fun a' w'=>(i=m∨S w')∧wpAnyT P md ops Q S m fuel (listed.setIfInBounds i true) a' w') a w):wpAnyT P md ops Q S m (fuel+1) listed a w:=
  ⟨fun h0=>absurd (hr ▸ h0) hne,hr ▸ h⟩
theorem wpAnyT_one {m i:Nat} {oi:Oper} {fuel:Nat} {listed:Array Bool} {a:Act} {w:World} (hi:ops[i]?=some oi) (hg:oi.guard=none) (hr:Region.ready md ops listed=[i])
    (h:Oper.wp P oi a w (fun a' w'=>(i=m∨S w')∧wpAnyT P md ops Q S m fuel (listed.setIfInBounds i true) a' w') Q):wpAnyT P md ops Q S m (fuel+1) listed a w:=by
  refine wpAnyT_all hr (by simp) (fun j hj=>?_)
  obtain rfl:j=i:=by simpa using hj
  unfold wpOp
  have hw:Region.wanted oi (yielded ops a.tmps)=true:=by simp [Region.wanted,hg]
  simp only [hi,hw,if_true]
  exact .inl h
theorem wpAnyT_done {m:Nat} {listed:Array Bool} {a:Act} {w:World} (hr:Region.ready md ops listed=[]) (h:Q .normal a w):∀ fuel,wpAnyT P md ops Q S m fuel listed a w
  | 0=>⟨hr,h⟩
  | _+1=>⟨fun _=>h,by rw [hr];simp⟩
theorem wp_region_T {id m:Nat} {a:Act} {w:World} (hm:P.follows .mixedOrders=true)
    (h:wpAnyT P .any ops Q S m ops.size (Array.replicate ops.size false) a w.drew):(Code.region id ops true).wp P Q a w:=
  wp_region_any hm (wpAny_of_T _ _ _ _ h)
end
open Go.RowKit

def setA (cs:Array Value) (o:Nat):List Value→Array Value
  | []=>cs
  | v :: r=>setA (cs.setIfInBounds o v) (o+1) r
theorem setA_size:∀ (vs:List Value) (cs:Array Value) (o:Nat),(setA cs o vs).size=cs.size
  | [],cs,o=>rfl
  | v :: r,cs,o=>by rw [setA,setA_size r];simp
theorem setA_out:∀ (vs:List Value) (cs:Array Value) (o k:Nat),(k < o∨o+vs.length≤k)→(setA cs o vs)[k]?=cs[k]?
  | [],cs,o,k,h=>rfl
  | v :: r,cs,o,k,h=>by
    rw [setA,setA_out r _ _ _ (by simp at h;omega),Array.getElem?_setIfInBounds_ne (by simp at h;omega)]
theorem setA_in:∀ (vs:List Value) (cs:Array Value) (o j:Nat) (v:Value),vs[j]?=some v→o+j < cs.size→(setA cs o vs)[o+j]?=some v
  | [],cs,o,j,v,h,_=>by simp at h
  | u :: r,cs,o,0,v,h,hl=>by
    obtain rfl:u=v:=by simpa using h
    rw [setA,setA_out r _ _ _ (by omega)]
    have hl':o < cs.size:=by omega
    show (cs.setIfInBounds o u)[o]?=some u
    simp [hl']
  | u :: r,cs,o,j+1,v,h,hl=>by
    have:=setA_in r (cs.setIfInBounds o u) (o+1) j v (by simpa using h) (by simp;omega)
    rw [setA,show o+(j+1)=o+1+j by omega]
    exact this
theorem Blk.setCells {g:Nat} {t:TypeId}:∀ (vs:List Value) (o:Nat) (cs:Array Value) (w:World),Blk w g t cs→Blk (w.setCells g o vs) g t (setA cs o vs)
  | [],o,cs,w,h=>h
  | v :: r,o,cs,w,h=>Blk.setCells r (o+1) _ _ (h.set_ o v)
theorem Fr.setCells {g:Nat} {S:Nat→Prop} {a:World}:∀ (vs:List Value) (o:Nat) (w:World),Fr S a w→(S g∨a.heap.size≤g)→Fr S a (w.setCells g o vs)
  | [],o,w,h,_=>h
  | v :: r,o,w,h,hs=>Fr.setCells r (o+1) _ (h.setCell (p:=⟨g,o,none⟩) hs v) hs
theorem new_there (w:World) (t:TypeId) (cs:Array Value):(w.alloc (.cells cs t)).there w.heap.size 0 cs.size:=by
  intro j hj
  have hb:=Blk.new w t cs
  refine ⟨?_,hb.frozen _⟩
  rw [hb.cell,Nat.zero_add,Array.getElem?_eq_getElem hj]
  rfl
theorem new_copy (w:World) (t:TypeId) (zs:Array Value) (vs:List Value) (hz:zs.size=vs.length):Blk ((w.alloc (.cells zs t)).setCells w.heap.size 0 vs) w.heap.size t vs.toArray∧Fr none_ w ((w.alloc (.cells zs t)).setCells w.heap.size 0 vs):=by
  refine ⟨?_,Fr.setCells _ _ _ ((Fr.refl none_ w).alloc _) (.inr (Nat.le_refl _))⟩
  have h:=Blk.setCells vs 0 _ _ (Blk.new w t zs)
  have e:setA zs 0 vs=vs.toArray:=by
    apply Array.ext_getElem?
    intro k
    rcases Nat.lt_or_ge k vs.length with h1 | h1
    · have:=setA_in vs zs 0 k vs[k] (List.getElem?_eq_getElem h1) (by omega)
      rw [Nat.zero_add] at this
      rw [this,List.getElem?_toArray,List.getElem?_eq_getElem h1]
    · rw [Array.getElem?_eq_none (by rw [setA_size];omega),Array.getElem?_eq_none (by simpa using h1)]
  rwa [e] at h
open Go.RowKit

structure Sl where
  gen:Int
  used:Bool
  R:Rc
  vr:Value
  ve:Value
abbrev slL (s:Sl):List Value:=[.int .i64 s.gen,.bool s.used,.int .i64 s.R.kind,.string s.R.low,.string s.R.high,.bool s.R.unb,.int .i64 s.R.right,s.vr,s.ve,.string s.R.key,.string s.R.val,.int .i64 s.R.page,.int .i64 s.R.hpage,.int .i64 s.R.hleft,.string s.R.hkey,.int .i64 s.R.nslot,.int .i64 s.R.ngen]
def Sl.zero:Sl:=⟨0,false,Rc.zero,.slice none 0 0,.slice none 0 0⟩
def SlCells (cs:Array Value) (ss:List Sl):Prop:=cs.size=ss.length * 17∧∀ i s,ss[i]?=some s→∀ j v,(slL s)[j]?=some v→cs[i * 17+j]?=some v

theorem SlCells.set_ {cs:Array Value} {ss:List Sl} (h:SlCells cs ss) {i:Nat} (s:Sl) (hi:i < ss.length):SlCells (setA cs (i * 17) (slL s)) (ss.set i s):=by
  refine ⟨by rw [setA_size,h.1];simp,fun k t hk j v hj=>?_⟩
  have hjl:j < 17:=by have:=(List.getElem?_eq_some_iff.1 hj).1;simpa using this
  rw [List.getElem?_set] at hk
  split at hk
  · subst_vars
    obtain rfl:s=t:=by simpa using hk
    exact setA_in _ _ _ j v hj (by rw [h.1];omega)
  · rename_i hne
    rw [setA_out _ _ _ _ (by simp;omega)]
    exact h.2 k t hk j v hj

structure Ar (w:World) (a G:Nat) (last:Int) (ss:List Sl):Prop where
  hA:Blk w a 179 #[.slice (some ⟨G,0,none⟩) ss.length ss.length,.int .i64 last]
  hG:∃ cs,Blk w G 188 cs∧SlCells cs ss
  own:∀ (i:Nat) (s:Sl),ss[i]?=some s→RecOwn w 0 s.R s.vr s.ve
  l40:last≤1099511627776
  len:ss.length≤4096
  gen:∀ s ∈ ss,0≤s.gen∧s.gen≤last
  sz:∀ s ∈ ss,s.R.rows.length≤1000∧s.R.ents.length≤1000
section
variable {w w':World} {a G:Nat} {last:Int} {ss:List Sl}
theorem Ar.keep (h:Ar w a G last ss) (hf:Fr none_ w w'):Ar w' a G last ss:=by
  obtain ⟨cs,hG,hc⟩:=h.hG
  exact ⟨h.hA.fr hf id,⟨cs,hG.fr hf id,hc⟩,fun i s hs=>(h.own i s hs).keep hf,h.l40,h.len,h.gen,h.sz⟩
theorem Ar.ltA (h:Ar w a G last ss):a < w.heap.size:=h.hA.lt
theorem Ar.ltG (h:Ar w a G last ss):G < w.heap.size:=by obtain ⟨cs,hG,hc⟩:=h.hG;exact hG.lt
theorem Ar.ne (h:Ar w a G last ss):a≠G:=by obtain ⟨cs,hG,hc⟩:=h.hG;exact Blk.ne_ h.hA hG (by decide)
theorem Ar.cell (h:Ar w a G last ss) {i:Nat} {s:Sl} (hs:ss[i]?=some s) (j:Nat) {v:Value} (hv:(slL s)[j]?=some v):w.cell? ⟨G,i * 17+j,none⟩=some v:=by
  obtain ⟨cs,hG,hc⟩:=h.hG
  exact hG.cell' (hc.2 i s hs j v hv)
theorem Ar.beside (h:Ar w a G last ss) {g:Nat} {t:TypeId} {cs:Array Value} (hf:Fr (only g) w w') (hg:Blk w g t cs) (h1:143≠t) (h2:59≠t) (h3:a≠g) (h4:G≠g):Ar w' a G last ss:=by
  obtain ⟨cs,hG,hc⟩:=h.hG
  exact ⟨h.hA.fr hf (only_ne h3),⟨cs,hG.fr hf (only_ne h4),hc⟩,fun i s hs=>(h.own i s hs).only hf hg h1 h2,h.l40,h.len,h.gen,h.sz⟩
theorem Ar.put (h:Ar w a G last ss) {i:Nat} {s:Sl} (hi:i < ss.length) (hf:Fr (only G) w w') (hb:∀ cs,Blk w G 188 cs→Blk w' G 188 (setA cs (i * 17) (slL s))) (ho:RecOwn w' 0 s.R s.vr s.ve) (hg:0≤s.gen∧s.gen≤last) (hz:s.R.rows.length≤1000∧s.R.ents.length≤1000):Ar w' a G last (ss.set i s):=by
  have hne:=h.ne
  obtain ⟨cs,hG,hc⟩:=h.hG
  refine ⟨by rw [List.length_set];exact h.hA.fr hf (only_ne hne),⟨_,hb cs hG,hc.set_ s hi⟩,fun k t hk=>?_,h.l40,by rw [List.length_set];exact h.len,fun t ht=>?_,fun t ht=>?_⟩
  · rw [List.getElem?_set] at hk
    split at hk
    · obtain rfl:s=t:=by simpa using hk
      exact ho
    · exact (h.own k t hk).only hf hG (by decide) (by decide)
  · rcases List.mem_or_eq_of_mem_set ht with ht | rfl
    · exact h.gen t ht
    · exact hg
  · rcases List.mem_or_eq_of_mem_set ht with ht | rfl
    · exact h.sz t ht
    · exact hz
end

theorem slot_info:(Tryz.prog.info? 188).map (fun i=>(i.zero,i.size,i.bytes))=some (some (.agg (slL Sl.zero).toArray),17,208):=by kernel_rfl
theorem made_slots (n:Nat):SlCells (madeCells (slL Sl.zero).toArray (n * 17)) (List.replicate n Sl.zero):=by
  refine ⟨by rw [size_madeCells,List.length_replicate],fun i s hs j v hv=>?_⟩
  have hjl:j < 17:=by have:=(List.getElem?_eq_some_iff.1 hv).1;simpa using this
  rw [List.getElem?_replicate] at hs
  split at hs
  · rename_i hin
    obtain rfl:Sl.zero=s:=by simpa using hs
    have hm:(i * 17+j) % 17=j:=by omega
    have hz:(slL Sl.zero).toArray.size=17:=rfl
    have hlt:i * 17+j < n * 17:=by omega
    unfold madeCells
    rw [Array.getElem?_map,Array.getElem?_range,if_pos hlt]
    simp only [Option.map_some,hz,hm]
    rw [List.getElem?_eq_some_iff] at hv
    obtain ⟨h1,h2⟩:=hv
    rw [← h2]
    congr 1
    exact getElem!_pos _ _ _
  · cases hs
def NewAr (n:Nat) (last:Int) (w:World) (e:Ending) (w':World):Prop:=
  ∃ a G,e=.returned (.pointer (some ⟨a,0,none⟩))∧Ar w' a G last (List.replicate n Sl.zero)∧Fr none_ w w'∧w.heap.size≤a∧w.heap.size≤G
theorem arNew_ok (n:Nat) (last:Int) (w:World) (h1:1≤n) (h2:n≤4096) (h3:1≤last) (h4:last≤1099511627776):Calls Tryz.prog 45 #[.int .i64 n,.int .i64 last] w (NewAr n last w):=by
  obtain ⟨i0,hi0,hz0,hs0,hb0⟩:=info_parts slot_info
  have hmk:=fun W:World=>run_make (P:=Tryz.prog) W 177 188 i0 _ Tryz.underlying177 hi0 hz0 .i64 .i64 (n:Int) (n:Int) (by omega) (by omega) (by rw [hb0];omega) (by omega)
  rw [hs0] at hmk
  simp only [Int.toNat_natCast] at hmk
  clear hi0 hz0 hs0 hb0
  go_enter Tryz.func45,Tryz.ntmps45
  go_wp2_with fail
  go_ret
  have hf:Fr none_ w ((w.alloc (.cells (madeCells (slL Sl.zero).toArray (n * 17)) 188)).alloc (.cells #[.slice (some ⟨w.heap.size,0,none⟩) n n,.int .i64 last] 179)):=((Fr.refl none_ w).alloc _).alloc _
  have hm:∀ s ∈ List.replicate n Sl.zero,s=Sl.zero:=fun s hs=>List.eq_of_mem_replicate hs
  refine ⟨w.heap.size+1,w.heap.size,rfl,⟨?_,⟨madeCells (slL Sl.zero).toArray (n * 17),?_,made_slots n⟩,fun i s hs=>?_,h4,?_,fun s hs=>?_,fun s hs=>?_⟩,hf,by omega,by omega⟩
  · have h0:=Blk.new (w.alloc (.cells (madeCells (slL Sl.zero).toArray (n * 17)) 188)) 179 #[.slice (some ⟨w.heap.size,0,none⟩) n n,.int .i64 last]
    rw [World.size_alloc] at h0
    rw [List.length_replicate]
    exact h0
  · exact (Blk.new w 188 _).alloc _
  · rw [hm s (List.mem_of_getElem? hs)]
    exact RecOwn.zero _ 0
  · rw [List.length_replicate];omega
  · rw [hm s hs];exact ⟨by decide,by show (0:Int)≤last;omega⟩
  · rw [hm s hs];exact ⟨by decide,by decide⟩
open Go.RowKit

abbrev Pg:=Bool × Int × Int

theorem eql_ref (s g a b:Int) (w:World):(binOp .eql 23 (.agg #[.int .i64 s,.int .i64 g]) (.agg #[.int .i64 a,.int .i64 b])).run Tryz.prog w=.ok (.bool (s==a && g==b)) w:=by
  have h:(Op.equal 23 (.agg #[.int .i64 s,.int .i64 g]) (.agg #[.int .i64 a,.int .i64 b])).run Tryz.prog w=.ok (s==a && g==b) w:=by
    simp only [Op.equal,Op.maxDepth]
    by_cases h1:s=a <;> by_cases h2:g=b <;> go_simp <;> simp [h1,h2]
  simp [binOp,h]
theorem neq_ref (s g a b:Int) (w:World):(binOp .neq 23 (.agg #[.int .i64 s,.int .i64 g]) (.agg #[.int .i64 a,.int .i64 b])).run Tryz.prog w=.ok (.bool (!(s==a && g==b))) w:=by
  have h:(Op.equal 23 (.agg #[.int .i64 s,.int .i64 g]) (.agg #[.int .i64 a,.int .i64 b])).run Tryz.prog w=.ok (s==a && g==b) w:=by
    simp only [Op.equal,Op.maxDepth]
    by_cases h1:s=a <;> by_cases h2:g=b <;> go_simp <;> simp [h1,h2]
  simp [binOp,h]

structure TblAt (w:World) (T G cap:Nat) (cur:Array Value) (ps:List Pg):Prop where
  hT:Blk w T 182 #[.slice (some ⟨G,0,none⟩) ps.length cap]
  hG:Blk w G 190 cur
  hn:ps.length≤256
  hc:ps.length≤cap
  hm:cap≤maxLen
  hs:ps.length * 3≤cur.size
  hp:∀ i p,ps[i]?=some p→cur[i * 3]?=some (.bool p.1)∧cur[i * 3+1]?=some (.int .i64 p.2.1)∧cur[i * 3+1+1]?=some (.int .i64 p.2.2)
def Tbl (w:World) (T G:Nat) (ps:List Pg):Prop:=∃ cap cur,TblAt w T G cap cur ps

theorem mapAt_arg (T G:Nat) (ps:List Pg) (n:Int) (w:World) (h:Tbl w T G ps) (hn:n < 0∨(ps.length:Int)≤n) :
    Calls Tryz.prog 87 #[.pointer (some ⟨T,0,none⟩),.int .i64 n] w fun e w'=>e=.returned (.tuple #[.pointer none,errV 1])∧w=w':=by
  obtain ⟨cap,cur,hT,hG,h1,h2,h3,h4,h5⟩:=h
  have c0:=hT.cell' (i:=0) rfl
  clear hT hG h5
  by_cases hn0:n < 0
  · clear hn
    go_enter Tryz.func87,Tryz.ntmps87
    go_wp2
    go_ret2
    exact ⟨rfl,rfl⟩
  · have hle:(ps.length:Int)≤n:=by omega
    clear hn
    go_enter Tryz.func87,Tryz.ntmps87
    go_wp2
    go_ret2
    exact ⟨rfl,rfl⟩

theorem mapAt_ok (T G:Nat) (ps:List Pg) (i:Nat) (s g:Int) (w:World) (h:Tbl w T G ps) (hi:ps[i]?=some (true,s,g)) :
    Calls Tryz.prog 87 #[.pointer (some ⟨T,0,none⟩),.int .i64 i] w fun e w'=>e=.returned (.tuple #[.pointer (some ⟨G,i * 3,none⟩),.nilIface])∧w=w':=by
  obtain ⟨cap,cur,hT,hG,h1,h2,h3,h4,h5⟩:=h
  obtain ⟨d0,d1,d2⟩:=h5 i _ hi
  have c0:=hT.cell' (i:=0) rfl
  have c1:=hG.cell' d0
  have c2:=hG.cell' d1
  have c3:=hG.cell' d2
  have hlt:i < ps.length:=(List.getElem?_eq_some_iff.1 hi).1
  clear hT hG h5 d0 d1 d2 hi
  go_enter Tryz.func87,Tryz.ntmps87
  go_wp2
  go_ret2
  exact ⟨rfl,rfl⟩

theorem mapAt_none (T G:Nat) (ps:List Pg) (i:Nat) (s g:Int) (w:World) (h:Tbl w T G ps) (hi:ps[i]?=some (false,s,g)) :
    Calls Tryz.prog 87 #[.pointer (some ⟨T,0,none⟩),.int .i64 i] w fun e w'=>e=.returned (.tuple #[.pointer none,errV 6])∧w=w':=by
  obtain ⟨cap,cur,hT,hG,h1,h2,h3,h4,h5⟩:=h
  obtain ⟨d0,d1,d2⟩:=h5 i _ hi
  have c0:=hT.cell' (i:=0) rfl
  have c1:=hG.cell' d0
  have c2:=hG.cell' d1
  have c3:=hG.cell' d2
  have hlt:i < ps.length:=(List.getElem?_eq_some_iff.1 hi).1
  clear hT hG h5 d0 d1 d2 hi
  go_enter Tryz.func87,Tryz.ntmps87
  go_wp2
  all_goals
    go_ret2
    exact ⟨rfl,rfl⟩

def setPg (w:World) (G i:Nat) (p:Pg):World:=((w.setCell ⟨G,i * 3,none⟩ (.bool p.1)).setCell ⟨G,i * 3+1,none⟩ (.int .i64 p.2.1)).setCell ⟨G,i * 3+1+1,none⟩ (.int .i64 p.2.2)

theorem Tbl.ne_ {w:World} {T G:Nat} {ps:List Pg} (h:Tbl w T G ps):T≠G:=by
  obtain ⟨cap,cur,hT,hG,_⟩:=h
  exact Blk.ne_ hT hG (by decide)

theorem Tbl.set_ {w:World} {T G:Nat} {ps:List Pg} (h:Tbl w T G ps) {i:Nat} (hi:i < ps.length) (p:Pg):Tbl (setPg w G i p) T G (ps.set i p):=by
  have hne:=h.ne_
  obtain ⟨cap,cur,hT,hG,h1,h2,h3,h4,h5⟩:=h
  refine ⟨cap,((cur.setIfInBounds (i * 3) (.bool p.1)).setIfInBounds (i * 3+1) (.int .i64 p.2.1)).setIfInBounds (i * 3+1+1) (.int .i64 p.2.2),?_,?_,by simpa using h1,by simpa using h2,h3,by simpa using h4,?_⟩
  · rw [List.length_set]
    exact ((hT.far hne _).far hne _).far hne _
  · exact ((hG.set_ _ _).set_ _ _).set_ _ _
  · intro j q hj
    by_cases hji:j=i
    · subst hji
      rw [List.getElem?_set_self hi] at hj
      obtain rfl:p=q:=by simpa using hj
      have e0:j * 3+1+1 < cur.size:=by omega
      refine ⟨?_,?_,?_⟩ <;> grind
    · rw [List.getElem?_set_ne (fun e=>hji e.symm)] at hj
      obtain ⟨d0,d1,d2⟩:=h5 j q hj
      refine ⟨?_,?_,?_⟩ <;> grind

theorem Tbl.set_head {w:World} {T G:Nat} {ps:List Pg} (h:Tbl w T G ps) {i:Nat} {b:Bool} {s g:Int} (hi:ps[i]?=some (b,s,g)) (c d:Int) :
    Tbl ((w.setCell ⟨G,i * 3+1,none⟩ (.int .i64 c)).setCell ⟨G,i * 3+1+1,none⟩ (.int .i64 d)) T G (ps.set i (b,c,d)):=by
  have hne:=h.ne_
  have hlt:i < ps.length:=(List.getElem?_eq_some_iff.1 hi).1
  obtain ⟨cap,cur,hT,hG,h1,h2,h3,h4,h5⟩:=h
  refine ⟨cap,(cur.setIfInBounds (i * 3+1) (.int .i64 c)).setIfInBounds (i * 3+1+1) (.int .i64 d),?_,?_,by simpa using h1,by simpa using h2,h3,by simpa using h4,?_⟩
  · rw [List.length_set]
    exact (hT.far hne _).far hne _
  · exact (hG.set_ _ _).set_ _ _
  · intro j q hj
    by_cases hji:j=i
    · subst hji
      rw [List.getElem?_set_self hlt] at hj
      obtain rfl:(b,c,d)=q:=by simpa using hj
      obtain ⟨d0,d1,d2⟩:=h5 j _ hi
      have e0:j * 3+1+1 < cur.size:=by omega
      refine ⟨?_,?_,?_⟩ <;> grind
    · rw [List.getElem?_set_ne (fun e=>hji e.symm)] at hj
      obtain ⟨d0,d1,d2⟩:=h5 j q hj
      refine ⟨?_,?_,?_⟩ <;> grind

theorem Tbl.fr {w w':World} {S:Nat→Prop} {T G:Nat} {ps:List Pg} (h:Tbl w T G ps) (hf:Fr S w w') (hT:¬ S T) (hG:¬ S G):Tbl w' T G ps:=by
  obtain ⟨cap,cur,a,b,h1,h2,h3,h4,h5⟩:=h
  exact ⟨cap,cur,a.fr hf hT,b.fr hf hG,h1,h2,h3,h4,h5⟩

theorem setPg_fr {S:Nat→Prop} {a w:World} (h:Fr S a w) {G:Nat} (hG:S G∨a.heap.size≤G) (i:Nat) (p:Pg):Fr S a (setPg w G i p):=((h.setCell hG _).setCell hG _).setCell hG _

theorem setPg_only (w:World) (G i:Nat) (p:Pg):Fr (only G) w (setPg w G i p):=setPg_fr (Fr.refl (only G) w) (.inl (Eq.refl G)) i p

theorem head_err (o:Option Addr) (n:Int) (k:Int) (w:World)
    (hat:∀ w1:World,Fr none_ w w1→Calls Tryz.prog 87 #[.pointer o,.int .i64 n] w1 fun e w'=>e=.returned (.tuple #[.pointer none,errV k])∧w1=w') :
    Calls Tryz.prog 89 #[.pointer o,.int .i64 n] w fun e w'=>e=.returned (.tuple #[.agg #[.int .i64 0,.int .i64 0],errV k])∧Fr none_ w w':=by
  have H:=hid_ hat
  clear hat
  go_enter Tryz.func89,Tryz.ntmps89
  go_wp2_with (go_at_call 87;refine (H.out _ ((Fr.refl _ _).alloc _)).mono ?_;rintro e w' ⟨rfl,rfl⟩)
  exact bodyPost_ret (v:=.tuple #[.agg #[.int .i64 0,.int .i64 0],errV k]) (by simp [results,Tryz.results89,go_sem]) rfl ⟨rfl,(Fr.refl _ _).alloc _⟩

theorem head_ok (T G:Nat) (ps:List Pg) (i:Nat) (s g:Int) (w:World) (h:Tbl w T G ps) (hi:ps[i]?=some (true,s,g)) :
    Calls Tryz.prog 89 #[.pointer (some ⟨T,0,none⟩),.int .i64 i] w fun e w'=>e=.returned (.tuple #[.agg #[.int .i64 s,.int .i64 g],.nilIface])∧Fr none_ w w':=by
  have h':=h
  obtain ⟨cap,cur,hT,hG,h1,h2,h3,h4,h5⟩:=h
  obtain ⟨d0,d1,d2⟩:=h5 i _ hi
  have c2:=hG.cell' d1
  have c3:=hG.cell' d2
  have hlt:=hG.lt
  have H:=hid_ h'
  have Hi:=hid_ hi
  clear hT hG h5 d0 d1 d2 h' hi
  go_enter Tryz.func89,Tryz.ntmps89
  go_wp2_with (go_at_call 87;refine (mapAt_ok T G ps i s g _ (H.out.fr ((Fr.refl none_ _).alloc _) id id) Hi.out).mono ?_;rintro e w' ⟨rfl,rfl⟩)
  exact bodyPost_ret (v:=.tuple #[.agg #[.int .i64 s,.int .i64 g],.nilIface]) (by simp [results,Tryz.results89,go_sem]) rfl ⟨rfl,(Fr.refl _ _).alloc _⟩

theorem swap_err (o:Option Addr) (n:Int) (k a b c d:Int) (w:World)
    (hat:∀ w1:World,Fr none_ w w1→Calls Tryz.prog 87 #[.pointer o,.int .i64 n] w1 fun e w'=>e=.returned (.tuple #[.pointer none,errV k])∧w1=w') :
    Calls Tryz.prog 50 #[.pointer o,.int .i64 n,.agg #[.int .i64 a,.int .i64 b],.agg #[.int .i64 c,.int .i64 d]] w fun e w'=>e=.returned (.tuple #[.bool false,errV k])∧Fr none_ w w':=by
  have H:=hid_ hat
  clear hat
  go_enter Tryz.func50,Tryz.ntmps50
  go_wp2_with (go_at_call 87;refine (H.out _ (((Fr.refl _ _).alloc _).alloc _)).mono ?_;rintro e w' ⟨rfl,rfl⟩)
  go_ret2
  exact ⟨rfl,((Fr.refl _ _).alloc _).alloc _⟩

theorem swap_ok (T G:Nat) (ps:List Pg) (i:Nat) (s g a b c d:Int) (w:World) (h:Tbl w T G ps) (hi:ps[i]?=some (true,s,g)) :
    Calls Tryz.prog 50 #[.pointer (some ⟨T,0,none⟩),.int .i64 i,.agg #[.int .i64 a,.int .i64 b],.agg #[.int .i64 c,.int .i64 d]] w fun e w' =>
      e=.returned (.tuple #[.bool (s==a && g==b),.nilIface])∧Tbl w' T G (if s=a∧g=b then ps.set i (true,c,d) else ps)∧Fr (only G) w w':=by
  have h':=h
  obtain ⟨cap,cur,hT,hG,h1,h2,h3,h4,h5⟩:=h
  obtain ⟨d0,d1,d2⟩:=h5 i _ hi
  have c2:=hG.cell' d1
  have c3:=hG.cell' d2
  have f:=hG.frozen
  have f1:=f (i * 3+1)
  have f2:=f (i * 3+1+1)
  have hlt:=hG.lt
  have H:=hid_ h'
  have Hi:=hid_ hi
  clear hT hG h5 d0 d1 d2 h' hi f
  by_cases hc:s=a∧g=b
  · obtain ⟨rfl,rfl⟩:=hc
    go_enter Tryz.func50,Tryz.ntmps50
    go_wp2_with (go_at_call 87;refine (mapAt_ok T G ps i s g _ (H.out.fr (((Fr.refl none_ _).alloc _).alloc _) id id) Hi.out).mono ?_;rintro e w' ⟨rfl,rfl⟩)
    go_region
    all_goals go_wp2
    go_ret2
    exact ⟨rfl,(H.out.set_head Hi.out c d).fr ((((Fr.refl none_ _).alloc _).alloc _).drew) id id,(((((Fr.refl (only G) w).setCell (p:=⟨G,i * 3+1,none⟩) (.inl (Eq.refl G)) _).setCell (p:=⟨G,i * 3+1+1,none⟩) (.inl (Eq.refl G)) _).alloc _).alloc _).drew⟩
  · have hq:∀ w,(binOp .neq 23 (.agg #[.int .i64 s,.int .i64 g]) (.agg #[.int .i64 a,.int .i64 b])).run Tryz.prog w=.ok (.bool true) w:=fun w=>by
      rw [neq_ref]
      have:(s==a && g==b)=false:=by simpa using hc
      rw [this];rfl
    have Hc:=hid_ hc
    clear hc
    go_enter Tryz.func50,Tryz.ntmps50
    go_wp2_with (go_at_call 87;refine (mapAt_ok T G ps i s g _ (H.out.fr (((Fr.refl none_ _).alloc _).alloc _) id id) Hi.out).mono ?_;rintro e w' ⟨rfl,rfl⟩)
    go_region
    all_goals go_wp2
    go_ret2
    refine ⟨?_,?_,?_⟩
    · have:(s==a && g==b)=false:=by simpa using Hc.out
      rw [this];rfl
    · exact H.out.fr ((((Fr.refl none_ _).alloc _).alloc _).drew) id id
    · exact (((Fr.refl _ _).alloc _).alloc _).drew

open Go.RowKit

structure RaP where
  xs:Int
  xg:Int
  R:Rc
  A:Option Addr
  c:Nat
  B:Option Addr
  d:Nat
  live:Bool
abbrev ptLA (p:RaP):List Value:=[.int .i64 p.xs,.int .i64 p.xg,.int .i64 p.R.kind,.string p.R.low,.string p.R.high,.bool p.R.unb,.int .i64 p.R.right,.slice p.A p.R.rows.length p.c,.slice p.B p.R.ents.length p.d,.string p.R.key,.string p.R.val,.int .i64 p.R.page,.int .i64 p.R.hpage,.int .i64 p.R.hleft,.string p.R.hkey,.int .i64 p.R.nslot,.int .i64 p.R.ngen,.bool p.live]
def ptFlat (L:List RaP):List Value:=(L.map ptLA).flatten
theorem ptFlat_snoc (L:List RaP) (p:RaP):ptFlat (L ++ [p])=ptFlat L ++ ptLA p:=by simp [ptFlat]
theorem ptFlat_one (L:List RaP):∀ u ∈ ptFlat L,u.oneCell'=true:=by
  intro u hu
  simp only [ptFlat,List.mem_flatten,List.mem_map] at hu
  obtain ⟨l,⟨p,_,rfl⟩,hu⟩:=hu
  simp only [List.mem_cons,List.not_mem_nil,or_false] at hu
  rcases hu with rfl | rfl | rfl | rfl | rfl | rfl | rfl | rfl | rfl | rfl | rfl | rfl | rfl | rfl | rfl | rfl | rfl | rfl <;> rfl
theorem ptFlat_get:∀ (L:List RaP) (k:Nat) (p:RaP),L[k]?=some p→∀ (j:Nat) (v:Value),(ptLA p)[j]?=some v→(ptFlat L)[k * 18+j]?=some v
  | [],k,p,h,_,_,_=>by simp at h
  | q :: L,0,p,h,j,v,hv=>by
    obtain rfl:q=p:=by simpa using h
    have hj:j < (ptLA q).length:=(List.getElem?_eq_some_iff.1 hv).1
    rw [Nat.zero_mul,Nat.zero_add]
    show (((q :: L).map ptLA).flatten)[j]?=some v
    rw [List.map_cons,List.flatten_cons,List.getElem?_append_left hj]
    exact hv
  | q :: L,k+1,p,h,j,v,hv=>by
    have:=ptFlat_get L k p (by simpa using h) j v hv
    show (((q :: L).map ptLA).flatten)[(k+1) * 18+j]?=some v
    rw [List.map_cons,List.flatten_cons,List.getElem?_append_right (by simp;omega),show (k+1) * 18+j - (ptLA q).length=k * 18+j by simp;omega]
    exact this
structure RaIn (w:World) (L:List RaP) (A:Option Addr) (c:Nat):Prop where
  rd:Reads w 18 A L.length (ptFlat L)
  cap:L.length≤c
  capm:c≤maxLen
  len:L.length≤5000
  recs:∀ p ∈ L,RecReads w p.R p.A p.B
  sz:∀ p ∈ L,p.R.rows.length≤1000∧p.R.ents.length≤1000
theorem RaIn.keep {w w':World} {L:List RaP} {A:Option Addr} {c:Nat} (h:RaIn w L A c) (hf:Fr none_ w w'):RaIn w' L A c:=⟨h.rd.none_fr hf,h.cap,h.capm,h.len,fun p hp=>(h.recs p hp).keep hf,h.sz⟩
theorem RaIn.nil (w:World):RaIn w [] none 0:=⟨Reads.nil_,Nat.le_refl _,Nat.zero_le _,Nat.zero_le _,(fun p hp=>by cases hp),(fun p hp=>by cases hp)⟩
theorem RaIn.at_ {w:World} {L:List RaP} {A:Option Addr} {c:Nat} (h:RaIn w L A c) {k:Nat} {p:RaP} (hp:L[k]?=some p):∃ b off,A=some ⟨b,off,none⟩∧b < w.heap.size∧∀ (j:Nat) (v:Value),(ptLA p)[j]?=some v→w.cell? ⟨b,off+k * 18+j,none⟩=some v:=by
  obtain ⟨b,off,e,hb,hc⟩:=reads_lit h.rd (by omega) (by have:=(List.getElem?_eq_some_iff.1 hp).1;omega)
  refine ⟨b,off,e,hb,fun j v hv=>?_⟩
  have:=hc _ _ (ptFlat_get L k p hp j v hv)
  rwa [← Nat.add_assoc] at this
abbrev raA (slots last:Int) (L:List RaP) (A:Option Addr) (c:Nat):Array Value:=#[.int .i64 slots,.int .i64 last,.slice A L.length c]
abbrev raV (slots last:Int) (L:List RaP) (A:Option Addr) (c:Nat):Value:=.agg (raA slots last L A c)
def slotTo (L:List RaP) (n:Int):Nat→Int × Bool
  | 0=>(0,false)
  | k+1=>match L[k]? with
    | some p=>if p.xs=n then (p.xg,p.live) else slotTo L n k
    | none=>slotTo L n k
abbrev slotP (L:List RaP) (n:Int):Int × Bool:=slotTo L n L.length
theorem slot_hit {L:List RaP} {n:Int} {k:Nat} {p:RaP} (hp:L[k]?=some p) (h:p.xs=n):slotTo L n (k+1)=(p.xg,p.live):=by simp [slotTo,hp,h]
theorem slot_miss {L:List RaP} {n:Int} {k:Nat} {p:RaP} (hp:L[k]?=some p) (h:¬ p.xs=n):slotTo L n (k+1)=slotTo L n k:=by simp [slotTo,hp,h]
set_option maxHeartbeats 4000000 in
theorem rslot_ok (slots last:Int) (L:List RaP) (A:Option Addr) (c:Nat) (n:Int) (w:World) (h:RaIn w L A c):Calls Tryz.prog 119 #[raV slots last L A c,.int .i64 n] w fun e w'=>e=.returned (.tuple #[.int .i64 (slotP L n).1,.bool (slotP L n).2])∧Fr none_ w w':=by
  obtain ⟨w0,hw0⟩:∃ z,z=w.alloc (.cells (raA slots last L A c) 74):=⟨_,rfl⟩
  have f0:Fr none_ w w0:=by rw [hw0];exact (Fr.refl none_ w).alloc _
  have BV:Hid (Blk w0 w.heap.size 74 (raA slots last L A c)):=hid_ (by rw [hw0];exact Blk.new w _ _)
  have F0:=hid_ f0
  have H:=hid_ (h.keep f0)
  have hl:=h.len
  clear h f0
  go_enter Tryz.func119,Tryz.ntmps119
  go_upto_region 1 with fail
  change Code.wp _ _ _ _ (w.alloc (.cells (raA slots last L A c) 74))
  rw [← hw0]
  clear hw0
  go_wp2_with fail
  go_loopw [6,7,8] (fun g u i wr=>∃ k:Nat,k≤L.length∧i=.int .i64 k∧g=.int .i64 (slotTo L n k).1∧u=.bool (slotTo L n k).2∧w0=wr) (fun _ _ i _=>L.length - (intOf i).toNat)
  case atStart=>exact ⟨0,Nat.zero_le _,rfl,rfl,rfl,rfl⟩
  case round =>
    obtain ⟨k,hk,rfl,rfl,rfl,rfl⟩:=hrel
    have hi0:(0:Int)≤(k:Int):=Int.natCast_nonneg _
    have v2:w0.cell? ⟨w.heap.size,2,none⟩=some (.slice A L.length c):=BV.out.cell' rfl
    by_cases hlt:k < L.length
    · obtain ⟨p,hp⟩:∃ p,L[k]?=some p:=⟨_,List.getElem?_eq_getElem hlt⟩
      obtain ⟨b,off,rfl,hb,hc⟩:=H.out.at_ hp
      have d0:w0.cell? ⟨b,off+k * 18,none⟩=some (.int .i64 p.xs):=hc 0 _ rfl
      have d1:w0.cell? ⟨b,off+k * 18+1,none⟩=some (.int .i64 p.xg):=hc 1 _ rfl
      have d17:w0.cell? ⟨b,off+k * 18+17,none⟩=some (.bool p.live):=hc 17 _ rfl
      have HP:=hid_ hp
      have hi1:(k:Int) < (L.length:Int):=by omega
      clear hp hc
      by_cases hx:p.xs=n
      · have hd:(p.xs==n)=true:=by simpa using hx
        have HX:=hid_ hx
        clear hx
        go_wp2_with fail
        go_roundw
        case rel=>exact ⟨k+1,by omega,by go_num,by rw [slot_hit HP.out HX.out],by rw [slot_hit HP.out HX.out],by first | rfl | trivial⟩
        case measure=>simp [intOf];omega
      · have hd:(p.xs==n)=false:=by simpa using hx
        have HX:=hid_ hx
        clear hx
        go_wp2_with fail
        go_roundw
        case rel=>exact ⟨k+1,by omega,by go_num,by rw [slot_miss HP.out HX.out],by rw [slot_miss HP.out HX.out],by first | rfl | trivial⟩
        case measure=>simp [intOf];omega
    · obtain rfl:k=L.length:=by omega
      go_wp2_with fail
      go_ret2
      exact ⟨rfl,F0.out⟩
def FindIs (L:List RaP) (s g:Int) (k:Int):Prop:=
  (∃ (i:Nat) (p:RaP),k=(i:Int)∧L[i]?=some p∧p.xs=s∧p.xg=g∧p.live=true∧∀ (j:Nat) (q:RaP),j < i→L[j]?=some q→¬ (q.xs=s∧q.xg=g∧q.live=true))∨(k=-1∧∀ (j:Nat) (q:RaP),L[j]?=some q→¬ (q.xs=s∧q.xg=g∧q.live=true))
def FindPost (L:List RaP) (s g:Int) (w:World) (e:Ending) (w':World):Prop:=∃ k,FindIs L s g k∧e=.returned (.int .i64 k)∧Fr none_ w w'
set_option maxHeartbeats 8000000 in
theorem rafind_ok (slots last:Int) (L:List RaP) (A:Option Addr) (c:Nat) (s g:Int) (w:World) (h:RaIn w L A c):Calls Tryz.prog 93 #[raV slots last L A c,.agg #[.int .i64 s,.int .i64 g]] w (FindPost L s g w):=by
 obtain ⟨w0,hw0⟩:∃ z,z=(w.alloc (.cells (raA slots last L A c) 74)).alloc (.cells #[.int .i64 s,.int .i64 g] 23):=⟨_,rfl⟩
 have f0:Fr none_ w w0:=by rw [hw0];exact ((Fr.refl none_ w).alloc _).alloc _
 have BV:Hid (Blk w0 w.heap.size 74 (raA slots last L A c)):=hid_ (by rw [hw0];exact (Blk.new w _ _).alloc _)
 have BX:Hid (Blk w0 (w.heap.size+1) 23 #[.int .i64 s,.int .i64 g]):=hid_ (by
  have:=Blk.new (w.alloc (.cells (raA slots last L A c) 74)) 23 #[.int .i64 s,.int .i64 g]
  rw [World.size_alloc] at this
  rw [hw0];exact this)
 have F0:=hid_ f0
 have H:=hid_ (h.keep f0)
 have hl:=h.len
 clear h f0
 go_enter Tryz.func93,Tryz.ntmps93
 go_upto_region 1 with fail
 change Code.wp _ _ _ _ ((w.alloc (.cells (raA slots last L A c) 74)).alloc (.cells #[.int .i64 s,.int .i64 g] 23))
 rw [← hw0]
 clear hw0
 go_wp2_with fail
 go_loopw [5] (fun i wr=>∃ k:Nat,k≤L.length∧i=.int .i64 k∧(∀ (j:Nat) (q:RaP),j < k→L[j]?=some q→¬ (q.xs=s∧q.xg=g∧q.live=true))∧Fr none_ w0 wr) (fun i _=>L.length - (intOf i).toNat)
 case atStart=>exact ⟨0,Nat.zero_le _,rfl,fun j q hj=>by omega,Fr.refl _ _⟩
 case round =>
  obtain ⟨k,hk,rfl,hall,hfr⟩:=hrel
  have HA:=hid_ hall
  have FR:=hid_ hfr
  have hi0:(0:Int)≤(k:Int):=Int.natCast_nonneg _
  have v2:wr.cell? ⟨w.heap.size,2,none⟩=some (.slice A L.length c):=(BV.out.fr hfr id).cell' rfl
  have x0:wr.cell? ⟨w.heap.size+1,0,none⟩=some (.int .i64 s):=(BX.out.fr hfr id).cell' rfl
  have x1:wr.cell? ⟨w.heap.size+1,1,none⟩=some (.int .i64 g):=(BX.out.fr hfr id).cell' rfl
  clear hall hfr
  by_cases hlt:k < L.length
  ·obtain ⟨p,hp⟩:∃ p,L[k]?=some p:=⟨_,List.getElem?_eq_getElem hlt⟩
   obtain ⟨b,off,rfl,hb,hc⟩:=(H.out.keep FR.out).at_ hp
   have d0:wr.cell? ⟨b,off+k * 18,none⟩=some (.int .i64 p.xs):=hc 0 _ rfl
   have d1:wr.cell? ⟨b,off+k * 18+1,none⟩=some (.int .i64 p.xg):=hc 1 _ rfl
   have d17:wr.cell? ⟨b,off+k * 18+17,none⟩=some (.bool p.live):=hc 17 _ rfl
   have HP:=hid_ hp
   have hi1:(k:Int) < (L.length:Int):=by omega
   clear hp hc
   by_cases hx:p.xs=s∧p.xg=g
   ·have hq:∀ w',(binOp .eql 23 (.agg #[.int .i64 p.xs,.int .i64 p.xg]) (.agg #[.int .i64 s,.int .i64 g])).run Tryz.prog w'=.ok (.bool true) w':=fun w'=>by rw [eql_ref];simp [hx.1,hx.2]
    have HX:=hid_ hx
    clear hx
    cases hlv:p.live with
    | true =>
     have HV:=hid_ hlv
     rw [hlv] at d17
     clear hlv
     go_wp2_with fail
     go_quiet (fail)
     go_wp2_with fail
     go_ret
     exact ⟨(k:Int),.inl ⟨k,p,rfl,HP.out,HX.out.1,HX.out.2,HV.out,HA.out⟩,rfl,F0.out.then_none (by repeat (first | exact FR.out | apply Fr.drewN | apply Fr.drew))⟩
    | false =>
     have HV:=hid_ hlv
     rw [hlv] at d17
     clear hlv
     go_wp2_with fail
     go_quiet (fail)
     go_wp2_with fail
     go_roundw
     case rel =>
      refine ⟨k+1,by omega,by go_num,fun j q hj hq=>?_,by repeat (first | exact FR.out | apply Fr.drewN | apply Fr.drew)⟩
      rcases Nat.lt_succ_iff_lt_or_eq.1 hj with h | rfl
      ·exact HA.out j q h hq
      ·obtain rfl:=Option.some.inj (HP.out.symm.trans hq)
       rintro ⟨_,_,e⟩
       rw [HV.out] at e;cases e
     case measure=>simp [intOf];omega
   ·have hq:∀ w',(binOp .eql 23 (.agg #[.int .i64 p.xs,.int .i64 p.xg]) (.agg #[.int .i64 s,.int .i64 g])).run Tryz.prog w'=.ok (.bool false) w':=fun w'=>by
     have hd:(p.xs==s && p.xg==g)=false:=by
      cases h1:(p.xs==s) with
      | false=>rfl
      | true =>
       cases h2:(p.xg==g) with
       | false=>rfl
       | true=>exact absurd ⟨by simpa using h1,by simpa using h2⟩ hx
     rw [eql_ref,hd]
    have HX:=hid_ hx
    clear hx d17
    go_wp2_with fail
    go_quiet (fail)
    go_wp2_with fail
    go_roundw
    case rel =>
     refine ⟨k+1,by omega,by go_num,fun j q hj hq=>?_,by repeat (first | exact FR.out | apply Fr.drewN | apply Fr.drew)⟩
     rcases Nat.lt_succ_iff_lt_or_eq.1 hj with h | rfl
     ·exact HA.out j q h hq
     ·obtain rfl:=Option.some.inj (HP.out.symm.trans hq)
      rintro ⟨e1,e2,_⟩
      exact HX.out ⟨e1,e2⟩
    case measure=>simp [intOf];omega
  ·have hi1:¬ (k:Int) < (L.length:Int):=by omega
   go_wp2_with fail
   go_ret
   exact ⟨-1,.inr ⟨rfl,fun j q hq=>HA.out j q (by have:=(List.getElem?_eq_some_iff.1 hq).1;omega) hq⟩,rfl,F0.out.then_none FR.out⟩
open Go

section
variable {P:Program} {md:Region.Mode} {ops:Array Oper} {Q:Exit→Act→World→Prop} {S:World→Prop}
theorem wpAnyT_two {m i j:Nat} {oi oj:Oper} {fuel:Nat} {listed:Array Bool} {a:Act} {w:World} (hi:ops[i]?=some oi) (hj:ops[j]?=some oj) (gi:oi.guard=none) (gj:oj.guard=none) (hr:Region.ready md ops listed=[i,j])
    (h1:Oper.wp P oi a w (fun a' w'=>(i=m∨S w')∧wpAnyT P md ops Q S m fuel (listed.setIfInBounds i true) a' w') Q)
    (h2:Oper.wp P oj a w (fun a' w'=>(j=m∨S w')∧wpAnyT P md ops Q S m fuel (listed.setIfInBounds j true) a' w') Q):wpAnyT P md ops Q S m (fuel+1) listed a w:=by
  refine wpAnyT_all hr (by simp) (fun k hk=>?_)
  have hk':k=i∨k=j:=by simpa using hk
  rcases hk' with rfl | rfl
  · unfold wpOp
    have hw:Region.wanted oi (yielded ops a.tmps)=true:=by simp [Region.wanted,gi]
    simp only [hi,hw,if_true]
    exact .inl h1
  · unfold wpOp
    have hw:Region.wanted oj (yielded ops a.tmps)=true:=by simp [Region.wanted,gj]
    simp only [hj,hw,if_true]
    exact .inl h2
def wpAnyU (P:Program) (md:Region.Mode) (ops:Array Oper) (Q:Exit→Act→World→Prop) (S:World→Prop) (m:Nat):Nat→Array Bool→Act→World→Prop
  | 0,listed,a,w=>Region.ready md ops listed=[]∧Q .normal a w
  | fuel+1,listed,a,w =>
    (Region.ready md ops listed=[]→Q .normal a w) ∧
    ∀ i ∈ Region.ready md ops listed,wpOp P ops Q i (fun a' w'=>(m≤i∨S w')∧wpAnyU P md ops Q S m fuel (listed.setIfInBounds i true) a' w') a w
theorem wpAny_of_U {m:Nat}:∀ (fuel:Nat) (listed:Array Bool) (a:Act) (w:World),wpAnyU P md ops Q S m fuel listed a w→wpAny P md ops Q fuel listed a w
  | 0,_,_,_,h=>h
  | fuel+1,_,_,_,h=>⟨h.1,fun i hi=>wpOp_mono (fun a' w' h'=>wpAny_of_U fuel _ a' w' h'.2) (h.2 i hi)⟩
theorem wpAnyU_first2 {m i f:Nat} {oi:Oper} {v:Value} (hi:ops[i]?=some oi) (hsel:∀ (j:Nat) (o:Oper) cs b,ops[j]?=some o→o.op≠.select cs b)
    (hQ:∀ c a w,Q (.panic c) (a.put oi.dst v) w→Q (.panic c) a w) (hm:∀ j,j < ops.size→m≤j→j≠i→waitsB md ops f j i=true) :
    ∀ (fuel:Nat) (listed:Array Bool) (a:Act) (w:World),Closed md ops listed →
      (∀ j oj,ops[j]?=some oj→j≠i→listed.getD j true=false→(∀ e ∈ oj.after,Region.binds md e=true→e.on≠i)→oi.apart ops oj=true) →
      i ∈ Region.ready md ops listed→YieldsIf P ops S oi v a→S w →
      wpAnyU P md ops Q S m fuel (listed.setIfInBounds i true) (a.put oi.dst v) w→wpAnyU P md ops Q S m (fuel+1) listed a w:=by
  intro fuel
  induction fuel with
  | zero =>
    intro listed a w hc _ hr hy hS H
    refine ⟨fun h=>(by rw [h] at hr;cases hr),fun j hj=>?_⟩
    by_cases hji:j=i
    · subst hji;exact hy.wpOp hi hS ⟨.inr hS,H⟩
    · have:=ready_mono hj hji
      rw [H.1] at this
      cases this
  | succ fuel ih =>
    intro listed a w hc hfree hr hy hS H
    refine ⟨fun h=>(by rw [h] at hr;cases hr),fun j hj=>?_⟩
    by_cases hji:j=i
    · subst hji;exact hy.wpOp hi hS ⟨.inr hS,H⟩
    · have h1:=H.2 j (ready_mono hj hji)
      obtain ⟨hjun,oj,hoj,hall⟩:=mem_ready.1 hj
      have hnot:∀ e ∈ oj.after,Region.binds md e=true→e.on≠i:=fun e he hb heq=>by
        have h1:=hall e he hb
        have h0:=(mem_ready.1 hr).1
        rw [heq] at h1
        rcases Nat.lt_or_ge i listed.size with h' | h'
        · simp [h'] at h0 h1;rw [h0] at h1;cases h1
        · simp [Array.getElem?_eq_none h'] at h1
      have hjm:¬ m≤j:=fun hmj=>ready_waits hc hj (hm j (Array.getElem?_eq_some_iff.1 hoj).1 hmj hji) hr
      have h2:=wpOp_putIf hoj (hfree j oj hoj hji hjun hnot) (fun cs b=>hsel i oi cs b hi) (fun cs b=>hsel j oj cs b hoj) hQ hy h1
      have hfree':∀ k ok,ops[k]?=some ok→k≠i→(listed.setIfInBounds j true).getD k true=false →
          (∀ e ∈ ok.after,Region.binds md e=true→e.on≠i)→oi.apart ops ok=true:=fun k ok hk hki hun hno=>by
        refine hfree k ok hk hki ?_ hno
        by_cases hjk:j=k
        · subst hjk;exact hjun
        · rw [getD_set_ne true hjk] at hun;exact hun
      refine wpOp_mono (fun a' w' h3=>?_) h2
      have hs:S w':=h3.2.1.resolve_left hjm
      refine ⟨.inr hs,ih (listed.setIfInBounds j true) a' w' (hc.set hj) hfree' (ready_mono hr (Ne.symm hji)) h3.1 hs ?_⟩
      rw [Array.setIfInBounds_comm _ _ hji]
      exact h3.2.2
theorem wpAnyU_take2 {m i:Nat} {oi:Oper} {v:Value} {fuel:Nat} {listed:Array Bool} {a:Act} {w:World} (hi:ops[i]?=some oi)
    (hs:Region.noSelect ops=true) (hf:Region.free md ops listed i=true) (hr:(Region.ready md ops listed).contains i=true)
    (hm:((List.range ops.size).all (fun j=>!decide (m≤j) || decide (j=i) || waitsB md ops ops.size j i) && closedB md ops listed)=true)
    (hQ:∀ c a w,Q (.panic c) (a.put oi.dst v) w→Q (.panic c) a w) (hy:YieldsIf P ops S oi v a) (hS:S w)
    (h:wpAnyU P md ops Q S m fuel (listed.setIfInBounds i true) (a.put oi.dst v) w):wpAnyU P md ops Q S m (fuel+1) listed a w:=by
  rw [Bool.and_eq_true] at hm
  exact wpAnyU_first2 hi (Region.noSelect_spec hs) hQ (fun j hj hmj hji=>by have:=List.all_eq_true.1 hm.1 j (List.mem_range.2 hj);simpa [hmj,hji] using this) fuel listed a w (closed_of hm.2) (Region.free_spec hi hf) (by simpa using hr) hy hS h
theorem wpAnyU_all {m:Nat} {rs:List Nat} {fuel:Nat} {listed:Array Bool} {a:Act} {w:World} (hr:Region.ready md ops listed=rs) (hne:rs≠[])
    (h:∀ i ∈ rs,wpOp P ops Q i (fun a' w'=>(m≤i∨S w')∧wpAnyU P md ops Q S m fuel (listed.setIfInBounds i true) a' w') a w):wpAnyU P md ops Q S m (fuel+1) listed a w:=
  ⟨fun h0=>absurd (hr ▸ h0) hne,hr ▸ h⟩
theorem wpAnyU_one {m i:Nat} {oi:Oper} {fuel:Nat} {listed:Array Bool} {a:Act} {w:World} (hi:ops[i]?=some oi) (hg:oi.guard=none) (hr:Region.ready md ops listed=[i])
    (h:Oper.wp P oi a w (fun a' w'=>(m≤i∨S w')∧wpAnyU P md ops Q S m fuel (listed.setIfInBounds i true) a' w') Q):wpAnyU P md ops Q S m (fuel+1) listed a w:=by
  refine wpAnyU_all hr (by simp) (fun j hj=>?_)
  obtain rfl:j=i:=by simpa using hj
  unfold wpOp
  have hw:Region.wanted oi (yielded ops a.tmps)=true:=by simp [Region.wanted,hg]
  simp only [hi,hw,if_true]
  exact .inl h
theorem wpAnyU_two {m i j:Nat} {oi oj:Oper} {fuel:Nat} {listed:Array Bool} {a:Act} {w:World} (hi:ops[i]?=some oi) (hj:ops[j]?=some oj) (gi:oi.guard=none) (gj:oj.guard=none) (hr:Region.ready md ops listed=[i,j])
    (h1:Oper.wp P oi a w (fun a' w'=>(m≤i∨S w')∧wpAnyU P md ops Q S m fuel (listed.setIfInBounds i true) a' w') Q)
    (h2:Oper.wp P oj a w (fun a' w'=>(m≤j∨S w')∧wpAnyU P md ops Q S m fuel (listed.setIfInBounds j true) a' w') Q):wpAnyU P md ops Q S m (fuel+1) listed a w:=by
  refine wpAnyU_all hr (by simp) (fun k hk=>?_)
  have hk':k=i∨k=j:=by simpa using hk
  rcases hk' with rfl | rfl
  · unfold wpOp
    have hw:Region.wanted oi (yielded ops a.tmps)=true:=by simp [Region.wanted,gi]
    simp only [hi,hw,if_true]
    exact .inl h1
  · unfold wpOp
    have hw:Region.wanted oj (yielded ops a.tmps)=true:=by simp [Region.wanted,gj]
    simp only [hj,hw,if_true]
    exact .inl h2
theorem wpAnyU_done {m:Nat} {listed:Array Bool} {a:Act} {w:World} (hr:Region.ready md ops listed=[]) (h:Q .normal a w):∀ fuel,wpAnyU P md ops Q S m fuel listed a w
  | 0=>⟨hr,h⟩
  | _+1=>⟨fun _=>h,by rw [hr];simp⟩
theorem wp_region_U {id m:Nat} {a:Act} {w:World} (hm:P.follows .mixedOrders=true)
    (h:wpAnyU P .any ops Q S m ops.size (Array.replicate ops.size false) a w.drew):(Code.region id ops true).wp P Q a w:=
  wp_region_any hm (wpAny_of_U _ _ _ _ h)
end
open Go.RowKit

theorem Blk.there4 {w:World} {g n:Nat} {t:TypeId} {cs:Array Value} (h:Blk w g t cs) (hn:cs.size=n):w.there g 0 n:=by
  subst hn
  intro j hj
  refine ⟨?_,h.frozen _⟩
  rw [h.cell,Nat.zero_add,Array.getElem?_eq_getElem hj]
  rfl
theorem Blk.new_at4 {w:World} {b:Nat} (t:TypeId) (cs:Array Value) (h:b=w.heap.size):Blk (w.alloc (.cells cs t)) b t cs:=by
  subst h
  exact Blk.new w t cs
theorem Blk.over4 {w:World} {g:Nat} {t:TypeId} {zs:Array Value} (h:Blk w g t zs) (vs:List Value) (hz:zs.size=vs.length):Blk (w.setCells g 0 vs) g t vs.toArray∧Fr (only g) w (w.setCells g 0 vs):=by
  refine ⟨?_,Fr.setCells _ _ _ (Fr.refl _ _) (.inl rfl)⟩
  have h:=Blk.setCells vs 0 _ _ h
  have e:setA zs 0 vs=vs.toArray:=by
    apply Array.ext_getElem?
    intro k
    rcases Nat.lt_or_ge k vs.length with h1 | h1
    · have:=setA_in vs zs 0 k vs[k] (List.getElem?_eq_getElem h1) (by omega)
      rw [Nat.zero_add] at this
      rw [this,List.getElem?_toArray,List.getElem?_eq_getElem h1]
    · rw [Array.getElem?_eq_none (by rw [setA_size];omega),Array.getElem?_eq_none (by simpa using h1)]
  rwa [e] at h
section
variable {P:Program} {md:Region.Mode} {ops:Array Oper} {Q:Exit→Act→World→Prop} {S:World→Prop}
theorem wpAnyU_oneR {m i:Nat} {oi:Oper} {fuel:Nat} {listed:Array Bool} {a:Act} {w:World} (hi:ops[i]?=some oi) (hw:Region.wanted oi (yielded ops a.tmps)=true) (hr:Region.ready md ops listed=[i])
    (h:Oper.wp P oi a w (fun a' w'=>(m≤i∨S w')∧wpAnyU P md ops Q S m fuel (listed.setIfInBounds i true) a' w') Q):wpAnyU P md ops Q S m (fuel+1) listed a w:=by
  refine wpAnyU_all hr (by simp) (fun j hj=>?_)
  obtain rfl:j=i:=by simpa using hj
  unfold wpOp
  simp only [hi,hw,if_true]
  exact .inl h
end
def newOk (slots last:Int):Bool:=decide (1≤slots) && decide (slots≤4096) && decide (1≤last) && decide (last≤1099511627776)
def newV (slots last:Int):Value:=if newOk slots last=true then raV slots last [] none 0 else raV 0 0 [] none 0
def RNewPost (slots last:Int) (w:World) (e:Ending) (w':World):Prop:=e=.returned (.tuple #[newV slots last,.bool (newOk slots last)])∧Fr none_ w w'
set_option maxHeartbeats 4000000 in
theorem ranew_ok (slots last:Int) (w:World):Calls Tryz.prog 94 #[.int .i64 slots,.int .i64 last] w (RNewPost slots last w):=by
 have Z:=Blk.new w 74 #[.int .i64 0,.int .i64 0,.slice none 0 0]
 by_cases h0:slots < 1
 ·have hd0:decide (slots < 1)=true:=by simpa using h0
  have hN:=hid_ (show newOk slots last=false by simp [newOk];omega)
  go_enter Tryz.func94,Tryz.ntmps94
  go_wp2_with fail
  have q0:=Z.cell' (i:=0) rfl
  have q1:=Z.cell' (i:=1) rfl
  have q2:=Z.cell' (i:=2) rfl
  refine bodyPost_ret (v:=.tuple #[raV 0 0 [] none 0,.bool false]) ?_ rfl ⟨by rw [newV,if_neg (by rw [hN.out];decide),hN.out],(Fr.refl none_ w).alloc _⟩
  simp [results,Tryz.results94,go_sem,q0,q1,q2]
 ·have hd0:decide (slots < 1)=false:=by simpa using h0
  by_cases h1:slots > 4096
  ·have hd1:decide (slots > 4096)=true:=by simpa using h1
   have hN:=hid_ (show newOk slots last=false by simp [newOk];omega)
   go_enter Tryz.func94,Tryz.ntmps94
   go_wp2_with fail
   have q0:=Z.cell' (i:=0) rfl
   have q1:=Z.cell' (i:=1) rfl
   have q2:=Z.cell' (i:=2) rfl
   refine bodyPost_ret (v:=.tuple #[raV 0 0 [] none 0,.bool false]) ?_ rfl ⟨by rw [newV,if_neg (by rw [hN.out];decide),hN.out],(Fr.refl none_ w).alloc _⟩
   simp [results,Tryz.results94,go_sem,q0,q1,q2]
  ·have hd1:decide (slots > 4096)=false:=by simpa using h1
   by_cases h2:last < 1
   ·have hd2:decide (last < 1)=true:=by simpa using h2
    have hN:=hid_ (show newOk slots last=false by simp [newOk];omega)
    go_enter Tryz.func94,Tryz.ntmps94
    go_wp2_with fail
    have q0:=Z.cell' (i:=0) rfl
    have q1:=Z.cell' (i:=1) rfl
    have q2:=Z.cell' (i:=2) rfl
    refine bodyPost_ret (v:=.tuple #[raV 0 0 [] none 0,.bool false]) ?_ rfl ⟨by rw [newV,if_neg (by rw [hN.out];decide),hN.out],(Fr.refl none_ w).alloc _⟩
    simp [results,Tryz.results94,go_sem,q0,q1,q2]
   ·have hd2:decide (last < 1)=false:=by simpa using h2
    by_cases h3:last > 1099511627776
    ·have hd3:decide (last > 1099511627776)=true:=by simpa using h3
     have hN:=hid_ (show newOk slots last=false by simp [newOk];omega)
     go_enter Tryz.func94,Tryz.ntmps94
     go_wp2_with fail
     have q0:=Z.cell' (i:=0) rfl
     have q1:=Z.cell' (i:=1) rfl
     have q2:=Z.cell' (i:=2) rfl
     refine bodyPost_ret (v:=.tuple #[raV 0 0 [] none 0,.bool false]) ?_ rfl ⟨by rw [newV,if_neg (by rw [hN.out];decide),hN.out],(Fr.refl none_ w).alloc _⟩
     simp [results,Tryz.results94,go_sem,q0,q1,q2]
    ·have hd3:decide (last > 1099511627776)=false:=by simpa using h3
     have hN:=hid_ (show newOk slots last=true by simp [newOk];omega)
     go_enter Tryz.func94,Tryz.ntmps94
     go_wp2_with fail
     have q:=Blk.new w 74 #[.int .i64 slots,.int .i64 last,.slice none 0 0]
     have q0:=q.cell' (i:=0) rfl
     have q1:=q.cell' (i:=1) rfl
     have q2:=q.cell' (i:=2) rfl
     refine bodyPost_ret (v:=.tuple #[raV slots last [] none 0,.bool true]) ?_ rfl ⟨by rw [newV,if_pos hN.out,hN.out],?_⟩
     ·simp [results,Tryz.results94,go_sem,q0,q1,q2]
     ·exact (Fr.refl none_ w).alloc _
theorem pt_one (p:RaP):∀ u ∈ ptLA p,u.oneCell'=true:=by
  have:=ptFlat_one [p]
  simpa [ptFlat] using this
theorem reads_blk4 {w:World} {t:TypeId} {cs:List Value} {b:Nat} (h:Blk w b t cs.toArray):Reads w cs.length (some ⟨b,0,none⟩) 1 cs:=
  ⟨by simp,fun _=>⟨_,rfl,fun j u hu=>by rw [add_lit,Nat.zero_add];exact h.cell' (by simpa using hu)⟩⟩
theorem rput_info:(Tryz.prog.info? 133).map (fun i=>(i.zero,i.size,i.bytes))=some (some (.agg (ptLA ⟨0,0,Rc.zero,none,0,none,0,false⟩).toArray),18,216):=by kernel_rfl
def whyTo (L:List RaP):Nat→Int
  | 0=>3
  | n+1=>if (slotP L ((n:Int)+1)).2=false then 5 else whyTo L n
def NoSlot (last:Int) (L:List RaP) (n:Nat):Prop:=∀ j:Nat,1≤j→j≤n→(slotP L j).2=true∨last≤(slotP L j).1
theorem NoSlot.zero (last:Int) (L:List RaP):NoSlot last L 0:=fun j h1 h2=>by omega
theorem NoSlot.snoc {last:Int} {L:List RaP} {n:Nat} (h:NoSlot last L n) (h1:(slotP L (n+1:Nat)).2=true∨last≤(slotP L (n+1:Nat)).1):NoSlot last L (n+1):=by
  intro j hj hj2
  rcases Nat.lt_or_eq_of_le hj2 with h' | rfl
  · exact h j hj (by omega)
  · exact h1
def RAllocPost (slots last:Int) (L:List RaP) (R:Rc) (A:Option Addr) (c:Nat) (A':Option Addr) (ca:Nat) (B':Option Addr) (cb:Nat) (w:World) (e:Ending) (w':World):Prop:=
  (∃ (i:Nat) (A2:Option Addr) (c2:Nat),(i:Int)+1≤slots∧NoSlot last L i∧(slotP L (i+1:Nat)).2=false∧(slotP L (i+1:Nat)).1 < last∧e=.returned (.tuple #[raV slots last (L ++ [⟨(i:Int)+1,(slotP L (i+1:Nat)).1+1,R,A',ca,B',cb,true⟩]) A2 c2,.agg #[.int .i64 ((i:Int)+1),.int .i64 ((slotP L (i+1:Nat)).1+1)],.int .i64 0])∧RaIn w' (L ++ [⟨(i:Int)+1,(slotP L (i+1:Nat)).1+1,R,A',ca,B',cb,true⟩]) A2 c2∧(∀ ad,A2=some ad→w.heap.size≤ad.block)∧Fr none_ w w') ∨
  (NoSlot last L slots.toNat∧e=.returned (.tuple #[raV slots last L A c,.agg #[.int .i64 0,.int .i64 0],.int .i64 (whyTo L slots.toNat)])∧RaIn w' L A c∧Fr none_ w w')
set_option maxHeartbeats 16000000 in
theorem ralloc_ok (slots last:Int) (L:List RaP) (A:Option Addr) (c:Nat) (R:Rc) (A':Option Addr) (ca:Nat) (B':Option Addr) (cb:Nat) (w:World) (hs1:1≤slots) (hs2:slots≤4096) (hlast:last≤1099511627776) (hgen:∀ n:Nat,0≤(slotP L n).1) (hlen:L.length < 5000) (h:RaIn w L A c) (hr:RecReads w R A' B') (hz:R.rows.length≤1000∧R.ents.length≤1000) :
  Calls Tryz.prog 97 #[raV slots last L A c,.agg (recA R (.slice A' R.rows.length ca) (.slice B' R.ents.length cb))] w (RAllocPost slots last L R A c A' ca B' cb w):=by
 obtain ⟨w0,hw0⟩:∃ z,z=(((w.alloc (.cells (raA slots last L A c) 74)).alloc (.cells (recA R (.slice A' R.rows.length ca) (.slice B' R.ents.length cb)) 33)).alloc (.cells #[.int .i64 0,.int .i64 0,.slice none 0 0] 74)).alloc (.cells #[.int .i64 0,.int .i64 0] 23):=⟨_,rfl⟩
 have f0:Fr none_ w w0:=by rw [hw0];exact ((((Fr.refl none_ w).alloc _).alloc _).alloc _).alloc _
 have BV:Hid (Blk w0 w.heap.size 74 (raA slots last L A c)):=hid_ (by rw [hw0];exact (((Blk.new w _ _).alloc _).alloc _).alloc _)
 have BR:Hid (Blk w0 (w.heap.size+1) 33 (recA R (.slice A' R.rows.length ca) (.slice B' R.ents.length cb))):=hid_ (by rw [hw0];exact ((Blk.new_at4 _ _ (by simp)).alloc _).alloc _)
 have BA:Hid (Blk w0 (w.heap.size+1+1) 74 #[.int .i64 0,.int .i64 0,.slice none 0 0]):=hid_ (by rw [hw0];exact (Blk.new_at4 _ _ (by simp)).alloc _)
 have BX:Hid (Blk w0 (w.heap.size+1+1+1) 23 #[.int .i64 0,.int .i64 0]):=hid_ (by rw [hw0];exact Blk.new_at4 _ _ (by simp))
 have HW:=hid_ h
 have HRW:=hid_ hr
 have H:=hid_ (h.keep f0)
 have HR:=hid_ (hr.keep f0)
 have HZ:=hid_ hz
 have HG:=hid_ hgen
 have F0:=hid_ f0
 have hlt0:=BX.out.lt
 have hcap:=h.cap
 have hcm:=h.capm
 unfold maxLen at hcm
 clear f0 h hr hz hgen
 go_enter Tryz.func97,Tryz.ntmps97
 go_upto_region 3 with fail
 change Code.wp _ _ _ _ ((((w.alloc (.cells (raA slots last L A c) 74)).alloc (.cells (recA R (.slice A' R.rows.length ca) (.slice B' R.ents.length cb)) 33)).alloc (.cells #[.int .i64 0,.int .i64 0,.slice none 0 0] 74)).alloc (.cells #[.int .i64 0,.int .i64 0] 23))
 rw [← hw0]
 clear hw0
 go_wp2_with fail
 go_loopw [7,8] (fun y i wr=>∃ n:Nat,(n:Int)≤slots∧i=.int .i64 ((n:Int)+1)∧y=.int .i64 (whyTo L n)∧NoSlot last L n∧Fr none_ w0 wr) (fun _ i _=>slots.toNat+1 - (intOf i).toNat)
 case atStart=>exact ⟨0,by omega,rfl,rfl,NoSlot.zero _ _,Fr.refl _ _⟩
 case round =>
  obtain ⟨n,hn,rfl,rfl,hno,hfr⟩:=hrel
  have NO:=hid_ hno
  have FR:=hid_ hfr
  have v0:wr.cell? ⟨w.heap.size,0,none⟩=some (.int .i64 slots):=(BV.out.fr hfr id).cell' rfl
  have v1:wr.cell? ⟨w.heap.size,1,none⟩=some (.int .i64 last):=(BV.out.fr hfr id).cell' rfl
  have v2:wr.cell? ⟨w.heap.size,2,none⟩=some (.slice A L.length c):=(BV.out.fr hfr id).cell' rfl
  clear hno hfr
  by_cases hlt:(n:Int)+1≤slots
  ·have hd:decide ((n:Int)+1≤slots)=true:=by simpa using hlt
   go_wp2_with fail
   refine (rslot_ok slots last L A c ((n:Int)+1) wr (H.out.keep FR.out)).mono ?_
   rintro e wa ⟨rfl,hf⟩
   have FA:=hid_ (FR.out.then_none hf)
   clear v0 v1 v2 hf
   obtain ⟨g,hg⟩:∃ g,(slotP L ((n:Int)+1)).1=g:=⟨_,rfl⟩
   obtain ⟨u,hu⟩:∃ u,(slotP L ((n:Int)+1)).2=u:=⟨_,rfl⟩
   have hg0:0≤g:=by rw [← hg];exact HG.out (n+1)
   rw [hg,hu]
   have HGU:=hid_ (And.intro hg hu)
   clear hg hu
   have v1:wa.cell? ⟨w.heap.size,1,none⟩=some (.int .i64 last):=(BV.out.fr FA.out id).cell' rfl
   cases u with
   | true =>
    go_wp2_with fail
    go_roundw
    case rel=>exact ⟨n+1,by omega,by go_num,by rw [whyTo,if_neg (show ¬ (slotP L ((n:Int)+1)).2=false by rw [HGU.out.2];decide)],NO.out.snoc (.inl HGU.out.2),FA.out⟩
    case measure=>simp [intOf];omega
   | false =>
    by_cases hgl:g < last
    ·have hd2:decide (g < last)=true:=by simpa using hgl
    
     have hwr:IntKind.i64.wrap (g+1)=g+1:=IntWalk.i64_in _ (by omega)
     have hSZ:=hlt0
     have hwa:=FA.out.size
     go_upto_region 8 with fail
     obtain ⟨w1,hw1⟩:∃ z,z=(wa.alloc (.cells #[.int .i64 ((n:Int)+1),.int .i64 (g+1)] 23)):=⟨_,rfl⟩
     have f1:Fr none_ wa w1:=by rw [hw1];exact (Fr.refl none_ wa).alloc _
     have BT:Hid (Blk w1 wa.heap.size 23 #[.int .i64 ((n:Int)+1),.int .i64 (g+1)]):=hid_ (by rw [hw1];exact Blk.new wa _ _)
     have ht1:wa.heap.size < w1.heap.size:=BT.out.lt
     change Code.wp _ _ _ _ (wa.alloc (.cells #[.int .i64 ((n:Int)+1),.int .i64 (g+1)] 23))
     rw [← hw1]
     clear hw1
     have F1:=hid_ (FA.out.then_none f1)
     clear f1 v1
     replace BV:=hid_ (BV.out.fr F1.out id)
     replace BR:=hid_ (BR.out.fr F1.out id)
     replace BA:=hid_ (BA.out.fr F1.out id)
     replace BX:=hid_ (BX.out.fr F1.out id)
     replace H:=hid_ (H.out.keep F1.out)
     replace HR:=hid_ (HR.out.keep F1.out)
     obtain ⟨i0,hi0,hx0⟩:=Option.map_eq_some_iff.1 rput_info
     injection hx0 with hz0 hx0
     injection hx0 with hs0 hb0
     have Hi:=hid_ (And.intro hi0 (And.intro hz0 (And.intro hs0 hb0)))
     clear hi0 hz0 hs0 hb0
     have FW1:=hid_ (Fr.refl none_ w1)
     go_cut [44] (fun u wq=>∃ (A2:Option Addr) (c2:Nat),u=.slice A2 (L.length+1) c2∧wq.ownsRow w1.heap.size 133 18 (.slice A2 (L.length+1) c2) (L.length+1) (ptFlat L ++ ptLA (⟨(n:Int)+1,g+1,R,A',ca,B',cb,true⟩:RaP))∧Blk wq w.heap.size 74 #[.int .i64 slots,.int .i64 last,.slice A2 (L.length+1) c2]∧Fr (only w.heap.size) w1 wq)
     case first =>
      have v2:w1.cell? ⟨w.heap.size,2,none⟩=some (.slice A L.length c):=BV.out.cell' rfl
      have t0:w1.cell? ⟨wa.heap.size,0,none⟩=some (.int .i64 ((n:Int)+1)):=BT.out.cell' rfl
      have t1:w1.cell? ⟨wa.heap.size,1,none⟩=some (.int .i64 (g+1)):=BT.out.cell' rfl
      have r0:w1.cell? ⟨w.heap.size+1,0,none⟩=some (.int .i64 R.kind):=BR.out.cell' rfl
      have r1:w1.cell? ⟨w.heap.size+1,1,none⟩=some (.string R.low):=BR.out.cell' rfl
      have r2:w1.cell? ⟨w.heap.size+1,2,none⟩=some (.string R.high):=BR.out.cell' rfl
      have r3:w1.cell? ⟨w.heap.size+1,3,none⟩=some (.bool R.unb):=BR.out.cell' rfl
      have r4:w1.cell? ⟨w.heap.size+1,4,none⟩=some (.int .i64 R.right):=BR.out.cell' rfl
      have r5:w1.cell? ⟨w.heap.size+1,5,none⟩=some ((.slice A' R.rows.length ca)):=BR.out.cell' rfl
      have r6:w1.cell? ⟨w.heap.size+1,6,none⟩=some ((.slice B' R.ents.length cb)):=BR.out.cell' rfl
      have r7:w1.cell? ⟨w.heap.size+1,7,none⟩=some (.string R.key):=BR.out.cell' rfl
      have r8:w1.cell? ⟨w.heap.size+1,8,none⟩=some (.string R.val):=BR.out.cell' rfl
      have r9:w1.cell? ⟨w.heap.size+1,9,none⟩=some (.int .i64 R.page):=BR.out.cell' rfl
      have r10:w1.cell? ⟨w.heap.size+1,10,none⟩=some (.int .i64 R.hpage):=BR.out.cell' rfl
      have r11:w1.cell? ⟨w.heap.size+1,11,none⟩=some (.int .i64 R.hleft):=BR.out.cell' rfl
      have r12:w1.cell? ⟨w.heap.size+1,12,none⟩=some (.string R.hkey):=BR.out.cell' rfl
      have r13:w1.cell? ⟨w.heap.size+1,13,none⟩=some (.int .i64 R.nslot):=BR.out.cell' rfl
      have r14:w1.cell? ⟨w.heap.size+1,14,none⟩=some (.int .i64 R.ngen):=BR.out.cell' rfl
      have hS:(fun w':World=>Fr none_ w1 w') w1.drew:=(Fr.refl none_ w1).drew
      refine wp_region_U (m:=10) (S:=(fun w':World=>Fr none_ w1 w')) (by kernel_rfl) ?_
      refine wpAnyU_take2 (i:=1) (v:=_) rfl (by kernel_rfl) (by kernel_rfl) (by kernel_rfl) (by kernel_rfl) (fun _ _ _ h=>h) (.inl ⟨by kernel_rfl,fun w' hS=>by go_simp;rfl⟩) hS ?_
      refine wpAnyU_take2 (i:=2) (v:=_) rfl (by kernel_rfl) (by kernel_rfl) (by kernel_rfl) (by kernel_rfl) (fun _ _ _ h=>h) (.inl ⟨by kernel_rfl,fun w' hS=>by have s_:=cellFr v2 hS;go_simp;rfl⟩) hS ?_
      refine wpAnyU_take2 (i:=4) (v:=_) rfl (by kernel_rfl) (by kernel_rfl) (by kernel_rfl) (by kernel_rfl) (fun _ _ _ h=>h) (.inl ⟨by kernel_rfl,fun w' hS=>by have s_:=cellFr t0 hS;have s_1:=cellFr t1 hS;go_simp;rfl⟩) hS ?_
      refine wpAnyU_take2 (i:=5) (v:=_) rfl (by kernel_rfl) (by kernel_rfl) (by kernel_rfl) (by kernel_rfl) (fun _ _ _ h=>h) (.inl ⟨by kernel_rfl,fun w' hS=>by have s_0:=cellFr r0 hS;have s_1:=cellFr r1 hS;have s_2:=cellFr r2 hS;have s_3:=cellFr r3 hS;have s_4:=cellFr r4 hS;have s_5:=cellFr r5 hS;have s_6:=cellFr r6 hS;have s_7:=cellFr r7 hS;have s_8:=cellFr r8 hS;have s_9:=cellFr r9 hS;have s_10:=cellFr r10 hS;have s_11:=cellFr r11 hS;have s_12:=cellFr r12 hS;have s_13:=cellFr r13 hS;have s_14:=cellFr r14 hS;go_simp;rfl⟩) hS ?_
      refine wpAnyU_take2 (i:=6) (v:=_) rfl (by kernel_rfl) (by kernel_rfl) (by kernel_rfl) (by kernel_rfl) (fun _ _ _ h=>h) (.inl ⟨by kernel_rfl,fun w' hS=>by go_simp;rfl⟩) hS ?_
      clear v2 t0 t1 r0 r1 r2 r3 r4 r5 r6 r7 r8 r9 r10 r11 r12 r13 r14
      replace hS:Fr none_ w1 w1.drew:=hS
      refine wpAnyU_two (i:=0) (j:=7) rfl rfl rfl rfl (by kernel_rfl) ?_ ?_
      ·go_simp
       obtain ⟨y1,hy1⟩:∃ z,z=(w1.alloc (.cells #[] 133)).drew:=⟨_,rfl⟩
       have sy1:w1.heap.size < y1.heap.size:=by rw [hy1];simp [World.size_alloc]
       have fy2:Fr none_ w1 y1:=by rw [hy1];exact ((Fr.refl none_ _).alloc _).drew
       have OE:Hid (y1.ownsRow w1.heap.size 133 18 (.slice (some ⟨w1.heap.size,0,none⟩) 0 0) 0 []):=hid_ (by rw [hy1];exact own_none (own_empty w1 _ _ _ (Nat.le_refl _)) (Fr.refl none_ _).drew)
       have F3:=fy2
       change _∧wpAnyU _ _ _ _ _ _ _ _ _ ((w1.alloc (.cells #[] 133)).drew)
       rw [← hy1]
       refine ⟨F3,?_⟩
       clear hy1 
       refine wpAnyU_two (i:=3) (j:=7) rfl rfl rfl rfl (by kernel_rfl) ?_ ?_
       ·skip
        refine wp_append_any _ (.tmp 36) (.tmp 38) 72 rfl w1.heap.size 133 i0 _ 18 216 Tryz.underlying72 Hi.out.1 Hi.out.2.1 Hi.out.2.2.1 Hi.out.2.2.2 rfl (by omega) (.slice (some ⟨w1.heap.size,0,none⟩) 0 0) 0 [] rfl OE.out A L.length c (ptFlat L) rfl (H.out.rd.none_fr F3) (ptFlat_one L) (by simp only [maxLen];omega) (by omega) F3.size ?_
        intro A1 c1 y4 hown hgr
        simp only [Nat.zero_add,List.nil_append] at hown ⊢
        have O1:=hid_ hown
        have F5:=F3.grown hgr (fun k hk=>.inr (by have:=(OE.out.lt k hk).1;omega))
        refine ⟨.inr F5,?_⟩
        clear hown hgr
        refine wpAnyU_oneR (i:=7) rfl (by kernel_rfl) (by kernel_rfl) ?_
        go_simp
        obtain ⟨y6,hy6⟩:∃ z,z=y4.alloc (.cells (ptLA (⟨(n:Int)+1,g+1,R,A',ca,B',cb,true⟩:RaP)).toArray 133):=⟨_,rfl⟩
        have sy6:y4.heap.size < y6.heap.size:=by rw [hy6];simp [World.size_alloc]
        have fy7:Fr none_ y4 y6:=by rw [hy6];exact ((Fr.refl none_ _).alloc _)
        replace O1:=hid_ (own_none O1.out fy7)
        have BE:Hid (Blk y6 y4.heap.size 133 (ptLA (⟨(n:Int)+1,g+1,R,A',ca,B',cb,true⟩:RaP)).toArray):=hid_ (by rw [hy6];exact (Blk.new _ _ _))
        have F8:=F5.then_none fy7
        change _∧wpAnyU _ _ _ _ _ _ _ _ _ (y4.alloc (.cells (ptLA (⟨(n:Int)+1,g+1,R,A',ca,B',cb,true⟩:RaP)).toArray 133))
        rw [← hy6]
        refine ⟨F8,?_⟩
        clear hy6 fy7
        refine wpAnyU_oneR (i:=8) rfl (by kernel_rfl) (by kernel_rfl) ?_
        refine wp_append_any _ (.tmp 39) (.tmp 43) 72 rfl w1.heap.size 133 i0 _ 18 216 Tryz.underlying72 Hi.out.1 Hi.out.2.1 Hi.out.2.2.1 Hi.out.2.2.2 rfl (by omega) (.slice A1 L.length c1) L.length (ptFlat L) rfl O1.out (some ⟨y4.heap.size,0,none⟩) 1 1 (ptLA (⟨(n:Int)+1,g+1,R,A',ca,B',cb,true⟩:RaP)) rfl (reads_blk4 BE.out) (pt_one _) (by simp only [maxLen];omega) (by omega) F8.size ?_
        intro A2 c2 y9 hown hgr
        have O2:=hid_ hown
        have F10:=F8.grown hgr (fun k hk=>.inr (O1.out.lt k hk).1)
        refine ⟨.inr F10,?_⟩
        clear hown hgr
        have BZ:=BV.out.fr F10 id
        have z2:=BZ.cell' (i:=2) rfl
        have z2f:=BZ.frozen 2
        refine wpAnyU_take2 (i:=9) (v:=_) rfl (by kernel_rfl) (by kernel_rfl) (by kernel_rfl) (by kernel_rfl) (fun _ _ _ h=>h) (.inl ⟨by kernel_rfl,fun w' hS=>by go_simp;rfl⟩) F10 ?_
        refine wpAnyU_oneR (i:=10) rfl (by kernel_rfl) (by kernel_rfl) ?_
        go_simp
        have hst:Fr (only w.heap.size) y9 (y9.setCell ⟨w.heap.size,2,none⟩ (.slice A2 (L.length+1) c2)):=Fr.setCell (p:=⟨w.heap.size,2,none⟩) (Fr.refl (only w.heap.size) y9) (.inl rfl) _
        refine wpAnyU_done (by kernel_rfl) ?_ _
        go_wp2_with fail
        go_meet
        refine ⟨A2,c2,rfl,own_fr O2.out hst (fun k hk=>?_),BZ.set_ 2 _,Fr.setCell (p:=⟨w.heap.size,2,none⟩) ((Fr.refl (only w.heap.size) w1).then_none F10) (.inl rfl) _⟩
        ·have:=(O2.out.lt k hk).1
         exact only_ne (by omega)
       ·go_simp
        obtain ⟨y11,hy11⟩:∃ z,z=y1.alloc (.cells (ptLA (⟨(n:Int)+1,g+1,R,A',ca,B',cb,true⟩:RaP)).toArray 133):=⟨_,rfl⟩
        have sy11:y1.heap.size < y11.heap.size:=by rw [hy11];simp [World.size_alloc]
        have fy12:Fr none_ y1 y11:=by rw [hy11];exact ((Fr.refl none_ _).alloc _)
        replace OE:=hid_ (own_none OE.out fy12)
        have BE:Hid (Blk y11 y1.heap.size 133 (ptLA (⟨(n:Int)+1,g+1,R,A',ca,B',cb,true⟩:RaP)).toArray):=hid_ (by rw [hy11];exact (Blk.new _ _ _))
        have F13:=F3.then_none fy12
        change _∧wpAnyU _ _ _ _ _ _ _ _ _ (y1.alloc (.cells (ptLA (⟨(n:Int)+1,g+1,R,A',ca,B',cb,true⟩:RaP)).toArray 133))
        rw [← hy11]
        refine ⟨F13,?_⟩
        clear hy11 fy12
        refine wpAnyU_oneR (i:=3) rfl (by kernel_rfl) (by kernel_rfl) ?_
        refine wp_append_any _ (.tmp 36) (.tmp 38) 72 rfl w1.heap.size 133 i0 _ 18 216 Tryz.underlying72 Hi.out.1 Hi.out.2.1 Hi.out.2.2.1 Hi.out.2.2.2 rfl (by omega) (.slice (some ⟨w1.heap.size,0,none⟩) 0 0) 0 [] rfl OE.out A L.length c (ptFlat L) rfl (H.out.rd.none_fr F13) (ptFlat_one L) (by simp only [maxLen];omega) (by omega) F13.size ?_
        intro A1 c1 y14 hown hgr
        simp only [Nat.zero_add,List.nil_append] at hown ⊢
        have O1:=hid_ hown
        have F15:=F13.grown hgr (fun k hk=>.inr (by have:=(OE.out.lt k hk).1;omega))
        have sy14:=hgr.size
        replace BE:=hid_ (BE.out.fr (Fr.grown (S:=fun b=>(Value.slice (some ⟨w1.heap.size,0,none⟩) 0 0).ownBlock=some b) (Fr.refl _ _) hgr (fun k hk=>.inl hk)) (fun hk=>by simp [Value.ownBlock] at hk;omega))
        refine ⟨.inr F15,?_⟩
        clear hown hgr
        refine wpAnyU_oneR (i:=8) rfl (by kernel_rfl) (by kernel_rfl) ?_
        refine wp_append_any _ (.tmp 39) (.tmp 43) 72 rfl w1.heap.size 133 i0 _ 18 216 Tryz.underlying72 Hi.out.1 Hi.out.2.1 Hi.out.2.2.1 Hi.out.2.2.2 rfl (by omega) (.slice A1 L.length c1) L.length (ptFlat L) rfl O1.out (some ⟨y1.heap.size,0,none⟩) 1 1 (ptLA (⟨(n:Int)+1,g+1,R,A',ca,B',cb,true⟩:RaP)) rfl (reads_blk4 BE.out) (pt_one _) (by simp only [maxLen];omega) (by omega) F15.size ?_
        intro A2 c2 y16 hown hgr
        have O2:=hid_ hown
        have F17:=F15.grown hgr (fun k hk=>.inr (O1.out.lt k hk).1)
        refine ⟨.inr F17,?_⟩
        clear hown hgr
        have BZ:=BV.out.fr F17 id
        have z2:=BZ.cell' (i:=2) rfl
        have z2f:=BZ.frozen 2
        refine wpAnyU_take2 (i:=9) (v:=_) rfl (by kernel_rfl) (by kernel_rfl) (by kernel_rfl) (by kernel_rfl) (fun _ _ _ h=>h) (.inl ⟨by kernel_rfl,fun w' hS=>by go_simp;rfl⟩) F17 ?_
        refine wpAnyU_oneR (i:=10) rfl (by kernel_rfl) (by kernel_rfl) ?_
        go_simp
        have hst:Fr (only w.heap.size) y16 (y16.setCell ⟨w.heap.size,2,none⟩ (.slice A2 (L.length+1) c2)):=Fr.setCell (p:=⟨w.heap.size,2,none⟩) (Fr.refl (only w.heap.size) y16) (.inl rfl) _
        refine wpAnyU_done (by kernel_rfl) ?_ _
        go_wp2_with fail
        go_meet
        refine ⟨A2,c2,rfl,own_fr O2.out hst (fun k hk=>?_),BZ.set_ 2 _,Fr.setCell (p:=⟨w.heap.size,2,none⟩) ((Fr.refl (only w.heap.size) w1).then_none F17) (.inl rfl) _⟩
        ·have:=(O2.out.lt k hk).1
         exact only_ne (by omega)
      ·go_simp
       obtain ⟨y18,hy18⟩:∃ z,z=(w1.alloc (.cells (ptLA (⟨(n:Int)+1,g+1,R,A',ca,B',cb,true⟩:RaP)).toArray 133)).drew:=⟨_,rfl⟩
       have sy18:w1.heap.size < y18.heap.size:=by rw [hy18];simp [World.size_alloc]
       have fy19:Fr none_ w1 y18:=by rw [hy18];exact ((Fr.refl none_ _).alloc _).drew
       have BE:Hid (Blk y18 w1.heap.size 133 (ptLA (⟨(n:Int)+1,g+1,R,A',ca,B',cb,true⟩:RaP)).toArray):=hid_ (by rw [hy18];exact (Blk.new _ _ _).drew)
       have F20:=fy19
       change _∧wpAnyU _ _ _ _ _ _ _ _ _ ((w1.alloc (.cells (ptLA (⟨(n:Int)+1,g+1,R,A',ca,B',cb,true⟩:RaP)).toArray 133)).drew)
       rw [← hy18]
       refine ⟨F20,?_⟩
       clear hy18 
       refine wpAnyU_oneR (i:=0) rfl (by kernel_rfl) (by kernel_rfl) ?_
       go_simp
       obtain ⟨y21,hy21⟩:∃ z,z=y18.alloc (.cells #[] 133):=⟨_,rfl⟩
       have sy21:y18.heap.size < y21.heap.size:=by rw [hy21];simp [World.size_alloc]
       have fy22:Fr none_ y18 y21:=by rw [hy21];exact ((Fr.refl none_ _).alloc _)
       replace BE:=hid_ (BE.out.fr fy22 id)
       have OE:Hid (y21.ownsRow w1.heap.size 133 18 (.slice (some ⟨y18.heap.size,0,none⟩) 0 0) 0 []):=hid_ (by rw [hy21];exact own_empty y18 _ _ _ F20.size)
       have F23:=F20.then_none fy22
       change _∧wpAnyU _ _ _ _ _ _ _ _ _ (y18.alloc (.cells #[] 133))
       rw [← hy21]
       refine ⟨F23,?_⟩
       clear hy21 fy22
       refine wpAnyU_oneR (i:=3) rfl (by kernel_rfl) (by kernel_rfl) ?_
       refine wp_append_any _ (.tmp 36) (.tmp 38) 72 rfl w1.heap.size 133 i0 _ 18 216 Tryz.underlying72 Hi.out.1 Hi.out.2.1 Hi.out.2.2.1 Hi.out.2.2.2 rfl (by omega) (.slice (some ⟨y18.heap.size,0,none⟩) 0 0) 0 [] rfl OE.out A L.length c (ptFlat L) rfl (H.out.rd.none_fr F23) (ptFlat_one L) (by simp only [maxLen];omega) (by omega) F23.size ?_
       intro A1 c1 y24 hown hgr
       simp only [Nat.zero_add,List.nil_append] at hown ⊢
       have O1:=hid_ hown
       have F25:=F23.grown hgr (fun k hk=>.inr (by have:=(OE.out.lt k hk).1;omega))
       have sy24:=hgr.size
       replace BE:=hid_ (BE.out.fr (Fr.grown (S:=fun b=>(Value.slice (some ⟨y18.heap.size,0,none⟩) 0 0).ownBlock=some b) (Fr.refl _ _) hgr (fun k hk=>.inl hk)) (fun hk=>by simp [Value.ownBlock] at hk;omega))
       refine ⟨.inr F25,?_⟩
       clear hown hgr
       refine wpAnyU_oneR (i:=8) rfl (by kernel_rfl) (by kernel_rfl) ?_
       refine wp_append_any _ (.tmp 39) (.tmp 43) 72 rfl w1.heap.size 133 i0 _ 18 216 Tryz.underlying72 Hi.out.1 Hi.out.2.1 Hi.out.2.2.1 Hi.out.2.2.2 rfl (by omega) (.slice A1 L.length c1) L.length (ptFlat L) rfl O1.out (some ⟨w1.heap.size,0,none⟩) 1 1 (ptLA (⟨(n:Int)+1,g+1,R,A',ca,B',cb,true⟩:RaP)) rfl (reads_blk4 BE.out) (pt_one _) (by simp only [maxLen];omega) (by omega) F25.size ?_
       intro A2 c2 y26 hown hgr
       have O2:=hid_ hown
       have F27:=F25.grown hgr (fun k hk=>.inr (O1.out.lt k hk).1)
       refine ⟨.inr F27,?_⟩
       clear hown hgr
       have BZ:=BV.out.fr F27 id
       have z2:=BZ.cell' (i:=2) rfl
       have z2f:=BZ.frozen 2
       refine wpAnyU_take2 (i:=9) (v:=_) rfl (by kernel_rfl) (by kernel_rfl) (by kernel_rfl) (by kernel_rfl) (fun _ _ _ h=>h) (.inl ⟨by kernel_rfl,fun w' hS=>by go_simp;rfl⟩) F27 ?_
       refine wpAnyU_oneR (i:=10) rfl (by kernel_rfl) (by kernel_rfl) ?_
       go_simp
       have hst:Fr (only w.heap.size) y26 (y26.setCell ⟨w.heap.size,2,none⟩ (.slice A2 (L.length+1) c2)):=Fr.setCell (p:=⟨w.heap.size,2,none⟩) (Fr.refl (only w.heap.size) y26) (.inl rfl) _
       refine wpAnyU_done (by kernel_rfl) ?_ _
       go_wp2_with fail
       go_meet
       refine ⟨A2,c2,rfl,own_fr O2.out hst (fun k hk=>?_),BZ.set_ 2 _,Fr.setCell (p:=⟨w.heap.size,2,none⟩) ((Fr.refl (only w.heap.size) w1).then_none F27) (.inl rfl) _⟩
       ·have:=(O2.out.lt k hk).1
        exact only_ne (by omega)
     case rest =>
      obtain ⟨A2,c2,rfl,hown,hbv,hf⟩:=hcut
      have O2:=hid_ hown
      have HP:=own_parts hown
      have BW:=hid_ hbv
      have FW:=hid_ (Fr.refl none_ wc)
      replace BT:=hid_ (BT.out.fr hf (only_ne (by omega)))
      replace BA:=hid_ (BA.out.fr hf (only_ne (by omega)))
      replace BX:=hid_ (BX.out.fr hf (only_ne (by omega)))
      have F2:Hid (Fr none_ w wc):=hid_ ((F0.out.then_none F1.out).then_only hf (.inr (Nat.le_refl _)))
      clear hown hbv hf
      have v0:wc.cell? ⟨w.heap.size,0,none⟩=some (.int .i64 slots):=BW.out.cell' rfl
      have v1:wc.cell? ⟨w.heap.size,1,none⟩=some (.int .i64 last):=BW.out.cell' rfl
      have v2:wc.cell? ⟨w.heap.size,2,none⟩=some (.slice A2 (L.length+1) c2):=BW.out.cell' rfl
      have t0:wc.cell? ⟨wa.heap.size,0,none⟩=some (.int .i64 ((n:Int)+1)):=BT.out.cell' rfl
      have t1:wc.cell? ⟨wa.heap.size,1,none⟩=some (.int .i64 (g+1)):=BT.out.cell' rfl
      have ho2:∀ k,(Value.slice A2 (L.length+1) c2).ownBlock=some k→w1.heap.size≤k:=fun k hk=>(O2.out.lt k hk).1
      go_upto_region 9 with fail
      have hS:(fun w':World=>Blk w' w.heap.size 74 #[.int .i64 slots,.int .i64 last,.slice A2 (L.length+1) c2]∧Blk w' wa.heap.size 23 #[.int .i64 ((n:Int)+1),.int .i64 (g+1)]) wc.drew:=⟨BW.out.drew,BT.out.drew⟩
      refine wp_region_U (m:=5) (S:=(fun w':World=>Blk w' w.heap.size 74 #[.int .i64 slots,.int .i64 last,.slice A2 (L.length+1) c2]∧Blk w' wa.heap.size 23 #[.int .i64 ((n:Int)+1),.int .i64 (g+1)])) (by kernel_rfl) ?_
      refine wpAnyU_take2 (i:=0) (v:=_) rfl (by kernel_rfl) (by kernel_rfl) (by kernel_rfl) (by kernel_rfl) (fun _ _ _ h=>h) (.inl ⟨by kernel_rfl,fun w' hS=>by have s_0:=hS.1.cell' (i:=0) rfl;have s_1:=hS.1.cell' (i:=1) rfl;have s_2:=hS.1.cell' (i:=2) rfl;go_simp;rfl⟩) hS ?_
      refine wpAnyU_take2 (i:=1) (v:=_) rfl (by kernel_rfl) (by kernel_rfl) (by kernel_rfl) (by kernel_rfl) (fun _ _ _ h=>h) (.inl ⟨by kernel_rfl,fun w' hS=>by have s_0:=hS.2.cell' (i:=0) rfl;have s_1:=hS.2.cell' (i:=1) rfl;go_simp;rfl⟩) hS ?_
      replace BT:=hid_ BT.out.drew
      replace BW:=hid_ BW.out.drew
      replace BA:=hid_ BA.out.drew
      replace BX:=hid_ BX.out.drew
      replace F2:=hid_ F2.out.drew
      clear hS v0 v1 v2 t0 t1
      have hsz:=F2.out.size
      have FO:=hid_ ((Fr.refl (fun b=>b=w.heap.size+1+1∨b=w.heap.size+1+1+1) wc).drew)
      refine wpAnyU_oneR (i:=2) rfl (by kernel_rfl) (by kernel_rfl) ?_
      refine wp_store_mid 74 (.tmp 4) (.tmp 46) rfl (w.heap.size+1+1) 0 #[.int .i64 slots,.int .i64 last,.slice A2 (L.length+1) c2] rfl rfl (BA.out.there4 rfl) (by kernel_rfl) (by simp [Value.oneCell']) ?_
      obtain ⟨e1,he1⟩:∃ z,z=wc.drew.setCells (w.heap.size+1+1) 0 [.int .i64 slots,.int .i64 last,.slice A2 (L.length+1) c2]:=⟨_,rfl⟩
      have ove1:=Blk.over4 BA.out [.int .i64 slots,.int .i64 last,.slice A2 (L.length+1) c2] rfl
      rw [← he1] at ove1
      change _∧wpAnyU _ _ _ _ _ _ _ _ _ (wc.drew.setCells (w.heap.size+1+1) 0 [.int .i64 slots,.int .i64 last,.slice A2 (L.length+1) c2])
      rw [← he1]
      clear he1
      replace BX:=hid_ (BX.out.fr ove1.2 (only_ne (by omega)))
      replace BW:=hid_ (BW.out.fr ove1.2 (only_ne (by omega)))
      replace BT:=hid_ (BT.out.fr ove1.2 (only_ne (by omega)))
      replace FO:=hid_ (FO.out.then_only ove1.2 (.inl (by show _=_∨_=_;omega)))
      replace BA:=hid_ ove1.1
      replace F2:=hid_ (F2.out.then_only ove1.2 (.inr (by omega)))
      refine ⟨.inr ⟨BW.out,BT.out⟩,?_⟩
      refine wpAnyU_oneR (i:=3) rfl (by kernel_rfl) (by kernel_rfl) ?_
      refine wp_store_mid 23 (.tmp 5) (.tmp 47) rfl (w.heap.size+1+1+1) 0 #[.int .i64 ((n:Int)+1),.int .i64 (g+1)] rfl rfl (BX.out.there4 rfl) (by kernel_rfl) (by simp [Value.oneCell']) ?_
      obtain ⟨e2,he2⟩:∃ z,z=e1.setCells (w.heap.size+1+1+1) 0 [.int .i64 ((n:Int)+1),.int .i64 (g+1)]:=⟨_,rfl⟩
      have ove2:=Blk.over4 BX.out [.int .i64 ((n:Int)+1),.int .i64 (g+1)] rfl
      rw [← he2] at ove2
      change _∧wpAnyU _ _ _ _ _ _ _ _ _ (e1.setCells (w.heap.size+1+1+1) 0 [.int .i64 ((n:Int)+1),.int .i64 (g+1)])
      rw [← he2]
      clear he2
      replace BA:=hid_ (BA.out.fr ove2.2 (only_ne (by omega)))
      replace BW:=hid_ (BW.out.fr ove2.2 (only_ne (by omega)))
      replace BT:=hid_ (BT.out.fr ove2.2 (only_ne (by omega)))
      replace FO:=hid_ (FO.out.then_only ove2.2 (.inl (by show _=_∨_=_;omega)))
      replace BX:=hid_ ove2.1
      replace F2:=hid_ (F2.out.then_only ove2.2 (.inr (by omega)))
      refine ⟨.inr ⟨BW.out,BT.out⟩,?_⟩
      refine wpAnyU_oneR (i:=4) rfl (by kernel_rfl) (by kernel_rfl) ?_
      go_simp
      refine ⟨⟨BW.out,BT.out⟩,?_⟩
      refine wpAnyU_done (by kernel_rfl) ?_ _
      go_wp2_with fail
      have a0:=BA.out.cell' (i:=0) rfl
      have a1:=BA.out.cell' (i:=1) rfl
      have a2:=BA.out.cell' (i:=2) rfl
      have x0:=BX.out.cell' (i:=0) rfl
      have x1:=BX.out.cell' (i:=1) rfl
      have hln:(L ++ [(⟨(n:Int)+1,g+1,R,A',ca,B',cb,true⟩:RaP)]).length=L.length+1:=by simp
      refine bodyPost_ret (v:=.tuple #[.agg #[.int .i64 slots,.int .i64 last,.slice A2 (L.length+1) c2],.agg #[.int .i64 ((n:Int)+1),.int .i64 (g+1)],.int .i64 0]) ?_ rfl (Or.inl ⟨n,A2,c2,hlt,NO.out,HGU.out.2,(show (slotP L ((n:Int)+1)).1 < last by rw [HGU.out.1];exact hgl),?_,?_,(fun ad had=>by have:=ho2 ad.block (by rw [had];rfl);have:=FA.out.size;have:=F0.out.size;omega),F2.out⟩)
      ·simp [results,Tryz.results97,go_sem,a0,a1,a2,x0,x1]
      ·show _=Ending.returned (.tuple #[raV slots last (L ++ [⟨(n:Int)+1,(slotP L ((n:Int)+1)).1+1,R,A',ca,B',cb,true⟩]) A2 c2,.agg #[.int .i64 ((n:Int)+1),.int .i64 ((slotP L ((n:Int)+1)).1+1)],.int .i64 0])
       rw [HGU.out.1,show raV slots last (L ++ [(⟨(n:Int)+1,g+1,R,A',ca,B',cb,true⟩:RaP)]) A2 c2=.agg #[.int .i64 slots,.int .i64 last,.slice A2 (L.length+1) c2] by rw [raV,raA,hln]]
      ·show RaIn e2 (L ++ [⟨(n:Int)+1,(slotP L ((n:Int)+1)).1+1,R,A',ca,B',cb,true⟩]) A2 c2
       rw [HGU.out.1]
       obtain ⟨A3,c3,e3,hc3,hm3,-⟩:=HP
       cases e3
       have hO:e2.ownsRow w1.heap.size 133 18 (.slice A2 (L.length+1) c2) (L.length+1) (ptFlat L ++ ptLA (⟨(n:Int)+1,g+1,R,A',ca,B',cb,true⟩:RaP)):=own_fr O2.out FO.out (fun k hk=>by
        have:=ho2 k hk
        show ¬ (_=_∨_=_)
        omega)
       refine ⟨?_,by rw [hln];exact hc3,hm3,by rw [hln];omega,fun p hp=>?_,fun p hp=>?_⟩
       ·rw [hln,ptFlat_snoc];exact Reads.of_own hO
       ·rcases List.mem_append.1 hp with hp | hp
        ·exact (HW.out.recs p hp).keep F2.out
        ·obtain rfl:=List.mem_singleton.1 hp
         exact HRW.out.keep F2.out
       ·rcases List.mem_append.1 hp with hp | hp
        ·exact HW.out.sz p hp
        ·obtain rfl:=List.mem_singleton.1 hp
         exact HZ.out
    ·have hd2:decide (g < last)=false:=by simpa using hgl
     have hgl':last≤g:=by omega
     go_wp2_with fail
     go_roundw
     case rel=>exact ⟨n+1,by omega,by go_num,by rw [whyTo,if_pos (show (slotP L ((n:Int)+1)).2=false from HGU.out.2)],NO.out.snoc (.inr (show last≤(slotP L ((n:Int)+1)).1 by rw [HGU.out.1];exact hgl')),FA.out⟩
     case measure=>simp [intOf];omega
  ·have hd:decide ((n:Int)+1≤slots)=false:=by simpa using hlt
   obtain rfl:n=slots.toNat:=by omega
   replace BA:=hid_ (BA.out.fr FR.out id)
   replace BX:=hid_ (BX.out.fr FR.out id)
   have F2:=hid_ (F0.out.then_none FR.out)
   have hsz:=F2.out.size
   go_wp2_with (first | (refine wpList_store_mid rfl 74 (.tmp 4) (.tmp 50) rfl (w.heap.size+1+1) 0 #[.int .i64 slots,.int .i64 last,.slice A L.length c] rfl rfl (BA.out.there4 rfl) (by kernel_rfl) (by simp [Value.oneCell']) ?_;obtain ⟨e1,he1⟩:∃ z,z=wr.setCells (w.heap.size+1+1) 0 [.int .i64 slots,.int .i64 last,.slice A L.length c]:=⟨_,rfl⟩;have ove1:=Blk.over4 BA.out [.int .i64 slots,.int .i64 last,.slice A L.length c] rfl;rw [← he1] at ove1;change wpList _ _ _ _ _ (wr.setCells (w.heap.size+1+1) 0 [.int .i64 slots,.int .i64 last,.slice A L.length c]);rw [← he1];clear he1;replace BX:=hid_ (BX.out.fr ove1.2 (only_ne (by omega)));replace BA:=hid_ ove1.1;replace F2:=hid_ (F2.out.then_only ove1.2 (.inr (by omega)))) | (refine wpList_store_mid rfl 23 (.tmp 5) (.tmp 51) rfl (w.heap.size+1+1+1) 0 #[.int .i64 0,.int .i64 0] rfl rfl (BX.out.there4 rfl) (by kernel_rfl) (by simp [Value.oneCell']) ?_;obtain ⟨e2,he2⟩:∃ z,z=e1.setCells (w.heap.size+1+1+1) 0 [.int .i64 0,.int .i64 0]:=⟨_,rfl⟩;have ove2:=Blk.over4 BX.out [.int .i64 0,.int .i64 0] rfl;rw [← he2] at ove2;change wpList _ _ _ _ _ (e1.setCells (w.heap.size+1+1+1) 0 [.int .i64 0,.int .i64 0]);rw [← he2];clear he2;replace BA:=hid_ (BA.out.fr ove2.2 (only_ne (by omega)));replace BX:=hid_ ove2.1;replace F2:=hid_ (F2.out.then_only ove2.2 (.inr (by omega)))))
   have a0:=BA.out.cell' (i:=0) rfl
   have a1:=BA.out.cell' (i:=1) rfl
   have a2:=BA.out.cell' (i:=2) rfl
   have x0:=BX.out.cell' (i:=0) rfl
   have x1:=BX.out.cell' (i:=1) rfl
   refine bodyPost_ret (v:=.tuple #[raV slots last L A c,.agg #[.int .i64 0,.int .i64 0],.int .i64 (whyTo L slots.toNat)]) ?_ rfl (Or.inr ⟨NO.out,rfl,?_,F2.out⟩)
   ·simp [results,Tryz.results97,go_sem,a0,a1,a2,x0,x1]
   ·exact HW.out.keep F2.out
open Go.RowKit
def RLoadIs (slots:Int) (L:List RaP) (s g:Int) (R:Rc) (A B:Option Addr) (c d:Nat) (k:Int):Prop:=
  (¬ (1≤s∧s≤slots)∧R=Rc.zero∧A=none∧B=none∧c=0∧d=0∧k=1) ∨
  ((1≤s∧s≤slots)∧(∀ (j:Nat) (q:RaP),L[j]?=some q→¬ (q.xs=s∧q.xg=g∧q.live=true))∧R=Rc.zero∧A=none∧B=none∧c=0∧d=0∧k=4) ∨
  ((1≤s∧s≤slots)∧∃ (i:Nat) (p:RaP),FindIs L s g i∧L[i]?=some p∧p.xs=s∧p.xg=g∧p.live=true∧R=p.R∧A=p.A∧B=p.B∧c=p.c∧d=p.d∧k=0)
def RLoadPost (slots:Int) (L:List RaP) (s g:Int) (w:World) (e:Ending) (w':World):Prop:=
  ∃ R A B c d k,RLoadIs slots L s g R A B c d k∧e=.returned (.tuple #[.agg (recA R (.slice A R.rows.length c) (.slice B R.ents.length d)),.int .i64 k])∧RecReads w' R A B∧(R.rows.length≤1000∧R.ents.length≤1000)∧Fr none_ w w'
theorem zero_reads (w:World):RecReads w Rc.zero none none:=⟨Reads.nil_,Reads.nil_⟩
set_option maxHeartbeats 8000000 in
theorem rload_ok (slots last:Int) (L:List RaP) (A:Option Addr) (c:Nat) (s g:Int) (w:World) (h:RaIn w L A c):Calls Tryz.prog 55 #[raV slots last L A c,.agg #[.int .i64 s,.int .i64 g]] w (RLoadPost slots L s g w):=by
 obtain ⟨w0,hw0⟩:∃ z,z=((w.alloc (.cells (raA slots last L A c) 74)).alloc (.cells #[.int .i64 s,.int .i64 g] 23)).alloc (.cells (recA Rc.zero (.slice none 0 0) (.slice none 0 0)) 33):=⟨_,rfl⟩
 have f0:Fr none_ w w0:=by rw [hw0];exact (((Fr.refl none_ w).alloc _).alloc _).alloc _
 have BV:Hid (Blk w0 w.heap.size 74 (raA slots last L A c)):=hid_ (by rw [hw0];exact ((Blk.new w _ _).alloc _).alloc _)
 have BX:Hid (Blk w0 (w.heap.size+1) 23 #[.int .i64 s,.int .i64 g]):=hid_ (by rw [hw0];exact (Blk.new_at4 _ _ (by simp)).alloc _)
 have BR:Hid (Blk w0 (w.heap.size+1+1) 33 (recA Rc.zero (.slice none 0 0) (.slice none 0 0))):=hid_ (by rw [hw0];exact Blk.new_at4 _ _ (by simp))
 have HW:=hid_ h
 have H:=hid_ (h.keep f0)
 have F0:=hid_ f0
 have hlt0:=BR.out.lt
 have hl:=h.len
 clear f0 h
 go_enter Tryz.func55,Tryz.ntmps55
 go_upto_region 1 with fail
 change Code.wp _ _ _ _ (((w.alloc (.cells (raA slots last L A c) 74)).alloc (.cells #[.int .i64 s,.int .i64 g] 23)).alloc (.cells (recA Rc.zero (.slice none 0 0) (.slice none 0 0)) 33))
 rw [← hw0]
 clear hw0
 have v0:w0.cell? ⟨w.heap.size,0,none⟩=some (.int .i64 slots):=BV.out.cell' rfl
 have v1:w0.cell? ⟨w.heap.size,1,none⟩=some (.int .i64 last):=BV.out.cell' rfl
 have v2:w0.cell? ⟨w.heap.size,2,none⟩=some (.slice A L.length c):=BV.out.cell' rfl
 have x0:w0.cell? ⟨w.heap.size+1,0,none⟩=some (.int .i64 s):=BX.out.cell' rfl
 have x1:w0.cell? ⟨w.heap.size+1,1,none⟩=some (.int .i64 g):=BX.out.cell' rfl
 by_cases hd1:s < 1
 ·have e1:decide (s < 1)=true:=by simpa using hd1
  have hI:=hid_ (show ¬ (1≤s∧s≤slots) by omega)
  obtain ⟨wz,hz⟩:∃ z,z=w0:=⟨_,rfl⟩
  subst hz
  clear hd1
  go_wp2_with (refine wpList_store_mid rfl 33 (.tmp 4) (.tmp 17) rfl (w.heap.size+1+1) 0 (recA Rc.zero (.slice none 0 0) (.slice none 0 0)) rfl rfl (BR.out.there4 rfl) (by kernel_rfl) (by simp [Value.oneCell']) ?_;obtain ⟨e1,he1⟩:∃ z,z=wz.setCells (w.heap.size+1+1) 0 ((recA Rc.zero (.slice none 0 0) (.slice none 0 0))).toList:=⟨_,rfl⟩;have ove1:=Blk.over4 BR.out ((recA Rc.zero (.slice none 0 0) (.slice none 0 0))).toList rfl;rw [← he1] at ove1;change wpList _ _ _ _ _ (wz.setCells (w.heap.size+1+1) 0 ((recA Rc.zero (.slice none 0 0) (.slice none 0 0))).toList);rw [← he1];clear he1;replace BR:=hid_ ove1.1;replace F0:=hid_ (F0.out.then_only ove1.2 (.inr (by omega))))
  have r0:=BR.out.cell' (i:=0) rfl
  have r1:=BR.out.cell' (i:=1) rfl
  have r2:=BR.out.cell' (i:=2) rfl
  have r3:=BR.out.cell' (i:=3) rfl
  have r4:=BR.out.cell' (i:=4) rfl
  have r5:=BR.out.cell' (i:=5) rfl
  have r6:=BR.out.cell' (i:=6) rfl
  have r7:=BR.out.cell' (i:=7) rfl
  have r8:=BR.out.cell' (i:=8) rfl
  have r9:=BR.out.cell' (i:=9) rfl
  have r10:=BR.out.cell' (i:=10) rfl
  have r11:=BR.out.cell' (i:=11) rfl
  have r12:=BR.out.cell' (i:=12) rfl
  have r13:=BR.out.cell' (i:=13) rfl
  have r14:=BR.out.cell' (i:=14) rfl
  refine bodyPost_ret (v:=.tuple #[.agg (recA Rc.zero (.slice none 0 0) (.slice none 0 0)),.int .i64 1]) ?_ rfl ⟨_,_,_,_,_,_,Or.inl ⟨hI.out,rfl,rfl,rfl,rfl,rfl,rfl⟩,rfl,zero_reads _,⟨Nat.zero_le _,Nat.zero_le _⟩,F0.out⟩
  simp [results,Tryz.results55,go_sem,Rc.zero,r0,r1,r2,r3,r4,r5,r6,r7,r8,r9,r10,r11,r12,r13,r14]
 by_cases hd2:slots < s
 ·have e1:decide (s < 1)=false:=by simpa using hd1
  have e2:decide (slots < s)=true:=by simpa using hd2
  have e3:decide (s > slots)=true:=e2
  have hI:=hid_ (show ¬ (1≤s∧s≤slots) by omega)
  obtain ⟨wz,hz⟩:∃ z,z=w0:=⟨_,rfl⟩
  subst hz
  clear hd1 hd2
  go_wp2_with (refine wpList_store_mid rfl 33 (.tmp 4) (.tmp 17) rfl (w.heap.size+1+1) 0 (recA Rc.zero (.slice none 0 0) (.slice none 0 0)) rfl rfl (BR.out.there4 rfl) (by kernel_rfl) (by simp [Value.oneCell']) ?_;obtain ⟨e1,he1⟩:∃ z,z=wz.setCells (w.heap.size+1+1) 0 ((recA Rc.zero (.slice none 0 0) (.slice none 0 0))).toList:=⟨_,rfl⟩;have ove1:=Blk.over4 BR.out ((recA Rc.zero (.slice none 0 0) (.slice none 0 0))).toList rfl;rw [← he1] at ove1;change wpList _ _ _ _ _ (wz.setCells (w.heap.size+1+1) 0 ((recA Rc.zero (.slice none 0 0) (.slice none 0 0))).toList);rw [← he1];clear he1;replace BR:=hid_ ove1.1;replace F0:=hid_ (F0.out.then_only ove1.2 (.inr (by omega))))
  have r0:=BR.out.cell' (i:=0) rfl
  have r1:=BR.out.cell' (i:=1) rfl
  have r2:=BR.out.cell' (i:=2) rfl
  have r3:=BR.out.cell' (i:=3) rfl
  have r4:=BR.out.cell' (i:=4) rfl
  have r5:=BR.out.cell' (i:=5) rfl
  have r6:=BR.out.cell' (i:=6) rfl
  have r7:=BR.out.cell' (i:=7) rfl
  have r8:=BR.out.cell' (i:=8) rfl
  have r9:=BR.out.cell' (i:=9) rfl
  have r10:=BR.out.cell' (i:=10) rfl
  have r11:=BR.out.cell' (i:=11) rfl
  have r12:=BR.out.cell' (i:=12) rfl
  have r13:=BR.out.cell' (i:=13) rfl
  have r14:=BR.out.cell' (i:=14) rfl
  refine bodyPost_ret (v:=.tuple #[.agg (recA Rc.zero (.slice none 0 0) (.slice none 0 0)),.int .i64 1]) ?_ rfl ⟨_,_,_,_,_,_,Or.inl ⟨hI.out,rfl,rfl,rfl,rfl,rfl,rfl⟩,rfl,zero_reads _,⟨Nat.zero_le _,Nat.zero_le _⟩,F0.out⟩
  simp [results,Tryz.results55,go_sem,Rc.zero,r0,r1,r2,r3,r4,r5,r6,r7,r8,r9,r10,r11,r12,r13,r14]
 have e1:decide (s < 1)=false:=by simpa using hd1
 have e2:decide (slots < s)=false:=by simpa using hd2
 have e3:decide (s > slots)=false:=e2
 have hI:=hid_ (show 1≤s∧s≤slots by omega)
 clear hd1 hd2
 go_wp2_with fail
 refine (rafind_ok slots last L A c s g w0 H.out).mono ?_
 rintro e wz ⟨k,hk,rfl,hf⟩
 have HK:=hid_ hk
 clear v0 v1 v2 x0 x1
 replace F0:=hid_ (F0.out.then_none hf)
 replace BV:=hid_ (BV.out.fr hf id)
 replace BR:=hid_ (BR.out.fr hf id)
 replace H:=hid_ (H.out.keep hf)
 have hsz:=F0.out.size
 clear hf
 rcases hk with ⟨i,p,rfl,hp,hxs,hxg,hlv,_⟩ | ⟨rfl,hno⟩
 rotate_left
 ·have HN:=hid_ hno
  clear hno
  go_wp2_with (refine wpList_store_mid rfl 33 (.tmp 4) (.tmp 23) rfl (w.heap.size+1+1) 0 (recA Rc.zero (.slice none 0 0) (.slice none 0 0)) rfl rfl (BR.out.there4 rfl) (by kernel_rfl) (by simp [Value.oneCell']) ?_;obtain ⟨e1,he1⟩:∃ z,z=wz.setCells (w.heap.size+1+1) 0 ((recA Rc.zero (.slice none 0 0) (.slice none 0 0))).toList:=⟨_,rfl⟩;have ove1:=Blk.over4 BR.out ((recA Rc.zero (.slice none 0 0) (.slice none 0 0))).toList rfl;rw [← he1] at ove1;change wpList _ _ _ _ _ (wz.setCells (w.heap.size+1+1) 0 ((recA Rc.zero (.slice none 0 0) (.slice none 0 0))).toList);rw [← he1];clear he1;replace BR:=hid_ ove1.1;replace F0:=hid_ (F0.out.then_only ove1.2 (.inr (by omega))))
  have r0:=BR.out.cell' (i:=0) rfl
  have r1:=BR.out.cell' (i:=1) rfl
  have r2:=BR.out.cell' (i:=2) rfl
  have r3:=BR.out.cell' (i:=3) rfl
  have r4:=BR.out.cell' (i:=4) rfl
  have r5:=BR.out.cell' (i:=5) rfl
  have r6:=BR.out.cell' (i:=6) rfl
  have r7:=BR.out.cell' (i:=7) rfl
  have r8:=BR.out.cell' (i:=8) rfl
  have r9:=BR.out.cell' (i:=9) rfl
  have r10:=BR.out.cell' (i:=10) rfl
  have r11:=BR.out.cell' (i:=11) rfl
  have r12:=BR.out.cell' (i:=12) rfl
  have r13:=BR.out.cell' (i:=13) rfl
  have r14:=BR.out.cell' (i:=14) rfl
  refine bodyPost_ret (v:=.tuple #[.agg (recA Rc.zero (.slice none 0 0) (.slice none 0 0)),.int .i64 4]) ?_ rfl ⟨_,_,_,_,_,_,Or.inr (Or.inl ⟨hI.out,HN.out,rfl,rfl,rfl,rfl,rfl,rfl⟩),rfl,zero_reads _,⟨Nat.zero_le _,Nat.zero_le _⟩,F0.out⟩
  simp [results,Tryz.results55,go_sem,Rc.zero,r0,r1,r2,r3,r4,r5,r6,r7,r8,r9,r10,r11,r12,r13,r14]
 ·obtain ⟨b,off,rfl,hb,hc⟩:=H.out.at_ hp
  have HP:=hid_ (And.intro hp (And.intro hxs (And.intro hxg hlv)))
  have hi0:(0:Int)≤(i:Int):=Int.natCast_nonneg _
  have hil:i < L.length:=(List.getElem?_eq_some_iff.1 hp).1
  have hi1:(i:Int) < (L.length:Int):=by omega
  have hn:decide ((i:Int) < 0)=false:=by simp
  have HR:=hid_ (HW.out.recs p (List.mem_of_getElem? hp))
  have HS:=hid_ (H.out.sz p (List.mem_of_getElem? hp))
  have RG:Hid (wz.rangeAt b (off+i * 18+2) (recA p.R (.slice p.A p.R.rows.length p.c) (.slice p.B p.R.ents.length p.d)).toList):=hid_ (fun j v hj=>by
   rw [Nat.add_assoc]
   have hj15:j < 15:=by have:=(List.getElem?_eq_some_iff.1 hj).1;simpa using this
   refine hc (2+j) v ?_
   rw [Nat.add_comm 2 j]
   show (ptLA p)[j+2]?=some v
   rw [List.getElem?_cons_succ,List.getElem?_cons_succ]
   show ((recA p.R (.slice p.A p.R.rows.length p.c) (.slice p.B p.R.ents.length p.d)).toList ++ [.bool p.live])[j]?=some v
   rw [List.getElem?_append_left (by simpa using hj15)]
   exact hj)
  have v2:wz.cell? ⟨w.heap.size,2,none⟩=some (.slice (some ⟨b,off,none⟩) L.length c):=BV.out.cell' rfl
  clear hp hc hxs hxg hlv
  go_wp2_with (first | (refine wpList_load_mid rfl 33 (.tmp 28) rfl b (off+i * 18+2) rfl (recA p.R (.slice p.A p.R.rows.length p.c) (.slice p.B p.R.ents.length p.d)).toList _ RG.out Tryz.underlying33 rfl (by kernel_rfl) ?_) | (refine wpList_store_mid rfl 33 (.tmp 4) (.tmp 29) rfl (w.heap.size+1+1) 0 (recA p.R (.slice p.A p.R.rows.length p.c) (.slice p.B p.R.ents.length p.d)) rfl rfl (BR.out.there4 rfl) (by kernel_rfl) (by simp [Value.oneCell']) ?_;obtain ⟨e1,he1⟩:∃ z,z=wz.setCells (w.heap.size+1+1) 0 ((recA p.R (.slice p.A p.R.rows.length p.c) (.slice p.B p.R.ents.length p.d))).toList:=⟨_,rfl⟩;have ove1:=Blk.over4 BR.out ((recA p.R (.slice p.A p.R.rows.length p.c) (.slice p.B p.R.ents.length p.d))).toList rfl;rw [← he1] at ove1;change wpList _ _ _ _ _ (wz.setCells (w.heap.size+1+1) 0 ((recA p.R (.slice p.A p.R.rows.length p.c) (.slice p.B p.R.ents.length p.d))).toList);rw [← he1];clear he1;replace BR:=hid_ ove1.1;replace F0:=hid_ (F0.out.then_only ove1.2 (.inr (by omega)))))
  have r0:=BR.out.cell' (i:=0) rfl
  have r1:=BR.out.cell' (i:=1) rfl
  have r2:=BR.out.cell' (i:=2) rfl
  have r3:=BR.out.cell' (i:=3) rfl
  have r4:=BR.out.cell' (i:=4) rfl
  have r5:=BR.out.cell' (i:=5) rfl
  have r6:=BR.out.cell' (i:=6) rfl
  have r7:=BR.out.cell' (i:=7) rfl
  have r8:=BR.out.cell' (i:=8) rfl
  have r9:=BR.out.cell' (i:=9) rfl
  have r10:=BR.out.cell' (i:=10) rfl
  have r11:=BR.out.cell' (i:=11) rfl
  have r12:=BR.out.cell' (i:=12) rfl
  have r13:=BR.out.cell' (i:=13) rfl
  have r14:=BR.out.cell' (i:=14) rfl
  refine bodyPost_ret (v:=.tuple #[.agg (recA p.R (.slice p.A p.R.rows.length p.c) (.slice p.B p.R.ents.length p.d)),.int .i64 0]) ?_ rfl ⟨_,_,_,_,_,_,Or.inr (Or.inr ⟨hI.out,i,p,HK.out,HP.out.1,HP.out.2.1,HP.out.2.2.1,HP.out.2.2.2,rfl,rfl,rfl,rfl,rfl,rfl⟩),rfl,HR.out.keep F0.out,HS.out,F0.out⟩
  simp [results,Tryz.results55,go_sem,r0,r1,r2,r3,r4,r5,r6,r7,r8,r9,r10,r11,r12,r13,r14]
open Go.RowKit Go.Extern.Stop Go.Stop Go.Extern

def hdl (t:Nat):Value:=.pointer (some ⟨1,t,none⟩)
theorem as_nil (t:Value) (w:World):Calls Tryz.prog 39 #[.nilIface,t] w fun e w'=>e=.returned (.bool false)∧w=w':=by
  go_enter Tryz.func39,Tryz.ntmps39
  go_wp2
  go_ret
  exact ⟨rfl,rfl⟩

theorem valueOfT (t:Addr) (w:World):(ReflectliteValue.unpack (.iface 104 (.pointer (some t)))).run Tryz.prog w
    = .ok (.agg #[.pointer (some ⟨1,104,none⟩),.pointer (some ⟨w.heap.size,0,none⟩),.int .u64 150]) (w.alloc (.cells #[.pointer (some t)] 104)):=by kernel_rfl
theorem typeT (a : Addr) (w : World) : (ReflectliteValue.methodAny (ReflectliteValue.valueError "reflectlite.Value.Type" 0) (fun t _ _ _ => ReflectliteType.toType t) #[.agg #[.pointer (some ⟨1, 104, none⟩), .pointer (some a), .int .u64 150]]).run Tryz.prog w
    = .ok (.iface 227 (.agg #[.pointer (some ⟨1,104,none⟩)])) w:=by kernel_rfl
theorem methodKind (h : Value) (w : World) : (Go.method 380 227 (.agg #[h]) "Kind").run Tryz.prog w = .ok (140, h) w := by kernel_rfl
theorem kindT (w:World):((ReflectliteType.abiMethod fun t=>(fun a:Nat=>Value.int IntKind.u8 (a:Int)) <$> Rtype.kind t) #[.pointer (some ⟨1,104,none⟩)]).run Tryz.prog w=.ok (.int .u8 22) w:=by kernel_rfl
theorem kindC (w:World):((ReflectliteType.abiMethod fun t=>(fun a:Nat=>Value.int IntKind.u8 (a:Int)) <$> Rtype.kind t) #[.pointer (some ⟨1,49,none⟩)]).run Tryz.prog w=.ok (.int .u8 2) w:=by kernel_rfl
theorem rlm (z:Sem Value) (f:TypeId→Addr→Nat→Nat→Sem Value) (v:Value) :
    ReflectliteValue.method z f #[v]=(do match ← ReflectliteValue.parts v with | none=>z | some (t,a,fl)=>f t a fl (fl % 32)):=rfl
theorem partsT (a:Addr) (w:World):(ReflectliteValue.parts (.agg #[.pointer (some ⟨1,104,none⟩),.pointer (some a),.int .u64 150])).run Tryz.prog w=.ok (some (104,a,150)) w:=by kernel_rfl
theorem isNilT (a p:Addr) (W:World) (ha:W.cell? a=some (.pointer (some p))) :
    (ReflectliteValue.method (ReflectliteValue.valueError "reflectlite.Value.IsNil" 0) ReflectliteValue.isNil #[.agg #[.pointer (some ⟨1, 104, none⟩), .pointer (some a), .int .u64 150]]).run Tryz.prog W = .ok (.bool false) W := by
  rw [rlm]
  simp only [Sem.run_bind,partsT,Result.andThen]
  simp [ReflectliteValue.isNil,loadVar,isAgg,underlying,Tryz.underlying104,ha,Result.andThen]
theorem methodElem (h : Value) (w : World) : (Go.method 380 227 (.agg #[h]) "Elem").run Tryz.prog w = .ok (156, .agg #[h]) w := by kernel_rfl
theorem methodImplements (h : Value) (w : World) : (Go.method 380 227 (.agg #[h]) "Implements").run Tryz.prog w = .ok (157, .agg #[h]) w := by kernel_rfl
theorem methodAssignableTo (h : Value) (w : World) : (Go.method 380 227 (.agg #[h]) "AssignableTo").run Tryz.prog w = .ok (154, .agg #[h]) w := by kernel_rfl
theorem elemT (w:World):(ReflectliteType.method ReflectliteType.elem #[.agg #[.pointer (some ⟨1,104,none⟩)]]).run Tryz.prog w=.ok (.iface 227 (.agg #[.pointer (some ⟨1,49,none⟩)])) w:=by kernel_rfl
theorem implementsC (w : World) : (ReflectliteType.relation "Implements" ReflectliteType.implements_ #[.agg #[.pointer (some ⟨1, 49, none⟩)], .iface 227 (.agg #[.pointer (some ⟨1, 42, none⟩)])]).run Tryz.prog w = .ok (.bool true) w := by kernel_rfl
theorem typeOfC (v:Value) (w:World):(ReflectliteType.typeOf #[.iface 49 v]).run Tryz.prog w=.ok (.iface 227 (.agg #[.pointer (some ⟨1,49,none⟩)])) w:=by kernel_rfl
theorem assignableC (w : World) : (ReflectliteType.relation "AssignableTo" ReflectliteType.assignableTo #[.agg #[.pointer (some ⟨1, 49, none⟩)], .iface 227 (.agg #[.pointer (some ⟨1, 49, none⟩)])]).run Tryz.prog w = .ok (.bool true) w := by kernel_rfl
theorem valueOfC (k:Int) (w:World):(ReflectliteValue.unpack (.iface 49 (.int .i64 k))).run Tryz.prog w
    = .ok (.agg #[.pointer (some ⟨1,49,none⟩),.pointer (some ⟨w.heap.size,0,none⟩),.int .u64 130]) (w.alloc (.cells #[.int .i64 k] 49)):=by kernel_rfl
theorem elemOfT (w:World):(Rtype.elem? 104).run Tryz.prog w=.ok (some 49) w:=by kernel_rfl
theorem mkC (p:Addr) (w:World):(ReflectliteValue.mk 49 p ReflectliteValue.flagAddr).run Tryz.prog w=.ok (.agg #[.pointer (some ⟨1,49,none⟩),.pointer (some p),.int .u64 386]) w:=by kernel_rfl
theorem elemV (a p:Addr) (W:World) (ha:W.cell? a=some (.pointer (some p))) :
    (ReflectliteValue.method (ReflectliteValue.valueError "reflectlite.Value.Elem" 0) ReflectliteValue.elem #[.agg #[.pointer (some ⟨1, 104, none⟩), .pointer (some a), .int .u64 150]]).run Tryz.prog W
      = .ok (.agg #[.pointer (some ⟨1,49,none⟩),.pointer (some p),.int .u64 386]) W:=by
  rw [rlm]
  simp only [Sem.run_bind,partsT,Result.andThen]
  simp [ReflectliteValue.elem,loadVar,isAgg,underlying,Tryz.underlying104,ha,Result.andThen,elemOfT,mkC]
theorem rls (v x:Value):∃ s1 s2 s3 s4 s5:String,ReflectliteValue.set #[v,x]=(do
    let (some (dst,a,fl),some (src,b,_)):=(← ReflectliteValue.parts v,← ReflectliteValue.parts x)
      | unsupported (.noEntry s1)
    if fl / ReflectliteValue.flagAddr % 2==0 then unsupported (.noEntry s2)
    let val ← loadVar src b
    if ← Rtype.directlyAssignable dst src then storeVar dst a val
    else if ← Rtype.implements dst src then
      if (← Rtype.kind src)==20 then
        match val with
        | .nilIface=>unsupported (.noEntry s3)
        | _=>storeVar dst a val
      else storeVar dst a (.iface src val)
    else panicString (s4 ++ (← Rtype.spelt src) ++ s5 ++ (← Rtype.spelt dst))
    pure (.tuple #[])):=⟨_,_,_,_,_,rfl⟩
theorem partsA (a:Addr) (w:World):(ReflectliteValue.parts (.agg #[.pointer (some ⟨1,49,none⟩),.pointer (some a),.int .u64 386])).run Tryz.prog w=.ok (some (49,a,386)) w:=by kernel_rfl
theorem partsB (a:Addr) (w:World):(ReflectliteValue.parts (.agg #[.pointer (some ⟨1,49,none⟩),.pointer (some a),.int .u64 130])).run Tryz.prog w=.ok (some (49,a,130)) w:=by kernel_rfl
theorem directC (w:World):(Rtype.directlyAssignable 49 49).run Tryz.prog w=.ok true w:=by kernel_rfl
theorem setC (ta b:Addr) (k:Int) (old:Value) (W:World) (hb:W.cell? b=some (.int .i64 k)) (ht:W.cell? ta=some old) (hf:W.frozen? ta=false) :
    (ReflectliteValue.set #[.agg #[.pointer (some ⟨1,49,none⟩),.pointer (some ta),.int .u64 386],.agg #[.pointer (some ⟨1,49,none⟩),.pointer (some b),.int .u64 130]]).run Tryz.prog W
      = .ok (.tuple #[]) (W.setCell ta (.int .i64 k)):=by
  obtain ⟨s1,s2,s3,s4,s5,e⟩:=rls (.agg #[.pointer (some ⟨1,49,none⟩),.pointer (some ta),.int .u64 386]) (.agg #[.pointer (some ⟨1,49,none⟩),.pointer (some b),.int .u64 130])
  rw [e]
  simp only [Sem.run_bind,partsA,partsB,Result.andThen]
  simp [ReflectliteValue.flagAddr,loadVar,isAgg,underlying,Tryz.underlying49,hb,Result.andThen,directC,storeVar,Value.cells,storeCells,Addr.add]
  rw [run_store Tryz.prog W ta _ _ (by rfl)]
  simp [ht,hf]

set_option maxHeartbeats 4000000 in
theorem as_hit (k old:Int) (t:Nat) (w:World) (hg:w.cell? ⟨0,0,none⟩=some (.iface 227 (.agg #[.pointer (some ⟨1,42,none⟩)]))) (hT:Blk w t 49 #[.int .i64 old]) :
  Calls Tryz.prog 39 #[.iface 49 (.int .i64 k),.iface 104 (.pointer (some ⟨t,0,none⟩))] w fun ev w'=>ev=.returned (.bool true)∧Blk w' t 49 #[.int .i64 k]∧Fr (only t) w w':=by
 have h6:=@run_callFunc_extern Tryz.prog 81 _ (fun args=>ReflectliteValue.unpack (args.getD 0 (.tuple #[]))) Tryz.func81 (by kernel_rfl) (by kernel_rfl) (by kernel_rfl) (by kernel_rfl)
 have h7 := @run_callFunc_extern Tryz.prog 82 _ (ReflectliteValue.methodAny (ReflectliteValue.valueError "reflectlite.Value.Type" 0) (fun t _ _ _ => ReflectliteType.toType t)) Tryz.func82 (by kernel_rfl) (by kernel_rfl) (by kernel_rfl) (by kernel_rfl)
 have h8 := @run_callFunc_extern Tryz.prog 83 _ (ReflectliteValue.method (ReflectliteValue.valueError "reflectlite.Value.IsNil" 0) ReflectliteValue.isNil) Tryz.func83 (by kernel_rfl) (by kernel_rfl) (by kernel_rfl) (by kernel_rfl)
 have h27:=@run_callFunc_extern Tryz.prog 140 _ (ReflectliteType.abiMethod fun t=>do pure (.int .u8 (← Rtype.kind t))) Tryz.func140 (by kernel_rfl) (by kernel_rfl) (by kernel_rfl) (by kernel_rfl)
 have h37:=@run_callFunc_extern Tryz.prog 156 _ (ReflectliteType.method ReflectliteType.elem) Tryz.func156 (by kernel_rfl) (by kernel_rfl) (by kernel_rfl) (by kernel_rfl)
 have h38 := @run_callFunc_extern Tryz.prog 157 _ (ReflectliteType.relation "Implements" ReflectliteType.implements_) Tryz.func157 (by kernel_rfl) (by kernel_rfl) (by kernel_rfl) (by kernel_rfl)
 have h10:=@run_callFunc_extern Tryz.prog 101 _ ReflectliteType.typeOf Tryz.func101 (by kernel_rfl) (by kernel_rfl) (by kernel_rfl) (by kernel_rfl)
 have h35 := @run_callFunc_extern Tryz.prog 154 _ (ReflectliteType.relation "AssignableTo" ReflectliteType.assignableTo) Tryz.func154 (by kernel_rfl) (by kernel_rfl) (by kernel_rfl) (by kernel_rfl)
 have h11 := @run_callFunc_extern Tryz.prog 116 _ (ReflectliteValue.method (ReflectliteValue.valueError "reflectlite.Value.Elem" 0) ReflectliteValue.elem) Tryz.func116 (by kernel_rfl) (by kernel_rfl) (by kernel_rfl) (by kernel_rfl)
 have h12:=@run_callFunc_extern Tryz.prog 117 _ ReflectliteValue.set Tryz.func117 (by kernel_rfl) (by kernel_rfl) (by kernel_rfl) (by kernel_rfl)
 have tO:=typeOfC
 have mA:=methodAssignableTo
 have a25:=assignableC
 have v25:=valueOfC
 have f6:=valueOfT
 have f7:=typeT
 have mK:=methodKind
 have mE:=methodElem
 have mI:=methodImplements
 have k27:=kindT
 have k25:=kindC
 have e27:=elemT
 have i25:=implementsC
 obtain ⟨w1,hw1⟩:∃ w1,w1=w.alloc (.cells #[.pointer (some ⟨t,0,none⟩)] 104):=⟨_,rfl⟩
 obtain ⟨w2,hw2⟩:∃ w2,w2=w1.alloc (.cells #[.pointer (some ⟨1,104,none⟩),.pointer (some ⟨w.heap.size,0,none⟩),.int .u64 150] 166):=⟨_,rfl⟩
 obtain ⟨w3,hw3⟩:∃ w3,w3=w2.alloc (.cells #[.pointer (some ⟨1,104,none⟩),.pointer (some ⟨w.heap.size,0,none⟩),.int .u64 150] 166):=⟨_,rfl⟩
 obtain ⟨w4,hw4⟩:∃ w4,w4=w3.alloc (.cells #[.int .i64 k] 49):=⟨_,rfl⟩
 have B1:Blk w1 w.heap.size 104 #[.pointer (some ⟨t,0,none⟩)]:=by rw [hw1];exact Blk.new _ _ _
 have s1:w1.heap.size=w.heap.size+1:=by rw [hw1];simp
 have s2:w2.heap.size=w.heap.size+1+1:=by rw [hw2];simp [s1]
 have s3:w3.heap.size=w.heap.size+1+1+1:=by rw [hw3];simp [s2]
 have B2:Blk w2 w.heap.size 104 #[.pointer (some ⟨t,0,none⟩)]:=by rw [hw2];exact B1.alloc _
 have B3:Blk w3 w.heap.size 104 #[.pointer (some ⟨t,0,none⟩)]:=by rw [hw3];exact B2.alloc _
 have B4:Blk w4 (w.heap.size+1+1+1) 49 #[.int .i64 k]:=by rw [hw4,← s3];exact Blk.new _ _ _
 have T4:Blk w4 t 49 #[.int .i64 old]:=by rw [hw4,hw3,hw2,hw1];exact (((hT.alloc _).alloc _).alloc _).alloc _
 have F4:Fr (only t) w w4:=by rw [hw4,hw3,hw2,hw1];exact ((((Fr.refl _ _).alloc _).alloc _).alloc _).alloc _
 have hlt:0 < w.heap.size:=World.block_lt_of_cell? w _ hg
 have hg2:w2.cell? ⟨0,0,none⟩=some (.iface 227 (.agg #[.pointer (some ⟨1,42,none⟩)])):=by
  rw [hw2,hw1,World.cell?_alloc_lt _ _ ⟨0,0,none⟩ (by simp),World.cell?_alloc_lt _ _ ⟨0,0,none⟩ hlt];exact hg
 have n8:=isNilT ⟨w.heap.size,0,none⟩ ⟨t,0,none⟩ w2 (B2.cell' rfl)
 have el:=elemV ⟨w.heap.size,0,none⟩ ⟨t,0,none⟩ w3 (B3.cell' rfl)
 have st:=setC ⟨t,0,none⟩ ⟨w.heap.size+1+1+1,0,none⟩ k (.int .i64 old) w4 (B4.cell' rfl) (T4.cell' rfl) (T4.frozen 0)
 have fin:Hid (Blk (w4.setCell ⟨t,0,none⟩ (.int .i64 k)) t 49 #[.int .i64 k]∧Fr (only t) w (w4.setCell ⟨t,0,none⟩ (.int .i64 k))):=hid_ ⟨T4.set_ 0 (.int .i64 k),F4.setCell (p:=⟨t,0,none⟩) (.inl (Eq.refl t)) _⟩
 clear B1 B2 B3 B4 T4 F4 s1 s2 s3 hT
 subst hw4
 subst hw3
 subst hw2
 subst hw1
 go_enter Tryz.func39,Tryz.ntmps39
 go_wp2
 refine wp_loop_rounds 1 ?_
 rw [rounds_succ]
 go_wp2
 go_ret
 exact ⟨rfl,fin.out⟩
open Go.RowKit

def errOf (k:Int):Value:=if k=0 then .nilIface else errV k
theorem errOf_pos {k:Int} (h:k≠0):errOf k=errV k:=if_neg h
open Go.RowKit

def Laid (w:World):Prop:=w.cell? ⟨0,0,none⟩=some (.iface 227 (.agg #[.pointer (some ⟨1,42,none⟩)]))
theorem Laid.lt {w:World} (h:Laid w):0 < w.heap.size:=World.block_lt_of_cell? w _ h
theorem Laid.fr {w w':World} {S:Nat→Prop} (h:Laid w) (hf:Fr S w w') (hS:¬ S 0):Laid w':=
  (World.cell?_of_block (hf.block 0 h.lt hS)).trans h
theorem Laid.alloc {w:World} (h:Laid w) (o:Obj):Laid (w.alloc o):=h.fr ((Fr.refl none_ w).alloc o) id

theorem code_nil (w:World):Calls Tryz.prog 12 #[.nilIface] w fun e w'=>e=.returned (.int .i64 0)∧Fr none_ w w':=by
  go_enter Tryz.func12,Tryz.ntmps12
  go_wp2_with (go_at_call 39;refine (as_nil _ _).mono ?_;rintro e w' ⟨rfl,rfl⟩)
  go_ret
  exact ⟨rfl,by repeat (first | exact Fr.refl _ _ | apply Fr.drew | apply Fr.alloc)⟩

theorem code_hit (k:Int) (w:World) (hL:Laid w):Calls Tryz.prog 12 #[errV k] w fun e w'=>e=.returned (.int .i64 k)∧Fr none_ w w':=by
  have HL:=hid_ hL
  clear hL
  go_enter Tryz.func12,Tryz.ntmps12
  go_wp2_with fail
  refine (as_hit k 0 _ _ (HL.out.alloc _) (Blk.new w _ _)).mono ?_
  rintro e w1 ⟨rfl,hb,hf⟩
  have c0:w1.cell? ⟨w.heap.size,0,none⟩=some (.int .i64 k):=hb.cell' rfl
  have F1:=hid_ (((Fr.refl none_ w).alloc (.cells #[.int .i64 0] 49)).then_only hf (.inr (Nat.le_refl _)))
  clear hb hf
  go_wp2
  go_ret
  exact ⟨rfl,F1.out⟩

open Go.RowKit

theorem page_info:(Tryz.prog.info? 190).map (fun i=>(i.zero,i.size,i.bytes))=some (some (.agg #[.bool false,.int .i64 0,.int .i64 0]),3,24):=by kernel_rfl

theorem run_make_rowN {P:Program} (t e:TypeId) (i:TypeInfo) (z:Value) (ht:P.underlying t=some (.slice e)) (hi:P.info? e=some i) (hz:i.zero=some z)
    (kl kc:IntKind) (n c:Nat) (hnc:n≤c) (hbytes:i.bytes * c≤281474976710656) (h63:c≤9223372036854775807) (w:World) :
    (Instr.makeSlice t (.int kl (n:Int)) (.int kc (c:Int))).run P w=.ok (.slice (some ⟨w.heap.size,0,none⟩) n c) (w.alloc (.cells (madeCells z.cells (c * i.size)) e)):=by
  have hb:(i.bytes:Int) * (c:Int)≤281474976710656:=by
    have h:((i.bytes * c:Nat):Int)≤281474976710656:=by omega
    rwa [Int.natCast_mul] at h
  have hr:=run_make (P:=P) w t e i z ht hi hz kl kc n c (by omega) (by omega) hb (by omega)
  simp only [Int.toNat_natCast] at hr
  exact hr

theorem madeCells3 (a b c:Value) (n i:Nat) (hi:i < n):(madeCells #[a,b,c] (n * 3))[i * 3]?=some a∧(madeCells #[a,b,c] (n * 3))[i * 3+1]?=some b∧(madeCells #[a,b,c] (n * 3))[i * 3+1+1]?=some c:=by
  have h0:i * 3 < n * 3:=by omega
  have h1:i * 3+1 < n * 3:=by omega
  have h2:i * 3+1+1 < n * 3:=by omega
  refine ⟨?_,?_,?_⟩
  · simp [madeCells,h0]
  · have:(i * 3+1) % 3=1:=by omega
    simp [madeCells,h1,this]
  · have:(i * 3+1+1) % 3=2:=by omega
    simp [madeCells,h2,this]

def NewPost (n:Nat) (w:World) (e:Ending) (w':World):Prop:=
  e=.returned (.pointer (some ⟨w.heap.size+1,0,none⟩))∧Tbl w' (w.heap.size+1) w.heap.size (List.replicate n (false,0,0))∧Fr none_ w w'∧w'.heap.size=w.heap.size+2

theorem mapNew_ok (n:Nat) (w:World) (h1:1≤n) (h2:n≤256):Calls Tryz.prog 46 #[.int .i64 n] w (NewPost n w):=by
  have hfin:NewPost n w (.returned (.pointer (some ⟨w.heap.size+1,0,none⟩))) ((w.alloc (.cells (madeCells #[.bool false,.int .i64 0,.int .i64 0] (n * 3)) 190)).alloc (.cells #[.slice (some ⟨w.heap.size,0,none⟩) n n] 182)):=by
    refine ⟨rfl,⟨n,madeCells #[.bool false,.int .i64 0,.int .i64 0] (n * 3),?_,?_,by simpa using h2,by simp,by unfold maxLen;omega,by simp [size_madeCells],?_⟩,((Fr.refl _ _).alloc _).alloc _,by simp⟩
    · have:=Blk.new (w.alloc (.cells (madeCells #[.bool false,.int .i64 0,.int .i64 0] (n * 3)) 190)) 182 #[.slice (some ⟨w.heap.size,0,none⟩) n n]
      simpa using this
    · exact (Blk.new w _ _).alloc _
    · intro i p hi
      obtain ⟨hlt,rfl⟩:i < n∧p=(false,0,0):=by
        rw [List.getElem?_replicate] at hi
        split at hi
        · exact ⟨by assumption,by simpa using hi.symm⟩
        · cases hi
      exact madeCells3 _ _ _ n i hlt
  obtain ⟨i0,hi0,hz0,hs0,hb0⟩:=info_parts page_info
  have hmk:=fun W=>run_make_rowN (P:=Tryz.prog) 180 190 i0 _ Tryz.underlying180 hi0 hz0 .i64 .i64 n n (Nat.le_refl _) (by rw [hb0];omega) (by omega) W
  rw [hs0] at hmk
  simp only [Value.cells] at hmk
  have H:=hid_ hfin
  clear hfin hi0 hz0 hs0 hb0
  go_enter Tryz.func46,Tryz.ntmps46
  go_wp2
  go_ret
  exact H.out

theorem mtake_ok (T G:Nat) (ps:List Pg) (n:Nat) (s g:Int) (w:World) (h:Tbl w T G ps) (hn:ps[n]?=some (false,s,g)) (hu:∀ (j:Nat) (p:Pg),j < n→ps[j]?=some p→p.1=true) :
    Calls Tryz.prog 49 #[.pointer (some ⟨T,0,none⟩)] w fun e w'=>e=.returned (.tuple #[.int .i64 n,.nilIface])∧w'=setPg w G n (true,0,0):=by
  obtain ⟨cap,cur,hT,hG,h1,h2,h3,h4,h5⟩:=h
  have hnl:n < ps.length:=(List.getElem?_eq_some_iff.1 hn).1
  have c0:w.cell? ⟨T,0,none⟩=some (.slice (some ⟨G,0,none⟩) ps.length cap):=hT.cell' (i:=0) rfl
  have hc:∀ k,k < n→w.cell? ⟨G,k * 3,none⟩=some (.bool true):=fun k hk=>by
    have hi:ps[k]?=some ps[k]:=List.getElem?_eq_getElem (by omega)
    have:=hG.cell' (h5 k _ hi).1
    rwa [hu k _ hk hi] at this
  obtain ⟨d0,d1,d2⟩:=h5 n _ hn
  have e0:=hG.cell' d0
  have e1:=hG.cell' d1
  have e2:=hG.cell' d2
  have f:=hG.frozen
  have f0:=f (n * 3)
  have f1:=f (n * 3+1)
  have f2:=f (n * 3+1+1)
  have Hc:=hid_ hc
  clear hT hG h5 hu hc hn f d0 d1 d2
  go_enter Tryz.func49,Tryz.ntmps49
  go_wp2
  go_loop [13] (fun i=>∃ k:Nat,k≤n∧i=.int .i64 k) (fun i=>ps.length - (intOf i).toNat)
  case atStart=>exact ⟨0,Nat.zero_le _,rfl⟩
  case round =>
    obtain ⟨k,hk,rfl⟩:=hrel
    by_cases hlt:k < n
    · have hcx:=Hc.out k hlt
      go_wp2
      go_round
      case rel=>exact ⟨k+1,by omega,by go_num⟩
      case measure=>simp [intOf];omega
    · obtain rfl:k=n:=by omega
      go_wp2
      go_ret2
      exact ⟨rfl,rfl⟩
open Go.RowKit

abbrev Rp:=Int × Int × Int
def rtFlat (L:List Rp):List Value:=L.flatMap fun p=>[.int .i64 p.1,.int .i64 p.2.1,.int .i64 p.2.2]
theorem rtFlat_get:∀ (L:List Rp) (i:Nat) (p:Rp),L[i]?=some p→(rtFlat L)[i * 3]?=some (.int .i64 p.1)∧(rtFlat L)[i * 3+1]?=some (.int .i64 p.2.1)∧(rtFlat L)[i * 3+1+1]?=some (.int .i64 p.2.2)
  | [],i,p,h=>by simp at h
  | q :: L,0,p,h=>by
    obtain rfl:q=p:=by simpa using h
    simp [rtFlat]
  | q :: L,i+1,p,h=>by
    have:=rtFlat_get L i p (by simpa using h)
    rw [show (i+1) * 3=i * 3+1+1+1 by omega]
    simpa [rtFlat,List.flatMap_cons] using this
theorem rtFlat_one (L:List Rp):∀ u ∈ rtFlat L,u.oneCell'=true:=by
  intro u hu
  simp only [rtFlat,List.mem_flatMap,List.mem_cons,List.not_mem_nil,or_false] at hu
  obtain ⟨p,_,rfl | rfl | rfl⟩:=hu <;> rfl

def findL:List Rp→Int→Int
  | [],_=>-1
  | p :: L,n=>if p.1=n then 0 else if findL L n < 0 then -1 else findL L n+1
theorem findL_ge (L:List Rp) (n:Int):-1≤findL L n∧findL L n < L.length:=by
  induction L with
  | nil=>simp [findL]
  | cons p L ih=>simp only [findL,List.length_cons];split <;> (try split) <;> omega
theorem findL_at:∀ (L:List Rp) (n:Int) (i:Nat) (p:Rp),L[i]?=some p→p.1=n→(∀ j q,j < i→L[j]?=some q→q.1≠n)→findL L n=i
  | [],n,i,p,h,_,_=>by simp at h
  | q :: L,n,0,p,h,hp,_=>by
    obtain rfl:q=p:=by simpa using h
    simp [findL,hp]
  | q :: L,n,i+1,p,h,hp,hb=>by
    have h0:q.1≠n:=hb 0 q (by omega) rfl
    have:=findL_at L n i p (by simpa using h) hp (fun j r hj hr=>hb (j+1) r (by omega) (by simpa using hr))
    simp only [findL,if_neg h0,this]
    rw [if_neg (by omega)]
    omega
theorem findL_no (L:List Rp) (n:Int) (h:∀ p ∈ L,p.1≠n):findL L n=-1:=by
  induction L with
  | nil=>rfl
  | cons p L ih=>simp [findL,h p (by simp),ih (fun q hq=>h q (by simp [hq]))]

abbrev ROwn (w:World) (v:Value) (L:List Rp):Prop:=w.ownsRow 0 135 3 v L.length (rtFlat L)
abbrev rtab (count:Int) (v:Value):Value:=.agg #[.int .i64 count,v]
abbrev rbox (count:Int) (v:Value):Obj:=.cells #[.int .i64 count,v] 77

theorem rown_cell {w:World} {A:Option Addr} {c:Nat} {L:List Rp} (h:ROwn w (.slice A L.length c) L):0 < L.length→∃ g,A=some ⟨g,0,none⟩∧g < w.heap.size∧∀ i p,L[i]?=some p →
    w.cell? ⟨g,i * 3,none⟩=some (.int .i64 p.1)∧w.cell? ⟨g,i * 3+1,none⟩=some (.int .i64 p.2.1)∧w.cell? ⟨g,i * 3+1+1,none⟩=some (.int .i64 p.2.2):=by
  intro hn
  obtain ⟨A',c',hv,_,_,hp⟩:=own_parts h
  obtain ⟨g,hA,hg,hc⟩:=hp hn
  have hA':A=some ⟨g,0,none⟩:=by
    injection hv with h1
    rw [h1,hA]
  refine ⟨g,hA',hg,fun i p hi=>?_⟩
  obtain ⟨d0,d1,d2⟩:=rtFlat_get L i p hi
  exact ⟨hc _ _ d0,hc _ _ d1,hc _ _ d2⟩

set_option maxHeartbeats 400000 in
theorem find_any (count n:Int) (A:Option Addr) (c:Nat) (L:List Rp) (w:World) (h:ROwn w (.slice A L.length c) L) (hl:L.length≤1000) :
    Calls Tryz.prog 92 #[rtab count (.slice A L.length c),.int .i64 n] w fun e w'=>e=.returned (.int .i64 (findL L n))∧w'=w.alloc (rbox count (.slice A L.length c)):=by
  have hcell:=rown_cell h
  have Hc:=hid_ hcell
  clear hcell h
  go_enter Tryz.func92,Tryz.ntmps92
  go_wp2_with fail
  go_loop [5] (fun i=>∃ k:Nat,k≤L.length∧i=.int .i64 k∧∀ j q,j < k→L[j]?=some q→q.1≠n) (fun i=>L.length - (intOf i).toNat)
  case atStart=>exact ⟨0,Nat.zero_le _,rfl,fun j q hj=>by omega⟩
  case round =>
    obtain ⟨k,hk,rfl,hb⟩:=hrel
    have Hb:=hid_ hb
    clear hb
    by_cases hlt:k < L.length
    · obtain ⟨g,rfl,hgl,hcl⟩:=Hc.out (by omega)
      obtain ⟨p,hp⟩:∃ p,L[k]?=some p:=⟨L[k],List.getElem?_eq_getElem hlt⟩
      have c0:=(hcl k p hp).1
      have Hp:=hid_ hp
      clear hcl hp
      by_cases he:p.1=n
      · have Hf:=hid_ (findL_at L n k p Hp.out he Hb.out)
        have he2:(p.1==n)=true:=by simpa using he
        clear he
        go_wp2
        go_ret
        exact ⟨by rw [Hf.out];rfl,rfl⟩
      · have he2:(p.1==n)=false:=by simpa using he
        have He:=hid_ he
        clear he
        go_wp2
        go_round
        case rel=>exact ⟨k+1,by omega,by go_num,fun j q hj hq=>by
          rcases Nat.lt_or_ge j k with h1 | h1
          · exact Hb.out j q h1 hq
          · obtain rfl:j=k:=by omega
            obtain rfl:p=q:=by have:=Hp.out.symm.trans hq;simpa using this
            exact He.out⟩
        case measure=>simp [intOf];omega
    · obtain rfl:k=L.length:=by omega
      have Hf:=hid_ (findL_no L n (fun p hp=>by
        obtain ⟨j,hj,hpj⟩:=List.mem_iff_getElem.1 hp
        exact Hb.out j p hj (by rw [List.getElem?_eq_getElem hj,hpj])))
      go_wp2
      go_ret
      exact ⟨by rw [Hf.out];rfl,rfl⟩
open Go.RowKit

theorem rtnew (n:Int) (w:World):Calls Tryz.prog 95 #[.int .i64 n] w fun e w'=>e=.returned (.tuple #[rtab n (.slice none 0 0),.bool (decide (1≤n) && decide (n≤256))])∧Fr none_ w w':=by
  by_cases h1:1≤n
  · by_cases h2:n≤256
    · have hb:(decide (1≤n) && decide (n≤256))=true:=by simp [h1,h2]
      rw [hb]
      go_enter Tryz.func95,Tryz.ntmps95
      go_wp2
      exact bodyPost_ret (v:=.tuple #[rtab n (.slice none 0 0),.bool true]) (by simp [results,Tryz.results95,go_sem]) rfl ⟨rfl,by repeat (first | exact Fr.refl _ _ | apply Fr.drew | apply Fr.alloc)⟩
    · have hb:(decide (1≤n) && decide (n≤256))=false:=by simp [h2]
      rw [hb]
      go_enter Tryz.func95,Tryz.ntmps95
      go_wp2
      exact bodyPost_ret (v:=.tuple #[rtab n (.slice none 0 0),.bool false]) (by simp [results,Tryz.results95,go_sem]) rfl ⟨rfl,by repeat (first | exact Fr.refl _ _ | apply Fr.drew | apply Fr.alloc)⟩
  · have hb:(decide (1≤n) && decide (n≤256))=false:=by simp [h1]
    rw [hb]
    go_enter Tryz.func95,Tryz.ntmps95
    go_wp2
    exact bodyPost_ret (v:=.tuple #[rtab n (.slice none 0 0),.bool false]) (by simp [results,Tryz.results95,go_sem]) rfl ⟨rfl,by repeat (first | exact Fr.refl _ _ | apply Fr.drew | apply Fr.alloc)⟩

section
variable (count n:Int) (A:Option Addr) (c:Nat) (L:List Rp) (w:World)
theorem why_arg (hn:n < 0∨count≤n):Calls Tryz.prog 91 #[rtab count (.slice A L.length c),.int .i64 n] w fun e w'=>e=.returned (.int .i64 1)∧w'=w.alloc (rbox count (.slice A L.length c)):=by
  by_cases hn0:n < 0
  · clear hn
    go_enter Tryz.func91,Tryz.ntmps91
    go_wp2
    go_ret
    exact ⟨rfl,rfl⟩
  · have hle:count≤n:=by omega
    clear hn
    go_enter Tryz.func91,Tryz.ntmps91
    go_wp2
    go_ret
    exact ⟨rfl,rfl⟩

theorem why_none (h:ROwn w (.slice A L.length c) L) (hl:L.length≤1000) (h0:0≤n) (h1:n < count) (hf:findL L n=-1) :
    Calls Tryz.prog 91 #[rtab count (.slice A L.length c),.int .i64 n] w fun e w'=>e=.returned (.int .i64 6)∧w'=(w.alloc (rbox count (.slice A L.length c))).alloc (rbox count (.slice A L.length c)):=by
  have H:=hid_ h
  have Hf:=hid_ hf
  clear h hf
  go_enter Tryz.func91,Tryz.ntmps91
  go_wp2_with fail
  refine (find_any count n A c L _ (H.out.alloc _) hl).mono ?_
  rintro e w1 ⟨rfl,rfl⟩
  rw [Hf.out]
  go_wp2
  go_ret
  exact ⟨rfl,rfl⟩

theorem why_ok (h:ROwn w (.slice A L.length c) L) (hl:L.length≤1000) (h0:0≤n) (h1:n < count) (hf:0≤findL L n) :
    Calls Tryz.prog 91 #[rtab count (.slice A L.length c),.int .i64 n] w fun e w'=>e=.returned (.int .i64 0)∧w'=(w.alloc (rbox count (.slice A L.length c))).alloc (rbox count (.slice A L.length c)):=by
  have H:=hid_ h
  clear h
  go_enter Tryz.func91,Tryz.ntmps91
  go_wp2_with fail
  refine (find_any count n A c L _ (H.out.alloc _) hl).mono ?_
  rintro e w1 ⟨rfl,rfl⟩
  go_wp2
  go_ret
  exact ⟨rfl,rfl⟩
end

def whyL (count:Int) (L:List Rp) (n:Int):Int:=if n < 0∨count≤n then 1 else if findL L n=-1 then 6 else 0

theorem rhead_ok (count n:Int) (A:Option Addr) (c:Nat) (L:List Rp) (w:World) (h:ROwn w (.slice A L.length c) L) (hl:L.length≤1000) (h0:0≤n) (h1:n < count) (i:Nat) (m s g:Int) (hf:findL L n=i) (hi:L[i]?=some (m,s,g)) :
  Calls Tryz.prog 54 #[rtab count (.slice A L.length c),.int .i64 n] w fun e w'=>e=.returned (.tuple #[.agg #[.int .i64 s,.int .i64 g],.int .i64 0])∧Fr none_ w w':=by
 have hil:i < L.length:=(List.getElem?_eq_some_iff.1 hi).1
 obtain ⟨b,rfl,hb,hcl⟩:=rown_cell h (by omega)
 obtain ⟨_,d1,d2⟩:=hcl i _ hi
 have H:=hid_ h
 have Hf:=hid_ hf
 have Hg:=hid_ (show 0≤findL L n by omega)
 clear h hf hcl hi
 go_enter Tryz.func54,Tryz.ntmps54
 go_wp2_with fail
 refine (why_ok count n _ c L _ (own_none H.out (by repeat (first | exact Fr.refl _ _ | apply Fr.drew | apply Fr.alloc))) hl h0 h1 Hg.out).mono ?_
 rintro e w1 ⟨rfl,hw1⟩
 have f1:Fr none_ ((w.alloc (rbox count (.slice (some ⟨b,0,none⟩) L.length c))).alloc (.cells #[.int .i64 0,.int .i64 0] 23)) w1:=by
  rw [hw1];repeat (first | exact Fr.refl _ _ | apply Fr.alloc)
 have f0:Fr none_ w w1:=(((Fr.refl none_ w).alloc _).alloc _).then_none f1
 have k2:=((Blk.new w 77 #[.int .i64 count,.slice (some ⟨b,0,none⟩) L.length c]).alloc (.cells #[.int .i64 0,.int .i64 0] 23)).fr f1 id
 have k4:=(Blk.new (w.alloc (rbox count (.slice (some ⟨b,0,none⟩) L.length c))) 23 #[.int .i64 0,.int .i64 0]).fr f1 id
 rw [World.size_alloc] at k4
 have c20:w1.cell? ⟨w.heap.size,0,none⟩=some (.int .i64 count):=k2.cell' rfl
 have c21:w1.cell? ⟨w.heap.size,1,none⟩=some (.slice (some ⟨b,0,none⟩) L.length c):=k2.cell' rfl
 have c40:w1.cell? ⟨w.heap.size+1,0,none⟩=some (.int .i64 0):=k4.cell' rfl
 have c41:w1.cell? ⟨w.heap.size+1,1,none⟩=some (.int .i64 0):=k4.cell' rfl
 have z40:=k4.frozen 0
 have z41:=k4.frozen 1
 have e1:w1.cell? ⟨b,i * 3+1,none⟩=some (.int .i64 s):=(f0.below0.cell (p:=⟨b,i * 3+1,none⟩) hb).trans d1
 have e2:w1.cell? ⟨b,i * 3+1+1,none⟩=some (.int .i64 g):=(f0.below0.cell (p:=⟨b,i * 3+1+1,none⟩) hb).trans d2
 have H1:=hid_ (own_none H.out f0)
 have F1:=hid_ f0
 have K4:=hid_ k4
 have hz2:=k2.lt
 have hz4:=k4.lt
 have hi0:(0:Int)≤(i:Int):=Int.natCast_nonneg _
 have hi1:(i:Int) < (L.length:Int):=by omega
 have n1:=World.new_ne w1 ⟨b,i * 3+1,none⟩ e1
 have n2:=World.new_ne w1 ⟨w.heap.size,0,none⟩ c20
 have n4:=World.new_ne w1 ⟨w.heap.size+1,0,none⟩ c40
 have hbz:b < w1.heap.size:=by omega
 have hbn:b≠w.heap.size+1:=by omega
 have hbn2:w.heap.size+1≠b:=by omega
 clear f0 f1 hw1 k2 k4 d1 d2
 go_wp2_with fail
 go_region_held3 (fun w'=>w'.cell? ⟨w.heap.size,0,none⟩=some (.int .i64 count)∧w'.cell? ⟨w.heap.size,1,none⟩=some (.slice (some ⟨b,0,none⟩) L.length c)∧w'.cell? ⟨b,i * 3+1,none⟩=some (.int .i64 s)∧w'.cell? ⟨b,i * 3+1+1,none⟩=some (.int .i64 g)) (go_keep)
  (first | (go_at_call 92;refine (find_any count n _ c L _ ?_ hl).mono ?_;(exact own_none H1.out (by repeat (first | exact Fr.refl _ _ | apply Fr.drew | apply Fr.alloc)));rintro e w' ⟨rfl,rfl⟩;rw [Hf.out]))
 all_goals go_wp2
 have q:=(((K4.out.set_ 0 (.int .i64 s)).set_ 1 (.int .i64 g)).alloc (rbox count (.slice (some ⟨b,0,none⟩) L.length c))).drew
 have q0:=q.cell' (i:=0) rfl
 have q1:=q.cell' (i:=1) rfl
 clear q c40 c41 z40 z41
 refine bodyPost_ret (v:=.tuple #[.agg #[.int .i64 s,.int .i64 g],.int .i64 0]) ?_ rfl ⟨rfl,?_⟩
 ·simp [results,Tryz.results54,go_sem,q0,q1]
 ·repeat (first | exact F1.out | apply Fr.drew | apply Fr.alloc | refine Fr.setCell ?_ (.inr (by simp)) _)
open Go.RowKit

theorem rpage_info:(Tryz.prog.info? 135).map (fun i=>(i.zero,i.size,i.bytes))=some (some (.agg #[.int .i64 0,.int .i64 0,.int .i64 0]),3,24):=by kernel_rfl

structure RLoop (w wr:World) (count:Int) (v:Value) (L:List Rp):Prop where
  b0:Blk wr w.heap.size 77 #[.int .i64 count,v]
  own:ROwn wr v L
  fr:Fr none_ w wr
theorem RLoop.none_ {w wr w':World} {count:Int} {v:Value} {L:List Rp} (h:RLoop w wr count v L) (hf:Fr none_ wr w'):RLoop w w' count v L:=
  ⟨h.b0.fr hf id,own_none h.own hf,h.fr.then_none hf⟩

def RTakePost (w:World) (count:Int) (L:List Rp) (n:Nat) (e:Ending) (w':World):Prop:=
  ∃ A c,e=.returned (.tuple #[rtab count (.slice A (L ++ [((n:Int),0,0)]).length c),.int .i64 n,.int .i64 0])∧ROwn w' (.slice A (L ++ [((n:Int),0,0)]).length c) (L ++ [((n:Int),0,0)])∧Fr none_ w w'

set_option maxHeartbeats 1000000 in
theorem rtake_ok (count n:Nat) (A:Option Addr) (c:Nat) (L:List Rp) (w:World) (h:ROwn w (.slice A L.length c) L) (hl:L.length≤1000) (hc:count≤1000) (hn:n < count) (hf:findL L n=-1) (hu:∀ j:Nat,j < n→0≤findL L j) :
  Calls Tryz.prog 98 #[rtab count (.slice A L.length c)] w (RTakePost w count L n):=by
 obtain ⟨i0,hi0,hz0,hs0,hb0⟩:=info_parts rpage_info
 have H:=hid_ h
 have Hu:=hid_ hu
 have Hf:=hid_ hf
 have Hi:=hid_ (And.intro hi0 (And.intro hz0 (And.intro hs0 hb0)))
 clear h hu hf hi0 hz0 hs0 hb0
 go_enter Tryz.func98,Tryz.ntmps98
 go_wp2_with fail
 go_loopw [5] (fun i wr=>∃ k:Nat,k≤n∧i=.int .i64 k∧RLoop w wr count (.slice A L.length c) L∧Blk wr (w.heap.size+1) 77 #[.int .i64 0,.slice none 0 0]) (fun i _=>count - (intOf i).toNat)
 case atStart =>
  refine ⟨0,Nat.zero_le _,rfl,⟨(Blk.new w _ _).alloc _,own_none H.out (((Fr.refl none_ w).alloc _).alloc _),((Fr.refl none_ w).alloc _).alloc _⟩,?_⟩
  have:=Blk.new (w.alloc (rbox count (.slice A L.length c))) 77 #[.int .i64 0,.slice none 0 0]
  simpa using this
 case round =>
  obtain ⟨k,hk,rfl,hR,hB⟩:=hrel
  have c0:wr.cell? ⟨w.heap.size,0,none⟩=some (.int .i64 count):=hR.b0.cell' rfl
  have c1:wr.cell? ⟨w.heap.size,1,none⟩=some (.slice A L.length c):=hR.b0.cell' rfl
  have z0:=hR.b0.lt
  have z1:=hB.lt
  have R:=hid_ hR
  have B:=hid_ hB
  clear hR hB
  by_cases hlt:k < n
  ·have hge:=Hu.out k hlt
   go_wp2_with fail
   refine (find_any count k A c L wr R.out.own hl).mono ?_
   rintro e w' ⟨rfl,rfl⟩
   go_wp2
   go_roundw
   case rel=>exact ⟨k+1,by omega,by go_num,R.out.none_ ((Fr.refl none_ _).alloc _),B.out.alloc _⟩
   case measure=>simp [intOf];omega
  ·obtain rfl:k=n:=by omega
   go_wp2_with fail
   refine (find_any count k A c L wr R.out.own hl).mono ?_
   rintro e w2 ⟨rfl,hw2⟩
   rw [Hf.out]
   have R2:Hid (RLoop w w2 count (.slice A L.length c) L):=hid_ (by rw [hw2];exact R.out.none_ ((Fr.refl none_ wr).alloc _))
   have B2:Hid (Blk w2 (w.heap.size+1) 77 #[.int .i64 0,.slice none 0 0]):=hid_ (by rw [hw2];exact B.out.alloc _)
   have e0:w2.cell? ⟨w.heap.size,0,none⟩=some (.int .i64 count):=R2.out.b0.cell' rfl
   have e1:w2.cell? ⟨w.heap.size,1,none⟩=some (.slice A L.length c):=R2.out.b0.cell' rfl
   have y0:=R2.out.b0.lt
   have y1:=B2.out.lt
   clear hw2 c0 c1 z0 z1
   have hsrc:Hid (Reads (w2.alloc (.cells #[] 135)) 3 A L.length (rtFlat L)):=hid_ ((Reads.of_own R2.out.own).alloc _)
   go_wp2_with (first
    | (at_builtin;refine wpList_append_any _ rfl (.tmp 16) (.tmp 18) 75 rfl w2.heap.size 135 i0 _ 3 24 Tryz.underlying75 Hi.out.1 Hi.out.2.1 Hi.out.2.2.1 Hi.out.2.2.2 rfl (by omega) (.slice (some ⟨w2.heap.size,0,none⟩) 0 0) 0 [] rfl (own_empty_at _ _ _ _ _ (Nat.le_refl _) rfl) A L.length c (rtFlat L) rfl hsrc.out (rtFlat_one L) (by simp only [maxLen];omega) (by omega) (by simp) ?_;intro A1 c1 w3 hown3 hgr3;simp only [Nat.zero_add,List.nil_append] at hown3;have F3:=hid_ (((Fr.refl none_ w2).alloc (.cells #[] 135)).grown hgr3 (fun k hk=>.inr (by simp [Value.ownBlock] at hk;omega)));have O3:=hid_ hown3;clear hown3 hgr3;have hz3:=F3.out.size)
    | (at_builtin;refine wpList_append_any _ rfl (.tmp 19) (.tmp 22) 75 rfl w2.heap.size 135 i0 _ 3 24 Tryz.underlying75 Hi.out.1 Hi.out.2.1 Hi.out.2.2.1 Hi.out.2.2.2 rfl (by omega) (.slice A1 L.length c1) L.length (rtFlat L) rfl (O3.out.alloc _) (some ⟨w3.heap.size,0,none⟩) 1 1 [.int .i64 k,.int .i64 0,.int .i64 0] rfl (reads_new _ _ _ _ rfl) (by simp [Value.oneCell']) (by simp only [maxLen];omega) (by omega) (by simp;omega) ?_;intro A2 c2 w4 hown4 hgr4;have F4:=hid_ ((F3.out.alloc (.cells #[.int .i64 k,.int .i64 0,.int .i64 0] 135)).grown hgr4 (fun j hj=>.inr (O3.out.lt j hj).1));have O4:=hid_ hown4;clear hown4 hgr4;have R4:=hid_ (R2.out.none_ F4.out);have g0:w4.cell? ⟨w.heap.size,0,none⟩=some (.int .i64 count):=R4.out.b0.cell' rfl;have g1:w4.cell? ⟨w.heap.size,1,none⟩=some (.slice A L.length c):=R4.out.b0.cell' rfl;have f1:=R4.out.b0.frozen 1;have B4:=hid_ (B2.out.fr F4.out id);have g2:w4.cell? ⟨w.heap.size+1,0,none⟩=some (.int .i64 0):=B4.out.cell' rfl;have g3:w4.cell? ⟨w.heap.size+1,1,none⟩=some (.slice none 0 0):=B4.out.cell' rfl;have f2:=B4.out.frozen 0;have f3:=B4.out.frozen 1))
   have q:=(((B4.out.far (p:=⟨w.heap.size,1,none⟩) (by simp) (.slice A2 (L.length+1) c2)).set_ 0 (.int .i64 count)).set_ 1 (.slice A2 (L.length+1) c2))
   have q0:=q.cell' (i:=0) rfl
   have q1:=q.cell' (i:=1) rfl
   clear q g0 g1 g2 g3 f1 f2 f3
   refine bodyPost_ret (v:=.tuple #[rtab count (.slice A2 (L.length+1) c2),.int .i64 k,.int .i64 0]) ?_ rfl ?_
   ·simp [results,Tryz.results98,go_sem,q0,q1]
   ·refine ⟨A2,c2,by simp,?_,?_⟩
    ·have:=O4.out
     have hfl:rtFlat (L ++ [((k:Int),0,0)])=rtFlat L ++ [.int .i64 k,.int .i64 0,.int .i64 0]:=by simp [rtFlat]
     have hlen:(L ++ [((k:Int),0,0)]).length=L.length+1:=by simp
     unfold ROwn
     rw [hfl,hlen]
     refine own_fr (S:=fun b=>b=w.heap.size∨b=w.heap.size+1) (own_base this (Nat.zero_le _)) ?_ ?_
     ·exact (((Fr.refl _ _).setCell (p:=⟨w.heap.size,1,none⟩) (.inl (.inl rfl)) _).setCell (p:=⟨w.heap.size+1,0,none⟩) (.inl (.inr rfl)) _).setCell (p:=⟨w.heap.size+1,1,none⟩) (.inl (.inr rfl)) _
     ·intro j hj
      have:=(O4.out.lt j hj).1
      omega
    ·exact ((R4.out.fr.setCell (p:=⟨w.heap.size,1,none⟩) (.inr (by simp)) _).setCell (p:=⟨w.heap.size+1,0,none⟩) (.inr (by simp)) _).setCell (p:=⟨w.heap.size+1,1,none⟩) (.inr (by simp)) _

open Go.RowKit

theorem why_any (count n:Int) (A:Option Addr) (c:Nat) (L:List Rp) (w:World) (h:ROwn w (.slice A L.length c) L) (hl:L.length≤1000) :
    Calls Tryz.prog 91 #[rtab count (.slice A L.length c),.int .i64 n] w fun e w'=>e=.returned (.int .i64 (whyL count L n))∧Fr none_ w w':=by
  by_cases hn:n < 0∨count≤n
  · have:whyL count L n=1:=by rw [whyL,if_pos hn]
    rw [this]
    exact (why_arg count n A c L w hn).mono fun _ _ ⟨h1,h2⟩=>⟨h1,h2 ▸ (Fr.refl none_ w).alloc _⟩
  · by_cases hf:findL L n=-1
    · have:whyL count L n=6:=by rw [whyL,if_neg hn,if_pos hf]
      rw [this]
      exact (why_none count n A c L w h hl (by omega) (by omega) hf).mono fun _ _ ⟨h1,h2⟩=>⟨h1,h2 ▸ ((Fr.refl none_ w).alloc _).alloc _⟩
    · have:whyL count L n=0:=by rw [whyL,if_neg hn,if_neg hf]
      rw [this]
      exact (why_ok count n A c L w h hl (by omega) (by omega) (by have:=(findL_ge L n).1;omega)).mono fun _ _ ⟨h1,h2⟩=>⟨h1,h2 ▸ ((Fr.refl none_ w).alloc _).alloc _⟩

structure GSt (w w':World) (count:Int) (v:Value) (L:List Rp) (b:Nat) (x y:Value):Prop where
  b0:Blk w' w.heap.size 77 #[.int .i64 count,v]
  b1:Blk w' b 77 #[x,y]
  fr:Fr none_ w w'
  own:ROwn w' v L
  hb:w.heap.size < b
theorem GSt.keep {w w' w2:World} {count:Int} {v x y:Value} {L:List Rp} {b:Nat} (h:GSt w w' count v L b x y) (hf:Fr none_ w' w2):GSt w w2 count v L b x y:=
  ⟨h.b0.fr hf id,h.b1.fr hf id,h.fr.then_none hf,own_none h.own hf,h.hb⟩
theorem GSt.cells {w w':World} {count:Int} {v x y:Value} {L:List Rp} {b:Nat} (h:GSt w w' count v L b x y) :
    w'.cell? ⟨w.heap.size,0,none⟩=some (.int .i64 count)∧w'.cell? ⟨w.heap.size,1,none⟩=some v∧w'.cell? ⟨b,0,none⟩=some x∧w'.cell? ⟨b,1,none⟩=some y:=
  ⟨h.b0.cell' rfl,h.b0.cell' rfl,h.b1.cell' rfl,h.b1.cell' rfl⟩

open Go.RowKit

structure SSt (w w':World) (count:Int) (v:Value) (L:List Rp) (a b c d:Int) (x y:Value):Prop where
  g:GSt w w' count v L (w.heap.size+1+1+1) x y
  b2:Blk w' (w.heap.size+1) 23 #[.int .i64 a,.int .i64 b]
  b3:Blk w' (w.heap.size+1+1) 23 #[.int .i64 c,.int .i64 d]
theorem SSt.keep {w w' w2:World} {count:Int} {v x y:Value} {L:List Rp} {a b c d:Int} (h:SSt w w' count v L a b c d x y) (hf:Fr none_ w' w2):SSt w w2 count v L a b c d x y:=
  ⟨h.g.keep hf,h.b2.fr hf id,h.b3.fr hf id⟩
theorem SSt.start (w w1:World) (count:Int) (v:Value) (L:List Rp) (a b c d:Int) (h:ROwn w v L)
    (hf:Fr none_ ((((w.alloc (rbox count v)).alloc (.cells #[.int .i64 a,.int .i64 b] 23)).alloc (.cells #[.int .i64 c,.int .i64 d] 23)).alloc (.cells #[.int .i64 0,.slice none 0 0] 77)) w1) :
    SSt w w1 count v L a b c d (.int .i64 0) (.slice none 0 0):=by
  have F:=((((Fr.refl none_ w).alloc (rbox count v)).alloc (.cells #[.int .i64 a,.int .i64 b] 23)).alloc (.cells #[.int .i64 c,.int .i64 d] 23)).alloc (.cells #[.int .i64 0,.slice none 0 0] 77)
  have k2:=(Blk.new (w.alloc (rbox count v)) 23 #[.int .i64 a,.int .i64 b])
  have k3:=(Blk.new ((w.alloc (rbox count v)).alloc (.cells #[.int .i64 a,.int .i64 b] 23)) 23 #[.int .i64 c,.int .i64 d])
  have k4:=(Blk.new (((w.alloc (rbox count v)).alloc (.cells #[.int .i64 a,.int .i64 b] 23)).alloc (.cells #[.int .i64 c,.int .i64 d] 23)) 77 #[.int .i64 0,.slice none 0 0])
  simp only [World.size_alloc] at k2 k3 k4
  exact ⟨⟨((((Blk.new w _ _).alloc _).alloc _).alloc _).fr hf id,k4.fr hf id,F.then_none hf,own_none h (F.then_none hf),by omega⟩,((k2.alloc _).alloc _).fr hf id,(k3.alloc _).fr hf id⟩

def RSwapPost (w:World) (count:Int) (L:List Rp) (i:Nat) (m c d:Int) (e:Ending) (w':World):Prop:=
  ∃ A cp,e=.returned (.tuple #[rtab count (.slice A (L.set i (m,c,d)).length cp),.bool true,.int .i64 0])∧ROwn w' (.slice A (L.set i (m,c,d)).length cp) (L.set i (m,c,d))∧Fr none_ w w'∧(∀ ad,A=some ad→w.heap.size≤ad.block)

theorem rtFlat_set:∀ (L:List Rp) (i:Nat) (m s g c d:Int),L[i]?=some (m,s,g)→((rtFlat L).set (i * 3+1) (.int .i64 c)).set (i * 3+1+1) (.int .i64 d)=rtFlat (L.set i (m,c,d))
  | [],i,m,s,g,c,d,h=>by simp at h
  | q :: L,0,m,s,g,c,d,h=>by
    obtain rfl:q=(m,s,g):=by simpa using h
    simp [rtFlat]
  | q :: L,i+1,m,s,g,c,d,h=>by
    have:=rtFlat_set L i m s g c d (by simpa using h)
    rw [show (i+1) * 3=i * 3+1+1+1 by omega]
    simpa [rtFlat,List.flatMap_cons] using this

set_option maxHeartbeats 1000000 in
theorem rswap_yes (count n:Int) (A:Option Addr) (cp:Nat) (L:List Rp) (a b c d:Int) (w:World) (h:ROwn w (.slice A L.length cp) L) (hl:L.length≤1000) (h0:0≤n) (h1:n < count) (i:Nat) (m:Int) (hf:findL L n=i) (hi:L[i]?=some (m,a,b)) :
  Calls Tryz.prog 99 #[rtab count (.slice A L.length cp),.int .i64 n,.agg #[.int .i64 a,.int .i64 b],.agg #[.int .i64 c,.int .i64 d]] w (RSwapPost w count L i m c d):=by
 obtain ⟨i0,hi0',hz0,hs0,hb0⟩:=info_parts rpage_info
 have Hi:=hid_ (And.intro hi0' (And.intro hz0 (And.intro hs0 hb0)))
 have hil:i < L.length:=(List.getElem?_eq_some_iff.1 hi).1
 have H:=hid_ h
 have Hf:=hid_ hf
 have Hk:Hid (whyL count L n=0):=hid_ (by rw [whyL,if_neg (by omega),if_neg (by omega)])
 have Hx:=hid_ hi
 clear h hf hi hi0' hz0 hs0 hb0
 go_enter Tryz.func99,Tryz.ntmps99
 go_wp2_with fail
 refine (why_any count n A cp L _ (own_none H.out (by repeat (first | exact Fr.refl _ _ | apply Fr.alloc))) hl).mono ?_
 rintro e w1 ⟨rfl,hf1⟩
 rw [Hk.out]
 have S1:=hid_ (SSt.start w w1 count _ L a b c d H.out hf1)
 obtain ⟨c20,c21,_,_⟩:=S1.out.g.cells
 clear hf1
 go_wp2_with fail
 refine (find_any count n A cp L w1 S1.out.g.own hl).mono ?_
 rintro e w2 ⟨rfl,hw2⟩
 rw [Hf.out]
 have S2:Hid (SSt w w2 count (.slice A L.length cp) L a b c d (.int .i64 0) (.slice none 0 0)):=hid_ (S1.out.keep (by rw [hw2];exact (Fr.refl none_ w1).alloc _))
 clear hw2 c20 c21
 obtain ⟨gb,hA,hgl,hcl⟩:=rown_cell S2.out.g.own (by omega)
 obtain ⟨_,e1,e2⟩:=hcl i _ Hx.out
 clear hcl
 subst hA
 obtain ⟨c20,c21,r0,r1⟩:=S2.out.g.cells
 have d0:w2.cell? ⟨w.heap.size+1,0,none⟩=some (.int .i64 a):=S2.out.b2.cell' rfl
 have d1:w2.cell? ⟨w.heap.size+1,1,none⟩=some (.int .i64 b):=S2.out.b2.cell' rfl
 have hi0:(0:Int)≤(i:Int):=Int.natCast_nonneg _
 have hi1:(i:Int) < (L.length:Int):=by omega
 have hz2:=S2.out.g.b0.lt
 go_wp2_with fail
 go_quiet (fail)
 obtain ⟨wq,hwq⟩:∃ wq,wq=w2.drewN nq:=⟨_,rfl⟩
 rw [← hwq]
 have Sq:Hid (SSt w wq count (.slice (some ⟨gb,0,none⟩) L.length cp) L a b c d (.int .i64 0) (.slice none 0 0)):=hid_ (by rw [hwq];exact S2.out.keep ((Fr.refl none_ w2).drewN nq))
 clear hwq c20 c21 r0 r1 d0 d1 hz2 e1 e2
 have hzq:=Sq.out.g.b0.lt
 obtain ⟨c20,c21,_,_⟩:=Sq.out.g.cells
 have hmax:Hid (0+L.length≤maxLen):=hid_ (by simp only [maxLen];omega)
 have hby:Hid ((0+L.length) * 24≤140737488355328):=hid_ (by omega)
 have hbs:Hid (wq.heap.size≤(wq.alloc (.cells #[] 135)).heap.size):=hid_ (by simp)
 have hsrc:Hid (Reads (wq.alloc (.cells #[] 135)) 3 (some ⟨gb,0,none⟩) L.length (rtFlat L)):=hid_ ((Reads.of_own Sq.out.g.own).alloc _)
 go_wp2_with (at_builtin;refine wpList_append_any _ rfl (.tmp 33) (.tmp 35) 75 rfl wq.heap.size 135 i0 _ 3 24 Tryz.underlying75 Hi.out.1 Hi.out.2.1 Hi.out.2.2.1 Hi.out.2.2.2 rfl (by omega) (.slice (some ⟨wq.heap.size,0,none⟩) 0 0) 0 [] rfl (own_empty_at wq _ _ _ _ (Nat.le_refl _) rfl) (some ⟨gb,0,none⟩) L.length cp (rtFlat L) rfl hsrc.out (rtFlat_one L) hmax.out hby.out hbs.out ?_;intro A1 c1 w3 hown3 hgr3;simp only [Nat.zero_add,List.nil_append] at hown3;have F3:=hid_ (((Fr.refl none_ wq).alloc (.cells #[] 135)).grown hgr3 (fun k hk=>.inr (by simp [Value.ownBlock] at hk;omega)));clear hgr3;obtain ⟨g1,hA1,hg1,hcl1⟩:=rown_cell (own_base hown3 (Nat.zero_le _)) (by omega);subst hA1;obtain ⟨x0,x1,x2⟩:=hcl1 i _ Hx.out;have y1:=hown3.frozenAt (i * 3+1);have y2:=hown3.frozenAt (i * 3+1+1);have O3:=hid_ hown3;clear hown3 hcl1;have S3:=hid_ (Sq.out.keep F3.out);have j0:w3.cell? ⟨w.heap.size+1+1,0,none⟩=some (.int .i64 c):=S3.out.b3.cell' rfl;have j1:w3.cell? ⟨w.heap.size+1+1,1,none⟩=some (.int .i64 d):=S3.out.b3.cell' rfl;obtain ⟨k0,k1,k2,k3⟩:=S3.out.g.cells;have k4:=S3.out.g.b0.frozen 1;have k5:=S3.out.g.b1.frozen 0;have k6:=S3.out.g.b1.frozen 1;have k7:wq.heap.size≤g1:=(O3.out.lt g1 rfl).1;have k8:=Sq.out.g.b1.lt;have k9:¬ g1=w.heap.size:=by omega)
 have hg3:¬ g1=w.heap.size+1+1+1:=by have:=k7;have:=k8;omega
 have q:=(((S3.out.g.b1.far (p:=⟨g1,i * 3+1,none⟩) (by show w.heap.size+1+1+1≠g1;omega) (.int .i64 c)).far (p:=⟨g1,i * 3+1+1,none⟩) (by show w.heap.size+1+1+1≠g1;omega) (.int .i64 d)).far (p:=⟨w.heap.size,1,none⟩) (by show w.heap.size+1+1+1≠w.heap.size;omega) (.slice (some ⟨g1,0,none⟩) L.length c1)).set_ 0 (.int .i64 count) |>.set_ 1 (.slice (some ⟨g1,0,none⟩) L.length c1)
 have q0:=q.cell' (i:=0) rfl
 have q1:=q.cell' (i:=1) rfl
 clear q k0 k1 k2 k3 k4 k5 k6 j0 j1 x0 x1 x2 y1 y2
 refine bodyPost_ret (v:=.tuple #[rtab count (.slice (some ⟨g1,0,none⟩) L.length c1),.bool true,.int .i64 0]) ?_ rfl ⟨some ⟨g1,0,none⟩,c1,by simp,?_,?_,fun ad e=>by cases e;show w.heap.size≤g1;omega⟩
 ·simp [results,Tryz.results99,go_sem,q0,q1]
 ·unfold ROwn
  rw [List.length_set,← rtFlat_set L i m a b c d Hx.out]
  have o1:=((O3.out.stored (i * 3+1) (.int .i64 c)).1.stored (i * 3+1+1) (.int .i64 d)).1
  refine own_fr (S:=fun b=>b=w.heap.size∨b=w.heap.size+1+1+1) (own_base o1 (Nat.zero_le _)) ?_ ?_
  ·exact (((Fr.refl _ _).setCell (p:=⟨w.heap.size,1,none⟩) (.inl (.inl rfl)) _).setCell (p:=⟨w.heap.size+1+1+1,0,none⟩) (.inl (.inr rfl)) _).setCell (p:=⟨w.heap.size+1+1+1,1,none⟩) (.inl (.inr rfl)) _
  ·intro k hk
   obtain rfl:g1=k:=by simpa [Value.ownBlock] using hk
   omega
 ·exact ((((S3.out.g.fr.setCell (p:=⟨g1,i * 3+1,none⟩) (.inr (by show w.heap.size≤g1;omega)) _).setCell (p:=⟨g1,i * 3+1+1,none⟩) (.inr (by show w.heap.size≤g1;omega)) _).setCell (p:=⟨w.heap.size,1,none⟩) (.inr (Nat.le_refl w.heap.size)) _).setCell (p:=⟨w.heap.size+1+1+1,0,none⟩) (.inr (by show w.heap.size≤w.heap.size+1+1+1;omega)) _).setCell (p:=⟨w.heap.size+1+1+1,1,none⟩) (.inr (by show w.heap.size≤w.heap.size+1+1+1;omega)) _
end Go.Proofs.YtfihfjbakfadkaaGreatDoor
