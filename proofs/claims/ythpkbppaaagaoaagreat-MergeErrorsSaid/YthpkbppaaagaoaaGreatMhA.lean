/- Texts of one proof, merged: Base, Reads, More, Err, Open, TypesR, Rec, Clone, RdAt, HeldT, Mid, Ar, Alloc, At, Ld, Is, ArFirst, Map, Map2, Map3, ClkN, HeldU, Mem9, Chain9, ErrOf, Acc9. -/
import Derived.WalkKit
import Derived.Carry
import Derived.ProofKit
import Derived.SizedLaws
import Derived.LaidLaws
import Derived.LaidHandle
import Derived.Stop.Joined
import Derived.Deep.QuietTactic
import Derived.Deep.Slices
import Derived.Laws.OwnMore
import Derived.Deep.AppendLies
import Derived.Maps.AppendAt
import Derived.RegionTactic
import Derived.OwnWalk
import Derived.Test.YthpkbppaaagaoaaGreatProg
import Derived.WalkLawsBesides
import Derived.WalkSpells
import Derived.BigQuiet
import Derived.ChangeArms
import Derived.OrdersHeld
import Derived.Deep.MidRow
import Derived.Deep.RegionHeld3
import Derived.Laws.MakeOwn
import Derived.LaidEql
import Derived.Stop.Asserts
import Derived.RowKitTokens
import Derived.Maps.OwnOps
import Derived.Maps.OwnSet
import Derived.Maps.RangeWalk
import Derived.IntWalk
import Derived.Deep.Cut
import Derived.Deep.DeepCutAuto
namespace Go.Proofs.YthpkbppaaagaoaaGreat
set_option maxRecDepth 100000
set_option linter.unusedVariables false
open Go.ChangeShapes Go.WideShapes Go.RowKit

structure Fr (S:Nat→Prop) (w w':World):Prop where
  os:w'.os=w.os
  tape:w'.tape=w.tape
  output:w'.output=w.output
  size:w.heap.size≤w'.heap.size
  block:∀ k,k < w.heap.size→¬ S k→w'.heap[k]?=w.heap[k]?

theorem hid_ {p:Prop} (h:p):Hid p:=h

def none_:Nat→Prop:=fun _=>False

def only (g:Nat):Nat→Prop:=fun k=>k=g
theorem only_ne {g k:Nat} (h:k≠g):¬ only g k:=h

theorem Fr.refl (S:Nat→Prop) (w:World):Fr S w w:=⟨rfl,rfl,rfl,Nat.le_refl _,fun _ _ _=>rfl⟩
theorem Fr.mono {S S':Nat→Prop} {w w':World} (h:Fr S w w') (hs:∀ k,k < w.heap.size→S k→S' k):Fr S' w w':=
  ⟨h.os,h.tape,h.output,h.size,fun k hk hn=>h.block k hk (fun e=>hn (hs k hk e))⟩
theorem Fr.trans {S S' S'':Nat→Prop} {a b c:World} (h:Fr S a b) (k:Fr S' b c) (h1:∀ i,i < a.heap.size→S i→S'' i) (h2:∀ i,i < a.heap.size→S' i→S'' i):Fr S'' a c:=
  ⟨k.os.trans h.os,k.tape.trans h.tape,k.output.trans h.output,Nat.le_trans h.size k.size,fun i hi hn =>
    (k.block i (Nat.lt_of_lt_of_le hi h.size) (fun e=>hn (h2 i hi e))).trans (h.block i hi (fun e=>hn (h1 i hi e)))⟩
theorem Fr.then_only {S:Nat→Prop} {a b c:World} {g:Nat} (h:Fr S a b) (k:Fr (only g) b c) (hg:S g∨a.heap.size≤g):Fr S a c:=
  h.trans k (fun _ _=>id) (fun i hi e=>by
    obtain rfl:i=g:=e
    rcases hg with hg | hg
    · exact hg
    · omega)
theorem Fr.then_none {S:Nat→Prop} {a b c:World} (h:Fr S a b) (k:Fr none_ b c):Fr S a c:=h.trans k (fun _ _=>id) (fun _ _ e=>e.elim)
theorem Fr.drew {S:Nat→Prop} {a w:World} (h:Fr S a w):Fr S a w.drew:=⟨h.os,h.tape,h.output,h.size,h.block⟩
theorem Fr.drewN {S:Nat→Prop} {a w:World} (h:Fr S a w) (n:Nat):Fr S a (w.drewN n):=⟨h.os,h.tape,h.output,h.size,h.block⟩
theorem Fr.alloc {S:Nat→Prop} {a w:World} (h:Fr S a w) (o:Obj):Fr S a (w.alloc o):=
  ⟨h.os,h.tape,h.output,Nat.le_trans h.size (by simp),fun k hk hn=>(Below.heap_alloc w o k (Nat.lt_of_lt_of_le hk h.size)).trans (h.block k hk hn)⟩
theorem Fr.setCell {S:Nat→Prop} {a w:World} (h:Fr S a w) {p:Addr} (hp:S p.block∨a.heap.size≤p.block) (u:Value):Fr S a (w.setCell p u):=
  ⟨h.os,h.tape,h.output,by simpa [World.setCell] using h.size,fun k hk hn=>(Below.heap_setCell w p u k (by
    rintro rfl
    rcases hp with hp | hp
    · exact hn hp
    · omega)).trans (h.block k hk hn)⟩
theorem Fr.grown {S:Nat→Prop} {a w w':World} {row:Option Nat} (h:Fr S a w) (hg:w.grownBy w' row) (hr:∀ k,row=some k→S k∨a.heap.size≤k):Fr S a w':=
  ⟨hg.os.trans h.os,hg.tape.trans h.tape,hg.output.trans h.output,Nat.le_trans h.size hg.size,fun k hk hn =>
    (hg.block k (Nat.lt_of_lt_of_le hk h.size) (fun e=>by
      rcases hr k e.symm with h' | h'
      · exact hn h'
      · omega)).trans (h.block k hk hn)⟩
theorem Fr.below {S:Nat→Prop} {w w':World} (h:Fr S w w') {B:Nat} (hB:B≤w.heap.size) (hs:∀ k,S k→B≤k):Below B w w':=
  ⟨h.os,h.tape,h.output,h.size,fun k hk=>h.block k (by omega) (fun e=>by have:=hs k e;omega)⟩
theorem Fr.below0 {w w':World} (h:Fr none_ w w'):Below w.heap.size w w':=h.below (Nat.le_refl _) (fun _ e=>e.elim)

def Blk (w:World) (g:Nat) (t:TypeId) (cs:Array Value):Prop:=w.heap[g]?=some (.cells cs t (0,0))

section
variable {w w':World} {g:Nat} {t:TypeId} {cs:Array Value} {S:Nat→Prop}
theorem Blk.lt (h:Blk w g t cs):g < w.heap.size:=by
  rcases Nat.lt_or_ge g w.heap.size with hlt | hge
  · exact hlt
  · unfold Blk at h;rw [Array.getElem?_eq_none hge] at h;cases h
theorem Blk.cell (h:Blk w g t cs) (i:Nat):w.cell? ⟨g,i,none⟩=cs[i]?:=cell_of_row w g i cs t (0,0) h
theorem Blk.cell' (h:Blk w g t cs) {i:Nat} {v:Value} (hv:cs[i]?=some v):w.cell? ⟨g,i,none⟩=some v:=(h.cell i).trans hv
theorem Blk.frozen (h:Blk w g t cs) (i:Nat):w.frozen? ⟨g,i,none⟩=false:=by
  unfold Blk at h
  simp [World.frozen?,h]
theorem Blk.new (w:World) (t:TypeId) (cs:Array Value):Blk (w.alloc (.cells cs t)) w.heap.size t cs:=heap_alloc_new w _
theorem Blk.drew (h:Blk w g t cs):Blk w.drew g t cs:=h
theorem Blk.drewN (h:Blk w g t cs) (n:Nat):Blk (w.drewN n) g t cs:=h
theorem Blk.alloc (h:Blk w g t cs) (o:Obj):Blk (w.alloc o) g t cs:=(Below.heap_alloc w o g h.lt).trans h
theorem Blk.set_ (h:Blk w g t cs) (i:Nat) (u:Value):Blk (w.setCell ⟨g,i,none⟩ u) g t (cs.setIfInBounds i u):=by
  unfold Blk at h ⊢
  simp [World.setCell,Array.getElem?_modify,h]
theorem Blk.far (h:Blk w g t cs) {p:Addr} (hp:g≠p.block) (u:Value):Blk (w.setCell p u) g t cs:=(Below.heap_setCell w p u g hp).trans h
theorem Blk.fr (h:Blk w g t cs) (hf:Fr S w w') (hg:¬ S g):Blk w' g t cs:=(hf.block g h.lt hg).trans h
theorem Blk.below {B:Nat} (h:Blk w g t cs) (hb:Below B w w') (hg:g < B):Blk w' g t cs:=(hb.block g hg).trans h
theorem Blk.grown {row:Option Nat} (h:Blk w g t cs) (hb:w.grownBy w' row) (hg:some g≠row):Blk w' g t cs:=(hb.block g h.lt hg).trans h
theorem Blk.ne_ {g':Nat} {t':TypeId} {cs':Array Value} (h:Blk w g t cs) (h':Blk w g' t' cs') (hne:t≠t'):g≠g':=by
  rintro rfl
  unfold Blk at h h'
  rw [h] at h'
  injection h' with h'
  injection h' with _ ht
  exact hne ht
theorem Blk.uniq {t':TypeId} {cs':Array Value} (h:Blk w g t cs) (h':Blk w g t' cs'):t=t'∧cs=cs':=by
  unfold Blk at h h'
  rw [h] at h'
  injection h' with h'
  injection h' with h1 h2
  exact ⟨h2,h1⟩
end

theorem _root_.Go.World.ownsRow.shape {w:World} {base:Nat} {e:TypeId} {size:Nat} {v:Value} {n:Nat} {xs:List Value} (h:w.ownsRow base e size v n xs):∃ A c,v=.slice A n c:=by
  rcases h.2 with ⟨rfl,rfl⟩ | ⟨g,cap,cur,rfl,_⟩
  · exact ⟨_,_,rfl⟩
  · exact ⟨_,_,rfl⟩

theorem wf_u8 {n:Int} (h:(Lit.int .u8 n).wf=true):0≤n∧n≤255:=by
  simp [Lit.wf,IntKind.min,IntKind.max,IntKind.signed,IntKind.bits] at h
  omega
section
variable {H:Type} {enc:TypeId × Value→H}

theorem args_kept {P:Program} (hl:laidOutB P=true) {W W':World} (hb:Below W.heap.size W W'):∀ {ts:List TypeId} {vs:List Value} {ds:List (DataW H)} {ps:List MemPlace},
    (∀ t ∈ ts,P.readableRec t=true∧t < P.types.size)→DataW.TrodAll enc P W 0 (fun _=>true) true ts vs ds ps→(∀ x ∈ ps,x.block < W.heap.size) →
    DataW.TrodAll enc P W' 0 (fun b=>decide (b < W.heap.size)) true ts vs ds ps
  | [],vs,ds,ps,_,h,_=>by
    obtain ⟨rfl,rfl,rfl⟩:=trodAll_nil h
    rfl
  | t :: ts,vs,ds,ps,hr,h,hlt=>by
    obtain ⟨v,vs',d,ds',p,q,rfl,rfl,rfl,h1,h2⟩:=trodAll_cons h
    exact ⟨p,q,Below.trod hl (hr t (by simp)).1 (hr t (by simp)).2 h1 hb (fun x hx=>hlt x (by simp [hx])),args_kept hl hb (fun t' ht'=>hr t' (by simp [ht'])) h2 (fun x hx=>hlt x (by simp [hx])),rfl⟩

def LawWalk (enc:TypeId × Value→H) (P:Program) (f:FuncId) (ts:List TypeId) (X:World→Prop):Prop:=
  ∀ (W:World) (args:Array Value) (ds:List (DataW H)) (ps:List MemPlace) (base:Nat),DataW.TrodAll enc P W 0 (fun _=>true) true ts args.toList ds ps →
    (∀ (j:Nat) t v,ts[j]?=some t→args.toList[j]?=some v→Value.okWide P W .any base t v)→(∀ x ∈ ps,x.block < W.heap.size) →
    (DataW.weightsEach P ts ds).all (·≤reachBytes)=true→X W →
    Calls P f args W fun e W'=>e=.returned (.bool true)∧Below W.heap.size W W'

theorem post_of_walk {P:Program} {fn:Func} {s:ChangeSpec} {apart handsOn:Bool} {tb:TypeId} (hl:laidOutB P=true) (hpar:(fn.params.toList.all fun t=>P.readableRec t && decide (t < P.types.size))=true)
    (hres:fn.resultTypes=#[tb]) (htb:P.underlying tb=some .bool) (hvars:s.vars=[]) (hspec:∀ ds:List (DataW H),ds.length=fn.params.toList.length→s.fn H (ds ++ [])={ results:=[.lit (.bool true)],args:=ds })
    {W W':World} {args:Array Value} {ds gs:List (DataW H)} {before:List MemPlace} (hW:DataW.Whole enc P fn.params.toList s.vars apart W args.toList ds gs before) (hb:Below W.heap.size W W') :
    s.post enc P fn apart true handsOn false W args (.bool true) W':=by
  have hW':=hW
  obtain ⟨p,q,hA,hV,rfl,hfz,hnd⟩:=hW
  rw [hvars] at hV
  obtain ⟨rfl,rfl⟩:gs=[]∧q=[]:=by
    cases gs with
    | nil=>exact ⟨rfl,hV⟩
    | cons g r=>exact absurd hV (by intro h;cases h)
  have hlen:ds.length=fn.params.toList.length:=by
    clear hpar hspec hfz hnd hW' hres hb
    generalize fn.params.toList=ts at hA
    generalize args.toList=vs at hA
    induction ts generalizing vs ds p with
    | nil=>obtain ⟨rfl,rfl,rfl⟩:=trodAll_nil hA;rfl
    | cons t ts ih =>
      obtain ⟨v,vs',d,ds',p',q',rfl,rfl,rfl,h1,h2⟩:=trodAll_cons hA
      simp [ih _ _ h2]
  have hr:∀ t ∈ fn.params.toList,P.readableRec t=true∧t < P.types.size:=fun t ht=>by
    have:=List.all_eq_true.1 hpar t ht
    simpa using this
  have hlt:∀ x ∈ p,x.block < W.heap.size:=fun x hx=>hW'.lt x (by simp [hx])
  have e:=hspec ds hlen
  refine ⟨ds,[],_,[],p,[],hW',?_,?_,?_,hb.frame _,fun h=>by cases h⟩
  · rw [e,hres]
    exact trodAll_mk1 (shut_bool htb true)
  · rw [e]
    exact args_kept hl hb hr hA hlt
  · rw [e,hvars]
    rfl

theorem lift_plain {C:Checked} {os:Os} {f:FuncId} {fn:Func} {s:ChangeSpec} {apart handsOn:Bool} {tb:TypeId}
    (own:ownKnob C.prog.godebug=none) (started:os.Started) (noInit:C.prog.inits.idxOf? f=none) (hfn:C.prog.funcs[f]?=some fn)
    (hl:laidOutB C.prog=true) (hpar:(fn.params.toList.all fun t=>C.prog.readableRec t && decide (t < C.prog.types.size))=true)
    (hres:fn.resultTypes=#[tb]) (htb:C.prog.underlying tb=some .bool) (hvars:s.vars=[]) (hspec:∀ ds:List (DataW H),ds.length=fn.params.toList.length→s.fn H (ds ++ [])={ results:=[.lit (.bool true)],args:=ds })
    (witness:∃ (w:World) (tape:Tape) (i:Input),w.os=os∧(w.forCall tape i).Shaped C.prog∧i.vars=[]∧Input.okWide C.prog (w.forCall tape i) .any w.heap.size f i ∧
      s.pre6 enc C.prog fn [] apart (w.forCall tape i).memory i.args∧({}:Assume).holds C.prog (lone (Frame.enter C.prog f i.args .normal) [] (w.forCall tape i)))
    (walk:LawWalk enc C.prog f fn.params.toList (fun _=>True)) :
    ReturnsInHanded {} C os f .any (s.pre6 enc C.prog fn [] apart) (s.post enc C.prog fn apart true handsOn false):=by
  refine returnsInHanded_of_change_sized own started noInit hfn witness ?_
  intro W base args ds gs before hval hW _ hsz _
  have hW':=hW
  obtain ⟨p,q,hA,hV,rfl,hfz,hnd⟩:=hW
  rw [hvars] at hV
  obtain ⟨rfl,rfl⟩:gs=[]∧q=[]:=by
    cases gs with
    | nil=>exact ⟨rfl,hV⟩
    | cons g r=>exact absurd hV (by intro h;cases h)
  have hvt:s.plain.varTypes C.prog=[]:=by simp [DataSpec.varTypes,ChangeSpec.plain,hvars]
  rw [hvt] at hsz
  simp only [List.append_nil] at hsz
  refine (walk W args ds p base hA (fun j t v ht hv=>hval j t v (by simpa using ht) (by simpa using hv)) (fun x hx=>hW'.lt x (by simp [hx])) hsz trivial).mono fun e W' ⟨he,hb⟩=>?_
  exact ⟨_,he,post_of_walk hl hpar hres htb hvars hspec hW' hb⟩

end
open Go.RowKit

theorem block_of_add (a:Addr) (n:Nat):(a.add n).block=a.block:=by unfold Addr.add;split <;> rfl
theorem add_of_add (a:Addr) (i j:Nat):(a.add i).add j=a.add (i+j):=by
  unfold Addr.add
  by_cases hi:i=0 <;> by_cases hj:j=0 <;> simp [hi,hj,Nat.add_assoc]
theorem add_lit (b off j:Nat):(⟨b,off,none⟩:Addr).add j=⟨b,off+j,none⟩:=by
  unfold Addr.add
  split <;> simp_all

def Reads (w:World) (size:Nat) (A:Option Addr) (n:Nat) (xs:List Value):Prop:=
  xs.length=n * size∧(0 < n→∃ ad,A=some ad∧∀ j u,xs[j]?=some u→w.cell? (ad.add j)=some u)

section
variable {w w':World} {size n:Nat} {A:Option Addr} {xs:List Value}
theorem Reads.nil_:Reads w size A 0 []:=⟨by simp,fun h=>absurd h (by omega)⟩
theorem Reads.cut (h:Reads w size A n xs) {k cap:Nat} (hk:k≤n) (hc:n≤cap) :
    Reads w size (if cap=k then A else A.map (·.add (k * size))) (n - k) (xs.drop (k * size)):=by
  refine ⟨by rw [List.length_drop,h.1,Nat.sub_mul],fun hn=>?_⟩
  obtain ⟨ad,rfl,hcell⟩:=h.2 (by omega)
  rw [if_neg (by omega)]
  refine ⟨ad.add (k * size),rfl,fun j u hu=>?_⟩
  rw [add_of_add]
  exact hcell _ u (by rw [← hu,List.getElem?_drop])
theorem Reads.upto (h:Reads w size A n xs) {k:Nat} (hk:k≤n):Reads w size A k (xs.take (k * size)):=by
  have hm:k * size≤n * size:=Nat.mul_le_mul_right _ hk
  refine ⟨by rw [List.length_take,h.1];omega,fun hn=>?_⟩
  obtain ⟨ad,rfl,hcell⟩:=h.2 (by omega)
  refine ⟨ad,rfl,fun j u hu=>hcell j u ?_⟩
  rw [List.getElem?_take] at hu
  split at hu
  · exact hu
  · cases hu
theorem Reads.of_own {base:Nat} {e:TypeId} {c:Nat} (h:w.ownsRow base e size (.slice A n c) n xs):Reads w size A n xs:=by
  refine ⟨h.1,fun hn=>?_⟩
  obtain ⟨g,cap,hv,_,hlt⟩:=h.form hn
  have hA:A=some ⟨g,0,none⟩:=by injection hv
  subst hA
  exact ⟨_,rfl,h.cells (g:=g) rfl⟩
theorem Reads.fr {S:Nat→Prop} (h:Reads w size A n xs) (hf:Fr S w w') (hS:∀ ad,A=some ad→¬ S ad.block):Reads w' size A n xs:=
  ⟨h.1,fun hn=>by
    obtain ⟨ad,e,hc⟩:=h.2 hn
    refine ⟨ad,e,fun j u hu=>?_⟩
    have h1:=hc j u hu
    have hlt:=World.block_lt_of_cell? w _ h1
    exact (World.cell?_of_block (hf.block _ hlt (by rw [block_of_add];exact hS ad e))).trans h1⟩
theorem Reads.none_fr (h:Reads w size A n xs) (hf:Fr none_ w w'):Reads w' size A n xs:=h.fr hf (fun _ _=>id)
theorem Reads.drew (h:Reads w size A n xs):Reads w.drew size A n xs:=h
theorem Reads.alloc (h:Reads w size A n xs) (o:Obj):Reads (w.alloc o) size A n xs:=h.none_fr ((Fr.refl none_ w).alloc o)
end

theorem own_empty (w:World) (t:TypeId) (size:Nat) (base:Nat) (hb:base≤w.heap.size):(w.alloc (.cells #[] t)).ownsRow base t size (.slice (some ⟨w.heap.size,0,none⟩) 0 0) 0 []:=
  World.ownsRow_made w #[] 0 hb (by simp) (by simp)

theorem own_empty_at (w:World) (t:TypeId) (size:Nat) (base b:Nat) (hb:base≤w.heap.size) (e:b=w.heap.size):(w.alloc (.cells #[] t)).ownsRow base t size (.slice (some ⟨b,0,none⟩) 0 0) 0 []:=by
  subst e
  exact own_empty w t size base hb

theorem reads_new (w:World) (t:TypeId) (cs:List Value) (b:Nat) (e:b=w.heap.size):Reads (w.alloc (.cells cs.toArray t)) cs.length (some ⟨b,0,none⟩) 1 cs:=by
  subst e
  refine ⟨by simp,fun _=>⟨_,rfl,fun j u hu=>?_⟩⟩
  rw [add_lit,Nat.zero_add]
  exact (Blk.new w t cs.toArray).cell' (by simpa using hu)

theorem own_fr {w w':World} {base:Nat} {e:TypeId} {size:Nat} {v:Value} {n:Nat} {xs:List Value} {S:Nat→Prop} (h:w.ownsRow base e size v n xs) (hf:Fr S w w') (hS:∀ k,v.ownBlock=some k→¬ S k):w'.ownsRow base e size v n xs:=by
  refine ⟨h.1,?_⟩
  rcases h.2 with hn | ⟨g,cap,cur,rfl,hb,hh,rest⟩
  · exact .inl hn
  · exact .inr ⟨g,cap,cur,rfl,hb,(hf.block g (Array.getElem?_eq_some_iff.1 hh).1 (hS g rfl)).trans hh,rest⟩
theorem own_none {w w':World} {base:Nat} {e:TypeId} {size:Nat} {v:Value} {n:Nat} {xs:List Value} (h:w.ownsRow base e size v n xs) (hf:Fr none_ w w'):w'.ownsRow base e size v n xs:=own_fr h hf (fun _ _=>id)
theorem own_base {w:World} {base base':Nat} {e:TypeId} {size:Nat} {v:Value} {n:Nat} {xs:List Value} (h:w.ownsRow base e size v n xs) (hb:base'≤base):w.ownsRow base' e size v n xs:=by
  refine ⟨h.1,?_⟩
  rcases h.2 with hn | ⟨g,cap,cur,rfl,hb',rest⟩
  · exact .inl hn
  · exact .inr ⟨g,cap,cur,rfl,by omega,rest⟩
theorem own_blk_ne {w:World} {base:Nat} {e:TypeId} {size n:Nat} {v:Value} {xs:List Value} (h:w.ownsRow base e size v n xs) {g:Nat} {t:TypeId} {cs:Array Value} (hg:Blk w g t cs) (hne:e≠t):v.ownBlock≠some g:=by
  rcases h.2 with ⟨rfl,_⟩ | ⟨g',cap,cur,rfl,_,hh,_⟩
  · simp [Value.ownBlock]
  · intro he
    have:g'=g:=by simpa [Value.ownBlock] using he
    subst this
    exact Blk.ne_ (t:=e) hh hg hne rfl
theorem own_own_ne {w:World} {base base':Nat} {e e':TypeId} {size size' n n':Nat} {v v':Value} {xs xs':List Value} (h:w.ownsRow base e size v n xs) (h':w.ownsRow base' e' size' v' n' xs') (hne:e≠e') (k:Nat) (hk:v.ownBlock=some k):¬ v'.ownBlock=some k:=by
  rcases h.2 with ⟨rfl,_⟩ | ⟨g,cap,cur,rfl,_,hh,_⟩
  · simp [Value.ownBlock] at hk
  · obtain rfl:g=k:=by simpa [Value.ownBlock] using hk
    exact own_blk_ne h' (g:=g) (t:=e) (cs:=cur) hh (Ne.symm hne)
theorem own_parts {w:World} {base:Nat} {e:TypeId} {size n:Nat} {v:Value} {xs:List Value} (h:w.ownsRow base e size v n xs) :
    ∃ A c,v=.slice A n c∧n≤c∧c≤maxLen∧(0 < n→∃ g,A=some ⟨g,0,none⟩∧g < w.heap.size∧∀ j u,xs[j]?=some u→w.cell? ⟨g,j,none⟩=some u):=by
  have hR:=h
  rcases h.2 with ⟨rfl,rfl⟩ | ⟨g,cap,cur,rfl,hb,hh,hc,hm,hs,ht⟩
  · exact ⟨none,0,rfl,Nat.le_refl _,by simp,fun h=>absurd h (by omega)⟩
  · refine ⟨_,_,rfl,hc,hm,fun _=>⟨g,rfl,(Array.getElem?_eq_some_iff.1 hh).1,fun j u hu=>?_⟩⟩
    have:=hR.cells (g:=g) rfl j u hu
    rwa [add_lit,Nat.zero_add] at this

section
variable {P:Program} (w:World)
theorem run_append_of_nil (base:Nat) (t ty e:TypeId) (i:TypeInfo) (size:Nat) (ht:P.underlying t=some (.slice e)) (hi:P.info? e=some i)
    (v:Value) (n:Nat) (xs:List Value) (hown:w.ownsRow base e size v n xs) (c:Nat):(Builtin.append_ #[t,t] ty #[v,.slice none 0 c]).run P w=.ok v w:=by
  rcases hown.2 with ⟨rfl,rfl⟩ | ⟨g,cap,cur,rfl,_,_,hnc,_⟩
  · simp [Builtin.append_,run_underlying ht,sizeOf,typeInfo,hi,Builtin.lenOf,Builtin.firstCells]
  · simp [Builtin.append_,run_underlying ht,sizeOf,typeInfo,hi,Builtin.lenOf,Builtin.firstCells,hnc,storeCells]

theorem run_append_any (base:Nat) (t ty e:TypeId) (i:TypeInfo) (z:Value) (size bytes:Nat) (ht:P.underlying t=some (.slice e)) (hi:P.info? e=some i) (hz:i.zero=some z)
    (hsize:i.size=size) (hby:i.bytes=bytes) (hzs:z.cells.size=size) (hsz:0 < size)
    (v:Value) (n:Nat) (xs:List Value) (hown:w.ownsRow base e size v n xs)
    (A:Option Addr) (m c:Nat) (news:List Value) (hr:Reads w size A m news) (h1:∀ u ∈ news,u.oneCell'=true)
    (h63:n+m≤maxLen) (hbytes:(n+m) * bytes≤140737488355328) (hbase:base≤w.heap.size) :
    ∃ v' w',(Builtin.append_ #[t,t] ty #[v,.slice A m c]).run P w=.ok v' w'∧w'.ownsRow base e size v' (n+m) (xs ++ news)∧w.grownBy w' v.ownBlock ∧
      (v'.ownBlock=v.ownBlock∨v'.ownBlock=some w.heap.size):=by
  rcases A with _ | ad
  · have hm:m=0:=by
      rcases Nat.eq_zero_or_pos m with h0 | h0
      · exact h0
      · obtain ⟨ad,h,_⟩:=hr.2 h0
        cases h
    subst hm
    have hn:news=[]:=List.eq_nil_of_length_eq_zero (by simpa using hr.1)
    subst hn
    exact ⟨v,w,run_append_of_nil w base t ty e i size ht hi v n xs hown c,by simpa using hown,World.grownBy.refl w _,.inl rfl⟩
  · have hcells:∀ j u,news[j]?=some u→w.cell? (ad.add j)=some u:=by
      intro j u hu
      rcases Nat.eq_zero_or_pos m with h0 | h0
      · subst h0
        have hn:news=[]:=List.eq_nil_of_length_eq_zero (by simpa using hr.1)
        subst hn
        simp at hu
      · obtain ⟨ad',h,hc⟩:=hr.2 h0
        injection h with h
        subst h
        exact hc j u hu
    obtain ⟨v',w',hrun,h2,h3,_,h5⟩:=run_append_own_at (P:=P) w base t ty e i z size bytes ht hi hz hsize hby hzs hsz v n xs hown ad m c news hr.1 hcells h1 h63 hbytes hbase
    exact ⟨v',w',hrun,h2,h3,h5⟩

theorem wp_append_any {o:Oper} {a:Act} {K:Act→World→Prop} {Q:Exit→Act→World→Prop} (s x:Operand) (t:TypeId)
    (ho:o.op=.call { callee:=.builtin .append,args:=#[s,x],argTypes:=#[t,t] })
    (base:Nat) (e:TypeId) (i:TypeInfo) (z:Value) (size bytes:Nat) (ht:P.underlying t=some (.slice e)) (hi:P.info? e=some i) (hz:i.zero=some z)
    (hsize:i.size=size) (hby:i.bytes=bytes) (hzs:z.cells.size=size) (hsz:0 < size)
    (v:Value) (n:Nat) (xs:List Value) (hs:a.eval s=v) (hown:w.ownsRow base e size v n xs)
    (A:Option Addr) (m c:Nat) (news:List Value) (hx:a.eval x=.slice A m c) (hr:Reads w size A m news) (h1:∀ u ∈ news,u.oneCell'=true)
    (h63:n+m≤maxLen) (hbytes:(n+m) * bytes≤140737488355328) (hbase:base≤w.heap.size)
    (h:∀ A' c' w',w'.ownsRow base e size (.slice A' (n+m) c') (n+m) (xs ++ news)→w.grownBy w' v.ownBlock→K (a.put o.dst (.slice A' (n+m) c')) w'):o.wp P a w K Q:=by
  obtain ⟨v',w',hrun,h2,h3,h4⟩:=run_append_any (P:=P) w base t o.type e i z size bytes ht hi hz hsize hby hzs hsz v n xs hown A m c news hr h1 h63 hbytes hbase
  obtain ⟨A',c',rfl⟩:=h2.shape
  unfold Oper.wp execOp
  simp only [ho,resolve,invoke,builtin,Sem.run_bind,Sem.run_pure,Result.andThen_ok,List.map_toArray,List.map_cons,List.map_nil,hs,hx,hrun]
  exact h A' c' w' h2 h3

theorem wpList_append_any {ops:Array Oper} {rest:List Oper} {o:Oper} {a:Act} {Q:Exit→Act→World→Prop} (hgd:o.guard=none) (s x:Operand) (t:TypeId)
    (ho:o.op=.call { callee:=.builtin .append,args:=#[s,x],argTypes:=#[t,t] })
    (base:Nat) (e:TypeId) (i:TypeInfo) (z:Value) (size bytes:Nat) (ht:P.underlying t=some (.slice e)) (hi:P.info? e=some i) (hz:i.zero=some z)
    (hsize:i.size=size) (hby:i.bytes=bytes) (hzs:z.cells.size=size) (hsz:0 < size)
    (v:Value) (n:Nat) (xs:List Value) (hs:a.eval s=v) (hown:w.ownsRow base e size v n xs)
    (A:Option Addr) (m c:Nat) (news:List Value) (hx:a.eval x=.slice A m c) (hr:Reads w size A m news) (h1:∀ u ∈ news,u.oneCell'=true)
    (h63:n+m≤maxLen) (hbytes:(n+m) * bytes≤140737488355328) (hbase:base≤w.heap.size)
    (h:∀ A' c' w',w'.ownsRow base e size (.slice A' (n+m) c') (n+m) (xs ++ news)→w.grownBy w' v.ownBlock→wpList P ops Q rest (a.put o.dst (.slice A' (n+m) c')) w'):wpList P ops Q (o :: rest) a w:=
  wpList_plain hgd fun _ hK=>wp_append_any w s x t ho base e i z size bytes ht hi hz hsize hby hzs hsz v n xs hs hown A m c news hx hr h1 h63 hbytes hbase fun A' c' w' h2 h3=>hK _ _ (h A' c' w' h2 h3)

end
open Go.RowKit

theorem Fr.toOnly {a w:World} {p:Addr} (h:Fr none_ a w) (u:Value):Fr (only p.block) a (w.setCell p u):=
  (h.mono (S':=only p.block) (fun _ _ e=>e.elim)).setCell (p:=p) (.inl (Eq.refl _)) u
theorem Fr.only1 (w:World) (p:Addr) (u:Value):Fr (only p.block) w (w.setCell p u):=(Fr.refl none_ w).toOnly u
theorem cellFr {w w':World} {p:Addr} {v:Value} (h:w.cell? p=some v) (hf:Fr none_ w w'):w'.cell? p=some v:=
  (World.cell?_of_block (hf.block _ (World.block_lt_of_cell? w _ h) id)).trans h
theorem cellFrS {S:Nat→Prop} {w w':World} {p:Addr} {v:Value} (h:w.cell? p=some v) (hf:Fr S w w') (hS:¬ S p.block):w'.cell? p=some v:=
  (World.cell?_of_block (hf.block _ (World.block_lt_of_cell? w _ h) hS)).trans h

theorem choose_list {α:Type} {P:Nat→α→Prop}:∀ (n:Nat),(∀ k,k < n→∃ x,P k x)→∃ L:List α,L.length=n∧∀ k x,L[k]?=some x→P k x
  | 0,_=>⟨[],rfl,fun k x h=>by simp at h⟩
  | n+1,h=>by
    obtain ⟨L,hl,hL⟩:=choose_list n (fun k hk=>h k (by omega))
    obtain ⟨x,hx⟩:=h n (by omega)
    refine ⟨L ++ [x],by simp [hl],fun k y hy=>?_⟩
    rcases Nat.lt_or_ge k L.length with h1 | h1
    · rw [List.getElem?_append_left h1] at hy;exact hL k y hy
    · rw [List.getElem?_append_right h1] at hy
      have:k - L.length=0:=by
        rcases Nat.eq_zero_or_pos (k - L.length) with h2 | h2
        · exact h2
        · rw [List.getElem?_eq_none (by simp;omega)] at hy;cases hy
      rw [this] at hy
      obtain rfl:x=y:=by simpa using hy
      obtain rfl:k=n:=by omega
      exact hx
section
variable {P:Program} (w:World)
theorem wp_append_at {o:Oper} {a:Act} {K:Act→World→Prop} {Q:Exit→Act→World→Prop} (s x:Operand) (t:TypeId)
    (ho:o.op=.call { callee:=.builtin .append,args:=#[s,x],argTypes:=#[t,t] })
    (base:Nat) (e:TypeId) (i:TypeInfo) (z:Value) (size bytes:Nat) (ht:P.underlying t=some (.slice e)) (hi:P.info? e=some i) (hz:i.zero=some z)
    (hsize:i.size=size) (hby:i.bytes=bytes) (hzs:z.cells.size=size) (hsz:0 < size)
    (v:Value) (n:Nat) (xs:List Value) (hs:a.eval s=v) (hown:w.ownsRow base e size v n xs)
    (A:Option Addr) (m c:Nat) (news:List Value) (hx:a.eval x=.slice A m c) (hr:Reads w size A m news) (h1:∀ u ∈ news,u.oneCell'=true)
    (h63:n+m≤maxLen) (hbytes:(n+m) * bytes≤140737488355328) (hbase:base≤w.heap.size)
    (h:∀ v' w',w'.ownsRow base e size v' (n+m) (xs ++ news)→w.grownBy w' v.ownBlock→(v'.ownBlock=v.ownBlock∨v'.ownBlock=some w.heap.size)→K (a.put o.dst v') w'):o.wp P a w K Q:=by
  obtain ⟨v',w',hrun,h2,h3,h4⟩:=run_append_any (P:=P) w base t o.type e i z size bytes ht hi hz hsize hby hzs hsz v n xs hown A m c news hr h1 h63 hbytes hbase
  unfold Oper.wp execOp
  simp only [ho,resolve,invoke,builtin,Sem.run_bind,Sem.run_pure,Result.andThen_ok,List.map_toArray,List.map_cons,List.map_nil,hs,hx,hrun]
  exact h v' w' h2 h3 h4
end
open Go.RowKit

abbrev errV (k:Int):Value:=.iface 73 (.int .i64 k)
open Go.ChangeShapes Go.WideShapes Go.RowKit Go.Deep

inductive Leaf where
  | int (k:IntKind)
  | bool
  | string
  | slice (t:TypeId)

def leaves (P:Program):Nat→TypeId→List (Nat × Leaf)
  | 0,_=>[]
  | n+1,t =>
    match P.underlying t with
    | some .bool=>[(0,.bool)]
    | some (.int k)=>[(0,.int k)]
    | some .string=>[(0,.string)]
    | some (.slice _)=>[(0,.slice t)]
    | some (.struct fs)=>fs.toList.flatMap fun f=>(leaves P n f.type).map fun x=>(f.offset+x.1,x.2)
    | _=>[]

section
variable {H:Type} (enc:TypeId × Value→H) (P:Program) (w:World)

def Conf:Leaf→Value→Prop
  | .int k,v=>∃ n,v=.int k n∧(Lit.int k n).wf=true
  | .bool,v=>∃ b,v=.bool b
  | .string,v=>∃ s:ByteArray,v=.string s∧s.size≤reachBytes
  | .slice t,v=>∃ fuel d ps,DataW.trod enc P w 0 (fun _=>true) true fuel t [v]=some (d,ps)∧(∀ p ∈ ps,p.block < w.heap.size)∧(∀ x ∈ d.weights P t,x≤reachBytes)
end

section
variable {H:Type} {enc:TypeId × Value→H} {P:Program} {w:World}

theorem leaves_conf:∀ (n:Nat) (t:TypeId) (fuel:Nat) (cs:List Value) (x:DataW H × List MemPlace),DataW.trod enc P w 0 (fun _=>true) true fuel t cs=some x →
    (∀ p ∈ x.2,p.block < w.heap.size)→(∀ y ∈ x.1.weights P t,y≤reachBytes)→∀ o l,(o,l) ∈ leaves P n t→∃ v,cs[o]?=some v∧Conf enc P w l v:=by
  intro n
  induction n with
  | zero=>intro t fuel cs x _ _ _ o l h;simp [leaves] at h
  | succ n ih =>
    intro t fuel cs x h hlt hwt o l hl
    simp only [leaves] at hl
    split at hl
    · rename_i hu
      obtain ⟨rfl,rfl⟩:o=0∧l=.bool:=by simpa using hl
      obtain ⟨b,rfl,_⟩:=DataW.trod_bool hu h
      exact ⟨_,rfl,b,rfl⟩
    · rename_i k hu
      obtain ⟨rfl,rfl⟩:o=0∧l=.int k:=by simpa using hl
      obtain ⟨b,rfl,_,hwf⟩:=DataW.trod_int hu h
      exact ⟨_,rfl,b,rfl,hwf⟩
    · rename_i hu
      obtain ⟨rfl,rfl⟩:o=0∧l=.string:=by simpa using hl
      obtain ⟨s,rfl,hx,_⟩:=DataW.trod_string hu h
      refine ⟨_,rfl,s,rfl,?_⟩
      subst hx
      simpa [DataW.weights] using hwt
    · rename_i e hu
      obtain ⟨rfl,rfl⟩:o=0∧l=.slice t:=by simpa using hl
      rcases DataW.trod_slice hu h with ⟨rfl,_⟩ | ⟨a,len,cap,elems,rest,m,_,rfl,_⟩
      · exact ⟨_,rfl,fuel,x.1,x.2,h,hlt,hwt⟩
      · exact ⟨_,rfl,fuel,x.1,x.2,h,hlt,hwt⟩
    · rename_i fs hu
      obtain ⟨f,hf,hx⟩:=List.mem_flatMap.1 hl
      obtain ⟨⟨o',l'⟩,hm,he⟩:=List.mem_map.1 hx
      obtain ⟨rfl,rfl⟩:f.offset+o'=o∧l'=l:=by simpa using he
      obtain ⟨xs,m,_,rfl,_,hlen,hg⟩:=DataW.trod_struct hu h
      obtain ⟨i,hi,hfi⟩:=List.mem_iff_getElem.1 hf
      have hfi':fs[i]?=some f:=by
        rw [← Array.getElem?_toList,List.getElem?_eq_getElem hi,hfi]
      have hil:i < xs.length:=by rw [hlen];simpa using hi
      have hgi:=hg i f hfi'
      rw [List.getElem?_eq_getElem hil] at hgi
      obtain ⟨v,hv,hc⟩:=ih f.type m _ xs[i] hgi (fun p hp=>hlt p (List.mem_flatMap.2 ⟨xs[i],List.getElem_mem hil,hp⟩)) (fun y hy=>hwt y (by
        simp only [DataW.weights,hu]
        refine DataW.weights_mem_each (j:=i) (t:=f.type) (d:=xs[i].1) ?_ ?_ y hy
        · rw [List.getElem?_map,List.getElem?_eq_getElem hi,hfi];rfl
        · rw [List.getElem?_map,List.getElem?_eq_getElem hil];rfl)) o' l' hm
      refine ⟨v,?_,hc⟩
      rw [List.getElem?_take] at hv
      split at hv
      · rw [List.getElem?_drop] at hv;exact hv
      · cases hv
    · simp at hl

theorem weightsAll_mem {e:TypeId}:∀ {l:List (DataW H)} {d:DataW H},d ∈ l→∀ y ∈ d.weights P e,y ∈ DataW.weightsAll P e l
  | x :: r,d,h,y,hy=>by
    simp only [DataW.weightsAll,List.mem_append]
    rcases List.mem_cons.1 h with rfl | h
    · exact .inl hy
    · exact .inr (weightsAll_mem h y hy)

def Rd (enc:TypeId × Value→H) (P:Program) (w:World) (m e:Nat) (A:Option Addr) (n:Nat):Prop:=
  0 < n→∃ b off,A=some ⟨b,off,none⟩∧b < w.heap.size∧∀ k,k < n→∀ o l,(o,l) ∈ leaves P m e→∃ u,w.cell? ⟨b,off+k * P.cellsOf e+o,none⟩=some u∧Conf enc P w l u

theorem open_list (m:Nat) {t e:TypeId} {fuel:Nat} {v:Value} {d:DataW H} {ps:List MemPlace} (ht:P.underlying t=some (.slice e)) (h:DataW.trod enc P w 0 (fun _=>true) true fuel t [v]=some (d,ps))
  (hlt:∀ p ∈ ps,p.block < w.heap.size) (hwt:∀ y ∈ d.weights P t,y≤reachBytes) (hne:(leaves P m e).isEmpty=false) (hin:(leaves P m e).all (fun x=>decide (x.1 < P.cellsOf e))=true) :
  ∃ A n c,v=.slice A n c∧n≤c∧c≤maxLen∧c * P.bytesOf e≤reachBytes∧(A=none→n=0∧c=0)∧Rd enc P w m e A n:=by
 rcases open_slice ht h with ⟨hv,hx⟩ | ⟨a,len,cap,m',fu,D,Pl,hv,hb,hl,hm,hmm,hx,hi⟩
 ·obtain rfl:v=.slice none 0 0:=by simpa using hv
  exact ⟨none,0,0,rfl,Nat.le_refl _,by simp,by simp,fun _=>⟨rfl,rfl⟩,fun h=>absurd h (by omega)⟩
 ·obtain rfl:v=.slice (some a) len cap:=by simpa using hv
  simp only [if_true] at hmm
  subst hmm
  obtain ⟨rfl,rfl⟩:d=_∧ps=_:=by simpa using hx
  have hwd:(((List.range len).map D).length+((List.range (m' - len)).map fun j=>D (len+j)).length) * P.bytesOf e≤reachBytes:=by
   refine hwt _ ?_
   simp only [DataW.weights,ht]
   exact List.mem_cons_self
  have hcap:m' * P.bytesOf e≤reachBytes:=by
   simp only [List.length_map,List.length_range] at hwd
   rwa [show len+(m' - len)=m' by omega] at hwd
  refine ⟨some a,len,m',rfl,hl,hm,hcap,(fun h=>by cases h),fun hn=>?_⟩
  have hsz:0 < P.cellsOf e:=by
   cases hlv:leaves P m e with
   | nil=>rw [hlv] at hne;cases hne
   | cons y ys=>rw [hlv] at hin;simp at hin;omega
  have hcell:∀ k,k < len→∃ cs:List Value,cs.length=P.cellsOf e∧(∀ j,j < P.cellsOf e→w.cell? (a.add (k * P.cellsOf e+j))=cs[j]?)∧∀ o l,(o,l) ∈ leaves P m e→∃ v,cs[o]?=some v∧Conf enc P w l v:=by
   intro k hk
   obtain ⟨cs,hc,htr⟩:=hi k (by omega)
   obtain ⟨_,hcl,hat⟩:=World.cells?_some hc
   refine ⟨cs,hcl,fun j hj=>by rw [← hat j hj,add_add],leaves_conf m e fu cs _ htr ?_ ?_⟩
   ·intro p hp
    refine hlt p ?_
    rw [List.mem_append]
    exact .inr (List.mem_flatMap.2 ⟨k,List.mem_range.2 (by omega),hp⟩)
   ·intro y hy
    refine hwt y ?_
    simp only [DataW.weights,ht,List.mem_cons,List.mem_append]
    exact .inr (.inl (weightsAll_mem (List.mem_map.2 ⟨k,List.mem_range.2 hk,rfl⟩) y hy))
  obtain ⟨cs0,hcl0,hat0,_⟩:=hcell 0 hn
  have h00:=hat0 0 hsz
  have hsome:∃ u,w.cell? a=some u:=by
   have:a.add (0 * P.cellsOf e+0)=a:=by simp [Addr.add]
   rw [this,List.getElem?_eq_getElem (by omega)] at h00
   exact ⟨_,h00⟩
  obtain ⟨u0,hu0⟩:=hsome
  have hspot:a.spot=none:=by
   unfold World.cell? at hu0
   split at hu0
   ·split at hu0
    ·cases hu0
    ·rename_i hs;simpa using hs
   ·cases hu0
  obtain ⟨b,off,sp⟩:=a
  simp only at hspot
  subst hspot
  have hadd:∀ j,(⟨b,off,none⟩:Addr).add j=⟨b,off+j,none⟩:=by
   intro j
   unfold Addr.add
   split <;> simp_all
  refine ⟨b,off,rfl,World.block_lt_of_cell? w _ hu0,fun k hk o l hol=>?_⟩
  obtain ⟨cs,hcl,hat,hcf⟩:=hcell k hk
  obtain ⟨v,hv,hc⟩:=hcf o l hol
  refine ⟨v,?_,hc⟩
  have hoe:o < P.cellsOf e:=by
   have:=List.all_eq_true.1 hin _ hol
   simpa using this
  have:=hat o hoe
  rw [hadd,hv] at this
  rw [Nat.add_assoc]
  exact this

theorem open_slice_arg (m:Nat) {t e:TypeId} {r:Reach} {b0:Nat} {v:Value} {d:DataW H} {ps:List MemPlace} (ht:P.underlying t=some (.slice e)) (hv:Value.okWide P w r b0 t v) (h:DataW.Trod enc P w 0 (fun _=>true) true t v d ps)
    (hlt:∀ p ∈ ps,p.block < w.heap.size) (hwt:∀ y ∈ d.weights P t,y≤reachBytes) (hne:(leaves P m e).isEmpty=false) (hin:(leaves P m e).all (fun x=>decide (x.1 < P.cellsOf e))=true) :
    ∃ A n c,v=.slice A n c∧n≤c∧c≤maxLen∧c * P.bytesOf e≤reachBytes∧(A=none→n=0∧c=0)∧Rd enc P w m e A n:=by
  obtain ⟨a0,len,cap,rfl⟩:=okWide_slice ht hv
  obtain ⟨fuel,hf⟩:=h
  exact open_list m ht (by simpa [Value.cells] using hf) hlt hwt hne hin
end
open Go.ChangeShapes Go.WideShapes Go.RowKit
set_option linter.unusedSimpArgs false

theorem cells_Row:Tryz.prog.cellsOf 25=2:=by kernel_rfl
theorem leaves_Row:leaves Tryz.prog 6 25=[(0,.string),(1,.string)]:=by kernel_rfl
def RowAt (w:World) (A:Option Addr) (n:Nat):Prop:=
  0 < n→∃ b off,A=some ⟨b,off,none⟩∧b < w.heap.size∧∀ k,k < n→∃ (x0:ByteArray) (x1:ByteArray),x0.size≤reachBytes∧x1.size≤reachBytes∧w.cell? ⟨b,off+k * 2,none⟩=some (.string x0)∧w.cell? ⟨b,off+k * 2+1,none⟩=some (.string x1)
theorem Row_at {H:Type} {enc:TypeId × Value→H} {w:World} {A:Option Addr} {n:Nat} (h:Rd enc Tryz.prog w 6 25 A n):RowAt w A n:=by
  intro hn
  obtain ⟨b,off,hA,hb,hc⟩:=h hn
  refine ⟨b,off,hA,hb,fun k hk=>?_⟩
  have hk:=hc k hk
  rw [leaves_Row,cells_Row] at hk
  obtain ⟨_,h0,x0,rfl,w0⟩:=hk 0 .string (by simp)
  obtain ⟨_,h1,x1,rfl,w1⟩:=hk 1 .string (by simp)
  exact ⟨x0,x1,w0,w1,h0,h1⟩
open Go.ChangeShapes Go.WideShapes Go.RowKit

abbrev Rw:=ByteArray × ByteArray
abbrev Et:=ByteArray × Int
structure Rc where
  kind:Int
  low:ByteArray
  high:ByteArray
  unb:Bool
  right:Int
  rows:List Rw
  ents:List Et
  key:ByteArray
  val:ByteArray
  page:Int
  hpage:Int
  hleft:Int
  hkey:ByteArray
  nslot:Int
  ngen:Int
abbrev nilS:ByteArray:=⟨#[]⟩
def Rc.zero:Rc:=⟨0,nilS,nilS,false,0,[],[],nilS,nilS,0,0,0,nilS,0,0⟩
abbrev recA (R:Rc) (vr ve:Value):Array Value:=#[.int .i64 R.kind,.string R.low,.string R.high,.bool R.unb,.int .i64 R.right,vr,ve,.string R.key,.string R.val,.int .i64 R.page,.int .i64 R.hpage,.int .i64 R.hleft,.string R.hkey,.int .i64 R.nslot,.int .i64 R.ngen]
abbrev recV (R:Rc) (vr ve:Value):Value:=.agg (recA R vr ve)
abbrev recB (R:Rc) (vr ve:Value):Obj:=.cells (recA R vr ve) 51

def rwCells (p:Rw):List Value:=[.string p.1,.string p.2]
def etCells (p:Et):List Value:=[.string p.1,.int .i64 p.2]
def rwFlat (L:List Rw):List Value:=(L.map rwCells).flatten
def etFlat (L:List Et):List Value:=(L.map etCells).flatten
theorem rwFlat_len (L:List Rw):(rwFlat L).length=L.length * 2:=by
  unfold rwFlat
  induction L with
  | nil=>rfl
  | cons p t ih=>simp [rwCells] at ih ⊢;omega
theorem etFlat_len (L:List Et):(etFlat L).length=L.length * 2:=by
  unfold etFlat
  induction L with
  | nil=>rfl
  | cons p t ih=>simp [etCells] at ih ⊢;omega
theorem rwFlat_one (L:List Rw):∀ u ∈ rwFlat L,u.oneCell'=true:=by
  intro u hu
  simp only [rwFlat,List.mem_flatten,List.mem_map] at hu
  obtain ⟨l,⟨p,_,rfl⟩,hu⟩:=hu
  simp only [rwCells,List.mem_cons,List.not_mem_nil,or_false] at hu
  rcases hu with rfl | rfl <;> rfl
theorem etFlat_one (L:List Et):∀ u ∈ etFlat L,u.oneCell'=true:=by
  intro u hu
  simp only [etFlat,List.mem_flatten,List.mem_map] at hu
  obtain ⟨l,⟨p,_,rfl⟩,hu⟩:=hu
  simp only [etCells,List.mem_cons,List.not_mem_nil,or_false] at hu
  rcases hu with rfl | rfl <;> rfl
theorem rwFlat_get:∀ (L:List Rw) (i:Nat) (p:Rw),L[i]?=some p→(rwFlat L)[i * 2]?=some (.string p.1)∧(rwFlat L)[i * 2+1]?=some (.string p.2)
  | [],i,p,h=>by simp at h
  | q :: L,0,p,h=>by
    obtain rfl:q=p:=by simpa using h
    simp [rwFlat,rwCells]
  | q :: L,i+1,p,h=>by
    have:=rwFlat_get L i p (by simpa using h)
    rw [show (i+1) * 2=i * 2+1+1 by omega]
    simpa [rwFlat,rwCells] using this
theorem etFlat_get:∀ (L:List Et) (i:Nat) (p:Et),L[i]?=some p→(etFlat L)[i * 2]?=some (.string p.1)∧(etFlat L)[i * 2+1]?=some (.int .i64 p.2)
  | [],i,p,h=>by simp at h
  | q :: L,0,p,h=>by
    obtain rfl:q=p:=by simpa using h
    simp [etFlat,etCells]
  | q :: L,i+1,p,h=>by
    have:=etFlat_get L i p (by simpa using h)
    rw [show (i+1) * 2=i * 2+1+1 by omega]
    simpa [etFlat,etCells] using this
theorem flat2_inv {α:Type} (f g:α→Value):∀ (L:List α) (j:Nat) (u:Value),((L.map fun p=>[f p,g p]).flatten)[j]?=some u→∃ (k:Nat) (p:α),L[k]?=some p∧((j=k * 2∧u=f p)∨(j=k * 2+1∧u=g p))
  | [],j,u,h=>by simp at h
  | q :: L,j,u,h=>by
    simp only [List.map_cons,List.flatten_cons] at h
    match j,h with
    | 0,h=>exact ⟨0,q,rfl,.inl ⟨rfl,by simpa using h.symm⟩⟩
    | 1,h=>exact ⟨0,q,rfl,.inr ⟨rfl,by simpa using h.symm⟩⟩
    | j+2,h =>
      obtain ⟨k,p,hp,hh⟩:=flat2_inv f g L j u (by simpa using h)
      refine ⟨k+1,p,by simpa using hp,?_⟩
      rcases hh with ⟨e,hu⟩ | ⟨e,hu⟩
      · exact .inl ⟨by omega,hu⟩
      · exact .inr ⟨by omega,hu⟩

def RwReads (w:World) (A:Option Addr) (n:Nat) (L:List Rw):Prop:=
  L.length=n∧(0 < n→∃ b off,A=some ⟨b,off,none⟩∧b < w.heap.size∧∀ k p,L[k]?=some p →
    (p.1.size≤reachBytes∧p.2.size≤reachBytes)∧w.cell? ⟨b,off+k * 2,none⟩=some (.string p.1)∧w.cell? ⟨b,off+k * 2+1,none⟩=some (.string p.2))
theorem rows_of {w:World} {A:Option Addr} {n:Nat} (h:RowAt w A n):∃ L,RwReads w A n L:=by
  rcases Nat.eq_zero_or_pos n with h0 | h0
  · subst h0;exact ⟨[],rfl,fun h=>absurd h (by omega)⟩
  · obtain ⟨b,off,hA,hb,hc⟩:=h h0
    obtain ⟨L,hl,hL⟩:=choose_list (α:=Rw) (P:=fun k p=>(p.1.size≤reachBytes∧p.2.size≤reachBytes)∧w.cell? ⟨b,off+k * 2,none⟩=some (.string p.1)∧w.cell? ⟨b,off+k * 2+1,none⟩=some (.string p.2)) n (fun k hk=>by
      obtain ⟨x0,x1,w0,w1,h0,h1⟩:=hc k hk
      exact ⟨(x0,x1),⟨w0,w1⟩,h0,h1⟩)
    exact ⟨L,hl,fun _=>⟨b,off,hA,hb,hL⟩⟩
theorem RwReads.reads {w:World} {A:Option Addr} {n:Nat} {L:List Rw} (h:RwReads w A n L):Reads w 2 A n (rwFlat L):=by
  refine ⟨by rw [rwFlat_len,h.1],fun hn=>?_⟩
  obtain ⟨b,off,hA,hb,hc⟩:=h.2 hn
  refine ⟨⟨b,off,none⟩,hA,fun j u hu=>?_⟩
  obtain ⟨k,p,hp,hh⟩:=flat2_inv (fun p:Rw=>Value.string p.1) (fun p=>.string p.2) L j u hu
  obtain ⟨_,c0,c1⟩:=hc k p hp
  rw [add_lit]
  rcases hh with ⟨rfl,rfl⟩ | ⟨rfl,rfl⟩
  · exact c0
  · exact c1
theorem row_info:(Tryz.prog.info? 25).map (fun i=>(i.zero,i.size,i.bytes))=some (some (.agg #[.string nilS,.string nilS]),2,32):=by kernel_rfl
theorem entry_info:(Tryz.prog.info? 132).map (fun i=>(i.zero,i.size,i.bytes))=some (some (.agg #[.string nilS,.int .i64 0]),2,24):=by kernel_rfl

structure RecOwn (w:World) (base:Nat) (R:Rc) (vr ve:Value):Prop where
  r:w.ownsRow base 25 2 vr R.rows.length (rwFlat R.rows)
  e:w.ownsRow base 132 2 ve R.ents.length (etFlat R.ents)
theorem RecOwn.keep {w w':World} {base:Nat} {R:Rc} {vr ve:Value} (h:RecOwn w base R vr ve) (hf:Fr none_ w w'):RecOwn w' base R vr ve:=⟨own_none h.r hf,own_none h.e hf⟩
theorem RecOwn.base {w:World} {b b':Nat} {R:Rc} {vr ve:Value} (h:RecOwn w b R vr ve) (hb:b'≤b):RecOwn w b' R vr ve:=⟨own_base h.r hb,own_base h.e hb⟩
theorem RecOwn.fr {w w':World} {S:Nat→Prop} {base:Nat} {R:Rc} {vr ve:Value} (h:RecOwn w base R vr ve) (hf:Fr S w w') (hr:∀ k,vr.ownBlock=some k→¬ S k) (he:∀ k,ve.ownBlock=some k→¬ S k):RecOwn w' base R vr ve:=⟨own_fr h.r hf hr,own_fr h.e hf he⟩
theorem RecOwn.only {w w':World} {base g:Nat} {R:Rc} {vr ve:Value} {t:TypeId} {cs:Array Value} (h:RecOwn w base R vr ve) (hf:Fr (only g) w w') (hg:Blk w g t cs) (h1:25≠t) (h2:132≠t):RecOwn w' base R vr ve:=
  h.fr hf (fun k hk e=>own_blk_ne h.r hg h1 (by rw [hk,show k=g from e])) (fun k hk e=>own_blk_ne h.e hg h2 (by rw [hk,show k=g from e]))
theorem RecOwn.zero (w:World) (base:Nat):RecOwn w base Rc.zero (.slice none 0 0) (.slice none 0 0):=⟨World.ownsRow_nil _ _ _ _,World.ownsRow_nil _ _ _ _⟩
theorem box15 {w1:World} {b:Nat} {t:TypeId} {c0 c1 c2 c3 c4 c5 c6 c7 c8 c9 c10 c11 c12 c13 c14:Value} (h:Blk w1 b t #[c0,c1,c2,c3,c4,c5,c6,c7,c8,c9,c10,c11,c12,c13,c14]) (x0 x1 x2 x3 x4 x5 x6 x7 x8 x9 x10 x11 x12 x13 x14:Value) :
    Blk (((((((((((((((w1.setCell ⟨b,0,none⟩ x0).setCell ⟨b,1,none⟩ x1).setCell ⟨b,2,none⟩ x2).setCell ⟨b,3,none⟩ x3).setCell ⟨b,4,none⟩ x4).setCell ⟨b,5,none⟩ x5).setCell ⟨b,6,none⟩ x6).setCell ⟨b,7,none⟩ x7).setCell ⟨b,8,none⟩ x8).setCell ⟨b,9,none⟩ x9).setCell ⟨b,10,none⟩ x10).setCell ⟨b,11,none⟩ x11).setCell ⟨b,12,none⟩ x12).setCell ⟨b,13,none⟩ x13).setCell ⟨b,14,none⟩ x14) b t #[x0,x1,x2,x3,x4,x5,x6,x7,x8,x9,x10,x11,x12,x13,x14]∧Fr (only b) w1 (((((((((((((((w1.setCell ⟨b,0,none⟩ x0).setCell ⟨b,1,none⟩ x1).setCell ⟨b,2,none⟩ x2).setCell ⟨b,3,none⟩ x3).setCell ⟨b,4,none⟩ x4).setCell ⟨b,5,none⟩ x5).setCell ⟨b,6,none⟩ x6).setCell ⟨b,7,none⟩ x7).setCell ⟨b,8,none⟩ x8).setCell ⟨b,9,none⟩ x9).setCell ⟨b,10,none⟩ x10).setCell ⟨b,11,none⟩ x11).setCell ⟨b,12,none⟩ x12).setCell ⟨b,13,none⟩ x13).setCell ⟨b,14,none⟩ x14):=by
  refine ⟨?_,((((((((((((((((Fr.refl (only b) w1).setCell (p:=⟨b,0,none⟩) (.inl (Eq.refl _)) x0).setCell (p:=⟨b,1,none⟩) (.inl (Eq.refl _)) x1).setCell (p:=⟨b,2,none⟩) (.inl (Eq.refl _)) x2).setCell (p:=⟨b,3,none⟩) (.inl (Eq.refl _)) x3).setCell (p:=⟨b,4,none⟩) (.inl (Eq.refl _)) x4).setCell (p:=⟨b,5,none⟩) (.inl (Eq.refl _)) x5).setCell (p:=⟨b,6,none⟩) (.inl (Eq.refl _)) x6).setCell (p:=⟨b,7,none⟩) (.inl (Eq.refl _)) x7).setCell (p:=⟨b,8,none⟩) (.inl (Eq.refl _)) x8).setCell (p:=⟨b,9,none⟩) (.inl (Eq.refl _)) x9).setCell (p:=⟨b,10,none⟩) (.inl (Eq.refl _)) x10).setCell (p:=⟨b,11,none⟩) (.inl (Eq.refl _)) x11).setCell (p:=⟨b,12,none⟩) (.inl (Eq.refl _)) x12).setCell (p:=⟨b,13,none⟩) (.inl (Eq.refl _)) x13).setCell (p:=⟨b,14,none⟩) (.inl (Eq.refl _)) x14)⟩
  have e:=(((((((((((((((h.set_ 0 x0).set_ 1 x1).set_ 2 x2).set_ 3 x3).set_ 4 x4).set_ 5 x5).set_ 6 x6).set_ 7 x7).set_ 8 x8).set_ 9 x9).set_ 10 x10).set_ 11 x11).set_ 12 x12).set_ 13 x13).set_ 14 x14)
  simp only [List.setIfInBounds_toArray,List.set_cons_zero,List.set_cons_succ] at e
  exact e
open Go.RowKit

structure RecReads (w:World) (R:Rc) (A B:Option Addr):Prop where
  r:Reads w 2 A R.rows.length (rwFlat R.rows)
  e:Reads w 2 B R.ents.length (etFlat R.ents)
theorem RecReads.keep {w w':World} {R:Rc} {A B:Option Addr} (h:RecReads w R A B) (hf:Fr none_ w w'):RecReads w' R A B:=⟨h.r.none_fr hf,h.e.none_fr hf⟩
theorem RecOwn.reads {w:World} {base:Nat} {R:Rc} {A B:Option Addr} {c d:Nat} (h:RecOwn w base R (.slice A R.rows.length c) (.slice B R.ents.length d)):RecReads w R A B:=⟨Reads.of_own h.r,Reads.of_own h.e⟩
theorem RecOwn.shape {w:World} {base:Nat} {R:Rc} {vr ve:Value} (h:RecOwn w base R vr ve):∃ A c B d,vr=.slice A R.rows.length c∧ve=.slice B R.ents.length d:=by
  obtain ⟨A,c,e1⟩:=h.r.shape
  obtain ⟨B,d,e2⟩:=h.e.shape
  exact ⟨A,c,B,d,e1,e2⟩

structure CloneA (w w3:World) (R:Rc) (vr ve v1:Value) (A B:Option Addr):Prop where
  f3:Fr none_ w w3
  o1:w3.ownsRow w.heap.size 25 2 v1 R.rows.length (rwFlat R.rows)
  k0:Blk w3 w.heap.size 51 (recA R vr ve)
  k1:Blk w3 (w.heap.size+1) 51 (recA Rc.zero (.slice none 0 0) (.slice none 0 0))
  rd:RecReads w3 R A B
theorem clone_packA {w w3:World} {R:Rc} {vr ve:Value} {A B A1:Option Addr} {c1:Nat} (h:RecReads w R A B) (hown:w3.ownsRow w.heap.size 25 2 (.slice A1 (0+R.rows.length) c1) (0+R.rows.length) ([] ++ rwFlat R.rows))
    (hgr:(((w.alloc (recB R vr ve)).alloc (recB Rc.zero (.slice none 0 0) (.slice none 0 0))).alloc (.cells #[] 25)).grownBy w3 (Value.slice (some ⟨w.heap.size+1+1,0,none⟩) 0 0).ownBlock):CloneA w w3 R vr ve (.slice A1 R.rows.length c1) A B:=by
  simp only [Nat.zero_add,List.nil_append] at hown
  have F3:Fr none_ ((w.alloc (recB R vr ve)).alloc (recB Rc.zero (.slice none 0 0) (.slice none 0 0))) w3:=((Fr.refl none_ _).alloc (.cells #[] 25)).grown hgr (fun k hk=>.inr (by
    have:w.heap.size+1+1=k:=by simpa [Value.ownBlock] using hk
    simp only [World.size_alloc]
    omega))
  have k1:=(Blk.new (w.alloc (recB R vr ve)) 51 (recA Rc.zero (.slice none 0 0) (.slice none 0 0))).fr F3 id
  rw [World.size_alloc] at k1
  have f:=(((Fr.refl none_ w).alloc (recB R vr ve)).alloc (recB Rc.zero (.slice none 0 0) (.slice none 0 0))).then_none F3
  exact ⟨f,hown,((Blk.new w _ _).alloc _).fr F3 id,k1,h.keep f⟩
structure CloneB (w w5:World) (R:Rc) (ve v1 v2:Value):Prop where
  f5:Fr none_ w w5
  o1:w5.ownsRow w.heap.size 25 2 v1 R.rows.length (rwFlat R.rows)
  o2:w5.ownsRow w.heap.size 132 2 v2 R.ents.length (etFlat R.ents)
  k0:Blk w5 w.heap.size 51 (recA R v1 ve)
  k1:Blk w5 (w.heap.size+1) 51 (recA Rc.zero (.slice none 0 0) (.slice none 0 0))
theorem clone_packB {w w3 w5:World} {R:Rc} {vr ve v1:Value} {A B A2:Option Addr} {c2:Nat} (h:CloneA w w3 R vr ve v1 A B) (hown:w5.ownsRow w.heap.size 132 2 (.slice A2 (0+R.ents.length) c2) (0+R.ents.length) ([] ++ etFlat R.ents))
    (hgr:((w3.setCell ⟨w.heap.size,5,none⟩ v1).alloc (.cells #[] 132)).grownBy w5 (Value.slice (some ⟨w3.heap.size,0,none⟩) 0 0).ownBlock):CloneB w w5 R ve v1 (.slice A2 R.ents.length c2):=by
  simp only [Nat.zero_add,List.nil_append] at hown
  have F1:=Fr.only1 w3 ⟨w.heap.size,5,none⟩ v1
  have hs:(w3.setCell ⟨w.heap.size,5,none⟩ v1).heap.size=w3.heap.size:=by simp
  have F5:Fr none_ (w3.setCell ⟨w.heap.size,5,none⟩ v1) w5:=((Fr.refl none_ _).alloc (.cells #[] 132)).grown hgr (fun k hk=>.inr (by
    have:w3.heap.size=k:=by simpa [Value.ownBlock] using hk
    rw [hs]
    omega))
  exact ⟨(h.f3.then_only F1 (.inr (Nat.le_refl _))).then_none F5,own_none (own_fr h.o1 F1 (fun k hk e=>own_blk_ne h.o1 h.k0 (by decide) (by rw [hk,show k=w.heap.size from e]))) F5,hown,(h.k0.set_ 5 v1).fr F5 id,(h.k1.fr F1 (only_ne (by simp))).fr F5 id⟩
theorem Reads.old {w:World} {size n:Nat} {A:Option Addr} {xs:List Value} (h:Reads w size A n xs) (hs:0 < size) (hn:0 < n):∀ ad,A=some ad→ad.block < w.heap.size:=by
  intro ad e
  obtain ⟨ad',e',hc⟩:=h.2 hn
  rw [e] at e'
  cases e'
  have hl:0 < xs.length:=by rw [h.1];exact Nat.mul_pos hn hs
  have:=World.block_lt_of_cell? w _ (hc 0 xs[0] (List.getElem?_eq_getElem hl))
  rwa [block_of_add] at this

theorem CloneA.rd5 {w w3:World} {R:Rc} {vr ve v1:Value} {A B:Option Addr} (h:CloneA w w3 R vr ve v1 A B) (h0:RecReads w R A B):Reads ((w3.setCell ⟨w.heap.size,5,none⟩ v1).alloc (.cells #[] 132)) 2 B R.ents.length (etFlat R.ents):=by
  rcases Nat.eq_zero_or_pos R.ents.length with hz | hz
  · exact ⟨by rw [etFlat_len],fun hn=>by omega⟩
  · exact (h.rd.e.fr (Fr.only1 w3 ⟨w.heap.size,5,none⟩ v1) (fun ad e=>only_ne (by have:=h0.e.old (by omega) hz ad e;show ad.block≠w.heap.size;omega))).alloc _
def ClonePost (R:Rc) (w:World) (e:Ending) (w':World):Prop:=
  ∃ A c B d,e=.returned (recV R (.slice A R.rows.length c) (.slice B R.ents.length d))∧RecOwn w' w.heap.size R (.slice A R.rows.length c) (.slice B R.ents.length d)∧Fr none_ w w'
set_option maxHeartbeats 2000000 in
theorem clone_ok (R:Rc) (A:Option Addr) (c:Nat) (B:Option Addr) (d:Nat) (w:World) (h:RecReads w R A B) (hr:R.rows.length≤1000) (he:R.ents.length≤1000) :
  Calls Tryz.prog 85 #[recV R (.slice A R.rows.length c) (.slice B R.ents.length d)] w (ClonePost R w):=by
 obtain ⟨i0,hi0,hz0,hs0,hb0⟩:=info_parts row_info
 obtain ⟨j0,hj0,hy0,ht0,hc0⟩:=info_parts entry_info
 have Hi:=hid_ (And.intro hi0 (And.intro hz0 (And.intro hs0 hb0)))
 have Hj:=hid_ (And.intro hj0 (And.intro hy0 (And.intro ht0 hc0)))
 have H:=hid_ h
 clear hi0 hz0 hs0 hb0 hj0 hy0 ht0 hc0 h
 go_enter Tryz.func85,Tryz.ntmps85
 go_wp2_with (first
  | (at_builtin;refine wpList_append_any _ rfl (.tmp 3) (.tmp 5) 22 rfl w.heap.size 25 i0 _ 2 32 Tryz.underlying22 Hi.out.1 Hi.out.2.1 Hi.out.2.2.1 Hi.out.2.2.2 rfl (by omega) (.slice (some ⟨w.heap.size+1+1,0,none⟩) 0 0) 0 [] rfl (own_empty_at _ _ _ _ _ (by simp;omega) (by simp)) A R.rows.length c (rwFlat R.rows) rfl (((H.out.r.alloc _).alloc _).alloc _) (rwFlat_one _) (by simp only [maxLen];omega) (by omega) (by simp;omega) ?_;intro A1 c1 w3 hown3 hgr3;have hp:=clone_packA (vr:=.slice A R.rows.length c) (ve:=.slice B R.ents.length d) H.out hown3 hgr3;have HP:=hid_ hp;have e6:w3.cell? ⟨w.heap.size,6,none⟩=some (.slice B R.ents.length d):=hp.k0.cell' rfl;have e5:w3.cell? ⟨w.heap.size,5,none⟩=some (.slice A R.rows.length c):=hp.k0.cell' rfl;have f5:=hp.k0.frozen 5;have l3:=hp.k0.lt;clear hown3 hgr3 hp)
  | (at_builtin;refine wpList_append_any _ rfl (.tmp 8) (.tmp 10) 49 rfl w.heap.size 132 j0 _ 2 24 Tryz.underlying49 Hj.out.1 Hj.out.2.1 Hj.out.2.2.1 Hj.out.2.2.2 rfl (by omega) (.slice (some ⟨w3.heap.size,0,none⟩) 0 0) 0 [] rfl (own_empty_at _ _ _ _ _ (by simp;omega) (by simp)) B R.ents.length d (etFlat R.ents) rfl (HP.out.rd5 H.out) (etFlat_one _) (by simp only [maxLen];omega) (by omega) (by simp;omega) ?_;intro A2 c2 w5 hown5 hgr5;have hp:=clone_packB HP.out hown5 hgr5;have HQ:=hid_ hp;have r0:w5.cell? ⟨w.heap.size,0,none⟩=some (.int .i64 R.kind):=hp.k0.cell' rfl;have r1:w5.cell? ⟨w.heap.size,1,none⟩=some (.string R.low):=hp.k0.cell' rfl;have r2:w5.cell? ⟨w.heap.size,2,none⟩=some (.string R.high):=hp.k0.cell' rfl;have r3:w5.cell? ⟨w.heap.size,3,none⟩=some (.bool R.unb):=hp.k0.cell' rfl;have r4:w5.cell? ⟨w.heap.size,4,none⟩=some (.int .i64 R.right):=hp.k0.cell' rfl;have r5:w5.cell? ⟨w.heap.size,5,none⟩=some (.slice A1 R.rows.length c1):=hp.k0.cell' rfl;have r6:w5.cell? ⟨w.heap.size,6,none⟩=some (.slice B R.ents.length d):=hp.k0.cell' rfl;have r7:w5.cell? ⟨w.heap.size,7,none⟩=some (.string R.key):=hp.k0.cell' rfl;have r8:w5.cell? ⟨w.heap.size,8,none⟩=some (.string R.val):=hp.k0.cell' rfl;have r9:w5.cell? ⟨w.heap.size,9,none⟩=some (.int .i64 R.page):=hp.k0.cell' rfl;have r10:w5.cell? ⟨w.heap.size,10,none⟩=some (.int .i64 R.hpage):=hp.k0.cell' rfl;have r11:w5.cell? ⟨w.heap.size,11,none⟩=some (.int .i64 R.hleft):=hp.k0.cell' rfl;have r12:w5.cell? ⟨w.heap.size,12,none⟩=some (.string R.hkey):=hp.k0.cell' rfl;have r13:w5.cell? ⟨w.heap.size,13,none⟩=some (.int .i64 R.nslot):=hp.k0.cell' rfl;have r14:w5.cell? ⟨w.heap.size,14,none⟩=some (.int .i64 R.ngen):=hp.k0.cell' rfl;have fr6:=hp.k0.frozen 6;have s0:w5.cell? ⟨w.heap.size+1,0,none⟩=some (.int .i64 0):=hp.k1.cell' rfl;have s1:w5.cell? ⟨w.heap.size+1,1,none⟩=some (.string nilS):=hp.k1.cell' rfl;have s2:w5.cell? ⟨w.heap.size+1,2,none⟩=some (.string nilS):=hp.k1.cell' rfl;have s3:w5.cell? ⟨w.heap.size+1,3,none⟩=some (.bool false):=hp.k1.cell' rfl;have s4:w5.cell? ⟨w.heap.size+1,4,none⟩=some (.int .i64 0):=hp.k1.cell' rfl;have s5:w5.cell? ⟨w.heap.size+1,5,none⟩=some (.slice none 0 0):=hp.k1.cell' rfl;have s6:w5.cell? ⟨w.heap.size+1,6,none⟩=some (.slice none 0 0):=hp.k1.cell' rfl;have s7:w5.cell? ⟨w.heap.size+1,7,none⟩=some (.string nilS):=hp.k1.cell' rfl;have s8:w5.cell? ⟨w.heap.size+1,8,none⟩=some (.string nilS):=hp.k1.cell' rfl;have s9:w5.cell? ⟨w.heap.size+1,9,none⟩=some (.int .i64 0):=hp.k1.cell' rfl;have s10:w5.cell? ⟨w.heap.size+1,10,none⟩=some (.int .i64 0):=hp.k1.cell' rfl;have s11:w5.cell? ⟨w.heap.size+1,11,none⟩=some (.int .i64 0):=hp.k1.cell' rfl;have s12:w5.cell? ⟨w.heap.size+1,12,none⟩=some (.string nilS):=hp.k1.cell' rfl;have s13:w5.cell? ⟨w.heap.size+1,13,none⟩=some (.int .i64 0):=hp.k1.cell' rfl;have s14:w5.cell? ⟨w.heap.size+1,14,none⟩=some (.int .i64 0):=hp.k1.cell' rfl;have z0:=hp.k1.frozen 0;have z1:=hp.k1.frozen 1;have z2:=hp.k1.frozen 2;have z3:=hp.k1.frozen 3;have z4:=hp.k1.frozen 4;have z5:=hp.k1.frozen 5;have z6:=hp.k1.frozen 6;have z7:=hp.k1.frozen 7;have z8:=hp.k1.frozen 8;have z9:=hp.k1.frozen 9;have z10:=hp.k1.frozen 10;have z11:=hp.k1.frozen 11;have z12:=hp.k1.frozen 12;have z13:=hp.k1.frozen 13;have z14:=hp.k1.frozen 14;clear hown5 hgr5 hp))
 clear r0 s0 z0 r1 s1 z1 r2 s2 z2 r3 s3 z3 r4 s4 z4 r5 s5 z5 r6 s6 z6 r7 s7 z7 r8 s8 z8 r9 s9 z9 r10 s10 z10 r11 s11 z11 r12 s12 z12 r13 s13 z13 r14 s14 z14 fr6 e5 e6 f5
 have F6:=Fr.only1 w5 ⟨w.heap.size,6,none⟩ (.slice A2 R.ents.length c2)
 have K1:=HQ.out.k1.fr F6 (only_ne (by simp))
 obtain ⟨qb,qf⟩:=box15 K1 (.int .i64 R.kind) (.string R.low) (.string R.high) (.bool R.unb) (.int .i64 R.right) (.slice A1 R.rows.length c1) (.slice A2 R.ents.length c2) (.string R.key) (.string R.val) (.int .i64 R.page) (.int .i64 R.hpage) (.int .i64 R.hleft) (.string R.hkey) (.int .i64 R.nslot) (.int .i64 R.ngen)
 have q0:=qb.cell' (i:=0) rfl
 have q1:=qb.cell' (i:=1) rfl
 have q2:=qb.cell' (i:=2) rfl
 have q3:=qb.cell' (i:=3) rfl
 have q4:=qb.cell' (i:=4) rfl
 have q5:=qb.cell' (i:=5) rfl
 have q6:=qb.cell' (i:=6) rfl
 have q7:=qb.cell' (i:=7) rfl
 have q8:=qb.cell' (i:=8) rfl
 have q9:=qb.cell' (i:=9) rfl
 have q10:=qb.cell' (i:=10) rfl
 have q11:=qb.cell' (i:=11) rfl
 have q12:=qb.cell' (i:=12) rfl
 have q13:=qb.cell' (i:=13) rfl
 have q14:=qb.cell' (i:=14) rfl
 have O1:=own_fr (own_fr HQ.out.o1 F6 (fun k hk e=>own_blk_ne HQ.out.o1 HQ.out.k0 (by decide) (by rw [hk,show k=w.heap.size from e]))) qf (fun k hk e=>own_blk_ne HQ.out.o1 HQ.out.k1 (by decide) (by rw [hk,show k=w.heap.size+1 from e]))
 have O2:=own_fr (own_fr HQ.out.o2 F6 (fun k hk e=>own_blk_ne HQ.out.o2 HQ.out.k0 (by decide) (by rw [hk,show k=w.heap.size from e]))) qf (fun k hk e=>own_blk_ne HQ.out.o2 HQ.out.k1 (by decide) (by rw [hk,show k=w.heap.size+1 from e]))
 have G:=(HQ.out.f5.then_only F6 (.inr (Nat.le_refl _))).then_only qf (.inr (by omega))
 clear K1 F6 qb qf
 refine bodyPost_ret (v:=recV R (.slice A1 R.rows.length c1) (.slice A2 R.ents.length c2)) ?_ rfl ⟨A1,c1,A2,c2,rfl,⟨O1,O2⟩,G⟩
 simp [results,Tryz.results85,go_sem,q0,q1,q2,q3,q4,q5,q6,q7,q8,q9,q10,q11,q12,q13,q14]
open Go.RowKit

theorem reads_lit {w:World} {size n:Nat} {A:Option Addr} {xs:List Value} (h:Reads w size A n xs) (hs:0 < size) (hn:0 < n):∃ b off,A=some ⟨b,off,none⟩∧b < w.heap.size∧∀ j u,xs[j]?=some u→w.cell? ⟨b,off+j,none⟩=some u:=by
  obtain ⟨ad,e,hc⟩:=h.2 hn
  have hl:0 < xs.length:=by rw [h.1];exact Nat.mul_pos hn hs
  have h0:=hc 0 xs[0] (List.getElem?_eq_getElem hl)
  have e0:ad.add 0=ad:=by simp [Addr.add]
  rw [e0] at h0
  have hspot:ad.spot=none:=by
    unfold World.cell? at h0
    split at h0
    · split at h0
      · cases h0
      · rename_i hs;simpa using hs
    · cases h0
  obtain ⟨b,off,sp⟩:=ad
  simp only at hspot
  subst hspot
  exact ⟨b,off,e,World.block_lt_of_cell? w _ h0,fun j u hu=>by rw [← add_lit];exact hc j u hu⟩
theorem rw_at {w:World} {A:Option Addr} {L:List Rw} (h:Reads w 2 A L.length (rwFlat L)) {k:Nat} {p:Rw} (hp:L[k]?=some p):∃ b off,A=some ⟨b,off,none⟩∧b < w.heap.size∧w.cell? ⟨b,off+k * 2,none⟩=some (.string p.1)∧w.cell? ⟨b,off+k * 2+1,none⟩=some (.string p.2):=by
  obtain ⟨b,off,e,hb,hc⟩:=reads_lit h (by omega) (by have:=(List.getElem?_eq_some_iff.1 hp).1;omega)
  obtain ⟨d0,d1⟩:=rwFlat_get L k p hp
  exact ⟨b,off,e,hb,hc _ _ d0,hc _ _ d1⟩
theorem et_at {w:World} {A:Option Addr} {L:List Et} (h:Reads w 2 A L.length (etFlat L)) {k:Nat} {p:Et} (hp:L[k]?=some p):∃ b off,A=some ⟨b,off,none⟩∧b < w.heap.size∧w.cell? ⟨b,off+k * 2,none⟩=some (.string p.1)∧w.cell? ⟨b,off+k * 2+1,none⟩=some (.int .i64 p.2):=by
  obtain ⟨b,off,e,hb,hc⟩:=reads_lit h (by omega) (by have:=(List.getElem?_eq_some_iff.1 hp).1;omega)
  obtain ⟨d0,d1⟩:=etFlat_get L k p hp
  exact ⟨b,off,e,hb,hc _ _ d0,hc _ _ d1⟩

open Go

section
variable {P:Program} {md:Region.Mode} {ops:Array Oper} {Q:Exit→Act→World→Prop} {S:World→Prop}
def wpAnyT (P:Program) (md:Region.Mode) (ops:Array Oper) (Q:Exit→Act→World→Prop) (S:World→Prop) (m:Nat):Nat→Array Bool→Act→World→Prop
  | 0,listed,a,w=>Region.ready md ops listed=[]∧Q .normal a w
  | fuel+1,listed,a,w =>
    (Region.ready md ops listed=[]→Q .normal a w) ∧
    ∀ i ∈ Region.ready md ops listed,wpOp P ops Q i (fun a' w'=>(i=m∨S w')∧wpAnyT P md ops Q S m fuel (listed.setIfInBounds i true) a' w') a w
theorem wpAny_of_T {m:Nat}:∀ (fuel:Nat) (listed:Array Bool) (a:Act) (w:World),wpAnyT P md ops Q S m fuel listed a w→wpAny P md ops Q fuel listed a w
  | 0,_,_,_,h=>h
  | fuel+1,_,_,_,h=>⟨h.1,fun i hi=>wpOp_mono (fun a' w' h'=>wpAny_of_T fuel _ a' w' h'.2) (h.2 i hi)⟩
theorem wpAnyT_first {m i:Nat} {oi:Oper} {v:Value} (hi:ops[i]?=some oi) (hsel:∀ (j:Nat) (o:Oper) cs b,ops[j]?=some o→o.op≠.select cs b)
    (hQ:∀ c a w,Q (.panic c) (a.put oi.dst v) w→Q (.panic c) a w) (hm:∃ om,ops[m]?=some om∧∃ e ∈ om.after,Region.binds md e=true∧e.on=i) :
    ∀ (fuel:Nat) (listed:Array Bool) (a:Act) (w:World),
      (∀ j oj,ops[j]?=some oj→j≠i→listed.getD j true=false→(∀ e ∈ oj.after,Region.binds md e=true→e.on≠i)→oi.apart ops oj=true) →
      i ∈ Region.ready md ops listed→YieldsIf P ops S oi v a→S w →
      wpAnyT P md ops Q S m fuel (listed.setIfInBounds i true) (a.put oi.dst v) w→wpAnyT P md ops Q S m (fuel+1) listed a w:=by
  intro fuel
  induction fuel with
  | zero =>
    intro listed a w _ hr hy hS H
    refine ⟨fun h=>(by rw [h] at hr;cases hr),fun j hj=>?_⟩
    by_cases hji:j=i
    · subst hji;exact hy.wpOp hi hS ⟨.inr hS,H⟩
    · have:=ready_mono hj hji
      rw [H.1] at this
      cases this
  | succ fuel ih =>
    intro listed a w hfree hr hy hS H
    refine ⟨fun h=>(by rw [h] at hr;cases hr),fun j hj=>?_⟩
    by_cases hji:j=i
    · subst hji;exact hy.wpOp hi hS ⟨.inr hS,H⟩
    · have h1:=H.2 j (ready_mono hj hji)
      obtain ⟨hjun,oj,hoj,hall⟩:=mem_ready.1 hj
      have hnot:∀ e ∈ oj.after,Region.binds md e=true→e.on≠i:=fun e he hb heq=>by
        have h1:=hall e he hb
        have h0:=(mem_ready.1 hr).1
        rw [heq] at h1
        rcases Nat.lt_or_ge i listed.size with h' | h'
        · simp [h'] at h0 h1;rw [h0] at h1;cases h1
        · simp [Array.getElem?_eq_none h'] at h1
      have hjm:j≠m:=by
        rintro rfl
        obtain ⟨om,hom,e,he,hb,heq⟩:=hm
        obtain rfl:=Option.some.inj (hoj.symm.trans hom)
        exact hnot e he hb heq
      have h2:=wpOp_putIf hoj (hfree j oj hoj hji hjun hnot) (fun cs b=>hsel i oi cs b hi) (fun cs b=>hsel j oj cs b hoj) hQ hy h1
      have hfree':∀ k ok,ops[k]?=some ok→k≠i→(listed.setIfInBounds j true).getD k true=false →
          (∀ e ∈ ok.after,Region.binds md e=true→e.on≠i)→oi.apart ops ok=true:=fun k ok hk hki hun hno=>by
        refine hfree k ok hk hki ?_ hno
        by_cases hjk:j=k
        · subst hjk;exact hjun
        · rw [getD_set_ne true hjk] at hun;exact hun
      refine wpOp_mono (fun a' w' h3=>?_) h2
      have hs:S w':=h3.2.1.resolve_left hjm
      refine ⟨.inr hs,ih (listed.setIfInBounds j true) a' w' hfree' (ready_mono hr (Ne.symm hji)) h3.1 hs ?_⟩
      rw [Array.setIfInBounds_comm _ _ hji]
      exact h3.2.2
theorem wpAnyT_take {m i:Nat} {oi:Oper} {v:Value} {fuel:Nat} {listed:Array Bool} {a:Act} {w:World} (hi:ops[i]?=some oi)
    (hs:Region.noSelect ops=true) (hf:Region.free md ops listed i=true) (hr:(Region.ready md ops listed).contains i=true)
    (hm:(ops[m]?.any fun om=>om.after.any fun e=>Region.binds md e && e.on==i)=true)
    (hQ:∀ c a w,Q (.panic c) (a.put oi.dst v) w→Q (.panic c) a w) (hy:YieldsIf P ops S oi v a) (hS:S w)
    (h:wpAnyT P md ops Q S m fuel (listed.setIfInBounds i true) (a.put oi.dst v) w):wpAnyT P md ops Q S m (fuel+1) listed a w:=
  wpAnyT_first hi (Region.noSelect_spec hs) hQ (by
    cases ho:ops[m]? with
    | none=>rw [ho] at hm;cases hm
    | some om =>
      rw [ho] at hm
      have hm':(om.after.any fun e=>Region.binds md e && e.on==i)=true:=hm
      obtain ⟨e,he,hb⟩:=Array.any_eq_true'.1 hm'
      simp at hb
      exact ⟨om,rfl,e,he,hb.1,hb.2⟩) fuel listed a w (Region.free_spec hi hf) (by simpa using hr) hy hS h
def closedB (md:Region.Mode) (ops:Array Oper) (listed:Array Bool):Bool:=
  (List.range ops.size).all fun k=>!listed.getD k false || (match ops[k]? with | some o=>o.after.all fun e=>!Region.binds md e || listed.getD e.on false | none=>true)
def waitsB (md:Region.Mode) (ops:Array Oper):Nat→Nat→Nat→Bool
  | 0,_,_=>false
  | f+1,m,i=>match ops[m]? with | some o=>o.after.any fun e=>Region.binds md e && (e.on==i || waitsB md ops f e.on i) | none=>false
def Closed (md:Region.Mode) (ops:Array Oper) (listed:Array Bool):Prop:=∀ k o,ops[k]?=some o→listed.getD k false=true→∀ e ∈ o.after,Region.binds md e=true→listed.getD e.on false=true
theorem closed_of {listed:Array Bool} (h:closedB md ops listed=true):Closed md ops listed:=by
  intro k o ho hl e he hb
  have hk:k < ops.size:=(Array.getElem?_eq_some_iff.1 ho).1
  have:=List.all_eq_true.1 h k (List.mem_range.2 hk)
  rw [ho,hl] at this
  simp only [Bool.not_true,Bool.false_or] at this
  have:=Array.all_eq_true'.1 this e he
  simpa [hb] using this
theorem getD_set_true {listed:Array Bool} {j k:Nat} (h:listed.getD k false=true):(listed.setIfInBounds j true).getD k false=true:=by
  by_cases e:j=k
  · subst e
    rcases Nat.lt_or_ge j listed.size with h' | h'
    · simp [h']
    · simp [Array.getElem?_eq_none h'] at h
  · simp [e] at h ⊢
    exact h
theorem Closed.set {listed:Array Bool} (h:Closed md ops listed) {j:Nat} (hj:j ∈ Region.ready md ops listed):Closed md ops (listed.setIfInBounds j true):=by
  obtain ⟨hjun,oj,hoj,hall⟩:=mem_ready.1 hj
  intro k o ho hl e he hb
  by_cases hkj:j=k
  · subst hkj
    obtain rfl:=Option.some.inj (hoj.symm.trans ho)
    exact getD_set_true (hall e he hb)
  · refine getD_set_true (h k o ho ?_ e he hb)
    simpa [hkj] using hl
theorem Closed.waits {listed:Array Bool} (h:Closed md ops listed):∀ {f k i:Nat},listed.getD k false=true→waitsB md ops f k i=true→listed.getD i false=true
  | 0,_,_,_,hw=>by simp [waitsB] at hw
  | f+1,k,i,hl,hw=>by
    rw [waitsB] at hw
    split at hw
    · rename_i o ho
      obtain ⟨e,he,hb⟩:=Array.any_eq_true'.1 hw
      simp only [Bool.and_eq_true,Bool.or_eq_true,beq_iff_eq] at hb
      have h1:=h k o ho hl e he hb.1
      rcases hb.2 with rfl | h2
      · exact h1
      · exact h.waits h1 h2
    · cases hw
theorem ready_waits {listed:Array Bool} (h:Closed md ops listed) {f m i:Nat} (hm:m ∈ Region.ready md ops listed) (hw:waitsB md ops f m i=true) (hi:i ∈ Region.ready md ops listed):False:=by
  obtain ⟨hmun,om,hom,hall⟩:=mem_ready.1 hm
  have hi0:=(mem_ready.1 hi).1
  have h1:listed.getD i false=true:=by
    cases f with
    | zero=>simp [waitsB] at hw
    | succ f =>
      rw [waitsB,hom] at hw
      obtain ⟨e,he,hb⟩:=Array.any_eq_true'.1 hw
      simp only [Bool.and_eq_true,Bool.or_eq_true,beq_iff_eq] at hb
      have h2:=hall e he hb.1
      rcases hb.2 with rfl | h3
      · exact h2
      · exact h.waits h2 h3
  rcases Nat.lt_or_ge i listed.size with h' | h'
  · simp [h'] at hi0 h1
    rw [hi0] at h1
    cases h1
  · simp [Array.getElem?_eq_none h'] at hi0
theorem wpAnyT_all {m:Nat} {rs:List Nat} {fuel:Nat} {listed:Array Bool} {a:Act} {w:World} (hr:Region.ready md ops listed=rs) (hne:rs≠[])
    (h:∀ i ∈ rs,wpOp P ops Q i (fun a' w'=>(i=m∨S w')∧wpAnyT P md ops Q S m fuel (listed.setIfInBounds i true) a' w') a w):wpAnyT P md ops Q S m (fuel+1) listed a w:=
  ⟨fun h0=>absurd (hr ▸ h0) hne,hr ▸ h⟩
theorem wpAnyT_one {m i:Nat} {oi:Oper} {fuel:Nat} {listed:Array Bool} {a:Act} {w:World} (hi:ops[i]?=some oi) (hg:oi.guard=none) (hr:Region.ready md ops listed=[i])
    (h:Oper.wp P oi a w (fun a' w'=>(i=m∨S w')∧wpAnyT P md ops Q S m fuel (listed.setIfInBounds i true) a' w') Q):wpAnyT P md ops Q S m (fuel+1) listed a w:=by
  refine wpAnyT_all hr (by simp) (fun j hj=>?_)
  obtain rfl:j=i:=by simpa using hj
  unfold wpOp
  have hw:Region.wanted oi (yielded ops a.tmps)=true:=by simp [Region.wanted,hg]
  simp only [hi,hw,if_true]
  exact .inl h
theorem wpAnyT_done {m:Nat} {listed:Array Bool} {a:Act} {w:World} (hr:Region.ready md ops listed=[]) (h:Q .normal a w):∀ fuel,wpAnyT P md ops Q S m fuel listed a w
  | 0=>⟨hr,h⟩
  | _+1=>⟨fun _=>h,by rw [hr];simp⟩
theorem wp_region_T {id m:Nat} {a:Act} {w:World} (hm:P.follows .mixedOrders=true)
    (h:wpAnyT P .any ops Q S m ops.size (Array.replicate ops.size false) a w.drew):(Code.region id ops true).wp P Q a w:=
  wp_region_any hm (wpAny_of_T _ _ _ _ h)
end
open Go.RowKit

def setA (cs:Array Value) (o:Nat):List Value→Array Value
  | []=>cs
  | v :: r=>setA (cs.setIfInBounds o v) (o+1) r
theorem setA_size:∀ (vs:List Value) (cs:Array Value) (o:Nat),(setA cs o vs).size=cs.size
  | [],cs,o=>rfl
  | v :: r,cs,o=>by rw [setA,setA_size r];simp
theorem setA_out:∀ (vs:List Value) (cs:Array Value) (o k:Nat),(k < o∨o+vs.length≤k)→(setA cs o vs)[k]?=cs[k]?
  | [],cs,o,k,h=>rfl
  | v :: r,cs,o,k,h=>by
    rw [setA,setA_out r _ _ _ (by simp at h;omega),Array.getElem?_setIfInBounds_ne (by simp at h;omega)]
theorem setA_in:∀ (vs:List Value) (cs:Array Value) (o j:Nat) (v:Value),vs[j]?=some v→o+j < cs.size→(setA cs o vs)[o+j]?=some v
  | [],cs,o,j,v,h,_=>by simp at h
  | u :: r,cs,o,0,v,h,hl=>by
    obtain rfl:u=v:=by simpa using h
    rw [setA,setA_out r _ _ _ (by omega)]
    have hl':o < cs.size:=by omega
    show (cs.setIfInBounds o u)[o]?=some u
    simp [hl']
  | u :: r,cs,o,j+1,v,h,hl=>by
    have:=setA_in r (cs.setIfInBounds o u) (o+1) j v (by simpa using h) (by simp;omega)
    rw [setA,show o+(j+1)=o+1+j by omega]
    exact this
theorem Blk.setCells {g:Nat} {t:TypeId}:∀ (vs:List Value) (o:Nat) (cs:Array Value) (w:World),Blk w g t cs→Blk (w.setCells g o vs) g t (setA cs o vs)
  | [],o,cs,w,h=>h
  | v :: r,o,cs,w,h=>Blk.setCells r (o+1) _ _ (h.set_ o v)
theorem Fr.setCells {g:Nat} {S:Nat→Prop} {a:World}:∀ (vs:List Value) (o:Nat) (w:World),Fr S a w→(S g∨a.heap.size≤g)→Fr S a (w.setCells g o vs)
  | [],o,w,h,_=>h
  | v :: r,o,w,h,hs=>Fr.setCells r (o+1) _ (h.setCell (p:=⟨g,o,none⟩) hs v) hs
theorem new_there (w:World) (t:TypeId) (cs:Array Value):(w.alloc (.cells cs t)).there w.heap.size 0 cs.size:=by
  intro j hj
  have hb:=Blk.new w t cs
  refine ⟨?_,hb.frozen _⟩
  rw [hb.cell,Nat.zero_add,Array.getElem?_eq_getElem hj]
  rfl
theorem new_copy (w:World) (t:TypeId) (zs:Array Value) (vs:List Value) (hz:zs.size=vs.length):Blk ((w.alloc (.cells zs t)).setCells w.heap.size 0 vs) w.heap.size t vs.toArray∧Fr none_ w ((w.alloc (.cells zs t)).setCells w.heap.size 0 vs):=by
  refine ⟨?_,Fr.setCells _ _ _ ((Fr.refl none_ w).alloc _) (.inr (Nat.le_refl _))⟩
  have h:=Blk.setCells vs 0 _ _ (Blk.new w t zs)
  have e:setA zs 0 vs=vs.toArray:=by
    apply Array.ext_getElem?
    intro k
    rcases Nat.lt_or_ge k vs.length with h1 | h1
    · have:=setA_in vs zs 0 k vs[k] (List.getElem?_eq_getElem h1) (by omega)
      rw [Nat.zero_add] at this
      rw [this,List.getElem?_toArray,List.getElem?_eq_getElem h1]
    · rw [Array.getElem?_eq_none (by rw [setA_size];omega),Array.getElem?_eq_none (by simpa using h1)]
  rwa [e] at h
open Go.RowKit

structure Sl where
  gen:Int
  used:Bool
  R:Rc
  vr:Value
  ve:Value
abbrev slL (s:Sl):List Value:=[.int .i64 s.gen,.bool s.used,.int .i64 s.R.kind,.string s.R.low,.string s.R.high,.bool s.R.unb,.int .i64 s.R.right,s.vr,s.ve,.string s.R.key,.string s.R.val,.int .i64 s.R.page,.int .i64 s.R.hpage,.int .i64 s.R.hleft,.string s.R.hkey,.int .i64 s.R.nslot,.int .i64 s.R.ngen]
def Sl.zero:Sl:=⟨0,false,Rc.zero,.slice none 0 0,.slice none 0 0⟩
def SlCells (cs:Array Value) (ss:List Sl):Prop:=cs.size=ss.length * 17∧∀ i s,ss[i]?=some s→∀ j v,(slL s)[j]?=some v→cs[i * 17+j]?=some v

theorem SlCells.set_ {cs:Array Value} {ss:List Sl} (h:SlCells cs ss) {i:Nat} (s:Sl) (hi:i < ss.length):SlCells (setA cs (i * 17) (slL s)) (ss.set i s):=by
  refine ⟨by rw [setA_size,h.1];simp,fun k t hk j v hj=>?_⟩
  have hjl:j < 17:=by have:=(List.getElem?_eq_some_iff.1 hj).1;simpa using this
  rw [List.getElem?_set] at hk
  split at hk
  · subst_vars
    obtain rfl:s=t:=by simpa using hk
    exact setA_in _ _ _ j v hj (by rw [h.1];omega)
  · rename_i hne
    rw [setA_out _ _ _ _ (by simp;omega)]
    exact h.2 k t hk j v hj

structure Ar (w:World) (a G:Nat) (last:Int) (ss:List Sl):Prop where
  hA:Blk w a 161 #[.slice (some ⟨G,0,none⟩) ss.length ss.length,.int .i64 last]
  hG:∃ cs,Blk w G 164 cs∧SlCells cs ss
  own:∀ (i:Nat) (s:Sl),ss[i]?=some s→RecOwn w 0 s.R s.vr s.ve
  l40:last≤1099511627776
  len:ss.length≤4096
  gen:∀ s ∈ ss,0≤s.gen∧s.gen≤last
  sz:∀ s ∈ ss,s.R.rows.length≤1000∧s.R.ents.length≤1000
section
variable {w w':World} {a G:Nat} {last:Int} {ss:List Sl}
theorem Ar.keep (h:Ar w a G last ss) (hf:Fr none_ w w'):Ar w' a G last ss:=by
  obtain ⟨cs,hG,hc⟩:=h.hG
  exact ⟨h.hA.fr hf id,⟨cs,hG.fr hf id,hc⟩,fun i s hs=>(h.own i s hs).keep hf,h.l40,h.len,h.gen,h.sz⟩
theorem Ar.ltA (h:Ar w a G last ss):a < w.heap.size:=h.hA.lt
theorem Ar.ltG (h:Ar w a G last ss):G < w.heap.size:=by obtain ⟨cs,hG,hc⟩:=h.hG;exact hG.lt
theorem Ar.ne (h:Ar w a G last ss):a≠G:=by obtain ⟨cs,hG,hc⟩:=h.hG;exact Blk.ne_ h.hA hG (by decide)
theorem Ar.cell (h:Ar w a G last ss) {i:Nat} {s:Sl} (hs:ss[i]?=some s) (j:Nat) {v:Value} (hv:(slL s)[j]?=some v):w.cell? ⟨G,i * 17+j,none⟩=some v:=by
  obtain ⟨cs,hG,hc⟩:=h.hG
  exact hG.cell' (hc.2 i s hs j v hv)
theorem Ar.frozen (h:Ar w a G last ss) (o:Nat):w.frozen? ⟨G,o,none⟩=false:=by
  obtain ⟨cs,hG,hc⟩:=h.hG
  exact hG.frozen o
theorem Ar.beside (h:Ar w a G last ss) {g:Nat} {t:TypeId} {cs:Array Value} (hf:Fr (only g) w w') (hg:Blk w g t cs) (h1:25≠t) (h2:132≠t) (h3:a≠g) (h4:G≠g):Ar w' a G last ss:=by
  obtain ⟨cs,hG,hc⟩:=h.hG
  exact ⟨h.hA.fr hf (only_ne h3),⟨cs,hG.fr hf (only_ne h4),hc⟩,fun i s hs=>(h.own i s hs).only hf hg h1 h2,h.l40,h.len,h.gen,h.sz⟩
theorem Ar.put (h:Ar w a G last ss) {i:Nat} {s:Sl} (hi:i < ss.length) (hf:Fr (only G) w w') (hb:∀ cs,Blk w G 164 cs→Blk w' G 164 (setA cs (i * 17) (slL s))) (ho:RecOwn w' 0 s.R s.vr s.ve) (hg:0≤s.gen∧s.gen≤last) (hz:s.R.rows.length≤1000∧s.R.ents.length≤1000):Ar w' a G last (ss.set i s):=by
  have hne:=h.ne
  obtain ⟨cs,hG,hc⟩:=h.hG
  refine ⟨by rw [List.length_set];exact h.hA.fr hf (only_ne hne),⟨_,hb cs hG,hc.set_ s hi⟩,fun k t hk=>?_,h.l40,by rw [List.length_set];exact h.len,fun t ht=>?_,fun t ht=>?_⟩
  · rw [List.getElem?_set] at hk
    split at hk
    · obtain rfl:s=t:=by simpa using hk
      exact ho
    · exact (h.own k t hk).only hf hG (by decide) (by decide)
  · rcases List.mem_or_eq_of_mem_set ht with ht | rfl
    · exact h.gen t ht
    · exact hg
  · rcases List.mem_or_eq_of_mem_set ht with ht | rfl
    · exact h.sz t ht
    · exact hz
end

theorem slot_info:(Tryz.prog.info? 164).map (fun i=>(i.zero,i.size,i.bytes))=some (some (.agg (slL Sl.zero).toArray),17,208):=by kernel_rfl
theorem made_slots (n:Nat):SlCells (madeCells (slL Sl.zero).toArray (n * 17)) (List.replicate n Sl.zero):=by
  refine ⟨by rw [size_madeCells,List.length_replicate],fun i s hs j v hv=>?_⟩
  have hjl:j < 17:=by have:=(List.getElem?_eq_some_iff.1 hv).1;simpa using this
  rw [List.getElem?_replicate] at hs
  split at hs
  · rename_i hin
    obtain rfl:Sl.zero=s:=by simpa using hs
    have hm:(i * 17+j) % 17=j:=by omega
    have hz:(slL Sl.zero).toArray.size=17:=rfl
    have hlt:i * 17+j < n * 17:=by omega
    unfold madeCells
    rw [Array.getElem?_map,Array.getElem?_range,if_pos hlt]
    simp only [Option.map_some,hz,hm]
    rw [List.getElem?_eq_some_iff] at hv
    obtain ⟨h1,h2⟩:=hv
    rw [← h2]
    congr 1
    exact getElem!_pos _ _ _
  · cases hs
def NewAr (n:Nat) (last:Int) (w:World) (e:Ending) (w':World):Prop:=
  ∃ a G,e=.returned (.pointer (some ⟨a,0,none⟩))∧Ar w' a G last (List.replicate n Sl.zero)∧Fr none_ w w'∧w.heap.size≤a∧w.heap.size≤G
theorem arNew_ok (n:Nat) (last:Int) (w:World) (h1:1≤n) (h2:n≤4096) (h3:1≤last) (h4:last≤1099511627776):Calls Tryz.prog 70 #[.int .i64 n,.int .i64 last] w (NewAr n last w):=by
  obtain ⟨i0,hi0,hz0,hs0,hb0⟩:=info_parts slot_info
  have hmk:=fun W:World=>run_make (P:=Tryz.prog) W 159 164 i0 _ Tryz.underlying159 hi0 hz0 .i64 .i64 (n:Int) (n:Int) (by omega) (by omega) (by rw [hb0];omega) (by omega)
  rw [hs0] at hmk
  simp only [Int.toNat_natCast] at hmk
  clear hi0 hz0 hs0 hb0
  go_enter Tryz.func70,Tryz.ntmps70
  go_wp2_with fail
  go_ret
  have hf:Fr none_ w ((w.alloc (.cells (madeCells (slL Sl.zero).toArray (n * 17)) 164)).alloc (.cells #[.slice (some ⟨w.heap.size,0,none⟩) n n,.int .i64 last] 161)):=((Fr.refl none_ w).alloc _).alloc _
  have hm:∀ s ∈ List.replicate n Sl.zero,s=Sl.zero:=fun s hs=>List.eq_of_mem_replicate hs
  refine ⟨w.heap.size+1,w.heap.size,rfl,⟨?_,⟨madeCells (slL Sl.zero).toArray (n * 17),?_,made_slots n⟩,fun i s hs=>?_,h4,?_,fun s hs=>?_,fun s hs=>?_⟩,hf,by omega,by omega⟩
  · have h0:=Blk.new (w.alloc (.cells (madeCells (slL Sl.zero).toArray (n * 17)) 164)) 161 #[.slice (some ⟨w.heap.size,0,none⟩) n n,.int .i64 last]
    rw [World.size_alloc] at h0
    rw [List.length_replicate]
    exact h0
  · exact (Blk.new w 164 _).alloc _
  · rw [hm s (List.mem_of_getElem? hs)]
    exact RecOwn.zero _ 0
  · rw [List.length_replicate];omega
  · rw [hm s hs];exact ⟨by decide,by show (0:Int)≤last;omega⟩
  · rw [hm s hs];exact ⟨by decide,by decide⟩
open Go.RowKit

theorem Ar.there {w:World} {a G:Nat} {last:Int} {ss:List Sl} (h:Ar w a G last ss) {i:Nat} (hi:i < ss.length) {o n:Nat} (ho:i * 17≤o) (hn:o+n≤i * 17+17):w.there G o n:=by
  obtain ⟨cs,hG,hc⟩:=h.hG
  intro j hj
  refine ⟨?_,hG.frozen _⟩
  rw [hG.cell,Array.getElem?_eq_getElem (by rw [hc.1];omega)]
  rfl
theorem slot_size:(Tryz.prog.info? 164).map (·.size)=some 17:=by kernel_rfl
theorem rec_size:(Tryz.prog.info? 51).map (·.size)=some 15:=by kernel_rfl
theorem box2 {w1:World} {b:Nat} {t:TypeId} {c0 c1:Value} (h:Blk w1 b t #[c0,c1]) (x0 x1:Value):Blk ((w1.setCell ⟨b,0,none⟩ x0).setCell ⟨b,1,none⟩ x1) b t #[x0,x1]∧Fr (only b) w1 ((w1.setCell ⟨b,0,none⟩ x0).setCell ⟨b,1,none⟩ x1):=
  ⟨(h.set_ 0 x0).set_ 1 x1,((Fr.refl (only b) w1).setCell (p:=⟨b,0,none⟩) (.inl (Eq.refl _)) x0).setCell (p:=⟨b,1,none⟩) (.inl (Eq.refl _)) x1⟩

def allocErr (ss:List Sl):Int:=if ss.all (·.used) then 3 else 5
theorem allocErr_used {ss:List Sl} {k:Nat} {s:Sl} (hs:ss[k]?=some s) (hu:s.used=true):allocErr (ss.take (k+1))=allocErr (ss.take k):=by
  unfold allocErr
  rw [List.take_add_one,hs]
  simp [hu]
theorem allocErr_worn {ss:List Sl} {k:Nat} {s:Sl} (hs:ss[k]?=some s) (hu:s.used=false):allocErr (ss.take (k+1))=5:=by
  unfold allocErr
  rw [List.take_add_one,hs]
  simp [hu]
def AllocPost (w:World) (a G:Nat) (last:Int) (ss:List Sl) (R:Rc) (e:Ending) (w':World):Prop:=
  (∃ (i:Nat) (s:Sl) (vr ve:Value),ss[i]?=some s∧(s.used=false∧s.gen≠last)∧(∀ j t,j < i→ss[j]?=some t→t.used=true∨t.gen=last)∧e=.returned (.tuple #[.agg #[.int .i64 ((i:Int)+1),.int .i64 (s.gen+1)],.nilIface])∧Ar w' a G last (ss.set i ⟨s.gen+1,true,R,vr,ve⟩)∧RecOwn w' w.heap.size R vr ve∧Fr (only G) w w') ∨
  ((∀ (j:Nat) t,ss[j]?=some t→t.used=true∨t.gen=last)∧e=.returned (.tuple #[.agg #[.int .i64 0,.int .i64 0],errV (allocErr ss)])∧Fr none_ w w')

set_option maxHeartbeats 4000000 in
theorem alloc_ok (R:Rc) (A:Option Addr) (c:Nat) (B:Option Addr) (d:Nat) (w:World) (a G:Nat) (last:Int) (ss:List Sl) (h:Ar w a G last ss) (hr:RecReads w R A B) (hz:R.rows.length≤1000∧R.ents.length≤1000) :
  Calls Tryz.prog 53 #[.pointer (some ⟨a,0,none⟩),recV R (.slice A R.rows.length c) (.slice B R.ents.length d)] w (AllocPost w a G last ss R):=by
 have hlen:=h.len
 have hl40:=h.l40
 obtain ⟨w0,hw0⟩:∃ w0,w0=(w.alloc (recB R (.slice A R.rows.length c) (.slice B R.ents.length d))).alloc (.cells #[.int .i64 0,.int .i64 0] 36):=⟨_,rfl⟩
 have f0:Fr none_ w w0:=by rw [hw0];exact ((Fr.refl none_ w).alloc _).alloc _
 have F0:=hid_ f0
 have X0:=hid_ (h.keep f0)
 have R0:=hid_ (hr.keep f0)
 have P0:Hid (Blk w0 w.heap.size 51 (recA R (.slice A R.rows.length c) (.slice B R.ents.length d))):=hid_ (by rw [hw0];exact (Blk.new w _ _).alloc _)
 have Q0:Hid (Blk w0 (w.heap.size+1) 36 #[.int .i64 0,.int .i64 0]):=hid_ (by have:=Blk.new (w.alloc (recB R (.slice A R.rows.length c) (.slice B R.ents.length d))) 36 #[.int .i64 0,.int .i64 0];rw [World.size_alloc] at this;rw [hw0];exact this)
 have hltA:=h.ltA
 have hltG:=h.ltG
 have lA:a < w.heap.size+1:=by omega
 have lA2:a < w.heap.size+1+1:=by omega
 have c0:w.cell? ⟨a,0,none⟩=some (.slice (some ⟨G,0,none⟩) ss.length ss.length):=h.hA.cell' rfl
 clear f0 h hr
 go_enter Tryz.func53,Tryz.ntmps53
 go_wp2_with fail
 change Code.wp _ _ _ _ ((w.alloc (recB R (.slice A R.rows.length c) (.slice B R.ents.length d))).alloc (.cells #[.int .i64 0,.int .i64 0] 36))
 rw [← hw0]
 clear hw0 c0
 go_loopw [19,6] (fun i e wr=>∃ (k:Nat) (ek:Int),k≤ss.length∧i=.int .i64 k∧e=errV ek∧ek=allocErr (ss.take k)∧(∀ j t,j < k→ss[j]?=some t→t.used=true∨t.gen=last)∧Fr none_ w0 wr) (fun i _ _=>ss.length - (intOf i).toNat)
 case atStart=>exact ⟨0,3,Nat.zero_le _,rfl,rfl,by simp [allocErr],fun j t hj=>by omega,Fr.refl _ _⟩
 case round =>
  obtain ⟨k,ek,hk,rfl,rfl,hek,hno,hF⟩:=hrel
  have Hek:=hid_ hek
  have Hno:=hid_ hno
  have F:=hid_ (F0.out.then_none hF)
  have FL:=hid_ hF
  have X:=hid_ (X0.out.keep hF)
  have R1:=hid_ (R0.out.keep hF)
  have P:=hid_ (P0.out.fr hF id)
  have Q:=hid_ (Q0.out.fr hF id)
  clear hek hno hF
  by_cases hlt:k < ss.length
  ·obtain ⟨s,hs⟩:∃ s,ss[k]?=some s:=⟨_,List.getElem?_eq_getElem hlt⟩
   have hi0:(0:Int)≤(k:Int):=Int.natCast_nonneg _
   have hi1:(k:Int) < (ss.length:Int):=by omega
   have a0:wr.cell? ⟨a,0,none⟩=some (.slice (some ⟨G,0,none⟩) ss.length ss.length):=X.out.hA.cell' rfl
   have a1:wr.cell? ⟨a,1,none⟩=some (.int .i64 last):=X.out.hA.cell' rfl
   have g0:wr.cell? ⟨G,k * 17,none⟩=some (.int .i64 s.gen):=X.out.cell hs 0 rfl
   have Hs:=hid_ hs
   have hgl:=X.out.gen s (List.mem_of_getElem? hs)
   clear hs
   by_cases hu:s.used=true
   ·have g1:wr.cell? ⟨G,k * 17+1,none⟩=some (.bool true):=by rw [← hu];exact X.out.cell Hs.out 1 rfl
    go_wp2_with fail
    go_roundw
    case rel=>exact ⟨k+1,ek,by omega,by go_num,rfl,by rw [allocErr_used Hs.out hu];exact Hek.out,fun j t hj ht=>by
     rcases Nat.lt_succ_iff_lt_or_eq.1 hj with hj | rfl
     ·exact Hno.out j t hj ht
     ·obtain rfl:=Option.some.inj (Hs.out.symm.trans ht)
      exact .inl hu,FL.out⟩
    case measure=>simp [intOf];omega
   have hu:s.used=false:=by simpa using hu
   have g1:wr.cell? ⟨G,k * 17+1,none⟩=some (.bool false):=by rw [← hu];exact X.out.cell Hs.out 1 rfl
   by_cases hw:s.gen=last
   ·have hwb:(s.gen==last)=true:=by simpa using hw
    have Hw:=hid_ hw
    clear hw
    go_wp2_with fail
    go_quiet (fail)
    have FQ:=hid_ (FL.out.drewN nq)
    clear g0 g1 a0 a1
    go_wp2
    go_roundw
    case rel=>exact ⟨k+1,5,by omega,by go_num,rfl,by rw [allocErr_worn Hs.out hu],fun j t hj ht=>by
     rcases Nat.lt_succ_iff_lt_or_eq.1 hj with hj | rfl
     ·exact Hno.out j t hj ht
     ·obtain rfl:=Option.some.inj (Hs.out.symm.trans ht)
      exact .inr Hw.out,FQ.out⟩
    case measure=>simp [intOf];omega
   ·have hwb:(s.gen==last)=false:=by simpa using hw
    have Hw:=hid_ hw
    have hgt:s.gen < last:=by omega
    clear hw
    go_wp2_with fail
    go_quiet (fail)
    obtain ⟨wq,hwq⟩:∃ wq,wq=wr.drewN nq:=⟨_,rfl⟩
    rw [← hwq]
    have hfq:Fr none_ wr wq:=by rw [hwq];exact (Fr.refl none_ wr).drewN nq
    have XQ:=hid_ (X.out.keep hfq)
    have RQ:=hid_ (R1.out.keep hfq)
    have PQ:=hid_ (P.out.fr hfq id)
    have QQ:=hid_ (Q.out.fr hfq id)
    have FQ:=hid_ (F.out.then_none hfq)
    clear g0 g1 a0 a1 hwq hfq
    have hw:IntKind.i64.wrap (s.gen+1)=s.gen+1:=IntWalk.i64_in _ (by omega)
    go_wp2_with fail
    have hS0:(fun w':World=>w'.cell? ⟨G,k * 17,none⟩=some (.int .i64 s.gen)∧w'.cell? ⟨w.heap.size,0,none⟩=some (.int .i64 R.kind)∧w'.cell? ⟨w.heap.size,1,none⟩=some (.string R.low)∧w'.cell? ⟨w.heap.size,2,none⟩=some (.string R.high)∧w'.cell? ⟨w.heap.size,3,none⟩=some (.bool R.unb)∧w'.cell? ⟨w.heap.size,4,none⟩=some (.int .i64 R.right)∧w'.cell? ⟨w.heap.size,5,none⟩=some (.slice A R.rows.length c)∧w'.cell? ⟨w.heap.size,6,none⟩=some (.slice B R.ents.length d)∧w'.cell? ⟨w.heap.size,7,none⟩=some (.string R.key)∧w'.cell? ⟨w.heap.size,8,none⟩=some (.string R.val)∧w'.cell? ⟨w.heap.size,9,none⟩=some (.int .i64 R.page)∧w'.cell? ⟨w.heap.size,10,none⟩=some (.int .i64 R.hpage)∧w'.cell? ⟨w.heap.size,11,none⟩=some (.int .i64 R.hleft)∧w'.cell? ⟨w.heap.size,12,none⟩=some (.string R.hkey)∧w'.cell? ⟨w.heap.size,13,none⟩=some (.int .i64 R.nslot)∧w'.cell? ⟨w.heap.size,14,none⟩=some (.int .i64 R.ngen)) wq.drew:=⟨XQ.out.cell Hs.out 0 rfl,PQ.out.cell' rfl,PQ.out.cell' rfl,PQ.out.cell' rfl,PQ.out.cell' rfl,PQ.out.cell' rfl,PQ.out.cell' rfl,PQ.out.cell' rfl,PQ.out.cell' rfl,PQ.out.cell' rfl,PQ.out.cell' rfl,PQ.out.cell' rfl,PQ.out.cell' rfl,PQ.out.cell' rfl,PQ.out.cell' rfl,PQ.out.cell' rfl⟩
    refine wp_region_T (m:=10) (S:=fun w':World=>w'.cell? ⟨G,k * 17,none⟩=some (.int .i64 s.gen)∧w'.cell? ⟨w.heap.size,0,none⟩=some (.int .i64 R.kind)∧w'.cell? ⟨w.heap.size,1,none⟩=some (.string R.low)∧w'.cell? ⟨w.heap.size,2,none⟩=some (.string R.high)∧w'.cell? ⟨w.heap.size,3,none⟩=some (.bool R.unb)∧w'.cell? ⟨w.heap.size,4,none⟩=some (.int .i64 R.right)∧w'.cell? ⟨w.heap.size,5,none⟩=some (.slice A R.rows.length c)∧w'.cell? ⟨w.heap.size,6,none⟩=some (.slice B R.ents.length d)∧w'.cell? ⟨w.heap.size,7,none⟩=some (.string R.key)∧w'.cell? ⟨w.heap.size,8,none⟩=some (.string R.val)∧w'.cell? ⟨w.heap.size,9,none⟩=some (.int .i64 R.page)∧w'.cell? ⟨w.heap.size,10,none⟩=some (.int .i64 R.hpage)∧w'.cell? ⟨w.heap.size,11,none⟩=some (.int .i64 R.hleft)∧w'.cell? ⟨w.heap.size,12,none⟩=some (.string R.hkey)∧w'.cell? ⟨w.heap.size,13,none⟩=some (.int .i64 R.nslot)∧w'.cell? ⟨w.heap.size,14,none⟩=some (.int .i64 R.ngen)) (by kernel_rfl) ?_
    refine wpAnyT_take (i:=0) (v:=_) rfl (by kernel_rfl) (by kernel_rfl) (by kernel_rfl) (by kernel_rfl) (fun _ _ _ h=>h) (.inl ⟨by simp [Region.wanted],fun w' hS=>by obtain ⟨s0,s1,s2,s3,s4,s5,s6,s7,s8,s9,s10,s11,s12,s13,s14,s15⟩:=hS;go_simp;rfl⟩) hS0 ?_
    refine wpAnyT_take (i:=1) (v:=_) rfl (by kernel_rfl) (by kernel_rfl) (by kernel_rfl) (by kernel_rfl) (fun _ _ _ h=>h) (.inl ⟨by simp [Region.wanted],fun w' hS=>by obtain ⟨s0,s1,s2,s3,s4,s5,s6,s7,s8,s9,s10,s11,s12,s13,s14,s15⟩:=hS;go_simp;rfl⟩) hS0 ?_
    refine wpAnyT_take (i:=2) (v:=_) rfl (by kernel_rfl) (by kernel_rfl) (by kernel_rfl) (by kernel_rfl) (fun _ _ _ h=>h) (.inl ⟨by simp [Region.wanted],fun w' hS=>by obtain ⟨s0,s1,s2,s3,s4,s5,s6,s7,s8,s9,s10,s11,s12,s13,s14,s15⟩:=hS;go_simp;rfl⟩) hS0 ?_
    refine wpAnyT_take (i:=3) (v:=_) rfl (by kernel_rfl) (by kernel_rfl) (by kernel_rfl) (by kernel_rfl) (fun _ _ _ h=>h) (.inl ⟨by simp [Region.wanted],fun w' hS=>by obtain ⟨s0,s1,s2,s3,s4,s5,s6,s7,s8,s9,s10,s11,s12,s13,s14,s15⟩:=hS;go_simp;rfl⟩) hS0 ?_
    refine wpAnyT_take (i:=4) (v:=_) rfl (by kernel_rfl) (by kernel_rfl) (by kernel_rfl) (by kernel_rfl) (fun _ _ _ h=>h) (.inl ⟨by simp [Region.wanted],fun w' hS=>by obtain ⟨s0,s1,s2,s3,s4,s5,s6,s7,s8,s9,s10,s11,s12,s13,s14,s15⟩:=hS;go_simp;rfl⟩) hS0 ?_
    refine wpAnyT_take (i:=5) (v:=_) rfl (by kernel_rfl) (by kernel_rfl) (by kernel_rfl) (by kernel_rfl) (fun _ _ _ h=>h) (.inl ⟨by simp [Region.wanted],fun w' hS=>by obtain ⟨s0,s1,s2,s3,s4,s5,s6,s7,s8,s9,s10,s11,s12,s13,s14,s15⟩:=hS;go_simp;rfl⟩) hS0 ?_
    refine wpAnyT_take (i:=6) (v:=_) rfl (by kernel_rfl) (by kernel_rfl) (by kernel_rfl) (by kernel_rfl) (fun _ _ _ h=>h) (.inl ⟨by simp [Region.wanted],fun w' hS=>by obtain ⟨s0,s1,s2,s3,s4,s5,s6,s7,s8,s9,s10,s11,s12,s13,s14,s15⟩:=hS;go_simp;rfl⟩) hS0 ?_
    have s0:wq.drew.cell? ⟨G,k * 17,none⟩=some (.int .i64 s.gen):=XQ.out.cell Hs.out 0 rfl
    have s1:wq.drew.cell? ⟨w.heap.size,0,none⟩=some (.int .i64 R.kind):=PQ.out.cell' rfl
    have s2:wq.drew.cell? ⟨w.heap.size,1,none⟩=some (.string R.low):=PQ.out.cell' rfl
    have s3:wq.drew.cell? ⟨w.heap.size,2,none⟩=some (.string R.high):=PQ.out.cell' rfl
    have s4:wq.drew.cell? ⟨w.heap.size,3,none⟩=some (.bool R.unb):=PQ.out.cell' rfl
    have s5:wq.drew.cell? ⟨w.heap.size,4,none⟩=some (.int .i64 R.right):=PQ.out.cell' rfl
    have s6:wq.drew.cell? ⟨w.heap.size,5,none⟩=some (.slice A R.rows.length c):=PQ.out.cell' rfl
    have s7:wq.drew.cell? ⟨w.heap.size,6,none⟩=some (.slice B R.ents.length d):=PQ.out.cell' rfl
    have s8:wq.drew.cell? ⟨w.heap.size,7,none⟩=some (.string R.key):=PQ.out.cell' rfl
    have s9:wq.drew.cell? ⟨w.heap.size,8,none⟩=some (.string R.val):=PQ.out.cell' rfl
    have s10:wq.drew.cell? ⟨w.heap.size,9,none⟩=some (.int .i64 R.page):=PQ.out.cell' rfl
    have s11:wq.drew.cell? ⟨w.heap.size,10,none⟩=some (.int .i64 R.hpage):=PQ.out.cell' rfl
    have s12:wq.drew.cell? ⟨w.heap.size,11,none⟩=some (.int .i64 R.hleft):=PQ.out.cell' rfl
    have s13:wq.drew.cell? ⟨w.heap.size,12,none⟩=some (.string R.hkey):=PQ.out.cell' rfl
    have s14:wq.drew.cell? ⟨w.heap.size,13,none⟩=some (.int .i64 R.nslot):=PQ.out.cell' rfl
    have s15:wq.drew.cell? ⟨w.heap.size,14,none⟩=some (.int .i64 R.ngen):=PQ.out.cell' rfl
    clear hS0
    refine wpAnyT_one (i:=7) rfl rfl (by kernel_rfl) ?_
    go_simp
    go_at_call 85
    refine (clone_ok R A c B d _ (RQ.out.keep ((Fr.refl none_ wq).drew)) hz.1 hz.2).mono ?_
    rintro e w5 ⟨A5,c5,B5,d5,rfl,hown,hf5⟩
    have hf5:Fr none_ wq w5:=((Fr.refl none_ wq).drew).then_none hf5
    have O5:=hid_ hown
    have X5:=hid_ (XQ.out.keep hf5)
    have P5:=hid_ (PQ.out.fr hf5 id)
    have Q5:=hid_ (QQ.out.fr hf5 id)
    have F5:=hid_ (FQ.out.then_none hf5)
    clear hown hf5 s0 s1 s2 s3 s4 s5 s6 s7 s8 s9 s10 s11 s12 s13 s14 s15
    have s0:w5.cell? ⟨G,k * 17,none⟩=some (.int .i64 s.gen):=X5.out.cell Hs.out 0 rfl
    have s1:w5.cell? ⟨w.heap.size,0,none⟩=some (.int .i64 R.kind):=P5.out.cell' rfl
    have s2:w5.cell? ⟨w.heap.size,1,none⟩=some (.string R.low):=P5.out.cell' rfl
    have s3:w5.cell? ⟨w.heap.size,2,none⟩=some (.string R.high):=P5.out.cell' rfl
    have s4:w5.cell? ⟨w.heap.size,3,none⟩=some (.bool R.unb):=P5.out.cell' rfl
    have s5:w5.cell? ⟨w.heap.size,4,none⟩=some (.int .i64 R.right):=P5.out.cell' rfl
    have s6:w5.cell? ⟨w.heap.size,5,none⟩=some (.slice A R.rows.length c):=P5.out.cell' rfl
    have s7:w5.cell? ⟨w.heap.size,6,none⟩=some (.slice B R.ents.length d):=P5.out.cell' rfl
    have s8:w5.cell? ⟨w.heap.size,7,none⟩=some (.string R.key):=P5.out.cell' rfl
    have s9:w5.cell? ⟨w.heap.size,8,none⟩=some (.string R.val):=P5.out.cell' rfl
    have s10:w5.cell? ⟨w.heap.size,9,none⟩=some (.int .i64 R.page):=P5.out.cell' rfl
    have s11:w5.cell? ⟨w.heap.size,10,none⟩=some (.int .i64 R.hpage):=P5.out.cell' rfl
    have s12:w5.cell? ⟨w.heap.size,11,none⟩=some (.int .i64 R.hleft):=P5.out.cell' rfl
    have s13:w5.cell? ⟨w.heap.size,12,none⟩=some (.string R.hkey):=P5.out.cell' rfl
    have s14:w5.cell? ⟨w.heap.size,13,none⟩=some (.int .i64 R.nslot):=P5.out.cell' rfl
    have s15:w5.cell? ⟨w.heap.size,14,none⟩=some (.int .i64 R.ngen):=P5.out.cell' rfl
    refine ⟨⟨s0,s1,s2,s3,s4,s5,s6,s7,s8,s9,s10,s11,s12,s13,s14,s15⟩,?_⟩
    refine wpAnyT_one (i:=8) rfl rfl (by kernel_rfl) ?_
    go_simp
    refine wpAnyT_one (i:=9) rfl rfl (by kernel_rfl) ?_
    go_simp
    clear s0 s1 s2 s3 s4 s5 s6 s7 s8 s9 s10 s11 s12 s13 s14 s15
    refine wpAnyT_one (i:=10) rfl rfl (by kernel_rfl) ?_
    refine wp_store_mid 164 (.tmp 51) (.tmp 50) rfl G (k * 17) (slL ⟨s.gen+1,true,R,.slice A5 R.rows.length c5,.slice B5 R.ents.length d5⟩).toArray rfl rfl (X5.out.there hlt (Nat.le_refl _) (Nat.le_refl _)) slot_size (by simp [slL,Value.oneCell']) ?_
    refine ⟨.inl rfl,?_⟩
    refine wpAnyT_done (by kernel_rfl) ?_ _
    obtain ⟨w9,hw9⟩:∃ w9,w9=w5.setCells G (k * 17) (slL ⟨s.gen+1,true,R,.slice A5 R.rows.length c5,.slice B5 R.ents.length d5⟩):=⟨_,rfl⟩
    change Exit.then _ _ _ _ (w5.setCells G (k * 17) (slL ⟨s.gen+1,true,R,.slice A5 R.rows.length c5,.slice B5 R.ents.length d5⟩))
    rw [← hw9]
    have h9:Fr (only G) w5 w9:=by rw [hw9];exact Fr.setCells _ _ _ (Fr.refl _ _) (.inl (Eq.refl _))
    have hG5:∃ cs,Blk w5 G 164 cs:=by obtain ⟨cs,hG,hc⟩:=X5.out.hG;exact ⟨cs,hG⟩
    obtain ⟨cs5,hG5⟩:=hG5
    have o9:RecOwn w9 wq.heap.size R (.slice A5 R.rows.length c5) (.slice B5 R.ents.length d5):=O5.out.only h9 hG5 (by decide) (by decide)
    have X9:=hid_ (X5.out.put (s:=⟨s.gen+1,true,R,.slice A5 R.rows.length c5,.slice B5 R.ents.length d5⟩) hlt h9 (fun cs hb=>by rw [hw9];exact Blk.setCells _ _ _ _ hb) (o9.base (Nat.zero_le _)) ⟨by show 0≤s.gen+1;omega,by show s.gen+1≤last;omega⟩ hz)
    have O9:=hid_ (o9.base FQ.out.size)
    have Q9:=hid_ (Q5.out.fr h9 (only_ne (Ne.symm (Blk.ne_ hG5 Q5.out (by decide)))))
    have F9:Hid (Fr (only G) w w9):=hid_ ((F5.out.mono (fun _ _ e=>e.elim)).then_only h9 (.inl (Eq.refl _)))
    clear hw9 h9 hG5 o9
    have g9:w9.cell? ⟨G,k * 17,none⟩=some (.int .i64 (s.gen+1)):=X9.out.cell (List.getElem?_set_self hlt) 0 rfl
    have y0:w9.cell? ⟨w.heap.size+1,0,none⟩=some (.int .i64 0):=Q9.out.cell' rfl
    have y1:w9.cell? ⟨w.heap.size+1,1,none⟩=some (.int .i64 0):=Q9.out.cell' rfl
    have f0:=Q9.out.frozen 0
    have f1:=Q9.out.frozen 1
    have hwk:IntKind.i64.wrap ((k:Int)+1)=(k:Int)+1:=IntWalk.i64_in _ (by omega)
    go_wp2_with fail
    clear g9 y0 y1 f0 f1
    obtain ⟨qb,qf⟩:=box2 Q9.out (.int .i64 ((k:Int)+1)) (.int .i64 (s.gen+1))
    have x0:=qb.cell' (i:=0) rfl
    have x1:=qb.cell' (i:=1) rfl
    have hnG:G≠w.heap.size+1:=by omega
    have hnA:a≠w.heap.size+1:=by omega
    refine bodyPost_ret (v:=.tuple #[.agg #[.int .i64 ((k:Int)+1),.int .i64 (s.gen+1)],.nilIface]) ?_ rfl (.inl ⟨k,s,_,_,Hs.out,⟨hu,Hw.out⟩,Hno.out,rfl,X9.out.beside qf Q9.out (by decide) (by decide) hnA hnG,O9.out.only qf Q9.out (by decide) (by decide),F9.out.then_only qf (.inr (by omega))⟩)
    simp [results,Tryz.results53,go_sem,x0,x1]
  ·obtain rfl:k=ss.length:=by omega
   have y0:wr.cell? ⟨w.heap.size+1,0,none⟩=some (.int .i64 0):=Q.out.cell' rfl
   have y1:wr.cell? ⟨w.heap.size+1,1,none⟩=some (.int .i64 0):=Q.out.cell' rfl
   have f0:=Q.out.frozen 0
   have f1:=Q.out.frozen 1
   go_wp2_with fail
   clear y0 y1 f0 f1
   obtain ⟨qb,qf⟩:=box2 Q.out (.int .i64 0) (.int .i64 0)
   have x0:=qb.cell' (i:=0) rfl
   have x1:=qb.cell' (i:=1) rfl
   have hek:=Hek.out
   rw [List.take_length] at hek
   refine bodyPost_ret (v:=.tuple #[.agg #[.int .i64 0,.int .i64 0],errV ek]) ?_ rfl (.inr ⟨fun j t ht=>Hno.out j t (List.getElem?_eq_some_iff.1 ht).1 ht,by rw [hek],F.out.then_only qf (.inr (by omega))⟩)
   simp [results,Tryz.results53,go_sem,x0,x1]
open Go.RowKit

def atC (ss:List Sl) (sl gn:Int):Int:=
  if sl < 1∨(ss.length:Int) < sl then 1 else
  match ss[(sl - 1).toNat]? with
  | some s=>if s.used=true∧s.gen=gn then 0 else 4
  | none=>1
theorem atC_cases (ss:List Sl) (sl gn:Int):(atC ss sl gn=1∧(sl < 1∨(ss.length:Int) < sl))∨∃ (i:Nat) (s:Sl),sl=(i:Int)+1∧ss[i]?=some s∧((atC ss sl gn=4∧¬ (s.used=true∧s.gen=gn))∨(atC ss sl gn=0∧s.used=true∧s.gen=gn)):=by
  unfold atC
  by_cases h:sl < 1∨(ss.length:Int) < sl
  · exact .inl ⟨if_pos h,h⟩
  · rw [if_neg h]
    have hl:(sl - 1).toNat < ss.length:=by omega
    refine .inr ⟨(sl - 1).toNat,ss[(sl - 1).toNat],by omega,List.getElem?_eq_getElem hl,?_⟩
    rw [List.getElem?_eq_getElem hl]
    by_cases h2:ss[(sl - 1).toNat].used=true∧ss[(sl - 1).toNat].gen=gn
    · exact .inr ⟨if_pos h2,h2⟩
    · exact .inl ⟨if_neg h2,h2⟩

section
variable (w:World) (a G:Nat) (last:Int) (ss:List Sl) (sl gn:Int)
variable {w a G last ss}
theorem at_arg1 (h:Ar w a G last ss) (h1:sl < 1):Calls Tryz.prog 89 #[.pointer (some ⟨a,0,none⟩),.agg #[.int .i64 sl,.int .i64 gn]] w fun e w'=>e=.returned (.tuple #[.pointer none,errV 1])∧Fr none_ w w':=by
  have F0:=hid_ ((Fr.refl none_ w).alloc (.cells #[.int .i64 sl,.int .i64 gn] 36))
  have h1:decide (sl < 1)=true:=by simpa using h1
  clear h
  go_enter Tryz.func89,Tryz.ntmps89
  go_wp2_with fail
  go_quiet (fail)
  have FQ:=hid_ (F0.out.drewN nq)
  go_wp2
  go_ret2
  exact ⟨rfl,FQ.out⟩
theorem at_arg2 (h:Ar w a G last ss) (h1:¬ sl < 1) (h2:(ss.length:Int) < sl):Calls Tryz.prog 89 #[.pointer (some ⟨a,0,none⟩),.agg #[.int .i64 sl,.int .i64 gn]] w fun e w'=>e=.returned (.tuple #[.pointer none,errV 1])∧Fr none_ w w':=by
  have F0:=hid_ ((Fr.refl none_ w).alloc (.cells #[.int .i64 sl,.int .i64 gn] 36))
  have h1:decide (sl < 1)=false:=by simpa using h1
  have h2:decide ((ss.length:Int) < sl)=true:=by simpa using h2
  have lA:=h.ltA
  have lA1:a < w.heap.size+1:=by omega
  have c0:w.cell? ⟨a,0,none⟩=some (.slice (some ⟨G,0,none⟩) ss.length ss.length):=h.hA.cell' rfl
  clear h
  go_enter Tryz.func89,Tryz.ntmps89
  go_wp2_with fail
  go_quiet (fail)
  have FQ:=hid_ (F0.out.drewN nq)
  go_wp2
  go_ret2
  exact ⟨rfl,FQ.out⟩
theorem at_stale {i:Nat} {s:Sl} (h:Ar w a G last ss) (hs:ss[i]?=some s) (hi:sl=(i:Int)+1) (hb:¬ (s.used=true∧s.gen=gn)):Calls Tryz.prog 89 #[.pointer (some ⟨a,0,none⟩),.agg #[.int .i64 sl,.int .i64 gn]] w fun e w'=>e=.returned (.tuple #[.pointer none,errV 4])∧Fr none_ w w':=by
  have hlen:=h.len
  have hlt:=(List.getElem?_eq_some_iff.1 hs).1
  obtain ⟨w0,hw0⟩:∃ w0,w0=w.alloc (.cells #[.int .i64 sl,.int .i64 gn] 36):=⟨_,rfl⟩
  have f0:Fr none_ w w0:=by rw [hw0];exact (Fr.refl none_ w).alloc _
  have F0:=hid_ f0
  have X0:=h.keep f0
  have p0:Blk w0 w.heap.size 36 #[.int .i64 sl,.int .i64 gn]:=by rw [hw0];exact Blk.new w _ _
  have x0:w0.cell? ⟨w.heap.size,0,none⟩=some (.int .i64 sl):=p0.cell' rfl
  have x1:w0.cell? ⟨w.heap.size,1,none⟩=some (.int .i64 gn):=p0.cell' rfl
  have h1:decide (sl < 1)=false:=by simp;omega
  have h2:decide ((ss.length:Int) < sl)=false:=by simp;omega
  have hw:IntKind.i64.wrap (sl - 1)=(i:Int):=by rw [show sl - 1=(i:Int) by omega];exact IntWalk.i64_in _ (by omega)
  have hi0:(0:Int)≤(i:Int):=Int.natCast_nonneg _
  have hi1:(i:Int) < (ss.length:Int):=by omega
  have c0:w0.cell? ⟨a,0,none⟩=some (.slice (some ⟨G,0,none⟩) ss.length ss.length):=X0.hA.cell' rfl
  have g0:w0.cell? ⟨G,i * 17,none⟩=some (.int .i64 s.gen):=X0.cell hs 0 rfl
  have lA:=h.ltA
  have lA1:a < w.heap.size+1:=by omega
  cases hu:s.used with
  | false =>
    have g1:w0.cell? ⟨G,i * 17+1,none⟩=some (.bool false):=by rw [← hu];exact X0.cell hs 1 rfl
    clear h hi f0 hb X0 p0 hs hlt
    go_enter Tryz.func89,Tryz.ntmps89
    go_wp2_with fail
    change Code.wp _ _ _ _ (w.alloc (.cells #[.int .i64 sl,.int .i64 gn] 36))
    rw [← hw0]
    clear hw0
    go_quiet (fail)
    go_wp2_with fail
    go_quiet (fail)
    go_wp2_with fail
    go_quiet (fail)
    go_wp2
    go_ret2
    exact ⟨rfl,by repeat (first | exact F0.out | apply Fr.drewN | apply Fr.drew)⟩
  | true =>
    have g1:w0.cell? ⟨G,i * 17+1,none⟩=some (.bool true):=by rw [← hu];exact X0.cell hs 1 rfl
    have hg:(s.gen==gn)=false:=by
      have:s.gen≠gn:=fun e=>hb ⟨hu,e⟩
      simpa using this
    clear h hi f0 hb X0 p0 hs hlt
    go_enter Tryz.func89,Tryz.ntmps89
    go_wp2_with fail
    change Code.wp _ _ _ _ (w.alloc (.cells #[.int .i64 sl,.int .i64 gn] 36))
    rw [← hw0]
    clear hw0
    go_quiet (fail)
    go_wp2_with fail
    go_quiet (fail)
    go_wp2_with fail
    go_quiet (fail)
    go_wp2
    go_ret2
    exact ⟨rfl,by repeat (first | exact F0.out | apply Fr.drewN | apply Fr.drew)⟩
theorem at_ok {i:Nat} {s:Sl} (h:Ar w a G last ss) (hs:ss[i]?=some s) (hi:sl=(i:Int)+1) (hu:s.used=true) (hg:s.gen=gn):Calls Tryz.prog 89 #[.pointer (some ⟨a,0,none⟩),.agg #[.int .i64 sl,.int .i64 gn]] w fun e w'=>e=.returned (.tuple #[.pointer (some ⟨G,i * 17,none⟩),.nilIface])∧Fr none_ w w':=by
  have hlen:=h.len
  have hlt:=(List.getElem?_eq_some_iff.1 hs).1
  obtain ⟨w0,hw0⟩:∃ w0,w0=w.alloc (.cells #[.int .i64 sl,.int .i64 gn] 36):=⟨_,rfl⟩
  have f0:Fr none_ w w0:=by rw [hw0];exact (Fr.refl none_ w).alloc _
  have F0:=hid_ f0
  have X0:=h.keep f0
  have p0:Blk w0 w.heap.size 36 #[.int .i64 sl,.int .i64 gn]:=by rw [hw0];exact Blk.new w _ _
  have x0:w0.cell? ⟨w.heap.size,0,none⟩=some (.int .i64 sl):=p0.cell' rfl
  have x1:w0.cell? ⟨w.heap.size,1,none⟩=some (.int .i64 gn):=p0.cell' rfl
  have h1:decide (sl < 1)=false:=by simp;omega
  have h2:decide ((ss.length:Int) < sl)=false:=by simp;omega
  have hw:IntKind.i64.wrap (sl - 1)=(i:Int):=by rw [show sl - 1=(i:Int) by omega];exact IntWalk.i64_in _ (by omega)
  have hi0:(0:Int)≤(i:Int):=Int.natCast_nonneg _
  have hi1:(i:Int) < (ss.length:Int):=by omega
  have c0:w0.cell? ⟨a,0,none⟩=some (.slice (some ⟨G,0,none⟩) ss.length ss.length):=X0.hA.cell' rfl
  have g0:w0.cell? ⟨G,i * 17,none⟩=some (.int .i64 gn):=by rw [← hg];exact X0.cell hs 0 rfl
  have g1:w0.cell? ⟨G,i * 17+1,none⟩=some (.bool true):=by rw [← hu];exact X0.cell hs 1 rfl
  have lA:=h.ltA
  have lA1:a < w.heap.size+1:=by omega
  clear h hi f0 X0 p0 hs hlt
  go_enter Tryz.func89,Tryz.ntmps89
  go_wp2_with fail
  change Code.wp _ _ _ _ (w.alloc (.cells #[.int .i64 sl,.int .i64 gn] 36))
  rw [← hw0]
  clear hw0
  go_quiet (fail)
  go_wp2_with fail
  go_quiet (fail)
  go_wp2_with fail
  go_quiet (fail)
  go_wp2
  go_ret2
  exact ⟨rfl,by repeat (first | exact F0.out | apply Fr.drewN | apply Fr.drew)⟩
theorem at_bad (h:Ar w a G last ss) (hb:atC ss sl gn≠0):Calls Tryz.prog 89 #[.pointer (some ⟨a,0,none⟩),.agg #[.int .i64 sl,.int .i64 gn]] w fun e w'=>e=.returned (.tuple #[.pointer none,errV (atC ss sl gn)])∧Fr none_ w w':=by
  rcases atC_cases ss sl gn with ⟨e,h1⟩ | ⟨i,s,hi,hs,⟨e,hn⟩ | ⟨e,_⟩⟩
  · rw [e]
    by_cases h2:sl < 1
    · exact at_arg1 sl gn h h2
    · exact at_arg2 sl gn h h2 (by omega)
  · rw [e]
    exact at_stale sl gn h hs hi hn
  · exact absurd e hb
end
open Go.RowKit

abbrev recZ:Array Value:=recA Rc.zero (.slice none 0 0) (.slice none 0 0)
theorem SlCells.free {cs:Array Value} {ss:List Sl} (h:SlCells cs ss) {i:Nat} {s:Sl} (hs:ss[i]?=some s):SlCells (setA (cs.setIfInBounds (i * 17+1) (.bool false)) (i * 17+2) recZ.toList) (ss.set i ⟨s.gen,false,Rc.zero,.slice none 0 0,.slice none 0 0⟩):=by
  have hi:=(List.getElem?_eq_some_iff.1 hs).1
  have hsz:=h.1
  refine ⟨by rw [setA_size];simp [h.1],fun k t hk j v hj=>?_⟩
  have hjl:j < 17:=by have:=(List.getElem?_eq_some_iff.1 hj).1;simpa using this
  rw [List.getElem?_set] at hk
  split at hk
  · rename_i hik
    subst hik
    obtain rfl:(⟨s.gen,false,Rc.zero,.slice none 0 0,.slice none 0 0⟩:Sl)=t:=by simpa using hk
    match j,hj,hjl with
    | 0,hj,_ =>
      rw [setA_out _ _ _ _ (.inl (by omega)),Array.getElem?_setIfInBounds_ne (by omega)]
      obtain rfl:Value.int .i64 s.gen=v:=by simpa using hj
      exact h.2 i s hs 0 _ rfl
    | 1,hj,_ =>
      rw [setA_out _ _ _ _ (.inl (by omega))]
      obtain rfl:Value.bool false=v:=by simpa using hj
      have hl:i * 17+1 < cs.size:=by omega
      simp [hl]
    | j+2,hj,hjl =>
      rw [show i * 17+(j+2)=i * 17+2+j by omega]
      exact setA_in _ _ _ j v (by simpa using hj) (by simp;omega)
  · rename_i hne
    rw [setA_out _ _ _ _ (by simp;omega),Array.getElem?_setIfInBounds_ne (by omega)]
    exact h.2 k t hk j v hj
theorem Ar.put2 {w w':World} {a G:Nat} {last:Int} {ss:List Sl} (h:Ar w a G last ss) {i:Nat} {s:Sl} (hi:i < ss.length) (hf:Fr (only G) w w') (hb:∀ cs,Blk w G 164 cs→SlCells cs ss→∃ cs',Blk w' G 164 cs'∧SlCells cs' (ss.set i s)) (ho:RecOwn w' 0 s.R s.vr s.ve) (hg:0≤s.gen∧s.gen≤last) (hz:s.R.rows.length≤1000∧s.R.ents.length≤1000):Ar w' a G last (ss.set i s):=by
  have hne:=h.ne
  obtain ⟨cs,hG,hc⟩:=h.hG
  refine ⟨by rw [List.length_set];exact h.hA.fr hf (only_ne hne),hb cs hG hc,fun k t hk=>?_,h.l40,by rw [List.length_set];exact h.len,fun t ht=>?_,fun t ht=>?_⟩
  · rw [List.getElem?_set] at hk
    split at hk
    · obtain rfl:s=t:=by simpa using hk
      exact ho
    · exact (h.own k t hk).only hf hG (by decide) (by decide)
  · rcases List.mem_or_eq_of_mem_set ht with ht | rfl
    · exact h.gen t ht
    · exact hg
  · rcases List.mem_or_eq_of_mem_set ht with ht | rfl
    · exact h.sz t ht
    · exact hz

section
variable {w:World} {a G:Nat} {last:Int} {ss:List Sl} (sl gn:Int)
theorem free_bad (h:Ar w a G last ss) (hb:atC ss sl gn≠0):Calls Tryz.prog 101 #[.pointer (some ⟨a,0,none⟩),.agg #[.int .i64 sl,.int .i64 gn]] w fun e w'=>e=.returned (errV (atC ss sl gn))∧Fr none_ w w':=by
  have F0:=hid_ ((Fr.refl none_ w).alloc (.cells #[.int .i64 sl,.int .i64 gn] 36))
  have H:=hid_ (h.keep F0.out)
  have Hb:=hid_ hb
  clear h hb
  go_enter Tryz.func101,Tryz.ntmps101
  go_wp2_with fail
  refine (at_bad sl gn H.out Hb.out).mono ?_
  rintro e w1 ⟨rfl,hf1⟩
  have F1:=hid_ (F0.out.then_none hf1)
  clear hf1
  go_wp2
  go_ret
  exact ⟨rfl,F1.out⟩
def FreePost4 (w:World) (a G:Nat) (last:Int) (ss:List Sl) (i:Nat) (s:Sl) (e:Ending) (w':World):Prop:=
  e=.returned .nilIface∧Ar w' a G last (ss.set i ⟨s.gen,false,Rc.zero,.slice none 0 0,.slice none 0 0⟩)∧Fr (only G) w w'
set_option maxHeartbeats 4000000 in
theorem free_ok {i:Nat} {s:Sl} (h:Ar w a G last ss) (hs:ss[i]?=some s) (hi:sl=(i:Int)+1) (hu:s.used=true) (hg:s.gen=gn):Calls Tryz.prog 101 #[.pointer (some ⟨a,0,none⟩),.agg #[.int .i64 sl,.int .i64 gn]] w (FreePost4 w a G last ss i s):=by
 have F0:=hid_ ((Fr.refl none_ w).alloc (.cells #[.int .i64 sl,.int .i64 gn] 36))
 have H:=hid_ (h.keep F0.out)
 have Hs:=hid_ (And.intro hs (And.intro hi (And.intro hu hg)))
 clear h hs hi hu hg
 go_enter Tryz.func101,Tryz.ntmps101
 go_wp2_with fail
 refine (at_ok sl gn H.out Hs.out.1 Hs.out.2.1 Hs.out.2.2.1 Hs.out.2.2.2).mono ?_
 rintro e w1 ⟨rfl,hf1⟩
 have X:=hid_ (H.out.keep hf1)
 have F1:Hid (Fr (only G) w w1):=hid_ ((F0.out.then_none hf1).mono (fun _ _ e=>e.elim))
 clear hf1
 obtain ⟨A,c,B,d,hvr,hve⟩:=(X.out.own i s Hs.out.1).shape
 have hlt:=(List.getElem?_eq_some_iff.1 Hs.out.1).1
 have e1:w1.cell? ⟨G,i * 17+1,none⟩=some (.bool s.used):=X.out.cell Hs.out.1 1 rfl
 have f1:=X.out.frozen (i * 17+1)
 have g0:w1.cell? ⟨G,i * 17+2,none⟩=some (.int .i64 s.R.kind):=by first | exact X.out.cell Hs.out.1 2 rfl | (rw [← hvr];exact X.out.cell Hs.out.1 2 rfl)
 have k0:=X.out.frozen (i * 17+2)
 have g1:w1.cell? ⟨G,i * 17+2+1,none⟩=some (.string s.R.low):=by first | exact X.out.cell Hs.out.1 3 rfl | (rw [← hvr];exact X.out.cell Hs.out.1 3 rfl)
 have k1:=X.out.frozen (i * 17+2+1)
 have g2:w1.cell? ⟨G,i * 17+2+2,none⟩=some (.string s.R.high):=by first | exact X.out.cell Hs.out.1 4 rfl | (rw [← hvr];exact X.out.cell Hs.out.1 4 rfl)
 have k2:=X.out.frozen (i * 17+2+2)
 have g3:w1.cell? ⟨G,i * 17+2+3,none⟩=some (.bool s.R.unb):=by first | exact X.out.cell Hs.out.1 5 rfl | (rw [← hvr];exact X.out.cell Hs.out.1 5 rfl)
 have k3:=X.out.frozen (i * 17+2+3)
 have g4:w1.cell? ⟨G,i * 17+2+4,none⟩=some (.int .i64 s.R.right):=by first | exact X.out.cell Hs.out.1 6 rfl | (rw [← hvr];exact X.out.cell Hs.out.1 6 rfl)
 have k4:=X.out.frozen (i * 17+2+4)
 have g5:w1.cell? ⟨G,i * 17+2+5,none⟩=some s.vr:=by first | exact X.out.cell Hs.out.1 7 rfl | (rw [← hvr];exact X.out.cell Hs.out.1 7 rfl)
 have k5:=X.out.frozen (i * 17+2+5)
 have g6:w1.cell? ⟨G,i * 17+2+6,none⟩=some s.ve:=by first | exact X.out.cell Hs.out.1 8 rfl | (rw [← hvr];exact X.out.cell Hs.out.1 8 rfl)
 have k6:=X.out.frozen (i * 17+2+6)
 have g7:w1.cell? ⟨G,i * 17+2+7,none⟩=some (.string s.R.key):=by first | exact X.out.cell Hs.out.1 9 rfl | (rw [← hvr];exact X.out.cell Hs.out.1 9 rfl)
 have k7:=X.out.frozen (i * 17+2+7)
 have g8:w1.cell? ⟨G,i * 17+2+8,none⟩=some (.string s.R.val):=by first | exact X.out.cell Hs.out.1 10 rfl | (rw [← hvr];exact X.out.cell Hs.out.1 10 rfl)
 have k8:=X.out.frozen (i * 17+2+8)
 have g9:w1.cell? ⟨G,i * 17+2+9,none⟩=some (.int .i64 s.R.page):=by first | exact X.out.cell Hs.out.1 11 rfl | (rw [← hvr];exact X.out.cell Hs.out.1 11 rfl)
 have k9:=X.out.frozen (i * 17+2+9)
 have g10:w1.cell? ⟨G,i * 17+2+10,none⟩=some (.int .i64 s.R.hpage):=by first | exact X.out.cell Hs.out.1 12 rfl | (rw [← hvr];exact X.out.cell Hs.out.1 12 rfl)
 have k10:=X.out.frozen (i * 17+2+10)
 have g11:w1.cell? ⟨G,i * 17+2+11,none⟩=some (.int .i64 s.R.hleft):=by first | exact X.out.cell Hs.out.1 13 rfl | (rw [← hvr];exact X.out.cell Hs.out.1 13 rfl)
 have k11:=X.out.frozen (i * 17+2+11)
 have g12:w1.cell? ⟨G,i * 17+2+12,none⟩=some (.string s.R.hkey):=by first | exact X.out.cell Hs.out.1 14 rfl | (rw [← hvr];exact X.out.cell Hs.out.1 14 rfl)
 have k12:=X.out.frozen (i * 17+2+12)
 have g13:w1.cell? ⟨G,i * 17+2+13,none⟩=some (.int .i64 s.R.nslot):=by first | exact X.out.cell Hs.out.1 15 rfl | (rw [← hvr];exact X.out.cell Hs.out.1 15 rfl)
 have k13:=X.out.frozen (i * 17+2+13)
 have g14:w1.cell? ⟨G,i * 17+2+14,none⟩=some (.int .i64 s.R.ngen):=by first | exact X.out.cell Hs.out.1 16 rfl | (rw [← hvr];exact X.out.cell Hs.out.1 16 rfl)
 have k14:=X.out.frozen (i * 17+2+14)
 have hgl:=X.out.gen s (List.mem_of_getElem? Hs.out.1)
 go_wp2
 go_ret
 change FreePost4 _ _ _ _ _ _ _ _ ((w1.setCell ⟨G,i * 17+1,none⟩ (.bool false)).setCells G (i * 17+2) recZ.toList)
 have h9:Fr (only G) w1 ((w1.setCell ⟨G,i * 17+1,none⟩ (.bool false)).setCells G (i * 17+2) recZ.toList):=Fr.setCells _ _ _ (Fr.only1 w1 ⟨G,i * 17+1,none⟩ _) (.inl (Eq.refl _))
 exact ⟨rfl,X.out.put2 hlt h9 (fun cs hb hc=>⟨_,Blk.setCells _ _ _ _ (hb.set_ _ _),hc.free Hs.out.1⟩) (RecOwn.zero _ 0) hgl ⟨Nat.zero_le _,Nat.zero_le _⟩,F1.out.then_only h9 (.inl (Eq.refl _))⟩
set_option maxHeartbeats 4000000 in
theorem load_bad (h:Ar w a G last ss) (hb:atC ss sl gn≠0):Calls Tryz.prog 59 #[.pointer (some ⟨a,0,none⟩),.agg #[.int .i64 sl,.int .i64 gn]] w fun e w'=>e=.returned (.tuple #[recV Rc.zero (.slice none 0 0) (.slice none 0 0),errV (atC ss sl gn)])∧Fr none_ w w':=by
 have K:=Blk.new (w.alloc (.cells #[.int .i64 sl,.int .i64 gn] 36)) 51 recZ
 rw [World.size_alloc] at K
 have Z0:=hid_ K
 have F0:=hid_ (((Fr.refl none_ w).alloc (.cells #[.int .i64 sl,.int .i64 gn] 36)).alloc (.cells recZ 51))
 clear K
 have H:=hid_ (h.keep F0.out)
 have Hb:=hid_ hb
 clear h hb
 go_enter Tryz.func59,Tryz.ntmps59
 go_wp2_with fail
 refine (at_bad sl gn H.out Hb.out).mono ?_
 rintro e w1 ⟨rfl,hf1⟩
 have F1:=hid_ (F0.out.then_none hf1)
 have Z1:=hid_ (Z0.out.fr hf1 id)
 clear hf1
 have z0:w1.cell? ⟨w.heap.size+1,0,none⟩=some (.int .i64 0):=Z1.out.cell' rfl
 have y0:=Z1.out.frozen 0
 have z1:w1.cell? ⟨w.heap.size+1,1,none⟩=some (.string nilS):=Z1.out.cell' rfl
 have y1:=Z1.out.frozen 1
 have z2:w1.cell? ⟨w.heap.size+1,2,none⟩=some (.string nilS):=Z1.out.cell' rfl
 have y2:=Z1.out.frozen 2
 have z3:w1.cell? ⟨w.heap.size+1,3,none⟩=some (.bool false):=Z1.out.cell' rfl
 have y3:=Z1.out.frozen 3
 have z4:w1.cell? ⟨w.heap.size+1,4,none⟩=some (.int .i64 0):=Z1.out.cell' rfl
 have y4:=Z1.out.frozen 4
 have z5:w1.cell? ⟨w.heap.size+1,5,none⟩=some (.slice none 0 0):=Z1.out.cell' rfl
 have y5:=Z1.out.frozen 5
 have z6:w1.cell? ⟨w.heap.size+1,6,none⟩=some (.slice none 0 0):=Z1.out.cell' rfl
 have y6:=Z1.out.frozen 6
 have z7:w1.cell? ⟨w.heap.size+1,7,none⟩=some (.string nilS):=Z1.out.cell' rfl
 have y7:=Z1.out.frozen 7
 have z8:w1.cell? ⟨w.heap.size+1,8,none⟩=some (.string nilS):=Z1.out.cell' rfl
 have y8:=Z1.out.frozen 8
 have z9:w1.cell? ⟨w.heap.size+1,9,none⟩=some (.int .i64 0):=Z1.out.cell' rfl
 have y9:=Z1.out.frozen 9
 have z10:w1.cell? ⟨w.heap.size+1,10,none⟩=some (.int .i64 0):=Z1.out.cell' rfl
 have y10:=Z1.out.frozen 10
 have z11:w1.cell? ⟨w.heap.size+1,11,none⟩=some (.int .i64 0):=Z1.out.cell' rfl
 have y11:=Z1.out.frozen 11
 have z12:w1.cell? ⟨w.heap.size+1,12,none⟩=some (.string nilS):=Z1.out.cell' rfl
 have y12:=Z1.out.frozen 12
 have z13:w1.cell? ⟨w.heap.size+1,13,none⟩=some (.int .i64 0):=Z1.out.cell' rfl
 have y13:=Z1.out.frozen 13
 have z14:w1.cell? ⟨w.heap.size+1,14,none⟩=some (.int .i64 0):=Z1.out.cell' rfl
 have y14:=Z1.out.frozen 14
 go_wp2
 clear z0 y0 z1 y1 z2 y2 z3 y3 z4 y4 z5 y5 z6 y6 z7 y7 z8 y8 z9 y9 z10 y10 z11 y11 z12 y12 z13 y13 z14 y14
 obtain ⟨qb,qf⟩:=box15 Z1.out (.int .i64 0) (.string nilS) (.string nilS) (.bool false) (.int .i64 0) (.slice none 0 0) (.slice none 0 0) (.string nilS) (.string nilS) (.int .i64 0) (.int .i64 0) (.int .i64 0) (.string nilS) (.int .i64 0) (.int .i64 0)
 have q0:=qb.cell' (i:=0) rfl
 have q1:=qb.cell' (i:=1) rfl
 have q2:=qb.cell' (i:=2) rfl
 have q3:=qb.cell' (i:=3) rfl
 have q4:=qb.cell' (i:=4) rfl
 have q5:=qb.cell' (i:=5) rfl
 have q6:=qb.cell' (i:=6) rfl
 have q7:=qb.cell' (i:=7) rfl
 have q8:=qb.cell' (i:=8) rfl
 have q9:=qb.cell' (i:=9) rfl
 have q10:=qb.cell' (i:=10) rfl
 have q11:=qb.cell' (i:=11) rfl
 have q12:=qb.cell' (i:=12) rfl
 have q13:=qb.cell' (i:=13) rfl
 have q14:=qb.cell' (i:=14) rfl
 refine bodyPost_ret (v:=.tuple #[recV Rc.zero (.slice none 0 0) (.slice none 0 0),errV (atC ss sl gn)]) ?_ rfl ⟨rfl,F1.out.then_only qf (.inr (by omega))⟩
 simp [results,Tryz.results59,go_sem,Rc.zero,q0,q1,q2,q3,q4,q5,q6,q7,q8,q9,q10,q11,q12,q13,q14]
def LoadPost (w:World) (R:Rc) (e:Ending) (w':World):Prop:=
  ∃ A c B d,e=.returned (.tuple #[recV R (.slice A R.rows.length c) (.slice B R.ents.length d),.nilIface])∧RecOwn w' w.heap.size R (.slice A R.rows.length c) (.slice B R.ents.length d)∧Fr none_ w w'
set_option maxHeartbeats 4000000 in
theorem load_ok {i:Nat} {s:Sl} (h:Ar w a G last ss) (hs:ss[i]?=some s) (hi:sl=(i:Int)+1) (hu:s.used=true) (hg:s.gen=gn):Calls Tryz.prog 59 #[.pointer (some ⟨a,0,none⟩),.agg #[.int .i64 sl,.int .i64 gn]] w (LoadPost w s.R):=by
 have K:=Blk.new (w.alloc (.cells #[.int .i64 sl,.int .i64 gn] 36)) 51 recZ
 rw [World.size_alloc] at K
 have Z0:=hid_ K
 have F0:=hid_ (((Fr.refl none_ w).alloc (.cells #[.int .i64 sl,.int .i64 gn] 36)).alloc (.cells recZ 51))
 clear K
 have H:=hid_ (h.keep F0.out)
 have Hs:=hid_ (And.intro hs (And.intro hi (And.intro hu hg)))
 clear h hs hi hu hg
 go_enter Tryz.func59,Tryz.ntmps59
 go_wp2_with fail
 refine (at_ok sl gn H.out Hs.out.1 Hs.out.2.1 Hs.out.2.2.1 Hs.out.2.2.2).mono ?_
 rintro e w1 ⟨rfl,hf1⟩
 have X:=hid_ (H.out.keep hf1)
 have F1:=hid_ (F0.out.then_none hf1)
 have Z1:=hid_ (Z0.out.fr hf1 id)
 clear hf1
 obtain ⟨A,c,B,d,hvr,hve⟩:=(X.out.own i s Hs.out.1).shape
 have hz:=X.out.sz s (List.mem_of_getElem? Hs.out.1)
 have HO:Hid (RecReads w1 s.R A B):=hid_ (by have:=X.out.own i s Hs.out.1;rw [hvr,hve] at this;exact this.reads)
 have g0:w1.cell? ⟨G,i * 17+2,none⟩=some (.int .i64 s.R.kind):=by exact X.out.cell Hs.out.1 2 rfl
 have g1:w1.cell? ⟨G,i * 17+2+1,none⟩=some (.string s.R.low):=by exact X.out.cell Hs.out.1 3 rfl
 have g2:w1.cell? ⟨G,i * 17+2+2,none⟩=some (.string s.R.high):=by exact X.out.cell Hs.out.1 4 rfl
 have g3:w1.cell? ⟨G,i * 17+2+3,none⟩=some (.bool s.R.unb):=by exact X.out.cell Hs.out.1 5 rfl
 have g4:w1.cell? ⟨G,i * 17+2+4,none⟩=some (.int .i64 s.R.right):=by exact X.out.cell Hs.out.1 6 rfl
 have g5:w1.cell? ⟨G,i * 17+2+5,none⟩=some (.slice A s.R.rows.length c):=by rw [← hvr];exact X.out.cell Hs.out.1 7 rfl
 have g6:w1.cell? ⟨G,i * 17+2+6,none⟩=some (.slice B s.R.ents.length d):=by rw [← hve];exact X.out.cell Hs.out.1 8 rfl
 have g7:w1.cell? ⟨G,i * 17+2+7,none⟩=some (.string s.R.key):=by exact X.out.cell Hs.out.1 9 rfl
 have g8:w1.cell? ⟨G,i * 17+2+8,none⟩=some (.string s.R.val):=by exact X.out.cell Hs.out.1 10 rfl
 have g9:w1.cell? ⟨G,i * 17+2+9,none⟩=some (.int .i64 s.R.page):=by exact X.out.cell Hs.out.1 11 rfl
 have g10:w1.cell? ⟨G,i * 17+2+10,none⟩=some (.int .i64 s.R.hpage):=by exact X.out.cell Hs.out.1 12 rfl
 have g11:w1.cell? ⟨G,i * 17+2+11,none⟩=some (.int .i64 s.R.hleft):=by exact X.out.cell Hs.out.1 13 rfl
 have g12:w1.cell? ⟨G,i * 17+2+12,none⟩=some (.string s.R.hkey):=by exact X.out.cell Hs.out.1 14 rfl
 have g13:w1.cell? ⟨G,i * 17+2+13,none⟩=some (.int .i64 s.R.nslot):=by exact X.out.cell Hs.out.1 15 rfl
 have g14:w1.cell? ⟨G,i * 17+2+14,none⟩=some (.int .i64 s.R.ngen):=by exact X.out.cell Hs.out.1 16 rfl
 clear hvr hve
 go_wp2_with (go_at_call 85;refine (clone_ok s.R A c B d _ HO.out hz.1 hz.2).mono ?_;rintro e w5 ⟨A5,c5,B5,d5,rfl,hown,hf5⟩;have O5:=hid_ (hown.base F1.out.size);have F5:=hid_ (F1.out.then_none hf5);have Z5:=hid_ (Z1.out.fr hf5 id);clear hown hf5;have z0:w5.cell? ⟨w.heap.size+1,0,none⟩=some (.int .i64 0):=Z5.out.cell' rfl;have y0:=Z5.out.frozen 0;have z1:w5.cell? ⟨w.heap.size+1,1,none⟩=some (.string nilS):=Z5.out.cell' rfl;have y1:=Z5.out.frozen 1;have z2:w5.cell? ⟨w.heap.size+1,2,none⟩=some (.string nilS):=Z5.out.cell' rfl;have y2:=Z5.out.frozen 2;have z3:w5.cell? ⟨w.heap.size+1,3,none⟩=some (.bool false):=Z5.out.cell' rfl;have y3:=Z5.out.frozen 3;have z4:w5.cell? ⟨w.heap.size+1,4,none⟩=some (.int .i64 0):=Z5.out.cell' rfl;have y4:=Z5.out.frozen 4;have z5:w5.cell? ⟨w.heap.size+1,5,none⟩=some (.slice none 0 0):=Z5.out.cell' rfl;have y5:=Z5.out.frozen 5;have z6:w5.cell? ⟨w.heap.size+1,6,none⟩=some (.slice none 0 0):=Z5.out.cell' rfl;have y6:=Z5.out.frozen 6;have z7:w5.cell? ⟨w.heap.size+1,7,none⟩=some (.string nilS):=Z5.out.cell' rfl;have y7:=Z5.out.frozen 7;have z8:w5.cell? ⟨w.heap.size+1,8,none⟩=some (.string nilS):=Z5.out.cell' rfl;have y8:=Z5.out.frozen 8;have z9:w5.cell? ⟨w.heap.size+1,9,none⟩=some (.int .i64 0):=Z5.out.cell' rfl;have y9:=Z5.out.frozen 9;have z10:w5.cell? ⟨w.heap.size+1,10,none⟩=some (.int .i64 0):=Z5.out.cell' rfl;have y10:=Z5.out.frozen 10;have z11:w5.cell? ⟨w.heap.size+1,11,none⟩=some (.int .i64 0):=Z5.out.cell' rfl;have y11:=Z5.out.frozen 11;have z12:w5.cell? ⟨w.heap.size+1,12,none⟩=some (.string nilS):=Z5.out.cell' rfl;have y12:=Z5.out.frozen 12;have z13:w5.cell? ⟨w.heap.size+1,13,none⟩=some (.int .i64 0):=Z5.out.cell' rfl;have y13:=Z5.out.frozen 13;have z14:w5.cell? ⟨w.heap.size+1,14,none⟩=some (.int .i64 0):=Z5.out.cell' rfl;have y14:=Z5.out.frozen 14)
 clear z0 y0 z1 y1 z2 y2 z3 y3 z4 y4 z5 y5 z6 y6 z7 y7 z8 y8 z9 y9 z10 y10 z11 y11 z12 y12 z13 y13 z14 y14
 obtain ⟨qb,qf⟩:=box15 Z5.out (.int .i64 s.R.kind) (.string s.R.low) (.string s.R.high) (.bool s.R.unb) (.int .i64 s.R.right) (.slice A5 s.R.rows.length c5) (.slice B5 s.R.ents.length d5) (.string s.R.key) (.string s.R.val) (.int .i64 s.R.page) (.int .i64 s.R.hpage) (.int .i64 s.R.hleft) (.string s.R.hkey) (.int .i64 s.R.nslot) (.int .i64 s.R.ngen)
 have q0:=qb.cell' (i:=0) rfl
 have q1:=qb.cell' (i:=1) rfl
 have q2:=qb.cell' (i:=2) rfl
 have q3:=qb.cell' (i:=3) rfl
 have q4:=qb.cell' (i:=4) rfl
 have q5:=qb.cell' (i:=5) rfl
 have q6:=qb.cell' (i:=6) rfl
 have q7:=qb.cell' (i:=7) rfl
 have q8:=qb.cell' (i:=8) rfl
 have q9:=qb.cell' (i:=9) rfl
 have q10:=qb.cell' (i:=10) rfl
 have q11:=qb.cell' (i:=11) rfl
 have q12:=qb.cell' (i:=12) rfl
 have q13:=qb.cell' (i:=13) rfl
 have q14:=qb.cell' (i:=14) rfl
 refine bodyPost_ret (v:=.tuple #[recV s.R (.slice A5 s.R.rows.length c5) (.slice B5 s.R.ents.length d5),.nilIface]) ?_ rfl ⟨_,_,_,_,rfl,O5.out.only qf Z5.out (by decide) (by decide),F5.out.then_only qf (.inr (by omega))⟩
 simp [results,Tryz.results59,go_sem,q0,q1,q2,q3,q4,q5,q6,q7,q8,q9,q10,q11,q12,q13,q14]
end
open Go.RowKit Go.Extern.Stop Go.Stop Go.Extern

theorem run_equalIn_iface_int {P:Program} (w:World) (d:Nat) {ti tn:TypeId} {ms:Array (String × TypeId)} {i:TypeInfo} {k:IntKind} (a b:Int)
    (hi:P.underlying ti=some (.interface ms)) (hn:P.underlying tn=some (.int k)) (hinfo:P.info? tn=some i) (hcomp:i.comparable=true) :
    (Op.equalIn (d+2) ti (.iface tn (.int k a)) (.iface tn (.int k b))).run P w=.ok (a==b) w:=by
  simp [Op.equalIn,run_underlying hi,run_underlying hn,typeInfo,hinfo,hcomp]
theorem run_eql_iface_int {P:Program} (w:World) {ti tn:TypeId} {ms:Array (String × TypeId)} {i:TypeInfo} {k:IntKind} (a b:Int)
    (hi:P.underlying ti=some (.interface ms)) (hn:P.underlying tn=some (.int k)) (hinfo:P.info? tn=some i) (hcomp:i.comparable=true) :
    (binOp .eql ti (.iface tn (.int k a)) (.iface tn (.int k b))).run P w=.ok (.bool (a==b)) w:=by
  simp only [binOp]
  simp [Op.equal,Op.maxDepth,run_equalIn_iface_int w 9998 a b hi hn hinfo hcomp]

theorem isTypeOf (v:Value) (w:World):(Extern.ReflectliteType.typeOf #[.iface 73 v]).run Tryz.prog w=.ok (.iface 186 (.agg #[.pointer (some ⟨0,73,none⟩)])) w:=by kernel_rfl
def cmpEntry : Array Value → Sem Value := Extern.ReflectliteType.method fun t => do Extern.Rtype.noPackHeld "Comparable" t; pure (.bool (← typeInfo t).comparable)
theorem isComparable (w:World):(cmpEntry #[.agg #[.pointer (some ⟨0,73,none⟩)]]).run Tryz.prog w=.ok (.bool true) w:=by kernel_rfl
theorem isMethodComparable (v : Value) (w : World) : (Go.method 361 186 v "Comparable").run Tryz.prog w = .ok (167, v) w := by kernel_rfl
theorem isComp:(Tryz.prog.info? 73).map (·.comparable)=some true:=by kernel_rfl
theorem noIsE (v:Value) (xT:TypeId) (w:World):(Instr.typeAssert (.iface 73 v) xT 188 true).run Tryz.prog w=.ok (.tuple #[.nilIface,.bool false]) w:=run_typeAssert_lacksB Tryz.underlying188 (by kernel_rfl) (by kernel_rfl) v xT w
theorem noUnwrapE (v:Value) (xT:TypeId) (w:World):(Instr.typeAssert (.iface 73 v) xT 190 true).run Tryz.prog w=.ok (.tuple #[.nilIface,.bool false]) w:=run_typeAssert_lacksB Tryz.underlying190 (by kernel_rfl) (by kernel_rfl) v xT w
theorem noUnwrapsE (v:Value) (xT:TypeId) (w:World):(Instr.typeAssert (.iface 73 v) xT 192 true).run Tryz.prog w=.ok (.tuple #[.nilIface,.bool false]) w:=run_typeAssert_lacksB Tryz.underlying192 (by kernel_rfl) (by kernel_rfl) v xT w

theorem isF (k c:Int) (w:World):Calls Tryz.prog 37 #[errV k,.int .i64 c] w fun e w'=>e=.returned (.bool (k==c))∧w=w':=by
  obtain ⟨i,hi,hcmp⟩:=Option.map_eq_some_iff.1 isComp
  have h8:=@run_callFunc_extern Tryz.prog 91 _ Extern.ReflectliteType.typeOf Tryz.func91 (by kernel_rfl) (by kernel_rfl) (by kernel_rfl) (by kernel_rfl)
  have h32:=@run_callFunc_extern Tryz.prog 167 _ cmpEntry Tryz.func167 (by kernel_rfl) (by kernel_rfl) (by kernel_rfl) (by kernel_rfl)
  have tT:=isTypeOf
  have cT:=isComparable
  have mR:=isMethodComparable
  have nE:=noIsE
  have uE:=noUnwrapE
  have vE:=noUnwrapsE
  have heq:=fun w=>run_eql_iface_int (P:=Tryz.prog) w k c Tryz.underlying45 Tryz.underlying73 hi hcmp
  have Hi:=hid_ (And.intro hi hcmp)
  clear hi hcmp
  by_cases hk:k=c
  · subst hk
    have hb:(k==k)=true:=by simp
    rw [hb]
    simp only [hb] at heq
    clear hb
    go_enter Tryz.func37,Tryz.ntmps37
    go_wp2
    refine wp_loop_rounds 1 ?_
    rw [rounds_succ]
    go_wp2
    go_ret
    exact ⟨rfl,rfl⟩
  · have hb:(k==c)=false:=by simpa using hk
    rw [hb]
    simp only [hb] at heq
    clear hb hk
    go_enter Tryz.func37,Tryz.ntmps37
    go_wp2
    refine wp_loop_rounds 1 ?_
    rw [rounds_succ]
    go_wp2
    go_ret
    exact ⟨rfl,rfl⟩
open Go.RowKit

theorem AllocPost.first {w w':World} {a G:Nat} {last:Int} {ss:List Sl} {R:Rc} {e:Ending} (h:AllocPost w a G last ss R e w') {i:Nat} {s:Sl} (hs:ss[i]?=some s) (hu:s.used=false) (hg:s.gen≠last) (hno:∀ j t,j < i→ss[j]?=some t→t.used=true∨t.gen=last) :
    ∃ vr ve,e=.returned (.tuple #[.agg #[.int .i64 ((i:Int)+1),.int .i64 (s.gen+1)],.nilIface])∧Ar w' a G last (ss.set i ⟨s.gen+1,true,R,vr,ve⟩)∧RecOwn w' w.heap.size R vr ve∧Fr (only G) w w':=by
  rcases h with ⟨k,t,vr,ve,ht,⟨h1,h2⟩,h3,he,hA,hO,hF⟩ | ⟨h1,_⟩
  · obtain rfl:k=i:=by
      rcases Nat.lt_trichotomy k i with hl | hl | hl
      · rcases hno k t hl ht with h | h
        · rw [h1] at h;cases h
        · exact absurd h h2
      · exact hl
      · rcases h3 i s hl hs with h | h
        · rw [hu] at h;cases h
        · exact absurd h hg
    obtain rfl:=Option.some.inj (hs.symm.trans ht)
    exact ⟨vr,ve,he,hA,hO,hF⟩
  · rcases h1 i s hs with h | h
    · rw [hu] at h;cases h
    · exact absurd h hg
open Go.RowKit

abbrev Pg:=Bool × Int × Int

theorem eql_ref (s g a b:Int) (w:World):(binOp .eql 36 (.agg #[.int .i64 s,.int .i64 g]) (.agg #[.int .i64 a,.int .i64 b])).run Tryz.prog w=.ok (.bool (s==a && g==b)) w:=by
  have h:(Op.equal 36 (.agg #[.int .i64 s,.int .i64 g]) (.agg #[.int .i64 a,.int .i64 b])).run Tryz.prog w=.ok (s==a && g==b) w:=by
    simp only [Op.equal,Op.maxDepth]
    by_cases h1:s=a <;> by_cases h2:g=b <;> go_simp <;> simp [h1,h2]
  simp [binOp,h]
theorem neq_ref (s g a b:Int) (w:World):(binOp .neq 36 (.agg #[.int .i64 s,.int .i64 g]) (.agg #[.int .i64 a,.int .i64 b])).run Tryz.prog w=.ok (.bool (!(s==a && g==b))) w:=by
  have h:(Op.equal 36 (.agg #[.int .i64 s,.int .i64 g]) (.agg #[.int .i64 a,.int .i64 b])).run Tryz.prog w=.ok (s==a && g==b) w:=by
    simp only [Op.equal,Op.maxDepth]
    by_cases h1:s=a <;> by_cases h2:g=b <;> go_simp <;> simp [h1,h2]
  simp [binOp,h]

structure TblAt (w:World) (T G cap:Nat) (cur:Array Value) (ps:List Pg):Prop where
  hT:Blk w T 168 #[.slice (some ⟨G,0,none⟩) ps.length cap]
  hG:Blk w G 155 cur
  hn:ps.length≤256
  hc:ps.length≤cap
  hm:cap≤maxLen
  hs:ps.length * 3≤cur.size
  hp:∀ i p,ps[i]?=some p→cur[i * 3]?=some (.bool p.1)∧cur[i * 3+1]?=some (.int .i64 p.2.1)∧cur[i * 3+1+1]?=some (.int .i64 p.2.2)
def Tbl (w:World) (T G:Nat) (ps:List Pg):Prop:=∃ cap cur,TblAt w T G cap cur ps

theorem mapAt_arg (T G:Nat) (ps:List Pg) (n:Int) (w:World) (h:Tbl w T G ps) (hn:n < 0∨(ps.length:Int)≤n) :
    Calls Tryz.prog 84 #[.pointer (some ⟨T,0,none⟩),.int .i64 n] w fun e w'=>e=.returned (.tuple #[.pointer none,errV 1])∧w=w':=by
  obtain ⟨cap,cur,hT,hG,h1,h2,h3,h4,h5⟩:=h
  have c0:=hT.cell' (i:=0) rfl
  clear hT hG h5
  by_cases hn0:n < 0
  · clear hn
    go_enter Tryz.func84,Tryz.ntmps84
    go_wp2
    go_ret2
    exact ⟨rfl,rfl⟩
  · have hle:(ps.length:Int)≤n:=by omega
    clear hn
    go_enter Tryz.func84,Tryz.ntmps84
    go_wp2
    go_ret2
    exact ⟨rfl,rfl⟩

theorem mapAt_ok (T G:Nat) (ps:List Pg) (i:Nat) (s g:Int) (w:World) (h:Tbl w T G ps) (hi:ps[i]?=some (true,s,g)) :
    Calls Tryz.prog 84 #[.pointer (some ⟨T,0,none⟩),.int .i64 i] w fun e w'=>e=.returned (.tuple #[.pointer (some ⟨G,i * 3,none⟩),.nilIface])∧w=w':=by
  obtain ⟨cap,cur,hT,hG,h1,h2,h3,h4,h5⟩:=h
  obtain ⟨d0,d1,d2⟩:=h5 i _ hi
  have c0:=hT.cell' (i:=0) rfl
  have c1:=hG.cell' d0
  have c2:=hG.cell' d1
  have c3:=hG.cell' d2
  have hlt:i < ps.length:=(List.getElem?_eq_some_iff.1 hi).1
  clear hT hG h5 d0 d1 d2 hi
  go_enter Tryz.func84,Tryz.ntmps84
  go_wp2
  go_ret2
  exact ⟨rfl,rfl⟩

theorem mapAt_none (T G:Nat) (ps:List Pg) (i:Nat) (s g:Int) (w:World) (h:Tbl w T G ps) (hi:ps[i]?=some (false,s,g)) :
    Calls Tryz.prog 84 #[.pointer (some ⟨T,0,none⟩),.int .i64 i] w fun e w'=>e=.returned (.tuple #[.pointer none,errV 6])∧w=w':=by
  obtain ⟨cap,cur,hT,hG,h1,h2,h3,h4,h5⟩:=h
  obtain ⟨d0,d1,d2⟩:=h5 i _ hi
  have c0:=hT.cell' (i:=0) rfl
  have c1:=hG.cell' d0
  have c2:=hG.cell' d1
  have c3:=hG.cell' d2
  have hlt:i < ps.length:=(List.getElem?_eq_some_iff.1 hi).1
  clear hT hG h5 d0 d1 d2 hi
  go_enter Tryz.func84,Tryz.ntmps84
  go_wp2
  all_goals
    go_ret2
    exact ⟨rfl,rfl⟩

def setPg (w:World) (G i:Nat) (p:Pg):World:=((w.setCell ⟨G,i * 3,none⟩ (.bool p.1)).setCell ⟨G,i * 3+1,none⟩ (.int .i64 p.2.1)).setCell ⟨G,i * 3+1+1,none⟩ (.int .i64 p.2.2)

theorem Tbl.ne_ {w:World} {T G:Nat} {ps:List Pg} (h:Tbl w T G ps):T≠G:=by
  obtain ⟨cap,cur,hT,hG,_⟩:=h
  exact Blk.ne_ hT hG (by decide)

theorem Tbl.set_ {w:World} {T G:Nat} {ps:List Pg} (h:Tbl w T G ps) {i:Nat} (hi:i < ps.length) (p:Pg):Tbl (setPg w G i p) T G (ps.set i p):=by
  have hne:=h.ne_
  obtain ⟨cap,cur,hT,hG,h1,h2,h3,h4,h5⟩:=h
  refine ⟨cap,((cur.setIfInBounds (i * 3) (.bool p.1)).setIfInBounds (i * 3+1) (.int .i64 p.2.1)).setIfInBounds (i * 3+1+1) (.int .i64 p.2.2),?_,?_,by simpa using h1,by simpa using h2,h3,by simpa using h4,?_⟩
  · rw [List.length_set]
    exact ((hT.far hne _).far hne _).far hne _
  · exact ((hG.set_ _ _).set_ _ _).set_ _ _
  · intro j q hj
    by_cases hji:j=i
    · subst hji
      rw [List.getElem?_set_self hi] at hj
      obtain rfl:p=q:=by simpa using hj
      have e0:j * 3+1+1 < cur.size:=by omega
      refine ⟨?_,?_,?_⟩ <;> grind
    · rw [List.getElem?_set_ne (fun e=>hji e.symm)] at hj
      obtain ⟨d0,d1,d2⟩:=h5 j q hj
      refine ⟨?_,?_,?_⟩ <;> grind

theorem Tbl.set_head {w:World} {T G:Nat} {ps:List Pg} (h:Tbl w T G ps) {i:Nat} {b:Bool} {s g:Int} (hi:ps[i]?=some (b,s,g)) (c d:Int) :
    Tbl ((w.setCell ⟨G,i * 3+1,none⟩ (.int .i64 c)).setCell ⟨G,i * 3+1+1,none⟩ (.int .i64 d)) T G (ps.set i (b,c,d)):=by
  have hne:=h.ne_
  have hlt:i < ps.length:=(List.getElem?_eq_some_iff.1 hi).1
  obtain ⟨cap,cur,hT,hG,h1,h2,h3,h4,h5⟩:=h
  refine ⟨cap,(cur.setIfInBounds (i * 3+1) (.int .i64 c)).setIfInBounds (i * 3+1+1) (.int .i64 d),?_,?_,by simpa using h1,by simpa using h2,h3,by simpa using h4,?_⟩
  · rw [List.length_set]
    exact (hT.far hne _).far hne _
  · exact (hG.set_ _ _).set_ _ _
  · intro j q hj
    by_cases hji:j=i
    · subst hji
      rw [List.getElem?_set_self hlt] at hj
      obtain rfl:(b,c,d)=q:=by simpa using hj
      obtain ⟨d0,d1,d2⟩:=h5 j _ hi
      have e0:j * 3+1+1 < cur.size:=by omega
      refine ⟨?_,?_,?_⟩ <;> grind
    · rw [List.getElem?_set_ne (fun e=>hji e.symm)] at hj
      obtain ⟨d0,d1,d2⟩:=h5 j q hj
      refine ⟨?_,?_,?_⟩ <;> grind

theorem Tbl.fr {w w':World} {S:Nat→Prop} {T G:Nat} {ps:List Pg} (h:Tbl w T G ps) (hf:Fr S w w') (hT:¬ S T) (hG:¬ S G):Tbl w' T G ps:=by
  obtain ⟨cap,cur,a,b,h1,h2,h3,h4,h5⟩:=h
  exact ⟨cap,cur,a.fr hf hT,b.fr hf hG,h1,h2,h3,h4,h5⟩

theorem setPg_fr {S:Nat→Prop} {a w:World} (h:Fr S a w) {G:Nat} (hG:S G∨a.heap.size≤G) (i:Nat) (p:Pg):Fr S a (setPg w G i p):=((h.setCell hG _).setCell hG _).setCell hG _

theorem setPg_only (w:World) (G i:Nat) (p:Pg):Fr (only G) w (setPg w G i p):=setPg_fr (Fr.refl (only G) w) (.inl (Eq.refl G)) i p

theorem head_err (o:Option Addr) (n:Int) (k:Int) (w:World)
    (hat:∀ w1:World,Fr none_ w w1→Calls Tryz.prog 84 #[.pointer o,.int .i64 n] w1 fun e w'=>e=.returned (.tuple #[.pointer none,errV k])∧w1=w') :
    Calls Tryz.prog 51 #[.pointer o,.int .i64 n] w fun e w'=>e=.returned (.tuple #[.agg #[.int .i64 0,.int .i64 0],errV k])∧Fr none_ w w':=by
  have H:=hid_ hat
  clear hat
  go_enter Tryz.func51,Tryz.ntmps51
  go_wp2_with (go_at_call 84;refine (H.out _ ((Fr.refl _ _).alloc _)).mono ?_;rintro e w' ⟨rfl,rfl⟩)
  exact bodyPost_ret (v:=.tuple #[.agg #[.int .i64 0,.int .i64 0],errV k]) (by simp [results,Tryz.results51,go_sem]) rfl ⟨rfl,(Fr.refl _ _).alloc _⟩

theorem head_ok (T G:Nat) (ps:List Pg) (i:Nat) (s g:Int) (w:World) (h:Tbl w T G ps) (hi:ps[i]?=some (true,s,g)) :
    Calls Tryz.prog 51 #[.pointer (some ⟨T,0,none⟩),.int .i64 i] w fun e w'=>e=.returned (.tuple #[.agg #[.int .i64 s,.int .i64 g],.nilIface])∧Fr none_ w w':=by
  have h':=h
  obtain ⟨cap,cur,hT,hG,h1,h2,h3,h4,h5⟩:=h
  obtain ⟨d0,d1,d2⟩:=h5 i _ hi
  have c2:=hG.cell' d1
  have c3:=hG.cell' d2
  have hlt:=hG.lt
  have H:=hid_ h'
  have Hi:=hid_ hi
  clear hT hG h5 d0 d1 d2 h' hi
  go_enter Tryz.func51,Tryz.ntmps51
  go_wp2_with (go_at_call 84;refine (mapAt_ok T G ps i s g _ (H.out.fr ((Fr.refl none_ _).alloc _) id id) Hi.out).mono ?_;rintro e w' ⟨rfl,rfl⟩)
  exact bodyPost_ret (v:=.tuple #[.agg #[.int .i64 s,.int .i64 g],.nilIface]) (by simp [results,Tryz.results51,go_sem]) rfl ⟨rfl,(Fr.refl _ _).alloc _⟩

theorem swap_err (o:Option Addr) (n:Int) (k a b c d:Int) (w:World)
    (hat:∀ w1:World,Fr none_ w w1→Calls Tryz.prog 84 #[.pointer o,.int .i64 n] w1 fun e w'=>e=.returned (.tuple #[.pointer none,errV k])∧w1=w') :
    Calls Tryz.prog 54 #[.pointer o,.int .i64 n,.agg #[.int .i64 a,.int .i64 b],.agg #[.int .i64 c,.int .i64 d]] w fun e w'=>e=.returned (.tuple #[.bool false,errV k])∧Fr none_ w w':=by
  have H:=hid_ hat
  clear hat
  go_enter Tryz.func54,Tryz.ntmps54
  go_wp2_with (go_at_call 84;refine (H.out _ (((Fr.refl _ _).alloc _).alloc _)).mono ?_;rintro e w' ⟨rfl,rfl⟩)
  go_ret2
  exact ⟨rfl,((Fr.refl _ _).alloc _).alloc _⟩

theorem swap_ok (T G:Nat) (ps:List Pg) (i:Nat) (s g a b c d:Int) (w:World) (h:Tbl w T G ps) (hi:ps[i]?=some (true,s,g)) :
    Calls Tryz.prog 54 #[.pointer (some ⟨T,0,none⟩),.int .i64 i,.agg #[.int .i64 a,.int .i64 b],.agg #[.int .i64 c,.int .i64 d]] w fun e w' =>
      e=.returned (.tuple #[.bool (s==a && g==b),.nilIface])∧Tbl w' T G (if s=a∧g=b then ps.set i (true,c,d) else ps)∧Fr (only G) w w':=by
  have h':=h
  obtain ⟨cap,cur,hT,hG,h1,h2,h3,h4,h5⟩:=h
  obtain ⟨d0,d1,d2⟩:=h5 i _ hi
  have c2:=hG.cell' d1
  have c3:=hG.cell' d2
  have f:=hG.frozen
  have f1:=f (i * 3+1)
  have f2:=f (i * 3+1+1)
  have hlt:=hG.lt
  have H:=hid_ h'
  have Hi:=hid_ hi
  clear hT hG h5 d0 d1 d2 h' hi f
  by_cases hc:s=a∧g=b
  · obtain ⟨rfl,rfl⟩:=hc
    go_enter Tryz.func54,Tryz.ntmps54
    go_wp2_with (go_at_call 84;refine (mapAt_ok T G ps i s g _ (H.out.fr (((Fr.refl none_ _).alloc _).alloc _) id id) Hi.out).mono ?_;rintro e w' ⟨rfl,rfl⟩)
    go_region
    all_goals go_wp2
    go_ret2
    exact ⟨rfl,(H.out.set_head Hi.out c d).fr ((((Fr.refl none_ _).alloc _).alloc _).drew) id id,(((((Fr.refl (only G) w).setCell (p:=⟨G,i * 3+1,none⟩) (.inl (Eq.refl G)) _).setCell (p:=⟨G,i * 3+1+1,none⟩) (.inl (Eq.refl G)) _).alloc _).alloc _).drew⟩
  · have hq:∀ w,(binOp .neq 36 (.agg #[.int .i64 s,.int .i64 g]) (.agg #[.int .i64 a,.int .i64 b])).run Tryz.prog w=.ok (.bool true) w:=fun w=>by
      rw [neq_ref]
      have:(s==a && g==b)=false:=by simpa using hc
      rw [this];rfl
    have Hc:=hid_ hc
    clear hc
    go_enter Tryz.func54,Tryz.ntmps54
    go_wp2_with (go_at_call 84;refine (mapAt_ok T G ps i s g _ (H.out.fr (((Fr.refl none_ _).alloc _).alloc _) id id) Hi.out).mono ?_;rintro e w' ⟨rfl,rfl⟩)
    go_region
    all_goals go_wp2
    go_ret2
    refine ⟨?_,?_,?_⟩
    · have:(s==a && g==b)=false:=by simpa using Hc.out
      rw [this];rfl
    · exact H.out.fr ((((Fr.refl none_ _).alloc _).alloc _).drew) id id
    · exact (((Fr.refl _ _).alloc _).alloc _).drew

open Go.RowKit

theorem page_info:(Tryz.prog.info? 155).map (fun i=>(i.zero,i.size,i.bytes))=some (some (.agg #[.bool false,.int .i64 0,.int .i64 0]),3,24):=by kernel_rfl

theorem run_make_rowN {P:Program} (t e:TypeId) (i:TypeInfo) (z:Value) (ht:P.underlying t=some (.slice e)) (hi:P.info? e=some i) (hz:i.zero=some z)
    (kl kc:IntKind) (n c:Nat) (hnc:n≤c) (hbytes:i.bytes * c≤281474976710656) (h63:c≤9223372036854775807) (w:World) :
    (Instr.makeSlice t (.int kl (n:Int)) (.int kc (c:Int))).run P w=.ok (.slice (some ⟨w.heap.size,0,none⟩) n c) (w.alloc (.cells (madeCells z.cells (c * i.size)) e)):=by
  have hb:(i.bytes:Int) * (c:Int)≤281474976710656:=by
    have h:((i.bytes * c:Nat):Int)≤281474976710656:=by omega
    rwa [Int.natCast_mul] at h
  have hr:=run_make (P:=P) w t e i z ht hi hz kl kc n c (by omega) (by omega) hb (by omega)
  simp only [Int.toNat_natCast] at hr
  exact hr

theorem madeCells3 (a b c:Value) (n i:Nat) (hi:i < n):(madeCells #[a,b,c] (n * 3))[i * 3]?=some a∧(madeCells #[a,b,c] (n * 3))[i * 3+1]?=some b∧(madeCells #[a,b,c] (n * 3))[i * 3+1+1]?=some c:=by
  have h0:i * 3 < n * 3:=by omega
  have h1:i * 3+1 < n * 3:=by omega
  have h2:i * 3+1+1 < n * 3:=by omega
  refine ⟨?_,?_,?_⟩
  · simp [madeCells,h0]
  · have:(i * 3+1) % 3=1:=by omega
    simp [madeCells,h1,this]
  · have:(i * 3+1+1) % 3=2:=by omega
    simp [madeCells,h2,this]

def NewPost (n:Nat) (w:World) (e:Ending) (w':World):Prop:=
  e=.returned (.pointer (some ⟨w.heap.size+1,0,none⟩))∧Tbl w' (w.heap.size+1) w.heap.size (List.replicate n (false,0,0))∧Fr none_ w w'∧w'.heap.size=w.heap.size+2

theorem mapNew_ok (n:Nat) (w:World) (h1:1≤n) (h2:n≤256):Calls Tryz.prog 71 #[.int .i64 n] w (NewPost n w):=by
  have hfin:NewPost n w (.returned (.pointer (some ⟨w.heap.size+1,0,none⟩))) ((w.alloc (.cells (madeCells #[.bool false,.int .i64 0,.int .i64 0] (n * 3)) 155)).alloc (.cells #[.slice (some ⟨w.heap.size,0,none⟩) n n] 168)):=by
    refine ⟨rfl,⟨n,madeCells #[.bool false,.int .i64 0,.int .i64 0] (n * 3),?_,?_,by simpa using h2,by simp,by unfold maxLen;omega,by simp [size_madeCells],?_⟩,((Fr.refl _ _).alloc _).alloc _,by simp⟩
    · have:=Blk.new (w.alloc (.cells (madeCells #[.bool false,.int .i64 0,.int .i64 0] (n * 3)) 155)) 168 #[.slice (some ⟨w.heap.size,0,none⟩) n n]
      simpa using this
    · exact (Blk.new w _ _).alloc _
    · intro i p hi
      obtain ⟨hlt,rfl⟩:i < n∧p=(false,0,0):=by
        rw [List.getElem?_replicate] at hi
        split at hi
        · exact ⟨by assumption,by simpa using hi.symm⟩
        · cases hi
      exact madeCells3 _ _ _ n i hlt
  obtain ⟨i0,hi0,hz0,hs0,hb0⟩:=info_parts page_info
  have hmk:=fun W=>run_make_rowN (P:=Tryz.prog) 166 155 i0 _ Tryz.underlying166 hi0 hz0 .i64 .i64 n n (Nat.le_refl _) (by rw [hb0];omega) (by omega) W
  rw [hs0] at hmk
  simp only [Value.cells] at hmk
  have H:=hid_ hfin
  clear hfin hi0 hz0 hs0 hb0
  go_enter Tryz.func71,Tryz.ntmps71
  go_wp2
  go_ret
  exact H.out

theorem take_full (T G:Nat) (ps:List Pg) (w:World) (h:Tbl w T G ps) (hu:∀ (j:Nat) (p:Pg),ps[j]?=some p→p.1=true) :
    Calls Tryz.prog 58 #[.pointer (some ⟨T,0,none⟩)] w fun e w'=>e=.returned (.tuple #[.int .i64 0,errV 3])∧w=w':=by
  obtain ⟨cap,cur,hT,hG,h1,h2,h3,h4,h5⟩:=h
  have c0:w.cell? ⟨T,0,none⟩=some (.slice (some ⟨G,0,none⟩) ps.length cap):=hT.cell' (i:=0) rfl
  have hc:∀ k,k < ps.length→w.cell? ⟨G,k * 3,none⟩=some (.bool true):=fun k hk=>by
    have hi:ps[k]?=some ps[k]:=List.getElem?_eq_getElem hk
    have:=hG.cell' (h5 k _ hi).1
    rwa [hu k _ hi] at this
  have Hc:=hid_ hc
  clear hT hG h5 hu hc
  go_enter Tryz.func58,Tryz.ntmps58
  go_wp2
  go_loop [13] (fun i=>∃ k:Nat,k≤ps.length∧i=.int .i64 k) (fun i=>ps.length - (intOf i).toNat)
  case atStart=>exact ⟨0,Nat.zero_le _,rfl⟩
  case round =>
    obtain ⟨k,hk,rfl⟩:=hrel
    by_cases hlt:k < ps.length
    · have hcx:=Hc.out k hlt
      go_wp2
      go_round
      case rel=>exact ⟨k+1,by omega,by go_num⟩
      case measure=>simp [intOf];omega
    · go_wp2
      go_ret2
      exact ⟨rfl,rfl⟩

theorem mtake_ok (T G:Nat) (ps:List Pg) (n:Nat) (s g:Int) (w:World) (h:Tbl w T G ps) (hn:ps[n]?=some (false,s,g)) (hu:∀ (j:Nat) (p:Pg),j < n→ps[j]?=some p→p.1=true) :
    Calls Tryz.prog 58 #[.pointer (some ⟨T,0,none⟩)] w fun e w'=>e=.returned (.tuple #[.int .i64 n,.nilIface])∧w'=setPg w G n (true,0,0):=by
  obtain ⟨cap,cur,hT,hG,h1,h2,h3,h4,h5⟩:=h
  have hnl:n < ps.length:=(List.getElem?_eq_some_iff.1 hn).1
  have c0:w.cell? ⟨T,0,none⟩=some (.slice (some ⟨G,0,none⟩) ps.length cap):=hT.cell' (i:=0) rfl
  have hc:∀ k,k < n→w.cell? ⟨G,k * 3,none⟩=some (.bool true):=fun k hk=>by
    have hi:ps[k]?=some ps[k]:=List.getElem?_eq_getElem (by omega)
    have:=hG.cell' (h5 k _ hi).1
    rwa [hu k _ hk hi] at this
  obtain ⟨d0,d1,d2⟩:=h5 n _ hn
  have e0:=hG.cell' d0
  have e1:=hG.cell' d1
  have e2:=hG.cell' d2
  have f:=hG.frozen
  have f0:=f (n * 3)
  have f1:=f (n * 3+1)
  have f2:=f (n * 3+1+1)
  have Hc:=hid_ hc
  clear hT hG h5 hu hc hn f d0 d1 d2
  go_enter Tryz.func58,Tryz.ntmps58
  go_wp2
  go_loop [13] (fun i=>∃ k:Nat,k≤n∧i=.int .i64 k) (fun i=>ps.length - (intOf i).toNat)
  case atStart=>exact ⟨0,Nat.zero_le _,rfl⟩
  case round =>
    obtain ⟨k,hk,rfl⟩:=hrel
    by_cases hlt:k < n
    · have hcx:=Hc.out k hlt
      go_wp2
      go_round
      case rel=>exact ⟨k+1,by omega,by go_num⟩
      case measure=>simp [intOf];omega
    · obtain rfl:k=n:=by omega
      go_wp2
      go_ret2
      exact ⟨rfl,rfl⟩
open Go.RowKit

theorem int_info:(Tryz.prog.info? 3).map (fun i=>(i.zero,i.size,i.bytes))=some (some (.int .i64 0),1,8):=by kernel_rfl

open Go.RowKit
open Go.Maps (Keyed int_keyed keyOf_int_mk)

abbrev Ins:=DataW Unit
structure Clk (w:World) (C M:Nat) (now last threads:Int) (n:Nat) (D:Ins):Prop where
  hC:Blk w C 179 #[.int .i64 now,.int .i64 last,.int .i64 threads,.map (some M)]
  hM:w.ownsMap Tryz.prog 3 (plainElem (H:=Unit) Tryz.prog 3) M n D

theorem map_fr {w w':World} {S:Nat→Prop} {M n:Nat} {D:Ins} (h:w.ownsMap Tryz.prog 3 (plainElem (H:=Unit) Tryz.prog 3) M n D) (hf:Fr S w w') (hS:¬ S M):w'.ownsMap Tryz.prog 3 (plainElem (H:=Unit) Tryz.prog 3) M n D:=by
  have hl:=h.lt
  obtain ⟨es,clock,hb,r⟩:=h
  exact ⟨es,clock,(hf.block M hl hS).trans hb,r⟩
theorem Clk.fr {w w':World} {S:Nat→Prop} {C M n:Nat} {now last threads:Int} {D:Ins} (h:Clk w C M now last threads n D) (hf:Fr S w w') (hC:¬ S C) (hM:¬ S M):Clk w' C M now last threads n D:=
  ⟨h.hC.fr hf hC,map_fr h.hM hf hM⟩
def NewClk (threads last:Int) (w:World) (e:Ending) (w':World):Prop:=
  ∃ C M,e=.returned (.pointer (some ⟨C,0,none⟩))∧Clk w' C M 1 last threads 0 (.map [])∧Fr none_ w w'∧w.heap.size≤C∧w.heap.size≤M

set_option maxHeartbeats 1000000 in
theorem clkNew_ok (threads last:Int) (w:World) (h1:1≤threads) (h2:threads≤64) (h3:1≤last) (h4:last≤1099511627776):Calls Tryz.prog 72 #[.int .i64 threads,.int .i64 last] w (NewClk threads last w):=by
  have hmm:=@run_makeMap Tryz.prog
  have d1:decide (threads < 1)=false:=by simp;omega
  have d2:decide (64 < threads)=false:=by simp;omega
  have d3:decide (last < 1)=false:=by simp;omega
  go_enter Tryz.func72,Tryz.ntmps72
  go_wp2_with fail
  go_ret
  refine ⟨w.heap.size+1,w.heap.size,rfl,⟨?_,(World.ownsMap_made w _ _ _).alloc _⟩,((Fr.refl none_ w).alloc _).alloc _,by omega,Nat.le_refl _⟩
  have:=Blk.new (w.alloc (.map #[] 0)) 179 #[.int .i64 1,.int .i64 last,.int .i64 threads,.map (some w.heap.size)]
  simpa using this

open Go

section
variable {P:Program} {md:Region.Mode} {ops:Array Oper} {Q:Exit→Act→World→Prop} {S:World→Prop}
def wpAnyU (P:Program) (md:Region.Mode) (ops:Array Oper) (Q:Exit→Act→World→Prop) (S:World→Prop) (m:Nat):Nat→Array Bool→Act→World→Prop
  | 0,listed,a,w=>Region.ready md ops listed=[]∧Q .normal a w
  | fuel+1,listed,a,w =>
    (Region.ready md ops listed=[]→Q .normal a w) ∧
    ∀ i ∈ Region.ready md ops listed,wpOp P ops Q i (fun a' w'=>(m≤i∨S w')∧wpAnyU P md ops Q S m fuel (listed.setIfInBounds i true) a' w') a w
theorem wpAny_of_U {m:Nat}:∀ (fuel:Nat) (listed:Array Bool) (a:Act) (w:World),wpAnyU P md ops Q S m fuel listed a w→wpAny P md ops Q fuel listed a w
  | 0,_,_,_,h=>h
  | fuel+1,_,_,_,h=>⟨h.1,fun i hi=>wpOp_mono (fun a' w' h'=>wpAny_of_U fuel _ a' w' h'.2) (h.2 i hi)⟩
theorem wpAnyU_first2 {m i f:Nat} {oi:Oper} {v:Value} (hi:ops[i]?=some oi) (hsel:∀ (j:Nat) (o:Oper) cs b,ops[j]?=some o→o.op≠.select cs b)
    (hQ:∀ c a w,Q (.panic c) (a.put oi.dst v) w→Q (.panic c) a w) (hm:∀ j,j < ops.size→m≤j→j≠i→waitsB md ops f j i=true) :
    ∀ (fuel:Nat) (listed:Array Bool) (a:Act) (w:World),Closed md ops listed →
      (∀ j oj,ops[j]?=some oj→j≠i→listed.getD j true=false→(∀ e ∈ oj.after,Region.binds md e=true→e.on≠i)→oi.apart ops oj=true) →
      i ∈ Region.ready md ops listed→YieldsIf P ops S oi v a→S w →
      wpAnyU P md ops Q S m fuel (listed.setIfInBounds i true) (a.put oi.dst v) w→wpAnyU P md ops Q S m (fuel+1) listed a w:=by
  intro fuel
  induction fuel with
  | zero =>
    intro listed a w hc _ hr hy hS H
    refine ⟨fun h=>(by rw [h] at hr;cases hr),fun j hj=>?_⟩
    by_cases hji:j=i
    · subst hji;exact hy.wpOp hi hS ⟨.inr hS,H⟩
    · have:=ready_mono hj hji
      rw [H.1] at this
      cases this
  | succ fuel ih =>
    intro listed a w hc hfree hr hy hS H
    refine ⟨fun h=>(by rw [h] at hr;cases hr),fun j hj=>?_⟩
    by_cases hji:j=i
    · subst hji;exact hy.wpOp hi hS ⟨.inr hS,H⟩
    · have h1:=H.2 j (ready_mono hj hji)
      obtain ⟨hjun,oj,hoj,hall⟩:=mem_ready.1 hj
      have hnot:∀ e ∈ oj.after,Region.binds md e=true→e.on≠i:=fun e he hb heq=>by
        have h1:=hall e he hb
        have h0:=(mem_ready.1 hr).1
        rw [heq] at h1
        rcases Nat.lt_or_ge i listed.size with h' | h'
        · simp [h'] at h0 h1;rw [h0] at h1;cases h1
        · simp [Array.getElem?_eq_none h'] at h1
      have hjm:¬ m≤j:=fun hmj=>ready_waits hc hj (hm j (Array.getElem?_eq_some_iff.1 hoj).1 hmj hji) hr
      have h2:=wpOp_putIf hoj (hfree j oj hoj hji hjun hnot) (fun cs b=>hsel i oi cs b hi) (fun cs b=>hsel j oj cs b hoj) hQ hy h1
      have hfree':∀ k ok,ops[k]?=some ok→k≠i→(listed.setIfInBounds j true).getD k true=false →
          (∀ e ∈ ok.after,Region.binds md e=true→e.on≠i)→oi.apart ops ok=true:=fun k ok hk hki hun hno=>by
        refine hfree k ok hk hki ?_ hno
        by_cases hjk:j=k
        · subst hjk;exact hjun
        · rw [getD_set_ne true hjk] at hun;exact hun
      refine wpOp_mono (fun a' w' h3=>?_) h2
      have hs:S w':=h3.2.1.resolve_left hjm
      refine ⟨.inr hs,ih (listed.setIfInBounds j true) a' w' (hc.set hj) hfree' (ready_mono hr (Ne.symm hji)) h3.1 hs ?_⟩
      rw [Array.setIfInBounds_comm _ _ hji]
      exact h3.2.2
theorem wpAnyU_take2 {m i:Nat} {oi:Oper} {v:Value} {fuel:Nat} {listed:Array Bool} {a:Act} {w:World} (hi:ops[i]?=some oi)
    (hs:Region.noSelect ops=true) (hf:Region.free md ops listed i=true) (hr:(Region.ready md ops listed).contains i=true)
    (hm:((List.range ops.size).all (fun j=>!decide (m≤j) || decide (j=i) || waitsB md ops ops.size j i) && closedB md ops listed)=true)
    (hQ:∀ c a w,Q (.panic c) (a.put oi.dst v) w→Q (.panic c) a w) (hy:YieldsIf P ops S oi v a) (hS:S w)
    (h:wpAnyU P md ops Q S m fuel (listed.setIfInBounds i true) (a.put oi.dst v) w):wpAnyU P md ops Q S m (fuel+1) listed a w:=by
  rw [Bool.and_eq_true] at hm
  exact wpAnyU_first2 hi (Region.noSelect_spec hs) hQ (fun j hj hmj hji=>by have:=List.all_eq_true.1 hm.1 j (List.mem_range.2 hj);simpa [hmj,hji] using this) fuel listed a w (closed_of hm.2) (Region.free_spec hi hf) (by simpa using hr) hy hS h
theorem wpAnyU_all {m:Nat} {rs:List Nat} {fuel:Nat} {listed:Array Bool} {a:Act} {w:World} (hr:Region.ready md ops listed=rs) (hne:rs≠[])
    (h:∀ i ∈ rs,wpOp P ops Q i (fun a' w'=>(m≤i∨S w')∧wpAnyU P md ops Q S m fuel (listed.setIfInBounds i true) a' w') a w):wpAnyU P md ops Q S m (fuel+1) listed a w:=
  ⟨fun h0=>absurd (hr ▸ h0) hne,hr ▸ h⟩
theorem wpAnyU_two {m i j:Nat} {oi oj:Oper} {fuel:Nat} {listed:Array Bool} {a:Act} {w:World} (hi:ops[i]?=some oi) (hj:ops[j]?=some oj) (gi:oi.guard=none) (gj:oj.guard=none) (hr:Region.ready md ops listed=[i,j])
    (h1:Oper.wp P oi a w (fun a' w'=>(m≤i∨S w')∧wpAnyU P md ops Q S m fuel (listed.setIfInBounds i true) a' w') Q)
    (h2:Oper.wp P oj a w (fun a' w'=>(m≤j∨S w')∧wpAnyU P md ops Q S m fuel (listed.setIfInBounds j true) a' w') Q):wpAnyU P md ops Q S m (fuel+1) listed a w:=by
  refine wpAnyU_all hr (by simp) (fun k hk=>?_)
  have hk':k=i∨k=j:=by simpa using hk
  rcases hk' with rfl | rfl
  · unfold wpOp
    have hw:Region.wanted oi (yielded ops a.tmps)=true:=by simp [Region.wanted,gi]
    simp only [hi,hw,if_true]
    exact .inl h1
  · unfold wpOp
    have hw:Region.wanted oj (yielded ops a.tmps)=true:=by simp [Region.wanted,gj]
    simp only [hj,hw,if_true]
    exact .inl h2
theorem wpAnyU_done {m:Nat} {listed:Array Bool} {a:Act} {w:World} (hr:Region.ready md ops listed=[]) (h:Q .normal a w):∀ fuel,wpAnyU P md ops Q S m fuel listed a w
  | 0=>⟨hr,h⟩
  | _+1=>⟨fun _=>h,by rw [hr];simp⟩
theorem wp_region_U {id m:Nat} {a:Act} {w:World} (hm:P.follows .mixedOrders=true)
    (h:wpAnyU P .any ops Q S m ops.size (Array.replicate ops.size false) a w.drew):(Code.region id ops true).wp P Q a w:=
  wp_region_any hm (wpAny_of_U _ _ _ _ h)
end
open Go.RowKit

section
variable {P:Program} {md:Region.Mode} {ops:Array Oper} {Q:Exit→Act→World→Prop} {S:World→Prop}
theorem wpAnyU_oneW {m i:Nat} {oi:Oper} {fuel:Nat} {listed:Array Bool} {a:Act} {w:World} (hi:ops[i]?=some oi) (hw:Region.wanted oi (yielded ops a.tmps)=true) (hr:Region.ready md ops listed=[i])
    (h:Oper.wp P oi a w (fun a' w'=>(m≤i∨S w')∧wpAnyU P md ops Q S m fuel (listed.setIfInBounds i true) a' w') Q):wpAnyU P md ops Q S m (fuel+1) listed a w:=by
  refine wpAnyU_all hr (by simp) (fun j hj=>?_)
  obtain rfl:j=i:=by simpa using hj
  unfold wpOp
  simp only [hi,hw,if_true]
  exact .inl h
end
structure Lm where
  s:Nat
  p:Nat
  t:Int
  r:Int
  c:Int
  n:Int
abbrev lmA (l:Lm):Array Value:=#[.int .i64 (l.s:Int),.int .i64 (l.p:Int),.int .i64 l.t,.int .i64 l.r,.int .i64 l.c,.int .i64 l.n]
structure Lm.Right (l:Lm):Prop where
  s:4≤(l.s:Int)∧(l.s:Int)≤4096
  p:3≤(l.p:Int)∧(l.p:Int)≤256
  t:1≤l.t∧l.t≤64
  r:2≤l.r∧l.r≤64
  c:2≤l.c∧l.c≤64
  n:8≤l.n∧l.n≤1099511627776
structure St where
  a:Nat
  G:Nat
  ss:List Sl
  T:Nat
  H:Nat
  ps:List Pg
  C:Nat
  M:Nat
  now:Int
  n:Nat
  D:Ins
abbrev mmA (k:Int) (l:Lm) (x:St):Array Value:=#[.int .i64 k,.int .i64 (l.s:Int),.int .i64 (l.p:Int),.int .i64 l.t,.int .i64 l.r,.int .i64 l.c,.int .i64 l.n,.pointer (some ⟨x.a,0,none⟩),.pointer (some ⟨x.T,0,none⟩),.pointer (some ⟨x.C,0,none⟩)]
structure Mm (w:World) (m:Nat) (k:Int) (l:Lm) (x:St):Prop where
  b:Blk w m 111 (mmA k l x)
  ar:Ar w x.a x.G l.n x.ss
  tb:Tbl w x.T x.H x.ps
  ck:Clk w x.C x.M x.now l.n l.t x.n x.D
theorem Tbl.keep {w w':World} {T G:Nat} {ps:List Pg} (h:Tbl w T G ps) (hf:Fr none_ w w'):Tbl w' T G ps:=h.fr hf id id
theorem Clk.keep {w w':World} {C M n:Nat} {now last threads:Int} {D:Ins} (h:Clk w C M now last threads n D) (hf:Fr none_ w w'):Clk w' C M now last threads n D:=h.fr hf id id
theorem Mm.keep {w w':World} {m:Nat} {k:Int} {l:Lm} {x:St} (h:Mm w m k l x) (hf:Fr none_ w w'):Mm w' m k l x:=⟨h.b.fr hf id,h.ar.keep hf,h.tb.keep hf,h.ck.keep hf⟩
section
variable {w w':World} {m:Nat} {k:Int} {l:Lm} {x:St}
theorem Ar.gne {a G:Nat} {last:Int} {ss:List Sl} (h:Ar w a G last ss) {g:Nat} {t:TypeId} {cs:Array Value} (hb:Blk w g t cs) (ht:164≠t):g≠G:=by
  obtain ⟨cs',hG,_⟩:=h.hG
  exact (Blk.ne_ hG hb ht).symm
theorem Clk.mne {C M n:Nat} {now last threads:Int} {D:Ins} (h:Clk w C M now last threads n D) {g:Nat} {t:TypeId} {cs:Array Value} (hb:Blk w g t cs):M≠g:=by
  rintro rfl
  obtain ⟨es,clock,hm,r⟩:=h.hM
  unfold Blk at hb
  rw [hb] at hm
  cases hm
theorem Mm.arPut (h:Mm w m k l x) {ss':List Sl} (hA:Ar w' x.a x.G l.n ss') (hf:Fr (only x.G) w w'):Mm w' m k l { x with ss:=ss' }:=by
  obtain ⟨cs,hG,_⟩:=h.ar.hG
  obtain ⟨cap,cur,hT,hH,_⟩:=id h.tb
  exact ⟨h.b.fr hf (only_ne (h.ar.gne h.b (by decide))),hA,h.tb.fr hf (only_ne (h.ar.gne hT (by decide))) (only_ne (h.ar.gne hH (by decide))),h.ck.fr hf (only_ne (h.ar.gne h.ck.hC (by decide))) (only_ne (h.ck.mne hG))⟩
theorem Mm.tbPut (h:Mm w m k l x) {ps':List Pg} (hT:Tbl w' x.T x.H ps') (hf:Fr (only x.H) w w'):Mm w' m k l { x with ps:=ps' }:=by
  obtain ⟨cs,hG,_⟩:=h.ar.hG
  obtain ⟨cap,cur,hT0,hH,_⟩:=id h.tb
  exact ⟨h.b.fr hf (only_ne (Blk.ne_ h.b hH (by decide))),h.ar.beside hf hH (by decide) (by decide) (Blk.ne_ h.ar.hA hH (by decide)) (Blk.ne_ hG hH (by decide)),hT,h.ck.fr hf (only_ne (Blk.ne_ h.ck.hC hH (by decide))) (only_ne (h.ck.mne hH))⟩
theorem Mm.count (h:Mm w m k l x) (k':Int):Mm (w.setCell ⟨m,0,none⟩ (.int .i64 k')) m k' l x:=by
  obtain ⟨cs,hG,_⟩:=h.ar.hG
  obtain ⟨cap,cur,hT0,hH,_⟩:=id h.tb
  have hf:=Fr.only1 w ⟨m,0,none⟩ (.int .i64 k')
  exact ⟨h.b.set_ 0 _,h.ar.beside hf h.b (by decide) (by decide) (Blk.ne_ h.ar.hA h.b (by decide)) (Blk.ne_ hG h.b (by decide)),h.tb.fr hf (only_ne (Blk.ne_ hT0 h.b (by decide))) (only_ne (Blk.ne_ hH h.b (by decide))),h.ck.fr hf (only_ne (Blk.ne_ h.ck.hC h.b (by decide))) (only_ne (h.ck.mne h.b))⟩
end
theorem rep_set {α:Type} {n:Nat} (h:0 < n) (z y:α):(List.replicate n z).set 0 y=y :: List.replicate (n - 1) z:=by
  cases n with
  | zero=>omega
  | succ n=>simp [List.replicate_succ]
theorem rep_get {α:Type} {n:Nat} (h:0 < n) (z:α):(List.replicate n z)[0]?=some z:=by
  cases n with
  | zero=>omega
  | succ n=>simp [List.replicate_succ]
abbrev leafR:Rc:=⟨1,nilS,nilS,true,0,[],[],nilS,nilS,0,0,0,nilS,0,0⟩
theorem reads_leaf (w:World):RecReads w leafR none none:=⟨⟨rfl,fun h=>absurd h (Nat.lt_irrefl 0)⟩,⟨rfl,fun h=>absurd h (Nat.lt_irrefl 0)⟩⟩
def NewMem (l:Lm) (w:World) (e:Ending) (w':World):Prop:=
  ∃ (m a G:Nat) (vr ve:Value) (T H C M:Nat),e=.returned (.tuple #[.pointer (some ⟨m,0,none⟩),.nilIface])∧Mm w' m 0 l ⟨a,G,⟨1,true,leafR,vr,ve⟩ :: List.replicate (l.s - 1) Sl.zero,T,H,(true,1,1) :: List.replicate (l.p - 1) (false,0,0),C,M,1,0,.map []⟩∧Fr none_ w w'∧w.heap.size≤m∧w.heap.size≤C∧w.heap.size≤M∧w.heap.size≤G∧w.heap.size≤H
theorem within_yes (n a b:Int) (w:World) (h1:a≤n) (h2:n≤b):Calls Tryz.prog 93 #[.int .i64 n,.int .i64 a,.int .i64 b] w fun e w'=>e=.returned (.bool true)∧w=w':=by
  have d1:decide (a≤n)=true:=by simpa using h1
  have d2:decide (n≤b)=true:=by simpa using h2
  clear h1 h2
  go_enter Tryz.func93,Tryz.ntmps93
  go_wp2
  go_ret
  exact ⟨rfl,rfl⟩
set_option maxHeartbeats 4000000 in
theorem right_yes (l:Lm) (w:World) (hl:l.Right):Calls Tryz.prog 69 #[.agg (lmA l)] w fun e w'=>e=.returned (.bool true)∧Fr none_ w w':=by
  have HL:=hid_ hl
  clear hl
  go_enter Tryz.func69,Tryz.ntmps69
  go_wp2_with fail
  refine (within_yes _ _ _ _ HL.out.s.1 HL.out.s.2).mono ?_
  rintro e w1 ⟨rfl,rfl⟩
  go_wp2_with fail
  refine (within_yes _ _ _ _ HL.out.p.1 HL.out.p.2).mono ?_
  rintro e w1 ⟨rfl,rfl⟩
  go_wp2_with fail
  refine (within_yes _ _ _ _ HL.out.t.1 HL.out.t.2).mono ?_
  rintro e w1 ⟨rfl,rfl⟩
  go_wp2_with fail
  refine (within_yes _ _ _ _ HL.out.r.1 HL.out.r.2).mono ?_
  rintro e w1 ⟨rfl,rfl⟩
  go_wp2_with fail
  refine (within_yes _ _ _ _ HL.out.c.1 HL.out.c.2).mono ?_
  rintro e w1 ⟨rfl,rfl⟩
  go_wp2_with fail
  refine (within_yes _ _ _ _ HL.out.n.1 HL.out.n.2).mono ?_
  rintro e w1 ⟨rfl,rfl⟩
  go_wp2_with fail
  go_ret
  exact ⟨rfl,(Fr.refl none_ w).alloc _⟩
set_option maxHeartbeats 8000000 in
theorem memNew_ok (l:Lm) (w:World) (hl:l.Right):Calls Tryz.prog 41 #[.agg (lmA l)] w (NewMem l w):=by
 have HL:=hid_ hl
 clear hl
 have F:=hid_ (Fr.refl none_ w)
 go_enter Tryz.func41,Tryz.ntmps41
 go_upto_region 1 with fail
 obtain ⟨w0,hw0⟩:∃ z,z=w.alloc (.cells (lmA l) 94):=⟨_,rfl⟩
 have fw0:Fr none_ w w0:=by rw [hw0];exact (Fr.refl none_ w).alloc _
 have BL:Hid (Blk w0 w.heap.size 94 (lmA l)):=hid_ (by rw [hw0];exact Blk.new w _ _)
 replace F:=hid_ (F.out.then_none fw0)
 change Code.wp _ _ _ _ (w.alloc (.cells (lmA l) 94))
 rw [← hw0]
 clear hw0 fw0
 have v0:w0.cell? ⟨w.heap.size,0,none⟩=some (.int .i64 (l.s:Int)):=BL.out.cell' rfl
 have v1:w0.cell? ⟨w.heap.size,1,none⟩=some (.int .i64 (l.p:Int)):=BL.out.cell' rfl
 have v2:w0.cell? ⟨w.heap.size,2,none⟩=some (.int .i64 l.t):=BL.out.cell' rfl
 have v3:w0.cell? ⟨w.heap.size,3,none⟩=some (.int .i64 l.r):=BL.out.cell' rfl
 have v4:w0.cell? ⟨w.heap.size,4,none⟩=some (.int .i64 l.c):=BL.out.cell' rfl
 have v5:w0.cell? ⟨w.heap.size,5,none⟩=some (.int .i64 l.n):=BL.out.cell' rfl
 go_wp2_with fail
 refine (right_yes l _ HL.out).mono ?_
 rintro e w1 ⟨rfl,hf1⟩
 replace F:=hid_ (F.out.then_none hf1)
 replace BL:=hid_ (BL.out.fr hf1 id)
 clear hf1
 clear v0 v1 v2 v3 v4 v5
 have v0:w1.cell? ⟨w.heap.size,0,none⟩=some (.int .i64 (l.s:Int)):=BL.out.cell' rfl
 have v1:w1.cell? ⟨w.heap.size,1,none⟩=some (.int .i64 (l.p:Int)):=BL.out.cell' rfl
 have v2:w1.cell? ⟨w.heap.size,2,none⟩=some (.int .i64 l.t):=BL.out.cell' rfl
 have v3:w1.cell? ⟨w.heap.size,3,none⟩=some (.int .i64 l.r):=BL.out.cell' rfl
 have v4:w1.cell? ⟨w.heap.size,4,none⟩=some (.int .i64 l.c):=BL.out.cell' rfl
 have v5:w1.cell? ⟨w.heap.size,5,none⟩=some (.int .i64 l.n):=BL.out.cell' rfl
 go_upto_region 3 with fail
 have hS0:(fun w':World=>Fr none_ w1 w') w1.drew:=(Fr.refl none_ w1).drew
 refine wp_region_U (m:=14) (S:=fun w':World=>Fr none_ w1 w') (by kernel_rfl) ?_
 refine wpAnyU_take2 (i:=0) (v:=_) rfl (by kernel_rfl) (by kernel_rfl) (by kernel_rfl) (by kernel_rfl) (fun _ _ _ h=>h) (.inl ⟨by kernel_rfl,fun w' hS=>by have s_0:=cellFr v0 hS;have s_1:=cellFr v1 hS;have s_2:=cellFr v2 hS;have s_3:=cellFr v3 hS;have s_4:=cellFr v4 hS;have s_5:=cellFr v5 hS;go_simp;rfl⟩) hS0 ?_
 refine wpAnyU_take2 (i:=1) (v:=_) rfl (by kernel_rfl) (by kernel_rfl) (by kernel_rfl) (by kernel_rfl) (fun _ _ _ h=>h) (.inl ⟨by kernel_rfl,fun w' hS=>by go_simp;rfl⟩) hS0 ?_
 refine wpAnyU_take2 (i:=2) (v:=_) rfl (by kernel_rfl) (by kernel_rfl) (by kernel_rfl) (by kernel_rfl) (fun _ _ _ h=>h) (.inl ⟨by kernel_rfl,fun w' hS=>by have s_0:=cellFr v0 hS;have s_1:=cellFr v1 hS;have s_2:=cellFr v2 hS;have s_3:=cellFr v3 hS;have s_4:=cellFr v4 hS;have s_5:=cellFr v5 hS;go_simp;rfl⟩) hS0 ?_
 refine wpAnyU_take2 (i:=3) (v:=_) rfl (by kernel_rfl) (by kernel_rfl) (by kernel_rfl) (by kernel_rfl) (fun _ _ _ h=>h) (.inl ⟨by kernel_rfl,fun w' hS=>by go_simp;rfl⟩) hS0 ?_
 refine wpAnyU_take2 (i:=4) (v:=_) rfl (by kernel_rfl) (by kernel_rfl) (by kernel_rfl) (by kernel_rfl) (fun _ _ _ h=>h) (.inl ⟨by kernel_rfl,fun w' hS=>by have s_0:=cellFr v0 hS;have s_1:=cellFr v1 hS;have s_2:=cellFr v2 hS;have s_3:=cellFr v3 hS;have s_4:=cellFr v4 hS;have s_5:=cellFr v5 hS;go_simp;rfl⟩) hS0 ?_
 refine wpAnyU_take2 (i:=6) (v:=_) rfl (by kernel_rfl) (by kernel_rfl) (by kernel_rfl) (by kernel_rfl) (fun _ _ _ h=>h) (.inl ⟨by kernel_rfl,fun w' hS=>by go_simp;rfl⟩) hS0 ?_
 refine wpAnyU_take2 (i:=7) (v:=_) rfl (by kernel_rfl) (by kernel_rfl) (by kernel_rfl) (by kernel_rfl) (fun _ _ _ h=>h) (.inl ⟨by kernel_rfl,fun w' hS=>by have s_0:=cellFr v0 hS;have s_1:=cellFr v1 hS;have s_2:=cellFr v2 hS;have s_3:=cellFr v3 hS;have s_4:=cellFr v4 hS;have s_5:=cellFr v5 hS;go_simp;rfl⟩) hS0 ?_
 refine wpAnyU_take2 (i:=9) (v:=_) rfl (by kernel_rfl) (by kernel_rfl) (by kernel_rfl) (by kernel_rfl) (fun _ _ _ h=>h) (.inl ⟨by kernel_rfl,fun w' hS=>by go_simp;rfl⟩) hS0 ?_
 refine wpAnyU_take2 (i:=10) (v:=_) rfl (by kernel_rfl) (by kernel_rfl) (by kernel_rfl) (by kernel_rfl) (fun _ _ _ h=>h) (.inl ⟨by kernel_rfl,fun w' hS=>by have s_0:=cellFr v0 hS;have s_1:=cellFr v1 hS;have s_2:=cellFr v2 hS;have s_3:=cellFr v3 hS;have s_4:=cellFr v4 hS;have s_5:=cellFr v5 hS;go_simp;rfl⟩) hS0 ?_
 refine wpAnyU_take2 (i:=11) (v:=_) rfl (by kernel_rfl) (by kernel_rfl) (by kernel_rfl) (by kernel_rfl) (fun _ _ _ h=>h) (.inl ⟨by kernel_rfl,fun w' hS=>by go_simp;rfl⟩) hS0 ?_
 refine wpAnyU_take2 (i:=12) (v:=_) rfl (by kernel_rfl) (by kernel_rfl) (by kernel_rfl) (by kernel_rfl) (fun _ _ _ h=>h) (.inl ⟨by kernel_rfl,fun w' hS=>by have s_0:=cellFr v0 hS;have s_1:=cellFr v1 hS;have s_2:=cellFr v2 hS;have s_3:=cellFr v3 hS;have s_4:=cellFr v4 hS;have s_5:=cellFr v5 hS;go_simp;rfl⟩) hS0 ?_
 refine wpAnyU_oneW (i:=5) rfl (by kernel_rfl) (by kernel_rfl) ?_
 go_simp
 refine (arNew_ok l.s l.n _ (by have:=HL.out.s;omega) (by have:=HL.out.s;omega) (by have:=HL.out.n;omega) HL.out.n.2).mono ?_
 rintro e w2 ⟨a,G,rfl,hA,hf2,ha,hG⟩
 have HGw:=hid_ (show w.heap.size≤G by have:=F.out.size;simp at hG;omega)
 have HHw:=hid_ (show w.heap.size≤w2.heap.size by have:=F.out.size;have:=hf2.size;simp at this;omega)
 have fS:=(Fr.refl none_ w1).drew.then_none hf2
 refine ⟨fS,?_⟩
 have A1:=hid_ hA
 clear hA hf2 hS0
 clear v0 v1 v2 v3 v4 v5
 refine wpAnyU_oneW (i:=8) rfl (by kernel_rfl) (by kernel_rfl) ?_
 go_simp
 refine (mapNew_ok l.p _ (by have:=HL.out.p;omega) (by have:=HL.out.p;omega)).mono ?_
 rintro e w3 ⟨rfl,hT,hf3,-⟩
 have fS:=fS.then_none hf3
 refine ⟨fS,?_⟩
 replace A1:=hid_ (A1.out.keep hf3)
 have T1:=hid_ hT
 clear hT hf3
 refine wpAnyU_oneW (i:=13) rfl (by kernel_rfl) (by kernel_rfl) ?_
 go_simp
 refine (clkNew_ok l.t l.n _ HL.out.t.1 HL.out.t.2 (by have:=HL.out.n;omega) HL.out.n.2).mono ?_
 rintro e w4 ⟨C,M,rfl,hC,hf4,hc1,hc2⟩
 have HCw:=hid_ (show w.heap.size≤C∧w.heap.size≤M by have:=F.out.size;have:=fS.size;omega)
 have fS:=fS.then_none hf4
 refine ⟨fS,?_⟩
 replace A1:=hid_ (A1.out.keep hf4)
 replace T1:=hid_ (T1.out.keep hf4)
 have C1:=hid_ hC
 clear hC hf4
 refine wpAnyU_oneW (i:=14) rfl (by kernel_rfl) (by kernel_rfl) ?_
 go_simp
 refine wpAnyU_oneW (i:=15) rfl (by kernel_rfl) (by kernel_rfl) ?_
 go_simp
 refine wpAnyU_oneW (i:=16) rfl (by kernel_rfl) (by kernel_rfl) ?_
 go_simp
 refine wpAnyU_done (by kernel_rfl) ?_ _
 replace F:=hid_ (F.out.then_none fS)
 clear fS
 go_upto_region 4 with fail
 have HMw:=hid_ F.out.size
 obtain ⟨w5,hw5⟩:∃ z,z=w4.alloc (.cells #[.int .i64 0,.int .i64 (l.s:Int),.int .i64 (l.p:Int),.int .i64 l.t,.int .i64 l.r,.int .i64 l.c,.int .i64 l.n,.pointer (some ⟨a,0,none⟩),.pointer (some ⟨w2.heap.size+1,0,none⟩),.pointer (some ⟨C,0,none⟩)] 111):=⟨_,rfl⟩
 have fw5:Fr none_ w4 w5:=by rw [hw5];exact (Fr.refl none_ w4).alloc _
 have BM:Hid (Blk w5 w4.heap.size 111 (#[.int .i64 0,.int .i64 (l.s:Int),.int .i64 (l.p:Int),.int .i64 l.t,.int .i64 l.r,.int .i64 l.c,.int .i64 l.n,.pointer (some ⟨a,0,none⟩),.pointer (some ⟨w2.heap.size+1,0,none⟩),.pointer (some ⟨C,0,none⟩)])):=hid_ (by rw [hw5];exact Blk.new w4 _ _)
 replace F:=hid_ (F.out.then_none fw5)
 replace A1:=hid_ (A1.out.keep fw5)
 replace T1:=hid_ (T1.out.keep fw5)
 replace C1:=hid_ (C1.out.keep fw5)
 change Code.wp _ _ _ _ (w4.alloc (.cells #[.int .i64 0,.int .i64 (l.s:Int),.int .i64 (l.p:Int),.int .i64 l.t,.int .i64 l.r,.int .i64 l.c,.int .i64 l.n,.pointer (some ⟨a,0,none⟩),.pointer (some ⟨w2.heap.size+1,0,none⟩),.pointer (some ⟨C,0,none⟩)] 111))
 rw [← hw5]
 clear hw5 fw5
 have M5:Hid (Mm w5 w4.heap.size 0 l ⟨a,G,List.replicate l.s Sl.zero,w2.heap.size+1,w2.heap.size,List.replicate l.p (false,0,0),C,M,1,0,.map []⟩):=hid_ ⟨BM.out,A1.out,T1.out,C1.out⟩
 have hw1:=F.out.size
 have m7:w5.cell? ⟨w4.heap.size,7,none⟩=some (.pointer (some ⟨a,0,none⟩)):=BM.out.cell' rfl
 go_wp2_with fail
 refine (alloc_ok leafR none 0 none 0 _ a G l.n _ M5.out.ar (reads_leaf _) ⟨by decide,by decide⟩).mono ?_
 rintro e w6 h6
 obtain ⟨vr,ve,rfl,hA6,-,hf6⟩:=h6.first (i:=0) (s:=Sl.zero) (rep_get (by have:=HL.out.s;omega) _) rfl (by show (0:Int)≠l.n;have:=HL.out.n;omega) (fun j t hj=>by omega)
 rw [rep_set (by have:=HL.out.s;omega)] at hA6
 have M6:Hid (Mm w6 w4.heap.size 0 l ⟨a,G,⟨1,true,leafR,vr,ve⟩ :: List.replicate (l.s - 1) Sl.zero,w2.heap.size+1,w2.heap.size,List.replicate l.p (false,0,0),C,M,1,0,.map []⟩):=hid_ (M5.out.arPut hA6 hf6)
 have F6:=hid_ (F.out.then_only hf6 (.inr HGw.out))
 clear h6 hA6 hf6 m7 M5 BM A1 T1 C1 F
 go_upto_region 5 with fail
 obtain ⟨w7,hw7⟩:∃ z,z=w6.alloc (.cells #[.int .i64 1,.int .i64 1] 36):=⟨_,rfl⟩
 have fw7:Fr none_ w6 w7:=by rw [hw7];exact (Fr.refl none_ w6).alloc _
 have BX:Hid (Blk w7 w6.heap.size 36 (#[.int .i64 1,.int .i64 1])):=hid_ (by rw [hw7];exact Blk.new w6 _ _)
 replace F6:=hid_ (F6.out.then_none fw7)
 replace M6:=hid_ (M6.out.keep fw7)
 change Code.wp _ _ _ _ (w6.alloc (.cells #[.int .i64 1,.int .i64 1] 36))
 rw [← hw7]
 clear hw7 fw7
 have m8:w7.cell? ⟨w4.heap.size,8,none⟩=some (.pointer (some ⟨w2.heap.size+1,0,none⟩)):=M6.out.b.cell' rfl
 go_wp2_with fail
 refine (mtake_ok _ _ _ 0 0 0 _ M6.out.tb (rep_get (by have:=HL.out.p;omega) _) (fun j p hj=>by omega)).mono ?_
 rintro e w8 ⟨rfl,h8⟩
 have hT8:Tbl w8 (w2.heap.size+1) w2.heap.size ((List.replicate l.p (false,0,0)).set 0 (true,0,0)):=by rw [h8];exact M6.out.tb.set_ (by simp;have:=HL.out.p;omega) _
 have hf8:Fr (only w2.heap.size) w7 w8:=by rw [h8];exact setPg_only _ _ _ _
 rw [rep_set (by have:=HL.out.p;omega)] at hT8
 replace BX:=hid_ (BX.out.fr hf8 (only_ne (by obtain ⟨cap,cur,hT0,hH,_⟩:=id M6.out.tb;exact Blk.ne_ BX.out hH (by decide))))
 replace M6:=hid_ (M6.out.tbPut hT8 hf8)
 replace F6:=hid_ (F6.out.then_only hf8 (.inr HHw.out))
 clear h8 hT8 hf8 m8
 have m8:w8.cell? ⟨w4.heap.size,8,none⟩=some (.pointer (some ⟨w2.heap.size+1,0,none⟩)):=M6.out.b.cell' rfl
 have x0:w8.cell? ⟨w6.heap.size,0,none⟩=some (.int .i64 1):=BX.out.cell' rfl
 have x1:w8.cell? ⟨w6.heap.size,1,none⟩=some (.int .i64 1):=BX.out.cell' rfl
 go_upto_region 10 with fail
 have nH:¬ only w2.heap.size w4.heap.size∧¬ only w2.heap.size w6.heap.size:=by
  obtain ⟨cap,cur,hT0,hH,_⟩:=id M6.out.tb
  exact ⟨only_ne (Blk.ne_ M6.out.b hH (by decide)),only_ne (Blk.ne_ BX.out hH (by decide))⟩
 have hS1:(fun w':World=>Fr (only w2.heap.size) w8 w') w8.drew:=(Fr.refl _ w8).drew
 refine wp_region_U (m:=13) (S:=fun w':World=>Fr (only w2.heap.size) w8 w') (by kernel_rfl) ?_
 refine wpAnyU_take2 (i:=0) (v:=_) rfl (by kernel_rfl) (by kernel_rfl) (by kernel_rfl) (by kernel_rfl) (fun _ _ _ h=>h) (.inl ⟨by kernel_rfl,fun w' hS=>by go_simp;rfl⟩) hS1 ?_
 refine wpAnyU_take2 (i:=1) (v:=_) rfl (by kernel_rfl) (by kernel_rfl) (by kernel_rfl) (by kernel_rfl) (fun _ _ _ h=>h) (.inl ⟨by kernel_rfl,fun w' hS=>by go_simp;rfl⟩) hS1 ?_
 refine wpAnyU_take2 (i:=2) (v:=_) rfl (by kernel_rfl) (by kernel_rfl) (by kernel_rfl) (by kernel_rfl) (fun _ _ _ h=>h) (.inl ⟨by kernel_rfl,fun w' hS=>by go_simp;rfl⟩) hS1 ?_
 refine wpAnyU_take2 (i:=3) (v:=_) rfl (by kernel_rfl) (by kernel_rfl) (by kernel_rfl) (by kernel_rfl) (fun _ _ _ h=>h) (.inl ⟨by kernel_rfl,fun w' hS=>by have s_8:=cellFrS m8 hS nH.1;go_simp;rfl⟩) hS1 ?_
 refine wpAnyU_take2 (i:=4) (v:=_) rfl (by kernel_rfl) (by kernel_rfl) (by kernel_rfl) (by kernel_rfl) (fun _ _ _ h=>h) (.inl ⟨by kernel_rfl,fun w' hS=>by go_simp;rfl⟩) hS1 ?_
 refine wpAnyU_take2 (i:=5) (v:=_) rfl (by kernel_rfl) (by kernel_rfl) (by kernel_rfl) (by kernel_rfl) (fun _ _ _ h=>h) (.inl ⟨by kernel_rfl,fun w' hS=>by go_simp;rfl⟩) hS1 ?_
 refine wpAnyU_take2 (i:=6) (v:=_) rfl (by kernel_rfl) (by kernel_rfl) (by kernel_rfl) (by kernel_rfl) (fun _ _ _ h=>h) (.inl ⟨by kernel_rfl,fun w' hS=>by have s_0:=cellFrS x0 hS nH.2;have s_1:=cellFrS x1 hS nH.2;go_simp;rfl⟩) hS1 ?_
 clear m8 x0 x1
 refine wpAnyU_oneW (i:=7) rfl (by kernel_rfl) (by kernel_rfl) ?_
 go_simp
 refine (swap_ok _ _ _ 0 0 0 0 0 1 1 _ (M6.out.tb.keep (Fr.refl none_ _).drew) rfl).mono ?_
 rintro e w9 ⟨rfl,hT9,hf9⟩
 have hT9':Tbl w9 (w2.heap.size+1) w2.heap.size ((true,1,1) :: List.replicate (l.p - 1) (false,0,0)):=by simpa using hT9
 have M9:=hid_ ((M6.out.keep (Fr.refl none_ w8).drew).tbPut hT9' hf9)
 have fS9:(fun w':World=>Fr (only w2.heap.size) w8 w') w9:=(Fr.refl (only w2.heap.size) w8).drew.then_only hf9 (.inl (Eq.refl _))
 have F9:=hid_ (F6.out.drew.then_only hf9 (.inr HHw.out))
 clear hT9 hT9' hf9 hS1
 simp only [beq_self_eq_true,Bool.and_self]
 refine ⟨fS9,?_⟩
 refine wpAnyU_take2 (i:=8) (v:=_) rfl (by kernel_rfl) (by kernel_rfl) (by kernel_rfl) (by kernel_rfl) (fun _ _ _ h=>h) (.inl ⟨by kernel_rfl,fun w' hS=>by go_simp;rfl⟩) fS9 ?_
 refine wpAnyU_take2 (i:=9) (v:=_) rfl (by kernel_rfl) (by kernel_rfl) (by kernel_rfl) (by kernel_rfl) (fun _ _ _ h=>h) (.inl ⟨by kernel_rfl,fun w' hS=>by go_simp;rfl⟩) fS9 ?_
 refine wpAnyU_take2 (i:=10) (v:=_) rfl (by kernel_rfl) (by kernel_rfl) (by kernel_rfl) (by kernel_rfl) (fun _ _ _ h=>h) (.inl ⟨by kernel_rfl,fun w' hS=>by go_simp;rfl⟩) fS9 ?_
 refine wpAnyU_take2 (i:=11) (v:=_) rfl (by kernel_rfl) (by kernel_rfl) (by kernel_rfl) (by kernel_rfl) (fun _ _ _ h=>h) (.inl ⟨by kernel_rfl,fun w' hS=>by go_simp;rfl⟩) fS9 ?_
 refine wpAnyU_take2 (i:=12) (v:=_) rfl (by kernel_rfl) (by kernel_rfl) (by kernel_rfl) (by kernel_rfl) (fun _ _ _ h=>h) (.inl ⟨by kernel_rfl,fun w' hS=>by go_simp;rfl⟩) fS9 ?_
 refine wpAnyU_done (by kernel_rfl) ?_ _
 go_wp2_with fail
 go_ret2
 exact ⟨_,_,_,_,_,_,_,_,_,rfl,M9.out,F9.out,HMw.out,HCw.out.1,HCw.out.2,HGw.out,HHw.out⟩
open Go.RowKit

structure Cr where
  R:Rc
  A:Option Addr
  c:Nat
  B:Option Addr
  d:Nat
abbrev crA (C:Cr):Array Value:=recA C.R (.slice C.A C.R.rows.length C.c) (.slice C.B C.R.ents.length C.d)
def crFlat (L:List Cr):List Value:=(L.map fun C=>(crA C).toList).flatten
theorem crFlat_snoc (L:List Cr) (C:Cr):crFlat (L ++ [C])=crFlat L ++ (crA C).toList:=by simp [crFlat]
def rf9Flat (L:List (Int × Int)):List Value:=(L.map fun p=>[Value.int .i64 p.1,Value.int .i64 p.2]).flatten
theorem rf9Flat_snoc (L:List (Int × Int)) (p:Int × Int):rf9Flat (L ++ [p])=rf9Flat L ++ [Value.int .i64 p.1,Value.int .i64 p.2]:=by simp [rf9Flat]
theorem rec_info9:(Tryz.prog.info? 51).map (fun i=>(i.zero,i.size,i.bytes))=some (some (.agg recZ),15,192):=by kernel_rfl
theorem ref_info9:(Tryz.prog.info? 36).map (fun i=>(i.zero,i.size,i.bytes))=some (some (.agg #[.int .i64 0,.int .i64 0]),2,16):=by kernel_rfl
theorem cr_one (C:Cr):∀ u ∈ (crA C).toList,u.oneCell'=true:=by
  intro u hu
  simp only [List.mem_cons,List.not_mem_nil,or_false] at hu
  rcases hu with rfl | rfl | rfl | rfl | rfl | rfl | rfl | rfl | rfl | rfl | rfl | rfl | rfl | rfl | rfl <;> rfl
theorem RecOwn.grown {w w':World} {base:Nat} {R:Rc} {vr ve:Value} (h:RecOwn w base R vr ve) {b size n:Nat} {e:TypeId} {v:Value} {xs:List Value} (ho:w.ownsRow b e size v n xs) (h1:25≠e) (h2:132≠e) (hg:w.grownBy w' v.ownBlock):RecOwn w' base R vr ve:=by
  refine ⟨h.r.kept hg ?_,h.e.kept hg ?_⟩
  · cases hk:vr.ownBlock with
    | none=>exact .inl rfl
    | some k=>exact .inr (fun e'=>own_own_ne h.r ho h1 k hk e'.symm)
  · cases hk:ve.ownBlock with
    | none=>exact .inl rfl
    | some k=>exact .inr (fun e'=>own_own_ne h.e ho h2 k hk e'.symm)
theorem own_kept {w w':World} {base size n base' size' n':Nat} {e e':TypeId} {v v':Value} {xs xs':List Value} (h:w.ownsRow base e size v n xs) (ho:w.ownsRow base' e' size' v' n' xs') (hne:e≠e') (hg:w.grownBy w' v'.ownBlock):w'.ownsRow base e size v n xs:=by
  refine h.kept hg ?_
  cases hk:v.ownBlock with
  | none=>exact .inl rfl
  | some k=>exact .inr (fun e'=>own_own_ne h ho hne k hk e'.symm)
theorem Blk.there9 {w:World} {g n:Nat} {t:TypeId} {cs:Array Value} (h:Blk w g t cs) (hn:cs.size=n):w.there g 0 n:=by
  subst hn
  intro j hj
  refine ⟨?_,h.frozen _⟩
  rw [h.cell,Nat.zero_add,Array.getElem?_eq_getElem hj]
  rfl
theorem Blk.over9 {w:World} {g:Nat} {t:TypeId} {zs:Array Value} (h:Blk w g t zs) (vs:List Value) (hz:zs.size=vs.length):Blk (w.setCells g 0 vs) g t vs.toArray∧Fr (only g) w (w.setCells g 0 vs):=by
  refine ⟨?_,Fr.setCells _ _ _ (Fr.refl _ _) (.inl rfl)⟩
  have h:=Blk.setCells vs 0 _ _ h
  have e:setA zs 0 vs=vs.toArray:=by
    apply Array.ext_getElem?
    intro k
    rcases Nat.lt_or_ge k vs.length with h1 | h1
    · have:=setA_in vs zs 0 k vs[k] (List.getElem?_eq_getElem h1) (by omega)
      rw [Nat.zero_add] at this
      rw [this,List.getElem?_toArray,List.getElem?_eq_getElem h1]
    · rw [Array.getElem?_eq_none (by rw [setA_size];omega),Array.getElem?_eq_none (by simpa using h1)]
  rwa [e] at h
theorem reads_blk9 {w:World} {t:TypeId} {cs:List Value} {b:Nat} (h:Blk w b t cs.toArray):Reads w cs.length (some ⟨b,0,none⟩) 1 cs:=
  ⟨by simp,fun _=>⟨_,rfl,fun j u hu=>by rw [add_lit,Nat.zero_add];exact h.cell' (by simpa using hu)⟩⟩
def Links (ss:List Sl):List Nat→Int→Int→Prop
  | [],s,g=>s=0∧g=0
  | j :: rest,s,g=>s=(j:Int)+1∧∃ y,ss[j]?=some y∧y.used=true∧y.gen=g∧Links ss rest y.R.nslot y.R.ngen
def recOf (ss:List Sl) (j:Nat):Rc:=(ss.getD j Sl.zero).R
def refOf (ss:List Sl) (j:Nat):Int × Int:=((j:Int)+1,(ss.getD j Sl.zero).gen)
theorem slotD {ss:List Sl} {j:Nat} {y:Sl} (h:ss[j]?=some y):ss.getD j Sl.zero=y:=by simp [h]
structure Ch9 (w:World) (bx b:Nat) (cx cb:Array Value) (vl:Value) (nl:Nat) (xl:List Value) (vr:Value) (nr:Nat) (xr:List Value) (Cs:List Cr) (wr:World):Prop where
  l:wr.ownsRow w.heap.size 51 15 vl nl xl
  r:wr.ownsRow w.heap.size 36 2 vr nr xr
  nl:∀ k,vl.ownBlock=some k→k≠b
  nr:∀ k,vr.ownBlock=some k→k≠bx
  bx:Blk wr bx 36 cx
  bt:Blk wr b 51 cb
  own:∀ C ∈ Cs,RecOwn wr 0 C.R (.slice C.A C.R.rows.length C.c) (.slice C.B C.R.ents.length C.d)
  f:Fr none_ w wr
section
variable {w wr w':World} {bx b:Nat} {cx cb:Array Value} {vl:Value} {nl:Nat} {xl:List Value} {vr:Value} {nr:Nat} {xr:List Value} {Cs:List Cr}
theorem Ch9.keep (h:Ch9 w bx b cx cb vl nl xl vr nr xr Cs wr) (hf:Fr none_ wr w'):Ch9 w bx b cx cb vl nl xl vr nr xr Cs w':=
  ⟨own_none h.l hf,own_none h.r hf,h.nl,h.nr,h.bx.fr hf id,h.bt.fr hf id,fun C hC=>(h.own C hC).keep hf,h.f.then_none hf⟩
theorem Ch9.putL (h:Ch9 w bx b cx cb vl nl xl vr nr xr Cs wr) {v':Value} {m:Nat} {ys:List Value} (ho:w'.ownsRow w.heap.size 51 15 v' (nl+m) (xl ++ ys)) (hg:wr.grownBy w' vl.ownBlock) (hat:v'.ownBlock=vl.ownBlock∨v'.ownBlock=some wr.heap.size):Ch9 w bx b cx cb v' (nl+m) (xl ++ ys) vr nr xr Cs w':=
  ⟨ho,own_kept h.r h.l (by decide) hg,fun k hk=>by
      rcases hat with e | e
      · exact h.nl k (e ▸ hk)
      · have h1:=h.bt.lt
        have:wr.heap.size=k:=Option.some.inj (e.symm.trans hk)
        omega,h.nr,h.bx.grown hg (fun e=>own_blk_ne h.l h.bx (by decide) e.symm),h.bt.grown hg (fun e=>h.nl b e.symm rfl),fun C hC=>(h.own C hC).grown h.l (by decide) (by decide) hg,h.f.grown hg (fun k hk=>.inr (h.l.lt k hk).1)⟩
theorem Ch9.putR (h:Ch9 w bx b cx cb vl nl xl vr nr xr Cs wr) {v':Value} {m:Nat} {ys:List Value} (ho:w'.ownsRow w.heap.size 36 2 v' (nr+m) (xr ++ ys)) (hg:wr.grownBy w' vr.ownBlock) (hat:v'.ownBlock=vr.ownBlock∨v'.ownBlock=some wr.heap.size):Ch9 w bx b cx cb vl nl xl v' (nr+m) (xr ++ ys) Cs w':=
  ⟨own_kept h.l h.r (by decide) hg,ho,h.nl,fun k hk=>by
      rcases hat with e | e
      · exact h.nr k (e ▸ hk)
      · have h1:=h.bx.lt
        have:wr.heap.size=k:=Option.some.inj (e.symm.trans hk)
        omega,h.bx.grown hg (fun e=>h.nr bx e.symm rfl),h.bt.grown hg (fun e=>own_blk_ne h.r h.bt (by decide) e.symm),fun C hC=>(h.own C hC).grown h.r (by decide) (by decide) hg,h.f.grown hg (fun k hk=>.inr (h.r.lt k hk).1)⟩
end
def lenOf:Value→Nat
  | .slice _ n _=>n
  | _=>0
def ChainPost (ss:List Sl) (js:List Nat) (w:World) (e:Ending) (w':World):Prop:=
  ∃ (A:Option Addr) (c:Nat) (B:Option Addr) (d:Nat) (Cs:List Cr),e=.returned (.tuple #[.slice A js.length c,.slice B js.length d,.nilIface])∧Cs.map (·.R)=js.map (recOf ss)∧w'.ownsRow w.heap.size 51 15 (.slice A js.length c) js.length (crFlat Cs)∧w'.ownsRow w.heap.size 36 2 (.slice B js.length d) js.length (rf9Flat (js.map (refOf ss)))∧(∀ C ∈ Cs,RecOwn w' 0 C.R (.slice C.A C.R.rows.length C.c) (.slice C.B C.R.ents.length C.d))∧Fr none_ w w'
structure ChL (w:World) (ss:List Sl) (js:List Nat) (bx:Nat) (pre rest:List Nat) (s g:Int) (A:Option Addr) (c:Nat) (B:Option Addr) (d:Nat) (Cs:List Cr) (wr:World):Prop where
  eq:js=pre ++ rest
  li:Links ss rest s g
  l:wr.ownsRow w.heap.size 51 15 (.slice A pre.length c) pre.length (crFlat Cs)
  r:wr.ownsRow w.heap.size 36 2 (.slice B pre.length d) pre.length (rf9Flat (pre.map (refOf ss)))
  nr:∀ k,(Value.slice B pre.length d).ownBlock=some k→k≠bx
  bx:Blk wr bx 36 #[.int .i64 s,.int .i64 g]
  cs:Cs.map (·.R)=pre.map (recOf ss)
  own:∀ C ∈ Cs,RecOwn wr 0 C.R (.slice C.A C.R.rows.length C.c) (.slice C.B C.R.ents.length C.d)
  f:Fr none_ w wr
set_option maxHeartbeats 16000000 in
theorem chain_ok {m:Nat} {k:Int} {l:Lm} {x:St} (w:World) (h:Mm w m k l x) (pg:Nat) (s0 g0:Int) (hp:x.ps[pg]?=some (true,s0,g0)) (js:List Nat) (hj:Links x.ss js s0 g0) (hl:js.length≤l.s) (hl2:l.s≤4096) :
  Calls Tryz.prog 30 #[.pointer (some ⟨m,0,none⟩),.int .i64 (pg:Int)] w (ChainPost x.ss js w):=by
 have H:=hid_ h
 have HJ:=hid_ hj
 obtain ⟨i0,hi0,hz0,hs0,hb0⟩:=info_parts rec_info9
 have Hi:=hid_ (And.intro hi0 (And.intro hz0 (And.intro hs0 hb0)))
 obtain ⟨j0,hj0,hy0,ht0,hc0⟩:=info_parts ref_info9
 have Hj:=hid_ (And.intro hj0 (And.intro hy0 (And.intro ht0 hc0)))
 have m8:w.cell? ⟨m,8,none⟩=some (.pointer (some ⟨x.T,0,none⟩)):=h.b.cell' rfl
 clear hi0 hz0 hs0 hb0 hj0 hy0 ht0 hc0 h hj
 go_enter Tryz.func30,Tryz.ntmps30
 go_wp2_with fail
 refine (head_ok x.T x.H x.ps pg s0 g0 _ H.out.tb hp).mono ?_
 rintro e w1 ⟨rfl,hf1⟩
 have F1:=hid_ hf1
 have hsw1:=hf1.size
 clear hf1 m8
 go_upto_region 4 with fail
 obtain ⟨w2,hw2⟩:∃ z,z=w1.alloc (.cells #[.int .i64 s0,.int .i64 g0] 36):=⟨_,rfl⟩
 have fw2:Fr none_ w1 w2:=by rw [hw2];exact (Fr.refl none_ w1).alloc _
 have BX:Hid (Blk w2 w1.heap.size 36 (#[.int .i64 s0,.int .i64 g0])):=hid_ (by rw [hw2];exact Blk.new w1 _ _)
 replace F1:=hid_ (F1.out.then_none fw2)
 change Code.wp _ _ _ _ (w1.alloc (.cells #[.int .i64 s0,.int .i64 g0] 36))
 rw [← hw2]
 clear hw2 fw2
 have hsz2:=F1.out.size
 have hbx:=BX.out.lt
 have hw1:w1.heap.size < w2.heap.size:=hbx
 go_wp2_with fail
 go_loopw [9,10] (fun u v wr=>∃ (pre rest:List Nat) (s g:Int) (A:Option Addr) (c:Nat) (B:Option Addr) (d:Nat) (Cs:List Cr),u=.slice A pre.length c∧v=.slice B pre.length d∧ChL w x.ss js w1.heap.size pre rest s g A c B d Cs wr) (fun u _ _=>js.length - lenOf u)
 case atStart=>exact ⟨[],js,s0,g0,none,0,none,0,[],rfl,rfl,⟨rfl,HJ.out,World.ownsRow_nil _ _ _ _,World.ownsRow_nil _ _ _ _,(fun k hk=>by simp [Value.ownBlock] at hk),BX.out,rfl,(fun C hC=>by cases hC),F1.out⟩⟩
 case round =>
  obtain ⟨pre,rest,s,g,A,c,B,d,Cs,rfl,rfl,hR⟩:=hrel
  have HR:=hid_ hR
  have hjl:js.length=pre.length+rest.length:=by rw [hR.eq];simp
  have x0:wr.cell? ⟨w1.heap.size,0,none⟩=some (.int .i64 s):=hR.bx.cell' rfl
  have x1:wr.cell? ⟨w1.heap.size,1,none⟩=some (.int .i64 g):=hR.bx.cell' rfl
  have hq:=neq_ref
  have hli:=hR.li
  clear hR
  cases rest with
  | nil =>
   obtain ⟨rfl,rfl⟩:=hli
   go_wp2_with fail
   have heq:js=pre:=by have:=HR.out.eq;simpa using this
   subst heq
   go_ret3
   exact ⟨A,c,B,d,Cs,rfl,HR.out.cs,HR.out.l,HR.out.r,HR.out.own,HR.out.f⟩
  | cons j rest =>
   obtain ⟨rfl,y,hy,hu,hg,hli'⟩:=hli
   have HY:=hid_ (And.intro hy (And.intro hu (And.intro hg hli')))
   have d0:(((j:Int)+1)==0)=false:=by simp;omega
   have hne:((pre.length:Int)==(l.s:Int))=false:=by simp at hjl ⊢;omega
   have M1:=hid_ (H.out.keep HR.out.f)
   have m1:wr.cell? ⟨m,1,none⟩=some (.int .i64 (l.s:Int)):=M1.out.b.cell' rfl
   clear hy hu hg hli'
   go_upto_region 11 with fail
   clear m1
   have m7:wr.cell? ⟨m,7,none⟩=some (.pointer (some ⟨x.a,0,none⟩)):=M1.out.b.cell' rfl
   go_cut [11,12] (fun u v wq=>∃ (b:Nat) (C:Cr),u=.pointer (some ⟨b,0,none⟩)∧v=.nilIface∧wr.heap.size≤b∧C.R=y.R∧Blk wq b 51 (crA C)∧RecOwn wq 0 C.R (.slice C.A C.R.rows.length C.c) (.slice C.B C.R.ents.length C.d)∧Fr none_ wr wq)
   case first =>
    have hS1:(fun w':World=>Fr none_ wr w') wr.drew:=(Fr.refl none_ wr).drew
    refine wp_region_U (m:=12) (S:=fun w':World=>Fr none_ wr w') (by kernel_rfl) ?_
    refine wpAnyU_take2 (i:=0) (v:=_) rfl (by kernel_rfl) (by kernel_rfl) (by kernel_rfl) (by kernel_rfl) (fun _ _ _ h=>h) (.inl ⟨by kernel_rfl,fun w' hS=>by go_simp;rfl⟩) hS1 ?_
    refine wpAnyU_take2 (i:=1) (v:=_) rfl (by kernel_rfl) (by kernel_rfl) (by kernel_rfl) (by kernel_rfl) (fun _ _ _ h=>h) (.inl ⟨by kernel_rfl,fun w' hS=>by go_simp;rfl⟩) hS1 ?_
    refine wpAnyU_take2 (i:=2) (v:=_) rfl (by kernel_rfl) (by kernel_rfl) (by kernel_rfl) (by kernel_rfl) (fun _ _ _ h=>h) (.inl ⟨by kernel_rfl,fun w' hS=>by go_simp;rfl⟩) hS1 ?_
    refine wpAnyU_take2 (i:=3) (v:=_) rfl (by kernel_rfl) (by kernel_rfl) (by kernel_rfl) (by kernel_rfl) (fun _ _ _ h=>h) (.inl ⟨by kernel_rfl,fun w' hS=>by have s_7:=cellFr m7 hS;go_simp;rfl⟩) hS1 ?_
    refine wpAnyU_take2 (i:=4) (v:=_) rfl (by kernel_rfl) (by kernel_rfl) (by kernel_rfl) (by kernel_rfl) (fun _ _ _ h=>h) (.inl ⟨by kernel_rfl,fun w' hS=>by have s_0:=cellFr x0 hS;have s_1:=cellFr x1 hS;go_simp;rfl⟩) hS1 ?_
    clear m7 x0 x1
    refine wpAnyU_two (i:=5) (j:=9) rfl rfl rfl rfl (by kernel_rfl) ?_ ?_
    ·go_simp
     refine (load_ok ((j:Int)+1) g (M1.out.ar.keep (Fr.refl none_ wr).drew) HY.out.1 rfl HY.out.2.1 HY.out.2.2.1).mono ?_
     rintro e w3 ⟨A2,c2,B2,d2,rfl,ho2,hf2⟩
     have fS:=(Fr.refl none_ wr).drew.then_none hf2
     have RO:=hid_ ho2
     refine ⟨fS,?_⟩
     have hb:wr.heap.size≤w3.heap.size:=fS.size
     clear ho2 hf2 hS1
     refine wpAnyU_take2 (i:=6) (v:=_) rfl (by kernel_rfl) (by kernel_rfl) (by kernel_rfl) (by kernel_rfl) (fun _ _ _ h=>h) (.inl ⟨by kernel_rfl,fun w' hS=>by go_simp;rfl⟩) fS ?_
     refine wpAnyU_take2 (i:=7) (v:=_) rfl (by kernel_rfl) (by kernel_rfl) (by kernel_rfl) (by kernel_rfl) (fun _ _ _ h=>h) (.inl ⟨by kernel_rfl,fun w' hS=>by go_simp;rfl⟩) fS ?_
     refine wpAnyU_take2 (i:=8) (v:=_) rfl (by kernel_rfl) (by kernel_rfl) (by kernel_rfl) (by kernel_rfl) (fun _ _ _ h=>h) (.inl ⟨by kernel_rfl,fun w' hS=>by go_simp;rfl⟩) fS ?_
     refine wpAnyU_oneW (i:=9) rfl (by kernel_rfl) (by kernel_rfl) ?_
     go_simp
     refine ⟨fS.alloc _,?_⟩
     obtain ⟨w4,hw4⟩:∃ z,z=w3.alloc (.cells recZ 51):=⟨_,rfl⟩
     have f4:Fr none_ w3 w4:=by rw [hw4];exact (Fr.refl none_ w3).alloc _
     have BT:Hid (Blk w4 w3.heap.size 51 recZ):=hid_ (by rw [hw4];exact Blk.new w3 _ _)
     replace RO:=hid_ (RO.out.keep f4)
     replace fS:=fS.then_none f4
     change wpAnyU _ _ _ _ _ _ _ _ _ (w3.alloc (.cells recZ 51))
     rw [← hw4]
     clear hw4 f4
     refine wpAnyU_oneW (i:=10) rfl (by kernel_rfl) (by kernel_rfl) ?_
     refine wp_store_mid 51 (.tmp 11) (.tmp 49) rfl w3.heap.size 0 (crA ⟨y.R,A2,c2,B2,d2⟩) rfl rfl (BT.out.there9 rfl) rec_size (by simp [Value.oneCell']) ?_
     obtain ⟨w5,hw5⟩:∃ z,z=w4.setCells (w3.heap.size) 0 (crA ⟨y.R,A2,c2,B2,d2⟩).toList:=⟨_,rfl⟩
     have ov:=BT.out.over9 (crA ⟨y.R,A2,c2,B2,d2⟩).toList rfl
     rw [← hw5] at ov
     have fS5:=fS.then_only ov.2 (.inr hb)
     have OV:=hid_ (And.intro (show Blk w5 (w3.heap.size) 51 (crA ⟨y.R,A2,c2,B2,d2⟩) from ov.1) (RO.out.only ov.2 BT.out (by decide) (by decide)))
     refine ⟨.inr (by rw [← hw5];exact fS5),?_⟩
     change wpAnyU _ _ _ _ _ _ _ _ _ (w4.setCells (w3.heap.size) 0 (crA ⟨y.R,A2,c2,B2,d2⟩).toList)
     rw [← hw5]
     clear hw5 ov
     refine wpAnyU_take2 (i:=11) (v:=_) rfl (by kernel_rfl) (by kernel_rfl) (by kernel_rfl) (by kernel_rfl) (fun _ _ _ h=>h) (.inl ⟨by kernel_rfl,fun w' hS=>by go_simp;rfl⟩) fS5 ?_
     refine wpAnyU_done (by kernel_rfl) ?_ _
     go_wp2_with fail
     go_meet
     exact ⟨_,⟨y.R,A2,c2,B2,d2⟩,rfl,rfl,hb,rfl,OV.out.1,OV.out.2.base (Nat.zero_le _),fS5⟩
    ·go_simp
     refine ⟨((Fr.refl none_ wr).alloc _).drew,?_⟩
     obtain ⟨w3,hw3⟩:∃ z,z=(wr.alloc (.cells recZ 51)).drew:=⟨_,rfl⟩
     have f3:Fr none_ wr w3:=by rw [hw3];exact ((Fr.refl none_ wr).alloc _).drew
     have BT:Hid (Blk w3 wr.heap.size 51 recZ):=hid_ (by rw [hw3];exact (Blk.new wr _ _).drew)
     change wpAnyU _ _ _ _ _ _ _ _ _ ((wr.alloc (.cells recZ 51)).drew)
     rw [← hw3]
     clear hw3 hS1
     refine wpAnyU_oneW (i:=5) rfl (by kernel_rfl) (by kernel_rfl) ?_
     go_simp
     refine (load_ok ((j:Int)+1) g (M1.out.ar.keep f3) HY.out.1 rfl HY.out.2.1 HY.out.2.2.1).mono ?_
     rintro e w4 ⟨A2,c2,B2,d2,rfl,ho2,hf2⟩
     have fS:=f3.then_none hf2
     have RO:=hid_ ho2
     refine ⟨fS,?_⟩
     have hb:wr.heap.size≤wr.heap.size:=Nat.le_refl _
     replace BT:=hid_ (BT.out.fr hf2 id)
     clear ho2 hf2 f3
     refine wpAnyU_take2 (i:=6) (v:=_) rfl (by kernel_rfl) (by kernel_rfl) (by kernel_rfl) (by kernel_rfl) (fun _ _ _ h=>h) (.inl ⟨by kernel_rfl,fun w' hS=>by go_simp;rfl⟩) fS ?_
     refine wpAnyU_take2 (i:=7) (v:=_) rfl (by kernel_rfl) (by kernel_rfl) (by kernel_rfl) (by kernel_rfl) (fun _ _ _ h=>h) (.inl ⟨by kernel_rfl,fun w' hS=>by go_simp;rfl⟩) fS ?_
     refine wpAnyU_take2 (i:=8) (v:=_) rfl (by kernel_rfl) (by kernel_rfl) (by kernel_rfl) (by kernel_rfl) (fun _ _ _ h=>h) (.inl ⟨by kernel_rfl,fun w' hS=>by go_simp;rfl⟩) fS ?_
     refine wpAnyU_oneW (i:=10) rfl (by kernel_rfl) (by kernel_rfl) ?_
     refine wp_store_mid 51 (.tmp 11) (.tmp 49) rfl wr.heap.size 0 (crA ⟨y.R,A2,c2,B2,d2⟩) rfl rfl (BT.out.there9 rfl) rec_size (by simp [Value.oneCell']) ?_
     obtain ⟨w5,hw5⟩:∃ z,z=w4.setCells (wr.heap.size) 0 (crA ⟨y.R,A2,c2,B2,d2⟩).toList:=⟨_,rfl⟩
     have ov:=BT.out.over9 (crA ⟨y.R,A2,c2,B2,d2⟩).toList rfl
     rw [← hw5] at ov
     have fS5:=fS.then_only ov.2 (.inr hb)
     have OV:=hid_ (And.intro (show Blk w5 (wr.heap.size) 51 (crA ⟨y.R,A2,c2,B2,d2⟩) from ov.1) (RO.out.only ov.2 BT.out (by decide) (by decide)))
     refine ⟨.inr (by rw [← hw5];exact fS5),?_⟩
     change wpAnyU _ _ _ _ _ _ _ _ _ (w4.setCells (wr.heap.size) 0 (crA ⟨y.R,A2,c2,B2,d2⟩).toList)
     rw [← hw5]
     clear hw5 ov
     refine wpAnyU_take2 (i:=11) (v:=_) rfl (by kernel_rfl) (by kernel_rfl) (by kernel_rfl) (by kernel_rfl) (fun _ _ _ h=>h) (.inl ⟨by kernel_rfl,fun w' hS=>by go_simp;rfl⟩) fS5 ?_
     refine wpAnyU_done (by kernel_rfl) ?_ _
     go_wp2_with fail
     go_meet
     exact ⟨_,⟨y.R,A2,c2,B2,d2⟩,rfl,rfl,hb,rfl,OV.out.1,OV.out.2.base (Nat.zero_le _),fS5⟩
   case rest =>
    obtain ⟨b,C,rfl,rfl,hb,hCR,hbt,hown,hf11⟩:=hcut
    have F0:=hid_ (HR.out.f.then_none hf11)
    have hlb:∀ k,(Value.slice A pre.length c).ownBlock=some k→k≠b:=fun k hk=>by have:=(HR.out.l.lt k hk).2;omega
    have P0:Hid (Ch9 w w1.heap.size b #[.int .i64 ((j:Int)+1),.int .i64 g] (crA C) (.slice A pre.length c) pre.length (crFlat Cs) (.slice B pre.length d) pre.length (rf9Flat (pre.map (refOf x.ss))) Cs wc):=hid_ ⟨own_none HR.out.l hf11,own_none HR.out.r hf11,hlb,HR.out.nr,HR.out.bx.fr hf11 id,hbt,fun C hC=>(HR.out.own C hC).keep hf11,F0.out⟩
    have NW:=hid_ hown
    have HC:=hid_ hCR
    clear hbt hown hf11 hlb F0 m7 x0 x1 M1 hCR
    go_upto_region 14 with fail
    go_cut [9,10] (fun u v wq=>∃ (A':Option Addr) (c':Nat) (B':Option Addr) (d':Nat),u=.slice A' (pre.length+1) c'∧v=.slice B' (pre.length+1) d'∧Ch9 w w1.heap.size b #[.int .i64 ((j:Int)+1),.int .i64 g] (crA C) (.slice A' (pre.length+1) c') (pre.length+1) (crFlat Cs ++ (crA C).toList) (.slice B' (pre.length+1) d') (pre.length+1) (rf9Flat (pre.map (refOf x.ss)) ++ [.int .i64 ((j:Int)+1),.int .i64 g]) Cs wq∧RecOwn wq 0 C.R (.slice C.A C.R.rows.length C.c) (.slice C.B C.R.ents.length C.d))
    case first =>
     have hS1:(fun w':World=>Blk w' b 51 (crA C)∧Blk w' w1.heap.size 36 #[.int .i64 ((j:Int)+1),.int .i64 g]) wc.drew:=⟨P0.out.bt.drew,P0.out.bx.drew⟩
     refine wp_region_U (m:=10) (S:=(fun w':World=>Blk w' b 51 (crA C)∧Blk w' w1.heap.size 36 #[.int .i64 ((j:Int)+1),.int .i64 g])) (by kernel_rfl) ?_
     refine wpAnyU_take2 (i:=0) (v:=_) rfl (by kernel_rfl) (by kernel_rfl) (by kernel_rfl) (by kernel_rfl) (fun _ _ _ h=>h) (.inl ⟨by kernel_rfl,fun w' hS=>by go_simp;rfl⟩) hS1 ?_
     refine wpAnyU_take2 (i:=1) (v:=_) rfl (by kernel_rfl) (by kernel_rfl) (by kernel_rfl) (by kernel_rfl) (fun _ _ _ h=>h) (.inl ⟨by kernel_rfl,fun w' hS=>by have s_0:w'.cell? ⟨b,0,none⟩=some (.int .i64 C.R.kind):=hS.1.cell' rfl;have s_1:w'.cell? ⟨b,1,none⟩=some (.string C.R.low):=hS.1.cell' rfl;have s_2:w'.cell? ⟨b,2,none⟩=some (.string C.R.high):=hS.1.cell' rfl;have s_3:w'.cell? ⟨b,3,none⟩=some (.bool C.R.unb):=hS.1.cell' rfl;have s_4:w'.cell? ⟨b,4,none⟩=some (.int .i64 C.R.right):=hS.1.cell' rfl;have s_5:w'.cell? ⟨b,5,none⟩=some (.slice C.A C.R.rows.length C.c):=hS.1.cell' rfl;have s_6:w'.cell? ⟨b,6,none⟩=some (.slice C.B C.R.ents.length C.d):=hS.1.cell' rfl;have s_7:w'.cell? ⟨b,7,none⟩=some (.string C.R.key):=hS.1.cell' rfl;have s_8:w'.cell? ⟨b,8,none⟩=some (.string C.R.val):=hS.1.cell' rfl;have s_9:w'.cell? ⟨b,9,none⟩=some (.int .i64 C.R.page):=hS.1.cell' rfl;have s_10:w'.cell? ⟨b,10,none⟩=some (.int .i64 C.R.hpage):=hS.1.cell' rfl;have s_11:w'.cell? ⟨b,11,none⟩=some (.int .i64 C.R.hleft):=hS.1.cell' rfl;have s_12:w'.cell? ⟨b,12,none⟩=some (.string C.R.hkey):=hS.1.cell' rfl;have s_13:w'.cell? ⟨b,13,none⟩=some (.int .i64 C.R.nslot):=hS.1.cell' rfl;have s_14:w'.cell? ⟨b,14,none⟩=some (.int .i64 C.R.ngen):=hS.1.cell' rfl;go_simp;rfl⟩) hS1 ?_
     refine wpAnyU_take2 (i:=4) (v:=_) rfl (by kernel_rfl) (by kernel_rfl) (by kernel_rfl) (by kernel_rfl) (fun _ _ _ h=>h) (.inl ⟨by kernel_rfl,fun w' hS=>by go_simp;rfl⟩) hS1 ?_
     refine wpAnyU_take2 (i:=5) (v:=_) rfl (by kernel_rfl) (by kernel_rfl) (by kernel_rfl) (by kernel_rfl) (fun _ _ _ h=>h) (.inl ⟨by kernel_rfl,fun w' hS=>by have s_0:w'.cell? ⟨w1.heap.size,0,none⟩=some (.int .i64 ((j:Int)+1)):=hS.2.cell' rfl;have s_1:w'.cell? ⟨w1.heap.size,1,none⟩=some (.int .i64 g):=hS.2.cell' rfl;go_simp;rfl⟩) hS1 ?_
     replace P0:=hid_ (P0.out.keep (Fr.refl none_ wc).drew)
     replace NW:=hid_ (NW.out.keep (Fr.refl none_ wc).drew)
     obtain ⟨we,hwe⟩:∃ z,z=wc.drew:=⟨_,rfl⟩
     rw [← hwe] at P0 NW hS1
     change wpAnyU _ _ _ _ _ _ _ _ _ wc.drew
     rw [← hwe]
     clear hwe hS1
     refine wpAnyU_two (i:=2) (j:=6) rfl rfl rfl rfl (by kernel_rfl) ?_ ?_
     ·skip
      go_simp
      obtain ⟨wb1,hz⟩:∃ z,z=we.alloc (.cells #[.int .i64 C.R.kind,.string C.R.low,.string C.R.high,.bool C.R.unb,.int .i64 C.R.right,.slice C.A C.R.rows.length C.c,.slice C.B C.R.ents.length C.d,.string C.R.key,.string C.R.val,.int .i64 C.R.page,.int .i64 C.R.hpage,.int .i64 C.R.hleft,.string C.R.hkey,.int .i64 C.R.nslot,.int .i64 C.R.ngen] 51):=⟨_,rfl⟩
      have fz:Fr none_ we wb1:=by rw [hz];exact (Fr.refl none_ we).alloc _
      have PL:Hid (Blk wb1 we.heap.size 51 #[.int .i64 C.R.kind,.string C.R.low,.string C.R.high,.bool C.R.unb,.int .i64 C.R.right,.slice C.A C.R.rows.length C.c,.slice C.B C.R.ents.length C.d,.string C.R.key,.string C.R.val,.int .i64 C.R.page,.int .i64 C.R.hpage,.int .i64 C.R.hleft,.string C.R.hkey,.int .i64 C.R.nslot,.int .i64 C.R.ngen]):=hid_ (by rw [hz];exact Blk.new we _ _)
      replace P0:=hid_ (P0.out.keep fz)
      replace NW:=hid_ (NW.out.keep fz)
      rw [← hz]
      refine ⟨⟨P0.out.bt,P0.out.bx⟩,?_⟩
      clear hz fz
      refine wpAnyU_two (i:=3) (j:=6) rfl rfl rfl rfl (by kernel_rfl) ?_ ?_
      ·skip
       skip -- 3
       refine wp_append_at _ (.tmp 57) (.tmp 59) 67 rfl w.heap.size 51 i0 _ 15 192 Tryz.underlying67 Hi.out.1 Hi.out.2.1 Hi.out.2.2.1 Hi.out.2.2.2 rfl (by omega) _ _ _ rfl P0.out.l (some ⟨we.heap.size,0,none⟩) 1 1 (crA C).toList rfl (reads_blk9 PL.out) (cr_one C) (by simp only [maxLen];omega) (by omega) P0.out.f.size ?_
       intro v2 wp2 hown hgr hat
       replace NW:=hid_ (NW.out.grown P0.out.l (by decide) (by decide) hgr)
       replace P0:=hid_ (P0.out.putL hown hgr hat)
       refine ⟨.inr ⟨P0.out.bt,P0.out.bx⟩,?_⟩
       clear hown hgr hat
       refine wpAnyU_oneW (i:=6) rfl (by kernel_rfl) (by kernel_rfl) ?_
       go_simp
       obtain ⟨wb3,hz⟩:∃ z,z=wp2.alloc (.cells #[.int .i64 ((j:Int)+1),.int .i64 g] 36):=⟨_,rfl⟩
       have fz:Fr none_ wp2 wb3:=by rw [hz];exact (Fr.refl none_ wp2).alloc _
       have PR:Hid (Blk wb3 wp2.heap.size 36 #[.int .i64 ((j:Int)+1),.int .i64 g]):=hid_ (by rw [hz];exact Blk.new wp2 _ _)
       replace P0:=hid_ (P0.out.keep fz)
       replace NW:=hid_ (NW.out.keep fz)
       rw [← hz]
       refine ⟨⟨P0.out.bt,P0.out.bx⟩,?_⟩
       clear hz fz
       refine wpAnyU_oneW (i:=7) rfl (by kernel_rfl) (by kernel_rfl) ?_
       refine wp_append_at _ (.tmp 61) (.tmp 63) 68 rfl w.heap.size 36 j0 _ 2 16 Tryz.underlying68 Hj.out.1 Hj.out.2.1 Hj.out.2.2.1 Hj.out.2.2.2 rfl (by omega) _ _ _ rfl P0.out.r (some ⟨wp2.heap.size,0,none⟩) 1 1 [.int .i64 ((j:Int)+1),.int .i64 g] rfl (reads_blk9 PR.out) (by simp [Value.oneCell']) (by simp only [maxLen];omega) (by omega) P0.out.f.size ?_
       intro v4 wp4 hown hgr hat
       replace NW:=hid_ (NW.out.grown P0.out.r (by decide) (by decide) hgr)
       replace P0:=hid_ (P0.out.putR hown hgr hat)
       refine ⟨.inr ⟨P0.out.bt,P0.out.bx⟩,?_⟩
       clear hown hgr hat
       have hS2:(fun w':World=>Blk w' b 51 (crA C)∧Blk w' w1.heap.size 36 #[.int .i64 ((j:Int)+1),.int .i64 g]) wp4:=⟨P0.out.bt,P0.out.bx⟩
       obtain ⟨A',c',e1⟩:=P0.out.l.shape
       obtain ⟨B',d',e2⟩:=P0.out.r.shape
       subst e1
       subst e2
       refine wpAnyU_take2 (i:=8) (v:=_) rfl (by kernel_rfl) (by kernel_rfl) (by kernel_rfl) (by kernel_rfl) (fun _ _ _ h=>h) (.inl ⟨by kernel_rfl,fun w' hS=>by go_simp;rfl⟩) hS2 ?_
       refine wpAnyU_take2 (i:=9) (v:=_) rfl (by kernel_rfl) (by kernel_rfl) (by kernel_rfl) (by kernel_rfl) (fun _ _ _ h=>h) (.inl ⟨by kernel_rfl,fun w' hS=>by go_simp;rfl⟩) hS2 ?_
       refine wpAnyU_done (by kernel_rfl) ?_ _
       go_wp2_with fail
       go_meet
       exact ⟨A',c',B',d',rfl,rfl,P0.out,NW.out⟩
      ·skip
       go_simp
       obtain ⟨wb5,hz⟩:∃ z,z=wb1.alloc (.cells #[.int .i64 ((j:Int)+1),.int .i64 g] 36):=⟨_,rfl⟩
       have fz:Fr none_ wb1 wb5:=by rw [hz];exact (Fr.refl none_ wb1).alloc _
       have PR:Hid (Blk wb5 wb1.heap.size 36 #[.int .i64 ((j:Int)+1),.int .i64 g]):=hid_ (by rw [hz];exact Blk.new wb1 _ _)
       replace PL:=hid_ (PL.out.fr fz id)
       replace P0:=hid_ (P0.out.keep fz)
       replace NW:=hid_ (NW.out.keep fz)
       rw [← hz]
       refine ⟨⟨P0.out.bt,P0.out.bx⟩,?_⟩
       clear hz fz
       refine wpAnyU_oneW (i:=3) rfl (by kernel_rfl) (by kernel_rfl) ?_
       refine wp_append_at _ (.tmp 57) (.tmp 59) 67 rfl w.heap.size 51 i0 _ 15 192 Tryz.underlying67 Hi.out.1 Hi.out.2.1 Hi.out.2.2.1 Hi.out.2.2.2 rfl (by omega) _ _ _ rfl P0.out.l (some ⟨we.heap.size,0,none⟩) 1 1 (crA C).toList rfl (reads_blk9 PL.out) (cr_one C) (by simp only [maxLen];omega) (by omega) P0.out.f.size ?_
       intro v6 wp6 hown hgr hat
       replace PR:=hid_ (PR.out.grown hgr (Ne.symm (own_blk_ne P0.out.l PR.out (by decide))))
       replace NW:=hid_ (NW.out.grown P0.out.l (by decide) (by decide) hgr)
       replace P0:=hid_ (P0.out.putL hown hgr hat)
       refine ⟨.inr ⟨P0.out.bt,P0.out.bx⟩,?_⟩
       clear hown hgr hat
       refine wpAnyU_oneW (i:=7) rfl (by kernel_rfl) (by kernel_rfl) ?_
       refine wp_append_at _ (.tmp 61) (.tmp 63) 68 rfl w.heap.size 36 j0 _ 2 16 Tryz.underlying68 Hj.out.1 Hj.out.2.1 Hj.out.2.2.1 Hj.out.2.2.2 rfl (by omega) _ _ _ rfl P0.out.r (some ⟨wb1.heap.size,0,none⟩) 1 1 [.int .i64 ((j:Int)+1),.int .i64 g] rfl (reads_blk9 PR.out) (by simp [Value.oneCell']) (by simp only [maxLen];omega) (by omega) P0.out.f.size ?_
       intro v7 wp7 hown hgr hat
       replace NW:=hid_ (NW.out.grown P0.out.r (by decide) (by decide) hgr)
       replace P0:=hid_ (P0.out.putR hown hgr hat)
       refine ⟨.inr ⟨P0.out.bt,P0.out.bx⟩,?_⟩
       clear hown hgr hat
       have hS2:(fun w':World=>Blk w' b 51 (crA C)∧Blk w' w1.heap.size 36 #[.int .i64 ((j:Int)+1),.int .i64 g]) wp7:=⟨P0.out.bt,P0.out.bx⟩
       obtain ⟨A',c',e1⟩:=P0.out.l.shape
       obtain ⟨B',d',e2⟩:=P0.out.r.shape
       subst e1
       subst e2
       refine wpAnyU_take2 (i:=8) (v:=_) rfl (by kernel_rfl) (by kernel_rfl) (by kernel_rfl) (by kernel_rfl) (fun _ _ _ h=>h) (.inl ⟨by kernel_rfl,fun w' hS=>by go_simp;rfl⟩) hS2 ?_
       refine wpAnyU_take2 (i:=9) (v:=_) rfl (by kernel_rfl) (by kernel_rfl) (by kernel_rfl) (by kernel_rfl) (fun _ _ _ h=>h) (.inl ⟨by kernel_rfl,fun w' hS=>by go_simp;rfl⟩) hS2 ?_
       refine wpAnyU_done (by kernel_rfl) ?_ _
       go_wp2_with fail
       go_meet
       exact ⟨A',c',B',d',rfl,rfl,P0.out,NW.out⟩
     ·skip
      go_simp
      obtain ⟨wb8,hz⟩:∃ z,z=we.alloc (.cells #[.int .i64 ((j:Int)+1),.int .i64 g] 36):=⟨_,rfl⟩
      have fz:Fr none_ we wb8:=by rw [hz];exact (Fr.refl none_ we).alloc _
      have PR:Hid (Blk wb8 we.heap.size 36 #[.int .i64 ((j:Int)+1),.int .i64 g]):=hid_ (by rw [hz];exact Blk.new we _ _)
      replace P0:=hid_ (P0.out.keep fz)
      replace NW:=hid_ (NW.out.keep fz)
      rw [← hz]
      refine ⟨⟨P0.out.bt,P0.out.bx⟩,?_⟩
      clear hz fz
      refine wpAnyU_oneW (i:=2) rfl (by kernel_rfl) (by kernel_rfl) ?_
      go_simp
      obtain ⟨wb9,hz⟩:∃ z,z=wb8.alloc (.cells #[.int .i64 C.R.kind,.string C.R.low,.string C.R.high,.bool C.R.unb,.int .i64 C.R.right,.slice C.A C.R.rows.length C.c,.slice C.B C.R.ents.length C.d,.string C.R.key,.string C.R.val,.int .i64 C.R.page,.int .i64 C.R.hpage,.int .i64 C.R.hleft,.string C.R.hkey,.int .i64 C.R.nslot,.int .i64 C.R.ngen] 51):=⟨_,rfl⟩
      have fz:Fr none_ wb8 wb9:=by rw [hz];exact (Fr.refl none_ wb8).alloc _
      have PL:Hid (Blk wb9 wb8.heap.size 51 #[.int .i64 C.R.kind,.string C.R.low,.string C.R.high,.bool C.R.unb,.int .i64 C.R.right,.slice C.A C.R.rows.length C.c,.slice C.B C.R.ents.length C.d,.string C.R.key,.string C.R.val,.int .i64 C.R.page,.int .i64 C.R.hpage,.int .i64 C.R.hleft,.string C.R.hkey,.int .i64 C.R.nslot,.int .i64 C.R.ngen]):=hid_ (by rw [hz];exact Blk.new wb8 _ _)
      replace PR:=hid_ (PR.out.fr fz id)
      replace P0:=hid_ (P0.out.keep fz)
      replace NW:=hid_ (NW.out.keep fz)
      rw [← hz]
      refine ⟨⟨P0.out.bt,P0.out.bx⟩,?_⟩
      clear hz fz
      refine wpAnyU_oneW (i:=3) rfl (by kernel_rfl) (by kernel_rfl) ?_
      refine wp_append_at _ (.tmp 57) (.tmp 59) 67 rfl w.heap.size 51 i0 _ 15 192 Tryz.underlying67 Hi.out.1 Hi.out.2.1 Hi.out.2.2.1 Hi.out.2.2.2 rfl (by omega) _ _ _ rfl P0.out.l (some ⟨wb8.heap.size,0,none⟩) 1 1 (crA C).toList rfl (reads_blk9 PL.out) (cr_one C) (by simp only [maxLen];omega) (by omega) P0.out.f.size ?_
      intro v10 wp10 hown hgr hat
      replace PR:=hid_ (PR.out.grown hgr (Ne.symm (own_blk_ne P0.out.l PR.out (by decide))))
      replace NW:=hid_ (NW.out.grown P0.out.l (by decide) (by decide) hgr)
      replace P0:=hid_ (P0.out.putL hown hgr hat)
      refine ⟨.inr ⟨P0.out.bt,P0.out.bx⟩,?_⟩
      clear hown hgr hat
      refine wpAnyU_oneW (i:=7) rfl (by kernel_rfl) (by kernel_rfl) ?_
      refine wp_append_at _ (.tmp 61) (.tmp 63) 68 rfl w.heap.size 36 j0 _ 2 16 Tryz.underlying68 Hj.out.1 Hj.out.2.1 Hj.out.2.2.1 Hj.out.2.2.2 rfl (by omega) _ _ _ rfl P0.out.r (some ⟨we.heap.size,0,none⟩) 1 1 [.int .i64 ((j:Int)+1),.int .i64 g] rfl (reads_blk9 PR.out) (by simp [Value.oneCell']) (by simp only [maxLen];omega) (by omega) P0.out.f.size ?_
      intro v11 wp11 hown hgr hat
      replace NW:=hid_ (NW.out.grown P0.out.r (by decide) (by decide) hgr)
      replace P0:=hid_ (P0.out.putR hown hgr hat)
      refine ⟨.inr ⟨P0.out.bt,P0.out.bx⟩,?_⟩
      clear hown hgr hat
      have hS2:(fun w':World=>Blk w' b 51 (crA C)∧Blk w' w1.heap.size 36 #[.int .i64 ((j:Int)+1),.int .i64 g]) wp11:=⟨P0.out.bt,P0.out.bx⟩
      obtain ⟨A',c',e1⟩:=P0.out.l.shape
      obtain ⟨B',d',e2⟩:=P0.out.r.shape
      subst e1
      subst e2
      refine wpAnyU_take2 (i:=8) (v:=_) rfl (by kernel_rfl) (by kernel_rfl) (by kernel_rfl) (by kernel_rfl) (fun _ _ _ h=>h) (.inl ⟨by kernel_rfl,fun w' hS=>by go_simp;rfl⟩) hS2 ?_
      refine wpAnyU_take2 (i:=9) (v:=_) rfl (by kernel_rfl) (by kernel_rfl) (by kernel_rfl) (by kernel_rfl) (fun _ _ _ h=>h) (.inl ⟨by kernel_rfl,fun w' hS=>by go_simp;rfl⟩) hS2 ?_
      refine wpAnyU_done (by kernel_rfl) ?_ _
      go_wp2_with fail
      go_meet
      exact ⟨A',c',B',d',rfl,rfl,P0.out,NW.out⟩
    case rest =>
     obtain ⟨A',c',B',d',rfl,rfl,hP,hN⟩:=hcut
     have P1:=hid_ hP
     have N1:=hid_ hN
     have z13:wc.cell? ⟨b,13,none⟩=some (.int .i64 C.R.nslot):=hP.bt.cell' rfl
     have z14:wc.cell? ⟨b,14,none⟩=some (.int .i64 C.R.ngen):=hP.bt.cell' rfl
     have y0:=hP.bx.frozen 0
     have y1:=hP.bx.frozen 1
     have x0:wc.cell? ⟨w1.heap.size,0,none⟩=some (.int .i64 ((j:Int)+1)):=hP.bx.cell' rfl
     have x1:wc.cell? ⟨w1.heap.size,1,none⟩=some (.int .i64 g):=hP.bx.cell' rfl
     clear hP hN
     go_wp2_with fail
     obtain ⟨wS,hwS⟩:∃ z,z=(wc.setCell ⟨w1.heap.size,0,none⟩ (.int .i64 C.R.nslot)).setCell ⟨w1.heap.size,1,none⟩ (.int .i64 C.R.ngen):=⟨_,rfl⟩
     have hb2:=box2 P1.out.bx (.int .i64 C.R.nslot) (.int .i64 C.R.ngen)
     rw [← hwS] at hb2
     have B2:=hid_ hb2
     have hlen:(pre ++ [j]).length=pre.length+1:=by simp
     have hL:ChL w x.ss js w1.heap.size (pre ++ [j]) rest C.R.nslot C.R.ngen A' c' B' d' (Cs ++ [C]) wS:=by
      refine ⟨by rw [HR.out.eq];simp,by rw [HC.out];exact HY.out.2.2.2,?_,?_,?_,B2.out.1,?_,?_,P1.out.f.then_only B2.out.2 (.inr hsw1)⟩
      ·rw [hlen,crFlat_snoc]
       exact own_fr P1.out.l B2.out.2 (fun k hk e=>own_blk_ne P1.out.l P1.out.bx (by decide) (by rw [hk];exact congrArg some e))
      ·rw [hlen,List.map_append,List.map_cons,List.map_nil,rf9Flat_snoc]
       have e1:refOf x.ss j=((j:Int)+1,g):=by unfold refOf;rw [slotD HY.out.1,HY.out.2.2.1]
       rw [e1]
       exact own_fr P1.out.r B2.out.2 (fun k hk e=>P1.out.nr k hk e)
      ·rw [hlen]
       exact P1.out.nr
      ·rw [List.map_append,List.map_append,HR.out.cs]
       have e1:recOf x.ss j=C.R:=by unfold recOf;rw [slotD HY.out.1,HC.out]
       simp [e1]
      ·intro D hD
       rcases List.mem_append.1 hD with hD | hD
       ·exact (P1.out.own D hD).only B2.out.2 P1.out.bx (by decide) (by decide)
       ·obtain rfl:D=C:=by simpa using hD
        exact N1.out.only B2.out.2 P1.out.bx (by decide) (by decide)
     have HL:=hid_ hL
     clear hL hb2 z13 z14 y0 y1 x0 x1
     clear B2
     subst hwS
     go_roundw
     case rel=>exact ⟨pre ++ [j],rest,_,_,A',c',B',d',Cs ++ [C],by rw [hlen],by rw [hlen],HL.out⟩
     case measure=>simp [lenOf];simp at hjl;omega
open Go.RowKit

def errOf (k:Int):Value:=if k=0 then .nilIface else errV k
theorem errOf_pos {k:Int} (h:k≠0):errOf k=errV k:=if_neg h
open Go.RowKit

theorem fat_nil (p:ByteArray) (s:Int) (w:World):Calls Tryz.prog 52 #[.string p,.int .i64 s,.nilIface] w fun e w'=>e=.returned .nilIface∧w=w':=by
  go_enter Tryz.func52,Tryz.ntmps52
  go_wp2
  go_ret
  exact ⟨rfl,rfl⟩
abbrev sArena9:ByteArray:=⟨#[97,114,101,110,97]⟩
theorem fat_err (p:ByteArray) (s k:Int) (w:World):Calls Tryz.prog 52 #[.string p,.int .i64 s,errV k] w fun e w'=>e=.returned (.iface 156 (.pointer (some ⟨w.heap.size,0,none⟩)))∧Blk w' w.heap.size 158 #[.string p,.int .i64 s,errV k]∧Fr none_ w w':=by
  go_enter Tryz.func52,Tryz.ntmps52
  go_wp2
  go_ret
  exact ⟨rfl,Blk.new w _ _,(Fr.refl none_ w).alloc _⟩
abbrev sTable9:ByteArray:=⟨#[116,97,98,108,101]⟩
def pgC (ps:List Pg) (n:Int):Int:=if n < 0∨(ps.length:Int)≤n then 1 else if (ps[n.toNat]?.map (·.1)).getD false=true then 0 else 6
theorem head_bad {T H:Nat} {ps:List Pg} (n:Int) (w:World) (h:Tbl w T H ps) (hb:pgC ps n≠0):Calls Tryz.prog 51 #[.pointer (some ⟨T,0,none⟩),.int .i64 n] w fun e w'=>e=.returned (.tuple #[.agg #[.int .i64 0,.int .i64 0],errV (pgC ps n)])∧Fr none_ w w':=by
  by_cases h1:n < 0∨(ps.length:Int)≤n
  · have e:pgC ps n=1:=if_pos h1
    rw [e]
    exact head_err (some ⟨T,0,none⟩) n 1 w (fun w' hf=>mapAt_arg T H ps n w' (h.keep hf) h1)
  · obtain ⟨i,rfl⟩:∃ i:Nat,n=(i:Int):=⟨n.toNat,by omega⟩
    obtain ⟨⟨u,s,g⟩,hp⟩:∃ p,ps[i]?=some p:=⟨_,List.getElem?_eq_getElem (by omega)⟩
    cases u with
    | true =>
      have e:pgC ps (i:Int)=0:=by unfold pgC;rw [if_neg h1];simp [hp]
      exact absurd e hb
    | false =>
      have e:pgC ps (i:Int)=6:=by unfold pgC;rw [if_neg h1];simp [hp]
      rw [e]
      exact head_err (some ⟨T,0,none⟩) i 6 w (fun w' hf=>mapAt_none T H ps i s g w' (h.keep hf) hp)
def mall (m:Nat) (x:St):Nat→Prop:=fun i=>i=m∨i=x.G∨i=x.H∨i=x.C∨i=x.M
theorem mall_m {m:Nat} {x:St} {w w':World} (h:Fr (only m) w w'):Fr (mall m x) w w':=h.mono (fun _ _ e=>.inl e)
theorem mall_G {m:Nat} {x:St} {w w':World} (h:Fr (only x.G) w w'):Fr (mall m x) w w':=h.mono (fun _ _ e=>.inr (.inl e))
theorem mall_H {m:Nat} {x:St} {w w':World} (h:Fr (only x.H) w w'):Fr (mall m x) w w':=h.mono (fun _ _ e=>.inr (.inr (.inl e)))
theorem mall_tr {m:Nat} {x:St} {a b c:World} (h:Fr (mall m x) a b) (k:Fr (mall m x) b c):Fr (mall m x) a c:=h.trans k (fun _ _=>id) (fun _ _=>id)
theorem tick_mm (m:Nat) (k:Int) (l:Lm) (x:St) (w:World) (h:Mm w m k l x) (h0:0≤k) (h1:k≤100000):Calls Tryz.prog 50 #[.pointer (some ⟨m,0,none⟩)] w fun e w'=>e=.returned (.tuple #[])∧Mm w' m (k+1) l x∧Fr (mall m x) w w':=by
  have c0:w.cell? ⟨m,0,none⟩=some (.int .i64 k):=h.b.cell' rfl
  have y0:=h.b.frozen 0
  have H:=hid_ h
  clear h
  go_enter Tryz.func50,Tryz.ntmps50
  go_wp2
  exact bodyPost_end (v:=.tuple #[]) (by simp [results,Tryz.results50,go_sem]) rfl ⟨rfl,H.out.count _,mall_m (Fr.only1 w ⟨m,0,none⟩ _)⟩
theorem tick_mo (m:Nat) (k:Int) (l:Lm) (x:St) (w:World) (h:Mm w m k l x) (h0:0≤k) (h1:k≤100000):Calls Tryz.prog 50 #[.pointer (some ⟨m,0,none⟩)] w fun e w'=>e=.returned (.tuple #[])∧Mm w' m (k+1) l x∧Fr (only m) w w':=by
  have c0:w.cell? ⟨m,0,none⟩=some (.int .i64 k):=h.b.cell' rfl
  have y0:=h.b.frozen 0
  have H:=hid_ h
  clear h
  go_enter Tryz.func50,Tryz.ntmps50
  go_wp2
  exact bodyPost_end (v:=.tuple #[]) (by simp [results,Tryz.results50,go_sem]) rfl ⟨rfl,H.out.count _,Fr.only1 w ⟨m,0,none⟩ _⟩
theorem Mm.ref {w w':World} {m:Nat} {k:Int} {l:Lm} {x:St} {b:Nat} {cs:Array Value} (h:Mm w m k l x) (hb:Blk w b 36 cs) (hf:Fr (only b) w w'):Mm w' m k l x:=by
  obtain ⟨cs',hG,_⟩:=h.ar.hG
  obtain ⟨cap,cur,hT0,hH,_⟩:=id h.tb
  exact ⟨h.b.fr hf (only_ne (Blk.ne_ h.b hb (by decide))),h.ar.beside hf hb (by decide) (by decide) (Blk.ne_ h.ar.hA hb (by decide)) (Blk.ne_ hG hb (by decide)),h.tb.fr hf (only_ne (Blk.ne_ hT0 hb (by decide))) (only_ne (Blk.ne_ hH hb (by decide))),h.ck.fr hf (only_ne (Blk.ne_ h.ck.hC hb (by decide))) (only_ne (h.ck.mne hb))⟩
def swapPs (ps:List Pg) (i:Nat) (s g a b c d:Int):List Pg:=if s=a∧g=b then ps.set i (true,c,d) else ps
theorem Mm.nref {w:World} {m:Nat} {k:Int} {l:Lm} {x:St} {b:Nat} {cs:Array Value} (h:Mm w m k l x) (hb:Blk w b 36 cs):¬ mall m x b:=by
  obtain ⟨cs,hG,_⟩:=h.ar.hG
  obtain ⟨cap,cur,hT0,hH,_⟩:=id h.tb
  rintro (e | e | e | e | e)
  · exact Blk.ne_ hb h.b (by decide) e
  · exact Blk.ne_ hb hG (by decide) e
  · exact Blk.ne_ hb hH (by decide) e
  · exact Blk.ne_ hb h.ck.hC (by decide) e
  · exact h.ck.mne hb e.symm
theorem Mm.rec9 {w w':World} {m:Nat} {k:Int} {l:Lm} {x:St} {b:Nat} {cs:Array Value} (h:Mm w m k l x) (hb:Blk w b 51 cs) (hf:Fr (only b) w w'):Mm w' m k l x:=by
  obtain ⟨cs',hG,_⟩:=h.ar.hG
  obtain ⟨cap,cur,hT0,hH,_⟩:=id h.tb
  exact ⟨h.b.fr hf (only_ne (Blk.ne_ h.b hb (by decide))),h.ar.beside hf hb (by decide) (by decide) (Blk.ne_ h.ar.hA hb (by decide)) (Blk.ne_ hG hb (by decide)),h.tb.fr hf (only_ne (Blk.ne_ hT0 hb (by decide))) (only_ne (Blk.ne_ hH hb (by decide))),h.ck.fr hf (only_ne (Blk.ne_ h.ck.hC hb (by decide))) (only_ne (h.ck.mne hb))⟩
theorem at_live {ss:List Sl} {s g:Int} (h:atC ss s g=0):∃ (j:Nat) (y:Sl),s=(j:Int)+1∧ss[j]?=some y∧y.used=true∧y.gen=g:=by
  rcases atC_cases ss s g with ⟨h1,_⟩ | ⟨i,y,h1,h2,h3⟩
  · rw [h1] at h;cases h
  · rcases h3 with ⟨h3,_⟩ | ⟨_,h4,h5⟩
    · rw [h3] at h;cases h
    · exact ⟨i,y,h1,h2,h4,h5⟩
def Ev (w:World) (v:Value) (p:ByteArray) (s c:Int):Prop:=
  (c=0∧v=.nilIface)∨(c≠0∧∃ b,v=.iface 156 (.pointer (some ⟨b,0,none⟩))∧Blk w b 158 #[.string p,.int .i64 s,errV c])
theorem Ev.fr {w w':World} {v:Value} {p:ByteArray} {s c:Int} {S:Nat→Prop} (h:Ev w v p s c) (hf:Fr S w w') (hS:∀ b cs,Blk w b 158 cs→¬ S b):Ev w' v p s c:=by
  rcases h with h | ⟨h,b,hv,hb⟩
  · exact .inl h
  · exact .inr ⟨h,b,hv,hb.fr hf (hS b _ hb)⟩
theorem Ev.keep {w w':World} {v:Value} {p:ByteArray} {s c:Int} (h:Ev w v p s c) (hf:Fr none_ w w'):Ev w' v p s c:=h.fr hf (fun _ _ _=>id)
theorem Ev.only {w w':World} {v:Value} {p:ByteArray} {s c:Int} {g:Nat} {t:TypeId} {cs:Array Value} (h:Ev w v p s c) (hf:Fr (only g) w w') (hg:Blk w g t cs) (hne:158≠t):Ev w' v p s c:=
  h.fr hf (fun b _ hb=>only_ne (Blk.ne_ hb hg hne))
theorem fat_ev (p:ByteArray) (s k:Int) (w:World):Calls Tryz.prog 52 #[.string p,.int .i64 s,errOf k] w fun e w'=>∃ v,e=.returned v∧Ev w' v p s k∧Fr none_ w w':=by
  by_cases h:k=0
  · subst h
    exact (fat_nil p s w).mono fun e w' h=>⟨_,h.1,.inl ⟨rfl,rfl⟩,by rw [← h.2];exact Fr.refl _ _⟩
  · rw [errOf_pos h]
    exact (fat_err p s k w).mono fun e w' hh=>⟨_,hh.1,.inr ⟨h,_,rfl,hh.2.1⟩,hh.2.2⟩
end Go.Proofs.YthpkbppaaagaoaaGreat
