/- Texts of one proof, merged: Base, Reads, More, Err, Open, TypesR, Rec. -/
import Derived.WalkKit
import Derived.Carry
import Derived.ProofKit
import Derived.SizedLaws
import Derived.LaidLaws
import Derived.LaidHandle
import Derived.Stop.Joined
import Derived.Deep.QuietTactic
import Derived.Deep.Slices
import Derived.Laws.OwnMore
import Derived.Deep.AppendLies
import Derived.Maps.AppendAt
import Derived.RegionTactic
import Derived.OwnWalk
import Derived.Test.YthcpccddcgbanaaGreatDoorProg
import Derived.WalkLawsBesides
import Derived.WalkSpells
import Derived.BigQuiet
import Derived.ChangeArms
namespace Go.Proofs.YthcpccddcgbanaaGreatDoor
set_option maxRecDepth 100000
set_option linter.unusedVariables false
open Go.ChangeShapes Go.WideShapes Go.RowKit

structure Fr (S:Nat→Prop) (w w':World):Prop where
  os:w'.os=w.os
  tape:w'.tape=w.tape
  output:w'.output=w.output
  size:w.heap.size≤w'.heap.size
  block:∀ k,k < w.heap.size→¬ S k→w'.heap[k]?=w.heap[k]?

theorem hid_ {p:Prop} (h:p):Hid p:=h

def none_:Nat→Prop:=fun _=>False

def only (g:Nat):Nat→Prop:=fun k=>k=g
theorem only_ne {g k:Nat} (h:k≠g):¬ only g k:=h

theorem Fr.refl (S:Nat→Prop) (w:World):Fr S w w:=⟨rfl,rfl,rfl,Nat.le_refl _,fun _ _ _=>rfl⟩
theorem Fr.mono {S S':Nat→Prop} {w w':World} (h:Fr S w w') (hs:∀ k,k < w.heap.size→S k→S' k):Fr S' w w':=
  ⟨h.os,h.tape,h.output,h.size,fun k hk hn=>h.block k hk (fun e=>hn (hs k hk e))⟩
theorem Fr.trans {S S' S'':Nat→Prop} {a b c:World} (h:Fr S a b) (k:Fr S' b c) (h1:∀ i,i < a.heap.size→S i→S'' i) (h2:∀ i,i < a.heap.size→S' i→S'' i):Fr S'' a c:=
  ⟨k.os.trans h.os,k.tape.trans h.tape,k.output.trans h.output,Nat.le_trans h.size k.size,fun i hi hn =>
    (k.block i (Nat.lt_of_lt_of_le hi h.size) (fun e=>hn (h2 i hi e))).trans (h.block i hi (fun e=>hn (h1 i hi e)))⟩
theorem Fr.then_only {S:Nat→Prop} {a b c:World} {g:Nat} (h:Fr S a b) (k:Fr (only g) b c) (hg:S g∨a.heap.size≤g):Fr S a c:=
  h.trans k (fun _ _=>id) (fun i hi e=>by
    obtain rfl:i=g:=e
    rcases hg with hg | hg
    · exact hg
    · omega)
theorem Fr.then_none {S:Nat→Prop} {a b c:World} (h:Fr S a b) (k:Fr none_ b c):Fr S a c:=h.trans k (fun _ _=>id) (fun _ _ e=>e.elim)
theorem Fr.drew {S:Nat→Prop} {a w:World} (h:Fr S a w):Fr S a w.drew:=⟨h.os,h.tape,h.output,h.size,h.block⟩
theorem Fr.drewN {S:Nat→Prop} {a w:World} (h:Fr S a w) (n:Nat):Fr S a (w.drewN n):=⟨h.os,h.tape,h.output,h.size,h.block⟩
theorem Fr.alloc {S:Nat→Prop} {a w:World} (h:Fr S a w) (o:Obj):Fr S a (w.alloc o):=
  ⟨h.os,h.tape,h.output,Nat.le_trans h.size (by simp),fun k hk hn=>(Below.heap_alloc w o k (Nat.lt_of_lt_of_le hk h.size)).trans (h.block k hk hn)⟩
theorem Fr.setCell {S:Nat→Prop} {a w:World} (h:Fr S a w) {p:Addr} (hp:S p.block∨a.heap.size≤p.block) (u:Value):Fr S a (w.setCell p u):=
  ⟨h.os,h.tape,h.output,by simpa [World.setCell] using h.size,fun k hk hn=>(Below.heap_setCell w p u k (by
    rintro rfl
    rcases hp with hp | hp
    · exact hn hp
    · omega)).trans (h.block k hk hn)⟩
theorem Fr.grown {S:Nat→Prop} {a w w':World} {row:Option Nat} (h:Fr S a w) (hg:w.grownBy w' row) (hr:∀ k,row=some k→S k∨a.heap.size≤k):Fr S a w':=
  ⟨hg.os.trans h.os,hg.tape.trans h.tape,hg.output.trans h.output,Nat.le_trans h.size hg.size,fun k hk hn =>
    (hg.block k (Nat.lt_of_lt_of_le hk h.size) (fun e=>by
      rcases hr k e.symm with h' | h'
      · exact hn h'
      · omega)).trans (h.block k hk hn)⟩
theorem Fr.below {S:Nat→Prop} {w w':World} (h:Fr S w w') {B:Nat} (hB:B≤w.heap.size) (hs:∀ k,S k→B≤k):Below B w w':=
  ⟨h.os,h.tape,h.output,h.size,fun k hk=>h.block k (by omega) (fun e=>by have:=hs k e;omega)⟩
theorem Fr.below0 {w w':World} (h:Fr none_ w w'):Below w.heap.size w w':=h.below (Nat.le_refl _) (fun _ e=>e.elim)

def Blk (w:World) (g:Nat) (t:TypeId) (cs:Array Value):Prop:=w.heap[g]?=some (.cells cs t (0,0))

section
variable {w w':World} {g:Nat} {t:TypeId} {cs:Array Value} {S:Nat→Prop}
theorem Blk.lt (h:Blk w g t cs):g < w.heap.size:=by
  rcases Nat.lt_or_ge g w.heap.size with hlt | hge
  · exact hlt
  · unfold Blk at h;rw [Array.getElem?_eq_none hge] at h;cases h
theorem Blk.cell (h:Blk w g t cs) (i:Nat):w.cell? ⟨g,i,none⟩=cs[i]?:=cell_of_row w g i cs t (0,0) h
theorem Blk.cell' (h:Blk w g t cs) {i:Nat} {v:Value} (hv:cs[i]?=some v):w.cell? ⟨g,i,none⟩=some v:=(h.cell i).trans hv
theorem Blk.frozen (h:Blk w g t cs) (i:Nat):w.frozen? ⟨g,i,none⟩=false:=by
  unfold Blk at h
  simp [World.frozen?,h]
theorem Blk.new (w:World) (t:TypeId) (cs:Array Value):Blk (w.alloc (.cells cs t)) w.heap.size t cs:=heap_alloc_new w _
theorem Blk.drew (h:Blk w g t cs):Blk w.drew g t cs:=h
theorem Blk.drewN (h:Blk w g t cs) (n:Nat):Blk (w.drewN n) g t cs:=h
theorem Blk.alloc (h:Blk w g t cs) (o:Obj):Blk (w.alloc o) g t cs:=(Below.heap_alloc w o g h.lt).trans h
theorem Blk.set_ (h:Blk w g t cs) (i:Nat) (u:Value):Blk (w.setCell ⟨g,i,none⟩ u) g t (cs.setIfInBounds i u):=by
  unfold Blk at h ⊢
  simp [World.setCell,Array.getElem?_modify,h]
theorem Blk.far (h:Blk w g t cs) {p:Addr} (hp:g≠p.block) (u:Value):Blk (w.setCell p u) g t cs:=(Below.heap_setCell w p u g hp).trans h
theorem Blk.fr (h:Blk w g t cs) (hf:Fr S w w') (hg:¬ S g):Blk w' g t cs:=(hf.block g h.lt hg).trans h
theorem Blk.below {B:Nat} (h:Blk w g t cs) (hb:Below B w w') (hg:g < B):Blk w' g t cs:=(hb.block g hg).trans h
theorem Blk.grown {row:Option Nat} (h:Blk w g t cs) (hb:w.grownBy w' row) (hg:some g≠row):Blk w' g t cs:=(hb.block g h.lt hg).trans h
theorem Blk.ne_ {g':Nat} {t':TypeId} {cs':Array Value} (h:Blk w g t cs) (h':Blk w g' t' cs') (hne:t≠t'):g≠g':=by
  rintro rfl
  unfold Blk at h h'
  rw [h] at h'
  injection h' with h'
  injection h' with _ ht
  exact hne ht
theorem Blk.uniq {t':TypeId} {cs':Array Value} (h:Blk w g t cs) (h':Blk w g t' cs'):t=t'∧cs=cs':=by
  unfold Blk at h h'
  rw [h] at h'
  injection h' with h'
  injection h' with h1 h2
  exact ⟨h2,h1⟩
end

theorem one_new_at (w:World) (v:Value) (t:TypeId) (b:Nat) (hb:b=w.heap.size):∀ (j:Nat) (u:Value),[v][j]?=some u→(w.alloc (.cells #[v] t)).cell? ((⟨b,0,none⟩:Addr).add j)=some u:=by
  subst hb
  intro j u hj
  match j,hj with
  | 0,hj =>
    obtain rfl:v=u:=by simpa using hj
    exact (Blk.new w t #[v]).cell' rfl

theorem _root_.Go.World.ownsRow.shape {w:World} {base:Nat} {e:TypeId} {size:Nat} {v:Value} {n:Nat} {xs:List Value} (h:w.ownsRow base e size v n xs):∃ A c,v=.slice A n c:=by
  rcases h.2 with ⟨rfl,rfl⟩ | ⟨g,cap,cur,rfl,_⟩
  · exact ⟨_,_,rfl⟩
  · exact ⟨_,_,rfl⟩

theorem wf_u8 {n:Int} (h:(Lit.int .u8 n).wf=true):0≤n∧n≤255:=by
  simp [Lit.wf,IntKind.min,IntKind.max,IntKind.signed,IntKind.bits] at h
  omega
section
variable {H:Type} {enc:TypeId × Value→H}

theorem args_kept {P:Program} (hl:laidOutB P=true) {W W':World} (hb:Below W.heap.size W W'):∀ {ts:List TypeId} {vs:List Value} {ds:List (DataW H)} {ps:List MemPlace},
    (∀ t ∈ ts,P.readableRec t=true∧t < P.types.size)→DataW.TrodAll enc P W 0 (fun _=>true) true ts vs ds ps→(∀ x ∈ ps,x.block < W.heap.size) →
    DataW.TrodAll enc P W' 0 (fun b=>decide (b < W.heap.size)) true ts vs ds ps
  | [],vs,ds,ps,_,h,_=>by
    obtain ⟨rfl,rfl,rfl⟩:=trodAll_nil h
    rfl
  | t :: ts,vs,ds,ps,hr,h,hlt=>by
    obtain ⟨v,vs',d,ds',p,q,rfl,rfl,rfl,h1,h2⟩:=trodAll_cons h
    exact ⟨p,q,Below.trod hl (hr t (by simp)).1 (hr t (by simp)).2 h1 hb (fun x hx=>hlt x (by simp [hx])),args_kept hl hb (fun t' ht'=>hr t' (by simp [ht'])) h2 (fun x hx=>hlt x (by simp [hx])),rfl⟩

def LawWalk (enc:TypeId × Value→H) (P:Program) (f:FuncId) (ts:List TypeId) (X:World→Prop):Prop:=
  ∀ (W:World) (args:Array Value) (ds:List (DataW H)) (ps:List MemPlace) (base:Nat),DataW.TrodAll enc P W 0 (fun _=>true) true ts args.toList ds ps →
    (∀ (j:Nat) t v,ts[j]?=some t→args.toList[j]?=some v→Value.okWide P W .any base t v)→(∀ x ∈ ps,x.block < W.heap.size) →
    (DataW.weightsEach P ts ds).all (·≤reachBytes)=true→X W →
    Calls P f args W fun e W'=>e=.returned (.bool true)∧Below W.heap.size W W'

theorem post_of_walk {P:Program} {fn:Func} {s:ChangeSpec} {apart handsOn:Bool} {tb:TypeId} (hl:laidOutB P=true) (hpar:(fn.params.toList.all fun t=>P.readableRec t && decide (t < P.types.size))=true)
    (hres:fn.resultTypes=#[tb]) (htb:P.underlying tb=some .bool) (hvars:s.vars=[]) (hspec:∀ ds:List (DataW H),ds.length=fn.params.toList.length→s.fn H (ds ++ [])={ results:=[.lit (.bool true)],args:=ds })
    {W W':World} {args:Array Value} {ds gs:List (DataW H)} {before:List MemPlace} (hW:DataW.Whole enc P fn.params.toList s.vars apart W args.toList ds gs before) (hb:Below W.heap.size W W') :
    s.post enc P fn apart true handsOn false W args (.bool true) W':=by
  have hW':=hW
  obtain ⟨p,q,hA,hV,rfl,hfz,hnd⟩:=hW
  rw [hvars] at hV
  obtain ⟨rfl,rfl⟩:gs=[]∧q=[]:=by
    cases gs with
    | nil=>exact ⟨rfl,hV⟩
    | cons g r=>exact absurd hV (by intro h;cases h)
  have hlen:ds.length=fn.params.toList.length:=by
    clear hpar hspec hfz hnd hW' hres hb
    generalize fn.params.toList=ts at hA
    generalize args.toList=vs at hA
    induction ts generalizing vs ds p with
    | nil=>obtain ⟨rfl,rfl,rfl⟩:=trodAll_nil hA;rfl
    | cons t ts ih =>
      obtain ⟨v,vs',d,ds',p',q',rfl,rfl,rfl,h1,h2⟩:=trodAll_cons hA
      simp [ih _ _ h2]
  have hr:∀ t ∈ fn.params.toList,P.readableRec t=true∧t < P.types.size:=fun t ht=>by
    have:=List.all_eq_true.1 hpar t ht
    simpa using this
  have hlt:∀ x ∈ p,x.block < W.heap.size:=fun x hx=>hW'.lt x (by simp [hx])
  have e:=hspec ds hlen
  refine ⟨ds,[],_,[],p,[],hW',?_,?_,?_,hb.frame _,fun h=>by cases h⟩
  · rw [e,hres]
    exact trodAll_mk1 (shut_bool htb true)
  · rw [e]
    exact args_kept hl hb hr hA hlt
  · rw [e,hvars]
    rfl

theorem lift_laid {C:Checked} {os:Os} {f:FuncId} {fn:Func} {s:ChangeSpec} {apart handsOn:Bool} {tb:TypeId} {laid:List (String × DataW Unit)}
    (own:ownKnob C.prog.godebug=none) (started:os.Started) (noInit:C.prog.inits.idxOf? f=none) (hfn:C.prog.funcs[f]?=some fn)
    (hl:laidOutB C.prog=true) (hpar:(fn.params.toList.all fun t=>C.prog.readableRec t && decide (t < C.prog.types.size))=true)
    (hres:fn.resultTypes=#[tb]) (htb:C.prog.underlying tb=some .bool) (hvars:s.vars=[]) (hspec:∀ ds:List (DataW H),ds.length=fn.params.toList.length→s.fn H (ds ++ [])={ results:=[.lit (.bool true)],args:=ds })
    (witness:∃ (w:World) (tape:Tape) (i:Input),w.os=os∧(w.forCall tape i).Shaped C.prog∧i.vars=[]∧Input.okWide C.prog (w.forCall tape i) .any w.heap.size f i ∧
      ((s.pre enc C.prog fn [] apart (w.forCall tape i).memory i.args∧laidMetH C.prog laid (w.forCall tape i).memory)∧sizedMet enc C.prog fn (OpenSpec.ofChange s) apart (w.forCall tape i).memory i.args)∧({}:Assume).holds C.prog (lone (Frame.enter C.prog f i.args .normal) [] (w.forCall tape i)))
    (walk:LawWalk enc C.prog f fn.params.toList (fun W=>laidMetH C.prog laid W)) :
    ReturnsInHanded {} C os f .any (fun w args=>(s.pre enc C.prog fn [] apart w args∧laidMetH C.prog laid w)∧sizedMet enc C.prog fn (OpenSpec.ofChange s) apart w args) (s.post enc C.prog fn apart true handsOn false):=by
  refine returnsInHanded_of_change_and (X:=fun w _=>laidMetH C.prog laid w) (fun _ _ _ hh h=>h.of_heap hh) own started noInit hfn witness ?_
  intro W base args ds gs before hval hW _ hsz hL _
  have hW':=hW
  obtain ⟨p,q,hA,hV,rfl,hfz,hnd⟩:=hW
  rw [hvars] at hV
  obtain ⟨rfl,rfl⟩:gs=[]∧q=[]:=by
    cases gs with
    | nil=>exact ⟨rfl,hV⟩
    | cons g r=>exact absurd hV (by intro h;cases h)
  have hvt:s.plain.varTypes C.prog=[]:=by simp [DataSpec.varTypes,ChangeSpec.plain,hvars]
  rw [hvt] at hsz
  simp only [List.append_nil] at hsz
  refine (walk W args ds p base hA (fun j t v ht hv=>hval j t v (by simpa using ht) (by simpa using hv)) (fun x hx=>hW'.lt x (by simp [hx])) hsz hL).mono fun e W' ⟨he,hb⟩=>?_
  exact ⟨_,he,post_of_walk hl hpar hres htb hvars hspec hW' hb⟩
end
open Go.RowKit

theorem block_of_add (a:Addr) (n:Nat):(a.add n).block=a.block:=by unfold Addr.add;split <;> rfl
theorem add_of_add (a:Addr) (i j:Nat):(a.add i).add j=a.add (i+j):=by
  unfold Addr.add
  by_cases hi:i=0 <;> by_cases hj:j=0 <;> simp [hi,hj,Nat.add_assoc]
theorem add_lit (b off j:Nat):(⟨b,off,none⟩:Addr).add j=⟨b,off+j,none⟩:=by
  unfold Addr.add
  split <;> simp_all

def Reads (w:World) (size:Nat) (A:Option Addr) (n:Nat) (xs:List Value):Prop:=
  xs.length=n * size∧(0 < n→∃ ad,A=some ad∧∀ j u,xs[j]?=some u→w.cell? (ad.add j)=some u)

section
variable {w w':World} {size n:Nat} {A:Option Addr} {xs:List Value}
theorem Reads.nil_:Reads w size A 0 []:=⟨by simp,fun h=>absurd h (by omega)⟩
theorem Reads.cut (h:Reads w size A n xs) {k cap:Nat} (hk:k≤n) (hc:n≤cap) :
    Reads w size (if cap=k then A else A.map (·.add (k * size))) (n - k) (xs.drop (k * size)):=by
  refine ⟨by rw [List.length_drop,h.1,Nat.sub_mul],fun hn=>?_⟩
  obtain ⟨ad,rfl,hcell⟩:=h.2 (by omega)
  rw [if_neg (by omega)]
  refine ⟨ad.add (k * size),rfl,fun j u hu=>?_⟩
  rw [add_of_add]
  exact hcell _ u (by rw [← hu,List.getElem?_drop])
theorem Reads.upto (h:Reads w size A n xs) {k:Nat} (hk:k≤n):Reads w size A k (xs.take (k * size)):=by
  have hm:k * size≤n * size:=Nat.mul_le_mul_right _ hk
  refine ⟨by rw [List.length_take,h.1];omega,fun hn=>?_⟩
  obtain ⟨ad,rfl,hcell⟩:=h.2 (by omega)
  refine ⟨ad,rfl,fun j u hu=>hcell j u ?_⟩
  rw [List.getElem?_take] at hu
  split at hu
  · exact hu
  · cases hu
theorem Reads.of_own {base:Nat} {e:TypeId} {c:Nat} (h:w.ownsRow base e size (.slice A n c) n xs):Reads w size A n xs:=by
  refine ⟨h.1,fun hn=>?_⟩
  obtain ⟨g,cap,hv,_,hlt⟩:=h.form hn
  have hA:A=some ⟨g,0,none⟩:=by injection hv
  subst hA
  exact ⟨_,rfl,h.cells (g:=g) rfl⟩
theorem Reads.fr {S:Nat→Prop} (h:Reads w size A n xs) (hf:Fr S w w') (hS:∀ ad,A=some ad→¬ S ad.block):Reads w' size A n xs:=
  ⟨h.1,fun hn=>by
    obtain ⟨ad,e,hc⟩:=h.2 hn
    refine ⟨ad,e,fun j u hu=>?_⟩
    have h1:=hc j u hu
    have hlt:=World.block_lt_of_cell? w _ h1
    exact (World.cell?_of_block (hf.block _ hlt (by rw [block_of_add];exact hS ad e))).trans h1⟩
theorem Reads.none_fr (h:Reads w size A n xs) (hf:Fr none_ w w'):Reads w' size A n xs:=h.fr hf (fun _ _=>id)
theorem Reads.drew (h:Reads w size A n xs):Reads w.drew size A n xs:=h
theorem Reads.alloc (h:Reads w size A n xs) (o:Obj):Reads (w.alloc o) size A n xs:=h.none_fr ((Fr.refl none_ w).alloc o)
end

theorem own_empty (w:World) (t:TypeId) (size:Nat) (base:Nat) (hb:base≤w.heap.size):(w.alloc (.cells #[] t)).ownsRow base t size (.slice (some ⟨w.heap.size,0,none⟩) 0 0) 0 []:=
  World.ownsRow_made w #[] 0 hb (by simp) (by simp)

theorem own_empty_at (w:World) (t:TypeId) (size:Nat) (base b:Nat) (hb:base≤w.heap.size) (e:b=w.heap.size):(w.alloc (.cells #[] t)).ownsRow base t size (.slice (some ⟨b,0,none⟩) 0 0) 0 []:=by
  subst e
  exact own_empty w t size base hb

theorem reads_new (w:World) (t:TypeId) (cs:List Value) (b:Nat) (e:b=w.heap.size):Reads (w.alloc (.cells cs.toArray t)) cs.length (some ⟨b,0,none⟩) 1 cs:=by
  subst e
  refine ⟨by simp,fun _=>⟨_,rfl,fun j u hu=>?_⟩⟩
  rw [add_lit,Nat.zero_add]
  exact (Blk.new w t cs.toArray).cell' (by simpa using hu)

theorem own_fr {w w':World} {base:Nat} {e:TypeId} {size:Nat} {v:Value} {n:Nat} {xs:List Value} {S:Nat→Prop} (h:w.ownsRow base e size v n xs) (hf:Fr S w w') (hS:∀ k,v.ownBlock=some k→¬ S k):w'.ownsRow base e size v n xs:=by
  refine ⟨h.1,?_⟩
  rcases h.2 with hn | ⟨g,cap,cur,rfl,hb,hh,rest⟩
  · exact .inl hn
  · exact .inr ⟨g,cap,cur,rfl,hb,(hf.block g (Array.getElem?_eq_some_iff.1 hh).1 (hS g rfl)).trans hh,rest⟩
theorem own_none {w w':World} {base:Nat} {e:TypeId} {size:Nat} {v:Value} {n:Nat} {xs:List Value} (h:w.ownsRow base e size v n xs) (hf:Fr none_ w w'):w'.ownsRow base e size v n xs:=own_fr h hf (fun _ _=>id)
theorem own_base {w:World} {base base':Nat} {e:TypeId} {size:Nat} {v:Value} {n:Nat} {xs:List Value} (h:w.ownsRow base e size v n xs) (hb:base'≤base):w.ownsRow base' e size v n xs:=by
  refine ⟨h.1,?_⟩
  rcases h.2 with hn | ⟨g,cap,cur,rfl,hb',rest⟩
  · exact .inl hn
  · exact .inr ⟨g,cap,cur,rfl,by omega,rest⟩
theorem own_blk_ne {w:World} {base:Nat} {e:TypeId} {size n:Nat} {v:Value} {xs:List Value} (h:w.ownsRow base e size v n xs) {g:Nat} {t:TypeId} {cs:Array Value} (hg:Blk w g t cs) (hne:e≠t):v.ownBlock≠some g:=by
  rcases h.2 with ⟨rfl,_⟩ | ⟨g',cap,cur,rfl,_,hh,_⟩
  · simp [Value.ownBlock]
  · intro he
    have:g'=g:=by simpa [Value.ownBlock] using he
    subst this
    exact Blk.ne_ (t:=e) hh hg hne rfl
theorem own_own_ne {w:World} {base base':Nat} {e e':TypeId} {size size' n n':Nat} {v v':Value} {xs xs':List Value} (h:w.ownsRow base e size v n xs) (h':w.ownsRow base' e' size' v' n' xs') (hne:e≠e') (k:Nat) (hk:v.ownBlock=some k):¬ v'.ownBlock=some k:=by
  rcases h.2 with ⟨rfl,_⟩ | ⟨g,cap,cur,rfl,_,hh,_⟩
  · simp [Value.ownBlock] at hk
  · obtain rfl:g=k:=by simpa [Value.ownBlock] using hk
    exact own_blk_ne h' (g:=g) (t:=e) (cs:=cur) hh (Ne.symm hne)
theorem own_parts {w:World} {base:Nat} {e:TypeId} {size n:Nat} {v:Value} {xs:List Value} (h:w.ownsRow base e size v n xs) :
    ∃ A c,v=.slice A n c∧n≤c∧c≤maxLen∧(0 < n→∃ g,A=some ⟨g,0,none⟩∧g < w.heap.size∧∀ j u,xs[j]?=some u→w.cell? ⟨g,j,none⟩=some u):=by
  have hR:=h
  rcases h.2 with ⟨rfl,rfl⟩ | ⟨g,cap,cur,rfl,hb,hh,hc,hm,hs,ht⟩
  · exact ⟨none,0,rfl,Nat.le_refl _,by simp,fun h=>absurd h (by omega)⟩
  · refine ⟨_,_,rfl,hc,hm,fun _=>⟨g,rfl,(Array.getElem?_eq_some_iff.1 hh).1,fun j u hu=>?_⟩⟩
    have:=hR.cells (g:=g) rfl j u hu
    rwa [add_lit,Nat.zero_add] at this

section
variable {P:Program} (w:World)
theorem run_append_of_nil (base:Nat) (t ty e:TypeId) (i:TypeInfo) (size:Nat) (ht:P.underlying t=some (.slice e)) (hi:P.info? e=some i)
    (v:Value) (n:Nat) (xs:List Value) (hown:w.ownsRow base e size v n xs) (c:Nat):(Builtin.append_ #[t,t] ty #[v,.slice none 0 c]).run P w=.ok v w:=by
  rcases hown.2 with ⟨rfl,rfl⟩ | ⟨g,cap,cur,rfl,_,_,hnc,_⟩
  · simp [Builtin.append_,run_underlying ht,sizeOf,typeInfo,hi,Builtin.lenOf,Builtin.firstCells]
  · simp [Builtin.append_,run_underlying ht,sizeOf,typeInfo,hi,Builtin.lenOf,Builtin.firstCells,hnc,storeCells]

theorem run_append_any (base:Nat) (t ty e:TypeId) (i:TypeInfo) (z:Value) (size bytes:Nat) (ht:P.underlying t=some (.slice e)) (hi:P.info? e=some i) (hz:i.zero=some z)
    (hsize:i.size=size) (hby:i.bytes=bytes) (hzs:z.cells.size=size) (hsz:0 < size)
    (v:Value) (n:Nat) (xs:List Value) (hown:w.ownsRow base e size v n xs)
    (A:Option Addr) (m c:Nat) (news:List Value) (hr:Reads w size A m news) (h1:∀ u ∈ news,u.oneCell'=true)
    (h63:n+m≤maxLen) (hbytes:(n+m) * bytes≤140737488355328) (hbase:base≤w.heap.size) :
    ∃ v' w',(Builtin.append_ #[t,t] ty #[v,.slice A m c]).run P w=.ok v' w'∧w'.ownsRow base e size v' (n+m) (xs ++ news)∧w.grownBy w' v.ownBlock ∧
      (v'.ownBlock=v.ownBlock∨v'.ownBlock=some w.heap.size):=by
  rcases A with _ | ad
  · have hm:m=0:=by
      rcases Nat.eq_zero_or_pos m with h0 | h0
      · exact h0
      · obtain ⟨ad,h,_⟩:=hr.2 h0
        cases h
    subst hm
    have hn:news=[]:=List.eq_nil_of_length_eq_zero (by simpa using hr.1)
    subst hn
    exact ⟨v,w,run_append_of_nil w base t ty e i size ht hi v n xs hown c,by simpa using hown,World.grownBy.refl w _,.inl rfl⟩
  · have hcells:∀ j u,news[j]?=some u→w.cell? (ad.add j)=some u:=by
      intro j u hu
      rcases Nat.eq_zero_or_pos m with h0 | h0
      · subst h0
        have hn:news=[]:=List.eq_nil_of_length_eq_zero (by simpa using hr.1)
        subst hn
        simp at hu
      · obtain ⟨ad',h,hc⟩:=hr.2 h0
        injection h with h
        subst h
        exact hc j u hu
    obtain ⟨v',w',hrun,h2,h3,_,h5⟩:=run_append_own_at (P:=P) w base t ty e i z size bytes ht hi hz hsize hby hzs hsz v n xs hown ad m c news hr.1 hcells h1 h63 hbytes hbase
    exact ⟨v',w',hrun,h2,h3,h5⟩

theorem wp_append_any {o:Oper} {a:Act} {K:Act→World→Prop} {Q:Exit→Act→World→Prop} (s x:Operand) (t:TypeId)
    (ho:o.op=.call { callee:=.builtin .append,args:=#[s,x],argTypes:=#[t,t] })
    (base:Nat) (e:TypeId) (i:TypeInfo) (z:Value) (size bytes:Nat) (ht:P.underlying t=some (.slice e)) (hi:P.info? e=some i) (hz:i.zero=some z)
    (hsize:i.size=size) (hby:i.bytes=bytes) (hzs:z.cells.size=size) (hsz:0 < size)
    (v:Value) (n:Nat) (xs:List Value) (hs:a.eval s=v) (hown:w.ownsRow base e size v n xs)
    (A:Option Addr) (m c:Nat) (news:List Value) (hx:a.eval x=.slice A m c) (hr:Reads w size A m news) (h1:∀ u ∈ news,u.oneCell'=true)
    (h63:n+m≤maxLen) (hbytes:(n+m) * bytes≤140737488355328) (hbase:base≤w.heap.size)
    (h:∀ A' c' w',w'.ownsRow base e size (.slice A' (n+m) c') (n+m) (xs ++ news)→w.grownBy w' v.ownBlock→K (a.put o.dst (.slice A' (n+m) c')) w'):o.wp P a w K Q:=by
  obtain ⟨v',w',hrun,h2,h3,h4⟩:=run_append_any (P:=P) w base t o.type e i z size bytes ht hi hz hsize hby hzs hsz v n xs hown A m c news hr h1 h63 hbytes hbase
  obtain ⟨A',c',rfl⟩:=h2.shape
  unfold Oper.wp execOp
  simp only [ho,resolve,invoke,builtin,Sem.run_bind,Sem.run_pure,Result.andThen_ok,List.map_toArray,List.map_cons,List.map_nil,hs,hx,hrun]
  exact h A' c' w' h2 h3

theorem wpList_append_any {ops:Array Oper} {rest:List Oper} {o:Oper} {a:Act} {Q:Exit→Act→World→Prop} (hgd:o.guard=none) (s x:Operand) (t:TypeId)
    (ho:o.op=.call { callee:=.builtin .append,args:=#[s,x],argTypes:=#[t,t] })
    (base:Nat) (e:TypeId) (i:TypeInfo) (z:Value) (size bytes:Nat) (ht:P.underlying t=some (.slice e)) (hi:P.info? e=some i) (hz:i.zero=some z)
    (hsize:i.size=size) (hby:i.bytes=bytes) (hzs:z.cells.size=size) (hsz:0 < size)
    (v:Value) (n:Nat) (xs:List Value) (hs:a.eval s=v) (hown:w.ownsRow base e size v n xs)
    (A:Option Addr) (m c:Nat) (news:List Value) (hx:a.eval x=.slice A m c) (hr:Reads w size A m news) (h1:∀ u ∈ news,u.oneCell'=true)
    (h63:n+m≤maxLen) (hbytes:(n+m) * bytes≤140737488355328) (hbase:base≤w.heap.size)
    (h:∀ A' c' w',w'.ownsRow base e size (.slice A' (n+m) c') (n+m) (xs ++ news)→w.grownBy w' v.ownBlock→wpList P ops Q rest (a.put o.dst (.slice A' (n+m) c')) w'):wpList P ops Q (o :: rest) a w:=
  wpList_plain hgd fun _ hK=>wp_append_any w s x t ho base e i z size bytes ht hi hz hsize hby hzs hsz v n xs hs hown A m c news hx hr h1 h63 hbytes hbase fun A' c' w' h2 h3=>hK _ _ (h A' c' w' h2 h3)

theorem step_append_any {ops:Array Oper} {o:Oper} {a:Act} {K:Act→World→Prop} {Q:Exit→Act→World→Prop} {E:Prop} (hgd:o.guard=none) (s x:Operand) (t:TypeId)
    (ho:o.op=.call { callee:=.builtin .append,args:=#[s,x],argTypes:=#[t,t] })
    (base:Nat) (e:TypeId) (i:TypeInfo) (z:Value) (size bytes:Nat) (ht:P.underlying t=some (.slice e)) (hi:P.info? e=some i) (hz:i.zero=some z)
    (hsize:i.size=size) (hby:i.bytes=bytes) (hzs:z.cells.size=size) (hsz:0 < size)
    (v:Value) (n:Nat) (xs:List Value) (hs:a.eval s=v) (hown:w.ownsRow base e size v n xs)
    (A:Option Addr) (m c:Nat) (news:List Value) (hx:a.eval x=.slice A m c) (hr:Reads w size A m news) (h1:∀ u ∈ news,u.oneCell'=true)
    (h63:n+m≤maxLen) (hbytes:(n+m) * bytes≤140737488355328) (hbase:base≤w.heap.size)
    (h:∀ A' c' w',w'.ownsRow base e size (.slice A' (n+m) c') (n+m) (xs ++ news)→w.grownBy w' v.ownBlock→K (a.put o.dst (.slice A' (n+m) c')) w') :
    if Region.wanted o (yielded ops a.tmps)=true then Oper.wp P o a w K Q else E:=by
  have hw:Region.wanted o (yielded ops a.tmps)=true:=by simp [Region.wanted,hgd]
  rw [if_pos hw]
  exact wp_append_any w s x t ho base e i z size bytes ht hi hz hsize hby hzs hsz v n xs hs hown A m c news hx hr h1 h63 hbytes hbase h
end
open Go.RowKit

theorem Fr.toOnly {a w:World} {p:Addr} (h:Fr none_ a w) (u:Value):Fr (only p.block) a (w.setCell p u):=
  (h.mono (S':=only p.block) (fun _ _ e=>e.elim)).setCell (p:=p) (.inl (Eq.refl _)) u
theorem Fr.only1 (w:World) (p:Addr) (u:Value):Fr (only p.block) w (w.setCell p u):=(Fr.refl none_ w).toOnly u
theorem cellFr {w w':World} {p:Addr} {v:Value} (h:w.cell? p=some v) (hf:Fr none_ w w'):w'.cell? p=some v:=
  (World.cell?_of_block (hf.block _ (World.block_lt_of_cell? w _ h) id)).trans h
theorem cellFrS {S:Nat→Prop} {w w':World} {p:Addr} {v:Value} (h:w.cell? p=some v) (hf:Fr S w w') (hS:¬ S p.block):w'.cell? p=some v:=
  (World.cell?_of_block (hf.block _ (World.block_lt_of_cell? w _ h) hS)).trans h

theorem choose_list {α:Type} {P:Nat→α→Prop}:∀ (n:Nat),(∀ k,k < n→∃ x,P k x)→∃ L:List α,L.length=n∧∀ k x,L[k]?=some x→P k x
  | 0,_=>⟨[],rfl,fun k x h=>by simp at h⟩
  | n+1,h=>by
    obtain ⟨L,hl,hL⟩:=choose_list n (fun k hk=>h k (by omega))
    obtain ⟨x,hx⟩:=h n (by omega)
    refine ⟨L ++ [x],by simp [hl],fun k y hy=>?_⟩
    rcases Nat.lt_or_ge k L.length with h1 | h1
    · rw [List.getElem?_append_left h1] at hy;exact hL k y hy
    · rw [List.getElem?_append_right h1] at hy
      have:k - L.length=0:=by
        rcases Nat.eq_zero_or_pos (k - L.length) with h2 | h2
        · exact h2
        · rw [List.getElem?_eq_none (by simp;omega)] at hy;cases hy
      rw [this] at hy
      obtain rfl:x=y:=by simpa using hy
      obtain rfl:k=n:=by omega
      exact hx
def numFlat (N:List Int):List Value:=N.map (Value.int .i64)
section
variable {P:Program} (w:World)
theorem wp_append_at {o:Oper} {a:Act} {K:Act→World→Prop} {Q:Exit→Act→World→Prop} (s x:Operand) (t:TypeId)
    (ho:o.op=.call { callee:=.builtin .append,args:=#[s,x],argTypes:=#[t,t] })
    (base:Nat) (e:TypeId) (i:TypeInfo) (z:Value) (size bytes:Nat) (ht:P.underlying t=some (.slice e)) (hi:P.info? e=some i) (hz:i.zero=some z)
    (hsize:i.size=size) (hby:i.bytes=bytes) (hzs:z.cells.size=size) (hsz:0 < size)
    (v:Value) (n:Nat) (xs:List Value) (hs:a.eval s=v) (hown:w.ownsRow base e size v n xs)
    (A:Option Addr) (m c:Nat) (news:List Value) (hx:a.eval x=.slice A m c) (hr:Reads w size A m news) (h1:∀ u ∈ news,u.oneCell'=true)
    (h63:n+m≤maxLen) (hbytes:(n+m) * bytes≤140737488355328) (hbase:base≤w.heap.size)
    (h:∀ v' w',w'.ownsRow base e size v' (n+m) (xs ++ news)→w.grownBy w' v.ownBlock→(v'.ownBlock=v.ownBlock∨v'.ownBlock=some w.heap.size)→K (a.put o.dst v') w'):o.wp P a w K Q:=by
  obtain ⟨v',w',hrun,h2,h3,h4⟩:=run_append_any (P:=P) w base t o.type e i z size bytes ht hi hz hsize hby hzs hsz v n xs hown A m c news hr h1 h63 hbytes hbase
  unfold Oper.wp execOp
  simp only [ho,resolve,invoke,builtin,Sem.run_bind,Sem.run_pure,Result.andThen_ok,List.map_toArray,List.map_cons,List.map_nil,hs,hx,hrun]
  exact h v' w' h2 h3 h4
theorem wpList_append_at {ops:Array Oper} {rest:List Oper} {o:Oper} {a:Act} {Q:Exit→Act→World→Prop} (hgd:o.guard=none) (s x:Operand) (t:TypeId)
    (ho:o.op=.call { callee:=.builtin .append,args:=#[s,x],argTypes:=#[t,t] })
    (base:Nat) (e:TypeId) (i:TypeInfo) (z:Value) (size bytes:Nat) (ht:P.underlying t=some (.slice e)) (hi:P.info? e=some i) (hz:i.zero=some z)
    (hsize:i.size=size) (hby:i.bytes=bytes) (hzs:z.cells.size=size) (hsz:0 < size)
    (v:Value) (n:Nat) (xs:List Value) (hs:a.eval s=v) (hown:w.ownsRow base e size v n xs)
    (A:Option Addr) (m c:Nat) (news:List Value) (hx:a.eval x=.slice A m c) (hr:Reads w size A m news) (h1:∀ u ∈ news,u.oneCell'=true)
    (h63:n+m≤maxLen) (hbytes:(n+m) * bytes≤140737488355328) (hbase:base≤w.heap.size)
    (h:∀ v' w',w'.ownsRow base e size v' (n+m) (xs ++ news)→w.grownBy w' v.ownBlock→(v'.ownBlock=v.ownBlock∨v'.ownBlock=some w.heap.size)→wpList P ops Q rest (a.put o.dst v') w'):wpList P ops Q (o :: rest) a w:=
  wpList_plain hgd fun _ hK=>wp_append_at w s x t ho base e i z size bytes ht hi hz hsize hby hzs hsz v n xs hs hown A m c news hx hr h1 h63 hbytes hbase fun v' w' h2 h3 h4=>hK _ _ (h v' w' h2 h3 h4)
end
open Go.RowKit

abbrev errV (k:Int):Value:=.iface 65 (.int .i64 k)
open Go.ChangeShapes Go.WideShapes Go.RowKit Go.Deep

inductive Leaf where
  | int (k:IntKind)
  | bool
  | string
  | slice (t:TypeId)

def leaves (P:Program):Nat→TypeId→List (Nat × Leaf)
  | 0,_=>[]
  | n+1,t =>
    match P.underlying t with
    | some .bool=>[(0,.bool)]
    | some (.int k)=>[(0,.int k)]
    | some .string=>[(0,.string)]
    | some (.slice _)=>[(0,.slice t)]
    | some (.struct fs)=>fs.toList.flatMap fun f=>(leaves P n f.type).map fun x=>(f.offset+x.1,x.2)
    | _=>[]

section
variable {H:Type} (enc:TypeId × Value→H) (P:Program) (w:World)

def Conf:Leaf→Value→Prop
  | .int k,v=>∃ n,v=.int k n∧(Lit.int k n).wf=true
  | .bool,v=>∃ b,v=.bool b
  | .string,v=>∃ s:ByteArray,v=.string s∧s.size≤reachBytes
  | .slice t,v=>∃ fuel d ps,DataW.trod enc P w 0 (fun _=>true) true fuel t [v]=some (d,ps)∧(∀ p ∈ ps,p.block < w.heap.size)∧(∀ x ∈ d.weights P t,x≤reachBytes)
end

section
variable {H:Type} {enc:TypeId × Value→H} {P:Program} {w:World}

theorem leaves_conf:∀ (n:Nat) (t:TypeId) (fuel:Nat) (cs:List Value) (x:DataW H × List MemPlace),DataW.trod enc P w 0 (fun _=>true) true fuel t cs=some x →
    (∀ p ∈ x.2,p.block < w.heap.size)→(∀ y ∈ x.1.weights P t,y≤reachBytes)→∀ o l,(o,l) ∈ leaves P n t→∃ v,cs[o]?=some v∧Conf enc P w l v:=by
  intro n
  induction n with
  | zero=>intro t fuel cs x _ _ _ o l h;simp [leaves] at h
  | succ n ih =>
    intro t fuel cs x h hlt hwt o l hl
    simp only [leaves] at hl
    split at hl
    · rename_i hu
      obtain ⟨rfl,rfl⟩:o=0∧l=.bool:=by simpa using hl
      obtain ⟨b,rfl,_⟩:=DataW.trod_bool hu h
      exact ⟨_,rfl,b,rfl⟩
    · rename_i k hu
      obtain ⟨rfl,rfl⟩:o=0∧l=.int k:=by simpa using hl
      obtain ⟨b,rfl,_,hwf⟩:=DataW.trod_int hu h
      exact ⟨_,rfl,b,rfl,hwf⟩
    · rename_i hu
      obtain ⟨rfl,rfl⟩:o=0∧l=.string:=by simpa using hl
      obtain ⟨s,rfl,hx,_⟩:=DataW.trod_string hu h
      refine ⟨_,rfl,s,rfl,?_⟩
      subst hx
      simpa [DataW.weights] using hwt
    · rename_i e hu
      obtain ⟨rfl,rfl⟩:o=0∧l=.slice t:=by simpa using hl
      rcases DataW.trod_slice hu h with ⟨rfl,_⟩ | ⟨a,len,cap,elems,rest,m,_,rfl,_⟩
      · exact ⟨_,rfl,fuel,x.1,x.2,h,hlt,hwt⟩
      · exact ⟨_,rfl,fuel,x.1,x.2,h,hlt,hwt⟩
    · rename_i fs hu
      obtain ⟨f,hf,hx⟩:=List.mem_flatMap.1 hl
      obtain ⟨⟨o',l'⟩,hm,he⟩:=List.mem_map.1 hx
      obtain ⟨rfl,rfl⟩:f.offset+o'=o∧l'=l:=by simpa using he
      obtain ⟨xs,m,_,rfl,_,hlen,hg⟩:=DataW.trod_struct hu h
      obtain ⟨i,hi,hfi⟩:=List.mem_iff_getElem.1 hf
      have hfi':fs[i]?=some f:=by
        rw [← Array.getElem?_toList,List.getElem?_eq_getElem hi,hfi]
      have hil:i < xs.length:=by rw [hlen];simpa using hi
      have hgi:=hg i f hfi'
      rw [List.getElem?_eq_getElem hil] at hgi
      obtain ⟨v,hv,hc⟩:=ih f.type m _ xs[i] hgi (fun p hp=>hlt p (List.mem_flatMap.2 ⟨xs[i],List.getElem_mem hil,hp⟩)) (fun y hy=>hwt y (by
        simp only [DataW.weights,hu]
        refine DataW.weights_mem_each (j:=i) (t:=f.type) (d:=xs[i].1) ?_ ?_ y hy
        · rw [List.getElem?_map,List.getElem?_eq_getElem hi,hfi];rfl
        · rw [List.getElem?_map,List.getElem?_eq_getElem hil];rfl)) o' l' hm
      refine ⟨v,?_,hc⟩
      rw [List.getElem?_take] at hv
      split at hv
      · rw [List.getElem?_drop] at hv;exact hv
      · cases hv
    · simp at hl

theorem weightsAll_mem {e:TypeId}:∀ {l:List (DataW H)} {d:DataW H},d ∈ l→∀ y ∈ d.weights P e,y ∈ DataW.weightsAll P e l
  | x :: r,d,h,y,hy=>by
    simp only [DataW.weightsAll,List.mem_append]
    rcases List.mem_cons.1 h with rfl | h
    · exact .inl hy
    · exact .inr (weightsAll_mem h y hy)

def Rd (enc:TypeId × Value→H) (P:Program) (w:World) (m e:Nat) (A:Option Addr) (n:Nat):Prop:=
  0 < n→∃ b off,A=some ⟨b,off,none⟩∧b < w.heap.size∧∀ k,k < n→∀ o l,(o,l) ∈ leaves P m e→∃ u,w.cell? ⟨b,off+k * P.cellsOf e+o,none⟩=some u∧Conf enc P w l u

theorem open_list (m:Nat) {t e:TypeId} {fuel:Nat} {v:Value} {d:DataW H} {ps:List MemPlace} (ht:P.underlying t=some (.slice e)) (h:DataW.trod enc P w 0 (fun _=>true) true fuel t [v]=some (d,ps))
  (hlt:∀ p ∈ ps,p.block < w.heap.size) (hwt:∀ y ∈ d.weights P t,y≤reachBytes) (hne:(leaves P m e).isEmpty=false) (hin:(leaves P m e).all (fun x=>decide (x.1 < P.cellsOf e))=true) :
  ∃ A n c,v=.slice A n c∧n≤c∧c≤maxLen∧c * P.bytesOf e≤reachBytes∧(A=none→n=0∧c=0)∧Rd enc P w m e A n:=by
 rcases open_slice ht h with ⟨hv,hx⟩ | ⟨a,len,cap,m',fu,D,Pl,hv,hb,hl,hm,hmm,hx,hi⟩
 ·obtain rfl:v=.slice none 0 0:=by simpa using hv
  exact ⟨none,0,0,rfl,Nat.le_refl _,by simp,by simp,fun _=>⟨rfl,rfl⟩,fun h=>absurd h (by omega)⟩
 ·obtain rfl:v=.slice (some a) len cap:=by simpa using hv
  simp only [if_true] at hmm
  subst hmm
  obtain ⟨rfl,rfl⟩:d=_∧ps=_:=by simpa using hx
  have hwd:(((List.range len).map D).length+((List.range (m' - len)).map fun j=>D (len+j)).length) * P.bytesOf e≤reachBytes:=by
   refine hwt _ ?_
   simp only [DataW.weights,ht]
   exact List.mem_cons_self
  have hcap:m' * P.bytesOf e≤reachBytes:=by
   simp only [List.length_map,List.length_range] at hwd
   rwa [show len+(m' - len)=m' by omega] at hwd
  refine ⟨some a,len,m',rfl,hl,hm,hcap,(fun h=>by cases h),fun hn=>?_⟩
  have hsz:0 < P.cellsOf e:=by
   cases hlv:leaves P m e with
   | nil=>rw [hlv] at hne;cases hne
   | cons y ys=>rw [hlv] at hin;simp at hin;omega
  have hcell:∀ k,k < len→∃ cs:List Value,cs.length=P.cellsOf e∧(∀ j,j < P.cellsOf e→w.cell? (a.add (k * P.cellsOf e+j))=cs[j]?)∧∀ o l,(o,l) ∈ leaves P m e→∃ v,cs[o]?=some v∧Conf enc P w l v:=by
   intro k hk
   obtain ⟨cs,hc,htr⟩:=hi k (by omega)
   obtain ⟨_,hcl,hat⟩:=World.cells?_some hc
   refine ⟨cs,hcl,fun j hj=>by rw [← hat j hj,add_add],leaves_conf m e fu cs _ htr ?_ ?_⟩
   ·intro p hp
    refine hlt p ?_
    rw [List.mem_append]
    exact .inr (List.mem_flatMap.2 ⟨k,List.mem_range.2 (by omega),hp⟩)
   ·intro y hy
    refine hwt y ?_
    simp only [DataW.weights,ht,List.mem_cons,List.mem_append]
    exact .inr (.inl (weightsAll_mem (List.mem_map.2 ⟨k,List.mem_range.2 hk,rfl⟩) y hy))
  obtain ⟨cs0,hcl0,hat0,_⟩:=hcell 0 hn
  have h00:=hat0 0 hsz
  have hsome:∃ u,w.cell? a=some u:=by
   have:a.add (0 * P.cellsOf e+0)=a:=by simp [Addr.add]
   rw [this,List.getElem?_eq_getElem (by omega)] at h00
   exact ⟨_,h00⟩
  obtain ⟨u0,hu0⟩:=hsome
  have hspot:a.spot=none:=by
   unfold World.cell? at hu0
   split at hu0
   ·split at hu0
    ·cases hu0
    ·rename_i hs;simpa using hs
   ·cases hu0
  obtain ⟨b,off,sp⟩:=a
  simp only at hspot
  subst hspot
  have hadd:∀ j,(⟨b,off,none⟩:Addr).add j=⟨b,off+j,none⟩:=by
   intro j
   unfold Addr.add
   split <;> simp_all
  refine ⟨b,off,rfl,World.block_lt_of_cell? w _ hu0,fun k hk o l hol=>?_⟩
  obtain ⟨cs,hcl,hat,hcf⟩:=hcell k hk
  obtain ⟨v,hv,hc⟩:=hcf o l hol
  refine ⟨v,?_,hc⟩
  have hoe:o < P.cellsOf e:=by
   have:=List.all_eq_true.1 hin _ hol
   simpa using this
  have:=hat o hoe
  rw [hadd,hv] at this
  rw [Nat.add_assoc]
  exact this

theorem open_flat (m:Nat) {t:TypeId} {v:Value} {d:DataW H} {ps:List MemPlace} (h:DataW.Trod enc P w 0 (fun _=>true) true t v d ps)
    (hlt:∀ p ∈ ps,p.block < w.heap.size) (hwt:∀ y ∈ d.weights P t,y≤reachBytes):∀ o l,(o,l) ∈ leaves P m t→∃ u,v.cells.toList[o]?=some u∧Conf enc P w l u:=by
  obtain ⟨fuel,hf⟩:=h
  exact leaves_conf m t fuel _ _ hf hlt hwt

theorem open_agg (m:Nat) {t:TypeId} {fs:Array Field} {r:Reach} {b0:Nat} {v:Value} {d:DataW H} {ps:List MemPlace} (hs:P.underlying t=some (.struct fs)) (hv:Value.okWide P w r b0 t v) (h:DataW.Trod enc P w 0 (fun _=>true) true t v d ps)
    (hlt:∀ p ∈ ps,p.block < w.heap.size) (hwt:∀ y ∈ d.weights P t,y≤reachBytes):∃ cs:List Value,v=.agg cs.toArray∧cs.length=P.cellsOf t∧∀ o l,(o,l) ∈ leaves P m t→∃ u,cs[o]?=some u∧Conf enc P w l u:=by
  obtain ⟨cs,rfl,hsz⟩:=okWide_struct hs hv
  refine ⟨cs.toList,by simp,by simpa using hsz,?_⟩
  have:=open_flat (P:=P) (w:=w) m h hlt hwt
  simpa [Value.cells] using this

theorem open_slice_arg (m:Nat) {t e:TypeId} {r:Reach} {b0:Nat} {v:Value} {d:DataW H} {ps:List MemPlace} (ht:P.underlying t=some (.slice e)) (hv:Value.okWide P w r b0 t v) (h:DataW.Trod enc P w 0 (fun _=>true) true t v d ps)
    (hlt:∀ p ∈ ps,p.block < w.heap.size) (hwt:∀ y ∈ d.weights P t,y≤reachBytes) (hne:(leaves P m e).isEmpty=false) (hin:(leaves P m e).all (fun x=>decide (x.1 < P.cellsOf e))=true) :
    ∃ A n c,v=.slice A n c∧n≤c∧c≤maxLen∧c * P.bytesOf e≤reachBytes∧(A=none→n=0∧c=0)∧Rd enc P w m e A n:=by
  obtain ⟨a0,len,cap,rfl⟩:=okWide_slice ht hv
  obtain ⟨fuel,hf⟩:=h
  exact open_list m ht (by simpa [Value.cells] using hf) hlt hwt hne hin
end
open Go.ChangeShapes Go.WideShapes Go.RowKit
set_option linter.unusedSimpArgs false

theorem cells_Row:Tryz.prog.cellsOf 170=2:=by kernel_rfl
theorem leaves_Row:leaves Tryz.prog 6 170=[(0,.string),(1,.string)]:=by kernel_rfl
def RowAt (w:World) (A:Option Addr) (n:Nat):Prop:=
  0 < n→∃ b off,A=some ⟨b,off,none⟩∧b < w.heap.size∧∀ k,k < n→∃ (x0:ByteArray) (x1:ByteArray),x0.size≤reachBytes∧x1.size≤reachBytes∧w.cell? ⟨b,off+k * 2,none⟩=some (.string x0)∧w.cell? ⟨b,off+k * 2+1,none⟩=some (.string x1)
theorem Row_at {H:Type} {enc:TypeId × Value→H} {w:World} {A:Option Addr} {n:Nat} (h:Rd enc Tryz.prog w 6 170 A n):RowAt w A n:=by
  intro hn
  obtain ⟨b,off,hA,hb,hc⟩:=h hn
  refine ⟨b,off,hA,hb,fun k hk=>?_⟩
  have hk:=hc k hk
  rw [leaves_Row,cells_Row] at hk
  obtain ⟨_,h0,x0,rfl,w0⟩:=hk 0 .string (by simp)
  obtain ⟨_,h1,x1,rfl,w1⟩:=hk 1 .string (by simp)
  exact ⟨x0,x1,w0,w1,h0,h1⟩
theorem cells_Entry:Tryz.prog.cellsOf 172=2:=by kernel_rfl
theorem leaves_Entry:leaves Tryz.prog 6 172=[(0,.string),(1,.int .i64)]:=by kernel_rfl
def EntryAt (w:World) (A:Option Addr) (n:Nat):Prop:=
  0 < n→∃ b off,A=some ⟨b,off,none⟩∧b < w.heap.size∧∀ k,k < n→∃ (x0:ByteArray) (x1:Int),x0.size≤reachBytes∧(Lit.int .i64 x1).wf=true∧w.cell? ⟨b,off+k * 2,none⟩=some (.string x0)∧w.cell? ⟨b,off+k * 2+1,none⟩=some (.int .i64 x1)
theorem Entry_at {H:Type} {enc:TypeId × Value→H} {w:World} {A:Option Addr} {n:Nat} (h:Rd enc Tryz.prog w 6 172 A n):EntryAt w A n:=by
  intro hn
  obtain ⟨b,off,hA,hb,hc⟩:=h hn
  refine ⟨b,off,hA,hb,fun k hk=>?_⟩
  have hk:=hc k hk
  rw [leaves_Entry,cells_Entry] at hk
  obtain ⟨_,h0,x0,rfl,w0⟩:=hk 0 .string (by simp)
  obtain ⟨_,h1,x1,rfl,w1⟩:=hk 1 (.int .i64) (by simp)
  exact ⟨x0,x1,w0,w1,h0,h1⟩
theorem cells_Record:Tryz.prog.cellsOf 55=15:=by kernel_rfl
theorem leaves_Record:leaves Tryz.prog 6 55=[(0,.int .i64),(1,.string),(2,.string),(3,.bool),(4,.int .i64),(5,.slice 50),(6,.slice 51),(7,.string),(8,.string),(9,.int .i64),(10,.int .i64),(11,.int .i64),(12,.string),(13,.int .i64),(14,.int .i64)]:=by kernel_rfl
def RecordAt {H:Type} (enc:TypeId × Value→H) (w:World) (A:Option Addr) (n:Nat):Prop:=
  0 < n→∃ b off,A=some ⟨b,off,none⟩∧b < w.heap.size∧∀ k,k < n→∃ (x0:Int) (x1:ByteArray) (x2:ByteArray) (x3:Bool) (x4:Int) (x5:Value) (x6:Value) (x7:ByteArray) (x8:ByteArray) (x9:Int) (x10:Int) (x11:Int) (x12:ByteArray) (x13:Int) (x14:Int),(Lit.int .i64 x0).wf=true∧x1.size≤reachBytes∧x2.size≤reachBytes∧(Lit.int .i64 x4).wf=true∧Conf enc Tryz.prog w (.slice 50) x5∧Conf enc Tryz.prog w (.slice 51) x6∧x7.size≤reachBytes∧x8.size≤reachBytes∧(Lit.int .i64 x9).wf=true∧(Lit.int .i64 x10).wf=true∧(Lit.int .i64 x11).wf=true∧x12.size≤reachBytes∧(Lit.int .i64 x13).wf=true∧(Lit.int .i64 x14).wf=true∧w.cell? ⟨b,off+k * 15,none⟩=some (.int .i64 x0)∧w.cell? ⟨b,off+k * 15+1,none⟩=some (.string x1)∧w.cell? ⟨b,off+k * 15+1+1,none⟩=some (.string x2)∧w.cell? ⟨b,off+k * 15+1+1+1,none⟩=some (.bool x3)∧w.cell? ⟨b,off+k * 15+1+1+1+1,none⟩=some (.int .i64 x4)∧w.cell? ⟨b,off+k * 15+1+1+1+1+1,none⟩=some (x5)∧w.cell? ⟨b,off+k * 15+1+1+1+1+1+1,none⟩=some (x6)∧w.cell? ⟨b,off+k * 15+1+1+1+1+1+1+1,none⟩=some (.string x7)∧w.cell? ⟨b,off+k * 15+1+1+1+1+1+1+1+1,none⟩=some (.string x8)∧w.cell? ⟨b,off+k * 15+1+1+1+1+1+1+1+1+1,none⟩=some (.int .i64 x9)∧w.cell? ⟨b,off+k * 15+1+1+1+1+1+1+1+1+1+1,none⟩=some (.int .i64 x10)∧w.cell? ⟨b,off+k * 15+1+1+1+1+1+1+1+1+1+1+1,none⟩=some (.int .i64 x11)∧w.cell? ⟨b,off+k * 15+1+1+1+1+1+1+1+1+1+1+1+1,none⟩=some (.string x12)∧w.cell? ⟨b,off+k * 15+1+1+1+1+1+1+1+1+1+1+1+1+1,none⟩=some (.int .i64 x13)∧w.cell? ⟨b,off+k * 15+1+1+1+1+1+1+1+1+1+1+1+1+1+1,none⟩=some (.int .i64 x14)
theorem Record_at {H:Type} {enc:TypeId × Value→H} {w:World} {A:Option Addr} {n:Nat} (h:Rd enc Tryz.prog w 6 55 A n):RecordAt enc w A n:=by
  intro hn
  obtain ⟨b,off,hA,hb,hc⟩:=h hn
  refine ⟨b,off,hA,hb,fun k hk=>?_⟩
  have hk:=hc k hk
  rw [leaves_Record,cells_Record] at hk
  obtain ⟨_,h0,x0,rfl,w0⟩:=hk 0 (.int .i64) (by simp)
  obtain ⟨_,h1,x1,rfl,w1⟩:=hk 1 .string (by simp)
  obtain ⟨_,h2,x2,rfl,w2⟩:=hk 2 .string (by simp)
  obtain ⟨_,h3,x3,rfl⟩:=hk 3 .bool (by simp)
  obtain ⟨_,h4,x4,rfl,w4⟩:=hk 4 (.int .i64) (by simp)
  obtain ⟨x5,h5,w5⟩:=hk 5 (.slice 50) (by simp)
  obtain ⟨x6,h6,w6⟩:=hk 6 (.slice 51) (by simp)
  obtain ⟨_,h7,x7,rfl,w7⟩:=hk 7 .string (by simp)
  obtain ⟨_,h8,x8,rfl,w8⟩:=hk 8 .string (by simp)
  obtain ⟨_,h9,x9,rfl,w9⟩:=hk 9 (.int .i64) (by simp)
  obtain ⟨_,h10,x10,rfl,w10⟩:=hk 10 (.int .i64) (by simp)
  obtain ⟨_,h11,x11,rfl,w11⟩:=hk 11 (.int .i64) (by simp)
  obtain ⟨_,h12,x12,rfl,w12⟩:=hk 12 .string (by simp)
  obtain ⟨_,h13,x13,rfl,w13⟩:=hk 13 (.int .i64) (by simp)
  obtain ⟨_,h14,x14,rfl,w14⟩:=hk 14 (.int .i64) (by simp)
  exact ⟨x0,x1,x2,x3,x4,x5,x6,x7,x8,x9,x10,x11,x12,x13,x14,w0,w1,w2,w4,w5,w6,w7,w8,w9,w10,w11,w12,w13,w14,h0,h1,h2,h3,h4,h5,h6,h7,h8,h9,h10,h11,h12,h13,h14⟩
open Go.ChangeShapes Go.WideShapes Go.RowKit

abbrev Rw:=ByteArray × ByteArray
abbrev Et:=ByteArray × Int
structure Rc where
  kind:Int
  low:ByteArray
  high:ByteArray
  unb:Bool
  right:Int
  rows:List Rw
  ents:List Et
  key:ByteArray
  val:ByteArray
  page:Int
  hpage:Int
  hleft:Int
  hkey:ByteArray
  nslot:Int
  ngen:Int
abbrev nilS:ByteArray:=⟨#[]⟩
def Rc.zero:Rc:=⟨0,nilS,nilS,false,0,[],[],nilS,nilS,0,0,0,nilS,0,0⟩
abbrev recA (R:Rc) (vr ve:Value):Array Value:=#[.int .i64 R.kind,.string R.low,.string R.high,.bool R.unb,.int .i64 R.right,vr,ve,.string R.key,.string R.val,.int .i64 R.page,.int .i64 R.hpage,.int .i64 R.hleft,.string R.hkey,.int .i64 R.nslot,.int .i64 R.ngen]
abbrev recV (R:Rc) (vr ve:Value):Value:=.agg (recA R vr ve)
abbrev recB (R:Rc) (vr ve:Value):Obj:=.cells (recA R vr ve) 55

def rwCells (p:Rw):List Value:=[.string p.1,.string p.2]
def etCells (p:Et):List Value:=[.string p.1,.int .i64 p.2]
def rwFlat (L:List Rw):List Value:=(L.map rwCells).flatten
def etFlat (L:List Et):List Value:=(L.map etCells).flatten
theorem rwFlat_len (L:List Rw):(rwFlat L).length=L.length * 2:=by
  unfold rwFlat
  induction L with
  | nil=>rfl
  | cons p t ih=>simp [rwCells] at ih ⊢;omega
theorem etFlat_len (L:List Et):(etFlat L).length=L.length * 2:=by
  unfold etFlat
  induction L with
  | nil=>rfl
  | cons p t ih=>simp [etCells] at ih ⊢;omega
theorem rwFlat_one (L:List Rw):∀ u ∈ rwFlat L,u.oneCell'=true:=by
  intro u hu
  simp only [rwFlat,List.mem_flatten,List.mem_map] at hu
  obtain ⟨l,⟨p,_,rfl⟩,hu⟩:=hu
  simp only [rwCells,List.mem_cons,List.not_mem_nil,or_false] at hu
  rcases hu with rfl | rfl <;> rfl
theorem etFlat_one (L:List Et):∀ u ∈ etFlat L,u.oneCell'=true:=by
  intro u hu
  simp only [etFlat,List.mem_flatten,List.mem_map] at hu
  obtain ⟨l,⟨p,_,rfl⟩,hu⟩:=hu
  simp only [etCells,List.mem_cons,List.not_mem_nil,or_false] at hu
  rcases hu with rfl | rfl <;> rfl
theorem rwFlat_get:∀ (L:List Rw) (i:Nat) (p:Rw),L[i]?=some p→(rwFlat L)[i * 2]?=some (.string p.1)∧(rwFlat L)[i * 2+1]?=some (.string p.2)
  | [],i,p,h=>by simp at h
  | q :: L,0,p,h=>by
    obtain rfl:q=p:=by simpa using h
    simp [rwFlat,rwCells]
  | q :: L,i+1,p,h=>by
    have:=rwFlat_get L i p (by simpa using h)
    rw [show (i+1) * 2=i * 2+1+1 by omega]
    simpa [rwFlat,rwCells] using this
theorem etFlat_get:∀ (L:List Et) (i:Nat) (p:Et),L[i]?=some p→(etFlat L)[i * 2]?=some (.string p.1)∧(etFlat L)[i * 2+1]?=some (.int .i64 p.2)
  | [],i,p,h=>by simp at h
  | q :: L,0,p,h=>by
    obtain rfl:q=p:=by simpa using h
    simp [etFlat,etCells]
  | q :: L,i+1,p,h=>by
    have:=etFlat_get L i p (by simpa using h)
    rw [show (i+1) * 2=i * 2+1+1 by omega]
    simpa [etFlat,etCells] using this
theorem flat2_inv {α:Type} (f g:α→Value):∀ (L:List α) (j:Nat) (u:Value),((L.map fun p=>[f p,g p]).flatten)[j]?=some u→∃ (k:Nat) (p:α),L[k]?=some p∧((j=k * 2∧u=f p)∨(j=k * 2+1∧u=g p))
  | [],j,u,h=>by simp at h
  | q :: L,j,u,h=>by
    simp only [List.map_cons,List.flatten_cons] at h
    match j,h with
    | 0,h=>exact ⟨0,q,rfl,.inl ⟨rfl,by simpa using h.symm⟩⟩
    | 1,h=>exact ⟨0,q,rfl,.inr ⟨rfl,by simpa using h.symm⟩⟩
    | j+2,h =>
      obtain ⟨k,p,hp,hh⟩:=flat2_inv f g L j u (by simpa using h)
      refine ⟨k+1,p,by simpa using hp,?_⟩
      rcases hh with ⟨e,hu⟩ | ⟨e,hu⟩
      · exact .inl ⟨by omega,hu⟩
      · exact .inr ⟨by omega,hu⟩

def RwReads (w:World) (A:Option Addr) (n:Nat) (L:List Rw):Prop:=
  L.length=n∧(0 < n→∃ b off,A=some ⟨b,off,none⟩∧b < w.heap.size∧∀ k p,L[k]?=some p →
    (p.1.size≤reachBytes∧p.2.size≤reachBytes)∧w.cell? ⟨b,off+k * 2,none⟩=some (.string p.1)∧w.cell? ⟨b,off+k * 2+1,none⟩=some (.string p.2))
def EtReads (w:World) (A:Option Addr) (n:Nat) (L:List Et):Prop:=
  L.length=n∧(0 < n→∃ b off,A=some ⟨b,off,none⟩∧b < w.heap.size∧∀ k p,L[k]?=some p →
    (p.1.size≤reachBytes∧(Lit.int .i64 p.2).wf=true)∧w.cell? ⟨b,off+k * 2,none⟩=some (.string p.1)∧w.cell? ⟨b,off+k * 2+1,none⟩=some (.int .i64 p.2))
theorem rows_of {w:World} {A:Option Addr} {n:Nat} (h:RowAt w A n):∃ L,RwReads w A n L:=by
  rcases Nat.eq_zero_or_pos n with h0 | h0
  · subst h0;exact ⟨[],rfl,fun h=>absurd h (by omega)⟩
  · obtain ⟨b,off,hA,hb,hc⟩:=h h0
    obtain ⟨L,hl,hL⟩:=choose_list (α:=Rw) (P:=fun k p=>(p.1.size≤reachBytes∧p.2.size≤reachBytes)∧w.cell? ⟨b,off+k * 2,none⟩=some (.string p.1)∧w.cell? ⟨b,off+k * 2+1,none⟩=some (.string p.2)) n (fun k hk=>by
      obtain ⟨x0,x1,w0,w1,h0,h1⟩:=hc k hk
      exact ⟨(x0,x1),⟨w0,w1⟩,h0,h1⟩)
    exact ⟨L,hl,fun _=>⟨b,off,hA,hb,hL⟩⟩
theorem ents_of {w:World} {A:Option Addr} {n:Nat} (h:EntryAt w A n):∃ L,EtReads w A n L:=by
  rcases Nat.eq_zero_or_pos n with h0 | h0
  · subst h0;exact ⟨[],rfl,fun h=>absurd h (by omega)⟩
  · obtain ⟨b,off,hA,hb,hc⟩:=h h0
    obtain ⟨L,hl,hL⟩:=choose_list (α:=Et) (P:=fun k p=>(p.1.size≤reachBytes∧(Lit.int .i64 p.2).wf=true)∧w.cell? ⟨b,off+k * 2,none⟩=some (.string p.1)∧w.cell? ⟨b,off+k * 2+1,none⟩=some (.int .i64 p.2)) n (fun k hk=>by
      obtain ⟨x0,x1,w0,w1,h0,h1⟩:=hc k hk
      exact ⟨(x0,x1),⟨w0,w1⟩,h0,h1⟩)
    exact ⟨L,hl,fun _=>⟨b,off,hA,hb,hL⟩⟩
theorem RwReads.reads {w:World} {A:Option Addr} {n:Nat} {L:List Rw} (h:RwReads w A n L):Reads w 2 A n (rwFlat L):=by
  refine ⟨by rw [rwFlat_len,h.1],fun hn=>?_⟩
  obtain ⟨b,off,hA,hb,hc⟩:=h.2 hn
  refine ⟨⟨b,off,none⟩,hA,fun j u hu=>?_⟩
  obtain ⟨k,p,hp,hh⟩:=flat2_inv (fun p:Rw=>Value.string p.1) (fun p=>.string p.2) L j u hu
  obtain ⟨_,c0,c1⟩:=hc k p hp
  rw [add_lit]
  rcases hh with ⟨rfl,rfl⟩ | ⟨rfl,rfl⟩
  · exact c0
  · exact c1
theorem EtReads.reads {w:World} {A:Option Addr} {n:Nat} {L:List Et} (h:EtReads w A n L):Reads w 2 A n (etFlat L):=by
  refine ⟨by rw [etFlat_len,h.1],fun hn=>?_⟩
  obtain ⟨b,off,hA,hb,hc⟩:=h.2 hn
  refine ⟨⟨b,off,none⟩,hA,fun j u hu=>?_⟩
  obtain ⟨k,p,hp,hh⟩:=flat2_inv (fun p:Et=>Value.string p.1) (fun p=>.int .i64 p.2) L j u hu
  obtain ⟨_,c0,c1⟩:=hc k p hp
  rw [add_lit]
  rcases hh with ⟨rfl,rfl⟩ | ⟨rfl,rfl⟩
  · exact c0
  · exact c1
theorem RwReads.fr {w w':World} {A:Option Addr} {n:Nat} {L:List Rw} (h:RwReads w A n L) (hf:Fr none_ w w'):RwReads w' A n L:=
  ⟨h.1,fun hn=>by
    obtain ⟨b,off,hA,hb,hc⟩:=h.2 hn
    exact ⟨b,off,hA,by have:=hf.size;omega,fun k p hp=>by
      obtain ⟨s,c0,c1⟩:=hc k p hp
      exact ⟨s,cellFr c0 hf,cellFr c1 hf⟩⟩⟩
theorem EtReads.fr {w w':World} {A:Option Addr} {n:Nat} {L:List Et} (h:EtReads w A n L) (hf:Fr none_ w w'):EtReads w' A n L:=
  ⟨h.1,fun hn=>by
    obtain ⟨b,off,hA,hb,hc⟩:=h.2 hn
    exact ⟨b,off,hA,by have:=hf.size;omega,fun k p hp=>by
      obtain ⟨s,c0,c1⟩:=hc k p hp
      exact ⟨s,cellFr c0 hf,cellFr c1 hf⟩⟩⟩
theorem rows_conf {H:Type} {enc:TypeId × Value→H} {w:World} {v:Value} (h:Conf enc Tryz.prog w (.slice 50) v):∃ A n c L,v=.slice A n c∧n≤c∧c≤maxLen∧(A=none→n=0∧c=0)∧RwReads w A n L:=by
  obtain ⟨fuel,d,ps,ht,hlt,hwt⟩:=h
  obtain ⟨A,n,c,rfl,h1,h2,h3,h4,h5⟩:=open_list 6 Tryz.underlying50 ht hlt hwt (by rw [leaves_Row];rfl) (by rw [leaves_Row,cells_Row];rfl)
  obtain ⟨L,hL⟩:=rows_of (Row_at h5)
  exact ⟨A,n,c,L,rfl,h1,h2,h4,hL⟩
theorem ents_conf {H:Type} {enc:TypeId × Value→H} {w:World} {v:Value} (h:Conf enc Tryz.prog w (.slice 51) v):∃ A n c L,v=.slice A n c∧n≤c∧c≤maxLen∧(A=none→n=0∧c=0)∧EtReads w A n L:=by
  obtain ⟨fuel,d,ps,ht,hlt,hwt⟩:=h
  obtain ⟨A,n,c,rfl,h1,h2,h3,h4,h5⟩:=open_list 6 Tryz.underlying51 ht hlt hwt (by rw [leaves_Entry];rfl) (by rw [leaves_Entry,cells_Entry];rfl)
  obtain ⟨L,hL⟩:=ents_of (Entry_at h5)
  exact ⟨A,n,c,L,rfl,h1,h2,h4,hL⟩

theorem row_info:(Tryz.prog.info? 170).map (fun i=>(i.zero,i.size,i.bytes))=some (some (.agg #[.string nilS,.string nilS]),2,32):=by kernel_rfl
theorem entry_info:(Tryz.prog.info? 172).map (fun i=>(i.zero,i.size,i.bytes))=some (some (.agg #[.string nilS,.int .i64 0]),2,24):=by kernel_rfl

structure RecOwn (w:World) (base:Nat) (R:Rc) (vr ve:Value):Prop where
  r:w.ownsRow base 170 2 vr R.rows.length (rwFlat R.rows)
  e:w.ownsRow base 172 2 ve R.ents.length (etFlat R.ents)
theorem RecOwn.keep {w w':World} {base:Nat} {R:Rc} {vr ve:Value} (h:RecOwn w base R vr ve) (hf:Fr none_ w w'):RecOwn w' base R vr ve:=⟨own_none h.r hf,own_none h.e hf⟩
theorem RecOwn.base {w:World} {b b':Nat} {R:Rc} {vr ve:Value} (h:RecOwn w b R vr ve) (hb:b'≤b):RecOwn w b' R vr ve:=⟨own_base h.r hb,own_base h.e hb⟩
theorem RecOwn.fr {w w':World} {S:Nat→Prop} {base:Nat} {R:Rc} {vr ve:Value} (h:RecOwn w base R vr ve) (hf:Fr S w w') (hr:∀ k,vr.ownBlock=some k→¬ S k) (he:∀ k,ve.ownBlock=some k→¬ S k):RecOwn w' base R vr ve:=⟨own_fr h.r hf hr,own_fr h.e hf he⟩
theorem RecOwn.only {w w':World} {base g:Nat} {R:Rc} {vr ve:Value} {t:TypeId} {cs:Array Value} (h:RecOwn w base R vr ve) (hf:Fr (only g) w w') (hg:Blk w g t cs) (h1:170≠t) (h2:172≠t):RecOwn w' base R vr ve:=
  h.fr hf (fun k hk e=>own_blk_ne h.r hg h1 (by rw [hk,show k=g from e])) (fun k hk e=>own_blk_ne h.e hg h2 (by rw [hk,show k=g from e]))
theorem RecOwn.zero (w:World) (base:Nat):RecOwn w base Rc.zero (.slice none 0 0) (.slice none 0 0):=⟨World.ownsRow_nil _ _ _ _,World.ownsRow_nil _ _ _ _⟩
theorem box15 {w1:World} {b:Nat} {t:TypeId} {c0 c1 c2 c3 c4 c5 c6 c7 c8 c9 c10 c11 c12 c13 c14:Value} (h:Blk w1 b t #[c0,c1,c2,c3,c4,c5,c6,c7,c8,c9,c10,c11,c12,c13,c14]) (x0 x1 x2 x3 x4 x5 x6 x7 x8 x9 x10 x11 x12 x13 x14:Value) :
    Blk (((((((((((((((w1.setCell ⟨b,0,none⟩ x0).setCell ⟨b,1,none⟩ x1).setCell ⟨b,2,none⟩ x2).setCell ⟨b,3,none⟩ x3).setCell ⟨b,4,none⟩ x4).setCell ⟨b,5,none⟩ x5).setCell ⟨b,6,none⟩ x6).setCell ⟨b,7,none⟩ x7).setCell ⟨b,8,none⟩ x8).setCell ⟨b,9,none⟩ x9).setCell ⟨b,10,none⟩ x10).setCell ⟨b,11,none⟩ x11).setCell ⟨b,12,none⟩ x12).setCell ⟨b,13,none⟩ x13).setCell ⟨b,14,none⟩ x14) b t #[x0,x1,x2,x3,x4,x5,x6,x7,x8,x9,x10,x11,x12,x13,x14]∧Fr (only b) w1 (((((((((((((((w1.setCell ⟨b,0,none⟩ x0).setCell ⟨b,1,none⟩ x1).setCell ⟨b,2,none⟩ x2).setCell ⟨b,3,none⟩ x3).setCell ⟨b,4,none⟩ x4).setCell ⟨b,5,none⟩ x5).setCell ⟨b,6,none⟩ x6).setCell ⟨b,7,none⟩ x7).setCell ⟨b,8,none⟩ x8).setCell ⟨b,9,none⟩ x9).setCell ⟨b,10,none⟩ x10).setCell ⟨b,11,none⟩ x11).setCell ⟨b,12,none⟩ x12).setCell ⟨b,13,none⟩ x13).setCell ⟨b,14,none⟩ x14):=by
  refine ⟨?_,((((((((((((((((Fr.refl (only b) w1).setCell (p:=⟨b,0,none⟩) (.inl (Eq.refl _)) x0).setCell (p:=⟨b,1,none⟩) (.inl (Eq.refl _)) x1).setCell (p:=⟨b,2,none⟩) (.inl (Eq.refl _)) x2).setCell (p:=⟨b,3,none⟩) (.inl (Eq.refl _)) x3).setCell (p:=⟨b,4,none⟩) (.inl (Eq.refl _)) x4).setCell (p:=⟨b,5,none⟩) (.inl (Eq.refl _)) x5).setCell (p:=⟨b,6,none⟩) (.inl (Eq.refl _)) x6).setCell (p:=⟨b,7,none⟩) (.inl (Eq.refl _)) x7).setCell (p:=⟨b,8,none⟩) (.inl (Eq.refl _)) x8).setCell (p:=⟨b,9,none⟩) (.inl (Eq.refl _)) x9).setCell (p:=⟨b,10,none⟩) (.inl (Eq.refl _)) x10).setCell (p:=⟨b,11,none⟩) (.inl (Eq.refl _)) x11).setCell (p:=⟨b,12,none⟩) (.inl (Eq.refl _)) x12).setCell (p:=⟨b,13,none⟩) (.inl (Eq.refl _)) x13).setCell (p:=⟨b,14,none⟩) (.inl (Eq.refl _)) x14)⟩
  have e:=(((((((((((((((h.set_ 0 x0).set_ 1 x1).set_ 2 x2).set_ 3 x3).set_ 4 x4).set_ 5 x5).set_ 6 x6).set_ 7 x7).set_ 8 x8).set_ 9 x9).set_ 10 x10).set_ 11 x11).set_ 12 x12).set_ 13 x13).set_ 14 x14)
  simp only [List.setIfInBounds_toArray,List.set_cons_zero,List.set_cons_succ] at e
  exact e
end Go.Proofs.YthcpccddcgbanaaGreatDoor
