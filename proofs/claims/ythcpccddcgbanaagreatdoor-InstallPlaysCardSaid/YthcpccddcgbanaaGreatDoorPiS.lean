/- Texts of one proof, merged: Rk10, Cmp, Qx, Vw, Rw7, U7, Lw7, Up, Ch, Own8, Res7, Pg7, Rm10, Uw, Ux, Ri12, SimI12, RstOv12, RstFr12, RstGi12. -/
import Derived.Deep.RegionHeld3
import Derived.Deep.RegionLaw
import Derived.Deep.RegionWith
import Derived.Laws.MakeOwn
import Derived.IntWalk
import Derived.Deep.QuietTactic
import Derived.BigQuiet
import Derived.WalkSpells
import Derived.WalkLawsBesides
import Derived.Deep.DeepCutAuto
import Derived.BigRegion
import Derived.Deep.MidRow
import Derived.Test.YthcpccddcgbanaaGreatDoorPiA
import Derived.Test.YthcpccddcgbanaaGreatDoorPiB
import Derived.Test.YthcpccddcgbanaaGreatDoorPiC
import Derived.Test.YthcpccddcgbanaaGreatDoorPiE
import Derived.Test.YthcpccddcgbanaaGreatDoorPiI
import Derived.Test.YthcpccddcgbanaaGreatDoorPiK
import Derived.Test.YthcpccddcgbanaaGreatDoorPiO
import Derived.Test.YthcpccddcgbanaaGreatDoorPiR
namespace Go.Proofs.YthcpccddcgbanaaGreatDoor
set_option maxRecDepth 100000
set_option linter.unusedVariables false
open Go.RowKit

theorem num_info:(Tryz.prog.info? 3).map (fun i=>(i.zero,i.size,i.bytes))=some (some (.int .i64 0),1,8):=by kernel_rfl
abbrev SOwn (w:World) (v:Value) (S:List Int):Prop:=w.ownsRow 0 3 1 v S.length (numFlat S)
abbrev rclk (now last:Int) (v:Value):Value:=.agg #[.int .i64 now,.int .i64 last,v]
abbrev rclkB (now last:Int) (v:Value):Obj:=.cells #[.int .i64 now,.int .i64 last,v] 41
theorem box3k {w1:World} {b:Nat} {t:TypeId} {c0 c1 c2:Value} (h:Blk w1 b t #[c0,c1,c2]) (x y z:Value) :
    Blk (((w1.setCell ⟨b,0,none⟩ x).setCell ⟨b,1,none⟩ y).setCell ⟨b,2,none⟩ z) b t #[x,y,z]∧Fr (only b) w1 (((w1.setCell ⟨b,0,none⟩ x).setCell ⟨b,1,none⟩ y).setCell ⟨b,2,none⟩ z):=
  ⟨((h.set_ 0 x).set_ 1 y).set_ 2 z,(((Fr.refl (only b) w1).setCell (p:=⟨b,0,none⟩) (.inl (Eq.refl _)) _).setCell (p:=⟨b,1,none⟩) (.inl (Eq.refl _)) _).setCell (p:=⟨b,2,none⟩) (.inl (Eq.refl _)) _⟩
theorem made_zero (n:Nat):(madeCells (Value.int IntKind.i64 0).cells (n * 1)).toList=numFlat (List.replicate n 0):=by
  rw [Nat.mul_one]
  exact (toList_madeCells_one (.int .i64 0) n).trans (by simp [numFlat])

theorem rknew_ok (n:Nat) (last:Int) (w:World) (h1:1≤n) (h2:n≤64) (h3:1≤last) (h4:last≤1099511627776):Calls Tryz.prog 33 #[.int .i64 n,.int .i64 last] w fun e w'=>∃ A c,e=.returned (.tuple #[rclk 1 last (.slice A (List.replicate n (0:Int)).length c),.bool true])∧SOwn w' (.slice A (List.replicate n (0:Int)).length c) (List.replicate n 0)∧Fr none_ w w':=by
  obtain ⟨i0,hi0,hz0,hs0,hb0⟩:=info_parts num_info
  have Hi:=hid_ (And.intro hi0 (And.intro hz0 (And.intro hs0 hb0)))
  have hb8:i0.bytes * n≤281474976710656:=by rw [hb0];omega
  clear hi0 hz0 hs0 hb0
  go_enter Tryz.func33,Tryz.ntmps33
  go_wp2_with (at_make;refine wpList_make_full _ rfl (.tmp 22) (.tmp 22) 39 rfl 0 3 i0 (.int .i64 0) 1 Tryz.underlying39 Hi.out.1 Hi.out.2.1 Hi.out.2.2.1 .i64 .i64 n n n rfl rfl rfl rfl hb8 (by simp only [maxLen];omega) (Nat.zero_le _) ?_;intro w1 hown1 hgr1;have F1:=hid_ (((Fr.refl none_ w).alloc (rclkB 0 0 (.slice none 0 0))).grown hgr1 (fun k hk=>by cases hk));have O1:=hid_ hown1;have B1:=hid_ ((Blk.new w 41 #[.int .i64 0,.int .i64 0,.slice none 0 0]).grown hgr1 (by simp));clear hown1 hgr1;have c0:w1.cell? ⟨w.heap.size,0,none⟩=some (.int .i64 0):=B1.out.cell' rfl;have c1:w1.cell? ⟨w.heap.size,1,none⟩=some (.int .i64 0):=B1.out.cell' rfl;have c2:w1.cell? ⟨w.heap.size,2,none⟩=some (.slice none 0 0):=B1.out.cell' rfl;have f0:=B1.out.frozen 0;have f1:=B1.out.frozen 1;have f2:=B1.out.frozen 2)
  obtain ⟨qb,qf⟩:=box3k B1.out (.int .i64 1) (.int .i64 last) (.slice (some ⟨w.heap.size+1,0,none⟩) n n)
  have q0:=qb.cell' (i:=0) rfl
  have q1:=qb.cell' (i:=1) rfl
  have q2:=qb.cell' (i:=2) rfl
  have O2:=own_fr O1.out qf (fun k hk e=>own_blk_ne O1.out B1.out (by decide) (by rw [hk,show k=w.heap.size from e]))
  have F2:=F1.out.then_only qf (.inr (Nat.le_refl _))
  have hl:(List.replicate n (0:Int)).length=n:=by simp
  rw [made_zero] at O2
  rw [World.size_alloc] at O2
  clear c0 c1 c2 f0 f1 f2
  refine bodyPost_ret (v:=.tuple #[rclk 1 last (.slice (some ⟨w.heap.size+1,0,none⟩) n n),.bool true]) (by simp [results,Tryz.results33,go_sem,q0,q1,q2]) rfl ⟨some ⟨w.heap.size+1,0,none⟩,n,by rw [hl],?_,F2⟩
  unfold SOwn
  rw [hl]
  exact O2

open Go.RowKit

def ltL:List UInt8→List UInt8→Bool
  | [],[]=>false
  | [],_ :: _=>true
  | _ :: _,[]=>false
  | a :: x,b :: y=>decide (a.toNat < b.toNat) || (decide (a.toNat=b.toNat) && ltL x y)
def ltS (a b:ByteArray):Bool:=ltL a.data.toList b.data.toList
def sEq (a b:ByteArray):Bool:=a.toList==b.toList
open Go

structure Wx (w:World) where
  v:World
  h:Fr none_ w v
instance Wx.some_ (w:World):Nonempty (Wx w):=⟨⟨w,Fr.refl _ _⟩⟩
def Wx.to {w:World} (x:Wx w):World:=x.v
theorem Wx.fr {w:World} (x:Wx w):Fr none_ w x.to:=x.h
theorem Wx.cell {w:World} (x:Wx w) {b o:Nat} {v:Value} (h:w.cell? ⟨b,o,none⟩=some v):x.to.cell? ⟨b,o,none⟩=some v:=
  (World.cell?_of_block (x.h.block b (World.block_lt_of_cell? w _ h) id)).trans h
section
variable {P:Program} {w:World}
theorem wp_region_quiet_x {id:Nat} {Q:Exit→Act→World→Prop} {a:Act} {l:List Oper} (hm:P.follows .mixedOrders=true) (hB:Region.lexB .any l.toArray=true)
    (h:wpQuiet P l.toArray (fun w'=>∃ x:Wx w,w'=x.to) (fun a'=>∀ w',(∃ x:Wx w,w'=x.to)→Q .normal a' w') l a):(Code.region id l.toArray true).wp P Q a w:=
  wp_region_quiet (C:=fun w'=>∃ x:Wx w,w'=x.to) hm hB ⟨⟨_,(Fr.refl none_ w).drew⟩,rfl⟩ (by simpa using h)
theorem Calls.quiet_x {f:FuncId} {args:Array Value} {x:Wx w} {v:Value}
    (h:Calls P f args x.to fun e w'=>e=.returned v∧Fr none_ x.to w'):Calls P f args x.to fun e w''=>e=.returned v∧∃ y:Wx w,w''=y.to:=
  h.mono fun _ w' ⟨he,hf⟩=>⟨he,⟨w',x.h.then_none hf⟩,rfl⟩
end
open Go.RowKit Go.BigFrame

structure Vw where
  low:ByteArray
  high:ByteArray
  unb:Bool
  right:Int
  ents:List Et
  held:Bool
  hp:Int
  hl:Int
  hk:ByteArray
def Vw.zero:Vw:=⟨nilS,nilS,false,0,[],false,0,0,nilS⟩
def SzOk (s:ByteArray):Prop:=s.size≤9000000000000000000
theorem SzOk.le {s:ByteArray} (h:SzOk s):s.size≤9000000000000000000:=h
theorem SzOk.nil:SzOk nilS:=by unfold SzOk;decide
def EtsOk (L:List Et):Prop:=L.length≤1000∧∀ p ∈ L,SzOk p.1
structure Vw.Ok (V:Vw):Prop where
  low:SzOk V.low
  high:SzOk V.high
  hk:SzOk V.hk
  ents:EtsOk V.ents
structure VwIn (w:World) (V:Vw) (A:Option Addr) (c:Nat):Prop where
  rd:Reads w 2 A V.ents.length (etFlat V.ents)
  cap:V.ents.length≤c
  capm:c≤maxLen
  ok:V.Ok
theorem VwIn.keep {w w':World} {V:Vw} {A:Option Addr} {c:Nat} (h:VwIn w V A c) (hf:Fr none_ w w'):VwIn w' V A c:=⟨h.rd.none_fr hf,h.cap,h.capm,h.ok⟩

open Go.RowKit Go.BigFrame

def plR:List Rw→ByteArray→Nat
  | [],_=>0
  | p :: t,key=>if ltS p.1 key=true then plR t key+1 else 0
theorem plR_le:∀ (L:List Rw) (key:ByteArray),plR L key≤L.length
  | [],_=>Nat.le_refl _
  | p :: t,key=>by
    have:=plR_le t key
    rw [plR]
    split <;> simp <;> omega
def atR (L:List Rw) (key:ByteArray):Bool:=
  match L[plR L key]? with
  | some p=>sEq p.1 key
  | none=>false
def RwsOk (L:List Rw):Prop:=L.length≤300000∧∀ p ∈ L,SzOk p.1∧SzOk p.2
def putR (L:List Rw) (r:Rw):List Rw:=L.take (plR L r.1) ++ [r] ++ L.drop (plR L r.1+if atR L r.1 then 1 else 0)
theorem putR_len (L:List Rw) (r:Rw):(putR L r).length≤L.length+1:=by
  have:=plR_le L r.1
  simp only [putR,List.length_append,List.length_take,List.length_drop,List.length_cons,List.length_nil]
  omega
open Go.RowKit
theorem Blk.there7 {w:World} {g n:Nat} {t:TypeId} {cs:Array Value} (h:Blk w g t cs) (hn:cs.size=n):w.there g 0 n:=by
  subst hn
  intro j hj
  refine ⟨?_,h.frozen _⟩
  rw [h.cell,Nat.zero_add,Array.getElem?_eq_getElem hj]
  rfl
theorem Blk.over7 {w:World} {g:Nat} {t:TypeId} {zs:Array Value} (h:Blk w g t zs) (vs:List Value) (hz:zs.size=vs.length):Blk (w.setCells g 0 vs) g t vs.toArray∧Fr (only g) w (w.setCells g 0 vs):=by
  refine ⟨?_,Fr.setCells _ _ _ (Fr.refl _ _) (.inl rfl)⟩
  have h:=Blk.setCells vs 0 _ _ h
  have e:setA zs 0 vs=vs.toArray:=by
    apply Array.ext_getElem?
    intro k
    rcases Nat.lt_or_ge k vs.length with h1 | h1
    · have:=setA_in vs zs 0 k vs[k] (List.getElem?_eq_getElem h1) (by omega)
      rw [Nat.zero_add] at this
      rw [this,List.getElem?_toArray,List.getElem?_eq_getElem h1]
    · rw [Array.getElem?_eq_none (by rw [setA_size];omega),Array.getElem?_eq_none (by simpa using h1)]
  rwa [e] at h
theorem Blk.range7 {w:World} {g:Nat} {t:TypeId} {l:List Value} (h:Blk w g t l.toArray):w.rangeAt g 0 l:=fun j v hv=>by
  rw [Nat.zero_add]
  exact h.cell' (by simpa using hv)
section
variable {P:Program} {md:Region.Mode} {ops:Array Oper} {Q:Exit→Act→World→Prop} {S:World→Prop}
theorem wpAnyU_two7 {m i j:Nat} {oi oj:Oper} {fuel:Nat} {listed:Array Bool} {a:Act} {w:World} (hi:ops[i]?=some oi) (hj:ops[j]?=some oj) (wi:Region.wanted oi (yielded ops a.tmps)=true) (wj:Region.wanted oj (yielded ops a.tmps)=true) (hr:Region.ready md ops listed=[i,j])
    (h1:Oper.wp P oi a w (fun a' w'=>(m≤i∨S w')∧wpAnyU P md ops Q S m fuel (listed.setIfInBounds i true) a' w') Q)
    (h2:Oper.wp P oj a w (fun a' w'=>(m≤j∨S w')∧wpAnyU P md ops Q S m fuel (listed.setIfInBounds j true) a' w') Q):wpAnyU P md ops Q S m (fuel+1) listed a w:=by
  refine wpAnyU_all hr (by simp) (fun k hk=>?_)
  have hk':k=i∨k=j:=by simpa using hk
  rcases hk' with rfl | rfl
  · unfold wpOp
    simp only [hi,wi,if_true]
    exact .inl h1
  · unfold wpOp
    simp only [hj,wj,if_true]
    exact .inl h2
end
open Go.RowKit Go.BigFrame

structure Lw where
  low:ByteArray
  high:ByteArray
  unb:Bool
  right:Int
  rows:List Rw
  gone:Bool
def Lw.zero:Lw:=⟨nilS,nilS,false,0,[],false⟩
structure Lw.Ok (V:Lw):Prop where
  low:SzOk V.low
  high:SzOk V.high
  rows:RwsOk V.rows
structure LwIn (b0:Nat) (w:World) (V:Lw) (A:Option Addr) (c:Nat):Prop where
  own:w.ownsRow b0 170 2 (.slice A V.rows.length c) V.rows.length (rwFlat V.rows)
  ok:V.Ok
theorem LwIn.keep {b0:Nat} {w w':World} {V:Lw} {A:Option Addr} {c:Nat} (h:LwIn b0 w V A c) (hf:Fr none_ w w'):LwIn b0 w' V A c:=⟨own_none h.own hf,h.ok⟩
theorem LwIn.rd {b0:Nat} {w:World} {V:Lw} {A:Option Addr} {c:Nat} (h:LwIn b0 w V A c):Reads w 2 A V.rows.length (rwFlat V.rows):=Reads.of_own h.own
theorem RwsOk.take {L:List Rw} (h:RwsOk L) (n:Nat):RwsOk (L.take n):=⟨by have:=h.1;simp;omega,fun p hp=>h.2 p (List.mem_of_mem_take hp)⟩
theorem RwsOk.put {L:List Rw} {r:Rw} (h:RwsOk L) (hl:L.length < 300000) (hr:SzOk r.1∧SzOk r.2):RwsOk (putR L r):=by
  refine ⟨by have:=putR_len L r;omega,fun p hp=>?_⟩
  simp only [putR,List.mem_append,List.mem_cons,List.not_mem_nil,or_false] at hp
  rcases hp with (hp | rfl) | hp
  · exact h.2 p (List.mem_of_mem_take hp)
  · exact hr
  · exact h.2 p (List.mem_of_mem_drop hp)
theorem LwIn.far {b0:Nat} {w w':World} {V:Lw} {A:Option Addr} {c X:Nat} {t:TypeId} {cs:Array Value} (h:LwIn b0 w V A c) (hX:Blk w X t cs) (hne:170≠t) (hf:Fr (only X) w w'):LwIn b0 w' V A c:=
  ⟨own_fr h.own hf (fun k hk e=>own_blk_ne h.own hX hne (by rw [hk,show k=X from e])),h.ok⟩
open Go.RowKit Go.BigFrame

def putL (L:List Et) (n:Nat) (p:Et):List Et:=L.take n ++ [p] ++ L.drop n
open Go.RowKit

structure Ch where
  R:Rc
  A:Option Addr
  c:Nat
  B:Option Addr
  d:Nat
abbrev recL (C:Ch):List Value:=[.int .i64 C.R.kind,.string C.R.low,.string C.R.high,.bool C.R.unb,.int .i64 C.R.right,.slice C.A C.R.rows.length C.c,.slice C.B C.R.ents.length C.d,.string C.R.key,.string C.R.val,.int .i64 C.R.page,.int .i64 C.R.hpage,.int .i64 C.R.hleft,.string C.R.hkey,.int .i64 C.R.nslot,.int .i64 C.R.ngen]
structure ChOk (w:World) (C:Ch):Prop where
  rd:RecReads w C.R C.A C.B
  low:SzOk C.R.low
  high:SzOk C.R.high
  key:SzOk C.R.key
  hkey:SzOk C.R.hkey
  ents:EtsOk C.R.ents
  cap:C.R.ents.length≤C.d
  capm:C.d≤maxLen
theorem ChOk.keep {w w':World} {C:Ch} (h:ChOk w C) (hf:Fr none_ w w'):ChOk w' C:=⟨h.rd.keep hf,h.low,h.high,h.key,h.hkey,h.ents,h.cap,h.capm⟩
def ChReads (w:World) (A:Option Addr) (n:Nat) (L:List Ch):Prop:=
  L.length=n∧(0 < n→∃ b off,A=some ⟨b,off,none⟩∧b < w.heap.size∧∀ (k:Nat) (C:Ch),L[k]?=some C→w.rangeAt b (off+k * 15) (recL C)∧ChOk w C)
theorem ChReads.keep {w w':World} {A:Option Addr} {n:Nat} {L:List Ch} (h:ChReads w A n L) (hf:Fr none_ w w'):ChReads w' A n L:=
  ⟨h.1,fun hn=>by
    obtain ⟨b,off,hA,hb,hc⟩:=h.2 hn
    exact ⟨b,off,hA,by have:=hf.size;omega,fun k C hC=>⟨fun j v hv=>cellFr ((hc k C hC).1 j v hv) hf,(hc k C hC).2.keep hf⟩⟩⟩
theorem ChReads.at_ {w:World} {A:Option Addr} {n:Nat} {L:List Ch} (h:ChReads w A n L) {k:Nat} {C:Ch} (hC:L[k]?=some C):∃ b off,A=some ⟨b,off,none⟩∧b < w.heap.size∧w.rangeAt b (off+k * 15) (recL C)∧ChOk w C:=by
  obtain ⟨b,off,hA,hb,hc⟩:=h.2 (by have:=(List.getElem?_eq_some_iff.1 hC).1;have:=h.1;omega)
  exact ⟨b,off,hA,hb,hc k C hC⟩
abbrev recZ8:Array Value:=#[.int .i64 0,.string ⟨#[]⟩,.string ⟨#[]⟩,.bool false,.int .i64 0,.slice none 0 0,.slice none 0 0,.string ⟨#[]⟩,.string ⟨#[]⟩,.int .i64 0,.int .i64 0,.int .i64 0,.string ⟨#[]⟩,.int .i64 0,.int .i64 0]
theorem rec_one (C:Ch):(recL C).toArray.all (·.oneCell')=true:=by simp [Value.oneCell']
theorem rec_size8:(Tryz.prog.info? 55).map (·.size)=some 15:=by kernel_rfl

open Go.RowKit Go.BigFrame

def recFlat (L:List Ch):List Value:=(L.map recL).flatten
theorem recFlat_app (L M:List Ch):recFlat (L ++ M)=recFlat L ++ recFlat M:=by simp [recFlat]
structure ChOwn (w:World) (C:Ch):Prop where
  own:RecOwn w 0 C.R (.slice C.A C.R.rows.length C.c) (.slice C.B C.R.ents.length C.d)
  low:SzOk C.R.low
  high:SzOk C.R.high
  key:SzOk C.R.key
  hkey:SzOk C.R.hkey
  ents:EtsOk C.R.ents
theorem ChOwn.ok {w:World} {C:Ch} (h:ChOwn w C):ChOk w C:=by
  obtain ⟨A',c',e,h1,h2,_⟩:=own_parts h.own.e
  have e1:C.B=A'∧C.d=c':=by injection e with e1 e2 e3;exact ⟨e1,e3⟩
  exact ⟨h.own.reads,h.low,h.high,h.key,h.hkey,h.ents,by rw [e1.2];exact h1,by rw [e1.2];exact h2⟩
theorem ChOwn.keep {w w':World} {C:Ch} (h:ChOwn w C) (hf:Fr none_ w w'):ChOwn w' C:=⟨h.own.keep hf,h.low,h.high,h.key,h.hkey,h.ents⟩
theorem ChOwn.beside {w w':World} {C:Ch} (h:ChOwn w C) {base n:Nat} {v:Value} {xs:List Value} (ho:w.ownsRow base 55 15 v n xs) (hg:w.grownBy w' v.ownBlock):ChOwn w' C:=by
  refine ⟨?_,h.low,h.high,h.key,h.hkey,h.ents⟩
  have hf:Fr (fun k=>v.ownBlock=some k) w w':=(Fr.refl _ w).grown hg (fun k hk=>.inl hk)
  exact h.own.fr hf (fun k hk e=>own_own_ne h.own.r ho (by decide) k hk e) (fun k hk e=>own_own_ne h.own.e ho (by decide) k hk e)
open Go.RowKit
section
variable {P:Program} {fn:Func} (tmps:Array Value) (w:World)
theorem results_cell7 {t:Tmp} {ty:TypeId} (h:fn.results=#[.cell t ty]) (b o:Nat) (cs:List Value) (d:TypeDesc) (ha:tmps.getD t undef=.pointer (some ⟨b,o,none⟩)) (hc:w.rangeAt b o cs)
    (hu:P.underlying ty=some d) (hd:d.isRow=true) (hi:(P.info? ty).map (·.size)=some cs.length):(results fn tmps).run P w=.ok (.agg cs.toArray) w:=by
  have hl:=run_loadVar_mid (P:=P) w b o ty cs d hc hu hd hi
  have ha':tmps[t]?.getD undef=.pointer (some ⟨b,o,none⟩):=by simpa using ha
  simp [results,h,ha',asAddr,hl]
theorem results_cell_cell7 {t s:Tmp} {ty ty2:TypeId} (h:fn.results=#[.cell t ty,.cell s ty2]) (b o:Nat) (cs:List Value) (d:TypeDesc) (ha:tmps.getD t undef=.pointer (some ⟨b,o,none⟩)) (hc:w.rangeAt b o cs)
    (hu:P.underlying ty=some d) (hd:d.isRow=true) (hi:(P.info? ty).map (·.size)=some cs.length)
    (b2 o2:Nat) (cs2:List Value) (d2:TypeDesc) (ha2:tmps.getD s undef=.pointer (some ⟨b2,o2,none⟩)) (hc2:w.rangeAt b2 o2 cs2)
    (hu2:P.underlying ty2=some d2) (hd2:d2.isRow=true) (hi2:(P.info? ty2).map (·.size)=some cs2.length):(results fn tmps).run P w=.ok (.tuple #[.agg cs.toArray,.agg cs2.toArray]) w:=by
  have hl:=run_loadVar_mid (P:=P) w b o ty cs d hc hu hd hi
  have hl2:=run_loadVar_mid (P:=P) w b2 o2 ty2 cs2 d2 hc2 hu2 hd2 hi2
  have ha':tmps[t]?.getD undef=.pointer (some ⟨b,o,none⟩):=by simpa using ha
  have ha2':tmps[s]?.getD undef=.pointer (some ⟨b2,o2,none⟩):=by simpa using ha2
  simp [results,h,ha',ha2',asAddr,hl,hl2]
end
open Go.RowKit Go.BigFrame

def rpFlat (L:List (Int × Int)):List Value:=(L.map fun p=>[.int .i64 p.1,.int .i64 p.2]).flatten
theorem LwIn.base {b0 b:Nat} {w:World} {V:Lw} {A:Option Addr} {c:Nat} (h:LwIn b w V A c) (hb:b0≤b):LwIn b0 w V A c:=⟨own_base h.own hb,h.ok⟩
theorem ChOwn.only {w w':World} {C:Ch} {g:Nat} {t:TypeId} {cs:Array Value} (h:ChOwn w C) (hf:Fr (only g) w w') (hg:Blk w g t cs) (h1:170≠t) (h2:172≠t):ChOwn w' C:=⟨h.own.only hf hg h1 h2,h.low,h.high,h.key,h.hkey,h.ents⟩
theorem LwIn.zero (b0:Nat) (w:World):LwIn b0 w Lw.zero none 0:=⟨World.ownsRow_nil _ _ _ _,⟨SzOk.nil,SzOk.nil,by show (0:Nat)≤300000;omega,fun p hp=>by simp [Lw.zero] at hp⟩⟩
theorem VwIn.zero (w:World):VwIn w Vw.zero none 0:=⟨Reads.nil_,Nat.le_refl _,by simp,⟨SzOk.nil,SzOk.nil,SzOk.nil,⟨by show (0:Nat)≤1000;omega,fun p hp=>by simp [Vw.zero] at hp⟩⟩⟩
open Go.RowKit Go.BigFrame

abbrev dmA (l:Lm) (sn sl:Int) (sv:Value) (tn:Int) (tv:Value) (cn cl:Int) (cv:Value) (k:Int):Array Value:=#[.int .i64 (l.s:Int),.int .i64 (l.p:Int),.int .i64 l.t,.int .i64 l.r,.int .i64 l.c,.int .i64 l.n,.int .i64 sn,.int .i64 sl,sv,.int .i64 tn,tv,.int .i64 cn,.int .i64 cl,cv,.int .i64 k]
abbrev dmZ:Array Value:=#[.int .i64 0,.int .i64 0,.int .i64 0,.int .i64 0,.int .i64 0,.int .i64 0,.int .i64 0,.int .i64 0,.slice none 0 0,.int .i64 0,.slice none 0 0,.int .i64 0,.int .i64 0,.slice none 0 0,.int .i64 0]
theorem dm_size:(Tryz.prog.info? 43).map (·.size)=some 15:=by kernel_rfl
theorem Blk.thereN {w:World} {g:Nat} {t:TypeId} {cs:Array Value} (h:Blk w g t cs) {o n:Nat} (hn:o+n≤cs.size):w.there g o n:=by
  intro j hj
  refine ⟨?_,h.frozen _⟩
  rw [h.cell,Array.getElem?_eq_getElem (by omega)]
  rfl
theorem Blk.rangeN {w:World} {g:Nat} {t:TypeId} {cs:Array Value} (h:Blk w g t cs) {o:Nat} {vs:List Value} (he:∀ (j:Nat) (v:Value),vs[j]?=some v→cs[o+j]?=some v):w.rangeAt g o vs:=fun j v hv=>by
  rw [h.cell]
  exact he j v hv
theorem Blk.putN {w w':World} {g o:Nat} {t:TypeId} {cs cs':Array Value} {vs:List Value} (h:Blk w g t cs) (hw:w'=w.setCells g o vs) (he:setA cs o vs=cs'):Blk w' g t cs'∧Fr (only g) w w':=by
  subst hw
  refine ⟨?_,Fr.setCells _ _ _ (Fr.refl _ _) (.inl rfl)⟩
  rw [← he]
  exact Blk.setCells vs o _ _ h
theorem no_slot {last:Int} {i:Nat} (h:NoSlot last [] i) (hl:0 < last):i=0:=by
  rcases Nat.eq_zero_or_pos i with h0 | h0
  · exact h0
  · rcases h 1 (by omega) (by omega) with e | e
    · have e':false=true:=e
      cases e'
    · have e':last≤0:=e
      omega
def DNew (l:Lm) (w:World) (e:Ending) (w':World):Prop:=
  ∃ (PA:Option Addr) (pc:Nat) (T:Option Addr) (tc:Nat) (C:Option Addr) (cn cc:Nat),e=.returned (.agg (dmA l l.s l.n (.slice PA 1 pc) l.p (.slice T 1 tc) 1 l.n (.slice C cn cc) 0))∧RaIn w' [⟨1,1,leafR,none,0,none,0,true⟩] PA pc∧ROwn w' (.slice T 1 tc) [(0,1,1)]∧(∀ ad,T=some ad→w.heap.size≤ad.block)∧Fr none_ w w'∧∀ ad,PA=some ad→w.heap.size≤ad.block
theorem ra_far {w w':World} {A:Option Addr} {c X:Nat} (h:RaIn w [⟨1,1,leafR,none,0,none,0,true⟩] A c) (hn:∀ ad,A=some ad→ad.block≠X) (hf:Fr (only X) w w'):RaIn w' [⟨1,1,leafR,none,0,none,0,true⟩] A c:=
  ⟨h.rd.fr hf (fun ad e e2=>hn ad e e2),h.cap,h.capm,h.len,fun p hp=>by
    obtain rfl:p=⟨1,1,leafR,none,0,none,0,true⟩:=by simpa using hp
    exact reads_leaf w',h.sz⟩
set_option maxHeartbeats 16000000 in
theorem rnew9_ok (l:Lm) (hl:l.Right) (w:World):Calls Tryz.prog 7 #[.agg (lmA l)] w (DNew l w):=by
 obtain ⟨w0,hw0⟩:∃ z,z=(w.alloc (.cells (lmA l) 23)).alloc (.cells dmZ 43):=⟨_,rfl⟩
 have f0:Fr none_ w w0:=by rw [hw0];exact ((Fr.refl none_ w).alloc _).alloc _
 have BL:Hid (Blk w0 w.heap.size 23 (lmA l)):=hid_ (by rw [hw0];exact (Blk.new w _ _).alloc _)
 have BZ:Hid (Blk w0 (w.heap.size+1) 43 dmZ):=hid_ (by rw [hw0];exact Blk.new_at4 _ _ (by simp))
 have F0:=hid_ f0
 have HL:=hid_ hl
 clear f0 hl
 go_enter Tryz.func7,Tryz.ntmps7
 go_upto_region 1 with fail
 change Code.wp _ _ _ _ ((w.alloc (.cells (lmA l) 23)).alloc (.cells dmZ 43))
 rw [← hw0]
 clear hw0
 obtain ⟨gL,hgL⟩:∃ g,g=w.heap.size:=⟨_,rfl⟩
 rw [← hgL] at BL BZ
 rw [← hgL]
 have HGL:=hid_ hgL
 clear hgL
 have l0:w0.cell? ⟨gL,0,none⟩=some (.int .i64 (l.s:Int)):=BL.out.cell' rfl
 have l1:w0.cell? ⟨gL,1,none⟩=some (.int .i64 (l.p:Int)):=BL.out.cell' rfl
 have l2:w0.cell? ⟨gL,2,none⟩=some (.int .i64 l.t):=BL.out.cell' rfl
 have l3:w0.cell? ⟨gL,3,none⟩=some (.int .i64 l.r):=BL.out.cell' rfl
 have l4:w0.cell? ⟨gL,4,none⟩=some (.int .i64 l.c):=BL.out.cell' rfl
 have l5:w0.cell? ⟨gL,5,none⟩=some (.int .i64 l.n):=BL.out.cell' rfl
 go_upto_region 2 with (refine wpList_store_mid rfl 43 (.tmp 3) (.tmp 11) rfl w0.heap.size 0 (dmA l 0 0 (.slice none 0 0) 0 (.slice none 0 0) 0 0 (.slice none 0 0) 0) rfl rfl (new_there w0 _ dmZ) dm_size (by simp [Value.oneCell']) ?_;obtain ⟨w1,hw1⟩:∃ z,z=(w0.alloc (.cells dmZ 43)).setCells w0.heap.size 0 (dmA l 0 0 (.slice none 0 0) 0 (.slice none 0 0) 0 0 (.slice none 0 0) 0).toList:=⟨_,rfl⟩;change wpList _ _ _ _ _ ((w0.alloc (.cells dmZ 43)).setCells w0.heap.size 0 (dmA l 0 0 (.slice none 0 0) 0 (.slice none 0 0) 0 0 (.slice none 0 0) 0).toList);rw [← hw1];have Q1:Hid (Blk w1 w0.heap.size 43 (dmA l 0 0 (.slice none 0 0) 0 (.slice none 0 0) 0 0 (.slice none 0 0) 0)∧Fr none_ w0 w1):=hid_ (by rw [hw1];exact new_copy w0 43 dmZ (dmA l 0 0 (.slice none 0 0) 0 (.slice none 0 0) 0 0 (.slice none 0 0) 0).toList rfl);clear hw1)
 obtain ⟨gM,hgM⟩:∃ g,g=w0.heap.size:=⟨_,rfl⟩
 have BM:=hid_ Q1.out.1
 rw [← hgM] at BM
 rw [← hgM]
 have HM0:Hid (w.heap.size≤gM∧gM≠gL∧gL+1≠gM):=hid_ (by have h1:=BL.out.lt;have h2:=BZ.out.lt;have h3:=F0.out.size;omega)
 clear hgM
 replace BL:=hid_ (BL.out.fr Q1.out.2 id)
 replace BZ:=hid_ (BZ.out.fr Q1.out.2 id)
 replace F0:=hid_ (F0.out.then_none Q1.out.2)
 clear Q1 l0 l1 l2 l3 l4 l5
 have hs1:=HL.out.s
 have hp1:=HL.out.p
 have ht1:=HL.out.t
 have hn1:=HL.out.n
 have hok:newOk (l.s:Int) l.n=true:=by unfold newOk;simp;omega
 have HOK:=hid_ hok
 clear hok
 have l0:w1.cell? ⟨gL,0,none⟩=some (.int .i64 (l.s:Int)):=BL.out.cell' rfl
 have l5:w1.cell? ⟨gL,5,none⟩=some (.int .i64 l.n):=BL.out.cell' rfl
 go_wp2_with fail
 refine (ranew_ok (l.s:Int) l.n w1).mono ?_
 rintro e w2 ⟨rfl,hf2⟩
 rw [HOK.out,newV,if_pos HOK.out]
 replace BL:=hid_ (BL.out.fr hf2 id)
 replace BZ:=hid_ (BZ.out.fr hf2 id)
 replace BM:=hid_ (BM.out.fr hf2 id)
 replace F0:=hid_ (F0.out.then_none hf2)
 clear hf2 l0 l5
 go_upto_region 3 with (refine wpList_store_mid rfl 35 (.tmp 20) (.tmp 18) rfl gM 6 #[.int .i64 (l.s:Int),.int .i64 l.n,.slice none 0 0] rfl rfl (BM.out.thereN (Nat.le_of_ble_eq_true rfl)) (by kernel_rfl) (by simp [Value.oneCell']) ?_;obtain ⟨w3,hw_⟩:∃ z,z=w2.setCells gM 6 [.int .i64 (l.s:Int),.int .i64 l.n,.slice none 0 0]:=⟨_,rfl⟩;change wpList _ _ _ _ _ (w2.setCells gM 6 [.int .i64 (l.s:Int),.int .i64 l.n,.slice none 0 0]);rw [← hw_];have S_w3:=hid_ (BM.out.putN (cs':=(dmA l l.s l.n (.slice none 0 0) 0 (.slice none 0 0) 0 0 (.slice none 0 0) 0)) hw_ (by simp only [setA,List.setIfInBounds_toArray,List.set_cons_zero,List.set_cons_succ]));clear hw_)
 replace BL:=hid_ (BL.out.fr S_w3.out.2 (only_ne (Ne.symm HM0.out.2.1)))
 replace BZ:=hid_ (BZ.out.fr S_w3.out.2 (only_ne HM0.out.2.2))
 replace BM:=hid_ S_w3.out.1
 replace F0:=hid_ (F0.out.then_only S_w3.out.2 (.inr HM0.out.1))
 clear S_w3
 have l1:w3.cell? ⟨gL,1,none⟩=some (.int .i64 (l.p:Int)):=BL.out.cell' rfl
 go_wp2_with fail
 refine (rtnew (l.p:Int) w3).mono ?_
 rintro e w4 ⟨rfl,hf4⟩
 replace BL:=hid_ (BL.out.fr hf4 id)
 replace BZ:=hid_ (BZ.out.fr hf4 id)
 replace BM:=hid_ (BM.out.fr hf4 id)
 replace F0:=hid_ (F0.out.then_none hf4)
 clear hf4 l1
 go_upto_region 4 with (refine wpList_store_mid rfl 38 (.tmp 27) (.tmp 25) rfl gM 9 #[.int .i64 (l.p:Int),.slice none 0 0] rfl rfl (BM.out.thereN (Nat.le_of_ble_eq_true rfl)) (by kernel_rfl) (by simp [Value.oneCell']) ?_;obtain ⟨w5,hw_⟩:∃ z,z=w4.setCells gM 9 [.int .i64 (l.p:Int),.slice none 0 0]:=⟨_,rfl⟩;change wpList _ _ _ _ _ (w4.setCells gM 9 [.int .i64 (l.p:Int),.slice none 0 0]);rw [← hw_];have S_w5:=hid_ (BM.out.putN (cs':=(dmA l l.s l.n (.slice none 0 0) l.p (.slice none 0 0) 0 0 (.slice none 0 0) 0)) hw_ (by simp only [setA,List.setIfInBounds_toArray,List.set_cons_zero,List.set_cons_succ]));clear hw_)
 replace BL:=hid_ (BL.out.fr S_w5.out.2 (only_ne (Ne.symm HM0.out.2.1)))
 replace BZ:=hid_ (BZ.out.fr S_w5.out.2 (only_ne HM0.out.2.2))
 replace BM:=hid_ S_w5.out.1
 replace F0:=hid_ (F0.out.then_only S_w5.out.2 (.inr HM0.out.1))
 clear S_w5
 obtain ⟨tn,htn⟩:∃ tn:Nat,l.t=(tn:Int):=⟨l.t.toNat,by omega⟩
 have l2:w5.cell? ⟨gL,2,none⟩=some (.int .i64 l.t):=BL.out.cell' rfl
 have l5:w5.cell? ⟨gL,5,none⟩=some (.int .i64 l.n):=BL.out.cell' rfl
 rw [htn] at l2
 go_wp2_with fail
 refine (rknew_ok tn l.n w5 (by omega) (by omega) (by omega) (by omega)).mono ?_
 rintro e w6 ⟨C,cc,rfl,-,hf6⟩
 rw [List.length_replicate]
 replace BL:=hid_ (BL.out.fr hf6 id)
 replace BZ:=hid_ (BZ.out.fr hf6 id)
 replace BM:=hid_ (BM.out.fr hf6 id)
 replace F0:=hid_ (F0.out.then_none hf6)
 clear hf6 l2 l5
 go_upto_region 5 with (refine wpList_store_mid rfl 41 (.tmp 36) (.tmp 34) rfl gM 11 #[.int .i64 1,.int .i64 l.n,.slice C tn cc] rfl rfl (BM.out.thereN (Nat.le_of_ble_eq_true rfl)) (by kernel_rfl) (by simp [Value.oneCell']) ?_;obtain ⟨w7,hw_⟩:∃ z,z=w6.setCells gM 11 [.int .i64 1,.int .i64 l.n,.slice C tn cc]:=⟨_,rfl⟩;change wpList _ _ _ _ _ (w6.setCells gM 11 [.int .i64 1,.int .i64 l.n,.slice C tn cc]);rw [← hw_];have S_w7:=hid_ (BM.out.putN (cs':=(dmA l l.s l.n (.slice none 0 0) l.p (.slice none 0 0) 1 l.n (.slice C tn cc) 0)) hw_ (by simp only [setA,List.setIfInBounds_toArray,List.set_cons_zero,List.set_cons_succ]));clear hw_)
 replace BL:=hid_ (BL.out.fr S_w7.out.2 (only_ne (Ne.symm HM0.out.2.1)))
 replace BZ:=hid_ (BZ.out.fr S_w7.out.2 (only_ne HM0.out.2.2))
 replace BM:=hid_ S_w7.out.1
 replace F0:=hid_ (F0.out.then_only S_w7.out.2 (.inr HM0.out.1))
 clear S_w7
 have z6:w7.cell? ⟨gM,6,none⟩=some (.int .i64 (l.s:Int)):=BM.out.cell' rfl
 have z7:w7.cell? ⟨gM,7,none⟩=some (.int .i64 l.n):=BM.out.cell' rfl
 have z8:w7.cell? ⟨gM,8,none⟩=some (.slice none 0 0):=BM.out.cell' rfl
 go_wp2_with fail
 refine (ralloc_ok (l.s:Int) l.n [] none 0 leafR none 0 none 0 w7 (by omega) (by omega) (by omega) (fun n=>Int.le_refl _) (by simp) (RaIn.nil w7) (reads_leaf w7) ⟨by simp,by simp⟩).mono ?_
 intro e w8 hal
 obtain ⟨PA,pc,rfl,hra,hpa,hf8⟩:∃ (PA:Option Addr) (pc:Nat),e=.returned (.tuple #[raV (l.s:Int) l.n [⟨1,1,leafR,none,0,none,0,true⟩] PA pc,.agg #[.int .i64 1,.int .i64 1],.int .i64 0])∧RaIn w8 [⟨1,1,leafR,none,0,none,0,true⟩] PA pc∧(∀ ad,PA=some ad→w7.heap.size≤ad.block)∧Fr none_ w7 w8:=by
  rcases hal with ⟨i,A2,c2,h1,h2,h3,h4,rfl,h6,h8,h7⟩ | ⟨h1,_⟩
  ·obtain rfl:=no_slot h2 (by have:=HL.out.n;omega)
   exact ⟨A2,c2,rfl,h6,h8,h7⟩
  ·have:=no_slot h1 (by have:=HL.out.n;omega)
   have:=HL.out.s
   omega
 have RA:=hid_ hra
 have HPA:Hid (∀ ad,PA=some ad→ad.block≠gM∧ad.block≠gL+1):=hid_ (fun ad e=>by have h1:=hpa ad e;have h2:=BM.out.lt;have h3:=BZ.out.lt;omega)
 have HPN:Hid (∀ ad,PA=some ad→w.heap.size≤ad.block):=hid_ (fun ad e=>by have h1:=hpa ad e;have h2:=F0.out.size;omega)
 clear hpa
 replace BL:=hid_ (BL.out.fr hf8 id)
 replace BZ:=hid_ (BZ.out.fr hf8 id)
 replace BM:=hid_ (BM.out.fr hf8 id)
 replace F0:=hid_ (F0.out.then_none hf8)
 clear hal hra hf8 z6 z7 z8
 go_upto_region 6 with fail
 obtain ⟨w9,hw9⟩:∃ z,z=(w8.alloc (.cells (raA (l.s:Int) l.n [⟨1,1,leafR,none,0,none,0,true⟩] PA pc) 35)).alloc (.cells #[.int .i64 1,.int .i64 1] 48):=⟨_,rfl⟩
 have K9:Hid (Blk w9 w8.heap.size 35 (raA (l.s:Int) l.n [⟨1,1,leafR,none,0,none,0,true⟩] PA pc)∧Blk w9 (w8.heap.size+1) 48 #[.int .i64 1,.int .i64 1]∧Fr none_ w8 w9):=hid_ (by rw [hw9];exact ⟨(Blk.new w8 _ _).alloc _,Blk.new_at4 _ _ (by simp),((Fr.refl none_ w8).alloc _).alloc _⟩)
 change Code.wp _ _ _ _ ((w8.alloc (.cells (raA (l.s:Int) l.n [⟨1,1,leafR,none,0,none,0,true⟩] PA pc) 35)).alloc (.cells #[.int .i64 1,.int .i64 1] 48))
 rw [← hw9]
 clear hw9
 have BX:=hid_ K9.out.2.1
 have BA:=hid_ K9.out.1
 obtain ⟨gA,hgA⟩:∃ g,g=w8.heap.size:=⟨_,rfl⟩
 rw [← hgA] at BA BX
 rw [← hgA]
 have HGA:Hid (gA≠gM∧gA+1≠gM):=hid_ (by have:=BM.out.lt;omega)
 clear hgA
 replace BL:=hid_ (BL.out.fr K9.out.2.2 id)
 replace BZ:=hid_ (BZ.out.fr K9.out.2.2 id)
 replace BM:=hid_ (BM.out.fr K9.out.2.2 id)
 replace F0:=hid_ (F0.out.then_none K9.out.2.2)
 replace RA:=hid_ (RA.out.keep K9.out.2.2)
 clear K9
 have z6:w9.cell? ⟨gA,0,none⟩=some (.int .i64 (l.s:Int)):=BA.out.cell' rfl
 have z7:w9.cell? ⟨gA,1,none⟩=some (.int .i64 l.n):=BA.out.cell' rfl
 have z8:w9.cell? ⟨gA,2,none⟩=some (.slice PA 1 pc):=BA.out.cell' rfl
 go_upto_region 7 with (refine wpList_store_mid rfl 35 (.tmp 46) (.tmp 45) rfl gM 6 #[.int .i64 (l.s:Int),.int .i64 l.n,.slice PA 1 pc] rfl rfl (BM.out.thereN (Nat.le_of_ble_eq_true rfl)) (by kernel_rfl) (by simp [Value.oneCell']) ?_;obtain ⟨w10,hw_⟩:∃ z,z=w9.setCells gM 6 [.int .i64 (l.s:Int),.int .i64 l.n,.slice PA 1 pc]:=⟨_,rfl⟩;change wpList _ _ _ _ _ (w9.setCells gM 6 [.int .i64 (l.s:Int),.int .i64 l.n,.slice PA 1 pc]);rw [← hw_];have S_w10:=hid_ (BM.out.putN (cs':=(dmA l l.s l.n (.slice PA 1 pc) l.p (.slice none 0 0) 1 l.n (.slice C tn cc) 0)) hw_ (by simp only [setA,List.setIfInBounds_toArray,List.set_cons_zero,List.set_cons_succ]));clear hw_)
 have RA':Hid (RaIn w10 [⟨1,1,leafR,none,0,none,0,true⟩] PA pc):=hid_ (ra_far RA.out (fun ad e=>(HPA.out ad e).1) S_w10.out.2)
 replace BX:=hid_ (BX.out.fr S_w10.out.2 (only_ne HGA.out.2))
 replace BL:=hid_ (BL.out.fr S_w10.out.2 (only_ne (Ne.symm HM0.out.2.1)))
 replace BZ:=hid_ (BZ.out.fr S_w10.out.2 (only_ne HM0.out.2.2))
 replace BM:=hid_ S_w10.out.1
 replace F0:=hid_ (F0.out.then_only S_w10.out.2 (.inr HM0.out.1))
 clear S_w10
 clear z6 z7 z8 RA BA
 have z9:w10.cell? ⟨gM,9,none⟩=some (.int .i64 (l.p:Int)):=BM.out.cell' rfl
 have z10:w10.cell? ⟨gM,10,none⟩=some (.slice none 0 0):=BM.out.cell' rfl
 go_wp2_with fail
 refine (rtake_ok l.p 0 none 0 [] w10 (World.ownsRow_nil _ _ _ _) (by simp) (by omega) (by omega) (findL_no [] 0 (fun p hp=>by cases hp)) (fun j hj=>by omega)).mono ?_
 rintro e w11 ⟨T1,c1,rfl,ho11,hf11⟩
 have O11:=hid_ ho11
 replace BL:=hid_ (BL.out.fr hf11 id)
 replace BZ:=hid_ (BZ.out.fr hf11 id)
 replace BM:=hid_ (BM.out.fr hf11 id)
 replace F0:=hid_ (F0.out.then_none hf11)
 replace RA':=hid_ (RA'.out.keep hf11)
 replace BX:=hid_ (BX.out.fr hf11 id)
 clear ho11 hf11 z9 z10
 go_upto_region 8 with fail
 obtain ⟨w12,hw12⟩:∃ z,z=w11.alloc (.cells #[.int .i64 (l.p:Int),.slice T1 1 c1] 38):=⟨_,rfl⟩
 have K12:Hid (Blk w12 w11.heap.size 38 #[.int .i64 (l.p:Int),.slice T1 1 c1]∧Fr none_ w11 w12):=hid_ (by rw [hw12];exact ⟨Blk.new w11 _ _,(Fr.refl none_ w11).alloc _⟩)
 change Code.wp _ _ _ _ (w11.alloc (.cells #[.int .i64 (l.p:Int),.slice T1 1 c1] 38))
 rw [← hw12]
 clear hw12
 have BT:=hid_ K12.out.1
 obtain ⟨gT,hgT⟩:∃ g,g=w11.heap.size:=⟨_,rfl⟩
 rw [← hgT] at BT
 rw [← hgT]
 have HPT:Hid (∀ ad,PA=some ad→ad.block≠gT):=hid_ (fun ad e=>by
  obtain ⟨b,off,e1,hb,_⟩:=RA'.out.at_ (k:=0) rfl
  rw [e1] at e
  cases e
  rw [hgT]
  exact Nat.ne_of_lt hb)
 have HGT:Hid (gT≠gM∧w.heap.size≤gT):=hid_ (by have:=BM.out.lt;have:=F0.out.size;omega)
 clear hgT
 replace BL:=hid_ (BL.out.fr K12.out.2 id)
 replace BZ:=hid_ (BZ.out.fr K12.out.2 id)
 replace BM:=hid_ (BM.out.fr K12.out.2 id)
 replace F0:=hid_ (F0.out.then_none K12.out.2)
 replace RA':=hid_ (RA'.out.keep K12.out.2)
 replace BX:=hid_ (BX.out.fr K12.out.2 id)
 replace O11:=hid_ (own_none O11.out K12.out.2)
 clear K12
 have t0:w12.cell? ⟨gT,0,none⟩=some (.int .i64 (l.p:Int)):=BT.out.cell' rfl
 have t1:w12.cell? ⟨gT,1,none⟩=some (.slice T1 1 c1):=BT.out.cell' rfl
 have x0:w12.cell? ⟨gA+1,0,none⟩=some (.int .i64 1):=BX.out.cell' rfl
 have x1:w12.cell? ⟨gA+1,1,none⟩=some (.int .i64 1):=BX.out.cell' rfl
 go_wp2_with fail
 refine (rswap_yes (l.p:Int) 0 T1 c1 [(0,0,0)] 0 0 1 1 w12 O11.out (by simp) (by omega) (by omega) 0 0 rfl rfl).mono ?_
 rintro e w13 ⟨T2,c2,rfl,ho13,hf13,ht2⟩
 have HT2:Hid (∀ ad,T2=some ad→w.heap.size≤ad.block):=hid_ (fun ad e=>by have:=ht2 ad e;have:=F0.out.size;omega)
 clear ht2
 have O13:Hid (ROwn w13 (.slice T2 1 c2) [(0,1,1)]):=hid_ ho13
 replace BT:=hid_ (BT.out.fr hf13 id)
 replace BL:=hid_ (BL.out.fr hf13 id)
 replace BZ:=hid_ (BZ.out.fr hf13 id)
 replace BM:=hid_ (BM.out.fr hf13 id)
 replace F0:=hid_ (F0.out.then_none hf13)
 replace RA':=hid_ (RA'.out.keep hf13)
 clear ho13 hf13 t0 t1 x0 x1 O11 BX
 have t0:w13.cell? ⟨gT,0,none⟩=some (.int .i64 (l.p:Int)):=BT.out.cell' rfl
 have t1:w13.cell? ⟨gT,1,none⟩=some (.slice T1 1 c1):=BT.out.cell' rfl
 have y0:=BT.out.frozen 0
 have y1:=BT.out.frozen 1
 go_upto_region 9 with fail
 obtain ⟨w14,hw14⟩:∃ z,z=(w13.setCell ⟨gT,0,none⟩ (.int .i64 (l.p:Int))).setCell ⟨gT,1,none⟩ (.slice T2 1 c2):=⟨_,rfl⟩
 have S_w14:Hid (Blk w14 gT 38 #[.int .i64 (l.p:Int),.slice T2 1 c2]∧Fr (only gT) w13 w14):=hid_ (by rw [hw14];exact box2 BT.out _ _)
 change Code.wp _ _ _ _ ((w13.setCell ⟨gT,0,none⟩ (.int .i64 (l.p:Int))).setCell ⟨gT,1,none⟩ (.slice T2 1 c2))
 rw [← hw14]
 clear hw14 t0 t1 y0 y1
 replace RA':=hid_ (ra_far RA'.out HPT.out S_w14.out.2)
 replace O13:=hid_ (own_fr O13.out S_w14.out.2 (fun k hk e=>own_blk_ne O13.out BT.out (by decide) (by rw [hk,show k=gT from e])))
 replace BL:=hid_ (BL.out.fr S_w14.out.2 (only_ne (Blk.ne_ BL.out BT.out (by decide))))
 replace BZ:=hid_ (BZ.out.fr S_w14.out.2 (only_ne (Blk.ne_ BZ.out BT.out (by decide))))
 replace BM:=hid_ (BM.out.fr S_w14.out.2 (only_ne (Ne.symm HGT.out.1)))
 replace F0:=hid_ (F0.out.then_only S_w14.out.2 (.inr HGT.out.2))
 replace BT:=hid_ S_w14.out.1
 clear S_w14
 have t0:w14.cell? ⟨gT,0,none⟩=some (.int .i64 (l.p:Int)):=BT.out.cell' rfl
 have t1:w14.cell? ⟨gT,1,none⟩=some (.slice T2 1 c2):=BT.out.cell' rfl
 go_upto_region 10 with (refine wpList_store_mid rfl 38 (.tmp 63) (.tmp 62) rfl gM 9 #[.int .i64 (l.p:Int),.slice T2 1 c2] rfl rfl (BM.out.thereN (Nat.le_of_ble_eq_true rfl)) (by kernel_rfl) (by simp [Value.oneCell']) ?_;obtain ⟨w15,hw_⟩:∃ z,z=w14.setCells gM 9 [.int .i64 (l.p:Int),.slice T2 1 c2]:=⟨_,rfl⟩;change wpList _ _ _ _ _ (w14.setCells gM 9 [.int .i64 (l.p:Int),.slice T2 1 c2]);rw [← hw_];have S_w15:=hid_ (BM.out.putN (cs':=(dmA l l.s l.n (.slice PA 1 pc) l.p (.slice T2 1 c2) 1 l.n (.slice C tn cc) 0)) hw_ (by simp only [setA,List.setIfInBounds_toArray,List.set_cons_zero,List.set_cons_succ]));clear hw_)
 replace RA':=hid_ (ra_far RA'.out (fun ad e=>(HPA.out ad e).1) S_w15.out.2)
 replace O13:=hid_ (own_fr O13.out S_w15.out.2 (fun k hk e=>own_blk_ne O13.out BM.out (by decide) (by rw [hk,show k=gM from e])))
 replace BL:=hid_ (BL.out.fr S_w15.out.2 (only_ne (Ne.symm HM0.out.2.1)))
 replace BZ:=hid_ (BZ.out.fr S_w15.out.2 (only_ne HM0.out.2.2))
 replace BM:=hid_ S_w15.out.1
 replace F0:=hid_ (F0.out.then_only S_w15.out.2 (.inr HM0.out.1))
 clear S_w15
 clear t0 t1 BT
 go_wp2_with (first | (refine wpList_load_mid rfl 43 (.tmp 3) rfl gM 0 rfl (dmA l l.s l.n (.slice PA 1 pc) l.p (.slice T2 1 c2) 1 l.n (.slice C tn cc) 0).toList _ (BM.out.rangeN (fun j v hv=>by rw [Nat.zero_add];simpa using hv)) Tryz.underlying43 rfl dm_size ?_) | (refine wpList_store_mid rfl 43 (.tmp 2) (.tmp 64) rfl (gL+1) 0 (dmA l l.s l.n (.slice PA 1 pc) l.p (.slice T2 1 c2) 1 l.n (.slice C tn cc) 0) rfl rfl (BZ.out.thereN (Nat.le_of_ble_eq_true rfl)) dm_size (by simp [Value.oneCell']) ?_;have ov:=BZ.out.over4 (dmA l l.s l.n (.slice PA 1 pc) l.p (.slice T2 1 c2) 1 l.n (.slice C tn cc) 0).toList rfl;obtain ⟨w16,hw16⟩:∃ z,z=w15.setCells (gL+1) 0 (dmA l l.s l.n (.slice PA 1 pc) l.p (.slice T2 1 c2) 1 l.n (.slice C tn cc) 0).toList:=⟨_,rfl⟩;rw [← hw16] at ov;change wpList _ _ _ _ _ (w15.setCells (gL+1) 0 (dmA l l.s l.n (.slice PA 1 pc) l.p (.slice T2 1 c2) 1 l.n (.slice C tn cc) 0).toList);rw [← hw16];have OV:=hid_ ov;clear hw16 ov))
 refine bodyPost_ret (results_cell7 _ _ rfl (gL+1) 0 (dmA l l.s l.n (.slice PA 1 pc) l.p (.slice T2 1 c2) 1 l.n (.slice C tn cc) 0).toList _ rfl (Blk.range7 (l:=(dmA l l.s l.n (.slice PA 1 pc) l.p (.slice T2 1 c2) 1 l.n (.slice C tn cc) 0).toList) OV.out.1) Tryz.underlying43 rfl dm_size) rfl ⟨PA,pc,T2,c2,C,tn,cc,rfl,ra_far RA'.out (fun ad e=>(HPA.out ad e).2) OV.out.2,own_fr O13.out OV.out.2 (fun k hk e=>own_blk_ne O13.out BZ.out (by decide) (by rw [hk,show k=gL+1 from e])),HT2.out,F0.out.then_only OV.out.2 (.inr (by have:=HGL.out;omega)),HPN.out⟩
open Go.RowKit
structure UwA (P:Program) (md:Region.Mode) (ops:Array Oper) (Q:Exit→Act→World→Prop) (S:World→Prop) (m fuel:Nat) (listed:Array Bool) (a:Act) (w:World):Prop where
  h:wpAnyU P md ops Q S m fuel listed a w
section
variable {P:Program} {md:Region.Mode} {ops:Array Oper} {Q:Exit→Act→World→Prop} {S:World→Prop} {m fuel:Nat} {listed:Array Bool} {a:Act} {w:World} {oi:Oper}
theorem u_take (i:Nat) (d:Option Tmp) (v:Value) (hi:ops[i]?=some oi) (hd:oi.dst=d) (hs:Region.noSelect ops=true) (hf:Region.free md ops listed i=true) (hr:(Region.ready md ops listed).contains i=true)
    (hm:((List.range ops.size).all (fun j=>!decide (m≤j) || decide (j=i) || waitsB md ops ops.size j i) && closedB md ops listed)=true)
    (hQ:∀ c a w,Q (.panic c) (a.put oi.dst v) w→Q (.panic c) a w) (hy:YieldsIf P ops S oi v a) (hS:S w)
    (h:UwA P md ops Q S m fuel (listed.setIfInBounds i true) (a.put d v) w):UwA P md ops Q S m (fuel+1) listed a w:=by
  subst hd
  exact ⟨wpAnyU_take2 hi hs hf hr hm hQ hy hS h.h⟩
theorem y_val {v:Value} (hw:Region.wanted oi (yielded ops a.tmps)=true) (hx:∀ w,S w→(execOp a.eval oi).run P w=.ok (.value v) w):YieldsIf P ops S oi v a:=.inl ⟨hw,hx⟩
theorem y_skip (hw:Region.wanted oi (yielded ops a.tmps)=false):YieldsIf P ops S oi undef a:=.inr ⟨hw,rfl⟩
theorem y_bool {b c:Bool} (hbc:b=c) (hw:Region.wanted oi (yielded ops a.tmps)=true) (hx:∀ w,S w→(execOp a.eval oi).run P w=.ok (.value (.bool b)) w):YieldsIf P ops S oi (.bool c) a:=.inl ⟨hw,fun w hS=>by rw [← hbc];exact hx w hS⟩
theorem run_loadAt_cellU (w:World) (ad:Addr) (ty:TypeId) (v:Value) (d:TypeDesc) (hc:w.cell? ad=some v) (hu:P.underlying ty=some d) (hd:d.isRow=false) :
    (Instr.loadAt ty (.pointer (some ad))).run P w=.ok v w:=by
  have hagg:(isAgg ty).run P w=.ok false w:=by
    unfold isAgg
    rw [Sem.run_bind,run_underlying hu w]
    cases d <;> simp_all
  have hl:(load ad).run P w=.ok v w:=by
    rw [run_load,hc]
  simp only [Instr.loadAt,Instr.sureAddr,loadVar,Sem.run_bind,Sem.run_pure,Result.andThen_ok,hagg,Bool.false_eq_true,if_false,hl]
theorem y_cell {v:Value} (ty:TypeId) (x:Operand) (ad:Addr) (td:TypeDesc) (hw:Region.wanted oi (yielded ops a.tmps)=true) (ho:oi.op=.load ty x) (hx:a.eval x=.pointer (some ad)) (hc:∀ w,S w→w.cell? ad=some v) (hu:P.underlying ty=some td) (hr:td.isRow=false):YieldsIf P ops S oi v a:=
  .inl ⟨hw,fun w hS=>by
    unfold execOp
    simp only [ho,hx,Sem.run_bind,Sem.run_pure,Result.andThen_ok,run_loadAt_cellU w ad ty v td (hc w hS) hu hr]⟩
theorem u_one (i:Nat) (hi:ops[i]?=some oi) (hw:Region.wanted oi (yielded ops a.tmps)=true) (hr:Region.ready md ops listed=[i])
    (h:Oper.wp P oi a w (fun a' w'=>(m≤i∨S w')∧UwA P md ops Q S m fuel (listed.setIfInBounds i true) a' w') Q):UwA P md ops Q S m (fuel+1) listed a w:=by
  refine ⟨wpAnyU_all hr (by simp) (fun j hj=>?_)⟩
  obtain rfl:j=i:=by simpa using hj
  refine wpOp_mono (K:=fun a' w'=>(m≤j∨S w')∧UwA P md ops Q S m fuel (listed.setIfInBounds j true) a' w') (fun a' w' h'=>⟨h'.1,h'.2.h⟩) ?_
  unfold wpOp
  simp only [hi,hw,if_true]
  exact .inl h
theorem u_call (i:Nat) (d:Option Tmp) (f:FuncId) (vs:Array Value) (v:Value) (F:World→Prop) (hi:ops[i]?=some oi) (hd:oi.dst=d) (hw:Region.wanted oi (yielded ops a.tmps)=true) (hr:Region.ready md ops listed=[i])
    (hx:(execOp a.eval oi).run P w=.ok (.enter f vs) w) (hc:Calls P f vs w (fun e w'=>e=.returned v∧F w'))
    (h:∀ w',F w'→S w'∧UwA P md ops Q S m fuel (listed.setIfInBounds i true) (a.put d v) w'):UwA P md ops Q S m (fuel+1) listed a w:=by
  subst hd
  refine u_one i hi hw hr ?_
  unfold Oper.wp
  rw [hx,Oper.upon_enter]
  refine hc.mono ?_
  rintro e w' ⟨rfl,hF⟩
  exact ⟨.inr (h w' hF).1,(h w' hF).2⟩
theorem u_callE (i:Nat) (d:Option Tmp) (f:FuncId) (vs:Array Value) (F:Value→World→Prop) (hi:ops[i]?=some oi) (hd:oi.dst=d) (hw:Region.wanted oi (yielded ops a.tmps)=true) (hr:Region.ready md ops listed=[i])
    (hx:(execOp a.eval oi).run P w=.ok (.enter f vs) w) (hc:Calls P f vs w (fun e w'=>∃ v,e=.returned v∧F v w'))
    (h:∀ v w',F v w'→S w'∧UwA P md ops Q S m fuel (listed.setIfInBounds i true) (a.put d v) w'):UwA P md ops Q S m (fuel+1) listed a w:=by
  subst hd
  refine u_one i hi hw hr ?_
  unfold Oper.wp
  rw [hx,Oper.upon_enter]
  refine hc.mono ?_
  rintro e w' ⟨v,rfl,hF⟩
  exact ⟨.inr (h v w' hF).1,(h v w' hF).2⟩
theorem u_store (i:Nat) (ty:TypeId) (x y:Operand) (b o:Nat) (cells:Array Value) (hi:ops[i]?=some oi) (hd:oi.dst=none) (hw:Region.wanted oi (yielded ops a.tmps)=true) (hr:Region.ready md ops listed=[i])
    (ho:oi.op=.store ty x y) (hx:a.eval x=.pointer (some ⟨b,o,none⟩)) (hy:a.eval y=.agg cells) (ht:w.there b o cells.size) (hz:(P.info? ty).map (·.size)=some cells.size) (h1:cells.all (·.oneCell')=true)
    (h:∀ w',w'=w.setCells b o cells.toList→S w'∧UwA P md ops Q S m fuel (listed.setIfInBounds i true) a w'):UwA P md ops Q S m (fuel+1) listed a w:=by
  refine u_one i hi hw hr ?_
  refine wp_store_mid ty x y ho b o cells hx hy ht hz h1 ?_
  rw [hd]
  exact ⟨.inr (h _ rfl).1,(h _ rfl).2⟩
theorem u_done (hr:Region.ready md ops listed=[]) (h:Q .normal a w):UwA P md ops Q S m fuel listed a w:=⟨wpAnyU_done hr h fuel⟩
theorem wp_region_u (m:Nat) (S:World→Prop) {id:Nat} (hm:P.follows .mixedOrders=true)
    (h:UwA P .any ops Q S m ops.size (Array.replicate ops.size false) a w.drew):(Code.region id ops true).wp P Q a w:=wp_region_U hm h.h
end
open Go.RowKit
section
variable {ops:Array Oper} {S:World→Prop} {a:Act} {oi:Oper}
theorem y_int {P:Program} {x y:Int} (hxy:x=y) (hw:Region.wanted oi (yielded ops a.tmps)=true) (hx:∀ w,S w→(execOp a.eval oi).run P w=.ok (.value (.int .i64 x)) w):YieldsIf P ops S oi (.int .i64 y) a:=.inl ⟨hw,fun w hS=>by rw [← hxy];exact hx w hS⟩
variable {P:Program} {md:Region.Mode} {Q:Exit→Act→World→Prop} {m fuel:Nat} {listed:Array Bool} {w:World}
theorem u_run (i:Nat) (d:Option Tmp) (v:Value) (w2:World) (hi:ops[i]?=some oi) (hd:oi.dst=d) (hw:Region.wanted oi (yielded ops a.tmps)=true) (hr:Region.ready md ops listed=[i])
    (hx:(execOp a.eval oi).run P w=.ok (.value v) w2) (hS:m≤i∨S w2) (h:UwA P md ops Q S m fuel (listed.setIfInBounds i true) (a.put d v) w2):UwA P md ops Q S m (fuel+1) listed a w:=by
  subst hd
  refine u_one i hi hw hr ?_
  unfold Oper.wp
  rw [hx,Oper.upon_value]
  exact ⟨hS,h⟩
theorem wp_known {K:Act→World→Prop} (v:Value) (w2:World) (hx:(execOp a.eval oi).run P w=.ok (.value v) w2) (h:K (a.put oi.dst v) w2):Oper.wp P oi a w K Q:=by
  unfold Oper.wp
  rw [hx,Oper.upon_value]
  exact h
theorem ex_index (t e:TypeId) (x y:Operand) (b off n m c:Nat) (ho:oi.op=.indexAddr t x y) (hx:a.eval x=.slice (some ⟨b,off,none⟩) m c) (hy:a.eval y=.int .i64 n) (hu:Tryz.prog.underlying t=some (.slice e)) (hs:∀ w,(sizeOf e).run Tryz.prog w=.ok 2 w) (hn:n < m) (w:World) :
    (execOp a.eval oi).run Tryz.prog w=.ok (.value (.pointer (some ⟨b,off+n * 2,none⟩))) w:=by
  unfold execOp
  simp only [ho,hx,hy,Sem.run_bind,Sem.run_pure]
  have h0:(0:Int)≤(n:Int):=Int.natCast_nonneg _
  have h1:(n:Int) < (m:Int):=by omega
  simp [go_sem,hu,hs,h0,h1]
theorem u_two {oj:Oper} (i j:Nat) (hi:ops[i]?=some oi) (hj:ops[j]?=some oj) (wi:Region.wanted oi (yielded ops a.tmps)=true) (wj:Region.wanted oj (yielded ops a.tmps)=true) (hr:Region.ready md ops listed=[i,j])
    (h1:Oper.wp P oi a w (fun a' w'=>(m≤i∨S w')∧UwA P md ops Q S m fuel (listed.setIfInBounds i true) a' w') Q)
    (h2:Oper.wp P oj a w (fun a' w'=>(m≤j∨S w')∧UwA P md ops Q S m fuel (listed.setIfInBounds j true) a' w') Q):UwA P md ops Q S m (fuel+1) listed a w:=
  ⟨wpAnyU_two7 hi hj wi wj hr (Oper.wp_mono (fun a' w' h'=>⟨h'.1,h'.2.h⟩) h1) (Oper.wp_mono (fun a' w' h'=>⟨h'.1,h'.2.h⟩) h2)⟩
end
open Go.RowKit Go.BigFrame

structure Rz where
  back:Bool
  over:Bool
  done:Bool
  err:Int
  pages:List Int
  refs:List Rf
  links:Int
structure Rl where
  pA:Option Addr
  pc:Nat
  rA:Option Addr
  rc:Nat
def Rz.zero:Rz:=⟨false,false,false,0,[],[],0⟩
abbrev riA (J:Jd) (q:Jl) (d:Rz) (y:Rl):Array Value:=#[.int .i64 J.page,.int .i64 J.os,.int .i64 J.og,.int .i64 J.news,.slice q.A q.Cs.length q.c,.int .i64 J.head.kind,.string J.head.low,.string J.head.high,.bool J.head.unb,.int .i64 J.head.right,.slice q.Ah J.head.rows.length q.ch,.slice q.Eh J.head.ents.length q.dh,.string J.head.key,.string J.head.val,.int .i64 J.head.page,.int .i64 J.head.hpage,.int .i64 J.head.hleft,.string J.head.hkey,.int .i64 J.head.nslot,.int .i64 J.head.ngen,.int .i64 J.fresh,.bool false,.bool d.back,.bool d.over,.bool d.done,.int .i64 d.err,.slice y.pA d.pages.length y.pc,.slice y.rA d.refs.length y.rc,.int .i64 d.links]
abbrev riZ:Array Value:=#[.int .i64 0,.int .i64 0,.int .i64 0,.int .i64 0,.slice none 0 0,.int .i64 0,.string nilS,.string nilS,.bool false,.int .i64 0,.slice none 0 0,.slice none 0 0,.string nilS,.string nilS,.int .i64 0,.int .i64 0,.int .i64 0,.string nilS,.int .i64 0,.int .i64 0,.int .i64 0,.bool false,.bool false,.bool false,.bool false,.int .i64 0,.slice none 0 0,.slice none 0 0,.int .i64 0]
theorem ri_size:(Tryz.prog.info? 68).map (·.size)=some 29:=by kernel_rfl
structure RiIn (w:World) (d:Rz) (y:Rl):Prop where
  p:Reads w 1 y.pA d.pages.length (intF d.pages)
  pm:d.pages.length≤y.pc∧y.pc≤maxLen
  r:Reads w 2 y.rA d.refs.length (rfFlat d.refs)
  rm:d.refs.length≤y.rc∧y.rc≤maxLen
  lp:d.pages.length≤5
  lr:d.refs.length≤5
theorem RiIn.keep {w w':World} {d:Rz} {y:Rl} (h:RiIn w d y) (hf:Fr none_ w w'):RiIn w' d y:=⟨h.p.none_fr hf,h.pm,h.r.none_fr hf,h.rm,h.lp,h.lr⟩
theorem RiIn.zero (w:World):RiIn w Rz.zero ⟨none,0,none,0⟩:=⟨Reads.nil_,⟨Nat.le_refl _,Nat.zero_le _⟩,Reads.nil_,⟨Nat.le_refl _,Nat.zero_le _⟩,Nat.zero_le _,Nat.zero_le _⟩
def backZ (d:Rz) (e:Int):Rz:={ d with back:=true,err:=e,over:=(d.refs.length:Int)+(d.pages.length:Int)==0 }
def takeZ (d:Rz) (p c:Int):Rz:=if c=0 then { d with pages:=d.pages ++ [p] } else backZ d c
def putZ (d:Rz) (sl gn kk:Int):Rz:=if kk=0 then { d with refs:=d.refs ++ [(sl,gn)] } else backZ d kk
def swapZ (n:Int) (d:Rz) (ok:Bool) (c:Int):Rz:=if ok=true then (if d.links=n then { d with over:=true,done:=true } else { d with links:=d.links+1 }) else backZ d c
def freeZ (d:Rz):Rz:={ d with refs:=d.refs.dropLast,over:=(d.refs.dropLast.length:Int)+(d.pages.length:Int)==0 }
def giveZ (d:Rz):Rz:={ d with pages:=d.pages.dropLast,over:=(d.refs.length:Int)+(d.pages.dropLast.length:Int)==0 }
structure SimI (n:Int) (D:Dt) (d:Rz):Prop where
  over:d.over=(D.stage==7)
  done:d.done=D.done
  err:d.err=D.err
  pages:d.pages=D.pages
  refs:d.refs=D.refs
  back:D.stage≠7→(d.back=decide (5≤D.stage))
  links:D.stage≠7→D.stage < 5→d.links=(if D.stage=2 then D.at_ else if D.stage < 2 then 0 else n)
def inb (g:Nat):Nat→Prop:=fun b=>g≤b∧b < g+4
section
variable {P:Program} {md:Region.Mode} {ops:Array Oper} {Q:Exit→Act→World→Prop} {S:World→Prop} {m fuel:Nat} {listed:Array Bool} {a:Act} {w:World} {oi:Oper}
theorem u_tk (i:Nat) (d:Option Tmp) (v:Value) (hi:ops[i]?=some oi) (hd:oi.dst=d) (hy:YieldsIf P ops S oi v a) (hS:S w) (h:UwA P md ops Q S m fuel (listed.setIfInBounds i true) (a.put d v) w)
    (hs:Region.noSelect ops=true:=by kernel_rfl) (hf:Region.free md ops listed i=true:=by kernel_rfl) (hr:(Region.ready md ops listed).contains i=true:=by kernel_rfl)
    (hm:((List.range ops.size).all (fun j=>!decide (m≤j) || decide (j=i) || waitsB md ops ops.size j i) && closedB md ops listed)=true:=by kernel_rfl) (hQ:∀ c a w,Q (.panic c) (a.put oi.dst v) w→Q (.panic c) a w:=by exact fun _ _ _ h=>h):UwA P md ops Q S m (fuel+1) listed a w:=u_take i d v hi hd hs hf hr hm hQ hy hS h
theorem y_vl {v:Value} (hx:∀ w,S w→(execOp a.eval oi).run P w=.ok (.value v) w) (hw:Region.wanted oi (yielded ops a.tmps)=true:=by kernel_rfl):YieldsIf P ops S oi v a:=y_val hw hx
end
section
variable {oi:Oper} {a:Act}
theorem ex_index1 {oi:Oper} {a:Act} (t e:TypeId) (x y:Operand) (b off n m c:Nat) (ho:oi.op=.indexAddr t x y) (hx:a.eval x=.slice (some ⟨b,off,none⟩) m c) (hy:a.eval y=.int .i64 n) (hu:Tryz.prog.underlying t=some (.slice e)) (hs:∀ w,(sizeOf e).run Tryz.prog w=.ok 1 w) (hn:n < m) (w:World) :
    (execOp a.eval oi).run Tryz.prog w=.ok (.value (.pointer (some ⟨b,off+n,none⟩))) w:=by
  unfold execOp
  simp only [ho,hx,hy,Sem.run_bind,Sem.run_pure]
  have h0:(0:Int)≤(n:Int):=Int.natCast_nonneg _
  have h1:(n:Int) < (m:Int):=by omega
  simp [go_sem,hu,hs,h0,h1]
end
theorem int_sz12:∀ w,(sizeOf 3).run Tryz.prog w=.ok 1 w:=fun w=>by kernel_rfl
theorem ref_sz12:∀ w,(sizeOf 48).run Tryz.prog w=.ok 2 w:=fun w=>by kernel_rfl
theorem ref_size12:(Tryz.prog.info? 48).map (·.size)=some 2:=by kernel_rfl
theorem ra_size12:(Tryz.prog.info? 35).map (·.size)=some 3:=by kernel_rfl
theorem rt_size12:(Tryz.prog.info? 38).map (·.size)=some 2:=by kernel_rfl
section
variable {P:Program} {Q:Exit→Act→World→Prop} {a:Act} {w:World} {oi:Oper}
theorem wp_callQ {K:Act→World→Prop} (d:Option Tmp) (hd:oi.dst=d) (f:FuncId) (vs:Array Value) (F:Value→World→Prop) (hx:(execOp a.eval oi).run P w=.ok (.enter f vs) w) (hc:Calls P f vs w (fun e w'=>∃ v,e=.returned v∧F v w'))
    (h:∀ v w',F v w'→K (a.put d v) w'):Oper.wp P oi a w K Q:=by
  subst hd
  unfold Oper.wp
  rw [hx,Oper.upon_enter]
  refine hc.mono ?_
  rintro e w' ⟨v,rfl,hF⟩
  exact h v w' hF
theorem wp_knownQ {K:Act→World→Prop} (d:Option Tmp) (hd:oi.dst=d) (v:Value) (w2:World) (hx:(execOp a.eval oi).run P w=.ok (.value v) w2) (h:K (a.put d v) w2):Oper.wp P oi a w K Q:=by
  subst hd
  exact wp_known v w2 hx h
end
theorem RaIn.far12 {w w5 w':World} {S:Nat→Prop} {LP:List RaP} {A:Option Addr} {c:Nat} (h:RaIn w5 LP A c) (hq:∀ q ∈ LP,RecReads w q.R q.A q.B) (hA:0 < LP.length→∀ ad,A=some ad→¬ S ad.block) (hS:∀ b,S b→w.heap.size≤b) (hf:Fr S w5 w'):RaIn w' LP A c:=by
  have old:∀ {size n:Nat} {A:Option Addr} {xs:List Value},0 < size→Reads w size A n xs→Reads w5 size A n xs→Reads w' size A n xs:=by
    intro size n A xs hs h0 h5
    rcases Nat.eq_zero_or_pos n with e | e
    · exact ⟨h5.1,fun hn=>absurd hn (by omega)⟩
    · obtain ⟨b,off,hb,hlt,_⟩:=reads_lit h0 hs e
      exact h5.fr hf (fun ad had hs=>by
        obtain rfl:(⟨b,off,none⟩:Addr)=ad:=Option.some.inj (hb.symm.trans had)
        exact absurd (hS _ hs) (Nat.not_le.2 hlt))
  refine ⟨?_,h.cap,h.capm,h.len,fun p hp=>⟨old (by decide) (hq p hp).1 (h.recs p hp).1,old (by decide) (hq p hp).2 (h.recs p hp).2⟩,h.sz⟩
  rcases Nat.eq_zero_or_pos LP.length with e | e
  · exact ⟨h.rd.1,fun hn=>absurd hn (by omega)⟩
  · exact h.rd.fr hf (fun ad had=>hA e ad had)
theorem ra_low {w:World} {LP:List RaP} {A:Option Addr} {c:Nat} (h:RaIn w LP A c) (hn:0 < LP.length):∀ ad,A=some ad→ad.block < w.heap.size:=fun ad had=>by
  obtain ⟨b,off,hb,hlt,_⟩:=reads_lit h.rd (by decide) hn
  obtain rfl:(⟨b,off,none⟩:Addr)=ad:=Option.some.inj (hb.symm.trans had)
  exact hlt
theorem last_split {α:Type} {l:List α} {a:α} (h:l.getLast?=some a):∃ rs,l=rs ++ [a]:=by
  have hne:l≠[]:=by rintro rfl;cases h
  rw [List.getLast?_eq_some_getLast hne] at h
  exact ⟨l.dropLast,by rw [← Option.some.inj h];exact (List.dropLast_concat_getLast hne).symm⟩
theorem rfFlat_len12 (L:List Rf):(rfFlat L).length=L.length * 2:=by
  unfold rfFlat
  induction L with
  | nil=>rfl
  | cons p t ih=>rw [List.map_cons,List.flatten_cons,List.length_append,ih,List.length_cons];simp [rfCells];omega
theorem rfFlat_snoc12 (L:List Rf) (p:Rf):rfFlat (L ++ [p])=rfFlat L ++ [.int .i64 p.1,.int .i64 p.2]:=by simp [rfFlat,rfCells]
theorem wrap_add12 (a b:Nat) (ha:a≤6) (hb:b≤6):IntKind.i64.wrap ((a:Int)+(b:Int))=(a:Int)+(b:Int):=IntWalk.i64_in _ (by omega)
theorem wrap_one12 (a:Nat) (ha:a≤6):IntKind.i64.wrap (a:Int)=(a:Int):=IntWalk.i64_in _ (by omega)
theorem own_inb12 {w w':World} {base size n gi:Nat} {e t1 t2:TypeId} {v:Value} {xs:List Value} {c1 c2 c3 c4:Array Value} (h:w.ownsRow base e size v n xs) (hf:Fr (inb gi) w w') (b1:Blk w gi t1 c1) (b2:Blk w (gi+1) t2 c2) (b3:Blk w (gi+1+1) t1 c3) (b4:Blk w (gi+1+1+1) t2 c4) (h1:e≠t1) (h2:e≠t2):w'.ownsRow base e size v n xs:=
  own_fr h hf (fun k hk i=>by
    have e':k=gi∨k=gi+1∨k=gi+1+1∨k=gi+1+1+1:=by have h1:=i.1;have h2:=i.2;omega
    rcases e' with e' | e' | e' | e'
    · exact own_blk_ne h b1 h1 (e' ▸ hk)
    · exact own_blk_ne h b2 h2 (e' ▸ hk)
    · exact own_blk_ne h b3 h1 (e' ▸ hk)
    · exact own_blk_ne h b4 h2 (e' ▸ hk))
theorem own_caps12 {w:World} {base size n c:Nat} {e:TypeId} {A:Option Addr} {xs:List Value} (h:w.ownsRow base e size (.slice A n c) n xs):n≤c∧c≤maxLen:=by
  obtain ⟨A',c',e,h1,h2,_⟩:=own_parts h
  have e1:c=c':=by injection e
  subst e1
  exact ⟨h1,h2⟩
theorem own_new12 {w:World} {base size n c:Nat} {e:TypeId} {A:Option Addr} {xs:List Value} (h:w.ownsRow base e size (.slice A n c) n xs):∀ ad,A=some ad→base≤ad.block:=fun ad had=>(own_blk h (k:=ad.block) (by rw [had];rfl)).1
theorem reads_off12 {w w':World} {size n:Nat} {A:Option Addr} {xs:List Value} {S:Nat→Prop} (h:Reads w size A n xs) (hf:Fr S w w') (hA:∀ ad,A=some ad→¬ S ad.block):Reads w' size A n xs:=h.fr hf hA
theorem rf_one12 (L:List Rf):∀ u ∈ rfFlat L,u.oneCell'=true:=by
  intro u hu
  simp only [rfFlat,List.mem_flatten,List.mem_map] at hu
  obtain ⟨l,⟨p,_,rfl⟩,hu⟩:=hu
  simp only [rfCells,List.mem_cons,List.not_mem_nil,or_false] at hu
  rcases hu with rfl | rfl <;> rfl
open Go.RowKit

structure SimJ (J:Jd) (D:Dt) (d:Rz):Prop extends SimI J.news D d where
  md:1≤D.stage→D.stage≤4→D.bases=jbases J J.news.toNat∧D.head=jhead J D.pages
  jb:D.page=J.page∧D.os=J.os∧D.og=J.og
section
variable {J:Jd} {D:Dt} {d:Rz}
theorem SimJ.notover (h:SimJ J D d) (h7:D.stage≠7):d.over=false:=by rw [h.over];simpa using h7
theorem SimJ.backs (h:SimJ J D d) (h7:D.stage≠7) (h5:D.stage < 5):d.back=false:=by rw [h.back h7];exact decide_eq_false (by omega)
theorem SimJ.undo (h:SimJ J D d) (h7:D.stage≠7) (hnd:D.done=false) (c:Int):SimJ J (undoD D c) (backZ d c):=by
  have e1:=h.refs
  have e2:=h.pages
  unfold undoD backZ
  by_cases hr:D.refs.length=0
  · have hr':D.refs=[]:=List.eq_nil_of_length_eq_zero hr
    by_cases hp:D.pages.length=0
    · have hp':D.pages=[]:=List.eq_nil_of_length_eq_zero hp
      simp only [hr,hp,if_true]
      refine ⟨⟨?_,h.done,rfl,h.pages,h.refs,fun e=>absurd rfl e,fun e=>absurd rfl e⟩,fun _ e=>absurd e (by show ¬ (7:Int)≤4;decide),h.jb⟩
      show ((d.refs.length:Int)+(d.pages.length:Int)==0)=_
      rw [e1,e2,hr',hp']
      rfl
    · simp only [hr,hp,if_true,if_false]
      refine ⟨⟨?_,h.done,rfl,h.pages,h.refs,fun _=>rfl,fun _ e=>absurd e (by show ¬ (6:Int) < 5;decide)⟩,fun _ e=>absurd e (by show ¬ (6:Int)≤4;decide),h.jb⟩
      show ((d.refs.length:Int)+(d.pages.length:Int)==0)=_
      rw [e1,e2,hr']
      have:((([]:List (Int × Int)).length:Int)+(D.pages.length:Int)==0)=false:=by rw [beq_eq_false_iff_ne];simp;exact fun e=>hp (by rw [e];rfl)
      rw [this]
      rfl
  · simp only [hr,if_false]
    refine ⟨⟨?_,h.done,rfl,h.pages,h.refs,fun _=>rfl,fun _ e=>absurd e (by show ¬ (5:Int) < 5;decide)⟩,fun _ e=>absurd e (by show ¬ (5:Int)≤4;decide),h.jb⟩
    show ((d.refs.length:Int)+(d.pages.length:Int)==0)=_
    rw [e1,e2]
    have:((D.refs.length:Int)+(D.pages.length:Int)==0)=false:=by rw [beq_eq_false_iff_ne];omega
    rw [this]
    rfl
theorem SimJ.take (h:SimJ J D d) (hs:D.stage=0) (hnw:D.news=J.news) (hnd:D.done=false) (p c:Int):SimJ J (takeD J D p c) (takeZ d p c):=by
  have h7:D.stage≠7:=by omega
  have hb:=h.backs h7 (by omega)
  have ho:=h.notover h7
  have hl:=h.links h7 (by omega)
  have hl0:d.links=0:=by rw [hl,if_neg (by omega),if_pos (by omega)]
  unfold takeD takeZ
  by_cases hc:c=0
  · rw [if_pos hc,if_pos hc]
    by_cases hp:(D.pages.length:Int)+1=D.news
    · rw [if_pos hp]
      unfold madeD
      by_cases hz:D.news=0
      · exact absurd hp (by omega)
      · have hst:(if D.news=0 then (3:Int) else 1)=1:=if_neg hz
        refine ⟨⟨?_,h.done,h.err,?_,h.refs,fun _=>?_,fun _ _=>?_⟩,fun _ _=>⟨by rw [← hnw],rfl⟩,h.jb⟩
        · show d.over=((if D.news=0 then (3:Int) else 1)==7);rw [hst,ho];rfl
        · show d.pages ++ [p]=D.pages ++ [p];rw [h.pages]
        · show d.back=decide (5≤(if D.news=0 then (3:Int) else 1));rw [hst,hb];rfl
        · show d.links=_;rw [hl0];show (0:Int)=if (if D.news=0 then (3:Int) else 1)=2 then (0:Int) else if (if D.news=0 then (3:Int) else 1) < 2 then 0 else J.news;rw [hst];rfl
    · rw [if_neg hp]
      refine ⟨⟨by show d.over=(D.stage==7);exact h.over,h.done,h.err,by show d.pages ++ [p]=D.pages ++ [p];rw [h.pages],h.refs,fun e=>h.back e,fun e e'=>h.links e e'⟩,fun e=>absurd (show 1≤D.stage from e) (by omega),h.jb⟩
  · rw [if_neg hc,if_neg hc]
    exact h.undo h7 hnd c
theorem SimJ.put (h:SimJ J D d) (hs:D.stage=1) (hnd:D.done=false) (hbl:(D.bases.length:Int)=J.news) (kk sl gn:Int):SimJ J (putB D kk sl gn) (putZ d sl gn kk):=by
  have h7:D.stage≠7:=by omega
  have hb:=h.backs h7 (by omega)
  have ho:=h.notover h7
  have hl:=h.links h7 (by omega)
  have hl0:d.links=0:=by rw [hl,if_neg (by omega),if_pos (by omega)]
  obtain ⟨m1,m2⟩:=h.md (by omega) (by omega)
  unfold putB putZ
  by_cases hc:kk=0
  · rw [if_pos hc,if_pos hc]
    by_cases hp:D.at_+1=(D.bases.length:Int)
    · rw [if_pos hp]
      exact ⟨⟨ho,h.done,h.err,h.pages,by show d.refs ++ [(sl,gn)]=D.refs ++ [(sl,gn)];rw [h.refs],fun _=>hb,fun _ _=>hl0⟩,fun _ _=>⟨m1,m2⟩,h.jb⟩
    · rw [if_neg hp]
      refine ⟨⟨h.over,h.done,h.err,h.pages,by show d.refs ++ [(sl,gn)]=D.refs ++ [(sl,gn)];rw [h.refs],fun e=>h.back e,fun _ _=>?_⟩,fun _ _=>⟨m1,m2⟩,h.jb⟩
      show d.links=if D.stage=2 then D.at_+1 else if D.stage < 2 then 0 else J.news
      rw [hl0,if_neg (by omega),if_pos (by omega)]
  · rw [if_neg hc,if_neg hc]
    exact h.undo h7 hnd kk
theorem SimJ.link (h:SimJ J D d) (hs:D.stage=2) (hnd:D.done=false) (hpl:(D.pages.length:Int)=J.news) (hat:D.at_ < J.news) (ok:Bool) (c:Int):SimJ J (linkD D ok c) (swapZ J.news d ok c):=by
  have h7:D.stage≠7:=by omega
  have hb:=h.backs h7 (by omega)
  have ho:=h.notover h7
  have hl:d.links=D.at_:=by rw [h.links h7 (by omega),if_pos hs]
  obtain ⟨m1,m2⟩:=h.md (by omega) (by omega)
  unfold linkD swapZ
  cases ok with
  | true =>
    have hd:¬ d.links=J.news:=by omega
    rw [if_pos rfl,if_pos rfl,if_neg hd]
    by_cases hp:D.at_+1=(D.pages.length:Int)
    · rw [if_pos hp]
      refine ⟨⟨ho,h.done,h.err,h.pages,h.refs,fun _=>hb,fun _ _=>?_⟩,fun _ _=>⟨m1,m2⟩,h.jb⟩
      show d.links+1=if (3:Int)=2 then D.at_+1 else if (3:Int) < 2 then 0 else J.news
      rw [if_neg (by decide),if_neg (by decide)]
      omega
    · rw [if_neg hp]
      refine ⟨⟨h.over,h.done,h.err,h.pages,h.refs,fun e=>h.back e,fun _ _=>?_⟩,fun _ _=>⟨m1,m2⟩,h.jb⟩
      show d.links+1=if D.stage=2 then D.at_+1 else if D.stage < 2 then 0 else J.news
      rw [if_pos hs]
      omega
  | false =>
    rw [if_neg (by decide),if_neg (by decide)]
    exact h.undo h7 hnd c
theorem SimJ.head (h:SimJ J D d) (hs:D.stage=3) (hnd:D.done=false) (kk sl gn:Int):SimJ J (fwd3D D kk sl gn) (putZ d sl gn kk):=by
  have h7:D.stage≠7:=by omega
  have hb:=h.backs h7 (by omega)
  have ho:=h.notover h7
  have hl:d.links=J.news:=by rw [h.links h7 (by omega),if_neg (by omega),if_neg (by omega)]
  obtain ⟨m1,m2⟩:=h.md (by omega) (by omega)
  unfold fwd3D putZ
  by_cases hc:kk=0
  · rw [if_pos hc,if_pos hc]
    exact ⟨⟨ho,h.done,h.err,h.pages,by show d.refs ++ [(sl,gn)]=D.refs ++ [(sl,gn)];rw [h.refs],fun _=>hb,fun _ _=>hl⟩,fun _ _=>⟨m1,m2⟩,h.jb⟩
  · rw [if_neg hc,if_neg hc]
    exact h.undo h7 hnd kk
theorem SimJ.swap (h:SimJ J D d) (hs:D.stage=4) (hnd:D.done=false) (ok:Bool) (c:Int):SimJ J (fwd4D D ok c) (swapZ J.news d ok c):=by
  have h7:D.stage≠7:=by omega
  have hl:d.links=J.news:=by rw [h.links h7 (by omega),if_neg (by omega),if_neg (by omega)]
  unfold fwd4D swapZ
  cases ok with
  | true =>
    rw [if_pos rfl,if_pos rfl,if_pos hl]
    exact ⟨⟨rfl,rfl,h.err,h.pages,h.refs,fun e=>absurd rfl e,fun e=>absurd rfl e⟩,fun _ e=>absurd e (by show ¬ (7:Int)≤4;decide),h.jb⟩
  | false =>
    rw [if_neg (by decide),if_neg (by decide)]
    exact h.undo h7 hnd c
theorem SimJ.free (h:SimJ J D d) (hs:D.stage=5) (hr:1≤D.refs.length):SimJ J (freeD D) (freeZ d):=by
  have h7:D.stage≠7:=by omega
  have hb:d.back=true:=by rw [h.back h7];exact decide_eq_true (by omega)
  have e1:=h.refs
  have e2:=h.pages
  have hdl:(D.refs.dropLast.length:Int)=(D.refs.length:Int) - 1:=by rw [List.length_dropLast];omega
  have hst:∀ s:Int,(s=5∨s=6∨s=7)→(if D.refs.length=1 then (if D.pages.length=0 then (7:Int) else 6) else 5)=s→d.back=true→((d.refs.dropLast.length:Int)+(d.pages.length:Int)==0)=(s==7)→SimJ J (freeD D) (freeZ d):=by
    intro s hs5 hse hbb hov
    unfold freeD freeZ
    rw [hse]
    refine ⟨⟨hov,h.done,h.err,h.pages,by show d.refs.dropLast=D.refs.dropLast;rw [e1],fun _=>?_,fun _ e=>absurd e (by show ¬ s < 5;omega)⟩,fun _ e=>absurd e (by show ¬ s≤4;omega),h.jb⟩
    show d.back=decide (5≤s)
    rw [hbb]
    exact (decide_eq_true (by omega)).symm
  by_cases h1:D.refs.length=1
  · by_cases h2:D.pages.length=0
    · exact hst 7 (by omega) (by rw [if_pos h1,if_pos h2]) hb (by rw [e1,e2,hdl,h1,h2];rfl)
    · exact hst 6 (by omega) (by rw [if_pos h1,if_neg h2]) hb (by rw [e1,e2,hdl,h1];show _=false;rw [beq_eq_false_iff_ne];omega)
  · exact hst 5 (by omega) (by rw [if_neg h1]) hb (by rw [e1,e2,hdl];show _=false;rw [beq_eq_false_iff_ne];omega)
theorem SimJ.give (h:SimJ J D d) (hs:D.stage=6) (hr:D.refs=[]) (hp:1≤D.pages.length):SimJ J (giveD D) (giveZ d):=by
  have h7:D.stage≠7:=by omega
  have hb:d.back=true:=by rw [h.back h7];exact decide_eq_true (by omega)
  have e1:=h.refs
  have e2:=h.pages
  have hdl:(D.pages.dropLast.length:Int)=(D.pages.length:Int) - 1:=by rw [List.length_dropLast];omega
  have hst:∀ s:Int,(s=6∨s=7)→(if D.pages.length=1 then (7:Int) else 6)=s→((d.refs.length:Int)+(d.pages.dropLast.length:Int)==0)=(s==7)→SimJ J (giveD D) (giveZ d):=by
    intro s hs5 hse hov
    unfold giveD giveZ
    rw [hse]
    refine ⟨⟨hov,h.done,h.err,by show d.pages.dropLast=D.pages.dropLast;rw [e2],h.refs,fun _=>?_,fun _ e=>absurd e (by show ¬ s < 5;omega)⟩,fun _ e=>absurd e (by show ¬ s≤4;omega),h.jb⟩
    show d.back=decide (5≤s)
    rw [hb]
    exact (decide_eq_true (by omega)).symm
  by_cases h1:D.pages.length=1
  · exact hst 7 (by omega) (if_pos h1) (by rw [e1,e2,hdl,hr,h1];rfl)
  · exact hst 6 (by omega) (if_neg h1) (by rw [e1,e2,hdl,hr];show _=false;rw [beq_eq_false_iff_ne];simp;omega)
end
open Go.RowKit Go.BigFrame
variable {J:Jd} {q:Jl} {d:Rz} {y:Rl} {l:Lm} {PA:Option Addr} {pc:Nat} {LP:List RaP} {T:Option Addr} {tc:Nat} {L:List Rp} {cn cl:Int} {CA:Option Addr} {cm cc:Nat} {kk:Int} {w:World}
set_option maxHeartbeats 16000000 in
theorem rstep_over (ho:d.over=true) :
  Calls Tryz.prog 12 #[.agg (riA J q d y),.agg (dmA l l.s l.n (.slice PA LP.length pc) l.p (.slice T L.length tc) cn cl (.slice CA cm cc) kk)] w (fun e w'=>e=.returned (.tuple #[.agg (riA J q d y),.agg (dmA l l.s l.n (.slice PA LP.length pc) l.p (.slice T L.length tc) cn cl (.slice CA cm cc) kk)])∧Fr none_ w w'):=by
 obtain ⟨w0,hw0⟩:∃ z,z=(((w.alloc (.cells (riA J q d y) 68)).alloc (.cells (dmA l l.s l.n (.slice PA LP.length pc) l.p (.slice T L.length tc) cn cl (.slice CA cm cc) kk) 43)).alloc (.cells riZ 68)).alloc (.cells dmZ 43):=⟨_,rfl⟩
 have f0:Fr none_ w w0:=by rw [hw0];exact ((((Fr.refl none_ w).alloc _).alloc _).alloc _).alloc _
 have BI:Hid (Blk w0 w.heap.size 68 (riA J q d y)):=hid_ (by rw [hw0];exact (((Blk.new w _ _).alloc _).alloc _).alloc _)
 have BM:Hid (Blk w0 (w.heap.size+1) 43 (dmA l l.s l.n (.slice PA LP.length pc) l.p (.slice T L.length tc) cn cl (.slice CA cm cc) kk)):=hid_ (by rw [hw0];exact ((Blk.new_at4 _ _ (by simp)).alloc _).alloc _)
 have B4:Hid (Blk w0 (w.heap.size+1+1) 68 riZ):=hid_ (by rw [hw0];exact (Blk.new_at4 _ _ (by simp)).alloc _)
 have B5:Hid (Blk w0 (w.heap.size+1+1+1) 43 dmZ):=hid_ (by rw [hw0];exact Blk.new_at4 _ _ (by simp))
 have F0:=hid_ f0
 have hs0:w0.heap.size=w.heap.size+4:=by rw [hw0];simp
 have HS0:=hid_ hs0
 clear f0 hs0
 go_enter Tryz.func12,Tryz.ntmps12
 go_upto_region 1 with fail
 change Code.wp _ _ _ _ ((((w.alloc (.cells (riA J q d y) 68)).alloc (.cells (dmA l l.s l.n (.slice PA LP.length pc) l.p (.slice T L.length tc) cn cl (.slice CA cm cc) kk) 43)).alloc (.cells riZ 68)).alloc (.cells dmZ 43))
 rw [← hw0]
 clear hw0
 obtain ⟨gi,hgi⟩:∃ g,g=w.heap.size:=⟨_,rfl⟩
 rw [← hgi] at BI BM B4 B5
 rw [← hgi]
 have GI:=hid_ hgi
 clear hgi
 have i23:w0.cell? ⟨gi,23,none⟩=some (.bool true):=by rw [← ho];exact BI.out.cell' rfl
 go_upto_region 2 with fail
 clear i23
 have hS0:(fun w':World=>Blk w' gi 68 (riA J q d y)∧Blk w' (gi+1) 43 (dmA l l.s l.n (.slice PA LP.length pc) l.p (.slice T L.length tc) cn cl (.slice CA cm cc) kk)) w0.drew:=⟨BI.out.drew,BM.out.drew⟩
 refine wp_region_u 4 (fun w':World=>Blk w' gi 68 (riA J q d y)∧Blk w' (gi+1) 43 (dmA l l.s l.n (.slice PA LP.length pc) l.p (.slice T L.length tc) cn cl (.slice CA cm cc) kk)) (by kernel_rfl) ?_
 refine u_take 0 (some 26) (.agg (riA J q d y)) rfl rfl (by kernel_rfl) (by kernel_rfl) (by kernel_rfl) (by kernel_rfl) (fun _ _ _ h=>h) (yieldsIf_load_mid (by kernel_rfl) 68 (.tmp 2) rfl gi 0 (by kernel_rfl) (riA J q d y).toList _ (fun w' hS=>Blk.range7 (l:=(riA J q d y).toList) hS.1) Tryz.underlying68 rfl ri_size) hS0 ?_
 go_frame
 refine u_take 1 (some 27) (.agg (dmA l l.s l.n (.slice PA LP.length pc) l.p (.slice T L.length tc) cn cl (.slice CA cm cc) kk)) rfl rfl (by kernel_rfl) (by kernel_rfl) (by kernel_rfl) (by kernel_rfl) (fun _ _ _ h=>h) (yieldsIf_load_mid (by kernel_rfl) 43 (.tmp 3) rfl (gi+1) 0 (by kernel_rfl) (dmA l l.s l.n (.slice PA LP.length pc) l.p (.slice T L.length tc) cn cl (.slice CA cm cc) kk).toList _ (fun w' hS=>Blk.range7 (l:=(dmA l l.s l.n (.slice PA LP.length pc) l.p (.slice T L.length tc) cn cl (.slice CA cm cc) kk).toList) hS.2) Tryz.underlying43 rfl dm_size) hS0 ?_
 go_frame
 clear hS0
 refine u_store 2 68 (.tmp 4) (.tmp 26) (gi+1+1) 0 (riA J q d y) rfl rfl (by kernel_rfl) (by kernel_rfl) rfl (by kernel_rfl) (by kernel_rfl) (B4.out.drew.there7 rfl) ri_size (by simp [Value.oneCell']) ?_
 intro wx hwx
 have ov:=B4.out.drew.over7 (riA J q d y).toList rfl
 rw [← hwx] at ov
 have K_:=hid_ ov
 clear hwx ov
 replace BI:=hid_ (BI.out.drew.fr K_.out.2 (only_ne (by omega)))
 replace BM:=hid_ (BM.out.drew.fr K_.out.2 (only_ne (by omega)))
 replace B5:=hid_ (B5.out.drew.fr K_.out.2 (only_ne (by omega)))
 replace B4:=hid_ K_.out.1
 replace F0:=hid_ (F0.out.drew.then_only K_.out.2 (.inr (by have:=GI.out;omega)))
 clear K_
 refine ⟨⟨BI.out,BM.out⟩,?_⟩
 try go_frame
 refine u_store 3 43 (.tmp 5) (.tmp 27) (gi+1+1+1) 0 (dmA l l.s l.n (.slice PA LP.length pc) l.p (.slice T L.length tc) cn cl (.slice CA cm cc) kk) rfl rfl (by kernel_rfl) (by kernel_rfl) rfl (by kernel_rfl) (by kernel_rfl) (B5.out.there7 rfl) dm_size (by simp [Value.oneCell']) ?_
 intro wz hwz
 have ov:=B5.out.over7 (dmA l l.s l.n (.slice PA LP.length pc) l.p (.slice T L.length tc) cn cl (.slice CA cm cc) kk).toList rfl
 rw [← hwz] at ov
 have K_:=hid_ ov
 clear hwz ov
 replace BI:=hid_ (BI.out.fr K_.out.2 (only_ne (by omega)))
 replace BM:=hid_ (BM.out.fr K_.out.2 (only_ne (by omega)))
 replace B4:=hid_ (B4.out.fr K_.out.2 (only_ne (by omega)))
 replace B5:=hid_ K_.out.1
 replace F0:=hid_ (F0.out.then_only K_.out.2 (.inr (by have:=GI.out;omega)))
 clear K_
 refine ⟨⟨BI.out,BM.out⟩,?_⟩
 refine u_done (by kernel_rfl) ?_
 go_wp2_with fail
 refine bodyPost_ret (results_cell_cell7 _ _ rfl (gi+1+1) 0 (riA J q d y).toList _ rfl (Blk.range7 (l:=(riA J q d y).toList) B4.out) Tryz.underlying68 rfl ri_size (gi+1+1+1) 0 (dmA l l.s l.n (.slice PA LP.length pc) l.p (.slice T L.length tc) cn cl (.slice CA cm cc) kk).toList _ rfl (Blk.range7 (l:=(dmA l l.s l.n (.slice PA LP.length pc) l.p (.slice T L.length tc) cn cl (.slice CA cm cc) kk).toList) B5.out) Tryz.underlying43 rfl dm_size) rfl ⟨rfl,F0.out⟩
open Go.RowKit Go.BigFrame
variable {J:Jd} {q:Jl} {d:Rz} {y:Rl} {l:Lm} {PA:Option Addr} {pc:Nat} {LP:List RaP} {T:Option Addr} {tc:Nat} {L:List Rp} {cn cl:Int} {CA:Option Addr} {cm cc:Nat} {kk:Int} {w:World}
set_option maxHeartbeats 16000000 in
theorem rstep_free (hz:RiIn w d y) (hb:d.back=true) (ho:d.over=false) (hk:IntKind.i64.wrap (kk+1)=kk+1) {s g c:Int} (hr:d.refs.getLast?=some (s,g)) (hra:RaIn w LP PA pc) {ss ss':List Sl} {ps:List Pg} (hD:Dm (l.s:Int) l.n ss ps LP L) (hx:FreeR ss s g c ss') :
  Calls Tryz.prog 12 #[.agg (riA J q d y),.agg (dmA l l.s l.n (.slice PA LP.length pc) l.p (.slice T L.length tc) cn cl (.slice CA cm cc) kk)] w (fun e w'=>∃ LP' A2 c2,e=.returned (.tuple #[.agg (riA J q (freeZ d) y),.agg (dmA l l.s l.n (.slice A2 LP'.length c2) l.p (.slice T L.length tc) cn cl (.slice CA cm cc) (kk+1))])∧RaIn w' LP' A2 c2∧Dm (l.s:Int) l.n ss' ps LP' L∧LP'.length=LP.length∧NewA PA A2 w∧(∀ q ∈ LP',∃ q' ∈ LP,q.R=q'.R∧q.A=q'.A∧q.B=q'.B)∧Fr none_ w w'):=by
 have HZ:=hid_ hz
 obtain ⟨rs,hrs⟩:=last_split hr
 have hdl:d.refs.dropLast=rs:=by rw [hrs];simp
 have hln:d.refs.length=rs.length+1:=by rw [hrs];simp
 have hl5:=hz.lr
 have hl6:=hz.lp
 have HRA:=hid_ hra
 have HD:=hid_ hD
 have HX:=hid_ hx
 clear hra hD hx
 have HDL:=hid_ hdl
 have HLN:=hid_ hln
 have HRS:=hid_ hrs
 clear hz hdl hr
 obtain ⟨w0,hw0⟩:∃ z,z=(((w.alloc (.cells (riA J q d y) 68)).alloc (.cells (dmA l l.s l.n (.slice PA LP.length pc) l.p (.slice T L.length tc) cn cl (.slice CA cm cc) kk) 43)).alloc (.cells riZ 68)).alloc (.cells dmZ 43):=⟨_,rfl⟩
 have f0:Fr none_ w w0:=by rw [hw0];exact ((((Fr.refl none_ w).alloc _).alloc _).alloc _).alloc _
 have BI:Hid (Blk w0 w.heap.size 68 (riA J q d y)):=hid_ (by rw [hw0];exact (((Blk.new w _ _).alloc _).alloc _).alloc _)
 have BM:Hid (Blk w0 (w.heap.size+1) 43 (dmA l l.s l.n (.slice PA LP.length pc) l.p (.slice T L.length tc) cn cl (.slice CA cm cc) kk)):=hid_ (by rw [hw0];exact ((Blk.new_at4 _ _ (by simp)).alloc _).alloc _)
 have B4:Hid (Blk w0 (w.heap.size+1+1) 68 riZ):=hid_ (by rw [hw0];exact (Blk.new_at4 _ _ (by simp)).alloc _)
 have B5:Hid (Blk w0 (w.heap.size+1+1+1) 43 dmZ):=hid_ (by rw [hw0];exact Blk.new_at4 _ _ (by simp))
 have F0:=hid_ f0
 have hs0:w0.heap.size=w.heap.size+4:=by rw [hw0];simp
 have HS0:=hid_ hs0
 clear f0 hs0
 go_enter Tryz.func12,Tryz.ntmps12
 go_upto_region 1 with fail
 change Code.wp _ _ _ _ ((((w.alloc (.cells (riA J q d y) 68)).alloc (.cells (dmA l l.s l.n (.slice PA LP.length pc) l.p (.slice T L.length tc) cn cl (.slice CA cm cc) kk) 43)).alloc (.cells riZ 68)).alloc (.cells dmZ 43))
 rw [← hw0]
 clear hw0
 obtain ⟨gi,hgi⟩:∃ g,g=w.heap.size:=⟨_,rfl⟩
 rw [← hgi] at BI BM B4 B5
 rw [← hgi]
 have GI:=hid_ hgi
 clear hgi
 have m14:w0.cell? ⟨gi+1,14,none⟩=some (.int .i64 kk):=BM.out.cell' rfl
 have ym14:=BM.out.frozen 14
 have i23:w0.cell? ⟨gi,23,none⟩=some (.bool false):=by rw [← ho];exact BI.out.cell' rfl
 go_upto_region 4 with fail
 obtain ⟨w1,hw_⟩:∃ z,z=w0.setCell ⟨gi+1,14,none⟩ (.int .i64 (kk+1)):=⟨_,rfl⟩
 have K_:Hid (Blk w1 (gi+1) 43 (dmA l l.s l.n (.slice PA LP.length pc) l.p (.slice T L.length tc) cn cl (.slice CA cm cc) (kk+1))∧Fr (only (gi+1)) w0 w1):=hid_ (by rw [hw_];exact ⟨BM.out.set_ 14 (.int .i64 (kk+1)),Fr.only1 w0 ⟨gi+1,14,none⟩ _⟩)
 change Code.wp _ _ _ _ (w0.setCell ⟨gi+1,14,none⟩ (.int .i64 (kk+1)))
 rw [← hw_]
 clear hw_ m14 ym14 i23
 replace BI:=hid_ (BI.out.fr K_.out.2 (only_ne (by omega)))
 replace BM:=hid_ K_.out.1
 replace B4:=hid_ (B4.out.fr K_.out.2 (only_ne (by omega)))
 replace B5:=hid_ (B5.out.fr K_.out.2 (only_ne (by omega)))
 replace F0:=hid_ (F0.out.then_only K_.out.2 (.inr (by have:=GI.out;omega)))
 clear K_
 have i3:w1.cell? ⟨gi,3,none⟩=some (.int .i64 J.news):=BI.out.cell' rfl
 have i22:w1.cell? ⟨gi,22,none⟩=some (.bool true):=by rw [← hb];exact BI.out.cell' rfl
 have i27:w1.cell? ⟨gi,27,none⟩=some (.slice y.rA (rs.length+1) y.rc):=by rw [← HLN.out];exact BI.out.cell' rfl
 have hpos:(0:Int) < ((rs.length+1:Nat):Int):=by omega
 have hn0:(0:Int)≤(rs.length:Int):=Int.natCast_nonneg _
 have hw5:IntKind.i64.wrap (((rs.length+1:Nat):Int) - 1)=(rs.length:Int):=by rw [show ((rs.length+1:Nat):Int) - 1=(rs.length:Int) by omega];exact IntWalk.i64_in _ (by have:=HLN.out;omega)
 clear hrs hln
 go_upto_region 7 with fail
 go_cut [7] (fun v wq=>∃ (g7:Nat) (LP':List RaP) (A2:Option Addr) (c2:Nat),v=.pointer (some ⟨g7,0,none⟩)∧w1.heap.size≤g7∧Blk wq g7 35 (raA l.s l.n LP' A2 c2)∧RaIn wq LP' A2 c2∧Dm (l.s:Int) l.n ss' ps LP' L∧LP'.length=LP.length∧NewA PA A2 w1∧(∀ q ∈ LP',∃ q' ∈ LP,q.R=q'.R∧q.A=q'.A∧q.B=q'.B)∧Fr none_ w1 wq)
 case first =>
  have m6:w1.cell? ⟨gi+1,6,none⟩=some (.int .i64 (l.s:Int)):=BM.out.cell' rfl
  have m7:w1.cell? ⟨gi+1,7,none⟩=some (.int .i64 l.n):=BM.out.cell' rfl
  have m8:w1.cell? ⟨gi+1,8,none⟩=some (.slice PA LP.length pc):=BM.out.cell' rfl
  obtain ⟨b,off,hA,hbl,hc⟩:=reads_lit (HZ.out.keep F0.out).r (by omega) (by rw [HLN.out];omega)
  have c0:w1.cell? ⟨b,off+rs.length * 2,none⟩=some (.int .i64 s):=hc (rs.length * 2) _ (by rw [HRS.out,rfFlat_snoc12,List.getElem?_append_right (by rw [rfFlat_len12];omega),rfFlat_len12,Nat.sub_self];rfl)
  have c1:w1.cell? ⟨b,off+rs.length * 2+1,none⟩=some (.int .i64 g):=by rw [Nat.add_assoc];exact hc (rs.length * 2+1) _ (by rw [HRS.out,rfFlat_snoc12,List.getElem?_append_right (by rw [rfFlat_len12];omega),rfFlat_len12,show rs.length * 2+1 - rs.length * 2=1 by omega];rfl)
  rw [hA] at i27
  clear hc hA hbl
  have hS0:(fun w':World=>Fr none_ w1 w') w1.drew:=(Fr.refl none_ w1).drew
  refine wp_region_u 17 (fun w':World=>Fr none_ w1 w') (by kernel_rfl) ?_
  refine u_tk 0 (some 42) (.pointer (some ⟨gi+1,6,none⟩)) rfl rfl (y_vl (fun w' hS=>by kernel_rfl)) hS0 ?_
  go_frame
  refine u_tk 1 (some 43) (.agg (raA l.s l.n LP PA pc)) rfl rfl (yieldsIf_load_mid (by kernel_rfl) 35 (.tmp 42) rfl (gi+1) 6 (by kernel_rfl) [.int .i64 (l.s:Int),.int .i64 l.n,.slice PA LP.length pc] _ (fun w' hS j v hv=>by match j,hv with | 0,hv=>obtain rfl:=Option.some.inj hv;exact cellFr m6 hS | 1,hv=>obtain rfl:=Option.some.inj hv;exact cellFr m7 hS | 2,hv=>obtain rfl:=Option.some.inj hv;exact cellFr m8 hS | n+3,hv=>simp at hv) Tryz.underlying35 rfl ra_size12) hS0 ?_
  go_frame
  refine u_tk 2 (some 44) (.pointer (some ⟨gi,27,none⟩)) rfl rfl (y_vl (fun w' hS=>by kernel_rfl)) hS0 ?_
  go_frame
  refine u_tk 3 (some 45) (.slice (some ⟨b,off,none⟩) (rs.length+1) y.rc) rfl rfl (y_cell 66 (.tmp 44) ⟨gi,27,none⟩ _ (by kernel_rfl) rfl (by kernel_rfl) (fun w' hS=>cellFr i27 hS) Tryz.underlying66 rfl) hS0 ?_
  go_frame
  refine u_tk 4 (some 46) (.pointer (some ⟨gi,27,none⟩)) rfl rfl (y_vl (fun w' hS=>by kernel_rfl)) hS0 ?_
  go_frame
  refine u_tk 5 (some 47) (.slice (some ⟨b,off,none⟩) (rs.length+1) y.rc) rfl rfl (y_cell 66 (.tmp 46) ⟨gi,27,none⟩ _ (by kernel_rfl) rfl (by kernel_rfl) (fun w' hS=>cellFr i27 hS) Tryz.underlying66 rfl) hS0 ?_
  go_frame
  refine u_tk 6 (some 48) (.int .i64 ((rs.length+1:Nat):Int)) rfl rfl (y_vl (fun w' hS=>by kernel_rfl)) hS0 ?_
  go_frame
  refine u_tk 7 (some 49) (.int .i64 (rs.length:Int)) rfl rfl (y_int hw5 (by kernel_rfl) (fun w' hS=>by kernel_rfl)) hS0 ?_
  go_frame
  refine u_tk 8 (some 50) (.pointer (some ⟨b,off+rs.length * 2,none⟩)) rfl rfl (.inl ⟨by kernel_rfl,fun w' hS=>ex_index 66 48 (.tmp 45) (.tmp 49) b off rs.length (rs.length+1) y.rc rfl (by kernel_rfl) (by kernel_rfl) Tryz.underlying66 ref_sz12 (by omega) w'⟩) hS0 ?_
  go_frame
  refine u_tk 9 (some 51) (.agg #[.int .i64 s,.int .i64 g]) rfl rfl (yieldsIf_load_mid (by kernel_rfl) 48 (.tmp 50) rfl b (off+rs.length * 2) (by kernel_rfl) [.int .i64 s,.int .i64 g] _ (fun w' hS j v hv=>by match j,hv with | 0,hv=>obtain rfl:=Option.some.inj hv;exact cellFr c0 hS | 1,hv=>obtain rfl:=Option.some.inj hv;exact cellFr c1 hS | n+2,hv=>simp at hv) Tryz.underlying48 rfl ref_size12) hS0 ?_
  go_frame
  clear hS0
  refine u_two 10 14 rfl rfl (by kernel_rfl) (by kernel_rfl) (by kernel_rfl) ?_ ?_
  ·skip
   have FX:Fr none_ w1 w1.drew:=(Fr.refl none_ w1).drew
   refine wp_callQ (some 52) rfl 43 #[raV l.s l.n LP PA pc,.agg #[.int .i64 s,.int .i64 g]] (fun v w'=>(∃ LP' A2 c2,v=(.tuple #[.agg (raA l.s l.n LP' A2 c2),.int .i64 c])∧RaIn w' LP' A2 c2∧Dm (l.s:Int) l.n ss' ps LP' L∧LP'.length=LP.length∧NewA PA A2 w1.drew∧(∀ q ∈ LP',∃ q' ∈ LP,q.R=q'.R∧q.A=q'.A∧q.B=q'.B)∧Fr none_ w1.drew w')) (by kernel_rfl) ((rfree_ok (l.s:Int) l.n LP PA pc s g w1.drew (HRA.out.keep (F0.out.then_none FX))).mono (fun e w' hh=>by
    obtain ⟨LP',A2,c2,rfl,h3,h4,h5,h6,h7,h8⟩:=HD.out.free HX.out hh
    exact ⟨_,rfl,LP',A2,c2,rfl,h3,h4,h5,h6,h7,h8⟩)) ?_
   rintro v w5 ⟨LP',A2,c2,rfl,h3,h4,h5,h6,h7,h8⟩
   have H3:=hid_ (And.intro h3 (And.intro h4 h8))
   have H5:=hid_ (And.intro h5 (And.intro h6 h7))
   have F5:Hid (Fr none_ w1 w5):=hid_ (FX.then_none h8)
   clear h3 h4 h8 h5 h6 h7
   refine ⟨.inr F5.out,?_⟩
   try go_frame
   have hS5:(fun w':World=>Fr none_ w1 w') w5:=F5.out
   refine u_tk 11 (some 41) (.tuple #[.agg (raA l.s l.n LP' A2 c2),.int .i64 c]) rfl rfl (y_vl (fun w' hS=>by kernel_rfl)) hS5 ?_
   go_frame
   refine u_tk 12 (some 53) (.agg (raA l.s l.n LP' A2 c2)) rfl rfl (y_vl (fun w' hS=>by kernel_rfl)) hS5 ?_
   go_frame
   refine u_tk 13 (some 54) (.int .i64 c) rfl rfl (y_vl (fun w' hS=>by kernel_rfl)) hS5 ?_
   go_frame
   clear hS5
   refine u_run 14 (some 7) (.pointer (some ⟨w5.heap.size,0,none⟩)) (w5.alloc (.cells #[.int .i64 0,.int .i64 0,.slice none 0 0] 35)) rfl rfl (by kernel_rfl) (by kernel_rfl) (by kernel_rfl) (.inr (F5.out.alloc _)) ?_
   go_frame
   obtain ⟨w6,hw6⟩:∃ z,z=w5.alloc (.cells #[.int .i64 0,.int .i64 0,.slice none 0 0] 35):=⟨_,rfl⟩
   have f6:Fr none_ w5 w6:=by rw [hw6];exact (Fr.refl none_ w5).alloc _
   have B7:Hid (Blk w6 w5.heap.size 35 #[.int .i64 0,.int .i64 0,.slice none 0 0]):=hid_ (by rw [hw6];exact Blk.new w5 _ _)
   rw [← hw6]
   have F6:=hid_ f6
   clear hw6 f6
   obtain ⟨g7,hg7⟩:∃ g,g=w5.heap.size:=⟨_,rfl⟩
   rw [← hg7] at B7
   rw [← hg7]
   have HG7:=hid_ hg7
   have HA7:Hid (0 < LP'.length→∀ ad,A2=some ad→ad.block≠g7):=hid_ (fun hn ad had=>by have:=ra_low H3.out.1 hn ad had;omega)
   have HG:Hid (w1.heap.size≤g7):=hid_ (by have:=F5.out.size;omega)
   have H36:=hid_ F6.out
   refine u_store 15 35 (.tmp 7) (.tmp 53) g7 0 (raA l.s l.n LP' A2 c2) rfl rfl (by kernel_rfl) (by kernel_rfl) rfl (by kernel_rfl) (by kernel_rfl) (B7.out.there7 rfl) ra_size12 (by simp [Value.oneCell']) ?_
   intro w7 hw7
   have ov:=B7.out.over7 ((raA l.s l.n LP' A2 c2):Array Value).toList rfl
   rw [← hw7] at ov
   have K7:=hid_ ov
   clear hw7 ov
   have F7:Hid (Fr none_ w1 w7):=hid_ ((F5.out.then_none H36.out).then_only K7.out.2 (.inr HG.out))
   refine ⟨F7.out,?_⟩
   try go_frame
   refine u_run 16 (some 8) (.int .i64 c) w7 rfl rfl (by kernel_rfl) (by kernel_rfl) (by kernel_rfl) (.inr F7.out) ?_
   go_frame
   refine u_done (by kernel_rfl) ?_
   have hout:RaIn w7 LP' A2 c2:=((H3.out.1.keep H36.out).far12 (w:=w) (fun q hq=>by obtain ⟨q',m',e1,e2,e3⟩:=H5.out.2.2 q hq;rw [e1,e2,e3];exact HRA.out.recs q' m') (fun hn ad had=>only_ne (HA7.out hn ad had)) (fun b e=>by rw [show b=g7 from e];have:=HG.out;have:=F0.out.size;omega) K7.out.2)
   have HO:=hid_ hout
   clear hout
   go_wp2
   go_meet
   case rel=>exact ⟨g7,LP',A2,c2,congrArg (fun b=>Value.pointer (some ⟨b,0,none⟩)) HG7.out.symm,HG.out,K7.out.1,HO.out,H3.out.2.1,H5.out.1,H5.out.2.1,H5.out.2.2,F7.out⟩
  ·skip
   have FX:Fr none_ w1 w1.drew:=(Fr.refl none_ w1).drew
   refine wp_knownQ (some 7) rfl (.pointer (some ⟨w1.drew.heap.size,0,none⟩)) (w1.drew.alloc (.cells #[.int .i64 0,.int .i64 0,.slice none 0 0] 35)) (by kernel_rfl) ?_
   refine ⟨.inr (FX.alloc _),?_⟩
   try go_frame
   obtain ⟨w4,hw4⟩:∃ z,z=w1.drew.alloc (.cells #[.int .i64 0,.int .i64 0,.slice none 0 0] 35):=⟨_,rfl⟩
   have FY:Fr none_ w1 w4:=by rw [hw4];exact FX.alloc _
   have B7:Hid (Blk w4 w1.drew.heap.size 35 #[.int .i64 0,.int .i64 0,.slice none 0 0]):=hid_ (by rw [hw4];exact Blk.new w1.drew _ _)
   rw [← hw4]
   clear hw4
   obtain ⟨g7,hg7⟩:∃ g,g=w1.drew.heap.size:=⟨_,rfl⟩
   rw [← hg7] at B7
   rw [← hg7]
   have HG7:Hid (g7=w1.heap.size):=hid_ hg7
   have HG:Hid (w1.heap.size≤g7):=hid_ (by rw [hg7];exact Nat.le_refl _)
   have HL7:Hid (g7 < w4.heap.size):=hid_ B7.out.lt
   refine u_callE 10 (some 52) 43 #[raV l.s l.n LP PA pc,.agg #[.int .i64 s,.int .i64 g]] (fun v w'=>(∃ LP' A2 c2,v=(.tuple #[.agg (raA l.s l.n LP' A2 c2),.int .i64 c])∧RaIn w' LP' A2 c2∧Dm (l.s:Int) l.n ss' ps LP' L∧LP'.length=LP.length∧NewA PA A2 w4∧(∀ q ∈ LP',∃ q' ∈ LP,q.R=q'.R∧q.A=q'.A∧q.B=q'.B)∧Fr none_ w4 w')) rfl rfl (by kernel_rfl) (by kernel_rfl) (by kernel_rfl) ((rfree_ok (l.s:Int) l.n LP PA pc s g w4 (HRA.out.keep (F0.out.then_none FY))).mono (fun e w' hh=>by
    obtain ⟨LP',A2,c2,rfl,h3,h4,h5,h6,h7,h8⟩:=HD.out.free HX.out hh
    exact ⟨_,rfl,LP',A2,c2,rfl,h3,h4,h5,h6,h7,h8⟩)) ?_
   rintro v w5 ⟨LP',A2,c2,rfl,h3,h4,h5,h6,h7,h8⟩
   have H3:=hid_ (And.intro h3 (And.intro h4 h8))
   have H5:=hid_ (And.intro h5 (And.intro ((show NewA PA A2 w1 from h6.imp id (fun h ad e=>Nat.le_trans FY.size (h ad e)))) h7))
   have F5:Hid (Fr none_ w1 w5):=hid_ (FY.then_none h8)
   replace B7:=hid_ (B7.out.fr h8 id)
   have HA7:Hid (0 < LP'.length→∀ ad,A2=some ad→ad.block≠g7):=hid_ (fun hn ad had=>by
    have h1:=HL7.out
    have h2:=HG.out
    have h3:=F0.out.size
    rcases h6 with e | e
    ·have:=ra_low HRA.out (by omega) ad (e ▸ had);omega
    ·have:=e ad had;omega)
   clear h3 h4 h8 h5 h6 h7
   refine ⟨F5.out,?_⟩
   try go_frame
   have hS5:(fun w':World=>Fr none_ w1 w') w5:=F5.out
   refine u_tk 11 (some 41) (.tuple #[.agg (raA l.s l.n LP' A2 c2),.int .i64 c]) rfl rfl (y_vl (fun w' hS=>by kernel_rfl)) hS5 ?_
   go_frame
   refine u_tk 12 (some 53) (.agg (raA l.s l.n LP' A2 c2)) rfl rfl (y_vl (fun w' hS=>by kernel_rfl)) hS5 ?_
   go_frame
   refine u_tk 13 (some 54) (.int .i64 c) rfl rfl (y_vl (fun w' hS=>by kernel_rfl)) hS5 ?_
   go_frame
   clear hS5
   have H36:=hid_ (Fr.refl none_ w5)
   refine u_store 15 35 (.tmp 7) (.tmp 53) g7 0 (raA l.s l.n LP' A2 c2) rfl rfl (by kernel_rfl) (by kernel_rfl) rfl (by kernel_rfl) (by kernel_rfl) (B7.out.there7 rfl) ra_size12 (by simp [Value.oneCell']) ?_
   intro w7 hw7
   have ov:=B7.out.over7 ((raA l.s l.n LP' A2 c2):Array Value).toList rfl
   rw [← hw7] at ov
   have K7:=hid_ ov
   clear hw7 ov
   have F7:Hid (Fr none_ w1 w7):=hid_ ((F5.out.then_none H36.out).then_only K7.out.2 (.inr HG.out))
   refine ⟨F7.out,?_⟩
   try go_frame
   refine u_run 16 (some 8) (.int .i64 c) w7 rfl rfl (by kernel_rfl) (by kernel_rfl) (by kernel_rfl) (.inr F7.out) ?_
   go_frame
   refine u_done (by kernel_rfl) ?_
   have hout:RaIn w7 LP' A2 c2:=((H3.out.1.keep H36.out).far12 (w:=w) (fun q hq=>by obtain ⟨q',m',e1,e2,e3⟩:=H5.out.2.2 q hq;rw [e1,e2,e3];exact HRA.out.recs q' m') (fun hn ad had=>only_ne (HA7.out hn ad had)) (fun b e=>by rw [show b=g7 from e];have:=HG.out;have:=F0.out.size;omega) K7.out.2)
   have HO:=hid_ hout
   clear hout
   go_wp2
   go_meet
   case rel=>exact ⟨g7,LP',A2,c2,congrArg (fun b=>Value.pointer (some ⟨b,0,none⟩)) HG7.out.symm,HG.out,K7.out.1,HO.out,H3.out.2.1,H5.out.1,H5.out.2.1,H5.out.2.2,F7.out⟩
 case rest =>
  obtain ⟨g7,LP',A2,c2,rfl,hg,hb7,h3,h4,h5,h6,h7,hf⟩:=hcut
  have B7:=hid_ hb7
  have H3:=hid_ (And.intro h3 h4)
  have H5:=hid_ (And.intro h5 (And.intro h6 h7))
  have hf1:=F0.out.size
  have hgi4:gi+4≤w1.heap.size:=by have:=B5.out.lt;omega
  replace BI:=hid_ (BI.out.fr hf id)
  replace BM:=hid_ (BM.out.fr hf id)
  replace B4:=hid_ (B4.out.fr hf id)
  replace B5:=hid_ (B5.out.fr hf id)
  replace F0:=hid_ (F0.out.then_none hf)
  have CI:=hid_ BI.out
  have CM:=hid_ BM.out
  have C4:=hid_ B4.out
  have C5:=hid_ B5.out
  have G0:Hid (Fr (inb gi) wc wc):=hid_ (Fr.refl _ _)
  clear hb7 h3 h4 hf h5 h6 h7
  have a0:wc.cell? ⟨g7,0,none⟩=some (.int .i64 (l.s:Int)):=B7.out.cell' rfl
  have a1:wc.cell? ⟨g7,1,none⟩=some (.int .i64 l.n):=B7.out.cell' rfl
  have a2:wc.cell? ⟨g7,2,none⟩=some (.slice A2 LP'.length c2):=B7.out.cell' rfl
  go_upto_region 9 with (refine wpList_store_mid rfl 35 (.tmp 56) (.tmp 55) rfl (gi+1) 6 #[.int .i64 (l.s:Int),.int .i64 l.n,.slice A2 LP'.length c2] rfl rfl (BM.out.thereN (Nat.le_of_ble_eq_true rfl)) ra_size12 (by simp [Value.oneCell']) ?_;obtain ⟨w8,hw_⟩:∃ z,z=wc.setCells (gi+1) 6 [.int .i64 (l.s:Int),.int .i64 l.n,.slice A2 LP'.length c2]:=⟨_,rfl⟩;change wpList _ _ _ _ _ (wc.setCells (gi+1) 6 [.int .i64 (l.s:Int),.int .i64 l.n,.slice A2 LP'.length c2]);rw [← hw_];have K_:=hid_ (BM.out.putN (cs':=dmA l l.s l.n (.slice A2 LP'.length c2) l.p (.slice T L.length tc) cn cl (.slice CA cm cc) (kk+1)) hw_ rfl);clear hw_)
  replace BI:=hid_ (BI.out.fr K_.out.2 (only_ne (by omega)))
  replace BM:=hid_ K_.out.1
  replace B4:=hid_ (B4.out.fr K_.out.2 (only_ne (by omega)))
  replace B5:=hid_ (B5.out.fr K_.out.2 (only_ne (by omega)))
  replace G0:=hid_ (G0.out.then_only K_.out.2 (.inl ⟨by omega,by omega⟩))
  replace F0:=hid_ (F0.out.then_only K_.out.2 (.inr (by have:=GI.out;omega)))
  clear K_
  clear a0 a1 a2
  have hz:=HZ.out.rm
  have hcap:(rs.length:Int)≤(y.rc:Int):=by have:=HLN.out;omega
  have hw6:=wrap_one12 rs.length (by have:=HLN.out;omega)
  have i27:w8.cell? ⟨gi,27,none⟩=some (.slice y.rA (rs.length+1) y.rc):=by rw [← HLN.out];exact BI.out.cell' rfl
  have y27:=BI.out.frozen 27
  have i26:w8.cell? ⟨gi,26,none⟩=some (.slice y.pA d.pages.length y.pc):=BI.out.cell' rfl
  go_upto_region 13 with fail
  obtain ⟨w9,hw_⟩:∃ z,z=w8.setCell ⟨gi,27,none⟩ (.slice y.rA rs.length y.rc):=⟨_,rfl⟩
  have K_:Hid (Blk w9 (gi) 68 (riA J q ({ d with refs:=rs }) y)∧Fr (only (gi)) w8 w9):=hid_ (by rw [hw_];exact ⟨BI.out.set_ 27 (.slice y.rA rs.length y.rc),Fr.only1 w8 ⟨gi,27,none⟩ _⟩)
  change Code.wp _ _ _ _ (w8.setCell ⟨gi,27,none⟩ (.slice y.rA rs.length y.rc))
  rw [← hw_]
  clear hw_ i27 y27 i26
  replace BI:=hid_ K_.out.1
  replace BM:=hid_ (BM.out.fr K_.out.2 (only_ne (by omega)))
  replace B4:=hid_ (B4.out.fr K_.out.2 (only_ne (by omega)))
  replace B5:=hid_ (B5.out.fr K_.out.2 (only_ne (by omega)))
  replace G0:=hid_ (G0.out.then_only K_.out.2 (.inl ⟨by omega,by omega⟩))
  replace F0:=hid_ (F0.out.then_only K_.out.2 (.inr (by have:=GI.out;omega)))
  clear K_
  have i23:w9.cell? ⟨gi,23,none⟩=some (.bool d.over):=BI.out.cell' rfl
  have yi23:=BI.out.frozen 23
  have i27:w9.cell? ⟨gi,27,none⟩=some (.slice y.rA rs.length y.rc):=BI.out.cell' rfl
  have i26:w9.cell? ⟨gi,26,none⟩=some (.slice y.pA d.pages.length y.pc):=BI.out.cell' rfl
  clear hw5
  have hwr:=wrap_add12 rs.length d.pages.length (by have:=HLN.out;omega) (by have:=HLN.out;omega)
  go_upto_region 14 with fail
  obtain ⟨ob,hob⟩:∃ b,b=((rs.length:Int)+(d.pages.length:Int)==0):=⟨_,rfl⟩
  change Code.wp _ _ _ _ (w9.setCell ⟨gi,23,none⟩ (.bool ((rs.length:Int)+(d.pages.length:Int)==0)))
  rw [← hob]
  obtain ⟨wq,hw_⟩:∃ z,z=w9.setCell ⟨gi,23,none⟩ (.bool ob):=⟨_,rfl⟩
  have K_:Hid (Blk wq (gi) 68 (riA J q ({ d with refs:=rs,over:=ob }) y)∧Fr (only (gi)) w9 wq):=hid_ (by rw [hw_];exact ⟨BI.out.set_ 23 (.bool ob),Fr.only1 w9 ⟨gi,23,none⟩ _⟩)
  change Code.wp _ _ _ _ (w9.setCell ⟨gi,23,none⟩ (.bool ob))
  rw [← hw_]
  clear hw_ i23 yi23 i27 i26 hwr
  replace BI:=hid_ K_.out.1
  replace BM:=hid_ (BM.out.fr K_.out.2 (only_ne (by omega)))
  replace B4:=hid_ (B4.out.fr K_.out.2 (only_ne (by omega)))
  replace B5:=hid_ (B5.out.fr K_.out.2 (only_ne (by omega)))
  replace G0:=hid_ (G0.out.then_only K_.out.2 (.inl ⟨by omega,by omega⟩))
  replace F0:=hid_ (F0.out.then_only K_.out.2 (.inr (by have:=GI.out;omega)))
  clear K_
  have hd2:(freeZ d)={ d with refs:=rs,over:=ob }:=by unfold freeZ;rw [HDL.out,hob]
  have HD2:=hid_ hd2
  clear hd2 hob
  have hS0:(fun w':World=>Blk w' gi 68 (riA J q ({ d with refs:=rs,over:=ob }) y)∧Blk w' (gi+1) 43 (dmA l l.s l.n (.slice A2 LP'.length c2) l.p (.slice T L.length tc) cn cl (.slice CA cm cc) (kk+1))) wq.drew:=⟨BI.out.drew,BM.out.drew⟩
  refine wp_region_u 4 (fun w':World=>Blk w' gi 68 (riA J q ({ d with refs:=rs,over:=ob }) y)∧Blk w' (gi+1) 43 (dmA l l.s l.n (.slice A2 LP'.length c2) l.p (.slice T L.length tc) cn cl (.slice CA cm cc) (kk+1))) (by kernel_rfl) ?_
  refine u_take 0 (some 98) (.agg (riA J q ({ d with refs:=rs,over:=ob }) y)) rfl rfl (by kernel_rfl) (by kernel_rfl) (by kernel_rfl) (by kernel_rfl) (fun _ _ _ h=>h) (yieldsIf_load_mid (by kernel_rfl) 68 (.tmp 2) rfl gi 0 (by kernel_rfl) (riA J q ({ d with refs:=rs,over:=ob }) y).toList _ (fun w' hS=>Blk.range7 (l:=(riA J q ({ d with refs:=rs,over:=ob }) y).toList) hS.1) Tryz.underlying68 rfl ri_size) hS0 ?_
  go_frame
  refine u_take 1 (some 99) (.agg (dmA l l.s l.n (.slice A2 LP'.length c2) l.p (.slice T L.length tc) cn cl (.slice CA cm cc) (kk+1))) rfl rfl (by kernel_rfl) (by kernel_rfl) (by kernel_rfl) (by kernel_rfl) (fun _ _ _ h=>h) (yieldsIf_load_mid (by kernel_rfl) 43 (.tmp 3) rfl (gi+1) 0 (by kernel_rfl) (dmA l l.s l.n (.slice A2 LP'.length c2) l.p (.slice T L.length tc) cn cl (.slice CA cm cc) (kk+1)).toList _ (fun w' hS=>Blk.range7 (l:=(dmA l l.s l.n (.slice A2 LP'.length c2) l.p (.slice T L.length tc) cn cl (.slice CA cm cc) (kk+1)).toList) hS.2) Tryz.underlying43 rfl dm_size) hS0 ?_
  go_frame
  clear hS0
  refine u_store 2 68 (.tmp 4) (.tmp 98) (gi+1+1) 0 (riA J q ({ d with refs:=rs,over:=ob }) y) rfl rfl (by kernel_rfl) (by kernel_rfl) rfl (by kernel_rfl) (by kernel_rfl) (B4.out.drew.there7 rfl) ri_size (by simp [Value.oneCell']) ?_
  intro wx hwx
  have ov:=B4.out.drew.over7 (riA J q ({ d with refs:=rs,over:=ob }) y).toList rfl
  rw [← hwx] at ov
  have K_:=hid_ ov
  clear hwx ov
  replace BI:=hid_ (BI.out.drew.fr K_.out.2 (only_ne (by omega)))
  replace BM:=hid_ (BM.out.drew.fr K_.out.2 (only_ne (by omega)))
  replace B5:=hid_ (B5.out.drew.fr K_.out.2 (only_ne (by omega)))
  replace B4:=hid_ K_.out.1
  replace G0:=hid_ (G0.out.drew.then_only K_.out.2 (.inl ⟨by omega,by omega⟩))
  replace F0:=hid_ (F0.out.drew.then_only K_.out.2 (.inr (by have:=GI.out;omega)))
  clear K_
  refine ⟨⟨BI.out,BM.out⟩,?_⟩
  try go_frame
  refine u_store 3 43 (.tmp 5) (.tmp 99) (gi+1+1+1) 0 (dmA l l.s l.n (.slice A2 LP'.length c2) l.p (.slice T L.length tc) cn cl (.slice CA cm cc) (kk+1)) rfl rfl (by kernel_rfl) (by kernel_rfl) rfl (by kernel_rfl) (by kernel_rfl) (B5.out.there7 rfl) dm_size (by simp [Value.oneCell']) ?_
  intro wz hwz
  have ov:=B5.out.over7 (dmA l l.s l.n (.slice A2 LP'.length c2) l.p (.slice T L.length tc) cn cl (.slice CA cm cc) (kk+1)).toList rfl
  rw [← hwz] at ov
  have K_:=hid_ ov
  clear hwz ov
  replace BI:=hid_ (BI.out.fr K_.out.2 (only_ne (by omega)))
  replace BM:=hid_ (BM.out.fr K_.out.2 (only_ne (by omega)))
  replace B4:=hid_ (B4.out.fr K_.out.2 (only_ne (by omega)))
  replace B5:=hid_ K_.out.1
  replace G0:=hid_ (G0.out.then_only K_.out.2 (.inl ⟨by omega,by omega⟩))
  replace F0:=hid_ (F0.out.then_only K_.out.2 (.inr (by have:=GI.out;omega)))
  clear K_
  refine ⟨⟨BI.out,BM.out⟩,?_⟩
  refine u_done (by kernel_rfl) ?_
  go_wp2_with fail
  refine bodyPost_ret (results_cell_cell7 _ _ rfl (gi+1+1) 0 (riA J q ({ d with refs:=rs,over:=ob }) y).toList _ rfl (Blk.range7 (l:=(riA J q ({ d with refs:=rs,over:=ob }) y).toList) B4.out) Tryz.underlying68 rfl ri_size (gi+1+1+1) 0 (dmA l l.s l.n (.slice A2 LP'.length c2) l.p (.slice T L.length tc) cn cl (.slice CA cm cc) (kk+1)).toList _ rfl (Blk.range7 (l:=(dmA l l.s l.n (.slice A2 LP'.length c2) l.p (.slice T L.length tc) cn cl (.slice CA cm cc) (kk+1)).toList) B5.out) Tryz.underlying43 rfl dm_size) rfl ⟨LP',A2,c2,by rw [HD2.out],?_,H3.out.2,H5.out.1,H5.out.2.1.imp id (fun h ad e=>Nat.le_trans hf1 (h ad e)),H5.out.2.2,F0.out⟩
  refine H3.out.1.far12 (w:=w) (fun q hq=>by obtain ⟨q',m',e1,e2,e3⟩:=H5.out.2.2 q hq;rw [e1,e2,e3];exact HRA.out.recs q' m') (fun hn ad had hi=>?_) (fun b e=>by rw [← GI.out];exact e.1) G0.out
  have h1:=hi.1
  have h2:=hi.2
  rcases H5.out.2.1 with e | e
  ·have:=ra_low HRA.out (by have:=H5.out.1;omega) ad (e ▸ had);have:=GI.out;omega
  ·have:=e ad had;omega
open Go.RowKit Go.BigFrame
variable {J:Jd} {q:Jl} {d:Rz} {y:Rl} {l:Lm} {PA:Option Addr} {pc:Nat} {LP:List RaP} {T:Option Addr} {tc:Nat} {L:List Rp} {cn cl:Int} {CA:Option Addr} {cm cc:Nat} {kk:Int} {w:World}
set_option maxHeartbeats 16000000 in
theorem rstep_give (hz:RiIn w d y) (hb:d.back=true) (ho:d.over=false) (hk:IntKind.i64.wrap (kk+1)=kk+1) {p c:Int} (hr:d.pages.getLast?=some p) (h0:d.refs=[]) {ps ps':List Pg} (hl:ps.length=l.p) (hto:ROwn w (.slice T L.length tc) L) (hs:Sim ps L) (hx:GiveR ps p c ps') :
  Calls Tryz.prog 12 #[.agg (riA J q d y),.agg (dmA l l.s l.n (.slice PA LP.length pc) l.p (.slice T L.length tc) cn cl (.slice CA cm cc) kk)] w (fun e w'=>∃ T2 c2 L2,e=.returned (.tuple #[.agg (riA J q (giveZ d) y),.agg (dmA l l.s l.n (.slice PA LP.length pc) l.p (.slice T2 L2.length c2) cn cl (.slice CA cm cc) (kk+1))])∧ROwn w' (.slice T2 L2.length c2) L2∧Sim ps' L2∧Fr none_ w w'):=by
 have HZ:=hid_ hz
 obtain ⟨rs,hrs⟩:=last_split hr
 have hdl:d.pages.dropLast=rs:=by rw [hrs];simp
 have hln:d.pages.length=rs.length+1:=by rw [hrs];simp
 have hl5:=hz.lp
 have hl6:=hz.lr
 have HTO:=hid_ hto
 have HSI:=hid_ hs
 have HX:=hid_ hx
 have HPL:=hid_ hl
 clear hto hs hx hl
 have HDL:=hid_ hdl
 have HLN:=hid_ hln
 have HRS:=hid_ hrs
 clear hz hdl hr
 obtain ⟨w0,hw0⟩:∃ z,z=(((w.alloc (.cells (riA J q d y) 68)).alloc (.cells (dmA l l.s l.n (.slice PA LP.length pc) l.p (.slice T L.length tc) cn cl (.slice CA cm cc) kk) 43)).alloc (.cells riZ 68)).alloc (.cells dmZ 43):=⟨_,rfl⟩
 have f0:Fr none_ w w0:=by rw [hw0];exact ((((Fr.refl none_ w).alloc _).alloc _).alloc _).alloc _
 have BI:Hid (Blk w0 w.heap.size 68 (riA J q d y)):=hid_ (by rw [hw0];exact (((Blk.new w _ _).alloc _).alloc _).alloc _)
 have BM:Hid (Blk w0 (w.heap.size+1) 43 (dmA l l.s l.n (.slice PA LP.length pc) l.p (.slice T L.length tc) cn cl (.slice CA cm cc) kk)):=hid_ (by rw [hw0];exact ((Blk.new_at4 _ _ (by simp)).alloc _).alloc _)
 have B4:Hid (Blk w0 (w.heap.size+1+1) 68 riZ):=hid_ (by rw [hw0];exact (Blk.new_at4 _ _ (by simp)).alloc _)
 have B5:Hid (Blk w0 (w.heap.size+1+1+1) 43 dmZ):=hid_ (by rw [hw0];exact Blk.new_at4 _ _ (by simp))
 have F0:=hid_ f0
 have hs0:w0.heap.size=w.heap.size+4:=by rw [hw0];simp
 have HS0:=hid_ hs0
 clear f0 hs0
 go_enter Tryz.func12,Tryz.ntmps12
 go_upto_region 1 with fail
 change Code.wp _ _ _ _ ((((w.alloc (.cells (riA J q d y) 68)).alloc (.cells (dmA l l.s l.n (.slice PA LP.length pc) l.p (.slice T L.length tc) cn cl (.slice CA cm cc) kk) 43)).alloc (.cells riZ 68)).alloc (.cells dmZ 43))
 rw [← hw0]
 clear hw0
 obtain ⟨gi,hgi⟩:∃ g,g=w.heap.size:=⟨_,rfl⟩
 rw [← hgi] at BI BM B4 B5
 rw [← hgi]
 have GI:=hid_ hgi
 clear hgi
 have m14:w0.cell? ⟨gi+1,14,none⟩=some (.int .i64 kk):=BM.out.cell' rfl
 have ym14:=BM.out.frozen 14
 have i23:w0.cell? ⟨gi,23,none⟩=some (.bool false):=by rw [← ho];exact BI.out.cell' rfl
 go_upto_region 4 with fail
 obtain ⟨w1,hw_⟩:∃ z,z=w0.setCell ⟨gi+1,14,none⟩ (.int .i64 (kk+1)):=⟨_,rfl⟩
 have K_:Hid (Blk w1 (gi+1) 43 (dmA l l.s l.n (.slice PA LP.length pc) l.p (.slice T L.length tc) cn cl (.slice CA cm cc) (kk+1))∧Fr (only (gi+1)) w0 w1):=hid_ (by rw [hw_];exact ⟨BM.out.set_ 14 (.int .i64 (kk+1)),Fr.only1 w0 ⟨gi+1,14,none⟩ _⟩)
 change Code.wp _ _ _ _ (w0.setCell ⟨gi+1,14,none⟩ (.int .i64 (kk+1)))
 rw [← hw_]
 clear hw_ m14 ym14 i23
 replace BI:=hid_ (BI.out.fr K_.out.2 (only_ne (by omega)))
 replace BM:=hid_ K_.out.1
 replace B4:=hid_ (B4.out.fr K_.out.2 (only_ne (by omega)))
 replace B5:=hid_ (B5.out.fr K_.out.2 (only_ne (by omega)))
 replace F0:=hid_ (F0.out.then_only K_.out.2 (.inr (by have:=GI.out;omega)))
 clear K_
 have i3:w1.cell? ⟨gi,3,none⟩=some (.int .i64 J.news):=BI.out.cell' rfl
 have i22:w1.cell? ⟨gi,22,none⟩=some (.bool true):=by rw [← hb];exact BI.out.cell' rfl
 have i27:w1.cell? ⟨gi,27,none⟩=some (.slice y.rA d.refs.length y.rc):=BI.out.cell' rfl
 have hz0:¬ ((0:Int) < (d.refs.length:Int)):=by rw [h0];simp
 have hz1:decide ((0:Int) < (d.refs.length:Int))=false:=decide_eq_false hz0
 have H0:=hid_ h0
 have i26:w1.cell? ⟨gi,26,none⟩=some (.slice y.pA (rs.length+1) y.pc):=by rw [← HLN.out];exact BI.out.cell' rfl
 have hpos:(0:Int) < ((rs.length+1:Nat):Int):=by omega
 have hn0:(0:Int)≤(rs.length:Int):=Int.natCast_nonneg _
 have hw5:IntKind.i64.wrap (((rs.length+1:Nat):Int) - 1)=(rs.length:Int):=by rw [show ((rs.length+1:Nat):Int) - 1=(rs.length:Int) by omega];exact IntWalk.i64_in _ (by have:=HLN.out;omega)
 clear hrs hln
 go_upto_region 10 with fail
 go_cut [9] (fun v wq=>∃ (g7:Nat) (T2:Option Addr) (c2:Nat) (L2:List Rp),v=.pointer (some ⟨g7,0,none⟩)∧w1.heap.size≤g7∧Blk wq g7 38 #[.int .i64 (l.p:Int),.slice T2 L2.length c2]∧ROwn wq (.slice T2 L2.length c2) L2∧Sim ps' L2∧Fr none_ w1 wq)
 case first =>
  have m9:w1.cell? ⟨gi+1,9,none⟩=some (.int .i64 (l.p:Int)):=BM.out.cell' rfl
  have m10:w1.cell? ⟨gi+1,10,none⟩=some (.slice T L.length tc):=BM.out.cell' rfl
  obtain ⟨b,off,hA,hbl,hc⟩:=reads_lit (HZ.out.keep F0.out).p (by omega) (by rw [HLN.out];omega)
  have c0:w1.cell? ⟨b,off+rs.length,none⟩=some (.int .i64 p):=hc rs.length _ (by rw [HRS.out,intF,List.map_append,List.getElem?_append_right (by simp),List.length_map,Nat.sub_self];rfl)
  rw [hA] at i26
  clear hc hA hbl
  have hS0:(fun w':World=>Fr none_ w1 w') w1.drew:=(Fr.refl none_ w1).drew
  refine wp_region_u 17 (fun w':World=>Fr none_ w1 w') (by kernel_rfl) ?_
  refine u_tk 0 (some 66) (.pointer (some ⟨gi+1,9,none⟩)) rfl rfl (y_vl (fun w' hS=>by kernel_rfl)) hS0 ?_
  go_frame
  refine u_tk 1 (some 67) (.agg #[.int .i64 (l.p:Int),.slice T L.length tc]) rfl rfl (yieldsIf_load_mid (by kernel_rfl) 38 (.tmp 66) rfl (gi+1) 9 (by kernel_rfl) [.int .i64 (l.p:Int),.slice T L.length tc] _ (fun w' hS j v hv=>by match j,hv with | 0,hv=>obtain rfl:=Option.some.inj hv;exact cellFr m9 hS | 1,hv=>obtain rfl:=Option.some.inj hv;exact cellFr m10 hS | n+2,hv=>simp at hv) Tryz.underlying38 rfl rt_size12) hS0 ?_
  go_frame
  refine u_tk 2 (some 68) (.pointer (some ⟨gi,26,none⟩)) rfl rfl (y_vl (fun w' hS=>by kernel_rfl)) hS0 ?_
  go_frame
  refine u_tk 3 (some 69) (.slice (some ⟨b,off,none⟩) (rs.length+1) y.pc) rfl rfl (y_cell 39 (.tmp 68) ⟨gi,26,none⟩ _ (by kernel_rfl) rfl (by kernel_rfl) (fun w' hS=>cellFr i26 hS) Tryz.underlying39 rfl) hS0 ?_
  go_frame
  refine u_tk 4 (some 70) (.pointer (some ⟨gi,26,none⟩)) rfl rfl (y_vl (fun w' hS=>by kernel_rfl)) hS0 ?_
  go_frame
  refine u_tk 5 (some 71) (.slice (some ⟨b,off,none⟩) (rs.length+1) y.pc) rfl rfl (y_cell 39 (.tmp 70) ⟨gi,26,none⟩ _ (by kernel_rfl) rfl (by kernel_rfl) (fun w' hS=>cellFr i26 hS) Tryz.underlying39 rfl) hS0 ?_
  go_frame
  refine u_tk 6 (some 72) (.int .i64 ((rs.length+1:Nat):Int)) rfl rfl (y_vl (fun w' hS=>by kernel_rfl)) hS0 ?_
  go_frame
  refine u_tk 7 (some 73) (.int .i64 (rs.length:Int)) rfl rfl (y_int hw5 (by kernel_rfl) (fun w' hS=>by kernel_rfl)) hS0 ?_
  go_frame
  refine u_tk 8 (some 74) (.pointer (some ⟨b,off+rs.length,none⟩)) rfl rfl (.inl ⟨by kernel_rfl,fun w' hS=>ex_index1 39 3 (.tmp 69) (.tmp 73) b off rs.length (rs.length+1) y.pc rfl (by kernel_rfl) (by kernel_rfl) Tryz.underlying39 int_sz12 (by omega) w'⟩) hS0 ?_
  go_frame
  refine u_tk 9 (some 75) (.int .i64 p) rfl rfl (y_cell 3 (.tmp 74) ⟨b,off+rs.length,none⟩ _ (by kernel_rfl) rfl (by kernel_rfl) (fun w' hS=>cellFr c0 hS) Tryz.underlying3 rfl) hS0 ?_
  go_frame
  clear hS0
  refine u_two 10 14 rfl rfl (by kernel_rfl) (by kernel_rfl) (by kernel_rfl) ?_ ?_
  ·skip
   have FX:Fr none_ w1 w1.drew:=(Fr.refl none_ w1).drew
   refine wp_callQ (some 76) rfl 44 #[rtab (l.p:Int) (.slice T L.length tc),.int .i64 p] (fun v w'=>(∃ T2 c2 L2,v=(.tuple #[.agg #[.int .i64 (l.p:Int),.slice T2 L2.length c2],.int .i64 c])∧ROwn w' (.slice T2 L2.length c2) L2∧Sim ps' L2∧Fr none_ w1.drew w')) (by kernel_rfl) (((by have h:=rgive_any ps T tc L w1.drew (own_none HTO.out (F0.out.then_none FX)) HSI.out p;rw [HPL.out,(giveR_eq HX.out).1,(giveR_eq HX.out).2] at h;exact h:Calls Tryz.prog 44 #[rtab (l.p:Int) (.slice T L.length tc),.int .i64 p] w1.drew (RStep w1.drew l.p (fun t=>.tuple #[t,.int .i64 c]) ps'))).mono (fun e w' hh=>by
    obtain ⟨T2,c2,L2,rfl,h3,h4,h8⟩:=hh
    exact ⟨_,rfl,T2,c2,L2,rfl,h3,h4,h8⟩)) ?_
   rintro v w5 ⟨T2,c2,L2,rfl,h3,h4,h8⟩
   have H3:=hid_ (And.intro h3 (And.intro h4 h8))
   have F5:Hid (Fr none_ w1 w5):=hid_ (FX.then_none h8)
   clear h3 h4 h8
   refine ⟨.inr F5.out,?_⟩
   try go_frame
   have hS5:(fun w':World=>Fr none_ w1 w') w5:=F5.out
   refine u_tk 11 (some 65) (.tuple #[.agg #[.int .i64 (l.p:Int),.slice T2 L2.length c2],.int .i64 c]) rfl rfl (y_vl (fun w' hS=>by kernel_rfl)) hS5 ?_
   go_frame
   refine u_tk 12 (some 77) (.agg #[.int .i64 (l.p:Int),.slice T2 L2.length c2]) rfl rfl (y_vl (fun w' hS=>by kernel_rfl)) hS5 ?_
   go_frame
   refine u_tk 13 (some 78) (.int .i64 c) rfl rfl (y_vl (fun w' hS=>by kernel_rfl)) hS5 ?_
   go_frame
   clear hS5
   refine u_run 14 (some 9) (.pointer (some ⟨w5.heap.size,0,none⟩)) (w5.alloc (.cells #[.int .i64 0,.slice none 0 0] 38)) rfl rfl (by kernel_rfl) (by kernel_rfl) (by kernel_rfl) (.inr (F5.out.alloc _)) ?_
   go_frame
   obtain ⟨w6,hw6⟩:∃ z,z=w5.alloc (.cells #[.int .i64 0,.slice none 0 0] 38):=⟨_,rfl⟩
   have f6:Fr none_ w5 w6:=by rw [hw6];exact (Fr.refl none_ w5).alloc _
   have B7:Hid (Blk w6 w5.heap.size 38 #[.int .i64 0,.slice none 0 0]):=hid_ (by rw [hw6];exact Blk.new w5 _ _)
   rw [← hw6]
   have F6:=hid_ f6
   clear hw6 f6
   obtain ⟨g7,hg7⟩:∃ g,g=w5.heap.size:=⟨_,rfl⟩
   rw [← hg7] at B7
   rw [← hg7]
   have HG7:=hid_ hg7
   have HG:Hid (w1.heap.size≤g7):=hid_ (by have:=F5.out.size;omega)
   have H36:=hid_ F6.out
   refine u_store 15 38 (.tmp 9) (.tmp 77) g7 0 #[.int .i64 (l.p:Int),.slice T2 L2.length c2] rfl rfl (by kernel_rfl) (by kernel_rfl) rfl (by kernel_rfl) (by kernel_rfl) (B7.out.there7 rfl) rt_size12 (by simp [Value.oneCell']) ?_
   intro w7 hw7
   have ov:=B7.out.over7 (#[.int .i64 (l.p:Int),.slice T2 L2.length c2]:Array Value).toList rfl
   rw [← hw7] at ov
   have K7:=hid_ ov
   clear hw7 ov
   have F7:Hid (Fr none_ w1 w7):=hid_ ((F5.out.then_none H36.out).then_only K7.out.2 (.inr HG.out))
   refine ⟨F7.out,?_⟩
   try go_frame
   refine u_run 16 (some 10) (.int .i64 c) w7 rfl rfl (by kernel_rfl) (by kernel_rfl) (by kernel_rfl) (.inr F7.out) ?_
   go_frame
   refine u_done (by kernel_rfl) ?_
   have HO:=hid_ (own_fr (own_none H3.out.1 H36.out) K7.out.2 (fun k hk e=>own_blk_ne (own_none H3.out.1 H36.out) B7.out (by decide) (by rw [hk,show k=g7 from e])))
   go_wp2
   go_meet
   case rel=>exact ⟨g7,T2,c2,L2,congrArg (fun b=>Value.pointer (some ⟨b,0,none⟩)) HG7.out.symm,HG.out,K7.out.1,HO.out,H3.out.2.1,F7.out⟩
  ·skip
   have FX:Fr none_ w1 w1.drew:=(Fr.refl none_ w1).drew
   refine wp_knownQ (some 9) rfl (.pointer (some ⟨w1.drew.heap.size,0,none⟩)) (w1.drew.alloc (.cells #[.int .i64 0,.slice none 0 0] 38)) (by kernel_rfl) ?_
   refine ⟨.inr (FX.alloc _),?_⟩
   try go_frame
   obtain ⟨w4,hw4⟩:∃ z,z=w1.drew.alloc (.cells #[.int .i64 0,.slice none 0 0] 38):=⟨_,rfl⟩
   have FY:Fr none_ w1 w4:=by rw [hw4];exact FX.alloc _
   have B7:Hid (Blk w4 w1.drew.heap.size 38 #[.int .i64 0,.slice none 0 0]):=hid_ (by rw [hw4];exact Blk.new w1.drew _ _)
   rw [← hw4]
   clear hw4
   obtain ⟨g7,hg7⟩:∃ g,g=w1.drew.heap.size:=⟨_,rfl⟩
   rw [← hg7] at B7
   rw [← hg7]
   have HG7:Hid (g7=w1.heap.size):=hid_ hg7
   have HG:Hid (w1.heap.size≤g7):=hid_ (by rw [hg7];exact Nat.le_refl _)
   have HL7:Hid (g7 < w4.heap.size):=hid_ B7.out.lt
   refine u_callE 10 (some 76) 44 #[rtab (l.p:Int) (.slice T L.length tc),.int .i64 p] (fun v w'=>(∃ T2 c2 L2,v=(.tuple #[.agg #[.int .i64 (l.p:Int),.slice T2 L2.length c2],.int .i64 c])∧ROwn w' (.slice T2 L2.length c2) L2∧Sim ps' L2∧Fr none_ w4 w')) rfl rfl (by kernel_rfl) (by kernel_rfl) (by kernel_rfl) (((by have h:=rgive_any ps T tc L w4 (own_none HTO.out (F0.out.then_none FY)) HSI.out p;rw [HPL.out,(giveR_eq HX.out).1,(giveR_eq HX.out).2] at h;exact h:Calls Tryz.prog 44 #[rtab (l.p:Int) (.slice T L.length tc),.int .i64 p] w4 (RStep w4 l.p (fun t=>.tuple #[t,.int .i64 c]) ps'))).mono (fun e w' hh=>by
    obtain ⟨T2,c2,L2,rfl,h3,h4,h8⟩:=hh
    exact ⟨_,rfl,T2,c2,L2,rfl,h3,h4,h8⟩)) ?_
   rintro v w5 ⟨T2,c2,L2,rfl,h3,h4,h8⟩
   have H3:=hid_ (And.intro h3 (And.intro h4 h8))
   have F5:Hid (Fr none_ w1 w5):=hid_ (FY.then_none h8)
   replace B7:=hid_ (B7.out.fr h8 id)
   clear h3 h4 h8
   refine ⟨F5.out,?_⟩
   try go_frame
   have hS5:(fun w':World=>Fr none_ w1 w') w5:=F5.out
   refine u_tk 11 (some 65) (.tuple #[.agg #[.int .i64 (l.p:Int),.slice T2 L2.length c2],.int .i64 c]) rfl rfl (y_vl (fun w' hS=>by kernel_rfl)) hS5 ?_
   go_frame
   refine u_tk 12 (some 77) (.agg #[.int .i64 (l.p:Int),.slice T2 L2.length c2]) rfl rfl (y_vl (fun w' hS=>by kernel_rfl)) hS5 ?_
   go_frame
   refine u_tk 13 (some 78) (.int .i64 c) rfl rfl (y_vl (fun w' hS=>by kernel_rfl)) hS5 ?_
   go_frame
   clear hS5
   have H36:=hid_ (Fr.refl none_ w5)
   refine u_store 15 38 (.tmp 9) (.tmp 77) g7 0 #[.int .i64 (l.p:Int),.slice T2 L2.length c2] rfl rfl (by kernel_rfl) (by kernel_rfl) rfl (by kernel_rfl) (by kernel_rfl) (B7.out.there7 rfl) rt_size12 (by simp [Value.oneCell']) ?_
   intro w7 hw7
   have ov:=B7.out.over7 (#[.int .i64 (l.p:Int),.slice T2 L2.length c2]:Array Value).toList rfl
   rw [← hw7] at ov
   have K7:=hid_ ov
   clear hw7 ov
   have F7:Hid (Fr none_ w1 w7):=hid_ ((F5.out.then_none H36.out).then_only K7.out.2 (.inr HG.out))
   refine ⟨F7.out,?_⟩
   try go_frame
   refine u_run 16 (some 10) (.int .i64 c) w7 rfl rfl (by kernel_rfl) (by kernel_rfl) (by kernel_rfl) (.inr F7.out) ?_
   go_frame
   refine u_done (by kernel_rfl) ?_
   have HO:=hid_ (own_fr (own_none H3.out.1 H36.out) K7.out.2 (fun k hk e=>own_blk_ne (own_none H3.out.1 H36.out) B7.out (by decide) (by rw [hk,show k=g7 from e])))
   go_wp2
   go_meet
   case rel=>exact ⟨g7,T2,c2,L2,congrArg (fun b=>Value.pointer (some ⟨b,0,none⟩)) HG7.out.symm,HG.out,K7.out.1,HO.out,H3.out.2.1,F7.out⟩
 case rest =>
  obtain ⟨g7,T2,c2,L2,rfl,hg,hb7,h3,h4,hf⟩:=hcut
  have B7:=hid_ hb7
  have H3:=hid_ (And.intro h3 h4)
  have hf1:=F0.out.size
  have hgi4:gi+4≤w1.heap.size:=by have:=B5.out.lt;omega
  replace BI:=hid_ (BI.out.fr hf id)
  replace BM:=hid_ (BM.out.fr hf id)
  replace B4:=hid_ (B4.out.fr hf id)
  replace B5:=hid_ (B5.out.fr hf id)
  replace F0:=hid_ (F0.out.then_none hf)
  have CI:=hid_ BI.out
  have CM:=hid_ BM.out
  have C4:=hid_ B4.out
  have C5:=hid_ B5.out
  have G0:Hid (Fr (inb gi) wc wc):=hid_ (Fr.refl _ _)
  clear hb7 h3 h4 hf
  have a0:wc.cell? ⟨g7,0,none⟩=some (.int .i64 (l.p:Int)):=B7.out.cell' rfl
  have a1:wc.cell? ⟨g7,1,none⟩=some (.slice T2 L2.length c2):=B7.out.cell' rfl
  go_upto_region 12 with (refine wpList_store_mid rfl 38 (.tmp 80) (.tmp 79) rfl (gi+1) 9 #[.int .i64 (l.p:Int),.slice T2 L2.length c2] rfl rfl (BM.out.thereN (Nat.le_of_ble_eq_true rfl)) rt_size12 (by simp [Value.oneCell']) ?_;obtain ⟨w8,hw_⟩:∃ z,z=wc.setCells (gi+1) 9 [.int .i64 (l.p:Int),.slice T2 L2.length c2]:=⟨_,rfl⟩;change wpList _ _ _ _ _ (wc.setCells (gi+1) 9 [.int .i64 (l.p:Int),.slice T2 L2.length c2]);rw [← hw_];have K_:=hid_ (BM.out.putN (cs':=dmA l l.s l.n (.slice PA LP.length pc) l.p (.slice T2 L2.length c2) cn cl (.slice CA cm cc) (kk+1)) hw_ rfl);clear hw_)
  replace BI:=hid_ (BI.out.fr K_.out.2 (only_ne (by omega)))
  replace BM:=hid_ K_.out.1
  replace B4:=hid_ (B4.out.fr K_.out.2 (only_ne (by omega)))
  replace B5:=hid_ (B5.out.fr K_.out.2 (only_ne (by omega)))
  replace G0:=hid_ (G0.out.then_only K_.out.2 (.inl ⟨by omega,by omega⟩))
  replace F0:=hid_ (F0.out.then_only K_.out.2 (.inr (by have:=GI.out;omega)))
  clear K_
  clear a0 a1
  have hz:=HZ.out.pm
  have hcap:(rs.length:Int)≤(y.pc:Int):=by have:=HLN.out;omega
  have hw6:=wrap_one12 rs.length (by have:=HLN.out;omega)
  have i26:w8.cell? ⟨gi,26,none⟩=some (.slice y.pA (rs.length+1) y.pc):=by rw [← HLN.out];exact BI.out.cell' rfl
  have y26:=BI.out.frozen 26
  go_upto_region 13 with fail
  obtain ⟨w9,hw_⟩:∃ z,z=w8.setCell ⟨gi,26,none⟩ (.slice y.pA rs.length y.pc):=⟨_,rfl⟩
  have K_:Hid (Blk w9 (gi) 68 (riA J q ({ d with pages:=rs }) y)∧Fr (only (gi)) w8 w9):=hid_ (by rw [hw_];exact ⟨BI.out.set_ 26 (.slice y.pA rs.length y.pc),Fr.only1 w8 ⟨gi,26,none⟩ _⟩)
  change Code.wp _ _ _ _ (w8.setCell ⟨gi,26,none⟩ (.slice y.pA rs.length y.pc))
  rw [← hw_]
  clear hw_ i26 y26
  replace BI:=hid_ K_.out.1
  replace BM:=hid_ (BM.out.fr K_.out.2 (only_ne (by omega)))
  replace B4:=hid_ (B4.out.fr K_.out.2 (only_ne (by omega)))
  replace B5:=hid_ (B5.out.fr K_.out.2 (only_ne (by omega)))
  replace G0:=hid_ (G0.out.then_only K_.out.2 (.inl ⟨by omega,by omega⟩))
  replace F0:=hid_ (F0.out.then_only K_.out.2 (.inr (by have:=GI.out;omega)))
  clear K_
  have i23:w9.cell? ⟨gi,23,none⟩=some (.bool d.over):=BI.out.cell' rfl
  have yi23:=BI.out.frozen 23
  have i27:w9.cell? ⟨gi,27,none⟩=some (.slice y.rA d.refs.length y.rc):=BI.out.cell' rfl
  have i26:w9.cell? ⟨gi,26,none⟩=some (.slice y.pA rs.length y.pc):=BI.out.cell' rfl
  clear hw5
  have hwr:=wrap_add12 0 rs.length (by have:=HLN.out;omega) (by have:=HLN.out;omega)
  go_upto_region 14 with fail
  obtain ⟨ob,hob⟩:∃ b,b=((rs.length:Int)==0):=⟨_,rfl⟩
  change Code.wp _ _ _ _ (w9.setCell ⟨gi,23,none⟩ (.bool ((rs.length:Int)==0)))
  rw [← hob]
  obtain ⟨wq,hw_⟩:∃ z,z=w9.setCell ⟨gi,23,none⟩ (.bool ob):=⟨_,rfl⟩
  have K_:Hid (Blk wq (gi) 68 (riA J q ({ d with pages:=rs,over:=ob }) y)∧Fr (only (gi)) w9 wq):=hid_ (by rw [hw_];exact ⟨BI.out.set_ 23 (.bool ob),Fr.only1 w9 ⟨gi,23,none⟩ _⟩)
  change Code.wp _ _ _ _ (w9.setCell ⟨gi,23,none⟩ (.bool ob))
  rw [← hw_]
  clear hw_ i23 yi23 i27 i26 hwr
  replace BI:=hid_ K_.out.1
  replace BM:=hid_ (BM.out.fr K_.out.2 (only_ne (by omega)))
  replace B4:=hid_ (B4.out.fr K_.out.2 (only_ne (by omega)))
  replace B5:=hid_ (B5.out.fr K_.out.2 (only_ne (by omega)))
  replace G0:=hid_ (G0.out.then_only K_.out.2 (.inl ⟨by omega,by omega⟩))
  replace F0:=hid_ (F0.out.then_only K_.out.2 (.inr (by have:=GI.out;omega)))
  clear K_
  have hd2:(giveZ d)={ d with pages:=rs,over:=ob }:=by unfold giveZ;rw [HDL.out,hob,H0.out];simp
  have HD2:=hid_ hd2
  clear hd2 hob
  have hS0:(fun w':World=>Blk w' gi 68 (riA J q ({ d with pages:=rs,over:=ob }) y)∧Blk w' (gi+1) 43 (dmA l l.s l.n (.slice PA LP.length pc) l.p (.slice T2 L2.length c2) cn cl (.slice CA cm cc) (kk+1))) wq.drew:=⟨BI.out.drew,BM.out.drew⟩
  refine wp_region_u 4 (fun w':World=>Blk w' gi 68 (riA J q ({ d with pages:=rs,over:=ob }) y)∧Blk w' (gi+1) 43 (dmA l l.s l.n (.slice PA LP.length pc) l.p (.slice T2 L2.length c2) cn cl (.slice CA cm cc) (kk+1))) (by kernel_rfl) ?_
  refine u_take 0 (some 98) (.agg (riA J q ({ d with pages:=rs,over:=ob }) y)) rfl rfl (by kernel_rfl) (by kernel_rfl) (by kernel_rfl) (by kernel_rfl) (fun _ _ _ h=>h) (yieldsIf_load_mid (by kernel_rfl) 68 (.tmp 2) rfl gi 0 (by kernel_rfl) (riA J q ({ d with pages:=rs,over:=ob }) y).toList _ (fun w' hS=>Blk.range7 (l:=(riA J q ({ d with pages:=rs,over:=ob }) y).toList) hS.1) Tryz.underlying68 rfl ri_size) hS0 ?_
  go_frame
  refine u_take 1 (some 99) (.agg (dmA l l.s l.n (.slice PA LP.length pc) l.p (.slice T2 L2.length c2) cn cl (.slice CA cm cc) (kk+1))) rfl rfl (by kernel_rfl) (by kernel_rfl) (by kernel_rfl) (by kernel_rfl) (fun _ _ _ h=>h) (yieldsIf_load_mid (by kernel_rfl) 43 (.tmp 3) rfl (gi+1) 0 (by kernel_rfl) (dmA l l.s l.n (.slice PA LP.length pc) l.p (.slice T2 L2.length c2) cn cl (.slice CA cm cc) (kk+1)).toList _ (fun w' hS=>Blk.range7 (l:=(dmA l l.s l.n (.slice PA LP.length pc) l.p (.slice T2 L2.length c2) cn cl (.slice CA cm cc) (kk+1)).toList) hS.2) Tryz.underlying43 rfl dm_size) hS0 ?_
  go_frame
  clear hS0
  refine u_store 2 68 (.tmp 4) (.tmp 98) (gi+1+1) 0 (riA J q ({ d with pages:=rs,over:=ob }) y) rfl rfl (by kernel_rfl) (by kernel_rfl) rfl (by kernel_rfl) (by kernel_rfl) (B4.out.drew.there7 rfl) ri_size (by simp [Value.oneCell']) ?_
  intro wx hwx
  have ov:=B4.out.drew.over7 (riA J q ({ d with pages:=rs,over:=ob }) y).toList rfl
  rw [← hwx] at ov
  have K_:=hid_ ov
  clear hwx ov
  replace BI:=hid_ (BI.out.drew.fr K_.out.2 (only_ne (by omega)))
  replace BM:=hid_ (BM.out.drew.fr K_.out.2 (only_ne (by omega)))
  replace B5:=hid_ (B5.out.drew.fr K_.out.2 (only_ne (by omega)))
  replace B4:=hid_ K_.out.1
  replace G0:=hid_ (G0.out.drew.then_only K_.out.2 (.inl ⟨by omega,by omega⟩))
  replace F0:=hid_ (F0.out.drew.then_only K_.out.2 (.inr (by have:=GI.out;omega)))
  clear K_
  refine ⟨⟨BI.out,BM.out⟩,?_⟩
  try go_frame
  refine u_store 3 43 (.tmp 5) (.tmp 99) (gi+1+1+1) 0 (dmA l l.s l.n (.slice PA LP.length pc) l.p (.slice T2 L2.length c2) cn cl (.slice CA cm cc) (kk+1)) rfl rfl (by kernel_rfl) (by kernel_rfl) rfl (by kernel_rfl) (by kernel_rfl) (B5.out.there7 rfl) dm_size (by simp [Value.oneCell']) ?_
  intro wz hwz
  have ov:=B5.out.over7 (dmA l l.s l.n (.slice PA LP.length pc) l.p (.slice T2 L2.length c2) cn cl (.slice CA cm cc) (kk+1)).toList rfl
  rw [← hwz] at ov
  have K_:=hid_ ov
  clear hwz ov
  replace BI:=hid_ (BI.out.fr K_.out.2 (only_ne (by omega)))
  replace BM:=hid_ (BM.out.fr K_.out.2 (only_ne (by omega)))
  replace B4:=hid_ (B4.out.fr K_.out.2 (only_ne (by omega)))
  replace B5:=hid_ K_.out.1
  replace G0:=hid_ (G0.out.then_only K_.out.2 (.inl ⟨by omega,by omega⟩))
  replace F0:=hid_ (F0.out.then_only K_.out.2 (.inr (by have:=GI.out;omega)))
  clear K_
  refine ⟨⟨BI.out,BM.out⟩,?_⟩
  refine u_done (by kernel_rfl) ?_
  go_wp2_with fail
  refine bodyPost_ret (results_cell_cell7 _ _ rfl (gi+1+1) 0 (riA J q ({ d with pages:=rs,over:=ob }) y).toList _ rfl (Blk.range7 (l:=(riA J q ({ d with pages:=rs,over:=ob }) y).toList) B4.out) Tryz.underlying68 rfl ri_size (gi+1+1+1) 0 (dmA l l.s l.n (.slice PA LP.length pc) l.p (.slice T2 L2.length c2) cn cl (.slice CA cm cc) (kk+1)).toList _ rfl (Blk.range7 (l:=(dmA l l.s l.n (.slice PA LP.length pc) l.p (.slice T2 L2.length c2) cn cl (.slice CA cm cc) (kk+1)).toList) B5.out) Tryz.underlying43 rfl dm_size) rfl ⟨T2,c2,L2,by rw [HD2.out],own_fr H3.out.1 G0.out (fun k hk e=>by
   have e':k=gi∨k=gi+1∨k=gi+1+1∨k=gi+1+1+1:=by have h1:=e.1;have h2:=e.2;omega
   rcases e' with e' | e' | e' | e'
   ·exact own_blk_ne H3.out.1 CI.out (by decide) (e' ▸ hk)
   ·exact own_blk_ne H3.out.1 CM.out (by decide) (e' ▸ hk)
   ·exact own_blk_ne H3.out.1 C4.out (by decide) (e' ▸ hk)
   ·exact own_blk_ne H3.out.1 C5.out (by decide) (e' ▸ hk)),H3.out.2,F0.out⟩
end Go.Proofs.YthcpccddcgbanaaGreatDoor
