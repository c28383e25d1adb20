/- Texts of one proof, merged: Chain9. -/
import Derived.Deep.DeepCutAuto
import Derived.Test.YthcpccddcgbanaaGreatDoorPiK
namespace Go.Proofs.YthcpccddcgbanaaGreatDoor
open Go.RowKit
set_option maxRecDepth 100000
set_option linter.unusedVariables false

structure Cr where
  R:Rc
  A:Option Addr
  c:Nat
  B:Option Addr
  d:Nat
abbrev crA (C:Cr):Array Value:=recA C.R (.slice C.A C.R.rows.length C.c) (.slice C.B C.R.ents.length C.d)
def crFlat (L:List Cr):List Value:=(L.map fun C=>(crA C).toList).flatten
theorem crFlat_snoc (L:List Cr) (C:Cr):crFlat (L ++ [C])=crFlat L ++ (crA C).toList:=by simp [crFlat]
def rf9Flat (L:List (Int × Int)):List Value:=(L.map fun p=>[Value.int .i64 p.1,Value.int .i64 p.2]).flatten
theorem rf9Flat_snoc (L:List (Int × Int)) (p:Int × Int):rf9Flat (L ++ [p])=rf9Flat L ++ [Value.int .i64 p.1,Value.int .i64 p.2]:=by simp [rf9Flat]
theorem rec_info9:(Tryz.prog.info? 55).map (fun i=>(i.zero,i.size,i.bytes))=some (some (.agg recZ),15,192):=by kernel_rfl
theorem ref_info9:(Tryz.prog.info? 48).map (fun i=>(i.zero,i.size,i.bytes))=some (some (.agg #[.int .i64 0,.int .i64 0]),2,16):=by kernel_rfl
theorem cr_one (C:Cr):∀ u ∈ (crA C).toList,u.oneCell'=true:=by
  intro u hu
  simp only [List.mem_cons,List.not_mem_nil,or_false] at hu
  rcases hu with rfl | rfl | rfl | rfl | rfl | rfl | rfl | rfl | rfl | rfl | rfl | rfl | rfl | rfl | rfl <;> rfl
theorem RecOwn.grown {w w':World} {base:Nat} {R:Rc} {vr ve:Value} (h:RecOwn w base R vr ve) {b size n:Nat} {e:TypeId} {v:Value} {xs:List Value} (ho:w.ownsRow b e size v n xs) (h1:170≠e) (h2:172≠e) (hg:w.grownBy w' v.ownBlock):RecOwn w' base R vr ve:=by
  refine ⟨h.r.kept hg ?_,h.e.kept hg ?_⟩
  · cases hk:vr.ownBlock with
    | none=>exact .inl rfl
    | some k=>exact .inr (fun e'=>own_own_ne h.r ho h1 k hk e'.symm)
  · cases hk:ve.ownBlock with
    | none=>exact .inl rfl
    | some k=>exact .inr (fun e'=>own_own_ne h.e ho h2 k hk e'.symm)
theorem own_kept {w w':World} {base size n base' size' n':Nat} {e e':TypeId} {v v':Value} {xs xs':List Value} (h:w.ownsRow base e size v n xs) (ho:w.ownsRow base' e' size' v' n' xs') (hne:e≠e') (hg:w.grownBy w' v'.ownBlock):w'.ownsRow base e size v n xs:=by
  refine h.kept hg ?_
  cases hk:v.ownBlock with
  | none=>exact .inl rfl
  | some k=>exact .inr (fun e'=>own_own_ne h ho hne k hk e'.symm)
theorem Blk.there9 {w:World} {g n:Nat} {t:TypeId} {cs:Array Value} (h:Blk w g t cs) (hn:cs.size=n):w.there g 0 n:=by
  subst hn
  intro j hj
  refine ⟨?_,h.frozen _⟩
  rw [h.cell,Nat.zero_add,Array.getElem?_eq_getElem hj]
  rfl
theorem Blk.over9 {w:World} {g:Nat} {t:TypeId} {zs:Array Value} (h:Blk w g t zs) (vs:List Value) (hz:zs.size=vs.length):Blk (w.setCells g 0 vs) g t vs.toArray∧Fr (only g) w (w.setCells g 0 vs):=by
  refine ⟨?_,Fr.setCells _ _ _ (Fr.refl _ _) (.inl rfl)⟩
  have h:=Blk.setCells vs 0 _ _ h
  have e:setA zs 0 vs=vs.toArray:=by
    apply Array.ext_getElem?
    intro k
    rcases Nat.lt_or_ge k vs.length with h1 | h1
    · have:=setA_in vs zs 0 k vs[k] (List.getElem?_eq_getElem h1) (by omega)
      rw [Nat.zero_add] at this
      rw [this,List.getElem?_toArray,List.getElem?_eq_getElem h1]
    · rw [Array.getElem?_eq_none (by rw [setA_size];omega),Array.getElem?_eq_none (by simpa using h1)]
  rwa [e] at h
theorem reads_blk9 {w:World} {t:TypeId} {cs:List Value} {b:Nat} (h:Blk w b t cs.toArray):Reads w cs.length (some ⟨b,0,none⟩) 1 cs:=
  ⟨by simp,fun _=>⟨_,rfl,fun j u hu=>by rw [add_lit,Nat.zero_add];exact h.cell' (by simpa using hu)⟩⟩
def Links (ss:List Sl):List Nat→Int→Int→Prop
  | [],s,g=>s=0∧g=0
  | j :: rest,s,g=>s=(j:Int)+1∧∃ y,ss[j]?=some y∧y.used=true∧y.gen=g∧Links ss rest y.R.nslot y.R.ngen
def recOf (ss:List Sl) (j:Nat):Rc:=(ss.getD j Sl.zero).R
def refOf (ss:List Sl) (j:Nat):Int × Int:=((j:Int)+1,(ss.getD j Sl.zero).gen)
theorem slotD {ss:List Sl} {j:Nat} {y:Sl} (h:ss[j]?=some y):ss.getD j Sl.zero=y:=by simp [h]
structure Ch9 (w:World) (bx b:Nat) (cx cb:Array Value) (vl:Value) (nl:Nat) (xl:List Value) (vr:Value) (nr:Nat) (xr:List Value) (Cs:List Cr) (wr:World):Prop where
  l:wr.ownsRow w.heap.size 55 15 vl nl xl
  r:wr.ownsRow w.heap.size 48 2 vr nr xr
  nl:∀ k,vl.ownBlock=some k→k≠b
  nr:∀ k,vr.ownBlock=some k→k≠bx
  bx:Blk wr bx 48 cx
  bt:Blk wr b 55 cb
  own:∀ C ∈ Cs,RecOwn wr 0 C.R (.slice C.A C.R.rows.length C.c) (.slice C.B C.R.ents.length C.d)
  f:Fr none_ w wr
section
variable {w wr w':World} {bx b:Nat} {cx cb:Array Value} {vl:Value} {nl:Nat} {xl:List Value} {vr:Value} {nr:Nat} {xr:List Value} {Cs:List Cr}
theorem Ch9.keep (h:Ch9 w bx b cx cb vl nl xl vr nr xr Cs wr) (hf:Fr none_ wr w'):Ch9 w bx b cx cb vl nl xl vr nr xr Cs w':=
  ⟨own_none h.l hf,own_none h.r hf,h.nl,h.nr,h.bx.fr hf id,h.bt.fr hf id,fun C hC=>(h.own C hC).keep hf,h.f.then_none hf⟩
theorem Ch9.putL (h:Ch9 w bx b cx cb vl nl xl vr nr xr Cs wr) {v':Value} {m:Nat} {ys:List Value} (ho:w'.ownsRow w.heap.size 55 15 v' (nl+m) (xl ++ ys)) (hg:wr.grownBy w' vl.ownBlock) (hat:v'.ownBlock=vl.ownBlock∨v'.ownBlock=some wr.heap.size):Ch9 w bx b cx cb v' (nl+m) (xl ++ ys) vr nr xr Cs w':=
  ⟨ho,own_kept h.r h.l (by decide) hg,fun k hk=>by
      rcases hat with e | e
      · exact h.nl k (e ▸ hk)
      · have h1:=h.bt.lt
        have:wr.heap.size=k:=Option.some.inj (e.symm.trans hk)
        omega,h.nr,h.bx.grown hg (fun e=>own_blk_ne h.l h.bx (by decide) e.symm),h.bt.grown hg (fun e=>h.nl b e.symm rfl),fun C hC=>(h.own C hC).grown h.l (by decide) (by decide) hg,h.f.grown hg (fun k hk=>.inr (h.l.lt k hk).1)⟩
theorem Ch9.putR (h:Ch9 w bx b cx cb vl nl xl vr nr xr Cs wr) {v':Value} {m:Nat} {ys:List Value} (ho:w'.ownsRow w.heap.size 48 2 v' (nr+m) (xr ++ ys)) (hg:wr.grownBy w' vr.ownBlock) (hat:v'.ownBlock=vr.ownBlock∨v'.ownBlock=some wr.heap.size):Ch9 w bx b cx cb vl nl xl v' (nr+m) (xr ++ ys) Cs w':=
  ⟨own_kept h.l h.r (by decide) hg,ho,h.nl,fun k hk=>by
      rcases hat with e | e
      · exact h.nr k (e ▸ hk)
      · have h1:=h.bx.lt
        have:wr.heap.size=k:=Option.some.inj (e.symm.trans hk)
        omega,h.bx.grown hg (fun e=>h.nr bx e.symm rfl),h.bt.grown hg (fun e=>own_blk_ne h.r h.bt (by decide) e.symm),fun C hC=>(h.own C hC).grown h.r (by decide) (by decide) hg,h.f.grown hg (fun k hk=>.inr (h.r.lt k hk).1)⟩
end
def lenOf:Value→Nat
  | .slice _ n _=>n
  | _=>0
def ChainPost (ss:List Sl) (js:List Nat) (w:World) (e:Ending) (w':World):Prop:=
  ∃ (A:Option Addr) (c:Nat) (B:Option Addr) (d:Nat) (Cs:List Cr),e=.returned (.tuple #[.slice A js.length c,.slice B js.length d,.nilIface])∧Cs.map (·.R)=js.map (recOf ss)∧w'.ownsRow w.heap.size 55 15 (.slice A js.length c) js.length (crFlat Cs)∧w'.ownsRow w.heap.size 48 2 (.slice B js.length d) js.length (rf9Flat (js.map (refOf ss)))∧(∀ C ∈ Cs,RecOwn w' 0 C.R (.slice C.A C.R.rows.length C.c) (.slice C.B C.R.ents.length C.d))∧Fr none_ w w'
structure ChL (w:World) (ss:List Sl) (js:List Nat) (bx:Nat) (pre rest:List Nat) (s g:Int) (A:Option Addr) (c:Nat) (B:Option Addr) (d:Nat) (Cs:List Cr) (wr:World):Prop where
  eq:js=pre ++ rest
  li:Links ss rest s g
  l:wr.ownsRow w.heap.size 55 15 (.slice A pre.length c) pre.length (crFlat Cs)
  r:wr.ownsRow w.heap.size 48 2 (.slice B pre.length d) pre.length (rf9Flat (pre.map (refOf ss)))
  nr:∀ k,(Value.slice B pre.length d).ownBlock=some k→k≠bx
  bx:Blk wr bx 48 #[.int .i64 s,.int .i64 g]
  cs:Cs.map (·.R)=pre.map (recOf ss)
  own:∀ C ∈ Cs,RecOwn wr 0 C.R (.slice C.A C.R.rows.length C.c) (.slice C.B C.R.ents.length C.d)
  f:Fr none_ w wr
set_option maxHeartbeats 16000000 in
theorem chain_ok {m:Nat} {k:Int} {l:Lm} {x:St} (w:World) (h:Mm w m k l x) (pg:Nat) (s0 g0:Int) (hp:x.ps[pg]?=some (true,s0,g0)) (js:List Nat) (hj:Links x.ss js s0 g0) (hl:js.length≤l.s) (hl2:l.s≤4096) :
  Calls Tryz.prog 23 #[.pointer (some ⟨m,0,none⟩),.int .i64 (pg:Int)] w (ChainPost x.ss js w):=by
 have H:=hid_ h
 have HJ:=hid_ hj
 obtain ⟨i0,hi0,hz0,hs0,hb0⟩:=info_parts rec_info9
 have Hi:=hid_ (And.intro hi0 (And.intro hz0 (And.intro hs0 hb0)))
 obtain ⟨j0,hj0,hy0,ht0,hc0⟩:=info_parts ref_info9
 have Hj:=hid_ (And.intro hj0 (And.intro hy0 (And.intro ht0 hc0)))
 have m8:w.cell? ⟨m,8,none⟩=some (.pointer (some ⟨x.T,0,none⟩)):=h.b.cell' rfl
 clear hi0 hz0 hs0 hb0 hj0 hy0 ht0 hc0 h hj
 go_enter Tryz.func23,Tryz.ntmps23
 go_wp2_with fail
 refine (head_ok x.T x.H x.ps pg s0 g0 _ H.out.tb hp).mono ?_
 rintro e w1 ⟨rfl,hf1⟩
 have F1:=hid_ hf1
 have hsw1:=hf1.size
 clear hf1 m8
 go_upto_region 4 with fail
 obtain ⟨w2,hw2⟩:∃ z,z=w1.alloc (.cells #[.int .i64 s0,.int .i64 g0] 48):=⟨_,rfl⟩
 have fw2:Fr none_ w1 w2:=by rw [hw2];exact (Fr.refl none_ w1).alloc _
 have BX:Hid (Blk w2 w1.heap.size 48 (#[.int .i64 s0,.int .i64 g0])):=hid_ (by rw [hw2];exact Blk.new w1 _ _)
 replace F1:=hid_ (F1.out.then_none fw2)
 change Code.wp _ _ _ _ (w1.alloc (.cells #[.int .i64 s0,.int .i64 g0] 48))
 rw [← hw2]
 clear hw2 fw2
 have hsz2:=F1.out.size
 have hbx:=BX.out.lt
 have hw1:w1.heap.size < w2.heap.size:=hbx
 go_wp2_with fail
 go_loopw [9,10] (fun u v wr=>∃ (pre rest:List Nat) (s g:Int) (A:Option Addr) (c:Nat) (B:Option Addr) (d:Nat) (Cs:List Cr),u=.slice A pre.length c∧v=.slice B pre.length d∧ChL w x.ss js w1.heap.size pre rest s g A c B d Cs wr) (fun u _ _=>js.length - lenOf u)
 case atStart=>exact ⟨[],js,s0,g0,none,0,none,0,[],rfl,rfl,⟨rfl,HJ.out,World.ownsRow_nil _ _ _ _,World.ownsRow_nil _ _ _ _,(fun k hk=>by simp [Value.ownBlock] at hk),BX.out,rfl,(fun C hC=>by cases hC),F1.out⟩⟩
 case round =>
  obtain ⟨pre,rest,s,g,A,c,B,d,Cs,rfl,rfl,hR⟩:=hrel
  have HR:=hid_ hR
  have hjl:js.length=pre.length+rest.length:=by rw [hR.eq];simp
  have x0:wr.cell? ⟨w1.heap.size,0,none⟩=some (.int .i64 s):=hR.bx.cell' rfl
  have x1:wr.cell? ⟨w1.heap.size,1,none⟩=some (.int .i64 g):=hR.bx.cell' rfl
  have hq:=neq_ref
  have hli:=hR.li
  clear hR
  cases rest with
  | nil =>
   obtain ⟨rfl,rfl⟩:=hli
   go_wp2_with fail
   have heq:js=pre:=by have:=HR.out.eq;simpa using this
   subst heq
   go_ret3
   exact ⟨A,c,B,d,Cs,rfl,HR.out.cs,HR.out.l,HR.out.r,HR.out.own,HR.out.f⟩
  | cons j rest =>
   obtain ⟨rfl,y,hy,hu,hg,hli'⟩:=hli
   have HY:=hid_ (And.intro hy (And.intro hu (And.intro hg hli')))
   have d0:(((j:Int)+1)==0)=false:=by simp;omega
   have hne:((pre.length:Int)==(l.s:Int))=false:=by simp at hjl ⊢;omega
   have M1:=hid_ (H.out.keep HR.out.f)
   have m1:wr.cell? ⟨m,1,none⟩=some (.int .i64 (l.s:Int)):=M1.out.b.cell' rfl
   clear hy hu hg hli'
   go_upto_region 11 with fail
   clear m1
   have m7:wr.cell? ⟨m,7,none⟩=some (.pointer (some ⟨x.a,0,none⟩)):=M1.out.b.cell' rfl
   go_cut [11,12] (fun u v wq=>∃ (b:Nat) (C:Cr),u=.pointer (some ⟨b,0,none⟩)∧v=.nilIface∧wr.heap.size≤b∧C.R=y.R∧Blk wq b 55 (crA C)∧RecOwn wq 0 C.R (.slice C.A C.R.rows.length C.c) (.slice C.B C.R.ents.length C.d)∧Fr none_ wr wq)
   case first =>
    have hS1:(fun w':World=>Fr none_ wr w') wr.drew:=(Fr.refl none_ wr).drew
    refine wp_region_U (m:=12) (S:=fun w':World=>Fr none_ wr w') (by kernel_rfl) ?_
    refine wpAnyU_take2 (i:=0) (v:=_) rfl (by kernel_rfl) (by kernel_rfl) (by kernel_rfl) (by kernel_rfl) (fun _ _ _ h=>h) (.inl ⟨by kernel_rfl,fun w' hS=>by go_simp;rfl⟩) hS1 ?_
    refine wpAnyU_take2 (i:=1) (v:=_) rfl (by kernel_rfl) (by kernel_rfl) (by kernel_rfl) (by kernel_rfl) (fun _ _ _ h=>h) (.inl ⟨by kernel_rfl,fun w' hS=>by go_simp;rfl⟩) hS1 ?_
    refine wpAnyU_take2 (i:=2) (v:=_) rfl (by kernel_rfl) (by kernel_rfl) (by kernel_rfl) (by kernel_rfl) (fun _ _ _ h=>h) (.inl ⟨by kernel_rfl,fun w' hS=>by go_simp;rfl⟩) hS1 ?_
    refine wpAnyU_take2 (i:=3) (v:=_) rfl (by kernel_rfl) (by kernel_rfl) (by kernel_rfl) (by kernel_rfl) (fun _ _ _ h=>h) (.inl ⟨by kernel_rfl,fun w' hS=>by have s_7:=cellFr m7 hS;go_simp;rfl⟩) hS1 ?_
    refine wpAnyU_take2 (i:=4) (v:=_) rfl (by kernel_rfl) (by kernel_rfl) (by kernel_rfl) (by kernel_rfl) (fun _ _ _ h=>h) (.inl ⟨by kernel_rfl,fun w' hS=>by have s_0:=cellFr x0 hS;have s_1:=cellFr x1 hS;go_simp;rfl⟩) hS1 ?_
    clear m7 x0 x1
    refine wpAnyU_two (i:=5) (j:=9) rfl rfl rfl rfl (by kernel_rfl) ?_ ?_
    ·go_simp
     refine (load_ok ((j:Int)+1) g (M1.out.ar.keep (Fr.refl none_ wr).drew) HY.out.1 rfl HY.out.2.1 HY.out.2.2.1).mono ?_
     rintro e w3 ⟨A2,c2,B2,d2,rfl,ho2,hf2⟩
     have fS:=(Fr.refl none_ wr).drew.then_none hf2
     have RO:=hid_ ho2
     refine ⟨fS,?_⟩
     have hb:wr.heap.size≤w3.heap.size:=fS.size
     clear ho2 hf2 hS1
     refine wpAnyU_take2 (i:=6) (v:=_) rfl (by kernel_rfl) (by kernel_rfl) (by kernel_rfl) (by kernel_rfl) (fun _ _ _ h=>h) (.inl ⟨by kernel_rfl,fun w' hS=>by go_simp;rfl⟩) fS ?_
     refine wpAnyU_take2 (i:=7) (v:=_) rfl (by kernel_rfl) (by kernel_rfl) (by kernel_rfl) (by kernel_rfl) (fun _ _ _ h=>h) (.inl ⟨by kernel_rfl,fun w' hS=>by go_simp;rfl⟩) fS ?_
     refine wpAnyU_take2 (i:=8) (v:=_) rfl (by kernel_rfl) (by kernel_rfl) (by kernel_rfl) (by kernel_rfl) (fun _ _ _ h=>h) (.inl ⟨by kernel_rfl,fun w' hS=>by go_simp;rfl⟩) fS ?_
     refine wpAnyU_oneW (i:=9) rfl (by kernel_rfl) (by kernel_rfl) ?_
     go_simp
     refine ⟨fS.alloc _,?_⟩
     obtain ⟨w4,hw4⟩:∃ z,z=w3.alloc (.cells recZ 55):=⟨_,rfl⟩
     have f4:Fr none_ w3 w4:=by rw [hw4];exact (Fr.refl none_ w3).alloc _
     have BT:Hid (Blk w4 w3.heap.size 55 recZ):=hid_ (by rw [hw4];exact Blk.new w3 _ _)
     replace RO:=hid_ (RO.out.keep f4)
     replace fS:=fS.then_none f4
     change wpAnyU _ _ _ _ _ _ _ _ _ (w3.alloc (.cells recZ 55))
     rw [← hw4]
     clear hw4 f4
     refine wpAnyU_oneW (i:=10) rfl (by kernel_rfl) (by kernel_rfl) ?_
     refine wp_store_mid 55 (.tmp 11) (.tmp 49) rfl w3.heap.size 0 (crA ⟨y.R,A2,c2,B2,d2⟩) rfl rfl (BT.out.there9 rfl) rec_size (by simp [Value.oneCell']) ?_
     obtain ⟨w5,hw5⟩:∃ z,z=w4.setCells (w3.heap.size) 0 (crA ⟨y.R,A2,c2,B2,d2⟩).toList:=⟨_,rfl⟩
     have ov:=BT.out.over9 (crA ⟨y.R,A2,c2,B2,d2⟩).toList rfl
     rw [← hw5] at ov
     have fS5:=fS.then_only ov.2 (.inr hb)
     have OV:=hid_ (And.intro (show Blk w5 (w3.heap.size) 55 (crA ⟨y.R,A2,c2,B2,d2⟩) from ov.1) (RO.out.only ov.2 BT.out (by decide) (by decide)))
     refine ⟨.inr (by rw [← hw5];exact fS5),?_⟩
     change wpAnyU _ _ _ _ _ _ _ _ _ (w4.setCells (w3.heap.size) 0 (crA ⟨y.R,A2,c2,B2,d2⟩).toList)
     rw [← hw5]
     clear hw5 ov
     refine wpAnyU_take2 (i:=11) (v:=_) rfl (by kernel_rfl) (by kernel_rfl) (by kernel_rfl) (by kernel_rfl) (fun _ _ _ h=>h) (.inl ⟨by kernel_rfl,fun w' hS=>by go_simp;rfl⟩) fS5 ?_
     refine wpAnyU_done (by kernel_rfl) ?_ _
     go_wp2_with fail
     go_meet
     exact ⟨_,⟨y.R,A2,c2,B2,d2⟩,rfl,rfl,hb,rfl,OV.out.1,OV.out.2.base (Nat.zero_le _),fS5⟩
    ·go_simp
     refine ⟨((Fr.refl none_ wr).alloc _).drew,?_⟩
     obtain ⟨w3,hw3⟩:∃ z,z=(wr.alloc (.cells recZ 55)).drew:=⟨_,rfl⟩
     have f3:Fr none_ wr w3:=by rw [hw3];exact ((Fr.refl none_ wr).alloc _).drew
     have BT:Hid (Blk w3 wr.heap.size 55 recZ):=hid_ (by rw [hw3];exact (Blk.new wr _ _).drew)
     change wpAnyU _ _ _ _ _ _ _ _ _ ((wr.alloc (.cells recZ 55)).drew)
     rw [← hw3]
     clear hw3 hS1
     refine wpAnyU_oneW (i:=5) rfl (by kernel_rfl) (by kernel_rfl) ?_
     go_simp
     refine (load_ok ((j:Int)+1) g (M1.out.ar.keep f3) HY.out.1 rfl HY.out.2.1 HY.out.2.2.1).mono ?_
     rintro e w4 ⟨A2,c2,B2,d2,rfl,ho2,hf2⟩
     have fS:=f3.then_none hf2
     have RO:=hid_ ho2
     refine ⟨fS,?_⟩
     have hb:wr.heap.size≤wr.heap.size:=Nat.le_refl _
     replace BT:=hid_ (BT.out.fr hf2 id)
     clear ho2 hf2 f3
     refine wpAnyU_take2 (i:=6) (v:=_) rfl (by kernel_rfl) (by kernel_rfl) (by kernel_rfl) (by kernel_rfl) (fun _ _ _ h=>h) (.inl ⟨by kernel_rfl,fun w' hS=>by go_simp;rfl⟩) fS ?_
     refine wpAnyU_take2 (i:=7) (v:=_) rfl (by kernel_rfl) (by kernel_rfl) (by kernel_rfl) (by kernel_rfl) (fun _ _ _ h=>h) (.inl ⟨by kernel_rfl,fun w' hS=>by go_simp;rfl⟩) fS ?_
     refine wpAnyU_take2 (i:=8) (v:=_) rfl (by kernel_rfl) (by kernel_rfl) (by kernel_rfl) (by kernel_rfl) (fun _ _ _ h=>h) (.inl ⟨by kernel_rfl,fun w' hS=>by go_simp;rfl⟩) fS ?_
     refine wpAnyU_oneW (i:=10) rfl (by kernel_rfl) (by kernel_rfl) ?_
     refine wp_store_mid 55 (.tmp 11) (.tmp 49) rfl wr.heap.size 0 (crA ⟨y.R,A2,c2,B2,d2⟩) rfl rfl (BT.out.there9 rfl) rec_size (by simp [Value.oneCell']) ?_
     obtain ⟨w5,hw5⟩:∃ z,z=w4.setCells (wr.heap.size) 0 (crA ⟨y.R,A2,c2,B2,d2⟩).toList:=⟨_,rfl⟩
     have ov:=BT.out.over9 (crA ⟨y.R,A2,c2,B2,d2⟩).toList rfl
     rw [← hw5] at ov
     have fS5:=fS.then_only ov.2 (.inr hb)
     have OV:=hid_ (And.intro (show Blk w5 (wr.heap.size) 55 (crA ⟨y.R,A2,c2,B2,d2⟩) from ov.1) (RO.out.only ov.2 BT.out (by decide) (by decide)))
     refine ⟨.inr (by rw [← hw5];exact fS5),?_⟩
     change wpAnyU _ _ _ _ _ _ _ _ _ (w4.setCells (wr.heap.size) 0 (crA ⟨y.R,A2,c2,B2,d2⟩).toList)
     rw [← hw5]
     clear hw5 ov
     refine wpAnyU_take2 (i:=11) (v:=_) rfl (by kernel_rfl) (by kernel_rfl) (by kernel_rfl) (by kernel_rfl) (fun _ _ _ h=>h) (.inl ⟨by kernel_rfl,fun w' hS=>by go_simp;rfl⟩) fS5 ?_
     refine wpAnyU_done (by kernel_rfl) ?_ _
     go_wp2_with fail
     go_meet
     exact ⟨_,⟨y.R,A2,c2,B2,d2⟩,rfl,rfl,hb,rfl,OV.out.1,OV.out.2.base (Nat.zero_le _),fS5⟩
   case rest =>
    obtain ⟨b,C,rfl,rfl,hb,hCR,hbt,hown,hf11⟩:=hcut
    have F0:=hid_ (HR.out.f.then_none hf11)
    have hlb:∀ k,(Value.slice A pre.length c).ownBlock=some k→k≠b:=fun k hk=>by have:=(HR.out.l.lt k hk).2;omega
    have P0:Hid (Ch9 w w1.heap.size b #[.int .i64 ((j:Int)+1),.int .i64 g] (crA C) (.slice A pre.length c) pre.length (crFlat Cs) (.slice B pre.length d) pre.length (rf9Flat (pre.map (refOf x.ss))) Cs wc):=hid_ ⟨own_none HR.out.l hf11,own_none HR.out.r hf11,hlb,HR.out.nr,HR.out.bx.fr hf11 id,hbt,fun C hC=>(HR.out.own C hC).keep hf11,F0.out⟩
    have NW:=hid_ hown
    have HC:=hid_ hCR
    clear hbt hown hf11 hlb F0 m7 x0 x1 M1 hCR
    go_upto_region 14 with fail
    go_cut [9,10] (fun u v wq=>∃ (A':Option Addr) (c':Nat) (B':Option Addr) (d':Nat),u=.slice A' (pre.length+1) c'∧v=.slice B' (pre.length+1) d'∧Ch9 w w1.heap.size b #[.int .i64 ((j:Int)+1),.int .i64 g] (crA C) (.slice A' (pre.length+1) c') (pre.length+1) (crFlat Cs ++ (crA C).toList) (.slice B' (pre.length+1) d') (pre.length+1) (rf9Flat (pre.map (refOf x.ss)) ++ [.int .i64 ((j:Int)+1),.int .i64 g]) Cs wq∧RecOwn wq 0 C.R (.slice C.A C.R.rows.length C.c) (.slice C.B C.R.ents.length C.d))
    case first =>
     have hS1:(fun w':World=>Blk w' b 55 (crA C)∧Blk w' w1.heap.size 48 #[.int .i64 ((j:Int)+1),.int .i64 g]) wc.drew:=⟨P0.out.bt.drew,P0.out.bx.drew⟩
     refine wp_region_U (m:=10) (S:=(fun w':World=>Blk w' b 55 (crA C)∧Blk w' w1.heap.size 48 #[.int .i64 ((j:Int)+1),.int .i64 g])) (by kernel_rfl) ?_
     refine wpAnyU_take2 (i:=0) (v:=_) rfl (by kernel_rfl) (by kernel_rfl) (by kernel_rfl) (by kernel_rfl) (fun _ _ _ h=>h) (.inl ⟨by kernel_rfl,fun w' hS=>by go_simp;rfl⟩) hS1 ?_
     refine wpAnyU_take2 (i:=1) (v:=_) rfl (by kernel_rfl) (by kernel_rfl) (by kernel_rfl) (by kernel_rfl) (fun _ _ _ h=>h) (.inl ⟨by kernel_rfl,fun w' hS=>by have s_0:w'.cell? ⟨b,0,none⟩=some (.int .i64 C.R.kind):=hS.1.cell' rfl;have s_1:w'.cell? ⟨b,1,none⟩=some (.string C.R.low):=hS.1.cell' rfl;have s_2:w'.cell? ⟨b,2,none⟩=some (.string C.R.high):=hS.1.cell' rfl;have s_3:w'.cell? ⟨b,3,none⟩=some (.bool C.R.unb):=hS.1.cell' rfl;have s_4:w'.cell? ⟨b,4,none⟩=some (.int .i64 C.R.right):=hS.1.cell' rfl;have s_5:w'.cell? ⟨b,5,none⟩=some (.slice C.A C.R.rows.length C.c):=hS.1.cell' rfl;have s_6:w'.cell? ⟨b,6,none⟩=some (.slice C.B C.R.ents.length C.d):=hS.1.cell' rfl;have s_7:w'.cell? ⟨b,7,none⟩=some (.string C.R.key):=hS.1.cell' rfl;have s_8:w'.cell? ⟨b,8,none⟩=some (.string C.R.val):=hS.1.cell' rfl;have s_9:w'.cell? ⟨b,9,none⟩=some (.int .i64 C.R.page):=hS.1.cell' rfl;have s_10:w'.cell? ⟨b,10,none⟩=some (.int .i64 C.R.hpage):=hS.1.cell' rfl;have s_11:w'.cell? ⟨b,11,none⟩=some (.int .i64 C.R.hleft):=hS.1.cell' rfl;have s_12:w'.cell? ⟨b,12,none⟩=some (.string C.R.hkey):=hS.1.cell' rfl;have s_13:w'.cell? ⟨b,13,none⟩=some (.int .i64 C.R.nslot):=hS.1.cell' rfl;have s_14:w'.cell? ⟨b,14,none⟩=some (.int .i64 C.R.ngen):=hS.1.cell' rfl;go_simp;rfl⟩) hS1 ?_
     refine wpAnyU_take2 (i:=4) (v:=_) rfl (by kernel_rfl) (by kernel_rfl) (by kernel_rfl) (by kernel_rfl) (fun _ _ _ h=>h) (.inl ⟨by kernel_rfl,fun w' hS=>by go_simp;rfl⟩) hS1 ?_
     refine wpAnyU_take2 (i:=5) (v:=_) rfl (by kernel_rfl) (by kernel_rfl) (by kernel_rfl) (by kernel_rfl) (fun _ _ _ h=>h) (.inl ⟨by kernel_rfl,fun w' hS=>by have s_0:w'.cell? ⟨w1.heap.size,0,none⟩=some (.int .i64 ((j:Int)+1)):=hS.2.cell' rfl;have s_1:w'.cell? ⟨w1.heap.size,1,none⟩=some (.int .i64 g):=hS.2.cell' rfl;go_simp;rfl⟩) hS1 ?_
     replace P0:=hid_ (P0.out.keep (Fr.refl none_ wc).drew)
     replace NW:=hid_ (NW.out.keep (Fr.refl none_ wc).drew)
     obtain ⟨we,hwe⟩:∃ z,z=wc.drew:=⟨_,rfl⟩
     rw [← hwe] at P0 NW hS1
     change wpAnyU _ _ _ _ _ _ _ _ _ wc.drew
     rw [← hwe]
     clear hwe hS1
     refine wpAnyU_two (i:=2) (j:=6) rfl rfl rfl rfl (by kernel_rfl) ?_ ?_
     ·skip
      go_simp
      obtain ⟨wb1,hz⟩:∃ z,z=we.alloc (.cells #[.int .i64 C.R.kind,.string C.R.low,.string C.R.high,.bool C.R.unb,.int .i64 C.R.right,.slice C.A C.R.rows.length C.c,.slice C.B C.R.ents.length C.d,.string C.R.key,.string C.R.val,.int .i64 C.R.page,.int .i64 C.R.hpage,.int .i64 C.R.hleft,.string C.R.hkey,.int .i64 C.R.nslot,.int .i64 C.R.ngen] 55):=⟨_,rfl⟩
      have fz:Fr none_ we wb1:=by rw [hz];exact (Fr.refl none_ we).alloc _
      have PL:Hid (Blk wb1 we.heap.size 55 #[.int .i64 C.R.kind,.string C.R.low,.string C.R.high,.bool C.R.unb,.int .i64 C.R.right,.slice C.A C.R.rows.length C.c,.slice C.B C.R.ents.length C.d,.string C.R.key,.string C.R.val,.int .i64 C.R.page,.int .i64 C.R.hpage,.int .i64 C.R.hleft,.string C.R.hkey,.int .i64 C.R.nslot,.int .i64 C.R.ngen]):=hid_ (by rw [hz];exact Blk.new we _ _)
      replace P0:=hid_ (P0.out.keep fz)
      replace NW:=hid_ (NW.out.keep fz)
      rw [← hz]
      refine ⟨⟨P0.out.bt,P0.out.bx⟩,?_⟩
      clear hz fz
      refine wpAnyU_two (i:=3) (j:=6) rfl rfl rfl rfl (by kernel_rfl) ?_ ?_
      ·skip
       skip -- 3
       refine wp_append_at _ (.tmp 57) (.tmp 59) 49 rfl w.heap.size 55 i0 _ 15 192 Tryz.underlying49 Hi.out.1 Hi.out.2.1 Hi.out.2.2.1 Hi.out.2.2.2 rfl (by omega) _ _ _ rfl P0.out.l (some ⟨we.heap.size,0,none⟩) 1 1 (crA C).toList rfl (reads_blk9 PL.out) (cr_one C) (by simp only [maxLen];omega) (by omega) P0.out.f.size ?_
       intro v2 wp2 hown hgr hat
       replace NW:=hid_ (NW.out.grown P0.out.l (by decide) (by decide) hgr)
       replace P0:=hid_ (P0.out.putL hown hgr hat)
       refine ⟨.inr ⟨P0.out.bt,P0.out.bx⟩,?_⟩
       clear hown hgr hat
       refine wpAnyU_oneW (i:=6) rfl (by kernel_rfl) (by kernel_rfl) ?_
       go_simp
       obtain ⟨wb3,hz⟩:∃ z,z=wp2.alloc (.cells #[.int .i64 ((j:Int)+1),.int .i64 g] 48):=⟨_,rfl⟩
       have fz:Fr none_ wp2 wb3:=by rw [hz];exact (Fr.refl none_ wp2).alloc _
       have PR:Hid (Blk wb3 wp2.heap.size 48 #[.int .i64 ((j:Int)+1),.int .i64 g]):=hid_ (by rw [hz];exact Blk.new wp2 _ _)
       replace P0:=hid_ (P0.out.keep fz)
       replace NW:=hid_ (NW.out.keep fz)
       rw [← hz]
       refine ⟨⟨P0.out.bt,P0.out.bx⟩,?_⟩
       clear hz fz
       refine wpAnyU_oneW (i:=7) rfl (by kernel_rfl) (by kernel_rfl) ?_
       refine wp_append_at _ (.tmp 61) (.tmp 63) 66 rfl w.heap.size 48 j0 _ 2 16 Tryz.underlying66 Hj.out.1 Hj.out.2.1 Hj.out.2.2.1 Hj.out.2.2.2 rfl (by omega) _ _ _ rfl P0.out.r (some ⟨wp2.heap.size,0,none⟩) 1 1 [.int .i64 ((j:Int)+1),.int .i64 g] rfl (reads_blk9 PR.out) (by simp [Value.oneCell']) (by simp only [maxLen];omega) (by omega) P0.out.f.size ?_
       intro v4 wp4 hown hgr hat
       replace NW:=hid_ (NW.out.grown P0.out.r (by decide) (by decide) hgr)
       replace P0:=hid_ (P0.out.putR hown hgr hat)
       refine ⟨.inr ⟨P0.out.bt,P0.out.bx⟩,?_⟩
       clear hown hgr hat
       have hS2:(fun w':World=>Blk w' b 55 (crA C)∧Blk w' w1.heap.size 48 #[.int .i64 ((j:Int)+1),.int .i64 g]) wp4:=⟨P0.out.bt,P0.out.bx⟩
       obtain ⟨A',c',e1⟩:=P0.out.l.shape
       obtain ⟨B',d',e2⟩:=P0.out.r.shape
       subst e1
       subst e2
       refine wpAnyU_take2 (i:=8) (v:=_) rfl (by kernel_rfl) (by kernel_rfl) (by kernel_rfl) (by kernel_rfl) (fun _ _ _ h=>h) (.inl ⟨by kernel_rfl,fun w' hS=>by go_simp;rfl⟩) hS2 ?_
       refine wpAnyU_take2 (i:=9) (v:=_) rfl (by kernel_rfl) (by kernel_rfl) (by kernel_rfl) (by kernel_rfl) (fun _ _ _ h=>h) (.inl ⟨by kernel_rfl,fun w' hS=>by go_simp;rfl⟩) hS2 ?_
       refine wpAnyU_done (by kernel_rfl) ?_ _
       go_wp2_with fail
       go_meet
       exact ⟨A',c',B',d',rfl,rfl,P0.out,NW.out⟩
      ·skip
       go_simp
       obtain ⟨wb5,hz⟩:∃ z,z=wb1.alloc (.cells #[.int .i64 ((j:Int)+1),.int .i64 g] 48):=⟨_,rfl⟩
       have fz:Fr none_ wb1 wb5:=by rw [hz];exact (Fr.refl none_ wb1).alloc _
       have PR:Hid (Blk wb5 wb1.heap.size 48 #[.int .i64 ((j:Int)+1),.int .i64 g]):=hid_ (by rw [hz];exact Blk.new wb1 _ _)
       replace PL:=hid_ (PL.out.fr fz id)
       replace P0:=hid_ (P0.out.keep fz)
       replace NW:=hid_ (NW.out.keep fz)
       rw [← hz]
       refine ⟨⟨P0.out.bt,P0.out.bx⟩,?_⟩
       clear hz fz
       refine wpAnyU_oneW (i:=3) rfl (by kernel_rfl) (by kernel_rfl) ?_
       refine wp_append_at _ (.tmp 57) (.tmp 59) 49 rfl w.heap.size 55 i0 _ 15 192 Tryz.underlying49 Hi.out.1 Hi.out.2.1 Hi.out.2.2.1 Hi.out.2.2.2 rfl (by omega) _ _ _ rfl P0.out.l (some ⟨we.heap.size,0,none⟩) 1 1 (crA C).toList rfl (reads_blk9 PL.out) (cr_one C) (by simp only [maxLen];omega) (by omega) P0.out.f.size ?_
       intro v6 wp6 hown hgr hat
       replace PR:=hid_ (PR.out.grown hgr (Ne.symm (own_blk_ne P0.out.l PR.out (by decide))))
       replace NW:=hid_ (NW.out.grown P0.out.l (by decide) (by decide) hgr)
       replace P0:=hid_ (P0.out.putL hown hgr hat)
       refine ⟨.inr ⟨P0.out.bt,P0.out.bx⟩,?_⟩
       clear hown hgr hat
       refine wpAnyU_oneW (i:=7) rfl (by kernel_rfl) (by kernel_rfl) ?_
       refine wp_append_at _ (.tmp 61) (.tmp 63) 66 rfl w.heap.size 48 j0 _ 2 16 Tryz.underlying66 Hj.out.1 Hj.out.2.1 Hj.out.2.2.1 Hj.out.2.2.2 rfl (by omega) _ _ _ rfl P0.out.r (some ⟨wb1.heap.size,0,none⟩) 1 1 [.int .i64 ((j:Int)+1),.int .i64 g] rfl (reads_blk9 PR.out) (by simp [Value.oneCell']) (by simp only [maxLen];omega) (by omega) P0.out.f.size ?_
       intro v7 wp7 hown hgr hat
       replace NW:=hid_ (NW.out.grown P0.out.r (by decide) (by decide) hgr)
       replace P0:=hid_ (P0.out.putR hown hgr hat)
       refine ⟨.inr ⟨P0.out.bt,P0.out.bx⟩,?_⟩
       clear hown hgr hat
       have hS2:(fun w':World=>Blk w' b 55 (crA C)∧Blk w' w1.heap.size 48 #[.int .i64 ((j:Int)+1),.int .i64 g]) wp7:=⟨P0.out.bt,P0.out.bx⟩
       obtain ⟨A',c',e1⟩:=P0.out.l.shape
       obtain ⟨B',d',e2⟩:=P0.out.r.shape
       subst e1
       subst e2
       refine wpAnyU_take2 (i:=8) (v:=_) rfl (by kernel_rfl) (by kernel_rfl) (by kernel_rfl) (by kernel_rfl) (fun _ _ _ h=>h) (.inl ⟨by kernel_rfl,fun w' hS=>by go_simp;rfl⟩) hS2 ?_
       refine wpAnyU_take2 (i:=9) (v:=_) rfl (by kernel_rfl) (by kernel_rfl) (by kernel_rfl) (by kernel_rfl) (fun _ _ _ h=>h) (.inl ⟨by kernel_rfl,fun w' hS=>by go_simp;rfl⟩) hS2 ?_
       refine wpAnyU_done (by kernel_rfl) ?_ _
       go_wp2_with fail
       go_meet
       exact ⟨A',c',B',d',rfl,rfl,P0.out,NW.out⟩
     ·skip
      go_simp
      obtain ⟨wb8,hz⟩:∃ z,z=we.alloc (.cells #[.int .i64 ((j:Int)+1),.int .i64 g] 48):=⟨_,rfl⟩
      have fz:Fr none_ we wb8:=by rw [hz];exact (Fr.refl none_ we).alloc _
      have PR:Hid (Blk wb8 we.heap.size 48 #[.int .i64 ((j:Int)+1),.int .i64 g]):=hid_ (by rw [hz];exact Blk.new we _ _)
      replace P0:=hid_ (P0.out.keep fz)
      replace NW:=hid_ (NW.out.keep fz)
      rw [← hz]
      refine ⟨⟨P0.out.bt,P0.out.bx⟩,?_⟩
      clear hz fz
      refine wpAnyU_oneW (i:=2) rfl (by kernel_rfl) (by kernel_rfl) ?_
      go_simp
      obtain ⟨wb9,hz⟩:∃ z,z=wb8.alloc (.cells #[.int .i64 C.R.kind,.string C.R.low,.string C.R.high,.bool C.R.unb,.int .i64 C.R.right,.slice C.A C.R.rows.length C.c,.slice C.B C.R.ents.length C.d,.string C.R.key,.string C.R.val,.int .i64 C.R.page,.int .i64 C.R.hpage,.int .i64 C.R.hleft,.string C.R.hkey,.int .i64 C.R.nslot,.int .i64 C.R.ngen] 55):=⟨_,rfl⟩
      have fz:Fr none_ wb8 wb9:=by rw [hz];exact (Fr.refl none_ wb8).alloc _
      have PL:Hid (Blk wb9 wb8.heap.size 55 #[.int .i64 C.R.kind,.string C.R.low,.string C.R.high,.bool C.R.unb,.int .i64 C.R.right,.slice C.A C.R.rows.length C.c,.slice C.B C.R.ents.length C.d,.string C.R.key,.string C.R.val,.int .i64 C.R.page,.int .i64 C.R.hpage,.int .i64 C.R.hleft,.string C.R.hkey,.int .i64 C.R.nslot,.int .i64 C.R.ngen]):=hid_ (by rw [hz];exact Blk.new wb8 _ _)
      replace PR:=hid_ (PR.out.fr fz id)
      replace P0:=hid_ (P0.out.keep fz)
      replace NW:=hid_ (NW.out.keep fz)
      rw [← hz]
      refine ⟨⟨P0.out.bt,P0.out.bx⟩,?_⟩
      clear hz fz
      refine wpAnyU_oneW (i:=3) rfl (by kernel_rfl) (by kernel_rfl) ?_
      refine wp_append_at _ (.tmp 57) (.tmp 59) 49 rfl w.heap.size 55 i0 _ 15 192 Tryz.underlying49 Hi.out.1 Hi.out.2.1 Hi.out.2.2.1 Hi.out.2.2.2 rfl (by omega) _ _ _ rfl P0.out.l (some ⟨wb8.heap.size,0,none⟩) 1 1 (crA C).toList rfl (reads_blk9 PL.out) (cr_one C) (by simp only [maxLen];omega) (by omega) P0.out.f.size ?_
      intro v10 wp10 hown hgr hat
      replace PR:=hid_ (PR.out.grown hgr (Ne.symm (own_blk_ne P0.out.l PR.out (by decide))))
      replace NW:=hid_ (NW.out.grown P0.out.l (by decide) (by decide) hgr)
      replace P0:=hid_ (P0.out.putL hown hgr hat)
      refine ⟨.inr ⟨P0.out.bt,P0.out.bx⟩,?_⟩
      clear hown hgr hat
      refine wpAnyU_oneW (i:=7) rfl (by kernel_rfl) (by kernel_rfl) ?_
      refine wp_append_at _ (.tmp 61) (.tmp 63) 66 rfl w.heap.size 48 j0 _ 2 16 Tryz.underlying66 Hj.out.1 Hj.out.2.1 Hj.out.2.2.1 Hj.out.2.2.2 rfl (by omega) _ _ _ rfl P0.out.r (some ⟨we.heap.size,0,none⟩) 1 1 [.int .i64 ((j:Int)+1),.int .i64 g] rfl (reads_blk9 PR.out) (by simp [Value.oneCell']) (by simp only [maxLen];omega) (by omega) P0.out.f.size ?_
      intro v11 wp11 hown hgr hat
      replace NW:=hid_ (NW.out.grown P0.out.r (by decide) (by decide) hgr)
      replace P0:=hid_ (P0.out.putR hown hgr hat)
      refine ⟨.inr ⟨P0.out.bt,P0.out.bx⟩,?_⟩
      clear hown hgr hat
      have hS2:(fun w':World=>Blk w' b 55 (crA C)∧Blk w' w1.heap.size 48 #[.int .i64 ((j:Int)+1),.int .i64 g]) wp11:=⟨P0.out.bt,P0.out.bx⟩
      obtain ⟨A',c',e1⟩:=P0.out.l.shape
      obtain ⟨B',d',e2⟩:=P0.out.r.shape
      subst e1
      subst e2
      refine wpAnyU_take2 (i:=8) (v:=_) rfl (by kernel_rfl) (by kernel_rfl) (by kernel_rfl) (by kernel_rfl) (fun _ _ _ h=>h) (.inl ⟨by kernel_rfl,fun w' hS=>by go_simp;rfl⟩) hS2 ?_
      refine wpAnyU_take2 (i:=9) (v:=_) rfl (by kernel_rfl) (by kernel_rfl) (by kernel_rfl) (by kernel_rfl) (fun _ _ _ h=>h) (.inl ⟨by kernel_rfl,fun w' hS=>by go_simp;rfl⟩) hS2 ?_
      refine wpAnyU_done (by kernel_rfl) ?_ _
      go_wp2_with fail
      go_meet
      exact ⟨A',c',B',d',rfl,rfl,P0.out,NW.out⟩
    case rest =>
     obtain ⟨A',c',B',d',rfl,rfl,hP,hN⟩:=hcut
     have P1:=hid_ hP
     have N1:=hid_ hN
     have z13:wc.cell? ⟨b,13,none⟩=some (.int .i64 C.R.nslot):=hP.bt.cell' rfl
     have z14:wc.cell? ⟨b,14,none⟩=some (.int .i64 C.R.ngen):=hP.bt.cell' rfl
     have y0:=hP.bx.frozen 0
     have y1:=hP.bx.frozen 1
     have x0:wc.cell? ⟨w1.heap.size,0,none⟩=some (.int .i64 ((j:Int)+1)):=hP.bx.cell' rfl
     have x1:wc.cell? ⟨w1.heap.size,1,none⟩=some (.int .i64 g):=hP.bx.cell' rfl
     clear hP hN
     go_wp2_with fail
     obtain ⟨wS,hwS⟩:∃ z,z=(wc.setCell ⟨w1.heap.size,0,none⟩ (.int .i64 C.R.nslot)).setCell ⟨w1.heap.size,1,none⟩ (.int .i64 C.R.ngen):=⟨_,rfl⟩
     have hb2:=box2 P1.out.bx (.int .i64 C.R.nslot) (.int .i64 C.R.ngen)
     rw [← hwS] at hb2
     have B2:=hid_ hb2
     have hlen:(pre ++ [j]).length=pre.length+1:=by simp
     have hL:ChL w x.ss js w1.heap.size (pre ++ [j]) rest C.R.nslot C.R.ngen A' c' B' d' (Cs ++ [C]) wS:=by
      refine ⟨by rw [HR.out.eq];simp,by rw [HC.out];exact HY.out.2.2.2,?_,?_,?_,B2.out.1,?_,?_,P1.out.f.then_only B2.out.2 (.inr hsw1)⟩
      ·rw [hlen,crFlat_snoc]
       exact own_fr P1.out.l B2.out.2 (fun k hk e=>own_blk_ne P1.out.l P1.out.bx (by decide) (by rw [hk];exact congrArg some e))
      ·rw [hlen,List.map_append,List.map_cons,List.map_nil,rf9Flat_snoc]
       have e1:refOf x.ss j=((j:Int)+1,g):=by unfold refOf;rw [slotD HY.out.1,HY.out.2.2.1]
       rw [e1]
       exact own_fr P1.out.r B2.out.2 (fun k hk e=>P1.out.nr k hk e)
      ·rw [hlen]
       exact P1.out.nr
      ·rw [List.map_append,List.map_append,HR.out.cs]
       have e1:recOf x.ss j=C.R:=by unfold recOf;rw [slotD HY.out.1,HC.out]
       simp [e1]
      ·intro D hD
       rcases List.mem_append.1 hD with hD | hD
       ·exact (P1.out.own D hD).only B2.out.2 P1.out.bx (by decide) (by decide)
       ·obtain rfl:D=C:=by simpa using hD
        exact N1.out.only B2.out.2 P1.out.bx (by decide) (by decide)
     have HL:=hid_ hL
     clear hL hb2 z13 z14 y0 y1 x0 x1
     clear B2
     subst hwS
     go_roundw
     case rel=>exact ⟨pre ++ [j],rest,_,_,A',c',B',d',Cs ++ [C],by rw [hlen],by rw [hlen],HL.out⟩
     case measure=>simp [lenOf];simp at hjl;omega
end Go.Proofs.YthcpccddcgbanaaGreatDoor
