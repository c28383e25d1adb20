/- Texts of one proof, merged: Job12. -/
import Derived.Test.YthcpccddcgbanaaGreatDoorPiQ
namespace Go.Proofs.YthcpccddcgbanaaGreatDoor
open Go.RowKit
set_option maxRecDepth 100000
set_option linter.unusedVariables false

abbrev jobA (J:Jd) (vb hr he:Value):Array Value:=#[.int .i64 J.page,.int .i64 J.os,.int .i64 J.og,.int .i64 J.news,vb,.int .i64 J.head.kind,.string J.head.low,.string J.head.high,.bool J.head.unb,.int .i64 J.head.right,hr,he,.string J.head.key,.string J.head.val,.int .i64 J.head.page,.int .i64 J.head.hpage,.int .i64 J.head.hleft,.string J.head.hkey,.int .i64 J.head.nslot,.int .i64 J.head.ngen,.int .i64 J.fresh]
structure BsReads (w:World) (A:Option Addr) (Cs:List Cr):Prop where
  r:0 < Cs.length→∃ b off,A=some ⟨b,off,none⟩∧b < w.heap.size∧∀ (k:Nat) (C:Cr),Cs[k]?=some C→w.rangeAt b (off+k * 15) (crA C).toList
  o:∀ C ∈ Cs,RecReads w C.R C.A C.B
  z:∀ C ∈ Cs,RowsOk C.R
theorem BsReads.keep {w w':World} {A:Option Addr} {Cs:List Cr} (h:BsReads w A Cs) (hf:Fr none_ w w'):BsReads w' A Cs:=
  ⟨fun hn=>by
    obtain ⟨b,off,hA,hb,hc⟩:=h.r hn
    exact ⟨b,off,hA,by have:=hf.size;omega,fun k C hC j v hv=>cellFr (hc k C hC j v hv) hf⟩,fun C hC=>(h.o C hC).keep hf,h.z⟩
structure Jl where
  jb:Nat
  cb:Nat
  cab:Nat
  cao:Nat
  A:Option Addr
  Cs:List Cr
  c:Nat
  Ah:Option Addr
  ch:Nat
  Eh:Option Addr
  dh:Nat
  ph:Nat→Option Value
abbrev CS (q:Jl):={ cs:Array Value // ∀ o,o≠q.cao→cs[o]?=q.ph o }
abbrev CS.set_ {q:Jl} (c:CS q) (v:Value):CS q:=⟨c.1.setIfInBounds q.cao v,fun o ho=>by rw [Array.getElem?_setIfInBounds_ne (fun e=>ho e.symm)];exact c.2 o ho⟩
abbrev jobB (J:Jd) (q:Jl):Array Value:=jobA J (.slice q.A q.Cs.length q.c) (.slice q.Ah J.head.rows.length q.ch) (.slice q.Eh J.head.ents.length q.dh)
abbrev jobF (jb cb:Nat):Value:=.func (.func 38) #[] #[.pointer (some ⟨cb,0,none⟩),.pointer (some ⟨jb,0,none⟩)]
structure JobRd (W:World) (J:Jd) (q:Jl):Prop where
  bs:BsReads W q.A q.Cs
  cs:q.Cs.map (·.R)=J.bases
  hd:RecReads W J.head q.Ah q.Eh
  hz:RowsOk J.head
  l6:q.Cs.length≤6
structure JobAt (W w:World) (J:Jd) (q:Jl):Prop extends JobRd W J q where
  f:Fr none_ W w
  jb:Blk w q.jb 57 (jobB J q)
  cb:Blk w q.cb 64 #[.pointer (some ⟨q.cab,q.cao,none⟩)]
  ca:W.heap.size≤q.cab
theorem JobAt.fr {W w w':World} {J:Jd} {q:Jl} {S:Nat→Prop} (h:JobAt W w J q) (hf:Fr S w w') (hS:∀ b,S b→W.heap.size≤b) (ht:∀ b t cs,S b→Blk w b t cs→t≠57∧t≠64):JobAt W w' J q:=
  ⟨h.toJobRd,h.f.trans hf (fun _ _=>id) (fun i hi e=>by have:=hS i e;omega),h.jb.fr hf (fun e=>(ht _ _ _ e h.jb).1 rfl),h.cb.fr hf (fun e=>(ht _ _ _ e h.cb).2 rfl),h.ca⟩
theorem JobAt.keep {W w w':World} {J:Jd} {q:Jl} (h:JobAt W w J q) (hf:Fr none_ w w'):JobAt W w' J q:=h.fr hf (fun _ e=>e.elim) (fun _ _ _ e=>e.elim)
theorem Blk.range {w:World} {g o:Nat} {t:TypeId} {cs:Array Value} {l:List Value} (h:Blk w g t cs) (hl:∀ (j:Nat) (v:Value),l[j]?=some v→cs[o+j]?=some v):w.rangeAt g o l:=fun j v hv=>h.cell' (hl j v hv)
theorem job_size:(Tryz.prog.info? 62).map (·.size)=some 5:=by kernel_rfl
set_option maxHeartbeats 4000000 in
theorem job_ok (w:World) (J:Jd) (vb hr he:Value) (cab cao:Nat):Calls Tryz.prog 9 #[.agg (jobA J vb hr he),.pointer (some ⟨cab,cao,none⟩)] w fun e w'=>∃ jb cb,e=.returned (.agg #[.int .i64 J.page,.int .i64 J.os,.int .i64 J.og,.int .i64 J.news,jobF jb cb])∧Blk w' jb 57 (jobA J vb hr he)∧Blk w' cb 64 #[.pointer (some ⟨cab,cao,none⟩)]∧Fr none_ w w':=by
 have hmf:∀ (fn:Fn) (first cap:Array Value) (w:World),(Instr.makeFunc fn first cap).run Tryz.prog w=.ok (.func fn first cap) w:=fun _ _ _ _=>rfl
 go_enter Tryz.func9,Tryz.ntmps9
 go_upto_region 1 with fail
 obtain ⟨w0,hw0⟩:∃ z,z=((w.alloc (.cells (jobA J vb hr he) 57)).alloc (.cells #[.pointer (some ⟨cab,cao,none⟩)] 64)).alloc (.cells #[.int .i64 0,.int .i64 0,.int .i64 0,.int .i64 0,.nilFunc] 62):=⟨_,rfl⟩
 have B1:=hid_ (show Blk w0 w.heap.size 57 (jobA J vb hr he) by rw [hw0];exact ((Blk.new w _ _).alloc _).alloc _)
 have B2:=hid_ (show Blk w0 (w.heap.size+1) 64 #[.pointer (some ⟨cab,cao,none⟩)] by rw [hw0];have:=Blk.new (w.alloc (.cells (jobA J vb hr he) 57)) 64 #[.pointer (some ⟨cab,cao,none⟩)];rw [World.size_alloc] at this;exact this.alloc _)
 have B3:=hid_ (show Blk w0 (w.heap.size+1+1) 62 #[.int .i64 0,.int .i64 0,.int .i64 0,.int .i64 0,.nilFunc] by rw [hw0];have:=Blk.new ((w.alloc (.cells (jobA J vb hr he) 57)).alloc (.cells #[.pointer (some ⟨cab,cao,none⟩)] 64)) 62 #[.int .i64 0,.int .i64 0,.int .i64 0,.int .i64 0,.nilFunc];rw [World.size_alloc,World.size_alloc] at this;exact this)
 have F0:=hid_ (show Fr none_ w w0 by rw [hw0];exact (((Fr.refl none_ w).alloc _).alloc _).alloc _)
 change Code.wp _ _ _ _ (((w.alloc (.cells (jobA J vb hr he) 57)).alloc (.cells #[.pointer (some ⟨cab,cao,none⟩)] 64)).alloc (.cells #[.int .i64 0,.int .i64 0,.int .i64 0,.int .i64 0,.nilFunc] 62))
 rw [← hw0]
 clear hw0
 have j0:w0.cell? ⟨w.heap.size,0,none⟩=some (.int .i64 J.page):=B1.out.cell' rfl
 have j1:w0.cell? ⟨w.heap.size,1,none⟩=some (.int .i64 J.os):=B1.out.cell' rfl
 have j2:w0.cell? ⟨w.heap.size,2,none⟩=some (.int .i64 J.og):=B1.out.cell' rfl
 have j3:w0.cell? ⟨w.heap.size,3,none⟩=some (.int .i64 J.news):=B1.out.cell' rfl
 go_wp2_with (refine wpList_store_mid rfl 62 (.tmp 4) (.tmp 12) rfl (w.heap.size+1+1) 0 #[.int .i64 J.page,.int .i64 J.os,.int .i64 J.og,.int .i64 J.news,jobF w.heap.size (w.heap.size+1)] rfl rfl (B3.out.there9 rfl) job_size (by simp [Value.oneCell']) ?_;obtain ⟨w5,hw5⟩:∃ z,z=w0.setCells (w.heap.size+1+1) 0 (#[.int .i64 J.page,.int .i64 J.os,.int .i64 J.og,.int .i64 J.news,jobF w.heap.size (w.heap.size+1)]:Array Value).toList:=⟨_,rfl⟩;have Q5:Hid (Blk w5 (w.heap.size+1+1) 62 #[.int .i64 J.page,.int .i64 J.os,.int .i64 J.og,.int .i64 J.news,jobF w.heap.size (w.heap.size+1)]∧Fr (only (w.heap.size+1+1)) w0 w5):=hid_ (by rw [hw5];exact B3.out.over9 (#[.int .i64 J.page,.int .i64 J.os,.int .i64 J.og,.int .i64 J.news,jobF w.heap.size (w.heap.size+1)]:Array Value).toList rfl);change wpList _ _ _ _ _ (w0.setCells (w.heap.size+1+1) 0 (#[.int .i64 J.page,.int .i64 J.os,.int .i64 J.og,.int .i64 J.news,jobF w.heap.size (w.heap.size+1)]:Array Value).toList);rw [← hw5];clear hw5)
 have q0:=Q5.out.1.cell' (i:=0) rfl
 have q1:=Q5.out.1.cell' (i:=1) rfl
 have q2:=Q5.out.1.cell' (i:=2) rfl
 have q3:=Q5.out.1.cell' (i:=3) rfl
 have q4:=Q5.out.1.cell' (i:=4) rfl
 refine bodyPost_ret (v:=.agg #[.int .i64 J.page,.int .i64 J.os,.int .i64 J.og,.int .i64 J.news,jobF w.heap.size (w.heap.size+1)]) ?_ rfl ⟨w.heap.size,w.heap.size+1,rfl,B1.out.fr Q5.out.2 (only_ne (by omega)),B2.out.fr Q5.out.2 (only_ne (by omega)),F0.out.then_only Q5.out.2 (.inr (by omega))⟩
 simp [results,Tryz.results9,go_sem,q0,q1,q2,q3,q4]
def pgH (J:Jd) (n:Int):Rc:={ J.head with page:=n }
theorem intF_get:∀ (l:List Int) (j:Nat) (n:Int),l[j]?=some n→(intF l)[j]?=some (.int .i64 n)
  | [],j,n,h=>by simp at h
  | q :: l, 0, n, h => by obtain rfl : q = n := by simpa using h
                          rfl
  | q :: l,j+1,n,h=>intF_get l j n (by simpa using h)
theorem intF_set (l:List Int) (j:Nat) (n:Int):intF (l.set j n)=(intF l).set j (.int .i64 n):=by simp [List.map_set]
theorem own_i1 {w:World} {B n c:Nat} {A:Option Addr} {l:List Int} (h:w.ownsRow B 3 1 (.slice A n c) n (intF l)) {k:Nat} (hk:k < n) {m:Int} (hm:l[k]?=some m):∃ g,A=some ⟨g,0,none⟩∧w.cell? ⟨g,k,none⟩=some (.int .i64 m)∧w.frozen? ⟨g,k,none⟩=false:=by
  rcases h.2 with ⟨hv,h0⟩ | ⟨g,cap,cur,hv,hb,hh,hc,hmx,hs,ht⟩
  · omega
  · injection hv with e1 _ _
    subst e1
    obtain ⟨_,_,e,_,_,hp⟩:=own_parts h
    obtain ⟨g',e2,_,hcell⟩:=hp (by omega)
    injection e with e3 _ _
    rw [← e3] at e2
    injection e2 with e2
    injection e2 with e2 _ _
    subst e2
    exact ⟨g,rfl,hcell k _ (intF_get l k m hm),Blk.frozen (cs:=cur) (t:=3) hh k⟩
theorem own_set1 {w:World} {B n c g:Nat} {l:List Int} (h:w.ownsRow B 3 1 (.slice (some ⟨g,0,none⟩) n c) n (intF l)) {k:Nat} (hk:k < n) (m:Int):(w.setCell ⟨g,k,none⟩ (.int .i64 m)).ownsRow B 3 1 (.slice (some ⟨g,0,none⟩) n c) n (intF (l.set k m)):=by
  rw [intF_set]
  exact (h.stored k (.int .i64 m)).1
def MkS (q:Jl) (pv:Value):Nat→Prop:=fun k=>k=q.cab∨pv.ownBlock=some k
def MkPost (J:Jd) (q:Jl) (pv:Value) (ps:List Int) (c0:Int) (w:World) (e:Ending) (w':World):Prop:=
  ∃ (A:Option Addr) (c:Nat) (Ds:List Cr) (Ar:Option Addr) (cr:Nat) (Ae:Option Addr) (ce:Nat),e=.returned (.tuple #[.slice A J.bases.length c,recV (jhead J ps) (.slice Ar (jhead J ps).rows.length cr) (.slice Ae (jhead J ps).ents.length ce)])∧Ds.map (·.R)=J.bases∧w'.ownsRow w.heap.size 55 15 (.slice A J.bases.length c) J.bases.length (crFlat Ds)∧(∀ D ∈ Ds,RecOwn w' w.heap.size D.R (.slice D.A D.R.rows.length D.c) (.slice D.B D.R.ents.length D.d))∧RecOwn w' w.heap.size (jhead J ps) (.slice Ar (jhead J ps).rows.length cr) (.slice Ae (jhead J ps).ents.length ce)∧w'.cell? ⟨q.cab,q.cao,none⟩=some (.int .i64 (wrap64 (c0+1)))∧(∃ cs:CS q,Blk w' q.cab 3 cs.1)∧Fr (MkS q pv) w w'
set_option maxHeartbeats 8000000 in
theorem mkJ_ok {W w:World} {J:Jd} {q:Jl} (h:JobAt W w J q) (c0:Int) (hc:w.cell? ⟨q.cab,q.cao,none⟩=some (.int .i64 c0)) (cs0:CS q) (hcb:Blk w q.cab 3 cs0.1) (B:Nat) (pv:Value) (ps:List Int) (hp:w.ownsRow B 3 1 pv ps.length (intF ps)) (hne:pv.ownBlock≠some q.cab) (hps:ps.length≤4) :
  Calls Tryz.prog 38 #[pv,.pointer (some ⟨q.cb,0,none⟩),.pointer (some ⟨q.jb,0,none⟩)] w (MkPost J q pv ps c0 w):=by
 obtain ⟨i0,hi0,hz0,hs0,hb0⟩:=info_parts rec_info9
 have Hi:=hid_ (And.intro hi0 (And.intro hz0 (And.intro hs0 hb0)))
 clear hi0 hz0 hs0 hb0
 obtain ⟨pA,pc,rfl⟩:=hp.shape
 have H:=hid_ h
 have HN:=hid_ (And.intro hne hps)
 clear h hne hps
 obtain ⟨w0,hw0⟩:∃ z,z=w.alloc (.cells recZ 55):=⟨_,rfl⟩
 have f0:Fr none_ w w0:=by rw [hw0];exact (Fr.refl none_ w).alloc _
 have BZ:=hid_ (show Blk w0 w.heap.size 55 recZ by rw [hw0];exact Blk.new w _ _)
 have H0:=hid_ (H.out.keep f0)
 have CA:=hid_ (hcb.fr f0 id)
 have hc0:w0.cell? ⟨q.cab,q.cao,none⟩=some (.int .i64 c0):=cellFr hc f0
 have hf0:w0.frozen? ⟨q.cab,q.cao,none⟩=false:=CA.out.frozen _
 have PR:=hid_ (own_none hp f0)
 have F0:=hid_ f0
 have hcn:q.cab≠w.heap.size:=by have:=hcb.lt;omega
 have HCN:=hid_ hcn
 clear f0 hp hc hcb hcn
 go_enter Tryz.func38,Tryz.ntmps38
 go_upto_region 1 with fail
 change Code.wp _ _ _ _ (w.alloc (.cells recZ 55))
 rw [← hw0]
 clear hw0
 have cb0:w0.cell? ⟨q.cb,0,none⟩=some (.pointer (some ⟨q.cab,q.cao,none⟩)):=H0.out.cb.cell' rfl
 go_upto_region 2 with fail
 obtain ⟨w1,hw1⟩:∃ z,z=w0.setCell ⟨q.cab,q.cao,none⟩ (.int .i64 (wrap64 (c0+1))):=⟨_,rfl⟩
 have f1:Fr (only q.cab) w0 w1:=by rw [hw1];exact Fr.only1 w0 ⟨q.cab,q.cao,none⟩ _
 have HC1:=hid_ (show w1.cell? ⟨q.cab,q.cao,none⟩=some (.int .i64 (wrap64 (c0+1))) by rw [hw1];exact World.cell?_setCell_same _ _ _ (by rw [hc0]))
 have CA1:=hid_ (show ∃ cs:CS q,Blk w1 q.cab 3 cs.1 by rw [hw1];exact ⟨cs0.set_ (.int .i64 (wrap64 (c0+1))),CA.out.set_ _ _⟩)
 have H1:=hid_ (H0.out.fr f1 (fun b e=>by rw [show b=q.cab from e];exact H0.out.ca) (fun b t cs e hb=>by
  obtain rfl:b=q.cab:=e
  obtain ⟨rfl,_⟩:=hb.uniq CA.out
  decide))
 have PR1:=hid_ (own_fr PR.out f1 (fun k hk e=>HN.out.1 (by rw [hk,show k=q.cab from e])))
 have BZ1:=hid_ (BZ.out.fr f1 (only_ne (fun e=>HCN.out e.symm)))
 have F1:=hid_ (F0.out.trans (S':=only q.cab) (S'':=MkS q (.slice pA ps.length pc)) f1 (fun _ _ e=>e.elim) (fun _ _ e=>.inl e))
 change Code.wp _ _ _ _ (w0.setCell ⟨q.cab,q.cao,none⟩ (.int .i64 (wrap64 (c0+1))))
 rw [← hw1]
 clear hw1 f1 hc0 hf0 cb0 H0 CA PR BZ
 have jb4:w1.cell? ⟨q.jb,4,none⟩=some (.slice q.A q.Cs.length q.c):=H1.out.jb.cell' rfl
 go_wp2_with fail
 clear jb4
 go_loopw [6,19] (fun v i wr=>∃ (k:Nat) (Ds:List Cr),k≤q.Cs.length∧i=.int .i64 k∧Ds.length=k∧Ds.map (·.R)=(q.Cs.take k).map (·.R)∧wr.ownsRow w1.heap.size 55 15 v k (crFlat Ds)∧(∀ D ∈ Ds,RecOwn wr w1.heap.size D.R (.slice D.A D.R.rows.length D.c) (.slice D.B D.R.ents.length D.d))∧Fr none_ w1 wr) (fun _ i _=>q.Cs.length - (intOf i).toNat)
 case atStart=>exact ⟨0,[],Nat.zero_le _,rfl,rfl,rfl,World.ownsRow_nil _ _ _ _,fun C hC=>by simp at hC,Fr.refl _ _⟩
 case round =>
  obtain ⟨k,Ds,hk,rfl,hcl,hcm,hown,hcs,hF⟩:=hrel
  obtain ⟨oA,oc,rfl⟩:=hown.shape
  have HCL:=hid_ hcl
  have HCM:=hid_ hcm
  have O:=hid_ hown
  have HCS:=hid_ hcs
  have F:=hid_ hF
  clear hcl hcm hown hcs hF
  have hi0:(0:Int)≤(k:Int):=Int.natCast_nonneg _
  have hl6:=H1.out.l6
  by_cases hlt:k < q.Cs.length
  ·obtain ⟨C,hC⟩:∃ C,q.Cs[k]?=some C:=⟨_,List.getElem?_eq_getElem (by omega)⟩
   obtain ⟨b,off,hqA,hb,hRd⟩:=H1.out.bs.r (by omega)
   have HBS:=hid_ ((H1.out.bs.keep H1.out.f).keep F.out)
   have HR:=hid_ (show wr.rangeAt b (off+k * 15) (crA C).toList from fun j v hv=>cellFr (cellFr (hRd k C hC j v hv) H1.out.f) F.out)
   have hi1:(k:Int) < (q.Cs.length:Int):=by omega
   have HC:=hid_ hC
   have QA:=hid_ hqA
   have HZ:=hid_ (H1.out.bs.z C (List.mem_of_getElem? hC))
   clear hC hb hRd
   rw [hqA]
   go_upto_region 6 with (first | (refine wpList_load_mid rfl 55 (.tmp 21) rfl b (off+k * 15) rfl (crA C).toList _ HR.out Tryz.underlying55 rfl rec_size ?_) | (refine wpList_store_mid rfl 55 (.tmp 8) (.tmp 22) rfl wr.heap.size 0 (crA C) rfl rfl (new_there wr _ recZ) rec_size (by simp [Value.oneCell']) ?_;obtain ⟨w2,hw2⟩:∃ z,z=(wr.alloc (.cells recZ 55)).setCells wr.heap.size 0 (crA C).toList:=⟨_,rfl⟩;change wpList _ _ _ _ _ ((wr.alloc (.cells recZ 55)).setCells wr.heap.size 0 (crA C).toList);rw [← hw2];have P1:Hid (Blk w2 wr.heap.size 55 (crA C)∧Fr none_ wr w2):=hid_ (by rw [hw2];exact new_copy wr _ recZ (crA C).toList rfl);clear hw2))
   have hf1:=P1.out.2.size
   have g0:w2.cell? ⟨wr.heap.size,0,none⟩=some (.int .i64 C.R.kind):=P1.out.1.cell' rfl
   have g1:w2.cell? ⟨wr.heap.size,1,none⟩=some (.string C.R.low):=P1.out.1.cell' rfl
   have g2:w2.cell? ⟨wr.heap.size,2,none⟩=some (.string C.R.high):=P1.out.1.cell' rfl
   have g3:w2.cell? ⟨wr.heap.size,3,none⟩=some (.bool C.R.unb):=P1.out.1.cell' rfl
   have g4:w2.cell? ⟨wr.heap.size,4,none⟩=some (.int .i64 C.R.right):=P1.out.1.cell' rfl
   have g5:w2.cell? ⟨wr.heap.size,5,none⟩=some (.slice C.A C.R.rows.length C.c):=P1.out.1.cell' rfl
   have g6:w2.cell? ⟨wr.heap.size,6,none⟩=some (.slice C.B C.R.ents.length C.d):=P1.out.1.cell' rfl
   have g7:w2.cell? ⟨wr.heap.size,7,none⟩=some (.string C.R.key):=P1.out.1.cell' rfl
   have g8:w2.cell? ⟨wr.heap.size,8,none⟩=some (.string C.R.val):=P1.out.1.cell' rfl
   have g9:w2.cell? ⟨wr.heap.size,9,none⟩=some (.int .i64 C.R.page):=P1.out.1.cell' rfl
   have g10:w2.cell? ⟨wr.heap.size,10,none⟩=some (.int .i64 C.R.hpage):=P1.out.1.cell' rfl
   have g11:w2.cell? ⟨wr.heap.size,11,none⟩=some (.int .i64 C.R.hleft):=P1.out.1.cell' rfl
   have g12:w2.cell? ⟨wr.heap.size,12,none⟩=some (.string C.R.hkey):=P1.out.1.cell' rfl
   have g13:w2.cell? ⟨wr.heap.size,13,none⟩=some (.int .i64 C.R.nslot):=P1.out.1.cell' rfl
   have g14:w2.cell? ⟨wr.heap.size,14,none⟩=some (.int .i64 C.R.ngen):=P1.out.1.cell' rfl
   go_wp2_with fail
   refine (clone_ok C.R C.A C.c C.B C.d _ ((HBS.out.o C (List.mem_of_getElem? HC.out)).keep P1.out.2) HZ.out.1 HZ.out.2).mono ?_
   rintro e w3 ⟨A1,c1,B1,d1,rfl,hro,hf2⟩
   have hs2:=(F.out.then_none P1.out.2).size
   have RO:=hid_ (hro.base hs2)
   have F2:=hid_ (P1.out.2.then_none hf2)
   have hs3:=(F.out.then_none F2.out).size
   have O2:=hid_ (own_none O.out F2.out)
   clear hro hf2 g0 g1 g2 g3 g4 g5 g6 g7 g8 g9 g10 g11 g12 g13 g14
   obtain ⟨C',hC'⟩:∃ C':Cr,C'=⟨C.R,A1,c1,B1,d1⟩:=⟨_,rfl⟩
   have HC':=hid_ hC'
   clear hC'
   go_wp2_with (at_builtin;refine wpList_append_any _ rfl (.tmp 23) (.tmp 26) 49 rfl w1.heap.size 55 i0 _ 15 192 Tryz.underlying49 Hi.out.1 Hi.out.2.1 Hi.out.2.2.1 Hi.out.2.2.2 rfl (by omega) (.slice oA k oc) k (crFlat Ds) rfl (O2.out.alloc _) (some ⟨w3.heap.size,0,none⟩) 1 1 (crA ⟨C.R,A1,c1,B1,d1⟩).toList rfl (reads_new w3 _ (crA ⟨C.R,A1,c1,B1,d1⟩).toList _ rfl) (cr_one _) (by simp only [maxLen];omega) (by omega) (by simp;omega) ?_;intro A3 c3 w4 hown3 hgr3)
   have REL:Ds.length+1=k+1∧(Ds ++ [C']).map (·.R)=(q.Cs.take (k+1)).map (·.R)∧w4.ownsRow w1.heap.size 55 15 (.slice A3 (k+1) c3) (k+1) (crFlat (Ds ++ [C']))∧(∀ X ∈ Ds ++ [C'],RecOwn w4 w1.heap.size X.R (.slice X.A X.R.rows.length X.c) (.slice X.B X.R.ents.length X.d))∧Fr none_ w1 w4:=by
    have ho2:=O2.out.alloc (.cells (crA ⟨C.R,A1,c1,B1,d1⟩) 55)
    refine ⟨by rw [HCL.out],?_,?_,fun X hX=>?_,?_⟩
    ·rw [List.take_add_one,HC.out,List.map_append,List.map_append,HCM.out,HC'.out]
     rfl
    ·rw [crFlat_snoc,HC'.out]
     exact hown3
    ·rcases List.mem_append.1 hX with hX | hX
     ·exact (((HCS.out X hX).keep F2.out).keep ((Fr.refl none_ w3).alloc _)).grown ho2 (by decide) (by decide) hgr3
     ·obtain rfl:X=C':=by simpa using hX
      rw [HC'.out]
      exact (RO.out.keep ((Fr.refl none_ w3).alloc _)).grown ho2 (by decide) (by decide) hgr3
    ·exact ((F.out.then_none F2.out).alloc (.cells (crA ⟨C.R,A1,c1,B1,d1⟩) 55)).grown hgr3 (fun b hb=>.inr (own_blk O2.out hb).1)
   have HREL:=hid_ REL
   clear REL hown3 hgr3
   go_wp2
   go_roundw
   case rel=>exact ⟨k+1,Ds ++ [C'],by omega,by go_num,by rw [List.length_append];exact HREL.out.1,HREL.out.2.1,HREL.out.2.2.1,HREL.out.2.2.2.1,HREL.out.2.2.2.2⟩
   case measure=>simp [intOf];omega
  ·obtain rfl:k=q.Cs.length:=by omega
   have hcm:=HCM.out
   rw [List.take_of_length_le (Nat.le_refl _),H1.out.cs] at hcm
   have HCM':=hid_ hcm
   have hjl:J.bases.length=q.Cs.length:=by rw [← H1.out.cs,List.length_map]
   have HJL:=hid_ hjl
   have H2:=hid_ (H1.out.keep F.out)
   have PR2:=hid_ (own_none PR1.out F.out)
   have BZ2:=hid_ (BZ1.out.fr F.out id)
   have HC2:=hid_ (cellFr HC1.out F.out)
   have CA2:=hid_ (show ∃ cs:CS q,Blk wr q.cab 3 cs.1 from CA1.out.elim fun cs hb=>⟨cs,hb.fr F.out id⟩)
   have F2:=hid_ (F1.out.then_none F.out)
   have hs1:=F1.out.size
   have BW:=hid_ (show w.heap.size < w1.heap.size from BZ1.out.lt)
   clear hcm hjl HCM H1 PR1 BZ1 HC1 CA1
   have jh0:wr.cell? ⟨q.jb,5,none⟩=some (.int .i64 J.head.kind):=H2.out.jb.cell' rfl
   have jh1:wr.cell? ⟨q.jb,6,none⟩=some (.string J.head.low):=H2.out.jb.cell' rfl
   have jh2:wr.cell? ⟨q.jb,7,none⟩=some (.string J.head.high):=H2.out.jb.cell' rfl
   have jh3:wr.cell? ⟨q.jb,8,none⟩=some (.bool J.head.unb):=H2.out.jb.cell' rfl
   have jh4:wr.cell? ⟨q.jb,9,none⟩=some (.int .i64 J.head.right):=H2.out.jb.cell' rfl
   have jh5:wr.cell? ⟨q.jb,10,none⟩=some (.slice q.Ah J.head.rows.length q.ch):=H2.out.jb.cell' rfl
   have jh6:wr.cell? ⟨q.jb,11,none⟩=some (.slice q.Eh J.head.ents.length q.dh):=H2.out.jb.cell' rfl
   have jh7:wr.cell? ⟨q.jb,12,none⟩=some (.string J.head.key):=H2.out.jb.cell' rfl
   have jh8:wr.cell? ⟨q.jb,13,none⟩=some (.string J.head.val):=H2.out.jb.cell' rfl
   have jh9:wr.cell? ⟨q.jb,14,none⟩=some (.int .i64 J.head.page):=H2.out.jb.cell' rfl
   have jh10:wr.cell? ⟨q.jb,15,none⟩=some (.int .i64 J.head.hpage):=H2.out.jb.cell' rfl
   have jh11:wr.cell? ⟨q.jb,16,none⟩=some (.int .i64 J.head.hleft):=H2.out.jb.cell' rfl
   have jh12:wr.cell? ⟨q.jb,17,none⟩=some (.string J.head.hkey):=H2.out.jb.cell' rfl
   have jh13:wr.cell? ⟨q.jb,18,none⟩=some (.int .i64 J.head.nslot):=H2.out.jb.cell' rfl
   have jh14:wr.cell? ⟨q.jb,19,none⟩=some (.int .i64 J.head.ngen):=H2.out.jb.cell' rfl
   go_wp2_with fail
   refine (clone_ok J.head q.Ah q.ch q.Eh q.dh _ ((H2.out.hd.keep H2.out.f)) H2.out.hz.1 H2.out.hz.2).mono ?_
   rintro e w3 ⟨A1,c1,B1,d1,rfl,hro,hf3⟩
   have RO:=hid_ (hro.base (b':=w.heap.size) F2.out.size)
   replace H2:=hid_ (H2.out.keep hf3)
   replace PR2:=hid_ (own_none PR2.out hf3)
   replace BZ2:=hid_ (BZ2.out.fr hf3 id)
   replace HC2:=hid_ (cellFr HC2.out hf3)
   replace CA2:=hid_ (show ∃ cs:CS q,Blk w3 q.cab 3 cs.1 from CA2.out.elim fun cs hb=>⟨cs,hb.fr hf3 id⟩)
   replace O:=hid_ (own_none O.out hf3)
   replace HCS:=hid_ (show ∀ D ∈ Ds,RecOwn w3 w1.heap.size D.R (.slice D.A D.R.rows.length D.c) (.slice D.B D.R.ents.length D.d) from fun D hD=>(HCS.out D hD).keep hf3)
   replace F2:=hid_ (F2.out.then_none hf3)
   have BZLT:=hid_ BZ2.out.lt
   have CALT:=hid_ (show q.cab < w3.heap.size from CA2.out.elim fun cs hb=>hb.lt)
   have OLT:=hid_ (show ∀ k,(Value.slice oA q.Cs.length oc).ownBlock=some k→k < w3.heap.size from fun k hk=>(own_blk O.out hk).2.elim fun _ hb=>hb.lt)
   clear hro hf3 jh0 jh1 jh2 jh3 jh4 jh5 jh6 jh7 jh8 jh9 jh10 jh11 jh12 jh13 jh14
   go_upto_region 9 with (refine wpList_store_mid rfl 55 (.tmp 9) (.tmp 31) rfl w3.heap.size 0 (recA J.head (.slice A1 J.head.rows.length c1) (.slice B1 J.head.ents.length d1)) rfl rfl (new_there w3 _ recZ) rec_size (by simp [Value.oneCell']) ?_;obtain ⟨w4,hw4⟩:∃ z,z=(w3.alloc (.cells recZ 55)).setCells w3.heap.size 0 (recA J.head (.slice A1 J.head.rows.length c1) (.slice B1 J.head.ents.length d1)).toList:=⟨_,rfl⟩;change wpList _ _ _ _ _ ((w3.alloc (.cells recZ 55)).setCells w3.heap.size 0 (recA J.head (.slice A1 J.head.rows.length c1) (.slice B1 J.head.ents.length d1)).toList);rw [← hw4];have P4:Hid (Blk w4 w3.heap.size 55 (recA J.head (.slice A1 J.head.rows.length c1) (.slice B1 J.head.ents.length d1))∧Fr none_ w3 w4):=hid_ (by rw [hw4];exact new_copy w3 _ recZ (recA J.head (.slice A1 J.head.rows.length c1) (.slice B1 J.head.ents.length d1)).toList rfl);clear hw4)
   have hf4:=P4.out.2
   replace H2:=hid_ (H2.out.keep hf4)
   replace PR2:=hid_ (own_none PR2.out hf4)
   replace BZ2:=hid_ (BZ2.out.fr hf4 id)
   replace HC2:=hid_ (cellFr HC2.out hf4)
   replace CA2:=hid_ (show ∃ cs:CS q,Blk w4 q.cab 3 cs.1 from CA2.out.elim fun cs hb=>⟨cs,hb.fr hf4 id⟩)
   replace O:=hid_ (own_none O.out hf4)
   replace HCS:=hid_ (show ∀ D ∈ Ds,RecOwn w4 w1.heap.size D.R (.slice D.A D.R.rows.length D.c) (.slice D.B D.R.ents.length D.d) from fun D hD=>(HCS.out D hD).keep hf4)
   replace RO:=hid_ (RO.out.keep hf4)
   have hT:=F2.out.size
   have TNE:=hid_ (show w3.heap.size≠w.heap.size by have:=BZLT.out;omega)
   replace F2:=hid_ (F2.out.then_none hf4)
   have BT:=hid_ P4.out.1
   have CNE:=hid_ (show q.cab≠w3.heap.size by have:=CALT.out;omega)
   have HTW:=hid_ hT
   clear hf4 P4 hT
   have jf:w4.cell? ⟨q.jb,20,none⟩=some (.int .i64 J.fresh):=H2.out.jb.cell' rfl
   have hps4:=HN.out.2
   by_cases h1:1≤J.fresh
   ·by_cases h2:J.fresh≤(ps.length:Int)
    ·obtain ⟨qn,hqn⟩:∃ qn:Nat,J.fresh=(qn:Int)+1:=⟨(J.fresh - 1).toNat,by omega⟩
     have hql:qn < ps.length:=by omega
     obtain ⟨n,hn⟩:∃ n,ps[qn]?=some n:=⟨_,List.getElem?_eq_getElem hql⟩
     have EJ:=hid_ (show jhead J ps=pgH J n by unfold jhead;rw [if_pos ⟨h1,h2⟩,hqn];simp [hn,pgH])
     obtain ⟨g,rfl,hgc,-⟩:=own_i1 PR2.out hql hn
     rw [hqn] at jf
     have dd1:decide (1≤(qn:Int)+1)=true:=by simp;omega
     have dd2:decide ((qn:Int)+1≤(ps.length:Int))=true:=by simp;omega
     have hw1:IntKind.i64.wrap (qn:Int)=(qn:Int):=IntWalk.i64_in _ (by omega)
     have hi0:(0:Int)≤(qn:Int):=Int.natCast_nonneg _
     have hi1:(qn:Int) < (ps.length:Int):=by omega
     have y9:=BT.out.frozen 9
     have z9:w4.cell? ⟨w3.heap.size,9,none⟩=some (.int .i64 J.head.page):=BT.out.cell' rfl
     clear h1 h2 hqn hn hql
     go_upto_region 11 with fail
     obtain ⟨wq,hwq⟩:∃ z,z=w4.setCell ⟨w3.heap.size,9,none⟩ (.int .i64 n):=⟨_,rfl⟩
     have fq:Fr (only w3.heap.size) w4 wq:=by rw [hwq];exact Fr.only1 w4 ⟨w3.heap.size,9,none⟩ _
     have BTq:=hid_ (show Blk wq w3.heap.size 55 (recA (pgH J n) (.slice A1 (pgH J n).rows.length c1) (.slice B1 (pgH J n).ents.length d1)) by rw [hwq];exact BT.out.set_ 9 (.int .i64 n))
     replace PR2:=hid_ (own_fr PR2.out fq (fun k hk e=>own_blk_ne PR2.out BT.out (by decide) (by rw [hk,show k=w3.heap.size from e])))
     replace BZ2:=hid_ (BZ2.out.fr fq (only_ne (fun e=>TNE.out e.symm)))
     replace HC2:=hid_ (cellFrS HC2.out fq (only_ne CNE.out))
     replace CA2:=hid_ (show ∃ cs:CS q,Blk wq q.cab 3 cs.1 from CA2.out.elim fun cs hb=>⟨cs,hb.fr fq (only_ne CNE.out)⟩)
     replace O:=hid_ (own_fr O.out fq (fun k hk e=>by have h1:=OLT.out k hk;have h2:k=w3.heap.size:=e;omega))
     replace HCS:=hid_ (show ∀ D ∈ Ds,RecOwn wq w1.heap.size D.R (.slice D.A D.R.rows.length D.c) (.slice D.B D.R.ents.length D.d) from fun D hD=>(HCS.out D hD).only fq BT.out (by decide) (by decide))
     replace RO:=hid_ (show RecOwn wq w.heap.size (pgH J n) (.slice A1 (pgH J n).rows.length c1) (.slice B1 (pgH J n).ents.length d1) from RO.out.only fq BT.out (by decide) (by decide) |> fun h=>⟨h.r,h.e⟩)
     replace F2:=hid_ (F2.out.then_only fq (.inr (Nat.le_of_lt BZLT.out)))
     replace BT:=BTq
     change Code.wp _ _ _ _ (w4.setCell ⟨w3.heap.size,9,none⟩ (.int .i64 n))
     rw [← hwq]
     clear hwq fq BTq y9 z9 jf hgc dd1 dd2 hw1 hi0 hi1
     go_wp2_with fail
     go_loopw [51] (fun i wr=>∃ (k:Nat) (ps2:List Int),k≤ps.length∧i=.int .i64 k∧ps2.length=ps.length∧wr.ownsRow B 3 1 (.slice (some ⟨g,0,none⟩) ps.length pc) ps.length (intF ps2)∧Fr (fun b=>(Value.slice (some ⟨g,0,none⟩) ps.length pc).ownBlock=some b) wq wr) (fun i _=>ps.length - (intOf i).toNat)
     case atStart=>exact ⟨0,ps,Nat.zero_le _,rfl,rfl,PR2.out,Fr.refl _ _⟩
     case round =>
      obtain ⟨kk,ps2,hkk,rfl,hps2,hown2,hF2⟩:=hrel
      have OP:=hid_ hown2
      have FP:=hid_ hF2
      have HP2:=hid_ hps2
      clear hown2 hF2 hps2
      have hi0:(0:Int)≤(kk:Int):=Int.natCast_nonneg _
      by_cases hlt2:kk < ps.length
      ·obtain ⟨n2,hn⟩:∃ n2,ps2[kk]?=some n2:=⟨_,List.getElem?_eq_getElem (by rw [HP2.out];omega)⟩
       obtain ⟨g2,hge,hc2,hy2⟩:=own_i1 OP.out hlt2 hn
       obtain rfl:g=g2:=by injection hge with e;injection e
       have hi1:(kk:Int) < (ps.length:Int):=by omega
       clear hn
       go_wp2_with fail
       have hst:=own_set1 OP.out hlt2 (wrap64 (n2+1))
       have HST:=hid_ (And.intro hst (FP.out.setCell (p:=⟨g,kk,none⟩) (.inl rfl) (.int .i64 (wrap64 (n2+1)))))
       clear hst
       go_roundw
       case rel=>exact ⟨kk+1,ps2.set kk (wrap64 (n2+1)),by omega,by go_num,by rw [List.length_set];exact HP2.out,HST.out.1,HST.out.2⟩
       case measure=>simp [intOf];omega
      ·obtain rfl:kk=ps.length:=by omega
       go_wp2_with fail
       have hS0:(fun w':World=>Fr (only w.heap.size) wr w') wr.drew:=(Fr.refl _ wr).drew
       have BTr:=hid_ (BT.out.fr FP.out (fun e=>own_blk_ne OP.out (BT.out.fr FP.out (fun e2=>own_blk_ne PR2.out BT.out (by decide) e2)) (by decide) e))
       have BZr:=hid_ (BZ2.out.fr FP.out (fun e=>own_blk_ne PR2.out BZ2.out (by decide) e))
       have hneT:¬ only w.heap.size w3.heap.size:=only_ne (by have:=HTW.out;have:=BZ2.out.lt;exact (fun e=>TNE.out e))
       have r0:wr.cell? ⟨w3.heap.size,0,none⟩=some (.int .i64 (pgH J n).kind):=BTr.out.cell' rfl
       have r1:wr.cell? ⟨w3.heap.size,1,none⟩=some (.string (pgH J n).low):=BTr.out.cell' rfl
       have r2:wr.cell? ⟨w3.heap.size,2,none⟩=some (.string (pgH J n).high):=BTr.out.cell' rfl
       have r3:wr.cell? ⟨w3.heap.size,3,none⟩=some (.bool (pgH J n).unb):=BTr.out.cell' rfl
       have r4:wr.cell? ⟨w3.heap.size,4,none⟩=some (.int .i64 (pgH J n).right):=BTr.out.cell' rfl
       have r5:wr.cell? ⟨w3.heap.size,5,none⟩=some (.slice A1 (pgH J n).rows.length c1):=BTr.out.cell' rfl
       have r6:wr.cell? ⟨w3.heap.size,6,none⟩=some (.slice B1 (pgH J n).ents.length d1):=BTr.out.cell' rfl
       have r7:wr.cell? ⟨w3.heap.size,7,none⟩=some (.string (pgH J n).key):=BTr.out.cell' rfl
       have r8:wr.cell? ⟨w3.heap.size,8,none⟩=some (.string (pgH J n).val):=BTr.out.cell' rfl
       have r9:wr.cell? ⟨w3.heap.size,9,none⟩=some (.int .i64 (pgH J n).page):=BTr.out.cell' rfl
       have r10:wr.cell? ⟨w3.heap.size,10,none⟩=some (.int .i64 (pgH J n).hpage):=BTr.out.cell' rfl
       have r11:wr.cell? ⟨w3.heap.size,11,none⟩=some (.int .i64 (pgH J n).hleft):=BTr.out.cell' rfl
       have r12:wr.cell? ⟨w3.heap.size,12,none⟩=some (.string (pgH J n).hkey):=BTr.out.cell' rfl
       have r13:wr.cell? ⟨w3.heap.size,13,none⟩=some (.int .i64 (pgH J n).nslot):=BTr.out.cell' rfl
       have r14:wr.cell? ⟨w3.heap.size,14,none⟩=some (.int .i64 (pgH J n).ngen):=BTr.out.cell' rfl
       refine wp_region_U (m:=3) (S:=fun w':World=>Fr (only w.heap.size) wr w') (by kernel_rfl) ?_
       refine wpAnyU_take2 (i:=0) (v:=_) rfl (by kernel_rfl) (by kernel_rfl) (by kernel_rfl) (by kernel_rfl) (fun _ _ _ h=>h) (.inl ⟨by kernel_rfl,fun w' hS=>by go_simp;rfl⟩) hS0 ?_
       refine wpAnyU_take2 (i:=1) (v:=_) rfl (by kernel_rfl) (by kernel_rfl) (by kernel_rfl) (by kernel_rfl) (fun _ _ _ h=>h) (.inl ⟨by kernel_rfl,fun w' hS=>by have s_0:=cellFrS r0 hS hneT;have s_1:=cellFrS r1 hS hneT;have s_2:=cellFrS r2 hS hneT;have s_3:=cellFrS r3 hS hneT;have s_4:=cellFrS r4 hS hneT;have s_5:=cellFrS r5 hS hneT;have s_6:=cellFrS r6 hS hneT;have s_7:=cellFrS r7 hS hneT;have s_8:=cellFrS r8 hS hneT;have s_9:=cellFrS r9 hS hneT;have s_10:=cellFrS r10 hS hneT;have s_11:=cellFrS r11 hS hneT;have s_12:=cellFrS r12 hS hneT;have s_13:=cellFrS r13 hS hneT;have s_14:=cellFrS r14 hS hneT;go_simp;rfl⟩) hS0 ?_
       refine wpAnyU_take2 (i:=2) (v:=_) rfl (by kernel_rfl) (by kernel_rfl) (by kernel_rfl) (by kernel_rfl) (fun _ _ _ h=>h) (.inl ⟨by kernel_rfl,fun w' hS=>by go_simp;rfl⟩) hS0 ?_
       clear r0 r1 r2 r3 r4 r5 r6 r7 r8 r9 r10 r11 r12 r13 r14 hneT
       refine wpAnyU_oneW (i:=3) rfl (by kernel_rfl) (by kernel_rfl) ?_
       refine wp_store_mid 55 (.tmp 5) (.tmp 62) rfl w.heap.size 0 (recA (pgH J n) (.slice A1 (pgH J n).rows.length c1) (.slice B1 (pgH J n).ents.length d1)) rfl rfl (BZr.out.drew.there9 rfl) rec_size (by simp [Value.oneCell']) ?_
       obtain ⟨w5,hw5⟩:∃ z,z=wr.drew.setCells w.heap.size 0 (recA (pgH J n) (.slice A1 (pgH J n).rows.length c1) (.slice B1 (pgH J n).ents.length d1)).toList:=⟨_,rfl⟩
       have ov:=BZr.out.drew.over9 (recA (pgH J n) (.slice A1 (pgH J n).rows.length c1) (.slice B1 (pgH J n).ents.length d1)).toList rfl
       rw [← hw5] at ov
       have Q5:=hid_ (show Blk w5 w.heap.size 55 (recA (pgH J n) (.slice A1 (pgH J n).rows.length c1) (.slice B1 (pgH J n).ents.length d1)) from ov.1)
       have F5:=hid_ (show Fr (only w.heap.size) wr w5 from (Fr.refl _ wr).drew.trans ov.2 (fun _ _=>id) (fun _ _=>id))
       refine ⟨.inr (by rw [← hw5];exact F5.out),?_⟩
       change wpAnyU _ _ _ _ _ _ _ _ _ (wr.drew.setCells w.heap.size 0 (recA (pgH J n) (.slice A1 (pgH J n).rows.length c1) (.slice B1 (pgH J n).ents.length d1)).toList)
       rw [← hw5]
       clear hw5 ov
       refine wpAnyU_done (by kernel_rfl) ?_ _
       go_wp2_with fail
       have q0:=Q5.out.cell' (i:=0) rfl
       have q1:=Q5.out.cell' (i:=1) rfl
       have q2:=Q5.out.cell' (i:=2) rfl
       have q3:=Q5.out.cell' (i:=3) rfl
       have q4:=Q5.out.cell' (i:=4) rfl
       have q5:=Q5.out.cell' (i:=5) rfl
       have q6:=Q5.out.cell' (i:=6) rfl
       have q7:=Q5.out.cell' (i:=7) rfl
       have q8:=Q5.out.cell' (i:=8) rfl
       have q9:=Q5.out.cell' (i:=9) rfl
       have q10:=Q5.out.cell' (i:=10) rfl
       have q11:=Q5.out.cell' (i:=11) rfl
       have q12:=Q5.out.cell' (i:=12) rfl
       have q13:=Q5.out.cell' (i:=13) rfl
       have q14:=Q5.out.cell' (i:=14) rfl
       refine bodyPost_ret (v:=.tuple #[.slice oA q.Cs.length oc,recV (pgH J n) (.slice A1 (pgH J n).rows.length c1) (.slice B1 (pgH J n).ents.length d1)]) ?_ rfl ?_
       ·simp [results,Tryz.results38,go_sem,q0,q1,q2,q3,q4,q5,q6,q7,q8,q9,q10,q11,q12,q13,q14]
       ·refine ⟨oA,oc,Ds,A1,c1,B1,d1,?_⟩
        rw [HJL.out,EJ.out]
        have PRr:=OP.out
        have o1:=own_fr (own_fr O.out FP.out (fun k hk e=>own_own_ne O.out PR2.out (by decide) k hk e)) F5.out (fun k hk e=>by have h1:=(own_blk O.out hk).1;have h2:=BW.out;have h3:k=w.heap.size:=e;omega)
        have ro:∀ {b:Nat} {R:Rc} {vr ve:Value},RecOwn wq b R vr ve→RecOwn w5 b R vr ve:=fun h=>(h.fr FP.out (fun k hk e=>own_own_ne h.r PR2.out (by decide) k hk e) (fun k hk e=>own_own_ne h.e PR2.out (by decide) k hk e)).only F5.out BZr.out (by decide) (by decide)
        refine ⟨rfl,HCM'.out,own_base o1 (Nat.le_of_lt BW.out),fun D hD=>(ro (HCS.out D hD)).base (Nat.le_of_lt BW.out),ro RO.out,cellFrS (cellFrS HC2.out FP.out (fun e=>HN.out.1 e)) F5.out (only_ne HCN.out),?_,(F2.out.trans FP.out (fun _ _=>id) (fun _ _ e=>.inr e)).then_only F5.out (.inr (Nat.le_refl _))⟩
        exact CA2.out.elim fun cs hb=>⟨cs,(hb.fr FP.out (fun e=>HN.out.1 e)).fr F5.out (only_ne HCN.out)⟩
    ·have EJ:=hid_ (show jhead J ps=J.head by unfold jhead;rw [if_neg (fun e=>h2 e.2)])
     have dd1:decide (1≤J.fresh)=true:=by simpa using h1
     have dd2:decide (J.fresh≤(ps.length:Int))=false:=by simpa using h2
     clear h1 h2
     go_wp2_with fail
     go_loopw [51] (fun i wr=>∃ (k:Nat) (ps2:List Int),k≤ps.length∧i=.int .i64 k∧ps2.length=ps.length∧wr.ownsRow B 3 1 (.slice pA ps.length pc) ps.length (intF ps2)∧Fr (fun b=>(Value.slice pA ps.length pc).ownBlock=some b) w4 wr) (fun i _=>ps.length - (intOf i).toNat)
     case atStart=>exact ⟨0,ps,Nat.zero_le _,rfl,rfl,PR2.out,Fr.refl _ _⟩
     case round =>
      obtain ⟨kk,ps2,hkk,rfl,hps2,hown2,hF2⟩:=hrel
      have OP:=hid_ hown2
      have FP:=hid_ hF2
      have HP2:=hid_ hps2
      clear hown2 hF2 hps2
      have hi0:(0:Int)≤(kk:Int):=Int.natCast_nonneg _
      by_cases hlt2:kk < ps.length
      ·obtain ⟨n2,hn⟩:∃ n2,ps2[kk]?=some n2:=⟨_,List.getElem?_eq_getElem (by rw [HP2.out];omega)⟩
       obtain ⟨g,rfl,hc2,hy2⟩:=own_i1 OP.out hlt2 hn
       have hi1:(kk:Int) < (ps.length:Int):=by omega
       clear hn
       go_wp2_with fail
       have hst:=own_set1 OP.out hlt2 (wrap64 (n2+1))
       have HST:=hid_ (And.intro hst (FP.out.setCell (p:=⟨g,kk,none⟩) (.inl rfl) (.int .i64 (wrap64 (n2+1)))))
       clear hst
       go_roundw
       case rel=>exact ⟨kk+1,ps2.set kk (wrap64 (n2+1)),by omega,by go_num,by rw [List.length_set];exact HP2.out,HST.out.1,HST.out.2⟩
       case measure=>simp [intOf];omega
      ·obtain rfl:kk=ps.length:=by omega
       go_wp2_with fail
       have hS0:(fun w':World=>Fr (only w.heap.size) wr w') wr.drew:=(Fr.refl _ wr).drew
       have BTr:=hid_ (BT.out.fr FP.out (fun e=>own_blk_ne OP.out (BT.out.fr FP.out (fun e2=>own_blk_ne PR2.out BT.out (by decide) e2)) (by decide) e))
       have BZr:=hid_ (BZ2.out.fr FP.out (fun e=>own_blk_ne PR2.out BZ2.out (by decide) e))
       have hneT:¬ only w.heap.size w3.heap.size:=only_ne (by have:=HTW.out;have:=BZ2.out.lt;exact (fun e=>TNE.out e))
       have r0:wr.cell? ⟨w3.heap.size,0,none⟩=some (.int .i64 J.head.kind):=BTr.out.cell' rfl
       have r1:wr.cell? ⟨w3.heap.size,1,none⟩=some (.string J.head.low):=BTr.out.cell' rfl
       have r2:wr.cell? ⟨w3.heap.size,2,none⟩=some (.string J.head.high):=BTr.out.cell' rfl
       have r3:wr.cell? ⟨w3.heap.size,3,none⟩=some (.bool J.head.unb):=BTr.out.cell' rfl
       have r4:wr.cell? ⟨w3.heap.size,4,none⟩=some (.int .i64 J.head.right):=BTr.out.cell' rfl
       have r5:wr.cell? ⟨w3.heap.size,5,none⟩=some (.slice A1 J.head.rows.length c1):=BTr.out.cell' rfl
       have r6:wr.cell? ⟨w3.heap.size,6,none⟩=some (.slice B1 J.head.ents.length d1):=BTr.out.cell' rfl
       have r7:wr.cell? ⟨w3.heap.size,7,none⟩=some (.string J.head.key):=BTr.out.cell' rfl
       have r8:wr.cell? ⟨w3.heap.size,8,none⟩=some (.string J.head.val):=BTr.out.cell' rfl
       have r9:wr.cell? ⟨w3.heap.size,9,none⟩=some (.int .i64 J.head.page):=BTr.out.cell' rfl
       have r10:wr.cell? ⟨w3.heap.size,10,none⟩=some (.int .i64 J.head.hpage):=BTr.out.cell' rfl
       have r11:wr.cell? ⟨w3.heap.size,11,none⟩=some (.int .i64 J.head.hleft):=BTr.out.cell' rfl
       have r12:wr.cell? ⟨w3.heap.size,12,none⟩=some (.string J.head.hkey):=BTr.out.cell' rfl
       have r13:wr.cell? ⟨w3.heap.size,13,none⟩=some (.int .i64 J.head.nslot):=BTr.out.cell' rfl
       have r14:wr.cell? ⟨w3.heap.size,14,none⟩=some (.int .i64 J.head.ngen):=BTr.out.cell' rfl
       refine wp_region_U (m:=3) (S:=fun w':World=>Fr (only w.heap.size) wr w') (by kernel_rfl) ?_
       refine wpAnyU_take2 (i:=0) (v:=_) rfl (by kernel_rfl) (by kernel_rfl) (by kernel_rfl) (by kernel_rfl) (fun _ _ _ h=>h) (.inl ⟨by kernel_rfl,fun w' hS=>by go_simp;rfl⟩) hS0 ?_
       refine wpAnyU_take2 (i:=1) (v:=_) rfl (by kernel_rfl) (by kernel_rfl) (by kernel_rfl) (by kernel_rfl) (fun _ _ _ h=>h) (.inl ⟨by kernel_rfl,fun w' hS=>by have s_0:=cellFrS r0 hS hneT;have s_1:=cellFrS r1 hS hneT;have s_2:=cellFrS r2 hS hneT;have s_3:=cellFrS r3 hS hneT;have s_4:=cellFrS r4 hS hneT;have s_5:=cellFrS r5 hS hneT;have s_6:=cellFrS r6 hS hneT;have s_7:=cellFrS r7 hS hneT;have s_8:=cellFrS r8 hS hneT;have s_9:=cellFrS r9 hS hneT;have s_10:=cellFrS r10 hS hneT;have s_11:=cellFrS r11 hS hneT;have s_12:=cellFrS r12 hS hneT;have s_13:=cellFrS r13 hS hneT;have s_14:=cellFrS r14 hS hneT;go_simp;rfl⟩) hS0 ?_
       refine wpAnyU_take2 (i:=2) (v:=_) rfl (by kernel_rfl) (by kernel_rfl) (by kernel_rfl) (by kernel_rfl) (fun _ _ _ h=>h) (.inl ⟨by kernel_rfl,fun w' hS=>by go_simp;rfl⟩) hS0 ?_
       clear r0 r1 r2 r3 r4 r5 r6 r7 r8 r9 r10 r11 r12 r13 r14 hneT
       refine wpAnyU_oneW (i:=3) rfl (by kernel_rfl) (by kernel_rfl) ?_
       refine wp_store_mid 55 (.tmp 5) (.tmp 62) rfl w.heap.size 0 (recA J.head (.slice A1 J.head.rows.length c1) (.slice B1 J.head.ents.length d1)) rfl rfl (BZr.out.drew.there9 rfl) rec_size (by simp [Value.oneCell']) ?_
       obtain ⟨w5,hw5⟩:∃ z,z=wr.drew.setCells w.heap.size 0 (recA J.head (.slice A1 J.head.rows.length c1) (.slice B1 J.head.ents.length d1)).toList:=⟨_,rfl⟩
       have ov:=BZr.out.drew.over9 (recA J.head (.slice A1 J.head.rows.length c1) (.slice B1 J.head.ents.length d1)).toList rfl
       rw [← hw5] at ov
       have Q5:=hid_ (show Blk w5 w.heap.size 55 (recA J.head (.slice A1 J.head.rows.length c1) (.slice B1 J.head.ents.length d1)) from ov.1)
       have F5:=hid_ (show Fr (only w.heap.size) wr w5 from (Fr.refl _ wr).drew.trans ov.2 (fun _ _=>id) (fun _ _=>id))
       refine ⟨.inr (by rw [← hw5];exact F5.out),?_⟩
       change wpAnyU _ _ _ _ _ _ _ _ _ (wr.drew.setCells w.heap.size 0 (recA J.head (.slice A1 J.head.rows.length c1) (.slice B1 J.head.ents.length d1)).toList)
       rw [← hw5]
       clear hw5 ov
       refine wpAnyU_done (by kernel_rfl) ?_ _
       go_wp2_with fail
       have q0:=Q5.out.cell' (i:=0) rfl
       have q1:=Q5.out.cell' (i:=1) rfl
       have q2:=Q5.out.cell' (i:=2) rfl
       have q3:=Q5.out.cell' (i:=3) rfl
       have q4:=Q5.out.cell' (i:=4) rfl
       have q5:=Q5.out.cell' (i:=5) rfl
       have q6:=Q5.out.cell' (i:=6) rfl
       have q7:=Q5.out.cell' (i:=7) rfl
       have q8:=Q5.out.cell' (i:=8) rfl
       have q9:=Q5.out.cell' (i:=9) rfl
       have q10:=Q5.out.cell' (i:=10) rfl
       have q11:=Q5.out.cell' (i:=11) rfl
       have q12:=Q5.out.cell' (i:=12) rfl
       have q13:=Q5.out.cell' (i:=13) rfl
       have q14:=Q5.out.cell' (i:=14) rfl
       refine bodyPost_ret (v:=.tuple #[.slice oA q.Cs.length oc,recV J.head (.slice A1 J.head.rows.length c1) (.slice B1 J.head.ents.length d1)]) ?_ rfl ?_
       ·simp [results,Tryz.results38,go_sem,q0,q1,q2,q3,q4,q5,q6,q7,q8,q9,q10,q11,q12,q13,q14]
       ·refine ⟨oA,oc,Ds,A1,c1,B1,d1,?_⟩
        rw [HJL.out,EJ.out]
        have PRr:=OP.out
        have o1:=own_fr (own_fr O.out FP.out (fun k hk e=>own_own_ne O.out PR2.out (by decide) k hk e)) F5.out (fun k hk e=>by have h1:=(own_blk O.out hk).1;have h2:=BW.out;have h3:k=w.heap.size:=e;omega)
        have ro:∀ {b:Nat} {R:Rc} {vr ve:Value},RecOwn w4 b R vr ve→RecOwn w5 b R vr ve:=fun h=>(h.fr FP.out (fun k hk e=>own_own_ne h.r PR2.out (by decide) k hk e) (fun k hk e=>own_own_ne h.e PR2.out (by decide) k hk e)).only F5.out BZr.out (by decide) (by decide)
        refine ⟨rfl,HCM'.out,own_base o1 (Nat.le_of_lt BW.out),fun D hD=>(ro (HCS.out D hD)).base (Nat.le_of_lt BW.out),ro RO.out,cellFrS (cellFrS HC2.out FP.out (fun e=>HN.out.1 e)) F5.out (only_ne HCN.out),?_,(F2.out.trans FP.out (fun _ _=>id) (fun _ _ e=>.inr e)).then_only F5.out (.inr (Nat.le_refl _))⟩
        exact CA2.out.elim fun cs hb=>⟨cs,(hb.fr FP.out (fun e=>HN.out.1 e)).fr F5.out (only_ne HCN.out)⟩
   ·have EJ:=hid_ (show jhead J ps=J.head by unfold jhead;rw [if_neg (fun e=>h1 e.1)])
    have dd1:decide (1≤J.fresh)=false:=by simpa using h1
    clear h1
    go_wp2_with fail
    go_loopw [51] (fun i wr=>∃ (k:Nat) (ps2:List Int),k≤ps.length∧i=.int .i64 k∧ps2.length=ps.length∧wr.ownsRow B 3 1 (.slice pA ps.length pc) ps.length (intF ps2)∧Fr (fun b=>(Value.slice pA ps.length pc).ownBlock=some b) w4 wr) (fun i _=>ps.length - (intOf i).toNat)
    case atStart=>exact ⟨0,ps,Nat.zero_le _,rfl,rfl,PR2.out,Fr.refl _ _⟩
    case round =>
     obtain ⟨kk,ps2,hkk,rfl,hps2,hown2,hF2⟩:=hrel
     have OP:=hid_ hown2
     have FP:=hid_ hF2
     have HP2:=hid_ hps2
     clear hown2 hF2 hps2
     have hi0:(0:Int)≤(kk:Int):=Int.natCast_nonneg _
     by_cases hlt2:kk < ps.length
     ·obtain ⟨n2,hn⟩:∃ n2,ps2[kk]?=some n2:=⟨_,List.getElem?_eq_getElem (by rw [HP2.out];omega)⟩
      obtain ⟨g,rfl,hc2,hy2⟩:=own_i1 OP.out hlt2 hn
      have hi1:(kk:Int) < (ps.length:Int):=by omega
      clear hn
      go_wp2_with fail
      have hst:=own_set1 OP.out hlt2 (wrap64 (n2+1))
      have HST:=hid_ (And.intro hst (FP.out.setCell (p:=⟨g,kk,none⟩) (.inl rfl) (.int .i64 (wrap64 (n2+1)))))
      clear hst
      go_roundw
      case rel=>exact ⟨kk+1,ps2.set kk (wrap64 (n2+1)),by omega,by go_num,by rw [List.length_set];exact HP2.out,HST.out.1,HST.out.2⟩
      case measure=>simp [intOf];omega
     ·obtain rfl:kk=ps.length:=by omega
      go_wp2_with fail
      have hS0:(fun w':World=>Fr (only w.heap.size) wr w') wr.drew:=(Fr.refl _ wr).drew
      have BTr:=hid_ (BT.out.fr FP.out (fun e=>own_blk_ne OP.out (BT.out.fr FP.out (fun e2=>own_blk_ne PR2.out BT.out (by decide) e2)) (by decide) e))
      have BZr:=hid_ (BZ2.out.fr FP.out (fun e=>own_blk_ne PR2.out BZ2.out (by decide) e))
      have hneT:¬ only w.heap.size w3.heap.size:=only_ne (by have:=HTW.out;have:=BZ2.out.lt;exact (fun e=>TNE.out e))
      have r0:wr.cell? ⟨w3.heap.size,0,none⟩=some (.int .i64 J.head.kind):=BTr.out.cell' rfl
      have r1:wr.cell? ⟨w3.heap.size,1,none⟩=some (.string J.head.low):=BTr.out.cell' rfl
      have r2:wr.cell? ⟨w3.heap.size,2,none⟩=some (.string J.head.high):=BTr.out.cell' rfl
      have r3:wr.cell? ⟨w3.heap.size,3,none⟩=some (.bool J.head.unb):=BTr.out.cell' rfl
      have r4:wr.cell? ⟨w3.heap.size,4,none⟩=some (.int .i64 J.head.right):=BTr.out.cell' rfl
      have r5:wr.cell? ⟨w3.heap.size,5,none⟩=some (.slice A1 J.head.rows.length c1):=BTr.out.cell' rfl
      have r6:wr.cell? ⟨w3.heap.size,6,none⟩=some (.slice B1 J.head.ents.length d1):=BTr.out.cell' rfl
      have r7:wr.cell? ⟨w3.heap.size,7,none⟩=some (.string J.head.key):=BTr.out.cell' rfl
      have r8:wr.cell? ⟨w3.heap.size,8,none⟩=some (.string J.head.val):=BTr.out.cell' rfl
      have r9:wr.cell? ⟨w3.heap.size,9,none⟩=some (.int .i64 J.head.page):=BTr.out.cell' rfl
      have r10:wr.cell? ⟨w3.heap.size,10,none⟩=some (.int .i64 J.head.hpage):=BTr.out.cell' rfl
      have r11:wr.cell? ⟨w3.heap.size,11,none⟩=some (.int .i64 J.head.hleft):=BTr.out.cell' rfl
      have r12:wr.cell? ⟨w3.heap.size,12,none⟩=some (.string J.head.hkey):=BTr.out.cell' rfl
      have r13:wr.cell? ⟨w3.heap.size,13,none⟩=some (.int .i64 J.head.nslot):=BTr.out.cell' rfl
      have r14:wr.cell? ⟨w3.heap.size,14,none⟩=some (.int .i64 J.head.ngen):=BTr.out.cell' rfl
      refine wp_region_U (m:=3) (S:=fun w':World=>Fr (only w.heap.size) wr w') (by kernel_rfl) ?_
      refine wpAnyU_take2 (i:=0) (v:=_) rfl (by kernel_rfl) (by kernel_rfl) (by kernel_rfl) (by kernel_rfl) (fun _ _ _ h=>h) (.inl ⟨by kernel_rfl,fun w' hS=>by go_simp;rfl⟩) hS0 ?_
      refine wpAnyU_take2 (i:=1) (v:=_) rfl (by kernel_rfl) (by kernel_rfl) (by kernel_rfl) (by kernel_rfl) (fun _ _ _ h=>h) (.inl ⟨by kernel_rfl,fun w' hS=>by have s_0:=cellFrS r0 hS hneT;have s_1:=cellFrS r1 hS hneT;have s_2:=cellFrS r2 hS hneT;have s_3:=cellFrS r3 hS hneT;have s_4:=cellFrS r4 hS hneT;have s_5:=cellFrS r5 hS hneT;have s_6:=cellFrS r6 hS hneT;have s_7:=cellFrS r7 hS hneT;have s_8:=cellFrS r8 hS hneT;have s_9:=cellFrS r9 hS hneT;have s_10:=cellFrS r10 hS hneT;have s_11:=cellFrS r11 hS hneT;have s_12:=cellFrS r12 hS hneT;have s_13:=cellFrS r13 hS hneT;have s_14:=cellFrS r14 hS hneT;go_simp;rfl⟩) hS0 ?_
      refine wpAnyU_take2 (i:=2) (v:=_) rfl (by kernel_rfl) (by kernel_rfl) (by kernel_rfl) (by kernel_rfl) (fun _ _ _ h=>h) (.inl ⟨by kernel_rfl,fun w' hS=>by go_simp;rfl⟩) hS0 ?_
      clear r0 r1 r2 r3 r4 r5 r6 r7 r8 r9 r10 r11 r12 r13 r14 hneT
      refine wpAnyU_oneW (i:=3) rfl (by kernel_rfl) (by kernel_rfl) ?_
      refine wp_store_mid 55 (.tmp 5) (.tmp 62) rfl w.heap.size 0 (recA J.head (.slice A1 J.head.rows.length c1) (.slice B1 J.head.ents.length d1)) rfl rfl (BZr.out.drew.there9 rfl) rec_size (by simp [Value.oneCell']) ?_
      obtain ⟨w5,hw5⟩:∃ z,z=wr.drew.setCells w.heap.size 0 (recA J.head (.slice A1 J.head.rows.length c1) (.slice B1 J.head.ents.length d1)).toList:=⟨_,rfl⟩
      have ov:=BZr.out.drew.over9 (recA J.head (.slice A1 J.head.rows.length c1) (.slice B1 J.head.ents.length d1)).toList rfl
      rw [← hw5] at ov
      have Q5:=hid_ (show Blk w5 w.heap.size 55 (recA J.head (.slice A1 J.head.rows.length c1) (.slice B1 J.head.ents.length d1)) from ov.1)
      have F5:=hid_ (show Fr (only w.heap.size) wr w5 from (Fr.refl _ wr).drew.trans ov.2 (fun _ _=>id) (fun _ _=>id))
      refine ⟨.inr (by rw [← hw5];exact F5.out),?_⟩
      change wpAnyU _ _ _ _ _ _ _ _ _ (wr.drew.setCells w.heap.size 0 (recA J.head (.slice A1 J.head.rows.length c1) (.slice B1 J.head.ents.length d1)).toList)
      rw [← hw5]
      clear hw5 ov
      refine wpAnyU_done (by kernel_rfl) ?_ _
      go_wp2_with fail
      have q0:=Q5.out.cell' (i:=0) rfl
      have q1:=Q5.out.cell' (i:=1) rfl
      have q2:=Q5.out.cell' (i:=2) rfl
      have q3:=Q5.out.cell' (i:=3) rfl
      have q4:=Q5.out.cell' (i:=4) rfl
      have q5:=Q5.out.cell' (i:=5) rfl
      have q6:=Q5.out.cell' (i:=6) rfl
      have q7:=Q5.out.cell' (i:=7) rfl
      have q8:=Q5.out.cell' (i:=8) rfl
      have q9:=Q5.out.cell' (i:=9) rfl
      have q10:=Q5.out.cell' (i:=10) rfl
      have q11:=Q5.out.cell' (i:=11) rfl
      have q12:=Q5.out.cell' (i:=12) rfl
      have q13:=Q5.out.cell' (i:=13) rfl
      have q14:=Q5.out.cell' (i:=14) rfl
      refine bodyPost_ret (v:=.tuple #[.slice oA q.Cs.length oc,recV J.head (.slice A1 J.head.rows.length c1) (.slice B1 J.head.ents.length d1)]) ?_ rfl ?_
      ·simp [results,Tryz.results38,go_sem,q0,q1,q2,q3,q4,q5,q6,q7,q8,q9,q10,q11,q12,q13,q14]
      ·refine ⟨oA,oc,Ds,A1,c1,B1,d1,?_⟩
       rw [HJL.out,EJ.out]
       have PRr:=OP.out
       have o1:=own_fr (own_fr O.out FP.out (fun k hk e=>own_own_ne O.out PR2.out (by decide) k hk e)) F5.out (fun k hk e=>by have h1:=(own_blk O.out hk).1;have h2:=BW.out;have h3:k=w.heap.size:=e;omega)
       have ro:∀ {b:Nat} {R:Rc} {vr ve:Value},RecOwn w4 b R vr ve→RecOwn w5 b R vr ve:=fun h=>(h.fr FP.out (fun k hk e=>own_own_ne h.r PR2.out (by decide) k hk e) (fun k hk e=>own_own_ne h.e PR2.out (by decide) k hk e)).only F5.out BZr.out (by decide) (by decide)
       refine ⟨rfl,HCM'.out,own_base o1 (Nat.le_of_lt BW.out),fun D hD=>(ro (HCS.out D hD)).base (Nat.le_of_lt BW.out),ro RO.out,cellFrS (cellFrS HC2.out FP.out (fun e=>HN.out.1 e)) F5.out (only_ne HCN.out),?_,(F2.out.trans FP.out (fun _ _=>id) (fun _ _ e=>.inr e)).then_only F5.out (.inr (Nat.le_refl _))⟩
       exact CA2.out.elim fun cs hb=>⟨cs,(hb.fr FP.out (fun e=>HN.out.1 e)).fr F5.out (only_ne HCN.out)⟩
end Go.Proofs.YthcpccddcgbanaaGreatDoor
