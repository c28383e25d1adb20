/- Texts of one proof, merged: Plays12. -/
import Derived.BigRegion
import Derived.BigQuiet
import Derived.Great.BuildSlice
import Derived.Test.YthcpccddcgbanaaGreatDoorPiQ
import Derived.Test.YthcpccddcgbanaaGreatDoorPiYG
import Derived.Test.YthcpccddcgbanaaGreatDoorPiYI
namespace Go.Proofs.YthcpccddcgbanaaGreatDoor
open Go.RowKit Go.BigFrame Go.ChangeShapes Go.WideShapes
set_option maxRecDepth 100000
set_option linter.unusedVariables false

theorem fill_one12 (cells base:Array Value) (s:Nat) (hc:cells.size=s) (hs:0 < s) (hb:base.size=s):Instr.fill (fun i=>some (i * s,s)) base [(0,.agg cells)]=some cells:=by
  obtain ⟨r, h1, h2, h3⟩ := Great.fill_dense hs [.agg cells] 0 base (fun v hv => by obtain rfl : v = .agg cells := by simpa using hv
                                                                                    exact hc) (by simp [hb])
  have e:r=cells:=by
    apply Array.ext_getElem?
    intro k
    rw [h3 k]
    by_cases hk:k < s
    · rw [if_pos ⟨by omega,by simpa using hk⟩,Nat.div_eq_of_lt hk,Nat.mod_eq_of_lt hk]
      rfl
    · rw [if_neg (by intro h;exact hk (by simpa using h.2)),Array.getElem?_eq_none (by omega),Array.getElem?_eq_none (by omega)]
  rw [e] at h1
  exact h1
theorem run_build12 {P:Program} (t e:TypeId) (ie:TypeInfo) (z:Value) (s:Nat) (hu:P.underlying t=some (.slice e)) (hie:P.info? e=some ie) (hz:ie.zero=some z) (hsz:ie.size=s) (hs:0 < s) (hs2:s≤2 ^ 24) (cells:Array Value) (hc:cells.size=s) (w:World):(Instr.buildSlice t 1 #[(0,.agg cells)]).run P w=.ok (.slice (some ⟨w.heap.size,0,none⟩) 1 1) (w.alloc (.cells cells e)):=by
  refine run_buildSlice w t e 1 _ cells ie z hu hie hz (by rw [hsz];omega) (by rw [hsz];omega) ?_
  rw [hsz]
  exact fill_one12 cells _ s hc hs (by simp)
theorem ex_build12 {P:Program} {oi:Oper} {a:Act} (t e:TypeId) (x:Operand) (ie:TypeInfo) (z:Value) (s:Nat) (ho:oi.op=.buildSlice t 1 #[(0,x)]) (cells:Array Value) (hx:a.eval x=.agg cells) (hu:P.underlying t=some (.slice e)) (hie:P.info? e=some ie) (hz:ie.zero=some z) (hsz:ie.size=s) (hs:0 < s) (hs2:s≤2 ^ 24) (hc:cells.size=s) (w:World):(execOp a.eval oi).run P w=.ok (.value (.slice (some ⟨w.heap.size,0,none⟩) 1 1)) (w.alloc (.cells cells e)):=by
  have h:=run_build12 (P:=P) t e ie z s hu hie hz hsz hs hs2 cells hc w
  unfold execOp
  simp only [ho,Sem.run_bind,List.map_toArray,List.map_cons,List.map_nil,hx,h,Result.andThen_ok,Sem.run_pure]
theorem ex_load12 {P:Program} {oi:Oper} {a:Act} (ty:TypeId) (x:Operand) (ho:oi.op=.load ty x) (b o:Nat) (hx:a.eval x=.pointer (some ⟨b,o,none⟩)) (cs:List Value) (d:TypeDesc) (w:World) (hr:w.rangeAt b o cs) (hu:P.underlying ty=some d) (hd:d.isRow=true) (hi:(P.info? ty).map (·.size)=some cs.length):(execOp a.eval oi).run P w=.ok (.value (.agg cs.toArray)) w:=by
  unfold execOp
  simp only [ho,hx,Instr.loadAt,Instr.sureAddr,Sem.run_bind,Sem.run_pure,Result.andThen_ok,run_loadVar_mid w b o ty cs d hr hu hd hi]
theorem ex_neqr {P:Program} {oi:Oper} {a:Act} (t:TypeId) (x y:Operand) (u v:Value) (r:Bool) (ho:oi.op=.binOp .neq t x y t) (hx:a.eval x=u) (hy:a.eval y=v) {w:World} (hg:(eqGuard .neq t x y u v).run P w=.ok () w) (h:(binOp .neq t u v).run P w=.ok (.bool r) w):(execOp a.eval oi).run P w=.ok (.value (.bool r)) w:=by
  unfold execOp
  simp only [ho,hx,hy,Sem.run_bind,hg,h,Result.andThen_ok,Sem.run_pure]
theorem refs_last12 {w:World} {d:Rz} {y:Rl} {rs:List Rf} {s g:Int} (h:RiIn w d y) (hl:d.refs=rs ++ [(s,g)]):∃ b off,y.rA=some ⟨b,off,none⟩∧w.cell? ⟨b,off+rs.length * 2,none⟩=some (.int .i64 s)∧w.cell? ⟨b,off+rs.length * 2+1,none⟩=some (.int .i64 g):=by
  have hln:d.refs.length=rs.length+1:=by rw [hl,List.length_append];rfl
  obtain ⟨b,off,hA,hbl,hc⟩:=reads_lit h.r (by omega) (by rw [hln];omega)
  refine ⟨b,off,hA,hc (rs.length * 2) _ (by rw [hl,rfFlat_snoc12,List.getElem?_append_right (by rw [rfFlat_len12];omega),rfFlat_len12,Nat.sub_self];rfl),?_⟩
  rw [Nat.add_assoc]
  exact hc (rs.length * 2+1) _ (by rw [hl,rfFlat_snoc12,List.getElem?_append_right (by rw [rfFlat_len12];omega),rfFlat_len12,show rs.length * 2+1 - rs.length * 2=1 by omega];rfl)
theorem pt_info12:(Tryz.prog.info? 58).map (fun i=>(i.zero,i.size,i.bytes))=some (some (.pointer none),1,8):=by kernel_rfl
theorem ri_info12:(Tryz.prog.info? 68).map (fun i=>(i.zero,i.size,i.bytes))=some (some (.agg riZ),29,328):=by kernel_rfl
theorem int_info12:(Tryz.prog.info? 3).map (fun i=>(i.zero,i.size,i.bytes))=some (some (.int .i64 0),1,8):=by kernel_rfl
theorem ex_indexO {oi:Oper} {a:Act} (t e:TypeId) (x y:Operand) (b n m c:Nat) (ho:oi.op=.indexAddr t x y) (hx:a.eval x=.slice (some ⟨b,0,none⟩) m c) (hy:a.eval y=.int .i64 n) (hu:Tryz.prog.underlying t=some (.slice e)) (hs:∀ w,(sizeOf e).run Tryz.prog w=.ok 1 w) (hn:n < m) (w:World) :
    (execOp a.eval oi).run Tryz.prog w=.ok (.value (.pointer (some ⟨b,n,none⟩))) w:=by
  have h:=ex_indexZ 1 t e x y b n m c ho hx hy hu hs hn w
  rwa [Nat.mul_one] at h
abbrev yq12 (y:Jl) (jb cb cab cao:Nat):Jl:={ y with jb:=jb,cb:=cb,cab:=cab,cao:=cao }
set_option maxHeartbeats 32000000 in
theorem plays12_walk (s p tt r c q:Int) (A:Option Addr) (n cap:Nat) (L0:List Jq) (T:Option Addr) (tn tc:Nat) (W:World) (hLd:Laid W) (hJ:JobsIn W A n L0) (hn:n≤maxLen) (hT:Bytes12 W T tn) (htn:tn≤maxLen) :
  Calls Tryz.prog 3 #[.agg #[.int .i64 s,.int .i64 p,.int .i64 tt,.int .i64 r,.int .i64 c,.int .i64 q],.slice A n cap,.slice T tn tc] W fun e w'=>e=.returned (.bool true)∧Fr none_ W w':=by
 obtain ⟨j0,hj0,hy0,ht0,hc0⟩:=info_parts pt_info12
 have Hj:=hid_ (And.intro hj0 (And.intro hy0 (And.intro ht0 hc0)))
 clear hj0 hy0 ht0 hc0
 obtain ⟨j0b,hj0,hy0,ht0,hc0⟩:=info_parts ri_info12
 have Hjb:=hid_ (And.intro hj0 (And.intro hy0 (And.intro ht0 hc0)))
 clear hj0 hy0 ht0 hc0
 obtain ⟨j0c,hj0,hy0,ht0,hc0⟩:=info_parts int_info12
 have HLD:=hid_ hLd
 have HJ:=hid_ hJ
 have HT:=hid_ hT
 have HINT:=hid_ (And.intro hj0 (And.intro hy0 (And.intro ht0 hc0)))
 have F:=hid_ (Fr.refl none_ W)
 clear hJ hT hLd hj0 hy0 ht0 hc0
 go_enter Tryz.func3,Tryz.ntmps3
 go_upto_region 1 with fail
 obtain ⟨w0,hw0⟩:∃ z,z=W.alloc (.cells #[.int .i64 s,.int .i64 p,.int .i64 tt,.int .i64 r,.int .i64 c,.int .i64 q] 23):=⟨_,rfl⟩
 have fw0:Fr none_ W w0:=by rw [hw0];exact (Fr.refl none_ W).alloc _
 have BL:Hid (Blk w0 W.heap.size 23 (#[.int .i64 s,.int .i64 p,.int .i64 tt,.int .i64 r,.int .i64 c,.int .i64 q])):=hid_ (by rw [hw0];exact Blk.new W _ _)
 replace F:=hid_ (F.out.then_none fw0)
 change Code.wp _ _ _ _ (W.alloc (.cells #[.int .i64 s,.int .i64 p,.int .i64 tt,.int .i64 r,.int .i64 c,.int .i64 q] 23))
 rw [← hw0]
 clear hw0 fw0
 have v0:w0.cell? ⟨W.heap.size,0,none⟩=some (.int .i64 s):=BL.out.cell' rfl
 have v1:w0.cell? ⟨W.heap.size,1,none⟩=some (.int .i64 p):=BL.out.cell' rfl
 have v2:w0.cell? ⟨W.heap.size,2,none⟩=some (.int .i64 tt):=BL.out.cell' rfl
 have v3:w0.cell? ⟨W.heap.size,3,none⟩=some (.int .i64 r):=BL.out.cell' rfl
 have v4:w0.cell? ⟨W.heap.size,4,none⟩=some (.int .i64 c):=BL.out.cell' rfl
 have v5:w0.cell? ⟨W.heap.size,5,none⟩=some (.int .i64 q):=BL.out.cell' rfl
 go_wp2_with fail
 refine (few12_ok s p tt r c q A n cap L0 T tn tc _ (HJ.out.keep F.out) hn htn).mono ?_
 rintro e w1 ⟨⟨b,rfl,hb⟩,hf1⟩
 have HB:=hid_ hb
 clear hb v0 v1 v2 v3 v4 v5
 replace F:=hid_ (F.out.then_none hf1)
 replace BL:=hid_ (BL.out.fr hf1 id)
 clear hf1
 cases b with
 | false =>
  go_wp2_with fail
  refine (awake12 _).mono ?_
  rintro e w9 ⟨rfl,hf9⟩
  have F9:=hid_ (F.out.then_none hf9)
  clear hf9
  go_wp2_with fail
  go_ret
  exact ⟨rfl,F9.out⟩
 | true =>
  have hfo:=HB.out rfl
  obtain ⟨hn6,ht150,hR,hjs⟩:=hfo
  have HJS:=hid_ hjs
  have hss:∃ sn:Nat,s=(sn:Int):=⟨s.toNat,by omega⟩
  have hpp:∃ pn:Nat,p=(pn:Int):=⟨p.toNat,by omega⟩
  obtain ⟨sn,rfl⟩:=hss
  obtain ⟨pn,rfl⟩:=hpp
  obtain ⟨l1,l2,l3,l4,l5,l6,l7,l8,l9,l10,l11,l12⟩:=hR
  have HLR:=hid_ (show Lm.Right ⟨sn,pn,tt,r,c,q⟩ from ⟨⟨l1,Int.le_trans l2 (by decide)⟩,⟨l3,Int.le_trans l4 (by decide)⟩,⟨l5,l6⟩,⟨l7,l8⟩,⟨l9,l10⟩,⟨l11,l12⟩⟩)
  clear l1 l2 l3 l4 l5 l6 l7 l8 l9 l10 l11 l12 hjs HB
  have v0:w1.cell? ⟨W.heap.size,0,none⟩=some (.int .i64 (sn:Int)):=BL.out.cell' rfl
  have v1:w1.cell? ⟨W.heap.size,1,none⟩=some (.int .i64 (pn:Int)):=BL.out.cell' rfl
  have v2:w1.cell? ⟨W.heap.size,2,none⟩=some (.int .i64 tt):=BL.out.cell' rfl
  have v3:w1.cell? ⟨W.heap.size,3,none⟩=some (.int .i64 r):=BL.out.cell' rfl
  have v4:w1.cell? ⟨W.heap.size,4,none⟩=some (.int .i64 c):=BL.out.cell' rfl
  have v5:w1.cell? ⟨W.heap.size,5,none⟩=some (.int .i64 q):=BL.out.cell' rfl
  go_wp2_with fail
  refine (memNew_ok ⟨sn,pn,tt,r,c,q⟩ _ HLR.out).mono ?_
  rintro e w2 ⟨m,a,G,vr,ve,Tb,H,C,M,rfl,hM,hf2,hm⟩
  have MM:=hid_ hM
  have HM:=hid_ (show ∀ b,mall m (newSt12 a G vr ve Tb H C M ⟨sn,pn,tt,r,c,q⟩) b→W.heap.size≤b from fun b hb=>Nat.le_trans F.out.size (mall_ge hm b hb))
  have HM2:=hid_ (show ∀ b,mall m (newSt12 a G vr ve Tb H C M ⟨sn,pn,tt,r,c,q⟩) b→b < w2.heap.size from mall_lt12 hM)
  replace F:=hid_ (F.out.then_none hf2)
  replace BL:=hid_ (BL.out.fr hf2 id)
  clear hM hf2 hm v0 v1 v2 v3 v4 v5
  have v0:w2.cell? ⟨W.heap.size,0,none⟩=some (.int .i64 (sn:Int)):=BL.out.cell' rfl
  have v1:w2.cell? ⟨W.heap.size,1,none⟩=some (.int .i64 (pn:Int)):=BL.out.cell' rfl
  have v2:w2.cell? ⟨W.heap.size,2,none⟩=some (.int .i64 tt):=BL.out.cell' rfl
  have v3:w2.cell? ⟨W.heap.size,3,none⟩=some (.int .i64 r):=BL.out.cell' rfl
  have v4:w2.cell? ⟨W.heap.size,4,none⟩=some (.int .i64 c):=BL.out.cell' rfl
  have v5:w2.cell? ⟨W.heap.size,5,none⟩=some (.int .i64 q):=BL.out.cell' rfl
  go_wp2_with fail
  refine (rnew9_ok ⟨sn,pn,tt,r,c,q⟩ HLR.out _).mono ?_
  rintro e w3 ⟨PA,pc,T2,tc2,CA,cm,cc,rfl,hra,htb,hT2,hf3,hPA⟩
  have RA:=hid_ hra
  have TB:=hid_ htb
  have HPA:=hid_ (show ∀ ad,PA=some ad→w2.heap.size≤ad.block∧ad.block < w3.heap.size from fun ad had=>⟨hPA ad had,ra_low hra (by decide) ad had⟩)
  have H23:=hid_ hf3.size
  replace MM:=hid_ (MM.out.keep hf3)
  replace F:=hid_ (F.out.then_none hf3)
  clear hra htb hT2 hf3 hPA BL v0 v1 v2 v3 v4 v5
  go_upto_region 7 with (refine wpList_store_mid rfl 43 (.tmp 9) (.tmp 40) rfl w3.heap.size 0 (dmA (⟨sn,pn,tt,r,c,q⟩:Lm) (sn:Int) q (.slice PA 1 pc) (pn:Int) (.slice T2 1 tc2) 1 q (.slice CA cm cc) 0) rfl rfl (new_there w3 _ dmZ) dm_size (by simp [Value.oneCell']) ?_;obtain ⟨w4,hw4⟩:∃ z,z=(w3.alloc (.cells dmZ 43)).setCells w3.heap.size 0 (dmA (⟨sn,pn,tt,r,c,q⟩:Lm) (sn:Int) q (.slice PA 1 pc) (pn:Int) (.slice T2 1 tc2) 1 q (.slice CA cm cc) 0).toList:=⟨_,rfl⟩;change wpList _ _ _ _ _ ((w3.alloc (.cells dmZ 43)).setCells w3.heap.size 0 (dmA (⟨sn,pn,tt,r,c,q⟩:Lm) (sn:Int) q (.slice PA 1 pc) (pn:Int) (.slice T2 1 tc2) 1 q (.slice CA cm cc) 0).toList);rw [← hw4];have Q4:Hid (Blk w4 w3.heap.size 43 (dmA (⟨sn,pn,tt,r,c,q⟩:Lm) (sn:Int) q (.slice PA 1 pc) (pn:Int) (.slice T2 1 tc2) 1 q (.slice CA cm cc) 0)∧Fr none_ w3 w4):=hid_ (by rw [hw4];exact new_copy w3 43 dmZ (dmA (⟨sn,pn,tt,r,c,q⟩:Lm) (sn:Int) q (.slice PA 1 pc) (pn:Int) (.slice T2 1 tc2) 1 q (.slice CA cm cc) 0).toList rfl);clear hw4)
  have BR:=hid_ Q4.out.1
  replace RA:=hid_ (RA.out.keep Q4.out.2)
  replace TB:=hid_ (own_none TB.out Q4.out.2)
  replace MM:=hid_ (MM.out.keep Q4.out.2)
  replace F:=hid_ (F.out.then_none Q4.out.2)
  clear Q4
  have hmk:∀ W,(Instr.makeSlice 39 (.int .i64 (n:Int)) (.int .i64 (n:Int))).run Tryz.prog W=.ok (.slice (some ⟨W.heap.size,0,none⟩) n n) (W.alloc (.cells (cellsI (List.replicate n 0)) 3)):=fun W=>by
   have h:=run_make_rowN (P:=Tryz.prog) 39 3 j0c _ Tryz.underlying39 HINT.out.1 HINT.out.2.1 .i64 .i64 n n (Nat.le_refl _) (by rw [HINT.out.2.2.2];omega) (by omega) W
   rw [HINT.out.2.2.1,made_ints12] at h
   exact h
  go_upto_region 10 with fail
  obtain ⟨w5,hw5⟩:∃ z,z=w4.alloc (.cells (cellsI (List.replicate n 0)) 3):=⟨_,rfl⟩
  have fw5:Fr none_ w4 w5:=by rw [hw5];exact (Fr.refl none_ w4).alloc _
  have BC:Hid (Blk w5 w4.heap.size 3 (cellsI (List.replicate n 0))):=hid_ (by rw [hw5];exact Blk.new w4 _ _)
  have HSZ:=hid_ (show w3.heap.size < w4.heap.size∧w4.heap.size < w5.heap.size∧W.heap.size≤w3.heap.size from ⟨BR.out.lt,BC.out.lt,by have h1:=H23.out;have h2:=HM.out m (.inl rfl);have h3:=HM2.out m (.inl rfl);omega⟩)
  replace F:=hid_ (F.out.then_none fw5)
  replace MM:=hid_ (MM.out.keep fw5)
  replace RA:=hid_ (RA.out.keep fw5)
  replace TB:=hid_ (own_none TB.out fw5)
  replace BR:=hid_ (BR.out.fr fw5 id)
  change Code.wp _ _ _ _ (w4.alloc (.cells (cellsI (List.replicate n 0)) 3))
  rw [← hw5]
  clear hw5 fw5 hmk
  have BG:∃ (D0:Nat→Prop) (u0:Dk) (c0:Dc),Beg W w5 m 0 ⟨sn,pn,tt,r,c,q⟩ (newSt12 a G vr ve Tb H C M ⟨sn,pn,tt,r,c,q⟩) w4.heap.size (List.replicate n 0) w5.heap.size (.slice none 0 0) (.slice none 0 0) w3.heap.size D0 u0 c0 [] []∧Low D0 m (newSt12 a G vr ve Tb H C M ⟨sn,pn,tt,r,c,q⟩) w4.heap.size w3.heap.size w5.heap.size W:=by
   have hs1:=HSZ.out
   refine ⟨fun g=>∃ ad,PA=some ad∧g=ad.block,⟨1,q,CA,cm,cc⟩,⟨[leafP12],PA,pc,[(0,1,1)],T2,tc2⟩,⟨⟨MM.out,by decide,by decide,HM.out,BC.out,by omega,fun j z h=>(by simp at h),fun j z h=>(by simp at h),fun j1 j2 z1 z2 h=>(by simp at h)⟩,⟨F.out,BR.out,⟨RA.out,TB.out,dm_new12 HLR.out vr ve,?_⟩,fun z hz=>?_,fun j e h=>(by simp at h),fun _ ad had=>⟨ad,had,rfl⟩,?_,by show (1:Int)≤0+1;decide⟩,World.ownsRow_nil _ _ _ _,World.ownsRow_nil _ _ _ _,fun j z h=>(by simp at h),fun i _ hi=>?_⟩,⟨?_,by omega,by omega⟩⟩
   ·show (List.replicate (pn - 1) ((false,0,0):Pg)).length+1=pn
    have:=HLR.out.p
    rw [List.length_replicate]
    have h3:3≤(pn:Int):=this.1
    omega
   ·obtain rfl:z=leafP12:=by simpa using hz
    exact reads_leaf W
   ·rintro g ⟨ad,had,rfl⟩
    have:=(HPA.out ad had).2
    omega
   ·rw [List.length_replicate] at hi
    rw [List.getElem?_replicate,if_pos hi]
   ·rintro g ⟨ad,had,rfl⟩
    have h1:=HPA.out ad had
    exact ⟨by omega,fun e=>(by have:=HM2.out _ e;omega),by omega,by omega⟩
  clear MM HM HM2 RA TB HPA BR BC H23
  obtain ⟨x0,hx0⟩:∃ x0,x0=newSt12 a G vr ve Tb H C M ⟨sn,pn,tt,r,c,q⟩:=⟨_,rfl⟩
  obtain ⟨lm,hlm⟩:∃ lm:Lm,lm=⟨sn,pn,tt,r,c,q⟩:=⟨_,rfl⟩
  rw [← hlm] at BG HLR hx0
  rw [← hx0] at BG
  clear hx0 hlm
  obtain ⟨D0,u0,c0,BG,LOW⟩:=BG
  replace BG:=hid_ BG
  replace LOW:=hid_ LOW
  obtain ⟨gr,hgr⟩:∃ g,g=w3.heap.size:=⟨_,rfl⟩
  obtain ⟨cab,hcab⟩:∃ g,g=w4.heap.size:=⟨_,rfl⟩
  obtain ⟨BB,hBB⟩:∃ g,g=w5.heap.size:=⟨_,rfl⟩
  rw [← hgr,← hcab,← hBB] at BG LOW
  rw [← hgr,← hcab]
  have HBB:=hid_ hBB
  clear hgr hcab hBB HSZ
  go_wp2_with fail
  go_loopw [10,11,46] (fun vp vi u wr=>∃ (k:Nat) (cs:List Int) (L:List E1),k≤n∧u=.int .i64 k∧L.length=k∧cs.length=n∧BB≤wr.heap.size∧Beg W wr m 0 lm x0 cab cs BB vp vi gr D0 u0 c0 L (zs L)) (fun _ _ u _=>n - (intOf u).toNat)
  case atStart=>exact ⟨0,List.replicate n 0,[],Nat.zero_le _,rfl,rfl,List.length_replicate,by rw [HBB.out];exact Nat.le_refl _,BG.out⟩
  case round =>
   obtain ⟨k,cs,L,hk,rfl,hLl,hcs,hBw,hS⟩:=hrel
   have S:=hid_ hS
   have HL:=hid_ (And.intro hLl (And.intro hcs hBw))
   clear hS hLl hcs hBw BG
   obtain ⟨oA,oc,hvp⟩:=S.out.o.shape
   rw [List.length_map] at hvp
   subst hvp
   obtain ⟨iA,ic,rfl⟩:=S.out.b.shape
   have hi0:(0:Int)≤(k:Int):=Int.natCast_nonneg _
   by_cases hlt:k < n
   ·have hi1:(k:Int) < (n:Int):=by omega
    as_aux_lemma =>
     obtain ⟨⟨J,y⟩,hy⟩:∃ z,L0[k]?=some z:=⟨_,List.getElem?_eq_getElem (by have:=HJ.out.1;omega)⟩
     obtain ⟨b,off,rfl,hb,hR,hJ⟩:=HJ.out.at_ hy
     have HR:=hid_ (show wr.rangeAt b (off+k * 21) (jobB J y).toList from fun j v hv=>cellFr (hR j v hv) S.out.d.f)
     have HJr:=hid_ hJ
     have HSm:=hid_ (HJS.out _ (List.mem_of_getElem? hy))
     clear hR hJ hy hb
     go_upto_region 13 with (first | (refine wpList_load_mid rfl 57 (.tmp 49) rfl b (off+k * 21) rfl (jobB J y).toList _ HR.out Tryz.underlying57 rfl jb_size ?_) | (refine wpList_store_mid rfl 57 (.tmp 14) (.tmp 50) rfl wr.heap.size 0 (jobB J y) rfl rfl (new_there wr _ jobZ) jb_size (by simp [Value.oneCell']) ?_;obtain ⟨w6,hw6⟩:∃ z,z=(wr.alloc (.cells jobZ 57)).setCells wr.heap.size 0 (jobB J y).toList:=⟨_,rfl⟩;change wpList _ _ _ _ _ ((wr.alloc (.cells jobZ 57)).setCells wr.heap.size 0 (jobB J y).toList);rw [← hw6];have P1:Hid (Blk w6 wr.heap.size 57 (jobB J y)∧Fr none_ wr w6):=hid_ (by rw [hw6];exact new_copy wr _ jobZ (jobB J y).toList rfl);clear hw6))
     have S6:=hid_ (S.out.keep P1.out.2)
     have HB6:=hid_ (show BB≤w6.heap.size from Nat.le_trans HL.out.2.2 P1.out.2.size)
     obtain ⟨gj,hgj⟩:∃ g,g=wr.heap.size:=⟨_,rfl⟩
     have BJ:=hid_ P1.out.1
     rw [← hgj] at BJ
     rw [← hgj]
     clear P1 HR S hgj
     have hS0:(fun w':World=>Blk w' gj 57 (jobB J y)) w6.drew:=BJ.out.drew
     refine wp_region_u 16 (fun w':World=>Blk w' gj 57 (jobB J y)) (by kernel_rfl) ?_
     refine u_tkS 0 (some 51) (.slice oA L.length oc) rfl rfl (y_vlS (fun w' hS=>by kernel_rfl)) hS0 ?_
     go_frame
     refine u_tkS 1 (some 52) (.agg (jobB J y)) rfl rfl (yieldsIf_load_mid (by kernel_rfl) 57 (.tmp 14) rfl gj 0 (by kernel_rfl) (jobB J y).toList _ (fun w' hS=>Blk.range7 (l:=(jobB J y).toList) hS) Tryz.underlying57 rfl (by kernel_rfl)) hS0 ?_
     go_frame
     refine u_tkS 2 (some 53) (.slice (some ⟨cab,0,none⟩) n n) rfl rfl (y_vlS (fun w' hS=>by kernel_rfl)) hS0 ?_
     go_frame
     refine u_tkS 3 (some 54) (.int .i64 (k:Int)) rfl rfl (y_vlS (fun w' hS=>by kernel_rfl)) hS0 ?_
     go_frame
     refine u_tkS 4 (some 55) (.pointer (some ⟨cab,k,none⟩)) rfl rfl (y_vlS (fun w' hS=>ex_indexO 39 3 (.tmp 53) (.tmp 54) cab k n n rfl rfl rfl Tryz.underlying39 int_sz12 hlt w')) hS0 ?_
     go_frame
     refine u_tkS 9 (some 60) (.slice iA L.length ic) rfl rfl (y_vlS (fun w' hS=>by kernel_rfl)) hS0 ?_
     go_frame
     refine u_tkS 10 (some 61) (.agg (jobB J y)) rfl rfl (yieldsIf_load_mid (by kernel_rfl) 57 (.tmp 14) rfl gj 0 (by kernel_rfl) (jobB J y).toList _ (fun w' hS=>Blk.range7 (l:=(jobB J y).toList) hS) Tryz.underlying57 rfl (by kernel_rfl)) hS0 ?_
     go_frame
     refine u_callE 5 (some 56) 9 #[.agg (jobB J y),.pointer (some ⟨cab,k,none⟩)] (fun v w'=>∃ jb cb,v=.agg #[.int .i64 J.page,.int .i64 J.os,.int .i64 J.og,.int .i64 J.news,jobF jb cb]∧Blk w' jb 57 (jobB J y)∧Blk w' cb 64 #[.pointer (some ⟨cab,k,none⟩)]∧Fr none_ w6.drew w') rfl rfl (by kernel_rfl) (by kernel_rfl) (by kernel_rfl) ((job_ok _ J _ _ _ cab k).mono (by rintro e w' ⟨jb,cb,rfl,h1,h2,h3⟩;exact ⟨_,rfl,jb,cb,rfl,h1,h2,h3⟩)) ?_
     rintro v w7 ⟨jb,cb,rfl,hjb,hcb,hf7⟩
     have S7:=hid_ (S6.out.keep ((Fr.refl none_ w6).drew.then_none hf7))
     have HB7:=hid_ (show BB≤w7.heap.size from Nat.le_trans HB6.out (by have:=((Fr.refl none_ w6).drew.then_none hf7).size;exact this))
     have JA:=hid_ (show JobAt W w7 J (qph (yq12 y jb cb cab k) cs) from ⟨{ (JobRaw.rd HJr.out HSm.out) with },S7.out.d.f,hjb,hcb,S7.out.M.ca⟩)
     have BJ7:=hid_ (BJ.out.fr ((Fr.refl none_ w6).drew.then_none hf7) id)
     clear hjb hcb hf7 hS0 BJ S6 HB6
     refine ⟨BJ7.out,?_⟩
     try go_frame
     have hc0:w7.cell? ⟨cab,k,none⟩=some (.int .i64 0):=S7.out.M.cb.cell' (by rw [cellsI_get,S7.out.n k (by rw [List.length_map];exact Nat.le_of_eq HL.out.1) (by rw [HL.out.2.1];exact hlt)];rfl)
     refine u_callE 6 (some 57) 8 #[.agg #[.int .i64 J.page,.int .i64 J.os,.int .i64 J.og,.int .i64 J.news,jobF jb cb]] (fun v w'=>∃ i a,v=.pointer (some ⟨i,0,none⟩)∧Inst w' w7.heap.size i (begD J) a∧a.mv=jobF jb cb∧w'.cell? ⟨cab,k,none⟩=some (.int .i64 (if 0≤J.news∧J.news≤4 then begC J 0 else 0))∧(∃ cs2:CS (qph (yq12 y jb cb cab k) cs),Blk w' cab 3 cs2.1)∧Fr (only cab) w7 w') rfl rfl (by kernel_rfl) (by kernel_rfl) (by kernel_rfl) ((begJ (q:=qph (yq12 y jb cb cab k) cs) JA.out 0 hc0 ⟨⟨cellsI cs,fun o _=>rfl⟩,S7.out.M.cb⟩ (HJr.out.rows HSm.out)).mono (by rintro e w' ⟨i,a,rfl,h1,h2,h3,h4,h5⟩;exact ⟨_,rfl,i,a,rfl,h1,h2,h3,h4,h5⟩)) ?_
     rintro v w8 ⟨i,a8,rfl,hI,hmv,hcc,hcb,hf8⟩
     obtain ⟨cs',hcsl,hM8,hD8,hO8,hB8,hZ8,hN8⟩:=S7.out.begin_ LOW.out (J:=J) (q:=yq12 y jb cb cab k) (JA.out.unph) ⟨rfl,(by rw [List.length_map];exact HL.out.1.symm)⟩ (HJr.out.rows HSm.out) (by rw [List.length_map,HL.out.1,HL.out.2.1];exact hlt) HB7.out hI hmv hcc hcb hf8
     obtain ⟨z1,hz1⟩:∃ z1:In1,z1=⟨i,w7.heap.size,begD J,a8,J,yq12 y jb cb cab k⟩:=⟨_,rfl⟩
     rw [← hz1] at hM8 hZ8
     have M8:=hid_ hM8
     have D8:=hid_ hD8
     have O8:=hid_ hO8
     have B8:=hid_ hB8
     have Z8:=hid_ hZ8
     have N8:=hid_ hN8
     have HCSL:=hid_ (show cs'.length=n from hcsl.trans HL.out.2.1)
     have HB8:=hid_ (show BB≤w8.heap.size from Nat.le_trans HB7.out hf8.size)
     have HZ1:=hid_ (show z1.i=i∧z1.D=begD J∧z1.J=J∧z1.q=yq12 y jb cb cab k by rw [hz1];exact ⟨rfl,rfl,rfl,rfl⟩)
     have HJd:=hid_ (show JobRd W z1.J z1.q by rw [hz1];exact JA.out.unph.toJobRd)
     have BJ8:=hid_ (BJ7.out.fr hf8 (only_ne (Blk.ne_ BJ7.out S7.out.M.cb (by decide))))
     clear hI hmv hcc hcb hf8 hcsl hM8 hD8 hO8 hB8 hZ8 hN8 hc0 BJ7 S7 JA HB7 hz1
     refine ⟨BJ8.out,?_⟩
     try go_frame
     refine u_run 7 (some 58) (.slice (some ⟨w8.heap.size,0,none⟩) 1 1) (w8.alloc (.cells #[.pointer (some ⟨i,0,none⟩)] 58)) rfl rfl (by kernel_rfl) (by kernel_rfl) (by kernel_rfl) (.inr (BJ8.out.alloc _)) ?_
     obtain ⟨w9,hw9⟩:∃ z,z=w8.alloc (.cells #[.pointer (some ⟨i,0,none⟩)] 58):=⟨_,rfl⟩
     have f9:Fr none_ w8 w9:=by rw [hw9];exact (Fr.refl none_ w8).alloc _
     have PB:=hid_ (show Blk w9 w8.heap.size 58 #[.pointer (some ⟨i,0,none⟩)] by rw [hw9];exact Blk.new w8 _ _)
     rw [← hw9]
     clear hw9
     replace M8:=hid_ (M8.out.keep f9)
     replace D8:=hid_ (D8.out.keep f9)
     replace O8:=hid_ (own_none O8.out f9)
     replace B8:=hid_ (own_none B8.out f9)
     replace BJ8:=hid_ (BJ8.out.fr f9 id)
     replace HB8:=hid_ (Nat.le_trans HB8.out f9.size)
     clear f9
     try go_frame
     have HL6:=hid_ (show (zs L).length≤6 by rw [List.length_map,HL.out.1];omega)
     refine u_append 8 (some 59) rfl rfl (by kernel_rfl) (by kernel_rfl) (.tmp 51) (.tmp 58) 45 rfl BB 58 j0 _ 1 8 Tryz.underlying45 Hj.out.1 Hj.out.2.1 Hj.out.2.2.1 Hj.out.2.2.2 rfl (by omega) (.slice oA L.length oc) (zs L).length (ptF12 ((zs L).map (·.i))) rfl O8.out (some ⟨w8.heap.size,0,none⟩) 1 1 [.pointer (some ⟨i,0,none⟩)] rfl (reads_blk9 PB.out) (by simp [Value.oneCell']) (by have:=HL6.out;simp only [maxLen];omega) (by have:=HL6.out;omega) HB8.out ?_
     intro A10 c10 w10 hown hgr
     have hfg:Fr (fun g=>(Value.slice oA L.length oc).ownBlock=some g) w9 w10:=(Fr.refl _ w9).grown hgr (fun g hg=>.inl hg)
     have BG10:=hid_ (beg_pt (z1:=z1) LOW.out M8.out D8.out O8.out B8.out Z8.out N8.out hgr (by rw [HZ1.out.1];exact hown))
     have BJ10:=hid_ (BJ8.out.fr hfg (fun e=>by obtain ⟨_,cs3,hb3⟩:=own_blk O8.out e;exact absurd (hb3.uniq BJ8.out).1 (by decide)))
     have HB10:=hid_ (Nat.le_trans HB8.out hfg.size)
     clear hown hgr hfg M8 D8 O8 B8 Z8 N8 BJ8 HB8 PB
     refine ⟨BJ10.out,?_⟩
     try go_frame
     obtain ⟨Z0,hZ0⟩:∃ Z0,Z0=begZ J:=⟨_,rfl⟩
     have HZ0:=hid_ hZ0
     clear hZ0
     refine u_callE 11 (some 62) 10 #[.agg (jobB J y)] (fun v w'=>v=.agg (riA J (yq12 y jb cb cab k) Z0 ⟨none,0,none,0⟩)∧Fr none_ w10 w') rfl rfl (by kernel_rfl) (by kernel_rfl) (by kernel_rfl) ((rbegin12 (J:=J) (q:=yq12 y jb cb cab k)).mono (by rintro e w' ⟨rfl,h⟩;exact ⟨_,rfl,by rw [HZ0.out];rfl,h⟩)) ?_
     rintro v w11 ⟨rfl,hf11⟩
     have BG11:=hid_ (BG10.out.keep hf11)
     have BJ11:=hid_ (BJ10.out.fr hf11 id)
     have HB11:=hid_ (Nat.le_trans HB10.out hf11.size)
     clear hf11 BG10 BJ10 HB10
     refine ⟨BJ11.out,?_⟩
     try go_frame
     refine u_run 12 (some 63) (.slice (some ⟨w11.heap.size,0,none⟩) 1 1) (w11.alloc (.cells (riA J (yq12 y jb cb cab k) Z0 ⟨none,0,none,0⟩) 68)) rfl rfl (by kernel_rfl) (by kernel_rfl) (ex_build12 46 68 (.tmp 62) j0b _ 29 rfl (riA J (yq12 y jb cb cab k) Z0 ⟨none,0,none,0⟩) rfl Tryz.underlying46 Hjb.out.1 Hjb.out.2.1 Hjb.out.2.2.1 (by decide) (by decide) rfl _) (.inr (BJ11.out.alloc _)) ?_
     obtain ⟨w12,hw12⟩:∃ z,z=w11.alloc (.cells (riA J (yq12 y jb cb cab k) Z0 ⟨none,0,none,0⟩) 68):=⟨_,rfl⟩
     have f12:Fr none_ w11 w12:=by rw [hw12];exact (Fr.refl none_ w11).alloc _
     have PB:=hid_ (show Blk w12 w11.heap.size 68 (riA J (yq12 y jb cb cab k) Z0 ⟨none,0,none,0⟩) by rw [hw12];exact Blk.new w11 _ _)
     rw [← hw12]
     clear hw12
     replace BG11:=hid_ (BG11.out.keep f12)
     replace BJ11:=hid_ (BJ11.out.fr f12 id)
     replace HB11:=hid_ (Nat.le_trans HB11.out f12.size)
     clear f12
     try go_frame
     have HL7:=hid_ (show L.length≤6 by rw [HL.out.1];omega)
     refine u_append 13 (some 64) rfl rfl (by kernel_rfl) (by kernel_rfl) (.tmp 60) (.tmp 63) 46 rfl BB 68 j0b _ 29 328 Tryz.underlying46 Hjb.out.1 Hjb.out.2.1 Hjb.out.2.2.1 Hjb.out.2.2.2 rfl (by omega) (.slice iA L.length ic) L.length (riFlat L) rfl BG11.out.b (some ⟨w11.heap.size,0,none⟩) 1 1 (riA J (yq12 y jb cb cab k) Z0 ⟨none,0,none,0⟩).toList rfl (reads_blk9 PB.out) (by simp [Value.oneCell']) (by have:=HL7.out;simp only [maxLen];omega) (by have:=HL7.out;omega) HB11.out ?_
     intro A14 c14 w14 hown hgr
     have hfg:Fr (fun g=>(Value.slice iA L.length ic).ownBlock=some g) w12 w14:=(Fr.refl _ w12).grown hgr (fun g hg=>.inl hg)
     have BG14:=hid_ (BG11.out.doc LOW.out HJd.out (by rw [HZ1.out.2.1,HZ1.out.2.2.1]) (by rw [List.length_map]) hgr (by rw [HZ1.out.2.2.1,HZ1.out.2.2.2,← HZ0.out];exact hown))
     have BJ14:=hid_ (BJ11.out.fr hfg (fun e=>by obtain ⟨_,cs3,hb3⟩:=own_blk BG11.out.b e;exact absurd (hb3.uniq BJ11.out).1 (by decide)))
     have HB14:=hid_ (Nat.le_trans HB11.out hfg.size)
     clear hown hgr hfg BG11 BJ11 HB11 PB
     refine ⟨BJ14.out,?_⟩
     try go_frame
     refine u_tkS 14 (some 10) (.slice A10 ((zs L).length+1) c10) rfl rfl (y_vlS (fun w' hS=>by kernel_rfl)) BJ14.out ?_
     go_frame
     refine u_tkS 15 (some 11) (.slice A14 (L.length+1) c14) rfl rfl (y_vlS (fun w' hS=>by kernel_rfl)) BJ14.out ?_
     go_frame
     refine u_done (by kernel_rfl) ?_
     go_wp2_with fail
     go_roundw
     case rel =>
      refine ⟨k+1,cs',L ++ [⟨z1,begZ z1.J,⟨none,0,none,0⟩⟩],by omega,by go_num,by rw [List.length_append,HL.out.1];rfl,HCSL.out,HB14.out,?_⟩
      have h:=BG14.out
      have e:zs (L ++ [⟨z1,begZ z1.J,⟨none,0,none,0⟩⟩])=zs L ++ [z1]:=by simp [zs]
      rw [e]
      exact h
     case measure=>simp [intOf];omega
   ·obtain rfl:k=n:=by omega
    have PL:=hid_ (S.out.pls LOW.out)
    have HL1:=hid_ HL.out.1
    have HC1:=hid_ HL.out.2.1
    clear S HL LOW HBB HJ HJS
    have hll:=HL1.out
    rw [hll] at PL ⊢
    clear hll
    as_aux_lemma =>
     obtain ⟨wx,rfl⟩:∃ wx:World,wx=wr:=⟨_,rfl⟩
     by_cases hk0:k=0
     ·subst hk0
      have FW:=hid_ PL.out.f
      clear PL hi0 hlt hk
      go_wp2_with fail
      go_loopw [68] (fun u wr2=>∃ (j:Nat),j≤tn∧u=.int .i64 j∧Fr none_ W wr2) (fun u _=>tn - (intOf u).toNat)
      case atStart=>exact ⟨0,Nat.zero_le _,rfl,FW.out⟩
      case round =>
       obtain ⟨j,hj,rfl,hfr⟩:=hrel
       have FF:=hid_ hfr
       clear hfr FW
       have hj0:(0:Int)≤(j:Int):=Int.natCast_nonneg _
       by_cases hjt:j < tn
       ·have hj1:(j:Int) < (tn:Int):=by omega
        obtain ⟨b,off,xx,rfl,hb,hxx,hx0,hx1⟩:=HT.out j hjt
        have ux:wr.cell? ⟨b,off+j,none⟩=some (.int .u8 xx):=cellFr hxx FF.out
        clear hb hxx
        go_wp2_with fail
        refine wp_loop_rounds 1 ?_
        rw [rounds_succ]
        go_wp2_with fail
        refine (awake12 _).mono ?_
        rintro e w15 ⟨rfl,hf15⟩
        have F15:=hid_ (FF.out.then_none hf15)
        clear hf15
        go_wp2_with fail
        go_ret
        exact ⟨rfl,F15.out⟩
       ·obtain rfl:j=tn:=by omega
        go_wp2_with fail
        refine wp_loop_rounds 1 ?_
        rw [rounds_succ]
        go_wp2_with fail
        refine (awake12 _).mono ?_
        rintro e w15 ⟨rfl,hf15⟩
        have F15:=hid_ (FF.out.then_none hf15)
        clear hf15
        go_wp2_with fail
        go_ret
        exact ⟨rfl,F15.out⟩
     ·have ho1:=PL.out.o
      have ho2:=PL.out.b
      rw [HL1.out] at ho1 ho2
      obtain ⟨ga,cva,e1,-⟩:=own_slice12 ho1 (by omega)
      obtain ⟨gb,cvb,e2,-⟩:=own_slice12 ho2 (by omega)
      clear ho1 ho2
      injection e1 with e1 _ e1b
      subst e1 e1b
      injection e2 with e2 _ e2b
      subst e2 e2b
      go_wp2_with fail
      go_loopw [68] (fun u wr2=>∃ (j:Nat) (x2:St) (k2:Int) (cs2:List Int) (c2:Dc) (L2:List E1),j≤tn∧u=.int .i64 j∧L2.length=k∧k2≤j∧Pls W wr2 m k2 lm x2 cab cs2 BB (.slice (some ⟨ga,0,none⟩) k oc) (.slice (some ⟨gb,0,none⟩) k ic) gr u0 c2 L2) (fun u _=>tn - (intOf u).toNat)
      case atStart=>exact ⟨0,x0,0,cs,c0,L,Nat.zero_le _,rfl,HL1.out,by omega,PL.out⟩
      case round =>
       obtain ⟨j,x2,k2,cs2,c2,L2,hj,rfl,hL2,hk2,hS2⟩:=hrel
       have S2:=hid_ hS2
       have HL2:=hid_ hL2
       have HK2:=hid_ hk2
       clear hS2 hL2 hk2 PL HL1 HC1
       have hj0:(0:Int)≤(j:Int):=Int.natCast_nonneg _
       by_cases hjt:j < tn
       ·have hj1:(j:Int) < (tn:Int):=by omega
        as_aux_lemma =>
         obtain ⟨b,off,xx,rfl,hb,hxx,hx0,hx1⟩:=HT.out j hjt
         have ux:wr.cell? ⟨b,off+j,none⟩=some (.int .u8 xx):=cellFr hxx S2.out.f
         clear hb hxx
         have hkne:(k:Int)≠0:=by omega
         have hkb:((k:Int)==0)=false:=by simpa using hkne
         have hqex:∃ qn:Nat,xx.tmod (k:Int)=(qn:Int)∧qn < k:=⟨(xx % (k:Int)).toNat,by rw [Int.tmod_eq_emod_of_nonneg hx0];have:=Int.emod_nonneg xx hkne;omega,by have:=Int.emod_nonneg xx hkne;have:=Int.emod_lt_of_pos xx (show (0:Int) < (k:Int) by omega);omega⟩
         obtain ⟨qn,hmod,hqk⟩:=hqex
         have hq0:(0:Int)≤(qn:Int):=Int.natCast_nonneg _
         have hq1:(qn:Int) < (k:Int):=by omega
         have hwq:IntKind.i64.wrap (qn:Int)=(qn:Int):=IntWalk.i64_in _ (by omega)
         have hwx:IntKind.i64.wrap xx=xx:=IntWalk.i64_in _ (by omega)
         obtain ⟨e,he⟩:∃ e,L2[qn]?=some e:=⟨_,List.getElem?_eq_getElem (by rw [HL2.out];exact hqk)⟩
         have hp:wr.cell? ⟨ga,qn,none⟩=some (.pointer (some ⟨e.z.i,0,none⟩)):=S2.out.pcell HL2.out.symm he
         have HE:=hid_ he
         have HQK:=hid_ hqk
         have HKt:=hid_ (show k2≤200 by have:=HK2.out;omega)
         clear he hqk
         go_wp2_with fail
         refine (turn12 S2.out HE.out HKt.out HLR.out).mono ?_
         rintro ev w1 ⟨D',a',x',k',cs',rfl,hMid,hk',-,hdoc⟩
         obtain ⟨ov,hov⟩:∃ ov,ov=(D'.stage==7):=⟨_,rfl⟩
         rw [← hov]
         have HOV:=hid_ hov
         have MID:=hid_ hMid
         have DOC:=hid_ hdoc
         have HK3:=hid_ hk'
         clear hov hMid hdoc hk' S2 hp ux
         go_upto_region 21 with fail
         have hF0:(Fr none_ w1) w1.drew:=(Fr.refl none_ w1).drew
         have hS0:(fun w':World=>Blk w' gr 43 (dcA lm c2 u0 k2)) w1.drew:=MID.out.gblk.drew
         refine wp_region_u 13 (fun w':World=>Blk w' gr 43 (dcA lm c2 u0 k2)) (by kernel_rfl) ?_
         refine u_tkS 0 (some 87) (.slice (some ⟨gb,0,none⟩) k ic) rfl rfl (y_vlS (fun w' hS=>by kernel_rfl)) hS0 ?_
         go_frame
         refine u_tkS 1 (some 88) (.int .i64 (qn:Int)) rfl rfl (y_vlS (fun w' hS=>by kernel_rfl)) hS0 ?_
         go_frame
         refine u_tkS 2 (some 89) (.slice (some ⟨gb,0,none⟩) k ic) rfl rfl (y_vlS (fun w' hS=>by kernel_rfl)) hS0 ?_
         go_frame
         refine u_tkS 3 (some 90) (.int .i64 (qn:Int)) rfl rfl (y_vlS (fun w' hS=>by kernel_rfl)) hS0 ?_
         go_frame
         refine u_tkS 4 (some 91) (.pointer (some ⟨gb,qn * 29,none⟩)) rfl rfl (y_vlS (fun w' hS=>ex_indexZ 29 46 68 (.tmp 89) (.tmp 90) gb qn k ic rfl rfl rfl Tryz.underlying46 (fun w=>by kernel_rfl) HQK.out w')) hS0 ?_
         go_frame
         refine u_tkS 6 (some 93) (.agg (dcA lm c2 u0 k2)) rfl rfl (yieldsIf_load_mid (by kernel_rfl) 43 (.tmp 9) rfl gr 0 (by kernel_rfl) (dcA lm c2 u0 k2).toList _ (fun w' hS=>Blk.range7 (l:=(dcA lm c2 u0 k2).toList) hS) Tryz.underlying43 rfl (by kernel_rfl)) hS0 ?_
         go_frame
         refine u_run 5 (some 92) (.agg (riA e.z.J e.z.q e.d e.y)) w1.drew rfl rfl (by kernel_rfl) (by kernel_rfl) (ex_load12 68 (.tmp 91) rfl gb (qn * 29) rfl (riA e.z.J e.z.q e.d e.y).toList _ w1.drew ((MID.out.keep hF0).brange HL2.out.symm HE.out) Tryz.underlying68 rfl (by kernel_rfl)) (.inr hS0) ?_
         go_frame
         refine u_callE 7 (some 94) 12 #[.agg (riA e.z.J e.z.q e.d e.y),.agg (dcA lm c2 u0 k2)] (fun v w'=>∃ d' y' c',v=.tuple #[.agg (riA e.z.J e.z.q d' y'),.agg (dcA lm c' u0 k')]∧(SimJ e.z.J D' d'∧RiIn w' d' y'∧DocM lm x'.ss x'.ps c'.LP c'.PA c'.pc c'.L c'.T c'.tc w'∧(c'.LP.length:Int)≤k'+1∧(∀ z ∈ c'.LP,RecReads W z.R z.A z.B)∧NewB c2.PA c2.LP.length c'.PA c'.LP.length w1.drew∧NewB e.y.pA e.d.pages.length y'.pA d'.pages.length w1.drew∧NewB e.y.rA e.d.refs.length y'.rA d'.refs.length w1.drew)∧Fr none_ w1.drew w') rfl rfl (by kernel_rfl) (by kernel_rfl) (by kernel_rfl) ((DOC.out _ hF0).mono (by rintro ev w' ⟨d',y',c',rfl,h1,h2,h3,h4,h5,h6,h7,h8,h9⟩;exact ⟨_,rfl,d',y',c',rfl,⟨h1,h2,h3,h4,h5,h6,h7,h8⟩,h9⟩)) ?_
         rintro v w2 ⟨d',y',c',rfl,hpost,hf2⟩
         have PO:=hid_ hpost
         have F2:=hid_ hf2
         have FS:=hid_ (hF0.then_none hf2)
         have SS:=hid_ (show (fun w':World=>Blk w' gr 43 (dcA lm c2 u0 k2)) w2 from hS0.fr hf2 id)
         clear hpost hf2 DOC hS0
         refine ⟨SS.out,?_⟩
         try go_frame
         refine u_tkS 8 (some 86) (.tuple #[.agg (riA e.z.J e.z.q d' y'),.agg (dcA lm c' u0 k')]) rfl rfl (y_vlS (fun w' hS=>by kernel_rfl)) SS.out ?_
         go_frame
         refine u_tkS 9 (some 95) (.agg (riA e.z.J e.z.q d' y')) rfl rfl (y_vlS (fun w' hS=>by kernel_rfl)) SS.out ?_
         go_frame
         refine u_tkS 10 (some 96) (.agg (dcA lm c' u0 k')) rfl rfl (y_vlS (fun w' hS=>by kernel_rfl)) SS.out ?_
         go_frame
         refine u_tkS 11 (some 97) (.pointer (some ⟨gb,qn * 29,none⟩)) rfl rfl (y_vlS (fun w' hS=>ex_indexZ 29 46 68 (.tmp 87) (.tmp 88) gb qn k ic rfl rfl rfl Tryz.underlying46 (fun w=>by kernel_rfl) HQK.out w')) SS.out ?_
         go_frame
         have MD:=hid_ (MID.out.keep hF0)
         have hth:w2.there gb (qn * 29) (riA e.z.J e.z.q d' y').size:=(MID.out.keep FS.out).bthere HL2.out.symm (by rw [HL2.out];exact HQK.out)
         have hgb:gr≠gb:=by
          obtain ⟨_,cb1,hbb⟩:=own_blk (MID.out.keep FS.out).b (k:=gb) rfl
          exact Blk.ne_ (MID.out.keep FS.out).gblk hbb (by decide)
         refine u_store 12 68 (.tmp 97) (.tmp 95) gb (qn * 29) (riA e.z.J e.z.q d' y') rfl rfl (by kernel_rfl) (by kernel_rfl) rfl rfl rfl hth ri_size (by simp [Value.oneCell']) ?_
         intro w2b hw2b
         have hgr2:Blk w2b gr 43 (dcA lm c2 u0 k2):=by
          rw [hw2b]
          exact (MID.out.keep FS.out).gblk.fr (Fr.setCells _ _ _ (Fr.refl (only gb) w2) (.inl rfl)) (only_ne hgb)
         refine ⟨hgr2,?_⟩
         refine u_storeM 13 43 (.tmp 9) (.tmp 96) gr 0 (dcA lm c' u0 k') rfl rfl (by kernel_rfl) (by kernel_rfl) (by decide) rfl rfl rfl (hgr2.thereN (Nat.le_of_ble_eq_true rfl)) dm_size (by simp [Value.oneCell']) ?_
         intro w3 hw3
         rw [hw2b] at hw3
         have P3:=hid_ (MD.out.doc HE.out ⟨rfl,rfl,rfl⟩ rfl HL2.out.symm PO.out.1 PO.out.2.1 PO.out.2.2.1 PO.out.2.2.2.1 PO.out.2.2.2.2.1 PO.out.2.2.2.2.2.1 PO.out.2.2.2.2.2.2.1 PO.out.2.2.2.2.2.2.2 F2.out hw3)
         have HOD:=hid_ (show d'.over=ov by rw [HOV.out];exact PO.out.1.over)
         clear hw3 hw2b hgr2 hgb hth FS SS MD MID PO F2 hF0 HOV
         refine u_done (by kernel_rfl) ?_
         obtain ⟨e3,he3⟩:∃ e3:E1,e3=⟨{ e.z with D:=D',a:=a' },d',y'⟩:=⟨_,rfl⟩
         have HE3:=hid_ (show e3.d=d' by rw [he3])
         rw [← he3] at P3
         clear he3
         have HS3:=hid_ (show (L2.set qn e3)[qn]?=some e3 from List.getElem?_set_self (by rw [HL2.out];exact HQK.out))
         have HL3:=hid_ (show (L2.set qn e3).length=k by rw [List.length_set];exact HL2.out)
         have h23:w3.cell? ⟨gb,qn * 29+23,none⟩=some (.bool ov):=by
          have h:=P3.out.bcell HL3.out.symm HS3.out 23 (.bool e3.d.over) rfl
          rw [HE3.out,HOD.out] at h
          exact h
         have g0:w3.cell? ⟨gr,0,none⟩=some (.int .i64 (lm.s:Int)):=P3.out.gblk.cell' rfl
         have g1:w3.cell? ⟨gr,1,none⟩=some (.int .i64 (lm.p:Int)):=P3.out.gblk.cell' rfl
         have g2:w3.cell? ⟨gr,2,none⟩=some (.int .i64 lm.t):=P3.out.gblk.cell' rfl
         have g3:w3.cell? ⟨gr,3,none⟩=some (.int .i64 lm.r):=P3.out.gblk.cell' rfl
         have g4:w3.cell? ⟨gr,4,none⟩=some (.int .i64 lm.c):=P3.out.gblk.cell' rfl
         have g5:w3.cell? ⟨gr,5,none⟩=some (.int .i64 lm.n):=P3.out.gblk.cell' rfl
         have g6:w3.cell? ⟨gr,6,none⟩=some (.int .i64 (lm.s:Int)):=P3.out.gblk.cell' rfl
         have g7:w3.cell? ⟨gr,7,none⟩=some (.int .i64 lm.n):=P3.out.gblk.cell' rfl
         have g8:w3.cell? ⟨gr,8,none⟩=some (.slice c'.PA c'.LP.length c'.pc):=P3.out.gblk.cell' rfl
         have g9:w3.cell? ⟨gr,9,none⟩=some (.int .i64 (lm.p:Int)):=P3.out.gblk.cell' rfl
         have g10:w3.cell? ⟨gr,10,none⟩=some (.slice c'.T c'.L.length c'.tc):=P3.out.gblk.cell' rfl
         have g11:w3.cell? ⟨gr,11,none⟩=some (.int .i64 u0.cn):=P3.out.gblk.cell' rfl
         have g12:w3.cell? ⟨gr,12,none⟩=some (.int .i64 u0.cl):=P3.out.gblk.cell' rfl
         have g13:w3.cell? ⟨gr,13,none⟩=some (.slice u0.CA u0.cm u0.cc):=P3.out.gblk.cell' rfl
         have g14:w3.cell? ⟨gr,14,none⟩=some (.int .i64 k'):=P3.out.gblk.cell' rfl
         have hov:(ov != ov)=false:=by cases ov <;> rfl
         go_wp2_with fail
         refine (same12 (P3.out.both HLR.out)).mono ?_
         rintro ev w4 ⟨rfl,hf4⟩
         replace P3:=hid_ (P3.out.keep hf4)
         clear hf4 h23 g0 g1 g2 g3 g4 g5 g6 g7 g8 g9 g10 g11 g12 g13 g14
         go_wp2_with fail
         go_roundw
         case rel=>exact ⟨j+1,x',k',cs',c',_,by omega,by go_num,HL3.out,by have:=HK2.out;have:=HK3.out;omega,P3.out⟩
         case measure=>simp [intOf];omega
       ·obtain rfl:j=tn:=by omega
        obtain ⟨wy,rfl⟩:∃ wy:World,wy=wr:=⟨_,rfl⟩
        clear hjt
        go_wp2_with fail
        go_loopw [114] (fun u wr3=>∃ (y:Nat),y≤k∧u=.int .i64 y∧Pls W wr3 m k2 lm x2 cab cs2 BB (.slice (some ⟨ga,0,none⟩) k oc) (.slice (some ⟨gb,0,none⟩) k ic) gr u0 c2 L2) (fun u _=>k - (intOf u).toNat)
        case atStart=>exact ⟨0,Nat.zero_le _,rfl,S2.out⟩
        case round =>
         obtain ⟨y,hy,rfl,hS3⟩:=hrel
         have S3:=hid_ hS3
         clear hS3 S2
         have hy0:(0:Int)≤(y:Int):=Int.natCast_nonneg _
         by_cases hyk:y < k
         ·have hy1:(y:Int) < (k:Int):=by omega
          obtain ⟨e,he⟩:∃ e,L2[y]?=some e:=⟨_,List.getElem?_eq_getElem (by rw [HL2.out];exact hyk)⟩
          obtain ⟨hI,hD,hSJ,hRi,c9,hcc,hc1,hc2⟩:=S3.out.at_ he
          have hp:wr.cell? ⟨ga,y,none⟩=some (.pointer (some ⟨e.z.i,0,none⟩)):=S3.out.pcell HL2.out.symm he
          have b23:wr.cell? ⟨gb,y * 29+23,none⟩=some (.bool e.d.over):=S3.out.bcell HL2.out.symm he 23 _ rfl
          have b24:wr.cell? ⟨gb,y * 29+24,none⟩=some (.bool e.d.done):=S3.out.bcell HL2.out.symm he 24 _ rfl
          have b25:wr.cell? ⟨gb,y * 29+25,none⟩=some (.int .i64 e.d.err):=S3.out.bcell HL2.out.symm he 25 _ rfl
          have b26:wr.cell? ⟨gb,y * 29+26,none⟩=some (.slice e.y.pA e.d.pages.length e.y.pc):=S3.out.bcell HL2.out.symm he 26 _ rfl
          have b27:wr.cell? ⟨gb,y * 29+27,none⟩=some (.slice e.y.rA e.d.refs.length e.y.rc):=S3.out.bcell HL2.out.symm he 27 _ rfl
          have EI:=hid_ hI
          have ED:=hid_ hD
          have ES:=hid_ hSJ
          have ER:=hid_ hRi
          have hcd:decide (1 < c9)=false:=decide_eq_false (by omega)
          have HYK:=hid_ hyk
          clear hI hD hSJ hRi hc1 hc2 he hyk
          by_cases h7:e.z.D.stage=7
          ·have S7:=hid_ h7
           have H7:=hid_ (show (e.z.D.stage==7)=true by rw [h7];rfl)
           rw [show e.d.over=true by rw [ES.out.over,h7];rfl] at b23
           obtain ⟨er,her⟩:∃ er,er=e.z.D.err:=⟨_,rfl⟩
           rw [show e.d.err=er by rw [her];exact ES.out.err] at b25
           obtain ⟨v,hv⟩:∃ v,v=e.z.a.ev:=⟨_,rfl⟩
           have HER:Hid (Er wr v er):=hid_ (by rw [hv,her];exact EI.out.e)
           have hvb:∃ b0:Bool,(er==0)=b0∧((v=.nilIface∧b0=true)∨(∃ t x,v=.iface t x∧b0=false)):=by
            rcases er_nil HER.out with ⟨h1,h2⟩ | ⟨h1,t,x,h2⟩
            ·exact ⟨true,by rw [h1];rfl,.inl ⟨h2,rfl⟩⟩
            ·exact ⟨false,by simpa using h1,.inr ⟨t,x,h2,rfl⟩⟩
           obtain ⟨b0,hb0,hvb⟩:=hvb
           have HB0:=hid_ hb0
           have HVB:=hid_ hvb
           obtain ⟨dn,hdn⟩:∃ dn,dn=e.z.D.done:=⟨_,rfl⟩
           rw [show e.d.done=dn by rw [hdn];exact ES.out.done] at b24
           have HDN:=hid_ hdn
           have HDO:Hid (∀ w',Inst w' e.z.B e.z.i e.z.D e.z.a→Calls Tryz.prog 14 #[.pointer (some ⟨e.z.i,0,none⟩)] w' fun e2 w2=>e2=.returned (.tuple #[.bool dn,v])∧Fr none_ w' w2):=hid_ (fun w' h=>by rw [hdn,hv];exact done_ok h S7.out)
           clear h7 her hv hb0 hvb hdn
           go_wp2_with fail
           refine (HDO.out _ EI.out).mono ?_
           rintro ev w1 ⟨rfl,hf1⟩
           have F1:=hid_ hf1
           replace hp:=cellFr hp hf1
           replace hcc:=cellFr hcc hf1
           replace b23:=cellFr b23 hf1
           replace b24:=cellFr b24 hf1
           replace b25:=cellFr b25 hf1
           replace b26:=cellFr b26 hf1
           replace b27:=cellFr b27 hf1
           replace EI:=hid_ (EI.out.keep hf1)
           replace ER:=hid_ (ER.out.keep hf1)
           replace HER:=hid_ (HER.out.keep hf1)
           clear hf1 HDO
           go_upto_region 29 with fail
           have q0:∀ x:Wx w1,x.to.cell? ⟨ga,y,none⟩=some (.pointer (some ⟨e.z.i,0,none⟩)):=fun x=>x.cell hp
           have q1:∀ x:Wx w1,x.to.cell? ⟨gb,y * 29+23,none⟩=some (.bool true):=fun x=>x.cell b23
           have q2:∀ x:Wx w1,x.to.cell? ⟨cab,y,none⟩=some (.int .i64 c9):=fun x=>x.cell hcc
           have HC:Hid (∀ x:Wx w1,Calls Tryz.prog 15 #[.pointer (some ⟨e.z.i,0,none⟩)] x.to fun e w'=>e=.returned (.bool true)∧Fr none_ x.to w'):=hid_ (fun x=>(over_ok (EI.out.keep x.fr)).mono (by rintro ev w' ⟨rfl,rfl⟩;exact ⟨by rw [H7.out],Fr.refl _ _⟩))
           refine wp_region_quiet_x (by kernel_rfl) (by kernel_rfl) ?_
           repeat (first | go_big_quiet_step ((go_at_call 15;exact Calls.quiet_x (HC.out _))) | quiet_step ((go_at_call 15;exact Calls.quiet_x (HC.out _))))
           refine wpQuiet_nil ?_
           intro _ hw'
           obtain ⟨xq,hw''⟩:=hw'
           subst hw''
           obtain ⟨w2,hw2⟩:∃ z,z=xq.to:=⟨_,rfl⟩
           have f12:Fr none_ w1 w2:=by rw [hw2];exact xq.fr
           rw [← hw2]
           clear hw2 q0 q1 q2 HC
           replace F1:=hid_ (F1.out.then_none f12)
           replace hp:=cellFr hp f12
           replace b23:=cellFr b23 f12
           replace b24:=cellFr b24 f12
           replace b25:=cellFr b25 f12
           replace b26:=cellFr b26 f12
           replace b27:=cellFr b27 f12
           replace EI:=hid_ (EI.out.keep f12)
           replace ER:=hid_ (ER.out.keep f12)
           replace HER:=hid_ (HER.out.keep f12)
           clear f12 hcc
           go_upto_region 34 with fail
           have HLW:=hid_ (show Laid w2 from cellFr HLD.out (S3.out.f.then_none F1.out))
           cases dn with
           | false =>
            as_aux_lemma =>
             have HLY:=hid_ (show y < k from HYK.out)
             have hS0:(Fr none_ w2) w2.drew:=(Fr.refl none_ w2).drew
             refine wp_region_u 81 (Fr none_ w2) (by kernel_rfl) ?_
             refine u_tkS 0 (some 173) (.bool false) rfl rfl (y_vlS (fun w' hS=>by kernel_rfl)) hS0 ?_
             go_frame
             refine u_tkS 1 (some 174) (.slice (some ⟨gb,0,none⟩) k ic) rfl rfl (y_vlS (fun w' hS=>by kernel_rfl)) hS0 ?_
             go_frame
             refine u_tkS 2 (some 175) (.int .i64 (y:Int)) rfl rfl (y_vlS (fun w' hS=>by kernel_rfl)) hS0 ?_
             go_frame
             refine u_tkS 3 (some 176) (.pointer (some ⟨gb,y * 29,none⟩)) rfl rfl (y_vlS (fun w' hS=>ex_indexZ 29 46 68 (.tmp 174) (.tmp 175) gb y k ic rfl rfl rfl Tryz.underlying46 (fun w=>by kernel_rfl) HLY.out w')) hS0 ?_
             go_frame
             refine u_tkS 4 (some 177) (.pointer (some ⟨gb,y * 29+24,none⟩)) rfl rfl (y_vlS (fun w' hS=>by kernel_rfl)) hS0 ?_
             go_frame
             refine u_tkS 5 (some 178) (.bool false) rfl rfl (y_cell 4 (.tmp 177) ⟨gb,y * 29+24,none⟩ _ (by kernel_rfl) rfl (by kernel_rfl) (fun w' hS=>cellFr b24 hS) Tryz.underlying4 rfl) hS0 ?_
             go_frame
             refine u_tkS 6 (some 179) (.bool false) rfl rfl (y_vlS (fun w' hS=>by kernel_rfl)) hS0 ?_
             go_frame
             as_aux_lemma =>
              refine u_tkS 7 (some 180) (.bool false) rfl rfl (y_vlS (fun w' hS=>by kernel_rfl)) hS0 ?_
              go_frame
              refine u_tkS 8 (some 181) (v) rfl rfl (y_vlS (fun w' hS=>by kernel_rfl)) hS0 ?_
              go_frame
              refine u_tkS 10 (some 183) (.slice (some ⟨gb,0,none⟩) k ic) rfl rfl (y_vlS (fun w' hS=>by kernel_rfl)) hS0 ?_
              go_frame
              refine u_tkS 11 (some 184) (.int .i64 (y:Int)) rfl rfl (y_vlS (fun w' hS=>by kernel_rfl)) hS0 ?_
              go_frame
              refine u_tkS 12 (some 185) (.pointer (some ⟨gb,y * 29,none⟩)) rfl rfl (y_vlS (fun w' hS=>ex_indexZ 29 46 68 (.tmp 183) (.tmp 184) gb y k ic rfl rfl rfl Tryz.underlying46 (fun w=>by kernel_rfl) HLY.out w')) hS0 ?_
              go_frame
              refine u_tkS 13 (some 186) (.pointer (some ⟨gb,y * 29+25,none⟩)) rfl rfl (y_vlS (fun w' hS=>by kernel_rfl)) hS0 ?_
              go_frame
              refine u_tkS 14 (some 187) (.int .i64 er) rfl rfl (y_cell 65 (.tmp 186) ⟨gb,y * 29+25,none⟩ _ (by kernel_rfl) rfl (by kernel_rfl) (fun w' hS=>cellFr b25 hS) Tryz.underlying65 rfl) hS0 ?_
              go_frame
              refine u_callE 9 (some 182) 19 #[v] (fun v' w'=>v'=.int .i64 er∧Fr none_ w2.drew w') rfl rfl (by kernel_rfl) (by kernel_rfl) (by kernel_rfl) ((code_er (HER.out.keep hS0) (cellFr HLW.out hS0)).mono (by rintro ev w' ⟨rfl,h⟩;exact ⟨_,rfl,rfl,h⟩)) ?_
              rintro v9 w3 ⟨rfl,hf3⟩
              have F3:=hid_ (hS0.then_none hf3)
              clear hf3
              refine ⟨F3.out,?_⟩
              try go_frame
              refine u_tkS 15 (some 188) (.bool false) rfl rfl (y_bool (b:=(er != er)) (by simp) (by kernel_rfl) (fun w' hS=>by kernel_rfl)) F3.out ?_
              go_frame
              as_aux_lemma =>
               refine u_tkS 16 (some 189) (.bool false) rfl rfl (y_vlS (fun w' hS=>by kernel_rfl)) F3.out ?_
               go_frame
               refine u_tkS 17 (some 190) (.bool false) rfl rfl (y_vlS (fun w' hS=>by kernel_rfl)) F3.out ?_
               go_frame
               refine u_tkS 18 (some 191) (v) rfl rfl (y_vlS (fun w' hS=>by kernel_rfl)) F3.out ?_
               go_frame
               refine u_tkS 19 (some 192) (.bool b0) rfl rfl (y_vlS (fun w' hS=>by
                rcases HVB.out with ⟨h1,h2⟩ | ⟨vt,vx,h1,h2⟩
                ·subst h1 h2
                 kernel_rfl
                ·subst h1 h2
                 kernel_rfl)) F3.out ?_
               go_frame
               refine u_tkS 20 (some 193) (.slice (some ⟨gb,0,none⟩) k ic) rfl rfl (y_vlS (fun w' hS=>by kernel_rfl)) F3.out ?_
               go_frame
               refine u_tkS 21 (some 194) (.int .i64 (y:Int)) rfl rfl (y_vlS (fun w' hS=>by kernel_rfl)) F3.out ?_
               go_frame
               refine u_tkS 22 (some 195) (.pointer (some ⟨gb,y * 29,none⟩)) rfl rfl (y_vlS (fun w' hS=>ex_indexZ 29 46 68 (.tmp 193) (.tmp 194) gb y k ic rfl rfl rfl Tryz.underlying46 (fun w=>by kernel_rfl) HLY.out w')) F3.out ?_
               go_frame
               refine u_tkS 23 (some 196) (.pointer (some ⟨gb,y * 29+25,none⟩)) rfl rfl (y_vlS (fun w' hS=>by kernel_rfl)) F3.out ?_
               go_frame
               as_aux_lemma =>
                refine u_tkS 24 (some 197) (.int .i64 er) rfl rfl (y_cell 65 (.tmp 196) ⟨gb,y * 29+25,none⟩ _ (by kernel_rfl) rfl (by kernel_rfl) (fun w' hS=>cellFr b25 hS) Tryz.underlying65 rfl) F3.out ?_
                go_frame
                refine u_tkS 25 (some 198) (.bool b0) rfl rfl (y_bool (b:=(er==0)) HB0.out (by kernel_rfl) (fun w' hS=>by kernel_rfl)) F3.out ?_
                go_frame
                refine u_tkS 26 (some 199) (.bool false) rfl rfl (y_bool (b:=(b0 != b0)) (by simp) (by kernel_rfl) (fun w' hS=>by kernel_rfl)) F3.out ?_
                go_frame
                refine u_tkS 27 (some 200) (.bool false) rfl rfl (y_vlS (fun w' hS=>by kernel_rfl)) F3.out ?_
                go_frame
                refine u_tkS 28 (some 201) (.bool false) rfl rfl (y_vlS (fun w' hS=>by kernel_rfl)) F3.out ?_
                go_frame
                refine u_tkS 29 (some 202) (.bool false) rfl rfl (y_vlS (fun w' hS=>by kernel_rfl)) F3.out ?_
                go_frame
                refine u_tkS 30 (some 203) (.bool false) rfl rfl (y_vlS (fun w' hS=>by kernel_rfl)) F3.out ?_
                go_frame
                refine u_tkS 31 (some 204) (undef) rfl rfl (y_skip (by kernel_rfl)) F3.out ?_
                go_frame
                as_aux_lemma =>
                 refine u_tkS 32 (some 205) (undef) rfl rfl (y_skip (by kernel_rfl)) F3.out ?_
                 go_frame
                 refine u_tkS 33 (some 206) (undef) rfl rfl (y_skip (by kernel_rfl)) F3.out ?_
                 go_frame
                 refine u_tkS 34 (some 207) (undef) rfl rfl (y_skip (by kernel_rfl)) F3.out ?_
                 go_frame
                 refine u_tkS 35 (some 208) (undef) rfl rfl (y_skip (by kernel_rfl)) F3.out ?_
                 go_frame
                 refine u_tkS 36 (some 209) (undef) rfl rfl (y_skip (by kernel_rfl)) F3.out ?_
                 go_frame
                 refine u_tkS 37 (some 210) (undef) rfl rfl (y_skip (by kernel_rfl)) F3.out ?_
                 go_frame
                 refine u_tkS 38 (some 211) (undef) rfl rfl (y_skip (by kernel_rfl)) F3.out ?_
                 go_frame
                 refine u_tkS 39 (some 212) (undef) rfl rfl (y_skip (by kernel_rfl)) F3.out ?_
                 go_frame
                 as_aux_lemma =>
                  refine u_tkS 40 (some 213) (undef) rfl rfl (y_skip (by kernel_rfl)) F3.out ?_
                  go_frame
                  refine u_tkS 41 (some 214) (undef) rfl rfl (y_skip (by kernel_rfl)) F3.out ?_
                  go_frame
                  refine u_tkS 42 (some 215) (undef) rfl rfl (y_skip (by kernel_rfl)) F3.out ?_
                  go_frame
                  refine u_tkS 43 (some 216) (undef) rfl rfl (y_skip (by kernel_rfl)) F3.out ?_
                  go_frame
                  refine u_tkS 44 (some 217) (undef) rfl rfl (y_skip (by kernel_rfl)) F3.out ?_
                  go_frame
                  refine u_tkS 45 (some 218) (undef) rfl rfl (y_skip (by kernel_rfl)) F3.out ?_
                  go_frame
                  refine u_tkS 46 (some 219) (undef) rfl rfl (y_skip (by kernel_rfl)) F3.out ?_
                  go_frame
                  refine u_tkS 47 (some 220) (undef) rfl rfl (y_skip (by kernel_rfl)) F3.out ?_
                  go_frame
                  as_aux_lemma =>
                   refine u_tkS 48 (some 221) (undef) rfl rfl (y_skip (by kernel_rfl)) F3.out ?_
                   go_frame
                   refine u_tkS 49 (some 222) (undef) rfl rfl (y_skip (by kernel_rfl)) F3.out ?_
                   go_frame
                   refine u_tkS 50 (some 223) (undef) rfl rfl (y_skip (by kernel_rfl)) F3.out ?_
                   go_frame
                   refine u_tkS 51 (some 224) (undef) rfl rfl (y_skip (by kernel_rfl)) F3.out ?_
                   go_frame
                   refine u_tkS 52 (some 225) (undef) rfl rfl (y_skip (by kernel_rfl)) F3.out ?_
                   go_frame
                   refine u_tkS 53 (some 226) (undef) rfl rfl (y_skip (by kernel_rfl)) F3.out ?_
                   go_frame
                   refine u_tkS 54 (some 227) (undef) rfl rfl (y_skip (by kernel_rfl)) F3.out ?_
                   go_frame
                   refine u_tkS 55 (some 228) (undef) rfl rfl (y_skip (by kernel_rfl)) F3.out ?_
                   go_frame
                   as_aux_lemma =>
                    refine u_tkS 56 (some 229) (undef) rfl rfl (y_skip (by kernel_rfl)) F3.out ?_
                    go_frame
                    refine u_tkS 57 (some 230) (undef) rfl rfl (y_skip (by kernel_rfl)) F3.out ?_
                    go_frame
                    refine u_tkS 58 (some 231) (undef) rfl rfl (y_skip (by kernel_rfl)) F3.out ?_
                    go_frame
                    refine u_tkS 59 (some 232) (undef) rfl rfl (y_skip (by kernel_rfl)) F3.out ?_
                    go_frame
                    refine u_tkS 60 (some 233) (undef) rfl rfl (y_skip (by kernel_rfl)) F3.out ?_
                    go_frame
                    refine u_tkS 61 (some 234) (undef) rfl rfl (y_skip (by kernel_rfl)) F3.out ?_
                    go_frame
                    refine u_tkS 62 (some 235) (undef) rfl rfl (y_skip (by kernel_rfl)) F3.out ?_
                    go_frame
                    refine u_tkS 63 (some 236) (undef) rfl rfl (y_skip (by kernel_rfl)) F3.out ?_
                    go_frame
                    as_aux_lemma =>
                     refine u_tkS 64 (some 237) (undef) rfl rfl (y_skip (by kernel_rfl)) F3.out ?_
                     go_frame
                     refine u_tkS 65 (some 238) (undef) rfl rfl (y_skip (by kernel_rfl)) F3.out ?_
                     go_frame
                     refine u_tkS 66 (some 239) (.bool false) rfl rfl (y_vlS (fun w' hS=>by kernel_rfl)) F3.out ?_
                     go_frame
                     refine u_tkS 67 (some 240) (.bool false) rfl rfl (y_vlS (fun w' hS=>by kernel_rfl)) F3.out ?_
                     go_frame
                     refine u_tkS 68 (some 241) (.bool false) rfl rfl (y_vlS (fun w' hS=>by kernel_rfl)) F3.out ?_
                     go_frame
                     refine u_tkS 69 (some 242) (.bool false) rfl rfl (y_vlS (fun w' hS=>by kernel_rfl)) F3.out ?_
                     go_frame
                     refine u_tkS 70 (some 243) (.bool true) rfl rfl (y_vlS (fun w' hS=>by kernel_rfl)) F3.out ?_
                     go_frame
                     refine u_tkS 71 (some 244) (.bool true) rfl rfl (y_vlS (fun w' hS=>by kernel_rfl)) F3.out ?_
                     go_frame
                     as_aux_lemma =>
                      refine u_tkS 72 (some 245) (.slice (some ⟨ga,0,none⟩) k oc) rfl rfl (y_vlS (fun w' hS=>by kernel_rfl)) F3.out ?_
                      go_frame
                      refine u_tkS 73 (some 246) (.int .i64 (y:Int)) rfl rfl (y_vlS (fun w' hS=>by kernel_rfl)) F3.out ?_
                      go_frame
                      refine u_tkS 74 (some 247) (.pointer (some ⟨ga,y,none⟩)) rfl rfl (y_vlS (fun w' hS=>ex_indexO 45 58 (.tmp 245) (.tmp 246) ga y k oc rfl rfl rfl Tryz.underlying45 (fun w=>by kernel_rfl) HLY.out w')) F3.out ?_
                      go_frame
                      refine u_tkS 75 (some 248) (.pointer (some ⟨e.z.i,0,none⟩)) rfl rfl (y_cell 58 (.tmp 247) ⟨ga,y,none⟩ _ (by kernel_rfl) rfl (by kernel_rfl) (fun w' hS=>cellFr hp hS) Tryz.underlying58 rfl) F3.out ?_
                      go_frame
                      refine u_tkS 77 (some 250) (.agg #[.int .i64 0,.int .i64 0]) rfl rfl (y_vlS (fun w' hS=>by kernel_rfl)) F3.out ?_
                      go_frame
                      refine u_callE 76 (some 249) 17 #[.pointer (some ⟨e.z.i,0,none⟩)] (fun v' w'=>v'=.agg #[.int .i64 0,.int .i64 0]∧Fr none_ w3 w') rfl rfl (by kernel_rfl) (by kernel_rfl) (by kernel_rfl) ((ihead_no (EI.out.keep F3.out) HDN.out.symm).mono (by rintro ev w' ⟨rfl,h⟩;exact ⟨_,rfl,rfl,h⟩)) ?_
                      rintro v9 w4 ⟨rfl,hf4⟩
                      have F4:=hid_ (F3.out.then_none hf4)
                      clear hf4
                      refine ⟨F4.out,?_⟩
                      try go_frame
                      refine u_tkS 78 (some 251) (.bool false) rfl rfl (y_vlS (fun w' hS=>ex_neqr 48 (.tmp 249) (.tmp 250) (.agg #[.int .i64 0,.int .i64 0]) (.agg #[.int .i64 0,.int .i64 0]) false rfl (by kernel_rfl) (by kernel_rfl) (by kernel_rfl) (by rw [neq_ref];simp))) F4.out ?_
                      go_frame
                      refine u_tkS 79 (some 252) (.bool false) rfl rfl (y_vlS (fun w' hS=>by kernel_rfl)) F4.out ?_
                      go_frame
                      refine u_tkS 80 (some 253) (.bool false) rfl rfl (y_vlS (fun w' hS=>by kernel_rfl)) F4.out ?_
                      go_frame
                      refine u_done (by kernel_rfl) ?_
                      have S5:=hid_ (S3.out.keep (F1.out.then_none F4.out))
                      go_wp2_with fail
                      go_roundw
                      case rel=>exact ⟨y+1,by have:=HYK.out;omega,by go_num,S5.out⟩
                      case measure=>simp [intOf];have:=HYK.out;omega
           | true =>
            as_aux_lemma =>
             have h7x:=ED.out.s7 HDN.out.symm
             have hrs:∃ rs s g,e.z.D.refs=rs ++ [(s,g)]:=by
              cases hl:e.z.D.refs.getLast? with
              | none =>
               have:e.z.D.refs=[]:=by simpa using hl
               rw [this] at h7x
               have h1:=h7x.1
               have h2:=h7x.2
               simp at h1
               omega
              | some a =>
               obtain ⟨rs,h⟩:=last_split hl
               exact ⟨rs,a.1,a.2,h⟩
             obtain ⟨rs,sl,gn,hrs⟩:=hrs
             have hln:e.z.D.refs.length=rs.length+1:=by rw [hrs,List.length_append];rfl
             have hgt:e.z.D.refs[rs.length]?=some (sl,gn):=by rw [hrs,List.getElem?_append_right (Nat.le_refl _),Nat.sub_self];rfl
             have hrd:e.d.refs=rs ++ [(sl,gn)]:=ES.out.refs.trans hrs
             obtain ⟨b,off,hrA,r0,r1⟩:=refs_last12 ER.out hrd
             rw [hrA,show e.d.refs.length=rs.length+1 by rw [hrd,List.length_append];rfl] at b27
             obtain ⟨np,hnp⟩:∃ np,np=e.z.D.pages.length:=⟨_,rfl⟩
             rw [show e.d.pages.length=np by rw [hnp,ES.out.pages]] at b26
             have HNP:=hid_ hnp
             have HLN:=hid_ (And.intro hln hgt)
             have hw5:IntKind.i64.wrap (((rs.length+1:Nat):Int) - 1)=(rs.length:Int):=by rw [show ((rs.length+1:Nat):Int) - 1=(rs.length:Int) by omega];exact IntWalk.i64_in _ (by have:=ED.out.lr;have:=HLN.out.1;omega)
             have HW5:=hid_ hw5
             have HLY:=hid_ (show y < k from HYK.out)
             clear hrA hrd h7x hrs hln hgt hnp hw5
             have hS0:(Fr none_ w2) w2.drew:=(Fr.refl none_ w2).drew
             refine wp_region_u 81 (Fr none_ w2) (by kernel_rfl) ?_
             as_aux_lemma =>
              refine u_tkS 0 (some 173) (.bool true) rfl rfl (y_vlS (fun w' hS=>by kernel_rfl)) hS0 ?_
              go_frame
              refine u_tkS 1 (some 174) (.slice (some ⟨gb,0,none⟩) k ic) rfl rfl (y_vlS (fun w' hS=>by kernel_rfl)) hS0 ?_
              go_frame
              refine u_tkS 2 (some 175) (.int .i64 (y:Int)) rfl rfl (y_vlS (fun w' hS=>by kernel_rfl)) hS0 ?_
              go_frame
              refine u_tkS 3 (some 176) (.pointer (some ⟨gb,y * 29,none⟩)) rfl rfl (y_vlS (fun w' hS=>ex_indexZ 29 46 68 (.tmp 174) (.tmp 175) gb y k ic rfl rfl rfl Tryz.underlying46 (fun w=>by kernel_rfl) HLY.out w')) hS0 ?_
              go_frame
              refine u_tkS 4 (some 177) (.pointer (some ⟨gb,y * 29+24,none⟩)) rfl rfl (y_vlS (fun w' hS=>by kernel_rfl)) hS0 ?_
              go_frame
              refine u_tkS 5 (some 178) (.bool true) rfl rfl (y_cell 4 (.tmp 177) ⟨gb,y * 29+24,none⟩ _ (by kernel_rfl) rfl (by kernel_rfl) (fun w' hS=>cellFr b24 hS) Tryz.underlying4 rfl) hS0 ?_
              go_frame
              refine u_tkS 6 (some 179) (.bool false) rfl rfl (y_vlS (fun w' hS=>by kernel_rfl)) hS0 ?_
              go_frame
              refine u_tkS 7 (some 180) (.bool false) rfl rfl (y_vlS (fun w' hS=>by kernel_rfl)) hS0 ?_
              go_frame
              as_aux_lemma =>
               refine u_tkS 8 (some 181) (v) rfl rfl (y_vlS (fun w' hS=>by kernel_rfl)) hS0 ?_
               go_frame
               refine u_tkS 10 (some 183) (.slice (some ⟨gb,0,none⟩) k ic) rfl rfl (y_vlS (fun w' hS=>by kernel_rfl)) hS0 ?_
               go_frame
               refine u_tkS 11 (some 184) (.int .i64 (y:Int)) rfl rfl (y_vlS (fun w' hS=>by kernel_rfl)) hS0 ?_
               go_frame
               refine u_tkS 12 (some 185) (.pointer (some ⟨gb,y * 29,none⟩)) rfl rfl (y_vlS (fun w' hS=>ex_indexZ 29 46 68 (.tmp 183) (.tmp 184) gb y k ic rfl rfl rfl Tryz.underlying46 (fun w=>by kernel_rfl) HLY.out w')) hS0 ?_
               go_frame
               refine u_tkS 13 (some 186) (.pointer (some ⟨gb,y * 29+25,none⟩)) rfl rfl (y_vlS (fun w' hS=>by kernel_rfl)) hS0 ?_
               go_frame
               refine u_tkS 14 (some 187) (.int .i64 er) rfl rfl (y_cell 65 (.tmp 186) ⟨gb,y * 29+25,none⟩ _ (by kernel_rfl) rfl (by kernel_rfl) (fun w' hS=>cellFr b25 hS) Tryz.underlying65 rfl) hS0 ?_
               go_frame
               refine u_callE 9 (some 182) 19 #[v] (fun v' w'=>v'=.int .i64 er∧Fr none_ w2.drew w') rfl rfl (by kernel_rfl) (by kernel_rfl) (by kernel_rfl) ((code_er (HER.out.keep hS0) (cellFr HLW.out hS0)).mono (by rintro ev w' ⟨rfl,h⟩;exact ⟨_,rfl,rfl,h⟩)) ?_
               rintro v9 w3 ⟨rfl,hf3⟩
               have F3:=hid_ (hS0.then_none hf3)
               clear hf3
               refine ⟨F3.out,?_⟩
               try go_frame
               refine u_tkS 15 (some 188) (.bool false) rfl rfl (y_bool (b:=(er != er)) (by simp) (by kernel_rfl) (fun w' hS=>by kernel_rfl)) F3.out ?_
               go_frame
               refine u_tkS 16 (some 189) (.bool false) rfl rfl (y_vlS (fun w' hS=>by kernel_rfl)) F3.out ?_
               go_frame
               as_aux_lemma =>
                refine u_tkS 17 (some 190) (.bool false) rfl rfl (y_vlS (fun w' hS=>by kernel_rfl)) F3.out ?_
                go_frame
                refine u_tkS 18 (some 191) (v) rfl rfl (y_vlS (fun w' hS=>by kernel_rfl)) F3.out ?_
                go_frame
                refine u_tkS 19 (some 192) (.bool b0) rfl rfl (y_vlS (fun w' hS=>by
                 rcases HVB.out with ⟨h1,h2⟩ | ⟨vt,vx,h1,h2⟩
                 ·subst h1 h2
                  kernel_rfl
                 ·subst h1 h2
                  kernel_rfl)) F3.out ?_
                go_frame
                refine u_tkS 20 (some 193) (.slice (some ⟨gb,0,none⟩) k ic) rfl rfl (y_vlS (fun w' hS=>by kernel_rfl)) F3.out ?_
                go_frame
                refine u_tkS 21 (some 194) (.int .i64 (y:Int)) rfl rfl (y_vlS (fun w' hS=>by kernel_rfl)) F3.out ?_
                go_frame
                refine u_tkS 22 (some 195) (.pointer (some ⟨gb,y * 29,none⟩)) rfl rfl (y_vlS (fun w' hS=>ex_indexZ 29 46 68 (.tmp 193) (.tmp 194) gb y k ic rfl rfl rfl Tryz.underlying46 (fun w=>by kernel_rfl) HLY.out w')) F3.out ?_
                go_frame
                refine u_tkS 23 (some 196) (.pointer (some ⟨gb,y * 29+25,none⟩)) rfl rfl (y_vlS (fun w' hS=>by kernel_rfl)) F3.out ?_
                go_frame
                refine u_tkS 24 (some 197) (.int .i64 er) rfl rfl (y_cell 65 (.tmp 196) ⟨gb,y * 29+25,none⟩ _ (by kernel_rfl) rfl (by kernel_rfl) (fun w' hS=>cellFr b25 hS) Tryz.underlying65 rfl) F3.out ?_
                go_frame
                as_aux_lemma =>
                 refine u_tkS 25 (some 198) (.bool b0) rfl rfl (y_bool (b:=(er==0)) HB0.out (by kernel_rfl) (fun w' hS=>by kernel_rfl)) F3.out ?_
                 go_frame
                 refine u_tkS 26 (some 199) (.bool false) rfl rfl (y_bool (b:=(b0 != b0)) (by simp) (by kernel_rfl) (fun w' hS=>by kernel_rfl)) F3.out ?_
                 go_frame
                 refine u_tkS 27 (some 200) (.bool false) rfl rfl (y_vlS (fun w' hS=>by kernel_rfl)) F3.out ?_
                 go_frame
                 refine u_tkS 28 (some 201) (.bool false) rfl rfl (y_vlS (fun w' hS=>by kernel_rfl)) F3.out ?_
                 go_frame
                 refine u_tkS 29 (some 202) (.bool true) rfl rfl (y_vlS (fun w' hS=>by kernel_rfl)) F3.out ?_
                 go_frame
                 refine u_tkS 30 (some 203) (.bool true) rfl rfl (y_vlS (fun w' hS=>by kernel_rfl)) F3.out ?_
                 go_frame
                 refine u_tkS 31 (some 204) (.slice (some ⟨ga,0,none⟩) k oc) rfl rfl (y_vlS (fun w' hS=>by kernel_rfl)) F3.out ?_
                 go_frame
                 refine u_tkS 32 (some 205) (.int .i64 (y:Int)) rfl rfl (y_vlS (fun w' hS=>by kernel_rfl)) F3.out ?_
                 go_frame
                 as_aux_lemma =>
                  refine u_tkS 33 (some 206) (.pointer (some ⟨ga,y,none⟩)) rfl rfl (y_vlS (fun w' hS=>ex_indexO 45 58 (.tmp 204) (.tmp 205) ga y k oc rfl rfl rfl Tryz.underlying45 (fun w=>by kernel_rfl) HLY.out w')) F3.out ?_
                  go_frame
                  refine u_tkS 34 (some 207) (.pointer (some ⟨e.z.i,0,none⟩)) rfl rfl (y_cell 58 (.tmp 206) ⟨ga,y,none⟩ _ (by kernel_rfl) rfl (by kernel_rfl) (fun w' hS=>cellFr hp hS) Tryz.underlying58 rfl) F3.out ?_
                  go_frame
                  refine u_tkS 36 (some 209) (.slice (some ⟨gb,0,none⟩) k ic) rfl rfl (y_vlS (fun w' hS=>by kernel_rfl)) F3.out ?_
                  go_frame
                  refine u_tkS 37 (some 210) (.int .i64 (y:Int)) rfl rfl (y_vlS (fun w' hS=>by kernel_rfl)) F3.out ?_
                  go_frame
                  refine u_tkS 38 (some 211) (.pointer (some ⟨gb,y * 29,none⟩)) rfl rfl (y_vlS (fun w' hS=>ex_indexZ 29 46 68 (.tmp 209) (.tmp 210) gb y k ic rfl rfl rfl Tryz.underlying46 (fun w=>by kernel_rfl) HLY.out w')) F3.out ?_
                  go_frame
                  refine u_tkS 39 (some 212) (.pointer (some ⟨gb,y * 29+27,none⟩)) rfl rfl (y_vlS (fun w' hS=>by kernel_rfl)) F3.out ?_
                  go_frame
                  refine u_tkS 40 (some 213) (.slice (some ⟨b,off,none⟩) (rs.length+1) e.y.rc) rfl rfl (y_cell 66 (.tmp 212) ⟨gb,y * 29+27,none⟩ _ (by kernel_rfl) rfl (by kernel_rfl) (fun w' hS=>cellFr b27 hS) Tryz.underlying66 rfl) F3.out ?_
                  go_frame
                  refine u_tkS 41 (some 214) (.slice (some ⟨gb,0,none⟩) k ic) rfl rfl (y_vlS (fun w' hS=>by kernel_rfl)) F3.out ?_
                  go_frame
                  as_aux_lemma =>
                   refine u_tkS 42 (some 215) (.int .i64 (y:Int)) rfl rfl (y_vlS (fun w' hS=>by kernel_rfl)) F3.out ?_
                   go_frame
                   refine u_tkS 43 (some 216) (.pointer (some ⟨gb,y * 29,none⟩)) rfl rfl (y_vlS (fun w' hS=>ex_indexZ 29 46 68 (.tmp 214) (.tmp 215) gb y k ic rfl rfl rfl Tryz.underlying46 (fun w=>by kernel_rfl) HLY.out w')) F3.out ?_
                   go_frame
                   refine u_tkS 44 (some 217) (.pointer (some ⟨gb,y * 29+27,none⟩)) rfl rfl (y_vlS (fun w' hS=>by kernel_rfl)) F3.out ?_
                   go_frame
                   refine u_tkS 45 (some 218) (.slice (some ⟨b,off,none⟩) (rs.length+1) e.y.rc) rfl rfl (y_cell 66 (.tmp 217) ⟨gb,y * 29+27,none⟩ _ (by kernel_rfl) rfl (by kernel_rfl) (fun w' hS=>cellFr b27 hS) Tryz.underlying66 rfl) F3.out ?_
                   go_frame
                   refine u_tkS 46 (some 219) (.int .i64 ((rs.length+1:Nat):Int)) rfl rfl (y_vlS (fun w' hS=>by kernel_rfl)) F3.out ?_
                   go_frame
                   refine u_tkS 47 (some 220) (.int .i64 (rs.length:Int)) rfl rfl (y_int HW5.out (by kernel_rfl) (fun w' hS=>by kernel_rfl)) F3.out ?_
                   go_frame
                   refine u_tkS 48 (some 221) (.pointer (some ⟨b,off+rs.length * 2,none⟩)) rfl rfl (.inl ⟨by kernel_rfl,fun w' hS=>ex_index 66 48 (.tmp 213) (.tmp 220) b off rs.length (rs.length+1) e.y.rc rfl (by kernel_rfl) (by kernel_rfl) Tryz.underlying66 ref_sz12 (by omega) w'⟩) F3.out ?_
                   go_frame
                   refine u_tkS 49 (some 222) (.agg #[.int .i64 sl,.int .i64 gn]) rfl rfl (yieldsIf_load_mid (by kernel_rfl) 48 (.tmp 221) rfl b (off+rs.length * 2) (by kernel_rfl) [.int .i64 sl,.int .i64 gn] _ (fun w' hS j v hv=>by match j,hv with | 0,hv=>obtain rfl:=Option.some.inj hv;exact cellFr r0 hS | 1,hv=>obtain rfl:=Option.some.inj hv;exact cellFr r1 hS | n+2,hv=>simp at hv) Tryz.underlying48 rfl ref_size12) F3.out ?_
                   go_frame
                   refine u_callE 35 (some 208) 17 #[.pointer (some ⟨e.z.i,0,none⟩)] (fun v' w'=>v'=.agg #[.int .i64 sl,.int .i64 gn]∧Fr none_ w3 w') rfl rfl (by kernel_rfl) (by kernel_rfl) (by kernel_rfl) ((ihead_ok (EI.out.keep F3.out) HDN.out.symm HLN.out.1 HLN.out.2).mono (by rintro ev w' ⟨rfl,h⟩;exact ⟨_,rfl,rfl,h⟩)) ?_
                   rintro v9 w4 ⟨rfl,hf4⟩
                   have F4:=hid_ (F3.out.then_none hf4)
                   clear hf4
                   refine ⟨F4.out,?_⟩
                   try go_frame
                   as_aux_lemma =>
                    refine u_tkS 50 (some 223) (.bool false) rfl rfl (y_vlS (fun w' hS=>ex_neqr 48 (.tmp 208) (.tmp 222) (.agg #[.int .i64 sl,.int .i64 gn]) (.agg #[.int .i64 sl,.int .i64 gn]) false rfl (by kernel_rfl) (by kernel_rfl) (by kernel_rfl) (by rw [neq_ref];simp))) F4.out ?_
                    go_frame
                    refine u_tkS 51 (some 224) (.bool false) rfl rfl (y_vlS (fun w' hS=>by kernel_rfl)) F4.out ?_
                    go_frame
                    refine u_tkS 52 (some 225) (.slice (some ⟨ga,0,none⟩) k oc) rfl rfl (y_vlS (fun w' hS=>by kernel_rfl)) F4.out ?_
                    go_frame
                    refine u_tkS 53 (some 226) (.int .i64 (y:Int)) rfl rfl (y_vlS (fun w' hS=>by kernel_rfl)) F4.out ?_
                    go_frame
                    refine u_tkS 54 (some 227) (.pointer (some ⟨ga,y,none⟩)) rfl rfl (y_vlS (fun w' hS=>ex_indexO 45 58 (.tmp 225) (.tmp 226) ga y k oc rfl rfl rfl Tryz.underlying45 (fun w=>by kernel_rfl) HLY.out w')) F4.out ?_
                    go_frame
                    refine u_tkS 55 (some 228) (.pointer (some ⟨e.z.i,0,none⟩)) rfl rfl (y_cell 58 (.tmp 227) ⟨ga,y,none⟩ _ (by kernel_rfl) rfl (by kernel_rfl) (fun w' hS=>cellFr hp hS) Tryz.underlying58 rfl) F4.out ?_
                    go_frame
                    refine u_tkS 58 (some 231) (.slice (some ⟨gb,0,none⟩) k ic) rfl rfl (y_vlS (fun w' hS=>by kernel_rfl)) F4.out ?_
                    go_frame
                    refine u_tkS 59 (some 232) (.int .i64 (y:Int)) rfl rfl (y_vlS (fun w' hS=>by kernel_rfl)) F4.out ?_
                    go_frame
                    as_aux_lemma =>
                     refine u_tkS 60 (some 233) (.pointer (some ⟨gb,y * 29,none⟩)) rfl rfl (y_vlS (fun w' hS=>ex_indexZ 29 46 68 (.tmp 231) (.tmp 232) gb y k ic rfl rfl rfl Tryz.underlying46 (fun w=>by kernel_rfl) HLY.out w')) F4.out ?_
                     go_frame
                     refine u_tkS 61 (some 234) (.pointer (some ⟨gb,y * 29+26,none⟩)) rfl rfl (y_vlS (fun w' hS=>by kernel_rfl)) F4.out ?_
                     go_frame
                     refine u_tkS 62 (some 235) (.slice e.y.pA np e.y.pc) rfl rfl (y_cell 39 (.tmp 234) ⟨gb,y * 29+26,none⟩ _ (by kernel_rfl) rfl (by kernel_rfl) (fun w' hS=>cellFr b26 hS) Tryz.underlying39 rfl) F4.out ?_
                     go_frame
                     refine u_tkS 63 (some 236) (.int .i64 (np:Int)) rfl rfl (y_vlS (fun w' hS=>by kernel_rfl)) F4.out ?_
                     go_frame
                     refine u_callE 56 (some 229) 18 #[.pointer (some ⟨e.z.i,0,none⟩)] (fun v' w'=>∃ A9 c9',v'=.slice A9 np c9'∧Fr none_ w4 w') rfl rfl (by kernel_rfl) (by kernel_rfl) (by kernel_rfl) ((ipages_ok12 (EI.out.keep F4.out) HDN.out.symm ED.out.lp).mono (by rintro ev w' ⟨A9,c9',rfl,h⟩;exact ⟨_,rfl,A9,c9',by rw [HNP.out],h⟩)) ?_
                     rintro v9 w5 ⟨A9,c9',rfl,hf5⟩
                     have F5:=hid_ (F4.out.then_none hf5)
                     clear hf5
                     refine ⟨F5.out,?_⟩
                     try go_frame
                     refine u_tkS 57 (some 230) (.int .i64 (np:Int)) rfl rfl (y_vlS (fun w' hS=>by kernel_rfl)) F5.out ?_
                     go_frame
                     refine u_tkS 64 (some 237) (.bool false) rfl rfl (y_bool (b:=((np:Int) != (np:Int))) (by simp) (by kernel_rfl) (fun w' hS=>by kernel_rfl)) F5.out ?_
                     go_frame
                     refine u_tkS 65 (some 238) (.bool false) rfl rfl (y_vlS (fun w' hS=>by kernel_rfl)) F5.out ?_
                     go_frame
                     refine u_tkS 66 (some 239) (.bool false) rfl rfl (y_vlS (fun w' hS=>by kernel_rfl)) F5.out ?_
                     go_frame
                     as_aux_lemma =>
                      refine u_tkS 67 (some 240) (.bool false) rfl rfl (y_vlS (fun w' hS=>by kernel_rfl)) F5.out ?_
                      go_frame
                      refine u_tkS 68 (some 241) (.bool false) rfl rfl (y_vlS (fun w' hS=>by kernel_rfl)) F5.out ?_
                      go_frame
                      refine u_tkS 69 (some 242) (.bool true) rfl rfl (y_vlS (fun w' hS=>by kernel_rfl)) F5.out ?_
                      go_frame
                      refine u_tkS 70 (some 243) (.bool false) rfl rfl (y_vlS (fun w' hS=>by kernel_rfl)) F5.out ?_
                      go_frame
                      refine u_tkS 71 (some 244) (.bool false) rfl rfl (y_vlS (fun w' hS=>by kernel_rfl)) F5.out ?_
                      go_frame
                      refine u_tkS 72 (some 245) (undef) rfl rfl (y_skip (by kernel_rfl)) F5.out ?_
                      go_frame
                      refine u_tkS 73 (some 246) (undef) rfl rfl (y_skip (by kernel_rfl)) F5.out ?_
                      go_frame
                      refine u_tkS 74 (some 247) (undef) rfl rfl (y_skip (by kernel_rfl)) F5.out ?_
                      go_frame
                      as_aux_lemma =>
                       refine u_tkS 75 (some 248) (undef) rfl rfl (y_skip (by kernel_rfl)) F5.out ?_
                       go_frame
                       refine u_tkS 76 (some 249) (undef) rfl rfl (y_skip (by kernel_rfl)) F5.out ?_
                       go_frame
                       refine u_tkS 77 (some 250) (undef) rfl rfl (y_skip (by kernel_rfl)) F5.out ?_
                       go_frame
                       refine u_tkS 78 (some 251) (undef) rfl rfl (y_skip (by kernel_rfl)) F5.out ?_
                       go_frame
                       refine u_tkS 79 (some 252) (.bool false) rfl rfl (y_vlS (fun w' hS=>by kernel_rfl)) F5.out ?_
                       go_frame
                       refine u_tkS 80 (some 253) (.bool false) rfl rfl (y_vlS (fun w' hS=>by kernel_rfl)) F5.out ?_
                       go_frame
                       refine u_done (by kernel_rfl) ?_
                       have S5:=hid_ (S3.out.keep (F1.out.then_none F5.out))
                       go_wp2_with fail
                       go_roundw
                       case rel=>exact ⟨y+1,by have:=HYK.out;omega,by go_num,S5.out⟩
                       case measure=>simp [intOf];have:=HYK.out;omega
          ·have S7:=hid_ h7
           have H7:=hid_ (show (e.z.D.stage==7)=false by simpa using h7)
           rw [ES.out.notover h7] at b23
           clear h7 b24 b25 b26 b27
           go_wp2_with fail
           refine (done_busy EI.out S7.out).mono ?_
           rintro ev w1 ⟨rfl,rfl⟩
           go_upto_region 29 with fail
           as_aux_lemma =>
            have q0:∀ x:Wx wr,x.to.cell? ⟨ga,y,none⟩=some (.pointer (some ⟨e.z.i,0,none⟩)):=fun x=>x.cell hp
            have q1:∀ x:Wx wr,x.to.cell? ⟨gb,y * 29+23,none⟩=some (.bool false):=fun x=>x.cell b23
            have q2:∀ x:Wx wr,x.to.cell? ⟨cab,y,none⟩=some (.int .i64 c9):=fun x=>x.cell hcc
            have HC:Hid (∀ x:Wx wr,Calls Tryz.prog 15 #[.pointer (some ⟨e.z.i,0,none⟩)] x.to fun e w'=>e=.returned (.bool false)∧Fr none_ x.to w'):=hid_ (fun x=>(over_ok (EI.out.keep x.fr)).mono (by rintro ev w' ⟨rfl,rfl⟩;exact ⟨by rw [H7.out],Fr.refl _ _⟩))
            refine wp_region_quiet_x (by kernel_rfl) (by kernel_rfl) ?_
            repeat (first | go_big_quiet_step ((go_at_call 15;exact Calls.quiet_x (HC.out _))) | quiet_step ((go_at_call 15;exact Calls.quiet_x (HC.out _))))
            refine wpQuiet_nil ?_
            intro _ hw'
            obtain ⟨xq,hw''⟩:=hw'
            subst hw''
            obtain ⟨w2,hw2⟩:∃ z,z=xq.to:=⟨_,rfl⟩
            have f12:Fr none_ wr w2:=by rw [hw2];exact xq.fr
            rw [← hw2]
            clear hw2 q0 q1 q2 HC
            have F1:=hid_ f12
            replace hp:=cellFr hp f12
            replace b23:=cellFr b23 f12
            replace EI:=hid_ (EI.out.keep f12)
            have HND:=hid_ (ED.out.nodone S7.out)
            clear f12 hcc
            go_wp2_with fail
            refine (busy_is _).mono ?_
            rintro ev w3 ⟨rfl,hf3⟩
            replace F1:=hid_ (F1.out.then_none hf3)
            replace hp:=cellFr hp hf3
            replace EI:=hid_ (EI.out.keep hf3)
            clear hf3
            have hqn:∀ w',(binOp .neq 48 (.agg #[.int .i64 0,.int .i64 0]) (.agg #[.int .i64 0,.int .i64 0])).run Tryz.prog w'=.ok (.bool false) w':=fun w'=>by rw [neq_ref];simp
            go_wp2_with fail
            refine (ihead_no EI.out HND.out).mono ?_
            rintro ev w4 ⟨rfl,hf4⟩
            replace F1:=hid_ (F1.out.then_none hf4)
            replace hp:=cellFr hp hf4
            replace EI:=hid_ (EI.out.keep hf4)
            clear hf4
            go_wp2_with fail
            refine (ipages_no EI.out HND.out).mono ?_
            rintro ev w5 ⟨rfl,hf5⟩
            replace F1:=hid_ (F1.out.then_none hf5)
            clear hf5
            have S5:=hid_ (S3.out.keep F1.out)
            go_wp2_with fail
            go_roundw
            case rel=>exact ⟨y+1,by have:=HYK.out;omega,by go_num,S5.out⟩
            case measure=>simp [intOf];have:=HYK.out;omega
         ·obtain rfl:y=k:=by omega
          go_wp2_with fail
          refine (awake12 _).mono ?_
          rintro e w15 ⟨rfl,hf15⟩
          have F15:=hid_ (S3.out.f.then_none hf15)
          clear hf15
          go_wp2_with fail
          go_ret
          exact ⟨rfl,F15.out⟩
theorem plays12_walk_i {H:Type} {enc:TypeId × Value→H} (s p tt r c q:Int) (A:Option Addr) (n cap:Nat) (hc:n≤cap) (hm:cap≤maxLen) (T:Option Addr) (tn tc:Nat) (hc2:tn≤tc) (hm2:tc≤maxLen) (W:World) (hLd:Laid W) (hJ:Job12At enc W A n) (hT:Bytes12 W T tn) :
    Calls Tryz.prog 3 #[.agg #[.int .i64 s,.int .i64 p,.int .i64 tt,.int .i64 r,.int .i64 c,.int .i64 q],.slice A n cap,.slice T tn tc] W fun e w'=>e=.returned (.bool true)∧Fr none_ W w':=by
  obtain ⟨L,hL⟩:=jobs_in hJ
  exact plays12_walk s p tt r c q A n cap L T tn tc W hLd hL (Nat.le_trans hc hm) hT (Nat.le_trans hc2 hm2)
end Go.Proofs.YthcpccddcgbanaaGreatDoor
