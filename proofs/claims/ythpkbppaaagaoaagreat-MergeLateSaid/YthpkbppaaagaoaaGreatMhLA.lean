/- Layer 13: MergeLate. -/
import Derived.BigRegion
import Derived.Test.YthpkbppaaagaoaaGreatMhA
import Derived.Test.YthpkbppaaagaoaaGreatMhB
import Derived.Test.YthpkbppaaagaoaaGreatMhN
import Derived.Test.YthpkbppaaagaoaaGreatMhR
import Derived.Test.YthpkbppaaagaoaaGreatMhU
namespace Go.Proofs.YthpkbppaaagaoaaGreat
open Go.RowKit Go.BigFrame
set_option maxRecDepth 100000
set_option linter.unusedVariables false

structure LateSt (c:Cf) (cur:List Rw) (W:World) (m M b0 u hb n0:Nat) (v0:Option Lw) (z0:H1) (k:Int) (x:St) (js:Nat→List Nat) (z:H1) (w:World):Prop where
  hp:Hps c 3 cur W w m k (lim13 200) x js M b0 u [z0,z]
  hh:z.h=hb
  vw:viewOf x.ss (js c.i)=v0
  ln:(js c.i).length=n0
structure LateOk (c:Cf) (u n0:Nat):Prop where
  ok:CfOk c
  n:c.N=200
  u:u≤30
  z:c.Z.length≤2
  n0:n0≤4
section
variable {c:Cf} {cur:List Rw} {W w w':World} {m M b0 u hb n0:Nat} {v0:Option Lw} {z0:H1} {k:Int} {x:St} {js:Nat→List Nat} {z:H1}
theorem LateSt.keep (R:LateSt c cur W m M b0 u hb n0 v0 z0 k x js z w) (hf:Fr none_ w w'):LateSt c cur W m M b0 u hb n0 v0 z0 k x js z w':=⟨R.hp.keep hf,R.hh,R.vw,R.ln⟩
theorem LateSt.mu_le (O:LateOk c u n0) (R:LateSt c cur W m M b0 u hb n0 v0 z0 k x js z w):mu c 3 x js z.ph≤28:=by
  obtain ⟨_,_,hI⟩:=R.hp.hp z (by simp)
  have:=Go.Proofs.YthpkbppaaagaoaaGreat.mu_le R.hp.wd hI
  have h1:=R.ln
  have h2:=O.n0
  omega
theorem late_step (O:LateOk c u n0) (R:LateSt c cur W m M b0 u hb n0 v0 z0 k x js z w) (ho:z.ph.isOver=false) (hk:k≤900) :
    Calls Tryz.prog 18 #[.pointer (some ⟨hb,0,none⟩),.pointer (some ⟨m,0,none⟩)] w fun e w'=>∃ x' js' z',e=.returned (.bool z'.ph.isOver)∧LateSt c cur W m M b0 u hb n0 v0 z0 (k+1) x' js' z' w'∧Kept13 w w'∧mu c 3 x' js' z'.ph+1≤mu c 3 x js z.ph:=by
  have hcl:=cntL_le [z0,z]
  have hN:=O.n
  have hu:=O.u
  have hz:=O.z
  have h0:=js0_le R.hp.wd
  have hl:=R.ln
  have hn:=O.n0
  obtain ⟨hH,hK,hI⟩:=R.hp.hp z (by simp)
  have hs:=hps_step O.ok R.hp (i:=1) (z:=z) rfl ho (by omega) (by simp at hcl;omega) (show k+1 < 999 by omega) ⟨by omega,by omega⟩
  rw [R.hh] at hs
  refine hs.mono ?_
  rintro e w' ⟨Φ',js',x',z',rfl,P,hst,⟨u0,S⟩,hh,hkp⟩
  obtain ⟨m1,_⟩:=mu_step O.ok R.hp.wd hK hst hI S
  obtain rfl:Φ'=3:=by have:=S.en.le;have:=S.en.f3;omega
  obtain ⟨j1,_⟩:=js_same R.hp.wd S rfl
  obtain ⟨s,g,q1,q2,q3⟩:=R.hp.wd.pg c.i (by have:=R.hp.wd.iM;omega)
  have hv:viewOf x'.ss (js' c.i)=viewOf x.ss (js c.i):=by
    rw [j1]
    exact viewOf_same (S.en.ad.links q2 (fun j hj=>S.en.qn c.i j hj)).2.1
  exact ⟨x',js',z',rfl,⟨P,hh.trans R.hh,hv.trans R.vw,by rw [j1];exact R.ln⟩,hkp,m1⟩
theorem late_over (R:LateSt c cur W m M b0 u hb n0 v0 z0 k x js z w) (ho:z.ph.isOver=true) :
    Calls Tryz.prog 18 #[.pointer (some ⟨hb,0,none⟩),.pointer (some ⟨m,0,none⟩)] w fun e w'=>e=.returned (.bool true)∧w=w':=by
  obtain ⟨hH,_,_⟩:=R.hp.hp z (by simp)
  obtain ⟨d,hd⟩:=over_ex ho
  rw [hd,R.hh] at hH
  exact hstep_end _ hH
set_option maxHeartbeats 4000000 in
theorem runs_late (O:LateOk c u n0) (R:LateSt c cur W m M b0 u hb n0 v0 z0 k x js z w) (hk:k≤800) {b:Nat} {A:Nat} {cap:Nat} (hc:w.cell? ⟨A,0,none⟩=some (.pointer (some ⟨hb,0,none⟩))) :
  Calls Tryz.prog 27 #[.slice (some ⟨A,0,none⟩) 1 cap,.pointer (some ⟨m,0,none⟩)] w fun e w'=>∃ k' x' js' z',e=.returned (.bool true)∧LateSt c cur W m M b0 u hb n0 v0 z0 k' x' js' z' w'∧z'.ph.isOver=true∧Kept13 w w':=by
 have hk0:0≤k:=R.hp.k0
 have hA:A < w.heap.size:=World.block_lt_of_cell? w _ hc
 have HO:=hid_ O
 have HR:=hid_ R
 clear O R
 go_enter Tryz.func27,Tryz.ntmps27
 go_wp2_with fail
 go_loopw [10] (fun v wr=>(v=.int .i64 0∧wr=w)∨(v=.int .i64 1∧∃ k' x' js' z',LateSt c cur W m M b0 u hb n0 v0 z0 k' x' js' z' wr∧z'.ph.isOver=true∧Kept13 w wr)) (fun v _=>1 - (intOf v).toNat)
 case atStart=>exact .inl ⟨rfl,rfl⟩
 case round =>
  rcases hrel with ⟨rfl,rfl⟩ | ⟨rfl,k',x',js',z',hL,hov,hkp⟩
  ·obtain ⟨wo,rfl⟩:∃ wo:World,wo=wr:=⟨_,rfl⟩
   go_wp2_with fail
   go_loopw [7] (fun v wr=>∃ (n:Nat) (k':Int) (x':St) (js':Nat→List Nat) (z':H1),n≤30∧v=.int .i64 n∧LateSt c cur W m M b0 u hb n0 v0 z0 k' x' js' z' wr∧(k'≤k+n∧mu c 3 x' js' z'.ph+n≤28∧Kept13 wo wr)) (fun v _=>100 - (intOf v).toNat)
   case atStart=>exact ⟨0,k,x,js,z,Nat.zero_le _,rfl,HR.out,by simp,by have:=HR.out.mu_le HO.out;omega,Kept13.refl _⟩
   case round =>
    obtain ⟨n,k1,x1,js1,z1,hn,rfl,hL,hk1,hm1,hkp⟩:=hrel
    have I:=hid_ hL
    have KP:=hid_ hkp
    have MU:=hid_ hm1
    clear hL hkp hm1
    have hn0:(0:Int)≤(n:Int):=Int.natCast_nonneg _
    cases hov:z1.ph.isOver with
    | true =>
     have OV:=hid_ hov
     clear hov
     go_wp2_with fail
     refine (late_over I.out OV.out).mono ?_
     rintro e w2 ⟨rfl,rfl⟩
     go_wp2_with fail
     go_roundw
     case rel=>exact .inr ⟨by go_num,k1,x1,js1,z1,I.out,OV.out,KP.out⟩
     case measure=>simp [intOf]
    | false =>
     have hst:=hid_ (late_step HO.out I.out hov (by omega))
     clear hov
     go_wp2_with fail
     refine hst.out.mono ?_
     rintro e w2 ⟨x2,js2,z2,rfl,hL2,hkp2,hm2⟩
     have I2:=hid_ hL2
     have KP2:=hid_ (KP.out.trans hkp2)
     have MU2:=hid_ (show mu c 3 x2 js2 z2.ph+(n+1)≤28 by have:=MU.out;omega)
     clear hst hL2 hkp2 hm2 I
     cases hov:z2.ph.isOver with
     | true =>
      have OV:=hid_ hov
      clear hov
      go_wp2_with fail
      go_roundw
      case rel=>exact .inr ⟨by go_num,k1+1,x2,js2,z2,I2.out,OV.out,KP2.out⟩
      case measure=>simp [intOf]
     | false =>
      clear hov
      have hn2:¬ ((n:Int) > 200):=by omega
      go_wp2_with fail
      go_roundw
      case rel=>exact ⟨n+1,k1+1,x2,js2,z2,by have:=MU2.out;omega,by go_num,I2.out,by push_cast;omega,MU2.out,KP2.out⟩
      case measure=>simp [intOf];omega
  ·have Q:=hid_ (And.intro hL (And.intro hov hkp))
   clear hL hov hkp
   go_wp2_with fail
   go_ret
   exact ⟨k',x',js',z',rfl,Q.out.1,Q.out.2.1,Q.out.2.2⟩
end
section
variable {l:List Rw} {S:List ByteArray} {i N:Nat} {hs hg rs rg:Int} {sp:Int→Prop}
variable {x:St} {js:Nat→List Nat} {M Φ:Nat} {cur:List Rw}
theorem bel_split (hl:RightR l) (hS:SepsOk S) (h1:1≤i) (h2:i≤S.length) (hw:Wd (cf13 N l S i hs hg rs rg sp) Φ cur x js M) (hM:S.length+2≤M) (hv:viewOf x.ss (js i)=some ((cf13 N l S i hs hg rs rg sp).VS cur ((S.length:Int)+2))) :
    Bel x js nilS 1 (S.length+1) (allR l S i cur):=by
  have hoth:∀ p,1≤p→p≤S.length+1→p≠i→p≠i+1→PgOk x js p (baseL (lfR13 l S (p - 1))):=fun p a b c d=>wd_other hl hS hw a (by omega) b c d
  have hP:=wd_pgok hw (p:=i) (by omega) hv
  have hB:PgOk x js (S.length+2) (baseL (lfR13 l S i)):=by
    refine wd_pgok hw hM ?_
    have:=hw.ot (S.length+2) (by omega) hM (show S.length+2≠i by omega) (show S.length+2≠i+1 by omega)
    unfold viewOf
    rw [this]
    show foldL (if S.length+2=S.length+2 then _ else _)=_
    rw [if_pos rfl,lf_fold hl hS h2]
  have hb:Bel x js (leafLow S i) (S.length+2) (S.length - i+1) ((lfR13 l S i).rows ++ segR l S (i+1) (S.length - i)):=by
    by_cases e:i=S.length
    · rw [show S.length - i=0 by omega,segR,List.append_nil]
      exact Bel.last' hB rfl (decide_eq_true e) rfl rfl
    · obtain ⟨d,hd⟩:∃ d,S.length - i=d+1:=⟨S.length - i - 1,by omega⟩
      rw [hd]
      refine Bel.more' hB rfl (decide_eq_false e) (q:=i+2) ?_ (bel_tail (l:=l) (S:=S) (i:=i) (fun p a b=>hoth p (by omega) b (by omega) (by omega)) d (i+1) (by omega) (by omega)) rfl rfl rfl
      show (if i < S.length then (i:Int)+2 else 0)=_
      rw [if_pos (by omega)]
      rfl
  have hi:Bel x js (leafLow S (i - 1)) i (S.length - i+2) (cur ++ ((lfR13 l S i).rows ++ segR l S (i+1) (S.length - i))):=
    Bel.more' hP rfl rfl (q:=S.length+2) (by show ((S.length:Int)+2)=_;push_cast;rfl) hb rfl rfl rfl
  have:=bel_head (l:=l) (fun p a b=>hoth p a (by omega) (by omega) (by omega)) h2 hi (i - 1) 0 (by omega) h1
  rw [show i - 1+(S.length - i+2)=S.length+1 by omega] at this
  exact this
end
set_option maxHeartbeats 2000000 in
theorem mgone_no {w:World} {h:Nat} {H:Hm} (hb:HpB w h H) (ho:H.done=false):Calls Tryz.prog 33 #[.pointer (some ⟨h,0,none⟩)] w fun e w'=>e=.returned (.tuple #[.agg #[.int .i64 0,.int .i64 0],.int .i64 (-1)])∧Fr none_ w w':=by
  obtain ⟨w0,hw0⟩:∃ z,z=w.alloc (.cells #[.int .i64 0,.int .i64 0] 36):=⟨_,rfl⟩
  have f0:Fr none_ w w0:=by rw [hw0];exact (Fr.refl none_ w).alloc _
  have B0:Hid (Blk w0 w.heap.size 36 #[.int .i64 0,.int .i64 0]):=hid_ (by rw [hw0];exact Blk.new w _ _)
  have F0:=hid_ f0
  have c20:w0.cell? ⟨h,20,none⟩=some (.bool false):=by rw [← ho];exact cellFr (hb.cell' rfl) f0
  have r0:=B0.out.cell' (i:=0) rfl
  have r1:=B0.out.cell' (i:=1) rfl
  have z0:=B0.out.frozen 0
  have z1:=B0.out.frozen 1
  clear hb f0
  go_enter Tryz.func33,Tryz.ntmps33
  go_upto_region 1 with fail
  change Code.wp _ _ _ _ (w.alloc (.cells #[.int .i64 0,.int .i64 0] 36))
  rw [← hw0]
  clear hw0
  go_wp2_with fail
  obtain ⟨w2,hw2⟩:∃ z,z=(w0.setCell ⟨w.heap.size,0,none⟩ (.int .i64 0)).setCell ⟨w.heap.size,1,none⟩ (.int .i64 0):=⟨_,rfl⟩
  change bodyPost _ _ _ _ _ ((w0.setCell ⟨w.heap.size,0,none⟩ (.int .i64 0)).setCell ⟨w.heap.size,1,none⟩ (.int .i64 0))
  rw [← hw2]
  have B1:Blk ((w0.setCell ⟨w.heap.size,0,none⟩ (.int .i64 0)).setCell ⟨w.heap.size,1,none⟩ (.int .i64 0)) w.heap.size 36 #[.int .i64 0,.int .i64 0]:=(B0.out.set_ 0 (.int .i64 0)).set_ 1 (.int .i64 0)
  have f1:Fr (only w.heap.size) w0 ((w0.setCell ⟨w.heap.size,0,none⟩ (.int .i64 0)).setCell ⟨w.heap.size,1,none⟩ (.int .i64 0)):=frO13 (Fr.only1 _ ⟨w.heap.size,0,none⟩ _) _
  have B2:Blk w2 w.heap.size 36 #[.int .i64 0,.int .i64 0]:=by rw [hw2];exact B1
  have F2:Fr none_ w w2:=F0.out.then_only (by rw [hw2];exact f1) (.inr (Nat.le_refl _))
  have q0:=B2.cell' (i:=0) rfl
  have q1:=B2.cell' (i:=1) rfl
  clear hw2 B1 f1
  refine bodyPost_ret (v:=.tuple #[.agg #[.int .i64 0,.int .i64 0],.int .i64 (-1)]) ?_ rfl ⟨rfl,F2⟩
  simp [results,Tryz.results33,go_sem,q0,q1]

theorem ref_size13:(Tryz.prog.info? 36).map (·.size)=some 2:=by kernel_rfl
theorem hold_size13:(Tryz.prog.info? 38).map (·.size)=some 3:=by kernel_rfl
theorem take_at13 {ps:List Pg} {M:Nat} (hu:∀ p,p≤M→∃ s g,ps[p]?=some (true,s,g)) (hf:∃ s g,ps[M+1]?=some (false,s,g)) {n c:Int} {ps':List Pg} (ht:TakeR ps n c ps'):n=((M+1:Nat):Int)∧c=0∧ps'=ps.set (M+1) (true,0,0):=by
  obtain ⟨s1,g1,hM⟩:=hf
  rcases ht with ⟨i,s,g,h1,h2,h3,h4,h5⟩ | ⟨h1,_⟩
  · have hi:i=M+1:=by
      rcases Nat.lt_trichotomy i (M+1) with h | h | h
      · obtain ⟨s2,g2,e⟩:=hu i (by omega)
        rw [h1] at e
        cases e
      · exact h
      · have:=h2 (M+1) _ h hM
        cases this
    subst hi
    exact ⟨h3,h4,h5⟩
  · have:=h1 (M+1) _ hM
    cases this
section
variable {c:Cf} {Φ:Nat} {cur:List Rw} {W w w':World} {m:Nat} {k:Int} {lm:Lm} {x:St} {js:Nat→List Nat} {M b0 u:Nat} {Lh:List H1}
theorem hps_take (P:Hps c Φ cur W w m k lm x js M b0 u Lh) {v:Pg} (hM:Mm w' m (k+1) lm { x with ps:=x.ps.set (M+1) v }) (hfr:Fr (mall m x) w w'):Hps c Φ cur W w' m (k+1) lm { x with ps:=x.ps.set (M+1) v } js M b0 u Lh:=by
  have he:∀ p,p≤M→(x.ps.set (M+1) v)[p]?=x.ps[p]?:=fun p hp=>List.getElem?_set_ne (by omega)
  have hi:=P.wd.iM
  exact P.other hM (by omega) hfr ⟨rfl,rfl,rfl,rfl,rfl,rfl⟩ (P.wd.ps he) (q:=0) ⟨⟨fun _ _ h _ _=>h,fun _=>List.suffix_refl _,fun _ _ h=>.inl h⟩,Nat.le_refl _,P.wd.f3,fun _=>he _ hi,zero_q js⟩ P.q0 ((P.rm.ps _).mono (by omega))
theorem hps_newp (hc:CfOk c) (P:Hps c Φ cur W w m k lm x js M b0 u Lh) {s g:Int} {R:Rc} (hl:Loose x js s g R) (hq:∀ z ∈ Lh,z.ph.slot≠s∨z.ph.cnt=0) (hR:R.nslot=0∧R.ngen=0) (hh:x.ps[M+1]?=some (true,0,0)) (hpr:PRec R) (hlf:R.kind=1) (hO:c.O (M+1)=[R]) {n:Int} (hn:n=((M+1:Nat):Int)) {ok:Bool} {cc:Int} {ps':List Pg} (hS:SwapR x.ps n 0 0 s g ok cc ps') (hM:Mm w' m (k+1) lm { x with ps:=ps' }) (hfr:Fr (mall m x) w w') :
    ok=true∧cc=0∧∃ js',Hps c Φ cur W w' m (k+1) lm { x with ps:=ps' } js' (M+1) b0 u Lh∧js' c.i=js c.i:=by
  obtain ⟨e1,⟨rfl,_,_,e2⟩ | ⟨_,e,_⟩⟩:=swap_used13 hS hn hh
  rotate_left
  · exact absurd ⟨rfl,rfl⟩ e
  subst e2
  have hi:=P.wd.iM
  obtain ⟨i,e3,ad,ni,hw⟩:=P.wd.newp hc hl hR hh hpr hlf hO
  refine ⟨rfl,e1,_,P.other hM (by omega) hfr ⟨rfl,rfl,rfl,rfl,rfl,rfl⟩ hw ⟨ad,Nat.le_refl _,P.wd.f3,fun _=>List.getElem?_set_ne (by omega),fun p j hj e=>?_⟩ hq ((P.rm.ps _).mono (by omega)),push_ne js (by omega)⟩
  have hji:j=i:=by omega
  exact ni p (by rw [← hji];exact hj)
theorem hps_spl (hc:CfOk c) (hm:CfMore c) (P:Hps c Φ cur W w m k lm x js M b0 u Lh) (hΦ:2≤Φ) {s g a b q:Int} (hl:Loose x js s g (splRc c.key q a b)) (hsl:∀ z ∈ Lh,z.ph.slot≠s∨z.ph.cnt=0) (hh:x.ps[c.i]?=some (true,a,b)) (hq:q≠(c.i:Int)+1∧c.sp q) (hln:(js c.i).length+1≤20) (hvq:viewOf x.ss (js c.i)=some (c.VQ cur)) (hcl:∀ p ∈ cur,ltS p.1 c.key=true) {n:Int} (hn:n=(c.i:Int)) {ok:Bool} {cc:Int} {ps':List Pg} (hS:SwapR x.ps n a b s g ok cc ps') (hM:Mm w' m (k+1) lm { x with ps:=ps' }) (hfr:Fr (mall m x) w w') :
    ok=true∧cc=0∧∃ js',Hps c Φ cur W w' m (k+1) lm { x with ps:=ps' } js' M b0 u Lh∧(js' c.i).length=(js c.i).length+1∧viewOf x.ss (js' c.i)=some (c.VS cur q):=by
  obtain ⟨e1,⟨rfl,_,_,e2⟩ | ⟨_,e,_⟩⟩:=swap_used13 hS hn hh
  rotate_left
  · exact absurd ⟨rfl,rfl⟩ e
  subst e2
  obtain ⟨i,Pu,hw,hv⟩:=P.wd.spl hc hm hΦ hl hh hq hln hvq hcl
  exact ⟨rfl,e1,_,P.other hM (by omega) hfr ⟨rfl,rfl,rfl,rfl,rfl,rfl⟩ hw (P.wd.envp Pu (Nat.le_refl _) P.wd.f3 (fun _=>by omega)) hsl ((P.rm.ps _).mono (by omega)),by rw [push_at];rfl,hv⟩
theorem head_at13 (P:Hps c Φ cur W w m k lm x js M b0 u Lh) {p:Nat} (hp:p≤M) {n s g cc:Int} (hn:n=(p:Int)) (hH:HeadR x.ps n s g cc):cc=0∧x.ps[p]?=some (true,s,g):=by
  obtain ⟨s0,g0,k1,_,_⟩:=P.wd.pg p hp
  subst hn
  rcases hH with ⟨q,q1,q2,q3⟩ | ⟨q1,_⟩
  · obtain rfl:p=q:=by omega
    exact ⟨q3,q2⟩
  · exact absurd (pgC_used k1) q1
end
def Late19 (l:List Rw) (S:List ByteArray) (i:Nat) (wd:World) (v:Value) (wq:World):Prop:=∃ (bR:Nat) (Ap:Option Addr) (cp:Nat),v=.pointer (some ⟨bR,0,none⟩)∧wd.heap.size≤bR∧Blk wq bR 51 (recA (lfR13 l S i) (.slice Ap (lfR13 l S i).rows.length cp) (.slice none 0 0))∧RecOwn wq 0 (lfR13 l S i) (.slice Ap (lfR13 l S i).rows.length cp) (.slice none 0 0)∧Fr none_ wd wq
theorem late19_of {l:List Rw} {S:List ByteArray} {i:Nat} {R:Rc} (hR:R=lfR13 l S i) {wd wq:World} {bR:Nat} {Ap:Option Addr} {cp:Nat} (h1:wd.heap.size≤bR) (h2:Blk wq bR 51 (recA R (.slice Ap R.rows.length cp) (.slice none 0 0))) (h3:wq.ownsRow 0 25 2 (.slice Ap R.rows.length cp) R.rows.length (rwFlat R.rows)) (h4:Fr none_ wd wq):Late19 l S i wd (.pointer (some ⟨bR,0,none⟩)) wq:=by
  subst hR
  exact ⟨bR,Ap,cp,rfl,h1,h2,⟨h3,World.ownsRow_nil _ _ _ _⟩,h4⟩
theorem part_back {cur L:List Rw} {key:ByteArray} (h1:∀ p ∈ cur,ltS p.1 key=true) (h2:∀ p ∈ L,ltS p.1 key=false):partR (cur ++ L) key nilS nilS.toList.isEmpty=L:=by
  have e1:cur.filter (fun p=>inS key nilS nilS.toList.isEmpty p.1)=[]:=List.filter_eq_nil_iff.2 fun p hp hh=>by
    have:=(inS_iff7.1 hh).1
    rw [h1 p hp] at this
    cases this
  have e2:L.filter (fun p=>inS key nilS nilS.toList.isEmpty p.1)=L:=List.filter_eq_self.2 fun p hp=>inS_iff7.2 ⟨h2 p hp,.inl nil_isEmpty⟩
  unfold partR
  rw [List.filter_append,e1,e2,List.nil_append]
theorem mgone_false {c:Cf} {Φ:Nat} {cur:List Rw} {W w:World} {m:Nat} {k:Int} {lm:Lm} {x:St} {js:Nat→List Nat} {M b0 u:Nat} {L:List H1} {z:H1} (P:Hps c Φ cur W w m k lm x js M b0 u L) (hz:z ∈ L) (ho:z.ph=.over false):Calls Tryz.prog 33 #[.pointer (some ⟨z.h,0,none⟩)] w fun e w'=>e=.returned (.tuple #[.agg #[.int .i64 0,.int .i64 0],.int .i64 (-1)])∧Fr none_ w w':=by
  obtain ⟨hH,_,_⟩:=P.hp z hz
  rw [ho] at hH
  exact mgone_no hH.b hH.sub.2.1
set_option maxHeartbeats 8000000 in
theorem mlate13_law (l:List Rw) (N:List ByteArray) (A B:Option Addr) (c d:Nat) (a2:Int) (sp:Bool) (w:World) (h:Reads w 2 A l.length (rwFlat l)) (ho:∀ p ∈ l,SzOk p.1∧SzOk p.2) (hc:l.length≤c∧c≤maxLen) (hN:TxReads w B N.length N) (hd:N.length≤d∧d≤maxLen) (ha:0≤a2∧a2≤255) :
  Calls Tryz.prog 5 #[.slice A l.length c,.slice B N.length d,.int .u8 a2,.bool sp] w (RetQ (.bool true) w):=by
 have H:=hid_ h
 have HO:=hid_ ho
 have HN:=hid_ hN
 obtain ⟨ha0,ha1⟩:=ha
 obtain ⟨w0,hw0⟩:∃ z,z=w.alloc (.cells #[] 9):=⟨_,rfl⟩
 have f0:Fr none_ w w0:=by rw [hw0];exact (Fr.refl none_ w).alloc _
 have hfew:=hid_ (few13_ok l A B c d N w0 (h.none_fr f0) ho hc (hN.keep f0) hd)
 have F0:=hid_ f0
 clear h ho hN hc hd f0
 go_enter Tryz.func5,Tryz.ntmps5
 go_upto_region 2 with fail
 change Code.wp _ _ _ _ (w.alloc (.cells #[] 9))
 rw [← hw0]
 clear hw0
 go_wp2_with fail
 refine hfew.out.mono ?_
 rintro e w1 ⟨b,rfl,hb,hf1⟩
 have F1:=hid_ (F0.out.then_none hf1)
 have HB:=hid_ hb
 clear hfew hf1 hb
 cases b with
 | false =>
  go_wp2_with fail
  refine (awake13_ok _).mono ?_
  rintro e wz ⟨rfl,hfz⟩
  have FZ:=hid_ (F1.out.then_none hfz)
  clear hfz
  go_wp2_with fail
  go_ret
  exact ⟨rfl,FZ.out⟩
 | true =>
  obtain ⟨hl60,hright,hN12⟩:=HB.out rfl
  have HL:=hid_ hright
  have hseps:=hid_ (seps_ok N B d w1 (HN.out.keep F1.out) hN12)
  clear HB hright
  go_wp2_with fail
  refine hseps.out.mono ?_
  rintro e w2 ⟨A2,c2,rfl,ho2,hf2⟩
  have hle:=sepsTo_le N N.length
  have hso:=sepsTo_ok N N.length
  obtain ⟨S,hS⟩:∃ z,z=sepsTo N N.length:=⟨_,rfl⟩
  rw [← hS] at ho2 hle hso ⊢
  have F2:=hid_ (F1.out.then_none hf2)
  have T2:=hid_ (tx_of_own ho2 hso)
  have SO:=hid_ hso
  have hd12:S.length≤12:=by omega
  clear hS hf2 ho2 hso hseps F1
  by_cases hz:S.length=0
  ·have hz':((S.length:Int)==0)=true:=by simp [hz]
   go_wp2_with fail
   refine (awake13_ok _).mono ?_
   rintro e wz ⟨rfl,hfz⟩
   have FZ:=hid_ (F2.out.then_none hfz)
   clear hfz
   go_wp2_with fail
   go_ret
   exact ⟨rfl,FZ.out⟩
  ·have hz':((S.length:Int)==0)=false:=by rw [beq_eq_false_iff_ne];omega
   have hpos:0 < S.length:=by omega
   clear hz
   have hlaid:=hid_ (laid13_ok l A A2 c c2 S 200 w2 (H.out.none_fr F2.out) (HL.out.rows (by omega)) hl60 T2.out hd12 (.inr rfl) (by omega))
   go_wp2_with fail
   refine hlaid.out.mono ?_
   rintro e w3 ⟨m,x,js,rfl,hL3⟩
   have Q3:=hid_ hL3
   have T3:=hid_ (T2.out.keep hL3.f)
   clear hlaid hL3
   obtain ⟨i,hi1,hi2,hie⟩:=leaf_i (a:=a2) ha0 hpos
   have hheld:=hid_ (held13_ok l S A2 c2 i T3.out hd12 hi1 hi2 Q3.out (by omega) (by omega) (by omega) (by omega))
   have hw1:IntKind.i64.wrap ((i:Int) - 1)=(i:Int) - 1:=IntWalk.i64_in _ (by omega)
   have hw2:IntKind.i64.wrap (1+((i:Int) - 1))=(i:Int):=(IntWalk.i64_in _ (by omega)).trans (by omega)
   have hw3:IntKind.i64.wrap a2=a2:=IntWalk.i64_in _ (by omega)
   go_upto_region 10 with fail
   clear hie hw1 hw2 hw3 ha0 ha1
   go_wp2_with fail
   refine hheld.out.mono ?_
   rintro e w4 ⟨hs,hg,rs,rg,x4,js4,rfl,hL4,hp4⟩
   have P0:=hid_ (start0 (sp:=fun _=>False) HL.out hl60 SO.out hd12 hi1 hi2 (by decide) hL4 hp4 (by push_cast;omega))
   have LN:=hid_ (start_len hL4.lay hi1 hi2)
   have UP:=hid_ (And.intro (start_pages hL4.lay) hL4.ps)
   clear hheld hL4 hp4 Q3
   go_upto_region 11 with fail
   obtain ⟨w5,hw5⟩:∃ z,z=(w4.alloc (.cells #[.int .i64 hs,.int .i64 hg] 36)).alloc (.cells #[.int .i64 ((i:Int)+1),.int .i64 (i:Int),.string (leafLow S i)] 38):=⟨_,rfl⟩
   change Code.wp _ _ _ _ ((w4.alloc (.cells #[.int .i64 hs,.int .i64 hg] 36)).alloc (.cells #[.int .i64 ((i:Int)+1),.int .i64 (i:Int),.string (leafLow S i)] 38))
   rw [← hw5]
   have f5:Fr none_ w4 w5:=by rw [hw5];exact ((Fr.refl none_ w4).alloc _).alloc _
   have B1:Hid (Blk w5 w4.heap.size 36 #[.int .i64 hs,.int .i64 hg]):=hid_ (by rw [hw5];exact (Blk.new w4 _ _).alloc _)
   have B2:Hid (Blk w5 (w4.heap.size+1) 38 #[.int .i64 ((i:Int)+1),.int .i64 (i:Int),.string (leafLow S i)]):=hid_ (by rw [hw5];exact Blk.new7 _ _ (by simp))
   have P5:=hid_ (P0.out.keep f5)
   clear hw5 f5 P0
   obtain ⟨c0,hc0⟩:∃ c,c=cf13 200 l S i hs hg rs rg fun _=>False:=⟨_,rfl⟩
   rw [← hc0] at P5
   have C0:=hid_ hc0
   have hci:c0.i=i:=by rw [hc0];rfl
   have CI:=hid_ hci
   clear hc0 hci
   have hS0:(fun w':World=>Fr none_ w5 w') w5.drew:=(Fr.refl none_ w5).drew
   go_upto_region 11 with fail
   refine wp_region_u 8 (fun w':World=>Fr none_ w5 w') (by kernel_rfl) ?_
   refine u_take 0 (some 72) (.agg #[.int .i64 hs,.int .i64 hg]) rfl rfl (by kernel_rfl) (by kernel_rfl) (by kernel_rfl) (by kernel_rfl) (fun _ _ _ h=>h) (yieldsIf_load_mid (by kernel_rfl) 36 (.tmp 13) rfl w4.heap.size 0 (by kernel_rfl) [.int .i64 hs,.int .i64 hg] _ (fun w' hS=>Blk.range7 (l:=[.int .i64 hs,.int .i64 hg]) (B1.out.fr hS id)) Tryz.underlying36 rfl ref_size13) hS0 ?_
   go_frame
   refine u_take 1 (some 73) (.agg #[.int .i64 ((i:Int)+1),.int .i64 (i:Int),.string (leafLow S i)]) rfl rfl (by kernel_rfl) (by kernel_rfl) (by kernel_rfl) (by kernel_rfl) (fun _ _ _ h=>h) (yieldsIf_load_mid (by kernel_rfl) 38 (.tmp 14) rfl (w4.heap.size+1) 0 (by kernel_rfl) [.int .i64 ((i:Int)+1),.int .i64 (i:Int),.string (leafLow S i)] _ (fun w' hS=>Blk.range7 (l:=[.int .i64 ((i:Int)+1),.int .i64 (i:Int),.string (leafLow S i)]) (B2.out.fr hS id)) Tryz.underlying38 rfl hold_size13) hS0 ?_
   go_frame
   refine u_take 3 (some 75) (.agg #[.int .i64 hs,.int .i64 hg]) rfl rfl (by kernel_rfl) (by kernel_rfl) (by kernel_rfl) (by kernel_rfl) (fun _ _ _ h=>h) (yieldsIf_load_mid (by kernel_rfl) 36 (.tmp 13) rfl w4.heap.size 0 (by kernel_rfl) [.int .i64 hs,.int .i64 hg] _ (fun w' hS=>Blk.range7 (l:=[.int .i64 hs,.int .i64 hg]) (B1.out.fr hS id)) Tryz.underlying36 rfl ref_size13) hS0 ?_
   go_frame
   refine u_take 4 (some 76) (.agg #[.int .i64 ((i:Int)+1),.int .i64 (i:Int),.string (leafLow S i)]) rfl rfl (by kernel_rfl) (by kernel_rfl) (by kernel_rfl) (by kernel_rfl) (fun _ _ _ h=>h) (yieldsIf_load_mid (by kernel_rfl) 38 (.tmp 14) rfl (w4.heap.size+1) 0 (by kernel_rfl) [.int .i64 ((i:Int)+1),.int .i64 (i:Int),.string (leafLow S i)] _ (fun w' hS=>Blk.range7 (l:=[.int .i64 ((i:Int)+1),.int .i64 (i:Int),.string (leafLow S i)]) (B2.out.fr hS id)) Tryz.underlying38 rfl hold_size13) hS0 ?_
   go_frame
   have Pdr:=hid_ (P5.out.keep (Fr.refl none_ w5).drew)
   refine u_callE 2 (some 74) 17 #[.int .i64 0,.agg #[.int .i64 hs,.int .i64 hg],.agg #[.int .i64 ((i:Int)+1),.int .i64 (i:Int),.string (leafLow S i)]] (fun v w'=>BegPost13 0 hs hg ((i:Int)+1) (i:Int) (leafLow S i) w5.drew (.returned v) w') rfl rfl (by kernel_rfl) (by kernel_rfl) (by kernel_rfl) ((mbegin_ok 0 hs hg ((i:Int)+1) (i:Int) (leafLow S i) w5.drew).mono fun e w' hh=>by
    obtain ⟨hx,gx,rfl,hrest⟩:=hh
    exact ⟨_,rfl,hx,gx,rfl,hrest⟩) ?_
   intro v2 w6 hb2
   obtain ⟨h,y,he2,hP2,hf2⟩:=Pdr.out.begin_ (c:=c0) (by rw [C0.out];exact hb2)
   obtain rfl:=Ending.returned.inj he2
   have PB2:=hid_ hP2
   have Fw6:=hid_ ((Fr.refl none_ w5).drew.then_none hf2)
   refine ⟨Fw6.out,?_⟩
   try go_frame
   refine u_callE 5 (some 77) 17 #[.int .i64 0,.agg #[.int .i64 hs,.int .i64 hg],.agg #[.int .i64 ((i:Int)+1),.int .i64 (i:Int),.string (leafLow S i)]] (fun v w'=>BegPost13 0 hs hg ((i:Int)+1) (i:Int) (leafLow S i) w6 (.returned v) w') rfl rfl (by kernel_rfl) (by kernel_rfl) (by kernel_rfl) ((mbegin_ok 0 hs hg ((i:Int)+1) (i:Int) (leafLow S i) w6).mono fun e w' hh=>by
    obtain ⟨hx,gx,rfl,hrest⟩:=hh
    exact ⟨_,rfl,hx,gx,rfl,hrest⟩) ?_
   intro v5 w7 hb5
   obtain ⟨hb,yb,he5,hP5,hf5⟩:=PB2.out.begin_ (c:=c0) (by rw [C0.out];exact hb5)
   obtain rfl:=Ending.returned.inj he5
   have PB5:=hid_ hP5
   have Fw7:=hid_ (Fw6.out.then_none hf5)
   refine ⟨Fw7.out,?_⟩
   try go_frame
   refine u_one 6 rfl (by kernel_rfl) (by kernel_rfl) ?_
   go_simp
   first | refine ⟨.inr Fw7.out,?_⟩ | refine ⟨Fw7.out,?_⟩ | skip
   try go_frame
   refine u_one 7 rfl (by kernel_rfl) (by kernel_rfl) ?_
   go_simp
   first | refine ⟨.inr Fw7.out,?_⟩ | refine ⟨Fw7.out,?_⟩ | skip
   try go_frame
   refine u_done (by kernel_rfl) ?_
   unfold hptr
   clear hb2 hb5 he2 he5 hP2 hP5 hf2 hf5 Pdr PB2 Fw6 hS0 P5
   obtain ⟨La,hLa⟩:∃ q:List H1,q=[⟨h,.going 0 [] 0 0,y⟩,⟨hb,.going 0 [] 0 0,yb⟩]:=⟨_,rfl⟩
   have O:Hid (RunOk c0 (lim13 200) (S.length+3+1) La 2):=hid_ (by rw [C0.out,hLa];exact runOk HL.out hl60 SO.out hi1 hi2 (show S.length+3+1+3+2 < 200 by omega) (by decide))
   obtain ⟨K,hK⟩:∃ z,z=3 * (S.length:Int)+6+3:=⟨_,rfl⟩
   have hK0:0≤K∧K≤45:=by omega
   have R0:Hid (RunSt c0 (lfR13 l S (i - 1)).rows w2 m (lim13 200) (S.length+1) w4.heap.size (S.length+3+1) La x4 2 0 K x4 js4 [⟨h,.going 0 [] 0 0,y⟩,⟨hb,.going 0 [] 0 0,yb⟩] w7):=hid_ ⟨by rw [hK];exact PB5.out,by rw [hLa],rfl,by
    rw [CI.out,LN.out.1]
    decide⟩
   have hA0:hsAt La 0=h:=by rw [hLa];rfl
   have hA1:hsAt La 1=hb:=by rw [hLa];rfl
   have hA2':La.length=2:=by rw [hLa];rfl
   have HA:=hid_ (And.intro hA0 (And.intro hA1 hA2'))
   have B2w:=hid_ (B2.out.fr Fw7.out id)
   clear hK PB5 hLa hA0 hA1 hA2' B1 B2
   obtain ⟨w9,hw9⟩:∃ q,q=w7.alloc (.cells #[.pointer (some ⟨h,0,none⟩)] 41):=⟨_,rfl⟩
   have f9:Fr none_ w7 w9:=by rw [hw9];exact (Fr.refl none_ w7).alloc _
   have hruns:=hid_ (runs13_ok O.out (by decide) [0] (fun i hi=>by obtain rfl:=List.mem_singleton.1 hi;have:=HA.out.2.2;omega) (R0.out.keep f9) (show K+30 * ((1:Nat):Int)≤980 by omega) (A:=some ⟨w7.heap.size,0,none⟩) (cap:=1) (b:=w7.heap.size) (by
    have:=own_one13 w7 (hptr h) w9 hw9
    have e:ptrsH La [0]=[hptr h]:=by show [hptr (hsAt La 0)]=_;rw [HA.out.1]
    rw [e]
    exact this))
   have B2x:=hid_ (B2w.out.fr f9 id)
   clear B2w f9 R0 Fw7
   go_wp2_with fail
   rw [← hw9]
   clear hw9
   refine hruns.out.mono ?_
   rintro e wa ⟨Φ1,k1,x1,js1,L1,rfl,hR1,_,hka,hkb,hovs,hkeep,hkp⟩
   have hL1:L1[1]?=some ⟨hb,.going 0 [] 0 0,yb⟩:=(hkeep 1 (by simp)).trans rfl
   obtain ⟨z0,hL0,hzo⟩:=hovs 0 (List.mem_singleton.2 rfl)
   have hlen:L1.length=2:=hR1.len.trans HA.out.2.2
   have hLL:L1=[z0,⟨hb,.going 0 [] 0 0,yb⟩]:=by
    refine List.ext_getElem? fun q=>?_
    match q with
    | 0=>exact hL0
    | 1=>exact hL1
    | q+2=>rw [List.getElem?_eq_none (by omega),List.getElem?_eq_none (by simp)]
   subst hLL
   obtain rfl:Φ1=3:=hR1.hp.over3 (List.mem_cons_self) hzo
   have hz0:z0.ph=.over true:=by
    obtain ⟨d,hd⟩:=over_ex hzo
    have hdn:=hR1.hp.dn
    rw [if_pos rfl] at hdn
    unfold doneL at hdn
    rw [List.countP_cons,List.countP_cons,List.countP_nil,hd] at hdn
    cases d with
    | true=>exact hd
    | false=>simp at hdn
   have Z0:=hid_ hz0
   have R1:=hid_ hR1
   have B2y:=hid_ (hkp.blk B2x.out ⟨by decide,by decide⟩)
   have hk1:=hR1.hp.k0
   have K1:=hid_ (show k1≤75 by simp at hkb;omega)
   clear hruns hR1 hovs hkeep hkp hL0 hL1 hzo hlen hz0 B2x hka hkb
   have hvq1:viewOf x1.ss (js1 c0.i)=some (c0.VQ (lfR13 l S (i - 1)).rows):=by
    have:=R1.out.hp.wd.p1
    rw [if_neg (by omega)] at this
    rcases this with e | ⟨q,hq,_⟩
    ·exact e
    ·have h:=hq.2
     rw [C0.out] at h
     exact h.elim
   have VQ:=hid_ hvq1
   have hj2:(js1 c0.i).length≤2:=by
    have:=R1.out.ln
    rw [if_neg (by omega)] at this
    omega
   have hk0':=R1.out.hp.k0
   have hk75:=K1.out
   clear hvq1
   cases sp with
   | false =>
    have OL:Hid (LateOk c0 (S.length+3+1) (js1 c0.i).length):=hid_ (by
     have h:=O.out
     refine ⟨h.ok,by rw [C0.out];rfl,by omega,h.z,by omega⟩)
    have LA:Hid (LateSt c0 (lfR13 l S (i - 1)).rows w2 m (S.length+1) w4.heap.size (S.length+3+1) hb (js1 c0.i).length (some (c0.VQ (lfR13 l S (i - 1)).rows)) z0 k1 x1 js1 ⟨hb,.going 0 [] 0 0,yb⟩ wa):=hid_ ⟨R1.out.hp,rfl,VQ.out,rfl⟩
    clear R1 O
    go_wp2_with fail
    obtain ⟨wl,hwl⟩:∃ q,q=wa.alloc (.cells #[.pointer (some ⟨hb,0,none⟩)] 41):=⟨_,rfl⟩
    have hcl:=(show Blk wl wa.heap.size 41 #[.pointer (some ⟨hb,0,none⟩)] by rw [hwl];exact Blk.new wa _ _).cell' (i:=0) rfl
    have hrl:=hid_ (runs_late OL.out (LA.out.keep (w':=wl) (by rw [hwl];exact (Fr.refl none_ wa).alloc _)) (by omega) (b:=0) (cap:=1) hcl)
    clear hcl
    go_wp2_with fail
    rw [← hwl]
    clear hwl
    refine hrl.out.mono ?_
    rintro e wr2 ⟨kz,xz,jz,zz,rfl,hLz,hoz,hkz⟩
    have hzf:zz.ph=.over false:=by
     obtain ⟨dz,hdz⟩:=over_ex hoz
     have hdn:=hLz.hp.dn
     rw [if_pos rfl] at hdn
     unfold doneL at hdn
     rw [List.countP_cons,List.countP_cons,List.countP_nil,hdz,Z0.out] at hdn
     cases dz with
     | false=>exact hdz
     | true=>simp at hdn
    have LZ:=hid_ hLz
    have h9:=done_of hLz.hp (z:=zz) (List.mem_cons_of_mem _ (List.mem_cons_self ..)) hzf
    rw [hLz.hh] at h9
    have hdone:=hid_ h9
    clear h9
    have ZF:=hid_ hzf
    have hBz:Bel xz jz nilS 1 S.length l:=by
     have P:=hLz.hp
     rw [C0.out] at P
     have:=end_bel HL.out SO.out hi1 hi2 P (Nat.le_refl _)
     rw [allR_l HL.out SO.out hi1 hi2] at this
     exact this
    have HBz:=hid_ hBz
    clear hrl hLz hoz hkz hzf hBz LA
    go_wp2_with fail
    refine hdone.out.mono ?_
    rintro e ws ⟨rfl,hfs⟩
    have LS:=hid_ (LZ.out.keep hfs)
    have h9:=mgone_false LS.out.hp (z:=zz) (List.mem_cons_of_mem _ (List.mem_cons_self ..)) ZF.out
    rw [LS.out.hh] at h9
    have hgn:=hid_ h9
    clear h9
    clear hdone hfs LZ
    go_wp2_with fail
    refine hgn.out.mono ?_
    rintro e wt ⟨rfl,hft⟩
    have LT:=hid_ (LS.out.keep hft)
    clear hgn hft LS
    go_upto_region 30 with fail
    obtain ⟨wu,hwu⟩:∃ q,q=wt.alloc (.cells #[.int .i64 0,.int .i64 0] 36):=⟨_,rfl⟩
    change Code.wp _ _ _ _ (wt.alloc (.cells #[.int .i64 0,.int .i64 0] 36))
    rw [← hwu]
    have fu:Fr none_ wt wu:=by rw [hwu];exact (Fr.refl none_ wt).alloc _
    have BU:Hid (Blk wu wt.heap.size 36 #[.int .i64 0,.int .i64 0]):=hid_ (by rw [hwu];exact Blk.new wt _ _)
    have LU:=hid_ (LT.out.keep fu)
    clear hwu fu LT
    go_wp2_with fail
    refine (below13_ok wu LU.out.hp.mm (by decide) (by decide) HBz.out (by omega) (by omega)).mono ?_
    rintro e wb ⟨Ab,cb,rfl,hob,hfb⟩
    have Pb:=hid_ (LU.out.hp.keep hfb)
    have Hb:=hid_ (Reads.of_own hob)
    have BUb:=BU.out.fr hfb id
    have u0:=BUb.cell' (i:=0) rfl
    have u1:=BUb.cell' (i:=1) rfl
    clear LU hob hfb BU BUb
    have hsm:=hid_ (sameRows_ok l Ab A cb c wb Hb.out (H.out.none_fr (F2.out.then_none Pb.out.f)) (by omega))
    obtain ⟨j0,hj0'⟩:∃ j0,i=j0+1:=⟨i - 1,by omega⟩
    obtain ⟨bs,offs,hA2,_,hcs,_⟩:=(T2.out.keep Pb.out.f).at_ (sepAt_in (S:=S) (i:=j0) (by omega))
    subst hA2
    have CS:=hid_ hcs
    clear hcs Hb
    go_wp2_with fail
    refine hsm.out.mono ?_
    rintro e wd ⟨rfl,hfd⟩
    have Pd:=hid_ (Pb.out.keep hfd)
    have hcd:=cellFr CS.out hfd
    have hdr:=hid_ (by
     have P:=Pd.out
     rw [C0.out] at P
     exact end_drop SO.out hi1 hi2 (by decide) (by decide) P)
    clear hsm hfd Pb CS
    subst hj0'
    go_wp2_with fail
    refine hdr.out.mono ?_
    rintro e we ⟨rfl,hfe⟩
    have Pe:=hid_ (Pd.out.keep hfe)
    have FE:=hid_ (F2.out.then_none Pe.out.f)
    clear hdr hfe Pd hcd
    go_wp2_with fail
    refine (awake13_ok _).mono ?_
    rintro e wz ⟨rfl,hfz⟩
    have FZ:=hid_ (FE.out.then_none hfz)
    clear hfz
    go_wp2_with fail
    go_ret
    exact ⟨rfl,FZ.out⟩
   | true =>
    have hsp1:∀ q,c0.sp q→(fun q=>q=(S.length:Int)+1+1) q:=fun q hq=>by rw [C0.out] at hq;exact hq.elim
    obtain ⟨c1,hc1⟩:∃ q,q=({ c0 with sp:=fun q=>q=(S.length:Int)+1+1 }:Cf):=⟨_,rfl⟩
    have P1:Hid (Hps c1 3 (lfR13 l S (i - 1)).rows w2 wa m k1 (lim13 200) x1 js1 (S.length+1) w4.heap.size (S.length+3+1) [z0,⟨hb,.going 0 [] 0 0,yb⟩]):=hid_ (by rw [hc1];exact R1.out.hp.more hsp1)
    have C1:Hid (c1=cf13 200 l S i hs hg rs rg fun q=>q=(S.length:Int)+1+1):=hid_ (by rw [hc1,C0.out];rfl)
    have CI1:Hid (c1.i=i):=hid_ (by rw [C1.out];rfl)
    have VQ1:Hid (viewOf x1.ss (js1 i)=some (c1.VQ (lfR13 l S (i - 1)).rows)):=hid_ (by
     have h:=VQ.out
     rw [CI.out] at h
     rw [h,C0.out,C1.out]
     rfl)
    have JL:Hid ((js1 i).length≤2):=hid_ (by rw [← CI.out];exact hj2)
    have FRE:Hid (∃ s g,x1.ps[S.length+1+1]?=some (false,s,g)):=hid_ (by
     obtain ⟨u1,u2⟩:=UP.out
     obtain ⟨v,hv⟩:∃ v,x4.ps[S.length+1+1]?=some v:=⟨_,List.getElem?_eq_getElem (by omega)⟩
     have hv1:=u1 (S.length+1+1) (by omega) v hv
     have hfl:=R1.out.fl
     have h2:(x1.ps.map (·.1))[S.length+1+1]?=some false:=by rw [hfl,List.getElem?_map,hv];exact congrArg some hv1
     rw [List.getElem?_map] at h2
     cases hx:x1.ps[S.length+1+1]? with
     | none=>rw [hx] at h2;cases h2
     | some v1 =>
      rw [hx] at h2
      obtain ⟨b1,s1,g1⟩:=v1
      have hb1:b1=false:=Option.some.inj h2
      subst hb1
      exact ⟨s1,g1,rfl⟩)
    have OK1:Hid (CfOk c1∧CfMore c1):=hid_ (by rw [C1.out];exact ⟨cf13_ok HL.out hl60 SO.out hi1 hi2,cf13_more SO.out hi1 hi2⟩)
    clear hsp1 hc1 R1 O hj2 VQ UP K1 LN
    have htk:=hid_ (memTake_any m _ _ _ _ P1.out.mm (by omega) (by omega))
    go_wp2_with fail
    refine htk.out.mono ?_
    rintro e wb0 ⟨np,cp0,ps2,vp,rfl,hT,hE,hM2,hf2⟩
    obtain ⟨hnp,rfl,rfl⟩:=take_at13 (fun q hq=>by obtain ⟨s,g,k,_⟩:=P1.out.wd.pg q hq;exact ⟨s,g,k⟩) FRE.out hT
    obtain rfl:=hE.zero13
    obtain rfl:np=(S.length:Int)+1+1:=by rw [hnp];push_cast;rfl
    have P2:=hid_ (hps_take P1.out hM2 hf2)
    have HB2:=hid_ (B2y.out.fr hf2 (P1.out.mm.mall_ty B2y.out (by decide)))
    have PGN:Hid ((x1.ps.set (S.length+1+1) (true,0,0))[S.length+1+1]?=some (true,0,0)):=hid_ (by
     obtain ⟨s,g,hs⟩:=FRE.out
     rw [List.getElem?_set_self (List.getElem?_eq_some_iff.1 hs).1])
    clear htk hT hE hM2 hf2 hnp P1 B2y FRE
    obtain ⟨s0,g0,q1,q2,q3⟩:=P2.out.wd.pg i (by omega)
    have hch:=hid_ (chain_ok wb0 P2.out.mm i s0 g0 q1 (js1 i) q2 (by have:=JL.out;show (js1 i).length≤200;omega) (by decide))
    have PRE:=hid_ (P2.out.wd.pr i)
    clear q1 q2 q3
    go_wp2_with fail
    refine hch.out.mono ?_
    rintro e wb ⟨Ad,cd,Bd,dd,Cs,rfl,hCs,hod,_,hownd,hfd⟩
    obtain ⟨t1,t2,t3,t4,t5⟩:=chain_reads hCs hod hownd PRE.out
    have P3:=hid_ (P2.out.keep hfd)
    have HB3:=hid_ (HB2.out.fr hfd id)
    have hfo:=hid_ (rfoldL_ok Ad (js1 i).length cd (Cs.map toCh) wb t1 (by have:=JL.out;omega) t2 t3)
    have T5:=hid_ t5
    clear hch hCs hod hownd hfd t1 t2 t3 t4 t5 P2 HB2 PRE
    go_wp2_with fail
    refine hfo.out.mono ?_
    rintro e wv hpost
    obtain ⟨V,hV⟩:∃ q,q=c1.VQ (lfR13 l S (i - 1)).rows:=⟨_,rfl⟩
    obtain ⟨Av,cv,rfl,hVr,hfc⟩:=rfold_some (V:=V) (by rw [T5.out,hV];exact VQ1.out) hpost
    have P4:=hid_ (P3.out.keep hfc)
    have HB4:=hid_ (HB3.out.fr hfc id)
    have VR:=hid_ hVr
    have HV:=hid_ hV
    clear hfo hpost hfc hVr hV T5 P3 HB3
    go_upto_region 19 with fail
    obtain ⟨wd,hwd⟩:∃ q,q=wv.alloc (.cells (lwA V (.slice Av V.rows.length cv)) 72):=⟨_,rfl⟩
    change Code.wp _ _ _ _ (wv.alloc (.cells (lwA V (.slice Av V.rows.length cv)) 72))
    rw [← hwd]
    have fwd:Fr none_ wv wd:=by rw [hwd];exact (Fr.refl none_ wv).alloc _
    have BV:Hid (Blk wd wv.heap.size 72 (lwA V (.slice Av V.rows.length cv))):=hid_ (by rw [hwd];exact Blk.new wv _ _)
    have P5q:=hid_ (P4.out.keep fwd)
    have HB5:=hid_ (HB4.out.fr fwd id)
    have VRF:=hid_ fwd
    clear hwd fwd P4 HB4
    have VRd:=hid_ (VR.out.rd.none_fr VRF.out)
    have v1:=BV.out.cell' (i:=1) rfl
    have v2:=BV.out.cell' (i:=2) rfl
    have v3:=BV.out.cell' (i:=3) rfl
    have v4:=BV.out.cell' (i:=4) rfl
    have k2:=HB5.out.cell' (i:=2) rfl
    have hRE:Hid (({ Rc.zero with kind:=1,low:=leafLow S i,high:=V.high,unb:=V.unb,right:=V.right,rows:=partR V.rows (leafLow S i) nilS nilS.toList.isEmpty }:Rc)=lfR13 l S i):=hid_ (by
     have hcu:=P5q.out.wd.cu
     rw [C1.out] at hcu
     have hr:partR V.rows (leafLow S i) nilS nilS.toList.isEmpty=(lfR13 l S i).rows:=by
      rw [HV.out,C1.out]
      exact part_back (fun q hq=>by have:=(inS_iff7.1 (hcu.2.1 q hq)).2;simpa using this) (fun q hq=>(inS_iff7.1 (lf_in SO.out hi2 q hq)).1)
     rw [hr,HV.out,C1.out]
     rfl)
    have hpart:=hid_ (fun (wz:World) (hz:Fr none_ wd wz)=>part13_ok V.rows Av cv (leafLow S i) nilS wz (VRd.out.none_fr hz) VR.out.ok.rows (SO.out.szLow i) SzOk.nil)
    obtain ⟨rp,hrp⟩:∃ q,q=partR V.rows (leafLow S i) nilS nilS.toList.isEmpty:=⟨_,rfl⟩
    rw [← hrp] at hRE hpart
    have RP:=hid_ hrp
    clear hrp
    have FIN19:Hid (∀ (wq:World) (bR:Nat) (Ap:Option Addr) (cp:Nat),wd.heap.size≤bR→Blk wq bR 51 (recA ({ Rc.zero with kind:=1,low:=leafLow S i,high:=V.high,unb:=V.unb,right:=V.right,rows:=rp }:Rc) (.slice Ap rp.length cp) (.slice none 0 0))→wq.ownsRow 0 25 2 (.slice Ap rp.length cp) rp.length (rwFlat rp)→Fr none_ wd wq→Late19 l S i wd (.pointer (some ⟨bR,0,none⟩)) wq):=hid_ (fun wq bR Ap cp h1 h2 h3 h4=>late19_of hRE.out h1 h2 h3 h4)
    clear hRE
    go_cut [26] from 103 to 116 (fun v wq=>Late19 l S i wd v wq)
    case first =>
     have hS0:(fun w':World=>Fr none_ wd w') wd.drew:=(Fr.refl none_ wd).drew
     refine wp_region_u 16 (fun w':World=>Fr none_ wd w') (by kernel_rfl) ?_
     refine u_take 0 (some 103) (.pointer (some ⟨w4.heap.size+1,2,none⟩)) rfl rfl (by kernel_rfl) (by kernel_rfl) (by kernel_rfl) (by kernel_rfl) (fun _ _ _ h=>h) (y_val (by kernel_rfl) (fun w' hS=>by kernel_rfl)) hS0 ?_
     try go_frame
     refine u_take 1 (some 104) (.string (leafLow S i)) rfl rfl (by kernel_rfl) (by kernel_rfl) (by kernel_rfl) (by kernel_rfl) (fun _ _ _ h=>h) (y_cell 9 (.tmp 103) ⟨w4.heap.size+1,2,none⟩ _ (by kernel_rfl) rfl (by kernel_rfl) (fun w' hS=>cellFr k2 hS) Tryz.underlying9 rfl) hS0 ?_
     try go_frame
     refine u_take 2 (some 105) (.pointer (some ⟨wv.heap.size,1,none⟩)) rfl rfl (by kernel_rfl) (by kernel_rfl) (by kernel_rfl) (by kernel_rfl) (fun _ _ _ h=>h) (y_val (by kernel_rfl) (fun w' hS=>by kernel_rfl)) hS0 ?_
     try go_frame
     refine u_take 3 (some 106) (.string V.high) rfl rfl (by kernel_rfl) (by kernel_rfl) (by kernel_rfl) (by kernel_rfl) (fun _ _ _ h=>h) (y_cell 9 (.tmp 105) ⟨wv.heap.size,1,none⟩ _ (by kernel_rfl) rfl (by kernel_rfl) (fun w' hS=>cellFr v1 hS) Tryz.underlying9 rfl) hS0 ?_
     try go_frame
     refine u_take 4 (some 107) (.pointer (some ⟨wv.heap.size,2,none⟩)) rfl rfl (by kernel_rfl) (by kernel_rfl) (by kernel_rfl) (by kernel_rfl) (fun _ _ _ h=>h) (y_val (by kernel_rfl) (fun w' hS=>by kernel_rfl)) hS0 ?_
     try go_frame
     refine u_take 5 (some 108) (.bool V.unb) rfl rfl (by kernel_rfl) (by kernel_rfl) (by kernel_rfl) (by kernel_rfl) (fun _ _ _ h=>h) (y_cell 4 (.tmp 107) ⟨wv.heap.size,2,none⟩ _ (by kernel_rfl) rfl (by kernel_rfl) (fun w' hS=>cellFr v2 hS) Tryz.underlying4 rfl) hS0 ?_
     try go_frame
     refine u_take 6 (some 109) (.pointer (some ⟨wv.heap.size,3,none⟩)) rfl rfl (by kernel_rfl) (by kernel_rfl) (by kernel_rfl) (by kernel_rfl) (fun _ _ _ h=>h) (y_val (by kernel_rfl) (fun w' hS=>by kernel_rfl)) hS0 ?_
     try go_frame
     refine u_take 7 (some 110) (.int .i64 V.right) rfl rfl (by kernel_rfl) (by kernel_rfl) (by kernel_rfl) (by kernel_rfl) (fun _ _ _ h=>h) (y_cell 3 (.tmp 109) ⟨wv.heap.size,3,none⟩ _ (by kernel_rfl) rfl (by kernel_rfl) (fun w' hS=>cellFr v3 hS) Tryz.underlying3 rfl) hS0 ?_
     try go_frame
     refine u_take 8 (some 111) (.pointer (some ⟨wv.heap.size,4,none⟩)) rfl rfl (by kernel_rfl) (by kernel_rfl) (by kernel_rfl) (by kernel_rfl) (fun _ _ _ h=>h) (y_val (by kernel_rfl) (fun w' hS=>by kernel_rfl)) hS0 ?_
     try go_frame
     refine u_take 9 (some 112) (.slice Av V.rows.length cv) rfl rfl (by kernel_rfl) (by kernel_rfl) (by kernel_rfl) (by kernel_rfl) (fun _ _ _ h=>h) (y_cell 22 (.tmp 111) ⟨wv.heap.size,4,none⟩ _ (by kernel_rfl) rfl (by kernel_rfl) (fun w' hS=>cellFr v4 hS) Tryz.underlying22 rfl) hS0 ?_
     try go_frame
     refine u_take 10 (some 113) (.pointer (some ⟨w4.heap.size+1,2,none⟩)) rfl rfl (by kernel_rfl) (by kernel_rfl) (by kernel_rfl) (by kernel_rfl) (fun _ _ _ h=>h) (y_val (by kernel_rfl) (fun w' hS=>by kernel_rfl)) hS0 ?_
     try go_frame
     refine u_take 11 (some 114) (.string (leafLow S i)) rfl rfl (by kernel_rfl) (by kernel_rfl) (by kernel_rfl) (by kernel_rfl) (fun _ _ _ h=>h) (y_cell 9 (.tmp 113) ⟨w4.heap.size+1,2,none⟩ _ (by kernel_rfl) rfl (by kernel_rfl) (fun w' hS=>cellFr k2 hS) Tryz.underlying9 rfl) hS0 ?_
     try go_frame
     refine u_two 12 14 rfl rfl (by kernel_rfl) (by kernel_rfl) (by kernel_rfl) ?_ ?_
     ·unfold Oper.wp
      rw [show (execOp _ _).run Tryz.prog _=.ok (.enter 32 #[.slice Av V.rows.length cv,.string (leafLow S i),.string nilS]) _ from by kernel_rfl,Oper.upon_enter]
      refine (hpart.out wd.drew (Fr.refl none_ wd).drew).mono ?_
      rintro e y1 ⟨Ap,cp,rfl,hop,hfp⟩
      have Fy1:Hid (Fr none_ wd y1):=hid_ (((Fr.refl none_ wd).drew).then_none hfp)
      refine ⟨.inr Fy1.out,?_⟩
      try go_frame
      refine u_take 13 (some 116) (.agg (recA ({ Rc.zero with kind:=1,low:=leafLow S i,high:=V.high,unb:=V.unb,right:=V.right,rows:=rp }:Rc) (.slice Ap rp.length cp) (.slice none 0 0))) rfl rfl (by kernel_rfl) (by kernel_rfl) (by kernel_rfl) (by kernel_rfl) (fun _ _ _ h=>h) (y_val (by kernel_rfl) (fun w' hS=>by kernel_rfl)) Fy1.out ?_
      try go_frame
      refine u_one 14 rfl (by kernel_rfl) (by kernel_rfl) ?_
      go_simp
      obtain ⟨y2,hy2⟩:∃ z,z=y1.alloc (.cells recZ 51):=⟨_,rfl⟩
      have f2:Fr none_ y1 y2:=by rw [hy2];exact (Fr.refl none_ _).alloc _
      have B2z:Hid (Blk y2 y1.heap.size 51 recZ):=hid_ (by rw [hy2];exact Blk.new y1 _ _)
      have Fy2:=hid_ (Fy1.out.then_none f2)
      have O2:=hid_ (own_none hop f2)
      have hsz1:=Fy1.out.size
      change _∧UwA _ _ _ _ _ _ _ _ _ (y1.alloc (.cells recZ 51))
      rw [← hy2]
      refine ⟨by first | (have h:=Fy2.out;rw [hy2] at h;exact h) | exact Fy2.out | (have h:=Fy2.out;rw [hy2] at h;exact .inr h),?_⟩
      clear hy2 f2 hop hfp
      try go_frame
      refine u_store 15 51 (.tmp 26) (.tmp 116) y1.heap.size 0 (recA ({ Rc.zero with kind:=1,low:=leafLow S i,high:=V.high,unb:=V.unb,right:=V.right,rows:=rp }:Rc) (.slice Ap rp.length cp) (.slice none 0 0)) rfl rfl (by kernel_rfl) (by kernel_rfl) rfl (by kernel_rfl) (by kernel_rfl) (B2z.out.there9 rfl) rec_size (by simp [Value.oneCell']) ?_
      intro y4 hy4
      have ov:=B2z.out.over9 (recA ({ Rc.zero with kind:=1,low:=leafLow S i,high:=V.high,unb:=V.unb,right:=V.right,rows:=rp }:Rc) (.slice Ap rp.length cp) (.slice none 0 0)).toList rfl
      rw [← hy4] at ov
      clear hy4
      have F4:Hid (Fr none_ wd y4):=hid_ (Fy2.out.then_only ov.2 (.inr (by omega)))
      refine ⟨F4.out,?_⟩
      try go_frame
      refine u_done (by kernel_rfl) ?_
      go_wp2
      go_meet
      case rel=>exact FIN19.out y4 y1.heap.size Ap cp (by omega) ov.1 (own_base (own_fr O2.out ov.2 (fun kk hkk e=>own_blk_ne O2.out B2z.out (by decide) (by rw [hkk,show kk=y1.heap.size from e]))) (Nat.zero_le _)) F4.out
     ·go_simp
      obtain ⟨y1,hy1⟩:∃ z,z=(wd.alloc (.cells recZ 51)).drew:=⟨_,rfl⟩
      have f1:Fr none_ wd y1:=by rw [hy1];exact ((Fr.refl none_ _).alloc _).drew
      have B1z:Hid (Blk y1 wd.heap.size 51 recZ):=hid_ (by rw [hy1];exact (Blk.new wd _ _).drew)
      have Fy1:=hid_ f1
      change _∧UwA _ _ _ _ _ _ _ _ _ ((wd.alloc (.cells recZ 51)).drew)
      rw [← hy1]
      refine ⟨by first | (have h:=Fy1.out;rw [hy1] at h;exact h) | exact Fy1.out | (have h:=Fy1.out;rw [hy1] at h;exact .inr h),?_⟩
      clear hy1 f1
      try go_frame
      refine u_one 12 rfl (by kernel_rfl) (by kernel_rfl) ?_
      unfold Oper.wp
      rw [show (execOp _ _).run Tryz.prog _=.ok (.enter 32 #[.slice Av V.rows.length cv,.string (leafLow S i),.string nilS]) _ from by kernel_rfl,Oper.upon_enter]
      refine (hpart.out y1 Fy1.out).mono ?_
      rintro e y2 ⟨Ap,cp,rfl,hop,hfp⟩
      have Fy2:Hid (Fr none_ wd y2):=hid_ ((Fy1.out).then_none hfp)
      refine ⟨.inr Fy2.out,?_⟩
      try go_frame
      have B2z:=hid_ (B1z.out.fr hfp id)
      have O2:=hid_ hop
      clear hop hfp
      refine u_take 13 (some 116) (.agg (recA ({ Rc.zero with kind:=1,low:=leafLow S i,high:=V.high,unb:=V.unb,right:=V.right,rows:=rp }:Rc) (.slice Ap rp.length cp) (.slice none 0 0))) rfl rfl (by kernel_rfl) (by kernel_rfl) (by kernel_rfl) (by kernel_rfl) (fun _ _ _ h=>h) (y_val (by kernel_rfl) (fun w' hS=>by kernel_rfl)) Fy2.out ?_
      try go_frame
      refine u_store 15 51 (.tmp 26) (.tmp 116) wd.heap.size 0 (recA ({ Rc.zero with kind:=1,low:=leafLow S i,high:=V.high,unb:=V.unb,right:=V.right,rows:=rp }:Rc) (.slice Ap rp.length cp) (.slice none 0 0)) rfl rfl (by kernel_rfl) (by kernel_rfl) rfl (by kernel_rfl) (by kernel_rfl) (B2z.out.there9 rfl) rec_size (by simp [Value.oneCell']) ?_
      intro y4 hy4
      have ov:=B2z.out.over9 (recA ({ Rc.zero with kind:=1,low:=leafLow S i,high:=V.high,unb:=V.unb,right:=V.right,rows:=rp }:Rc) (.slice Ap rp.length cp) (.slice none 0 0)).toList rfl
      rw [← hy4] at ov
      clear hy4
      have F4:Hid (Fr none_ wd y4):=hid_ (Fy2.out.then_only ov.2 (.inr (by omega)))
      refine ⟨F4.out,?_⟩
      try go_frame
      refine u_done (by kernel_rfl) ?_
      go_wp2
      go_meet
      case rel=>exact FIN19.out y4 wd.heap.size Ap cp (by omega) ov.1 (own_base (own_fr O2.out ov.2 (fun kk hkk e=>own_blk_ne O2.out B2z.out (by decide) (by rw [hkk,show kk=wd.heap.size from e]))) (Nat.zero_le _)) F4.out
    case rest =>
    obtain ⟨bR,Ap,cp,rfl,hbR,hBR,hRO,hfr⟩:=hcut
    obtain ⟨we0,hwe0⟩:∃ z:World,z=wc:=⟨_,rfl⟩
    subst hwe0
    have P6:=hid_ (P5q.out.keep hfr)
    have HB6:=hid_ (HB5.out.fr hfr id)
    have BR:=hid_ hBR
    have RO:=hid_ hRO
    have hk6:=P6.out.k0
    have hkey:c1.key=leafLow S i:=by rw [C1.out];rfl
    have HKEY:=hid_ hkey
    have hN1:c1.N=200:=by rw [C1.out];rfl
    have HN1:=hid_ hN1
    have hcnt:=cntL_le [z0,(⟨hb,.going 0 [] 0 0,yb⟩:H1)]
    have CNT:Hid (cntL [z0,(⟨hb,.going 0 [] 0 0,yb⟩:H1)]≤2):=hid_ hcnt
    clear hbR hBR hRO hfr P5q HB5 BV hkey hN1 hcnt hk6
    have hal:=hid_ (memAlloc_any m _ _ _ _ P6.out.mm (by have:=P6.out.k0;omega) (by omega) (lfR13 l S i) Ap cp none 0 (fun w' hf=>(RO.out.only hf P6.out.mm.b (by decide) (by decide)).reads) ⟨Nat.le_trans (lf_len i) (by omega),Nat.zero_le _⟩)
    go_wp2_with (refine wpList_load_mid rfl 51 (.tmp 26) rfl bR 0 rfl (recA (lfR13 l S i) (.slice Ap (lfR13 l S i).rows.length cp) (.slice none 0 0)).toList _ (Blk.range7 (l:=(recA (lfR13 l S i) (.slice Ap (lfR13 l S i).rows.length cp) (.slice none 0 0)).toList) BR.out) Tryz.underlying51 rfl rec_size ?_)
    refine hal.out.mono ?_
    rintro e wf ⟨sl,gn,kq,ss3,v3,rfl,hA3,hE3,hM3,hf3⟩
    obtain rfl:kq=0:=P6.out.alloc_ok (by rw [HN1.out];have:=CNT.out;omega) (show k1+1+1 < 999 by omega) hA3
    obtain rfl:=hE3.zero13
    obtain ⟨P7,hlo,hsl⟩:=P6.out.alloc hA3 hM3 hf3
    have P7h:=hid_ P7
    have LO:=hid_ hlo
    have SL:=hid_ hsl
    have VQ2:Hid (viewOf ss3 (js1 i)=some (c1.VQ (lfR13 l S (i - 1)).rows)):=hid_ (by
     rw [← VQ1.out]
     obtain ⟨ad,_⟩:=adv_alloc P6.out.wd.used hA3 0
     obtain ⟨s0,g0,q1,q2,q3⟩:=P6.out.wd.pg i (by omega)
     exact viewOf_same (ad.links q2 (fun j _=>by omega)).2.1)
    have HB7:=hid_ (HB6.out.fr hf3 (P6.out.mm.mall_ty HB6.out (by decide)))
    clear hal hA3 hE3 hM3 hf3 P7 hlo hsl P6 HB6 BR RO VQ1
    go_upto_region 21 with fail
    obtain ⟨wg,hwg⟩:∃ q,q=wf.alloc (.cells #[.int .i64 sl,.int .i64 gn] 36):=⟨_,rfl⟩
    change Code.wp _ _ _ _ (wf.alloc (.cells #[.int .i64 sl,.int .i64 gn] 36))
    rw [← hwg]
    have fwg:Fr none_ wf wg:=by rw [hwg];exact (Fr.refl none_ wf).alloc _
    have BX1:Hid (Blk wg wf.heap.size 36 #[.int .i64 sl,.int .i64 gn]):=hid_ (by rw [hwg];exact Blk.new wf _ _)
    have P8h:=hid_ (P7h.out.keep fwg)
    have HB8:=hid_ (HB7.out.fr fwg id)
    clear hwg fwg P7h HB7
    have y0:=BX1.out.cell' (i:=0) rfl
    have y1:=BX1.out.cell' (i:=1) rfl
    have hsw:=hid_ (memSwap_any m _ _ _ _ P8h.out.mm (by have:=P8h.out.k0;omega) (by omega) ((S.length:Int)+1+1) 0 0 sl gn)
    go_wp2_with fail
    refine hsw.out.mono ?_
    rintro e wh ⟨ok4,kq4,ps4,v4,rfl,hS4,hE4,hM4,hf4⟩
    obtain ⟨rfl,rfl,js4,P9,hj9⟩:=hps_newp OK1.out.1 P8h.out LO.out SL.out ⟨rfl,rfl⟩ PGN.out (lf_prec HL.out hl60 SO.out i) rfl (by rw [C1.out];show (if S.length+1+1=S.length+2 then _ else _)=_;rw [if_pos rfl]) (by push_cast;rfl) hS4 hM4 hf4
    have P9h:=hid_ P9
    have HB9:=hid_ (HB8.out.fr hf4 (P8h.out.mm.mall_ty HB8.out (by decide)))
    have J9:Hid (js4 i=js1 i):=hid_ (by rw [CI1.out] at hj9;exact hj9)
    clear hsw hS4 hE4 hM4 hf4 P9 hj9 P8h HB8 LO SL PGN BX1 y0 y1
    have hhd:=hid_ (memHead_any m _ _ _ _ P9h.out.mm (by have:=P9h.out.k0;omega) (by omega) (i:Int))
    go_wp2_with fail
    refine hhd.out.mono ?_
    rintro e wi ⟨sh,gh,ch,vh,rfl,hH5,hE5,hM5,hf5⟩
    obtain ⟨rfl,hpg⟩:=head_at13 P9h.out (p:=i) (by omega) rfl hH5
    obtain rfl:=hE5.zero13
    have P10h:=hid_ (P9h.out.head hM5 hf5)
    have PG:=hid_ hpg
    have HB10:=hid_ (HB9.out.fr hf5 (P9h.out.mm.mall_ty HB9.out (by decide)))
    clear hhd hH5 hE5 hM5 hf5 hpg P9h HB9
    go_upto_region 23 with fail
    obtain ⟨wj,hwj⟩:∃ q,q=wi.alloc (.cells #[.int .i64 sh,.int .i64 gh] 36):=⟨_,rfl⟩
    change Code.wp _ _ _ _ (wi.alloc (.cells #[.int .i64 sh,.int .i64 gh] 36))
    rw [← hwj]
    have fwj:Fr none_ wi wj:=by rw [hwj];exact (Fr.refl none_ wi).alloc _
    have BX2:Hid (Blk wj wi.heap.size 36 #[.int .i64 sh,.int .i64 gh]):=hid_ (by rw [hwj];exact Blk.new wi _ _)
    have P11h:=hid_ (P10h.out.keep fwj)
    have HB11:=hid_ (HB10.out.fr fwj id)
    clear hwj fwj P10h HB10
    have y0:=BX2.out.cell' (i:=0) rfl
    have y1:=BX2.out.cell' (i:=1) rfl
    have y2:=HB11.out.cell' (i:=2) rfl
    have hal:=hid_ (memAlloc_any m _ _ _ _ P11h.out.mm (by have:=P11h.out.k0;omega) (by omega) (splRc (leafLow S i) ((S.length:Int)+1+1) sh gh) none 0 none 0 (fun w' hf=>⟨Reads.nil_,Reads.nil_⟩) ⟨Nat.zero_le _,Nat.zero_le _⟩)
    go_wp2_with fail
    refine hal.out.mono ?_
    rintro e wk ⟨sl2,gn2,kq6,ss6,v6,rfl,hA6,hE6,hM6,hf6⟩
    obtain rfl:kq6=0:=P11h.out.alloc_ok (by rw [HN1.out];have:=CNT.out;omega) (show k1+1+1+1+1+1 < 999 by omega) hA6
    obtain rfl:=hE6.zero13
    obtain ⟨P12,hlo,hsl⟩:=P11h.out.alloc hA6 hM6 hf6
    have P12h:=hid_ P12
    have LO:=hid_ hlo
    have SL:=hid_ hsl
    have VQ3:Hid (viewOf ss6 (js4 i)=some (c1.VQ (lfR13 l S (i - 1)).rows)):=hid_ (by
     rw [← VQ2.out,← J9.out]
     obtain ⟨ad,_⟩:=adv_alloc P11h.out.wd.used hA6 0
     obtain ⟨s0,g0,q1,q2,q3⟩:=P11h.out.wd.pg i (by omega)
     exact viewOf_same (ad.links q2 (fun j _=>by omega)).2.1)
    have BX3:=hid_ (BX2.out.fr hf6 (P11h.out.mm.mall_ty BX2.out (by decide)))
    clear hal hA6 hE6 hM6 hf6 P12 hlo hsl P11h HB11 BX2 y0 y1 y2 VQ2
    go_upto_region 24 with fail
    obtain ⟨wl2,hwl2⟩:∃ q,q=wk.alloc (.cells #[.int .i64 sl2,.int .i64 gn2] 36):=⟨_,rfl⟩
    change Code.wp _ _ _ _ (wk.alloc (.cells #[.int .i64 sl2,.int .i64 gn2] 36))
    rw [← hwl2]
    have fwl2:Fr none_ wk wl2:=by rw [hwl2];exact (Fr.refl none_ wk).alloc _
    have BX5:Hid (Blk wl2 wk.heap.size 36 #[.int .i64 sl2,.int .i64 gn2]):=hid_ (by rw [hwl2];exact Blk.new wk _ _)
    have P13h:=hid_ (P12h.out.keep fwl2)
    have BX4:=hid_ (BX3.out.fr fwl2 id)
    clear hwl2 fwl2 P12h BX3
    have y0:=BX4.out.cell' (i:=0) rfl
    have y1:=BX4.out.cell' (i:=1) rfl
    have y2:=BX5.out.cell' (i:=0) rfl
    have y3:=BX5.out.cell' (i:=1) rfl
    have hsw:=hid_ (memSwap_any m _ _ _ _ P13h.out.mm (by have:=P13h.out.k0;omega) (by omega) (i:Int) sh gh sl2 gn2)
    have hwn:IntKind.i64.wrap ((S.length:Int)+1)=(S.length:Int)+1:=IntWalk.i64_in _ (by omega)
    go_wp2_with fail
    refine hsw.out.mono ?_
    rintro e wm ⟨ok7,kq7,ps7,v7,rfl,hS7,hE7,hM7,hf7⟩
    have hcl:∀ p ∈ (lfR13 l S (i - 1)).rows,ltS p.1 c1.key=true:=fun p hp=>by
     have hcu:=P13h.out.wd.cu
     rw [C1.out] at hcu
     have:=(inS_iff7.1 (hcu.2.1 p hp)).2
     rw [HKEY.out]
     simpa using this
    obtain ⟨rfl,rfl,js8,P14,hj14,hv14⟩:=hps_spl OK1.out.1 OK1.out.2 P13h.out (by omega) (q:=(S.length:Int)+1+1) (by rw [HKEY.out];exact LO.out) SL.out (by rw [CI1.out];exact PG.out) (by rw [CI1.out,C1.out];exact ⟨by omega,rfl⟩) (by rw [CI1.out,J9.out];have:=JL.out;omega) (by rw [CI1.out];exact VQ3.out) hcl (by rw [CI1.out]) hS7 hM7 hf7
    have LA:Hid (LateSt c1 (lfR13 l S (i - 1)).rows w2 m (S.length+1+1) w4.heap.size (S.length+3+1+1+1) hb (js1 i).length.succ (some (c1.VS (lfR13 l S (i - 1)).rows ((S.length:Int)+1+1))) z0 (k1+1+1+1+1+1+1) _ js8 ⟨hb,.going 0 [] 0 0,yb⟩ wm):=hid_ ⟨P14,rfl,hv14,by rw [hj14,CI1.out,J9.out]⟩
    have OL:Hid (LateOk c1 (S.length+3+1+1+1) (js1 i).length.succ):=hid_ ⟨OK1.out.1,HN1.out,by omega,by rw [C1.out];exact Nat.le_refl 2,by have:=JL.out;omega⟩
    clear hsw hS7 hE7 hM7 hf7 hcl P14 hj14 hv14 P13h LO SL PG VQ3 BX4 BX5 y0 y1 y2 y3
    go_wp2_with fail
    obtain ⟨wl,hwl⟩:∃ q,q=wm.alloc (.cells #[.pointer (some ⟨hb,0,none⟩)] 41):=⟨_,rfl⟩
    have hcl:=(show Blk wl wm.heap.size 41 #[.pointer (some ⟨hb,0,none⟩)] by rw [hwl];exact Blk.new wm _ _).cell' (i:=0) rfl
    have hrl:=hid_ (runs_late OL.out (LA.out.keep (w':=wl) (by rw [hwl];exact (Fr.refl none_ wm).alloc _)) (by omega) (b:=0) (cap:=1) hcl)
    clear hcl
    go_wp2_with fail
    rw [← hwl]
    clear hwl
    refine hrl.out.mono ?_
    rintro e wr2 ⟨kz,xz,jz,zz,rfl,hLz,hoz,hkz⟩
    have hzf:zz.ph=.over false:=by
     obtain ⟨dz,hdz⟩:=over_ex hoz
     have hdn:=hLz.hp.dn
     rw [if_pos rfl] at hdn
     unfold doneL at hdn
     rw [List.countP_cons,List.countP_cons,List.countP_nil,hdz,Z0.out] at hdn
     cases dz with
     | false=>exact hdz
     | true=>simp at hdn
    have LZ:=hid_ hLz
    have h9:=done_of hLz.hp (z:=zz) (List.mem_cons_of_mem _ (List.mem_cons_self ..)) hzf
    rw [hLz.hh] at h9
    have hdone:=hid_ h9
    clear h9
    have ZF:=hid_ hzf
    have hBz:Bel xz jz nilS 1 (S.length+1) l:=by
     have P:=hLz.hp
     rw [C1.out] at P
     have hv:=hLz.vw
     rw [C1.out] at hv
     have:=bel_split HL.out SO.out hi1 hi2 P.wd (Nat.le_refl _) (hv.trans (congrArg (fun q=>some (Cf.VS (cf13 200 l S i hs hg rs rg fun q=>q=(S.length:Int)+1+1) (lfR13 l S (i - 1)).rows q)) (show (S.length:Int)+1+1=(S.length:Int)+2 by omega)))
     rw [allR_l HL.out SO.out hi1 hi2] at this
     exact this
    have HBz:=hid_ hBz
    clear hrl hLz hoz hkz hzf hBz LA
    go_wp2_with fail
    refine hdone.out.mono ?_
    rintro e ws ⟨rfl,hfs⟩
    have LS:=hid_ (LZ.out.keep hfs)
    have h9:=mgone_false LS.out.hp (z:=zz) (List.mem_cons_of_mem _ (List.mem_cons_self ..)) ZF.out
    rw [LS.out.hh] at h9
    have hgn:=hid_ h9
    clear h9
    clear hdone hfs LZ
    go_wp2_with fail
    refine hgn.out.mono ?_
    rintro e wt ⟨rfl,hft⟩
    have LT:=hid_ (LS.out.keep hft)
    clear hgn hft LS
    go_upto_region 30 with fail
    obtain ⟨wu,hwu⟩:∃ q,q=wt.alloc (.cells #[.int .i64 0,.int .i64 0] 36):=⟨_,rfl⟩
    change Code.wp _ _ _ _ (wt.alloc (.cells #[.int .i64 0,.int .i64 0] 36))
    rw [← hwu]
    have fu:Fr none_ wt wu:=by rw [hwu];exact (Fr.refl none_ wt).alloc _
    have BU:Hid (Blk wu wt.heap.size 36 #[.int .i64 0,.int .i64 0]):=hid_ (by rw [hwu];exact Blk.new wt _ _)
    have LU:=hid_ (LT.out.keep fu)
    clear hwu fu LT
    go_wp2_with fail
    refine (below13_ok wu LU.out.hp.mm (by decide) (by decide) HBz.out (by omega) (by omega)).mono ?_
    rintro e wb ⟨Ab,cb,rfl,hob,hfb⟩
    have Pb:=hid_ (LU.out.hp.keep hfb)
    have Hb:=hid_ (Reads.of_own hob)
    have BUb:=BU.out.fr hfb id
    have u0:=BUb.cell' (i:=0) rfl
    have u1:=BUb.cell' (i:=1) rfl
    clear LU hob hfb BU BUb
    have hsm:=hid_ (sameRows_ok l Ab A cb c wb Hb.out (H.out.none_fr (F2.out.then_none Pb.out.f)) (by omega))
    obtain ⟨j0,hj0'⟩:∃ j0,i=j0+1:=⟨i - 1,by omega⟩
    obtain ⟨bs,offs,hA2,_,hcs,_⟩:=(T2.out.keep Pb.out.f).at_ (sepAt_in (S:=S) (i:=j0) (by omega))
    subst hA2
    have CS:=hid_ hcs
    clear hcs Hb
    go_wp2_with fail
    refine hsm.out.mono ?_
    rintro e wd ⟨rfl,hfd⟩
    have Pd:=hid_ (Pb.out.keep hfd)
    have hcd:=cellFr CS.out hfd
    have hdr:=hid_ (by
     have P:=Pd.out
     rw [C1.out] at P
     exact end_drop SO.out hi1 hi2 (by decide) (by decide) P)
    clear hsm hfd Pb CS
    subst hj0'
    go_wp2_with fail
    refine hdr.out.mono ?_
    rintro e we ⟨rfl,hfe⟩
    have Pe:=hid_ (Pd.out.keep hfe)
    have FE:=hid_ (F2.out.then_none Pe.out.f)
    clear hdr hfe Pd hcd
    go_wp2_with fail
    refine (awake13_ok _).mono ?_
    rintro e wz ⟨rfl,hfz⟩
    have FZ:=hid_ (FE.out.then_none hfz)
    clear hfz
    go_wp2_with fail
    go_ret
    exact ⟨rfl,FZ.out⟩

theorem mlate13_i {H:Type} {enc:TypeId × Value→H} (A:Option Addr) (n cap:Nat) (hc:n≤cap) (hm:cap≤maxLen) (B:Option Addr) (n1 cap1:Nat) (hc1:n1≤cap1) (hm1:cap1≤maxLen) (a2:Int) (wf2:(Lit.int .u8 a2).wf=true) (a3:Bool) (w:World) (h1:Rd enc Tryz.prog w 6 25 A n) (h2:Rd enc Tryz.prog w 6 9 B n1) :
    Calls Tryz.prog 5 #[.slice A n cap,.slice B n1 cap1,.int .u8 a2,.bool a3] w fun e w'=>e=.returned (.bool true)∧Fr none_ w w':=by
  obtain ⟨l,rfl,hl,hlz⟩:=Row_list h1
  obtain ⟨N,rfl,hN⟩:=Str_at h2
  exact mlate13_law l N A B cap cap1 a2 a3 w hl hlz ⟨hc,hm⟩ hN ⟨hc1,hm1⟩ (wf_u8 wf2)
end Go.Proofs.YthpkbppaaagaoaaGreat
