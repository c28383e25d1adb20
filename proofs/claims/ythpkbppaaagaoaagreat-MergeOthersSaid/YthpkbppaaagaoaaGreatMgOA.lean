/- Layer 13: MergeOthers. Written by gen_mothers13.py. -/
import Derived.Test.YthpkbppaaagaoaaGreatMgA
import Derived.Test.YthpkbppaaagaoaaGreatMgB
import Derived.Test.YthpkbppaaagaoaaGreatMgN
import Derived.Test.YthpkbppaaagaoaaGreatMgR
import Derived.Test.YthpkbppaaagaoaaGreatMgXA
import Derived.Test.YthpkbppaaagaoaaGreatMgU
namespace Go.Proofs.YthpkbppaaagaoaaGreat
open Go.RowKit Go.BigFrame
set_option maxRecDepth 100000
set_option linter.unusedVariables false

section
variable {P:Program} {md:Region.Mode} {ops:Array Oper} {Q:Exit→Act→World→Prop} {S:World→Prop} {m fuel:Nat} {listed:Array Bool} {a:Act} {w:World} {oi:Oper}
theorem u_tk (i:Nat) (d:Option Tmp) (v:Value) (hi:ops[i]?=some oi) (hd:oi.dst=d) (hy:YieldsIf P ops S oi v a) (hS:S w) (h:UwA P md ops Q S m fuel (listed.setIfInBounds i true) (a.put d v) w)
    (hs:Region.noSelect ops=true:=by kernel_rfl) (hf:Region.free md ops listed i=true:=by kernel_rfl) (hr:(Region.ready md ops listed).contains i=true:=by kernel_rfl)
    (hm:((List.range ops.size).all (fun j=>!decide (m≤j) || decide (j=i) || waitsB md ops ops.size j i) && closedB md ops listed)=true:=by kernel_rfl) (hQ:∀ c a w,Q (.panic c) (a.put oi.dst v) w→Q (.panic c) a w:=by exact fun _ _ _ h=>h):UwA P md ops Q S m (fuel+1) listed a w:=u_take i d v hi hd hs hf hr hm hQ hy hS h
theorem y_vl {v:Value} (hx:∀ w,S w→(execOp a.eval oi).run P w=.ok (.value v) w) (hw:Region.wanted oi (yielded ops a.tmps)=true:=by kernel_rfl):YieldsIf P ops S oi v a:=y_val hw hx
end
section
variable {c:Cf} {Φ:Nat} {cur:List Rw} {W w w':World} {m:Nat} {k:Int} {lm:Lm} {x:St} {js:Nat→List Nat} {M b0 u:Nat} {Lh:List H1}
theorem hps_put (hc:CfOk c) (hm:CfMore c) (P:Hps c Φ cur W w m k lm x js M b0 u Lh) {s g a b:Int} {r:Rw} (hl:Loose x js s g (putRc r a b)) (hq:∀ z ∈ Lh,z.ph.slot≠s∨z.ph.cnt=0) (hh:x.ps[c.i]?=some (true,a,b)) (hf:fitsR r=true) (hin:inS c.low c.key false r.1=true) (hcu:c.ok (putR cur r)) (hln:(js c.i).length+1≤20) (hvq:2≤Φ→viewOf x.ss (js c.i)=some (c.VQ cur)) {n:Int} (hn:n=(c.i:Int)) {ok:Bool} {cc:Int} {ps':List Pg} (hS:SwapR x.ps n a b s g ok cc ps') (hM:Mm w' m (k+1) lm { x with ps:=ps' }) (hfr:Fr (mall m x) w w') :
    ok=true∧cc=0∧∃ js',Hps c Φ (putR cur r) W w' m (k+1) lm { x with ps:=ps' } js' M b0 u Lh∧(js' c.i).length=(js c.i).length+1:=by
  obtain ⟨e1,⟨rfl,_,_,e2⟩ | ⟨_,e,_⟩⟩:=swap_used13 hS hn hh
  rotate_left
  · exact absurd ⟨rfl,rfl⟩ e
  subst e2
  obtain ⟨i,Pu,hw,_⟩:=P.wd.put13 hc hm hl hh hf hin hcu hln hvq
  exact ⟨rfl,e1,_,P.other hM (by omega) hfr ⟨rfl,rfl,rfl,rfl,rfl,rfl⟩ hw (P.wd.envp Pu (Nat.le_refl _) P.wd.f3 (fun _=>by omega)) hq ((P.rm.ps _).mono (by omega)),by rw [push_at];rfl⟩
end
structure Oth (c:Cf) (lf:List Rw) (r:Rw) (W:World) (m M b0 U0 h:Nat) (K0:Int) (kb puts Φ:Nat) (kk:Int) (x:St) (js:Nat→List Nat) (z:H1) (cur:List Rw) (w:World):Prop where
  hp:Hps c Φ cur W w m kk (lim13 200) x js M b0 (U0+puts) [z]
  hh:z.h=h
  cu:cur=if puts=0 then lf else putR lf r
  ln:(js c.i).length+(if Φ≤1 then 1 else 0)≤2+puts
  mu:kb≤12∨mu c Φ x js z.ph+kb≤61
  kk:kk≤K0+kb+3 * puts
structure OthOk (c:Cf) (lf:List Rw) (r:Rw) (U0:Nat) (K0:Int):Prop where
  ok:CfOk c
  mo:CfMore c
  n:c.N=200
  u:U0≤16
  k:0≤K0∧K0≤45
  z:c.Z.length≤2
  sp:∀ q,¬ c.sp q
  fit:fitsR r=true
  inn:inS c.low c.key false r.1=true
  pw:PwR lf
  cu:c.ok (putR lf r)
section
variable {c:Cf} {lf:List Rw} {r:Rw} {W w w':World} {m M b0 U0 h:Nat} {K0:Int} {kb puts Φ:Nat} {kk:Int} {x:St} {js:Nat→List Nat} {z:H1} {cur:List Rw}
theorem Oth.keep (R:Oth c lf r W m M b0 U0 h K0 kb puts Φ kk x js z cur w) (hf:Fr none_ w w'):Oth c lf r W m M b0 U0 h K0 kb puts Φ kk x js z cur w':=⟨R.hp.keep hf,R.hh,R.cu,R.ln,R.mu,R.kk⟩
theorem oth_step (O:OthOk c lf r U0 K0) (R:Oth c lf r W m M b0 U0 h K0 kb puts Φ kk x js z cur w) (hp:puts≤12) (ho:z.ph.isOver=false) :
    kb≤60∧Calls Tryz.prog 18 #[.pointer (some ⟨h,0,none⟩),.pointer (some ⟨m,0,none⟩)] w fun e w'=>∃ Φ' x' js' z',e=.returned (.bool z'.ph.isOver)∧Oth c lf r W m M b0 U0 h K0 (kb+1) puts Φ' (kk+1) x' js' z' cur w':=by
  have hmp:=mu_pos (c:=c) (Φ:=Φ) (x:=x) (js:=js) ho
  have hkb:kb≤60:=by have:=R.mu;omega
  have hk:=R.kk
  have hK:=O.k
  have hu:=O.u
  have hn:=O.n
  have hln:=R.ln
  have O1:RunOk c (lim13 200) (U0+puts) [z] (2+puts):=⟨O.ok,by show U0+puts+3+1 < c.N;omega,rfl,by omega,O.z⟩
  have R1:RunSt c cur W m (lim13 200) M b0 (U0+puts) [z] x (2+puts) Φ kk x js [z] w:=⟨R.hp,rfl,rfl,R.ln⟩
  obtain ⟨_,_,hI⟩:=R.hp.hp z (List.mem_singleton.2 rfl)
  have hml:=mu_le R.hp.wd hI
  refine ⟨hkb,?_⟩
  have:=run_step O1 R1 (i:=0) (z:=z) rfl ho (by omega)
  rw [R.hh] at this
  refine this.mono ?_
  rintro e w' ⟨Φ',x',js',z',rfl,hR,_,_,hh,m1,_⟩
  exact ⟨Φ',x',js',z',rfl,hR.hp,hh,R.cu,hR.ln,by have:=R.mu;omega,by push_cast;omega⟩
theorem oth_vq (O:OthOk c lf r U0 K0) (R:Oth c lf r W m M b0 U0 h K0 kb puts Φ kk x js z cur w) (hΦ:2≤Φ):viewOf x.ss (js c.i)=some (c.VQ cur):=by
  have:=R.hp.wd.p1
  rw [if_neg (by omega)] at this
  rcases this with e | ⟨q,hq,_⟩
  · exact e
  · exact absurd hq.2 (O.sp q)
theorem oth_put (O:OthOk c lf r U0 K0) (R:Oth c lf r W m M b0 U0 h K0 kb puts Φ kk x js z cur w) (hpt:puts≤11) (hkb:kb≤12) {kk2:Int} {x2:St} {w2:World} (P2:Hps c Φ cur W w2 m kk2 (lim13 200) x2 js M b0 (U0+puts+1) [z]) (hk2:kk2=kk+2) (hps:x2.ps=x.ps) (hvw:viewOf x2.ss (js c.i)=viewOf x.ss (js c.i))
    {s g a b:Int} (hl:Loose x2 js s g (putRc r a b)) (hq:z.ph.slot≠s∨z.ph.cnt=0) (hh:x.ps[c.i]?=some (true,a,b)) {n:Int} (hn:n=(c.i:Int)) {ok:Bool} {cc:Int} {ps':List Pg} (hS:SwapR x2.ps n a b s g ok cc ps') (hM:Mm w' m (kk2+1) (lim13 200) { x2 with ps:=ps' }) (hfr:Fr (mall m x2) w2 w') :
    ok=true∧cc=0∧∃ js' cur',Oth c lf r W m M b0 U0 h K0 kb (puts+1) Φ (kk+3) { x2 with ps:=ps' } js' z cur' w':=by
  have hcur:putR cur r=putR lf r:=by
    rw [R.cu]
    by_cases h0:puts=0
    · rw [if_pos h0]
    · rw [if_neg h0,putR_again O.pw]
  have hln:=R.ln
  obtain ⟨e1,e2,js',P3,hl3⟩:=hps_put O.ok O.mo P2 hl (fun z' hz'=>by obtain rfl:=List.mem_singleton.1 hz';exact hq) (by rw [hps];exact hh) O.fit O.inn (by rw [hcur];exact O.cu) (by omega) (fun hΦ=>by rw [hvw];exact oth_vq O R hΦ) hn hS hM hfr
  refine ⟨e1,e2,js',putR cur r,⟨?_,R.hh,by rw [hcur,if_neg (by omega)],by omega,.inl hkb,by have:=R.kk;push_cast;omega⟩⟩
  · have e:kk2+1=kk+3:=by omega
    rw [← e,← Nat.add_assoc]
    exact P3
end
def metN (V:List Int) (k t:Nat):Nat:=V.countP (fun v:Int=>decide (v.tmod 12 < (k:Int)))+(V.take t).countP (fun v:Int=>decide (v.tmod 12=(k:Int)))
theorem metN_zero (V:List Int) (hV:∀ v ∈ V,0≤v):metN V 0 0=0:=by
  unfold metN
  rw [List.take_zero,List.countP_nil,Nat.add_zero,List.countP_eq_zero]
  intro v hv
  have:=Int.tmod_nonneg 12 (hV v hv)
  simpa using this
theorem metN_next (V:List Int) (k:Nat):metN V (k+1) 0=metN V k V.length:=by
  unfold metN
  rw [List.take_zero,List.countP_nil,Nat.add_zero,List.take_length]
  induction V with
  | nil=>rfl
  | cons v t ih =>
    rw [List.countP_cons,List.countP_cons,List.countP_cons]
    have:(if decide (v.tmod 12 < ((k+1:Nat):Int))=true then 1 else 0)=(if decide (v.tmod 12 < (k:Int))=true then 1 else 0)+(if decide (v.tmod 12=(k:Int))=true then 1 else 0):=by
      obtain ⟨q,hq⟩:∃ q,q=v.tmod 12:=⟨_,rfl⟩
      rw [← hq]
      simp only [decide_eq_true_eq]
      split <;> split <;> split <;> omega
    omega
theorem metN_hit {V:List Int} {k t:Nat} {v:Int} (hv:V[t]?=some v) (h:v.tmod 12=k):metN V k (t+1)=metN V k t+1:=by
  unfold metN
  rw [List.take_add_one,hv,List.countP_append]
  simp [h]
  omega
theorem metN_miss {V:List Int} {k t:Nat} {v:Int} (hv:V[t]?=some v) (h:¬ v.tmod 12=k):metN V k (t+1)=metN V k t:=by
  unfold metN
  rw [List.take_add_one,hv,List.countP_append]
  simp [h]
theorem metN_le (V:List Int) (k t:Nat):metN V k t≤V.length:=by
  unfold metN
  have h1:(V.take t).countP (fun v:Int=>decide (v.tmod 12=(k:Int)))≤V.countP (fun v:Int=>decide (v.tmod 12=(k:Int))):=(List.take_sublist t V).countP_le
  have h2:=metN_next V k
  unfold metN at h2
  rw [List.take_zero,List.countP_nil,Nat.add_zero,List.take_length] at h2
  have h3:=List.countP_le_length (p:=fun v:Int=>decide (v.tmod 12 < ((k+1:Nat):Int))) (l:=V)
  omega
theorem metN_far {V:List Int} {k:Nat} (hk:12≤k) {v:Int} (h0:0≤v):¬ v.tmod 12=(k:Int):=by
  have:=Int.tmod_lt_of_pos v (b:=12) (by omega)
  omega
def Bytes13L (w:World) (A:Option Addr) (V:List Int):Prop:=∀ k v,V[k]?=some v→∃ b off,A=some ⟨b,off,none⟩∧b < w.heap.size∧w.cell? ⟨b,off+k,none⟩=some (.int .u8 v)∧0≤v∧v≤255
theorem Bytes13.list {w:World} {A:Option Addr} {n:Nat} (h:Bytes13 w A n):∃ V:List Int,V.length=n∧Bytes13L w A V:=by
  obtain ⟨V,hl,hV⟩:=choose_list (α:=Int) (P:=fun k v=>∃ b off,A=some ⟨b,off,none⟩∧b < w.heap.size∧w.cell? ⟨b,off+k,none⟩=some (.int .u8 v)∧0≤v∧v≤255) n (fun k hk=>by
    obtain ⟨b,off,v,h1,h2,h3,h4,h5⟩:=h k hk
    exact ⟨v,b,off,h1,h2,h3,h4,h5⟩)
  exact ⟨V,hl,hV⟩
theorem Bytes13L.keep {w w':World} {A:Option Addr} {V:List Int} (h:Bytes13L w A V) (hf:Fr none_ w w'):Bytes13L w' A V:=fun k v hk=>by
  obtain ⟨b,off,hA,hb,hc,h0⟩:=h k v hk
  exact ⟨b,off,hA,by have:=hf.size;omega,cellFr hc hf,h0⟩
set_option maxHeartbeats 8000000 in
theorem mothers13_law (l:List Rw) (N:List ByteArray) (A B:Option Addr) (c d:Nat) (a2:Int) (r:Rw) (C:Option Addr) (V:List Int) (c4:Nat) (w:World) (h:Reads w 2 A l.length (rwFlat l)) (ho:∀ p ∈ l,SzOk p.1∧SzOk p.2) (hc:l.length≤c∧c≤maxLen) (hN:TxReads w B N.length N) (hd:N.length≤d∧d≤maxLen) (ha:0≤a2∧a2≤255) (hr:SzOk r.1∧SzOk r.2) (hC:Bytes13L w C V) (hV:∀ v ∈ V,0≤v) :
  Calls Tryz.prog 3 #[.slice A l.length c,.slice B N.length d,.int .u8 a2,.agg #[.string r.1,.string r.2],.slice C V.length c4] w (RetQ (.bool true) w):=by
 have H:=hid_ h
 have HO:=hid_ ho
 have HN:=hid_ hN
 obtain ⟨ha0,ha1⟩:=ha
 have HC:=hid_ hC
 have HV:=hid_ hV
 have HCC:=hid_ hc
 have HRz:=hid_ hr
 clear hC hr hV
 obtain ⟨w0,hw0⟩:∃ z,z=(w.alloc (.cells #[.string r.1,.string r.2] 25)).alloc (.cells #[] 9):=⟨_,rfl⟩
 have f0:Fr none_ w w0:=by rw [hw0];exact ((Fr.refl none_ w).alloc _).alloc _
 have BW:Hid (Blk w0 w.heap.size 25 #[.string r.1,.string r.2]):=hid_ (by rw [hw0];exact (Blk.new w _ _).alloc _)
 have hfew:=hid_ (few13_ok l A B c d N w0 (h.none_fr f0) ho hc (hN.keep f0) hd)
 have F0:=hid_ f0
 clear h ho hN hc hd f0
 go_enter Tryz.func3,Tryz.ntmps3
 go_upto_region 2 with fail
 change Code.wp _ _ _ _ ((w.alloc (.cells #[.string r.1,.string r.2] 25)).alloc (.cells #[] 9))
 rw [← hw0]
 clear hw0
 go_wp2_with fail
 refine hfew.out.mono ?_
 rintro e w1 ⟨b,rfl,hb,hf1⟩
 have F1:=hid_ (F0.out.then_none hf1)
 have hf1':=hf1
 have HB:=hid_ hb
 clear hfew hf1 hb
 cases b with
 | false =>
  go_wp2_with fail
  refine (awake13_ok _).mono ?_
  rintro e wz ⟨rfl,hfz⟩
  have FZ:=hid_ (F1.out.then_none hfz)
  clear hfz
  go_wp2_with fail
  go_ret
  exact ⟨rfl,FZ.out⟩
 | true =>
  obtain ⟨hl60,hright,hN12⟩:=HB.out rfl
  have HL:=hid_ hright
  have hseps:=hid_ (seps_ok N B d w1 (HN.out.keep F1.out) hN12)
  clear HB hright
  by_cases h300:¬ (V.length≤12)
  ·have h301:¬ ((V.length:Int)≤12):=by omega
   go_wp2_with fail
   refine (awake13_ok _).mono ?_
   rintro e wz ⟨rfl,hfz⟩
   have FZ:=hid_ (F1.out.then_none hfz)
   clear hfz
   go_wp2_with fail
   go_ret
   exact ⟨rfl,FZ.out⟩
  have h300':V.length≤12:=by omega
  have h301:(V.length:Int)≤12:=by omega
  have BW1:=hid_ (BW.out.fr hf1' id)
  clear h300 BW
  go_wp2_with fail
  refine hseps.out.mono ?_
  rintro e w2 ⟨A2,c2,rfl,ho2,hf2⟩
  have hle:=sepsTo_le N N.length
  have hso:=sepsTo_ok N N.length
  obtain ⟨S,hS⟩:∃ z,z=sepsTo N N.length:=⟨_,rfl⟩
  rw [← hS] at ho2 hle hso ⊢
  have F2:=hid_ (F1.out.then_none hf2)
  have BW2:=hid_ (BW1.out.fr hf2 id)
  have T2:=hid_ (tx_of_own ho2 hso)
  have SO:=hid_ hso
  have hd12:S.length≤12:=by omega
  clear hS hf2 ho2 hso hseps F1
  by_cases hz:S.length=0
  ·have hz':((S.length:Int)==0)=true:=by simp [hz]
   go_wp2_with fail
   refine (awake13_ok _).mono ?_
   rintro e wz ⟨rfl,hfz⟩
   have FZ:=hid_ (F2.out.then_none hfz)
   clear hfz
   go_wp2_with fail
   go_ret
   exact ⟨rfl,FZ.out⟩
  ·have hz':((S.length:Int)==0)=false:=by rw [beq_eq_false_iff_ne];omega
   have hpos:0 < S.length:=by omega
   clear hz
   have r0:=BW2.out.cell' (i:=0) rfl
   have r1:=BW2.out.cell' (i:=1) rfl
   have hfit:=hid_ (rfits_ok r w2 HRz.out.1 HRz.out.2)
   go_wp2_with fail
   refine hfit.out.mono ?_
   rintro e w2f ⟨rfl,hff⟩
   have Ff2:=hid_ (F2.out.then_none hff)
   have Tf2:=hid_ (T2.out.keep hff)
   have BWf:=hid_ (BW2.out.fr hff id)
   clear hfit hff F2 T2 BW2 r0 r1
   by_cases hfr:fitsR r=false
   ·go_wp2_with fail
    refine (awake13_ok _).mono ?_
    rintro e wz ⟨rfl,hfz⟩
    have FZ:=hid_ (Ff2.out.then_none hfz)
    clear hfz
    go_wp2_with fail
    go_ret
    exact ⟨rfl,FZ.out⟩
   have hfr':fitsR r=true:=by simpa using hfr
   have FR:=hid_ hfr'
   clear hfr
   have hlaid:=hid_ (laid13_ok l A A2 c c2 S 200 w2f (H.out.none_fr Ff2.out) (HL.out.rows (by omega)) hl60 Tf2.out hd12 (.inr rfl) (by omega))
   go_wp2_with fail
   refine hlaid.out.mono ?_
   rintro e w3 ⟨m,x,js,rfl,hL3⟩
   have Q3:=hid_ hL3
   have T3:=hid_ (Tf2.out.keep hL3.f)
   clear hlaid hL3
   obtain ⟨i,hi1,hi2,hie⟩:=leaf_i (a:=a2) ha0 hpos
   have BW3:=hid_ (BWf.out.fr Q3.out.f id)
   have hw1:IntKind.i64.wrap ((i:Int) - 1)=(i:Int) - 1:=IntWalk.i64_in _ (by omega)
   have hw2:IntKind.i64.wrap (1+((i:Int) - 1))=(i:Int):=(IntWalk.i64_in _ (by omega)).trans (by omega)
   have hw3:IntKind.i64.wrap a2=a2:=IntWalk.i64_in _ (by omega)
   go_upto_region 10 with fail
   clear hie hw1 hw2 hw3 ha0 ha1
   have q0:=BW3.out.cell' (i:=0) rfl
   obtain ⟨ob,hob⟩:∃ z,z=((decide (1 < i) && ltS r.1 (leafLow S (i - 1))) || !ltS r.1 (leafLow S i)):=⟨_,rfl⟩
   have OB:=hid_ hob
   clear hob
   obtain ⟨j0,hj0'⟩:∃ j0,i=j0+1:=⟨i - 1,by omega⟩
   obtain ⟨bs,offs,hA2,_,hcs,_⟩:=T3.out.at_ (sepAt_in (S:=S) (i:=j0) (by omega))
   go_cut [91] from 69 to 91 (fun u wq=>u=.bool ob∧Fr none_ w3 wq)
   case first =>
    subst hA2
    have hli:leafLow S i=sepAt S j0:=by rw [hj0'];rfl
    have e1:w3.cell? ⟨bs,offs+j0,none⟩=some (.string (leafLow S i)):=by rw [hli];exact hcs
    have hw4:IntKind.i64.wrap ((i:Int) - 1)=(j0:Int):=(IntWalk.i64_in _ (by omega)).trans (by omega)
    have hl1:j0 < S.length:=by omega
    by_cases h1i:1 < i
    ·have hg:decide ((i:Int) > 1)=true:=decide_eq_true (by omega)
     obtain ⟨j1,hj1'⟩:∃ j1,j0=j1+1:=⟨j0 - 1,by omega⟩
     obtain ⟨bs',offs',hA3,_,hcs',_⟩:=T3.out.at_ (sepAt_in (S:=S) (i:=j1) (by omega))
     obtain ⟨rfl,rfl⟩:bs=bs'∧offs=offs':=by injection hA3 with hA3;injection hA3 with h1 h2;exact ⟨h1,h2⟩
     have hli2:leafLow S (i - 1)=sepAt S j1:=by rw [hj0',hj1'];rfl
     have e2:w3.cell? ⟨bs,offs+j1,none⟩=some (.string (leafLow S (i - 1))):=by rw [hli2];exact hcs'
     have hw5:IntKind.i64.wrap ((i:Int) - 2)=(j1:Int):=(IntWalk.i64_in _ (by omega)).trans (by omega)
     have hl3:j1 < S.length:=by omega
     have hd1:decide (1 < i)=true:=decide_eq_true h1i
     clear hA3 hli hli2 hcs hcs' h1i hj0' hj1'
     cases hb1:ltS r.1 (leafLow S (i - 1)) with
     | true =>
      have OB':Hid (ob=true):=hid_ (by rw [OB.out,hb1,hd1];rfl)
      clear hd1
      have hS0:(fun w':World=>Fr none_ w3 w') w3.drew:=(Fr.refl none_ w3).drew
      refine wp_region_u 23 (fun w':World=>Fr none_ w3 w') (by kernel_rfl) ?_
      refine u_tk 0 (some 69) (.int .i64 (i:Int)) rfl rfl (y_vl fun _ _=>by kernel_rfl) hS0 ?_
      try go_frame
      refine u_tk 1 (some 70) (.bool true) rfl rfl (y_bool hg (by kernel_rfl) (fun w' hS=>by kernel_rfl)) hS0 ?_
      try go_frame
      refine u_tk 2 (some 71) (.bool true) rfl rfl (y_vl fun _ _=>by kernel_rfl) hS0 ?_
      try go_frame
      refine u_tk 3 (some 72) (.pointer (some ⟨w.heap.size,0,none⟩)) rfl rfl (y_vl fun _ _=>by kernel_rfl) hS0 ?_
      try go_frame
      refine u_tk 4 (some 73) (.string r.1) rfl rfl (y_cell 9 (.tmp 72) ⟨w.heap.size,0,none⟩ _ (by kernel_rfl) rfl (by kernel_rfl) (fun w' hS=>cellFr q0 hS) Tryz.underlying9 rfl) hS0 ?_
      try go_frame
      refine u_tk 5 (some 74) (.slice (some ⟨bs,offs,none⟩) S.length c2) rfl rfl (y_vl fun _ _=>by kernel_rfl) hS0 ?_
      try go_frame
      refine u_tk 6 (some 75) (.int .i64 (i:Int)) rfl rfl (y_vl fun _ _=>by kernel_rfl) hS0 ?_
      try go_frame
      refine u_tk 7 (some 76) (.int .i64 (j1:Int)) rfl rfl (y_int hw5 (by kernel_rfl) (fun w' hS=>by kernel_rfl)) hS0 ?_
      try go_frame
      refine u_tk 8 (some 77) (.pointer (some ⟨bs,offs+j1,none⟩)) rfl rfl (.inl ⟨by kernel_rfl,fun w' hS=>ex_index1 23 9 (.tmp 74) (.tmp 76) bs offs j1 S.length c2 rfl (by kernel_rfl) (by kernel_rfl) Tryz.underlying23 str_sz (by omega) w'⟩) hS0 ?_
      try go_frame
      refine u_tk 9 (some 78) (.string (leafLow S (i - 1))) rfl rfl (y_cell 9 (.tmp 77) ⟨bs,offs+j1,none⟩ _ (by kernel_rfl) rfl (by kernel_rfl) (fun w' hS=>cellFr e2 hS) Tryz.underlying9 rfl) hS0 ?_
      try go_frame
      refine u_call 10 (some 79) 15 #[.string r.1,.string (leafLow S (i - 1))] (.bool true) (fun w'=>Fr none_ w3 w') rfl rfl (by kernel_rfl) (by kernel_rfl) (by kernel_rfl) ((before_ok r.1 (leafLow S (i - 1)) _ HRz.out.1.le (SO.out.szLow _).le).mono fun e w' hh=>by
       obtain ⟨rfl,nn,rfl⟩:=hh
       exact ⟨by rw [hb1],((show Fr none_ w3 _ from hS0)).drewN nn⟩) ?_
      intro wk1 hS1
      refine ⟨hS1,?_⟩
      try go_frame
      refine u_tk 11 (some 80) (.bool true) rfl rfl (y_vl fun _ _=>by kernel_rfl) hS1 ?_
      try go_frame
      refine u_tk 12 (some 81) (.bool true) rfl rfl (y_vl fun _ _=>by kernel_rfl) hS1 ?_
      try go_frame
      refine u_tk 13 (some 82) undef rfl rfl (y_skip (by kernel_rfl)) hS1 ?_
      try go_frame
      refine u_tk 14 (some 83) undef rfl rfl (y_skip (by kernel_rfl)) hS1 ?_
      try go_frame
      refine u_tk 15 (some 84) undef rfl rfl (y_skip (by kernel_rfl)) hS1 ?_
      try go_frame
      refine u_tk 16 (some 85) undef rfl rfl (y_skip (by kernel_rfl)) hS1 ?_
      try go_frame
      refine u_tk 17 (some 86) undef rfl rfl (y_skip (by kernel_rfl)) hS1 ?_
      try go_frame
      refine u_tk 18 (some 87) undef rfl rfl (y_skip (by kernel_rfl)) hS1 ?_
      try go_frame
      refine u_tk 19 (some 88) undef rfl rfl (y_skip (by kernel_rfl)) hS1 ?_
      try go_frame
      refine u_tk 20 (some 89) undef rfl rfl (y_skip (by kernel_rfl)) hS1 ?_
      try go_frame
      refine u_tk 21 (some 90) undef rfl rfl (y_skip (by kernel_rfl)) hS1 ?_
      try go_frame
      refine u_tk 22 (some 91) (.bool true) rfl rfl (y_vl fun _ _=>by kernel_rfl) hS1 ?_
      try go_frame
      refine u_done (by kernel_rfl) ?_
      go_wp2
      go_meet
      case rel=>exact ⟨by rw [OB'.out],hS1⟩
     | false =>
      have OB':Hid (ob=!ltS r.1 (leafLow S i)):=hid_ (by rw [OB.out,hb1,hd1];rfl)
      clear hd1
      have hS0:(fun w':World=>Fr none_ w3 w') w3.drew:=(Fr.refl none_ w3).drew
      refine wp_region_u 23 (fun w':World=>Fr none_ w3 w') (by kernel_rfl) ?_
      refine u_tk 0 (some 69) (.int .i64 (i:Int)) rfl rfl (y_vl fun _ _=>by kernel_rfl) hS0 ?_
      try go_frame
      refine u_tk 1 (some 70) (.bool true) rfl rfl (y_bool hg (by kernel_rfl) (fun w' hS=>by kernel_rfl)) hS0 ?_
      try go_frame
      refine u_tk 2 (some 71) (.bool true) rfl rfl (y_vl fun _ _=>by kernel_rfl) hS0 ?_
      try go_frame
      refine u_tk 3 (some 72) (.pointer (some ⟨w.heap.size,0,none⟩)) rfl rfl (y_vl fun _ _=>by kernel_rfl) hS0 ?_
      try go_frame
      refine u_tk 4 (some 73) (.string r.1) rfl rfl (y_cell 9 (.tmp 72) ⟨w.heap.size,0,none⟩ _ (by kernel_rfl) rfl (by kernel_rfl) (fun w' hS=>cellFr q0 hS) Tryz.underlying9 rfl) hS0 ?_
      try go_frame
      refine u_tk 5 (some 74) (.slice (some ⟨bs,offs,none⟩) S.length c2) rfl rfl (y_vl fun _ _=>by kernel_rfl) hS0 ?_
      try go_frame
      refine u_tk 6 (some 75) (.int .i64 (i:Int)) rfl rfl (y_vl fun _ _=>by kernel_rfl) hS0 ?_
      try go_frame
      refine u_tk 7 (some 76) (.int .i64 (j1:Int)) rfl rfl (y_int hw5 (by kernel_rfl) (fun w' hS=>by kernel_rfl)) hS0 ?_
      try go_frame
      refine u_tk 8 (some 77) (.pointer (some ⟨bs,offs+j1,none⟩)) rfl rfl (.inl ⟨by kernel_rfl,fun w' hS=>ex_index1 23 9 (.tmp 74) (.tmp 76) bs offs j1 S.length c2 rfl (by kernel_rfl) (by kernel_rfl) Tryz.underlying23 str_sz (by omega) w'⟩) hS0 ?_
      try go_frame
      refine u_tk 9 (some 78) (.string (leafLow S (i - 1))) rfl rfl (y_cell 9 (.tmp 77) ⟨bs,offs+j1,none⟩ _ (by kernel_rfl) rfl (by kernel_rfl) (fun w' hS=>cellFr e2 hS) Tryz.underlying9 rfl) hS0 ?_
      try go_frame
      refine u_call 10 (some 79) 15 #[.string r.1,.string (leafLow S (i - 1))] (.bool false) (fun w'=>Fr none_ w3 w') rfl rfl (by kernel_rfl) (by kernel_rfl) (by kernel_rfl) ((before_ok r.1 (leafLow S (i - 1)) _ HRz.out.1.le (SO.out.szLow _).le).mono fun e w' hh=>by
       obtain ⟨rfl,nn,rfl⟩:=hh
       exact ⟨by rw [hb1],((show Fr none_ w3 _ from hS0)).drewN nn⟩) ?_
      intro wk1 hS1
      refine ⟨hS1,?_⟩
      try go_frame
      refine u_tk 11 (some 80) (.bool false) rfl rfl (y_vl fun _ _=>by kernel_rfl) hS1 ?_
      try go_frame
      refine u_tk 12 (some 81) (.bool false) rfl rfl (y_vl fun _ _=>by kernel_rfl) hS1 ?_
      try go_frame
      refine u_tk 13 (some 82) (.pointer (some ⟨w.heap.size,0,none⟩)) rfl rfl (y_vl fun _ _=>by kernel_rfl) hS1 ?_
      try go_frame
      refine u_tk 14 (some 83) (.string r.1) rfl rfl (y_cell 9 (.tmp 82) ⟨w.heap.size,0,none⟩ _ (by kernel_rfl) rfl (by kernel_rfl) (fun w' hS=>cellFr q0 hS) Tryz.underlying9 rfl) hS1 ?_
      try go_frame
      refine u_tk 15 (some 84) (.slice (some ⟨bs,offs,none⟩) S.length c2) rfl rfl (y_vl fun _ _=>by kernel_rfl) hS1 ?_
      try go_frame
      refine u_tk 16 (some 85) (.int .i64 (i:Int)) rfl rfl (y_vl fun _ _=>by kernel_rfl) hS1 ?_
      try go_frame
      refine u_tk 17 (some 86) (.int .i64 (j0:Int)) rfl rfl (y_int hw4 (by kernel_rfl) (fun w' hS=>by kernel_rfl)) hS1 ?_
      try go_frame
      refine u_tk 18 (some 87) (.pointer (some ⟨bs,offs+j0,none⟩)) rfl rfl (.inl ⟨by kernel_rfl,fun w' hS=>ex_index1 23 9 (.tmp 84) (.tmp 86) bs offs j0 S.length c2 rfl (by kernel_rfl) (by kernel_rfl) Tryz.underlying23 str_sz (by omega) w'⟩) hS1 ?_
      try go_frame
      refine u_tk 19 (some 88) (.string (leafLow S i)) rfl rfl (y_cell 9 (.tmp 87) ⟨bs,offs+j0,none⟩ _ (by kernel_rfl) rfl (by kernel_rfl) (fun w' hS=>cellFr e1 hS) Tryz.underlying9 rfl) hS1 ?_
      try go_frame
      refine u_call 20 (some 89) 15 #[.string r.1,.string (leafLow S i)] (.bool (ltS r.1 (leafLow S i))) (fun w'=>Fr none_ w3 w') rfl rfl (by kernel_rfl) (by kernel_rfl) (by kernel_rfl) ((before_ok r.1 (leafLow S i) _ HRz.out.1.le (SO.out.szLow _).le).mono fun e w' hh=>by
       obtain ⟨rfl,nn,rfl⟩:=hh
       exact ⟨rfl,((show Fr none_ w3 _ from hS1)).drewN nn⟩) ?_
      intro wk2 hS2
      refine ⟨hS2,?_⟩
      try go_frame
      refine u_tk 21 (some 90) (.bool (!(ltS r.1 (leafLow S i)))) rfl rfl (y_vl fun _ _=>by kernel_rfl) hS2 ?_
      try go_frame
      refine u_tk 22 (some 91) (.bool (!(ltS r.1 (leafLow S i)))) rfl rfl (y_vl fun _ _=>by kernel_rfl) hS2 ?_
      try go_frame
      refine u_done (by kernel_rfl) ?_
      go_wp2
      go_meet
      case rel=>exact ⟨by rw [OB'.out],hS2⟩
    ·have hg:decide ((i:Int) > 1)=false:=decide_eq_false (by omega)
     have hd1:decide (1 < i)=false:=decide_eq_false h1i
     clear hli hcs h1i hj0'
     have OB':Hid (ob=!ltS r.1 (leafLow S i)):=hid_ (by rw [OB.out,hd1];rfl)
     clear hd1
     have hS0:(fun w':World=>Fr none_ w3 w') w3.drew:=(Fr.refl none_ w3).drew
     refine wp_region_u 23 (fun w':World=>Fr none_ w3 w') (by kernel_rfl) ?_
     refine u_tk 0 (some 69) (.int .i64 (i:Int)) rfl rfl (y_vl fun _ _=>by kernel_rfl) hS0 ?_
     try go_frame
     refine u_tk 1 (some 70) (.bool false) rfl rfl (y_bool hg (by kernel_rfl) (fun w' hS=>by kernel_rfl)) hS0 ?_
     try go_frame
     refine u_tk 2 (some 71) (.bool false) rfl rfl (y_vl fun _ _=>by kernel_rfl) hS0 ?_
     try go_frame
     refine u_tk 3 (some 72) undef rfl rfl (y_skip (by kernel_rfl)) hS0 ?_
     try go_frame
     refine u_tk 4 (some 73) undef rfl rfl (y_skip (by kernel_rfl)) hS0 ?_
     try go_frame
     refine u_tk 5 (some 74) undef rfl rfl (y_skip (by kernel_rfl)) hS0 ?_
     try go_frame
     refine u_tk 6 (some 75) undef rfl rfl (y_skip (by kernel_rfl)) hS0 ?_
     try go_frame
     refine u_tk 7 (some 76) undef rfl rfl (y_skip (by kernel_rfl)) hS0 ?_
     try go_frame
     refine u_tk 8 (some 77) undef rfl rfl (y_skip (by kernel_rfl)) hS0 ?_
     try go_frame
     refine u_tk 9 (some 78) undef rfl rfl (y_skip (by kernel_rfl)) hS0 ?_
     try go_frame
     refine u_tk 10 (some 79) undef rfl rfl (y_skip (by kernel_rfl)) hS0 ?_
     try go_frame
     refine u_tk 11 (some 80) (.bool false) rfl rfl (y_vl fun _ _=>by kernel_rfl) hS0 ?_
     try go_frame
     refine u_tk 12 (some 81) (.bool false) rfl rfl (y_vl fun _ _=>by kernel_rfl) hS0 ?_
     try go_frame
     refine u_tk 13 (some 82) (.pointer (some ⟨w.heap.size,0,none⟩)) rfl rfl (y_vl fun _ _=>by kernel_rfl) hS0 ?_
     try go_frame
     refine u_tk 14 (some 83) (.string r.1) rfl rfl (y_cell 9 (.tmp 82) ⟨w.heap.size,0,none⟩ _ (by kernel_rfl) rfl (by kernel_rfl) (fun w' hS=>cellFr q0 hS) Tryz.underlying9 rfl) hS0 ?_
     try go_frame
     refine u_tk 15 (some 84) (.slice (some ⟨bs,offs,none⟩) S.length c2) rfl rfl (y_vl fun _ _=>by kernel_rfl) hS0 ?_
     try go_frame
     refine u_tk 16 (some 85) (.int .i64 (i:Int)) rfl rfl (y_vl fun _ _=>by kernel_rfl) hS0 ?_
     try go_frame
     refine u_tk 17 (some 86) (.int .i64 (j0:Int)) rfl rfl (y_int hw4 (by kernel_rfl) (fun w' hS=>by kernel_rfl)) hS0 ?_
     try go_frame
     refine u_tk 18 (some 87) (.pointer (some ⟨bs,offs+j0,none⟩)) rfl rfl (.inl ⟨by kernel_rfl,fun w' hS=>ex_index1 23 9 (.tmp 84) (.tmp 86) bs offs j0 S.length c2 rfl (by kernel_rfl) (by kernel_rfl) Tryz.underlying23 str_sz (by omega) w'⟩) hS0 ?_
     try go_frame
     refine u_tk 19 (some 88) (.string (leafLow S i)) rfl rfl (y_cell 9 (.tmp 87) ⟨bs,offs+j0,none⟩ _ (by kernel_rfl) rfl (by kernel_rfl) (fun w' hS=>cellFr e1 hS) Tryz.underlying9 rfl) hS0 ?_
     try go_frame
     refine u_call 20 (some 89) 15 #[.string r.1,.string (leafLow S i)] (.bool (ltS r.1 (leafLow S i))) (fun w'=>Fr none_ w3 w') rfl rfl (by kernel_rfl) (by kernel_rfl) (by kernel_rfl) ((before_ok r.1 (leafLow S i) _ HRz.out.1.le (SO.out.szLow _).le).mono fun e w' hh=>by
      obtain ⟨rfl,nn,rfl⟩:=hh
      exact ⟨rfl,((show Fr none_ w3 _ from hS0)).drewN nn⟩) ?_
     intro wk2 hS2
     refine ⟨hS2,?_⟩
     try go_frame
     refine u_tk 21 (some 90) (.bool (!(ltS r.1 (leafLow S i)))) rfl rfl (y_vl fun _ _=>by kernel_rfl) hS2 ?_
     try go_frame
     refine u_tk 22 (some 91) (.bool (!(ltS r.1 (leafLow S i)))) rfl rfl (y_vl fun _ _=>by kernel_rfl) hS2 ?_
     try go_frame
     refine u_done (by kernel_rfl) ?_
     go_wp2
     go_meet
     case rel=>exact ⟨by rw [OB'.out],hS2⟩
   case rest =>
   obtain ⟨rfl,hf3⟩:=hcut
   obtain ⟨w3c,hw3c⟩:∃ z:World,z=wc:=⟨_,rfl⟩
   subst hw3c
   have Qc:=hid_ (Q3.out.keep hf3)
   have Tc:=hid_ (T3.out.keep hf3)
   have hQf:=Qc.out.f
   cases hobc:ob with
   | true =>
    clear hobc
    have FQ:=hid_ (Ff2.out.then_none hQf)
    go_wp2_with fail
    refine (awake13_ok _).mono ?_
    rintro e wz ⟨rfl,hfz⟩
    have FZ:=hid_ (FQ.out.then_none hfz)
    clear hfz
    go_wp2_with fail
    go_ret
    exact ⟨rfl,FZ.out⟩
   | false =>
   have hin:inS (leafLow S (i - 1)) (leafLow S i) false r.1=true:=by
    have h:=OB.out
    rw [hobc] at h
    have h':(decide (1 < i) && ltS r.1 (leafLow S (i - 1)))=false∧(!ltS r.1 (leafLow S i))=false:=by
     have:=h.symm
     rwa [Bool.or_eq_false_iff] at this
    have h2:ltS r.1 (leafLow S i)=true:=by simpa using h'.2
    refine inS_iff7.2 ⟨?_,.inr h2⟩
    by_cases h1:1 < i
    ·have:=h'.1
     rw [decide_eq_true h1] at this
     simpa using this
    ·have e:i - 1=0:=by omega
     rw [e]
     exact ltS_nil _
   have IN:=hid_ hin
   clear hobc OB hin hj0' hcs hA2 hQf Q3 T3 q0 BW3
   have hheld:=hid_ (held13_ok l S A2 c2 i Tc.out hd12 hi1 hi2 Qc.out (by omega) (by omega) (by omega) (by omega))
   go_wp2_with fail
   refine hheld.out.mono ?_
   rintro e w4 ⟨hs,hg,rs,rg,x4,js4,rfl,hL4,hp4⟩
   have P0:=hid_ (start0 (sp:=fun _=>False) HL.out hl60 SO.out hd12 hi1 hi2 (by decide) hL4 hp4 (by push_cast;omega))
   have LN:=hid_ (start_len hL4.lay hi1 hi2)
   have UP:=hid_ (And.intro (start_pages hL4.lay) hL4.ps)
   clear hheld hL4 hp4 Qc
   go_upto_region 13 with fail
   obtain ⟨w5,hw5⟩:∃ z,z=(w4.alloc (.cells #[.int .i64 hs,.int .i64 hg] 36)).alloc (.cells #[.int .i64 ((i:Int)+1),.int .i64 (i:Int),.string (leafLow S i)] 38):=⟨_,rfl⟩
   change Code.wp _ _ _ _ ((w4.alloc (.cells #[.int .i64 hs,.int .i64 hg] 36)).alloc (.cells #[.int .i64 ((i:Int)+1),.int .i64 (i:Int),.string (leafLow S i)] 38))
   rw [← hw5]
   have f5:Fr none_ w4 w5:=by rw [hw5];exact ((Fr.refl none_ w4).alloc _).alloc _
   have B1:Hid (Blk w5 w4.heap.size 36 #[.int .i64 hs,.int .i64 hg]):=hid_ (by rw [hw5];exact (Blk.new w4 _ _).alloc _)
   have B2:Hid (Blk w5 (w4.heap.size+1) 38 #[.int .i64 ((i:Int)+1),.int .i64 (i:Int),.string (leafLow S i)]):=hid_ (by rw [hw5];exact Blk.new7 _ _ (by simp))
   have P5:=hid_ (P0.out.keep f5)
   clear hw5 f5 P0
   obtain ⟨c0,hc0⟩:∃ c,c=cf13 200 l S i hs hg rs rg fun _=>False:=⟨_,rfl⟩
   rw [← hc0] at P5
   have C0:=hid_ hc0
   have hci:c0.i=i:=by rw [hc0];rfl
   have CI:=hid_ hci
   clear hc0 hci
   have a0:=B1.out.cell' (i:=0) rfl
   have a1:=B1.out.cell' (i:=1) rfl
   have b0:=B2.out.cell' (i:=0) rfl
   have b1:=B2.out.cell' (i:=1) rfl
   have b2:=B2.out.cell' (i:=2) rfl
   have hbg:=hid_ (mbegin_ok 0 hs hg ((i:Int)+1) (i:Int) (leafLow S i) w5)
   go_wp2_with fail
   refine hbg.out.mono ?_
   intro e w8 hbeg
   obtain ⟨h,y,he8,hP8,hf8⟩:=P5.out.begin_ (c:=c0) (by rw [C0.out];exact hbeg)
   unfold hptr at he8
   subst he8
   obtain ⟨K,hK⟩:∃ z,z=3 * (S.length:Int)+6+3:=⟨_,rfl⟩
   have hK0:0≤K∧K≤45:=by omega
   have hlfl:(lfR13 l S (i - 1)).rows.length≤60:=Nat.le_trans (lf_len _) hl60
   have hlfo:okR (leafLow S (i - 1)) (leafLow S i) (lfR13 l S (i - 1)).rows:=by
    have:=hP8.wd.cu
    rw [C0.out] at this
    exact this
   have OK:Hid (OthOk c0 (lfR13 l S (i - 1)).rows r (S.length+3+1) K):=hid_ (by
    rw [C0.out]
    refine ⟨cf13_ok HL.out hl60 SO.out hi1 hi2,cf13_more SO.out hi1 hi2,rfl,by omega,hK0,Nat.le_refl 2,fun _ h=>h,FR.out,IN.out,hlfo.1.pw,?_⟩
    refine ⟨putR_right hlfo.1 FR.out,fun p hp=>?_,Nat.le_trans (putR_len _ _) (by omega)⟩
    rcases mem_putR hp with hp | rfl
    ·exact hlfo.2.1 p hp
    ·exact IN.out)
   have R0:Hid (Oth c0 (lfR13 l S (i - 1)).rows r w2f m (S.length+1) w4.heap.size (S.length+3+1) h K 0 0 0 K x4 js4 ⟨h,.going 0 [] 0 0,y⟩ (lfR13 l S (i - 1)).rows w8):=hid_ (by
    refine ⟨by rw [hK];exact hP8,rfl,rfl,?_,.inl (by omega),by omega⟩
    rw [CI.out,LN.out.1]
    decide)
   clear hbg hbeg hP8 hf8 P5 LN B1 B2 a0 a1 b0 b1 b2 hK hlfo
   have MZ:=hid_ (metN_zero V HV.out)
   go_wp2_with fail
   go_loopw [19,20] (fun vp vk wr=>∃ (k puts Φ:Nat) (kk:Int) (x:St) (js:Nat→List Nat) (z:H1) (cur:List Rw),vp=.int .i64 puts∧vk=.int .i64 k∧puts=metN V k 0∧(k≤61∧z.ph.isOver=false)∧Oth c0 (lfR13 l S (i - 1)).rows r w2f m (S.length+1) w4.heap.size (S.length+3+1) h K k puts Φ kk x js z cur wr) (fun _ vk _=>100 - (intOf vk).toNat)
   case atStart=>exact ⟨0,0,0,K,x4,js4,_,_,rfl,rfl,MZ.out.symm,⟨by omega,rfl⟩,R0.out⟩
   case round =>
    obtain ⟨k,puts,Φ,kk,x5,js5,z,cur,rfl,rfl,hpm,⟨hk61,hov⟩,hR⟩:=hrel
    have R:=hid_ hR
    have PM:=hid_ hpm
    have hp12:puts≤12:=by have:=metN_le V k 0;omega
    clear hR R0 hpm
    have hk0:(0:Int)≤(k:Int):=Int.natCast_nonneg _
    have hkw:IntKind.i64.wrap ((k:Int)+1)=(k:Int)+1:=IntWalk.i64_in _ (by omega)
    obtain ⟨hk60,hst⟩:=oth_step OK.out R.out hp12 hov
    have ST:=hid_ hst
    clear hst hov
    go_wp2_with fail
    refine ST.out.mono ?_
    rintro e w9 ⟨Φ',x',js',z',rfl,hR'⟩
    have R':=hid_ hR'
    clear hR' ST R
    cases hov:z'.ph.isOver with
    | true =>
     obtain ⟨rfl,hzo⟩:=R'.out.hp.one_done hov
     have hB:Bel x' js' nilS 1 S.length (allR l S i cur):=by
      have P:=R'.out.hp
      rw [C0.out] at P
      exact end_bel HL.out SO.out hi1 hi2 P (Nat.le_refl _)
     have hcu:=R'.out.cu
     have Pq:=hid_ R'.out.hp
     have DZ:=hid_ hzo
     have ZHH:=hid_ R'.out.hh
     clear hov hzo R'
     by_cases h0:puts=0
     ·rw [if_pos h0] at hcu
      rw [hcu,allR_l HL.out SO.out hi1 hi2] at hB
      have HB:=hid_ hB
      have hgp:decide ((puts:Int) > 0)=false:=decide_eq_false (by omega)
      clear hcu hB PM
      subst h0
      go_wp2_with fail
      refine (below13_ok _ Pq.out.mm (by decide) (by decide) HB.out (by omega) (by omega)).mono ?_
      rintro e wb1 ⟨Ab,cb,rfl,hob,hfb⟩
      have Pr:=hid_ (Pq.out.keep hfb)
      have Hb1:=hid_ (Reads.of_own hob)
      have hdn:=hid_ (by
       have:=done_of Pr.out (List.mem_singleton.2 rfl) DZ.out
       rw [ZHH.out] at this
       exact this)
      clear hob hfb Pq
      go_wp2_with fail
      refine hdn.out.mono ?_
      rintro e wb ⟨rfl,hfb⟩
      have Pb:=hid_ (Pr.out.keep hfb)
      have Hb:=hid_ (Hb1.out.none_fr hfb)
      clear hdn hfb Pr Hb1
      have hsm:=hid_ (sameRows_ok l Ab A cb c wb Hb.out (H.out.none_fr (Ff2.out.then_none Pb.out.f)) (by omega))
      obtain ⟨j0,hj0'⟩:∃ j0,i=j0+1:=⟨i - 1,by omega⟩
      obtain ⟨bs,offs,hA2,_,hcs,_⟩:=(Tf2.out.keep Pb.out.f).at_ (sepAt_in (S:=S) (i:=j0) (by omega))
      subst hA2
      have CS:=hid_ hcs
      clear hcs Hb
      go_wp2_with fail
      refine hsm.out.mono ?_
      rintro e wd ⟨rfl,hfd⟩
      have Pd:=hid_ (Pb.out.keep hfd)
      have hcd:=cellFr CS.out hfd
      have hdr:=hid_ (by
       have P:=Pd.out
       rw [C0.out] at P
       exact end_drop SO.out hi1 hi2 (by decide) (by decide) P)
      clear hsm hfd Pb CS
      subst hj0'
      go_wp2_with fail
      refine hdr.out.mono ?_
      rintro e we ⟨rfl,hfe⟩
      have Pe:=hid_ (Pd.out.keep hfe)
      have FE:=hid_ (Ff2.out.then_none Pe.out.f)
      clear hdr hfe Pd hcd
      go_wp2_with fail
      refine (awake13_ok _).mono ?_
      rintro e wz ⟨rfl,hfz⟩
      have FZ:=hid_ (FE.out.then_none hfz)
      clear hfz
      go_wp2_with fail
      go_ret
      exact ⟨rfl,FZ.out⟩
     ·rw [if_neg h0] at hcu
      rw [hcu,allR_put HL.out SO.out hi1 hi2 IN.out,allR_l HL.out SO.out hi1 hi2] at hB
      have HB:=hid_ hB
      have hgp:(puts:Int) > 0:=by omega
      have hpl:(putR l r).length≤61:=Nat.le_trans (putR_len _ _) (by omega)
      have hput:=hid_ (rput_ok l A c r _ (H.out.none_fr (Ff2.out.then_none Pq.out.f)) (HL.out.rows (by omega)) HCC.out.1 HCC.out.2 HRz.out)
      have BWz:=hid_ (BWf.out.fr Pq.out.f id)
      have z0:=BWz.out.cell' (i:=0) rfl
      have z1:=BWz.out.cell' (i:=1) rfl
      clear hcu hB PM
      go_wp2_with fail
      refine hput.out.mono ?_
      rintro e wp ⟨Ap,cp,rfl,hop,hfp⟩
      have Pp:=hid_ (Pq.out.keep hfp)
      have Hp:=hid_ (Reads.of_own hop)
      clear hput hop hfp z0 z1 BWz Pq
      go_wp2_with fail
      refine (below13_ok _ Pp.out.mm (by decide) (by decide) HB.out (by omega) (by omega)).mono ?_
      rintro e wb1 ⟨Ab,cb,rfl,hob,hfb⟩
      have Pr:=hid_ (Pp.out.keep hfb)
      have Hp1:=hid_ (Hp.out.none_fr hfb)
      have Hb1:=hid_ (Reads.of_own hob)
      have hdn:=hid_ (by
       have:=done_of Pr.out (List.mem_singleton.2 rfl) DZ.out
       rw [ZHH.out] at this
       exact this)
      clear hob hfb Pp Hp
      go_wp2_with fail
      refine hdn.out.mono ?_
      rintro e wb ⟨rfl,hfb⟩
      have Pb:=hid_ (Pr.out.keep hfb)
      have Hb:=hid_ (Hb1.out.none_fr hfb)
      have Hp2:=hid_ (Hp1.out.none_fr hfb)
      clear hdn hfb Pr Hb1 Hp1
      have hsm:=hid_ (sameRows_ok (putR l r) Ab Ap cb cp wb Hb.out (Hp2.out) (by omega))
      obtain ⟨j0,hj0'⟩:∃ j0,i=j0+1:=⟨i - 1,by omega⟩
      obtain ⟨bs,offs,hA2,_,hcs,_⟩:=(Tf2.out.keep Pb.out.f).at_ (sepAt_in (S:=S) (i:=j0) (by omega))
      subst hA2
      have CS:=hid_ hcs
      clear hcs Hb
      go_wp2_with fail
      refine hsm.out.mono ?_
      rintro e wd ⟨rfl,hfd⟩
      have Pd:=hid_ (Pb.out.keep hfd)
      have hcd:=cellFr CS.out hfd
      have hdr:=hid_ (by
       have P:=Pd.out
       rw [C0.out] at P
       exact end_drop SO.out hi1 hi2 (by decide) (by decide) P)
      clear hsm hfd Pb CS
      subst hj0'
      go_wp2_with fail
      refine hdr.out.mono ?_
      rintro e we ⟨rfl,hfe⟩
      have Pe:=hid_ (Pd.out.keep hfe)
      have FE:=hid_ (Ff2.out.then_none Pe.out.f)
      clear hdr hfe Pd hcd
      go_wp2_with fail
      refine (awake13_ok _).mono ?_
      rintro e wz ⟨rfl,hfz⟩
      have FZ:=hid_ (FE.out.then_none hfz)
      clear hfz
      go_wp2_with fail
      go_ret
      exact ⟨rfl,FZ.out⟩
    | false =>
     have OV:=hid_ hov
     clear hov
     have hk3:¬ ((k:Int) > 300):=by omega
     obtain ⟨wo,rfl⟩:∃ q:World,q=w9:=⟨_,rfl⟩
     go_wp2_with fail
     go_loopw [19,114] (fun vp vt wr=>∃ (t puts:Nat) (kk:Int) (x:St) (js:Nat→List Nat) (cur:List Rw),t≤V.length∧vp=.int .i64 puts∧vt=.int .i64 t∧puts=metN V k t∧Oth c0 (lfR13 l S (i - 1)).rows r w2f m (S.length+1) w4.heap.size (S.length+3+1) h K (k+1) puts Φ' kk x js z' cur wr) (fun _ vt _=>V.length - (intOf vt).toNat)
     case atStart=>exact ⟨0,puts,_,x',js',cur,Nat.zero_le _,rfl,rfl,PM.out,R'.out⟩
     case round =>
      obtain ⟨t,pu,kk1,x6,js6,cur6,ht,rfl,rfl,hpm,hR⟩:=hrel
      have R:=hid_ hR
      clear hR R' PM
      have ht0:(0:Int)≤(t:Int):=Int.natCast_nonneg _
      by_cases htn:t < V.length
      ·have ht1:(t:Int) < (V.length:Int):=by omega
       obtain ⟨v,hv⟩:∃ v,V[t]?=some v:=⟨_,List.getElem?_eq_getElem htn⟩
       obtain ⟨bt,offt,hCe,_,hcv,hv0,hv1⟩:=(HC.out.keep (Ff2.out.then_none R.out.hp.f)) t v hv
       have hvw:IntKind.i64.wrap v=v:=IntWalk.i64_in _ (by omega)
       subst hCe
       by_cases hm:v.tmod 12=(k:Int)
       ·have hk12:k < 12:=by
         have:=Int.tmod_lt_of_pos v (b:=12) (by omega)
         omega
        have hnx:=metN_hit hv hm
        have hle2:=metN_le V k (t+1)
        have PM2:=hid_ (show pu+1=metN V k (t+1) by omega)
        have hpt:pu≤11:=by omega
        have hkw2:IntKind.i64.wrap (k:Int)=(k:Int):=IntWalk.i64_in _ (by omega)
        have hpw:IntKind.i64.wrap ((pu:Int)+1)=(pu:Int)+1:=IntWalk.i64_in _ (by omega)
        clear hnx hle2 hpm hv
        have hci2:c0.i=i:=CI.out
        go_wp2_with fail
        refine (memHead_any m _ _ _ _ R.out.hp.mm (by have:=R.out.kk;have:=R.out.hp.k0;omega) (by have:=R.out.kk;omega) (i:Int)).mono ?_
        rintro e wa ⟨sh,gh,ch,va,rfl,hH,hE,hMa,hfa⟩
        obtain ⟨sp0,gp0,hpg1,hpg2,hpg3⟩:=R.out.hp.wd.pg i (by omega)
        obtain ⟨rfl,hpg⟩:ch=0∧x6.ps[i]?=some (true,sh,gh):=by
         rcases hH with ⟨q,q1,q2,q3⟩ | ⟨q1,_⟩
         ·obtain rfl:i=q:=by omega
          exact ⟨q3,q2⟩
         ·exact absurd (pgC_used hpg1) q1
        obtain rfl:=hE.zero13
        have Pa:=hid_ (R.out.hp.head hMa hfa)
        have PG:=hid_ hpg
        clear hH hE hMa hfa hpg1 hpg2 hpg3 hpg
        go_upto_region 25 with fail
        obtain ⟨wb,hwb⟩:∃ q,q=wa.alloc (.cells #[.int .i64 sh,.int .i64 gh] 36):=⟨_,rfl⟩
        change Code.wp _ _ _ _ (wa.alloc (.cells #[.int .i64 sh,.int .i64 gh] 36))
        rw [← hwb]
        have fb:Fr none_ wa wb:=by rw [hwb];exact (Fr.refl none_ wa).alloc _
        have BH:Hid (Blk wb wa.heap.size 36 #[.int .i64 sh,.int .i64 gh]):=hid_ (by rw [hwb];exact Blk.new wa _ _)
        have Pb:=hid_ (Pa.out.keep fb)
        have BWq:=hid_ (BWf.out.fr Pb.out.f id)
        have y0:=BH.out.cell' (i:=0) rfl
        have y1:=BH.out.cell' (i:=1) rfl
        have z0:=BWq.out.cell' (i:=0) rfl
        have z1:=BWq.out.cell' (i:=1) rfl
        clear hwb fb Pa
        have hal:=hid_ (memAlloc_any m _ _ _ _ Pb.out.mm (by have:=Pb.out.k0;omega) (by have:=R.out.kk;omega) (putRc r sh gh) none 0 none 0 (fun w' hf=>⟨Reads.nil_,Reads.nil_⟩) ⟨Nat.zero_le _,Nat.zero_le _⟩)
        go_wp2_with fail
        refine hal.out.mono ?_
        rintro e wc2 ⟨sl,gn,kq,ss2,v2,rfl,hA2,hE2,hM2,hf2⟩
        obtain rfl:kq=0:=Pb.out.alloc_ok (by rw [OK.out.n];have:=cntL_le [z'];simp at this;have h3:=Pb.out.wd.f3;omega) (by have:=R.out.kk;show kk1+1+1 < 999;omega) hA2
        obtain rfl:=hE2.zero13
        obtain ⟨Pc,hlo,hsl⟩:=Pb.out.alloc hA2 hM2 hf2
        have PC:=hid_ Pc
        have LO:=hid_ hlo
        have SL:=hid_ (hsl z' (List.mem_singleton.2 rfl))
        have hvw:viewOf ss2 (js6 i)=viewOf x6.ss (js6 i):=viewOf_same (by
         have hA:=hA2
         obtain ⟨ad,_⟩:=adv_alloc Pb.out.wd.used hA 0
         obtain ⟨s0,g0,q1,q2,q3⟩:=Pb.out.wd.pg i (by omega)
         exact (ad.links q2 (fun j _=>by omega)).2.1)
        have VW:=hid_ hvw
        have BH2:=hid_ (BH.out.fr hf2 (Pb.out.mm.mall_ty BH.out (by decide)))
        clear hal hA2 hE2 hM2 hf2 Pc hlo hsl hvw y0 y1 z0 z1 BH BWq Pb
        go_upto_region 26 with fail
        obtain ⟨wd,hwd⟩:∃ q,q=wc2.alloc (.cells #[.int .i64 sl,.int .i64 gn] 36):=⟨_,rfl⟩
        change Code.wp _ _ _ _ (wc2.alloc (.cells #[.int .i64 sl,.int .i64 gn] 36))
        rw [← hwd]
        have fd:Fr none_ wc2 wd:=by rw [hwd];exact (Fr.refl none_ wc2).alloc _
        have BX:Hid (Blk wd wc2.heap.size 36 #[.int .i64 sl,.int .i64 gn]):=hid_ (by rw [hwd];exact Blk.new wc2 _ _)
        have BH3:=hid_ (BH2.out.fr fd id)
        have Pd:=hid_ (PC.out.keep fd)
        have y0:=BH3.out.cell' (i:=0) rfl
        have y1:=BH3.out.cell' (i:=1) rfl
        have z0:=BX.out.cell' (i:=0) rfl
        have z1:=BX.out.cell' (i:=1) rfl
        clear hwd fd PC BH2
        have hsw:=hid_ (memSwap_any m _ _ _ _ Pd.out.mm (by have:=Pd.out.k0;omega) (by have:=R.out.kk;omega) (i:Int) sh gh sl gn)
        go_wp2_with fail
        refine hsw.out.mono ?_
        rintro e we ⟨ok,kq,ps7,v7,rfl,hS7,hE7,hM7,hf7⟩
        obtain ⟨rfl,rfl,js7,cur7,hO7⟩:=oth_put OK.out R.out hpt (by omega) (x2:={ x6 with ss:=ss2 }) Pd.out (by omega) rfl (by rw [hci2];exact VW.out) LO.out SL.out (by rw [hci2];exact PG.out) (by rw [hci2]) hS7 hM7 hf7
        obtain rfl:=hE7.zero13
        have O7:=hid_ hO7
        clear hsw hS7 hE7 hM7 hf7 hO7 y0 y1 z0 z1 BX BH3 Pd LO SL VW PG R hci2
        go_wp2_with fail
        go_roundw
        case rel=>exact ⟨t+1,pu+1,kk1+3,_,js7,cur7,by omega,by go_num,by go_num,PM2.out,O7.out⟩
        case measure=>simp [intOf];omega
       ·have hnx:=metN_miss hv hm
        have PM2:=hid_ (show pu=metN V k (t+1) by omega)
        clear hnx hpm hv
        obtain ⟨q,hq⟩:∃ q,v.tmod 12=q:=⟨_,rfl⟩
        have hq1:(q==(k:Int))=false:=by rw [beq_eq_false_iff_ne,← hq];exact hm
        have hqw:IntKind.i64.wrap q=q:=by
         have h1:=Int.tmod_nonneg 12 hv0
         have h2:=Int.tmod_lt_of_pos v (b:=12) (by omega)
         rw [hq] at h1 h2
         exact IntWalk.i64_in _ (by omega)
        clear hm
        go_wp2_with fail
        go_roundw
        case rel=>exact ⟨t+1,pu,kk1,x6,js6,cur6,by omega,rfl,by go_num,PM2.out,R.out⟩
        case measure=>simp [intOf];omega
      ·obtain rfl:t=V.length:=by omega
       have ht1:¬ ((V.length:Int) < (V.length:Int)):=by omega
       have PM2:=hid_ (show pu=metN V (k+1) 0 by rw [metN_next];exact hpm)
       clear hpm
       go_wp2_with fail
       go_roundw
       case rel=>exact ⟨k+1,pu,Φ',kk1,x6,js6,z',cur6,rfl,by go_num,PM2.out,⟨by omega,OV.out⟩,R.out⟩
       case measure=>simp [intOf];omega
theorem mothers13_i {H:Type} {enc:TypeId × Value→H} (A:Option Addr) (n cap:Nat) (hc:n≤cap) (hm:cap≤maxLen) (B:Option Addr) (n1 cap1:Nat) (hc1:n1≤cap1) (hm1:cap1≤maxLen) (a2:Int) (wf2:(Lit.int .u8 a2).wf=true) (x0 x1:ByteArray) (w0:x0.size≤reachBytes) (w1:x1.size≤reachBytes) (C:Option Addr) (n4 cap4:Nat) (w:World) (h1:Rd enc Tryz.prog w 6 25 A n) (h2:Rd enc Tryz.prog w 6 9 B n1) (h4:Rd enc Tryz.prog w 6 5 C n4) :
    Calls Tryz.prog 3 #[.slice A n cap,.slice B n1 cap1,.int .u8 a2,.agg #[.string x0,.string x1],.slice C n4 cap4] w fun e w'=>e=.returned (.bool true)∧Fr none_ w w':=by
  obtain ⟨l,rfl,hl,hlz⟩:=Row_list h1
  obtain ⟨N,rfl,hN⟩:=Str_at h2
  obtain ⟨V,rfl,hV⟩:=(B13_at h4).list
  exact mothers13_law l N A B cap cap1 a2 (x0,x1) C V cap4 w hl hlz ⟨hc,hm⟩ hN ⟨hc1,hm1⟩ (wf_u8 wf2) ⟨szOk_of13 w0,szOk_of13 w1⟩ hV (fun v hv=>by
    obtain ⟨k,hk⟩:=List.mem_iff_getElem?.1 hv
    obtain ⟨_,_,_,_,_,h0,_⟩:=hV k v hk
    exact h0)
end Go.Proofs.YthpkbppaaagaoaaGreat
