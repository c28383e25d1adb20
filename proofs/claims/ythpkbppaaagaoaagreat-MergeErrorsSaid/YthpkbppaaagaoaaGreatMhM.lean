/- Texts of one proof, merged. -/
import Derived.Deep.QuietTactic
import Derived.BigQuiet
import Derived.BigRegion
import Derived.Test.YthpkbppaaagaoaaGreatMhB
import Derived.Test.YthpkbppaaagaoaaGreatMhD
import Derived.Test.YthpkbppaaagaoaaGreatMhF
import Derived.Test.YthpkbppaaagaoaaGreatMhL
namespace Go.Proofs.YthpkbppaaagaoaaGreat
set_option maxRecDepth 100000
set_option linter.unusedVariables false
open Go.RowKit Go.BigFrame

inductive Jst
  | head
  | swap (s g:Int)
  | free (s g:Int)
def djob (page os og:Int) (R:Rc):Jst→Dt
  | .head=>⟨page,os,og,0,3,[],[],R,[],0,false,0⟩
  | .swap s g=>⟨page,os,og,0,4,[],[],R,[(s,g)],0,false,0⟩
  | .free s g=>⟨page,os,og,0,5,[],[],R,[(s,g)],0,false,0⟩
inductive Ps
  | going (p:Nat) (js:List Nat) (s0 g0:Int)
  | taking (p:Nat) (js:List Nat) (s0 g0:Int)
  | job (t:Nat) (page os og:Int) (R:Rc) (st:Jst)
  | over (done:Bool)
def Ps.isOver:Ps→Bool
  | .over _=>true
  | _=>false
structure Hz where
  H:Hm
  g:Nat
  s:LdS
  i:Nat
  B:Nat
  a:Ia
  bx:Nat
def afterF (bx:Nat):Nat→Value
  | 0=>goneF bx
  | 1=>mergeF bx
  | _=>thirdF bx
def lfoot (g:Nat) (s:LdS):Nat→Prop:=fun k=>k=g∨(Value.slice s.A s.L.length s.c).ownBlock=some k∨(Value.slice s.B s.refs.length s.e).ownBlock=some k
def sfoot (y:Hz):Ps→Nat→Prop
  | .going ..=>lfoot y.g y.s
  | .taking ..=>lfoot y.g y.s
  | .job ..=>foot y.i y.a
  | .over _=>fun _=>False
def hfoot (h:Nat) (ph:Ps) (y:Hz):Nat→Prop:=fun k=>k=h∨sfoot y ph k
def hptr (h:Nat):Value:=.pointer (some ⟨h,0,none⟩)
def LdSub (ss:List Sl) (b0:Nat) (w:World) (y:Hz) (f:Value) (n:Int) (p:Nat) (js:List Nat) (s0 g0:Int):Prop:=
  y.H.over=false∧y.H.lv=.pointer (some ⟨y.g,0,none⟩)∧y.H.tv=f∧Ldr b0 w y.g y.s∧LdPh ss js n s0 g0 p y.s
def HSub (ss:List Sl) (b0:Nat) (w:World) (h:Nat) (y:Hz):Ps→Prop
  | .going p js s0 g0=>LdSub ss b0 w y (goingF h) y.H.hp p js s0 g0
  | .taking p js s0 g0=>LdSub ss b0 w y (takingF h) y.H.left p js s0 g0
  | .job t page os og R st=>y.H.over=false∧y.H.lv=.pointer none∧y.H.jv=.pointer (some ⟨y.i,0,none⟩)∧y.H.fv=afterF y.bx t∧Inst w y.B y.i (djob page os og R st) y.a∧Blk w y.bx 41 #[.pointer (some ⟨h,0,none⟩)]∧b0≤y.B∧y.B≤w.heap.size
  | .over d=>y.H.over=true∧y.H.done=d∧y.H.ev=.nilIface
structure Hlp (ss:List Sl) (b0:Nat) (w:World) (h:Nat) (ph:Ps) (y:Hz):Prop where
  b:HpB w h y.H
  gr:∃ A c,y.H.gr=.slice A y.H.gone.rows.length c∧LwIn 0 w y.H.gone A c
  hb:b0≤h
  sub:HSub ss b0 w h y ph
theorem own_off {w w':World} {S:Nat→Prop} {b0:Nat} {R:Rc} {vr ve:Value} (h:RecOwn w b0 R vr ve) (hf:Fr S w w') (h2:∀ k t cs,Blk w k t cs→(t=25∨t=132)→¬ S k):RecOwn w' b0 R vr ve:=
  h.fr hf (fun k hk=>by obtain ⟨_,cs,hb⟩:=own_blk h.r hk;exact h2 k _ cs hb (.inl rfl)) (fun k hk=>by obtain ⟨_,cs,hb⟩:=own_blk h.e hk;exact h2 k _ cs hb (.inr rfl))
theorem Ldr.off {b0 g:Nat} {w w':World} {s:LdS} {S:Nat→Prop} (h:Ldr b0 w g s) (hf:Fr S w w') (h1:∀ k,lfoot g s k→¬ S k) (h2:∀ k t cs,Blk w k t cs→(t=25∨t=132)→¬ S k):Ldr b0 w' g s:=
  ⟨h.b.fr hf (h1 g (.inl rfl)),h.lb,own_fr h.l hf (fun k hk=>h1 k (.inr (.inl hk))),own_fr h.r hf (fun k hk=>h1 k (.inr (.inr hk))),fun C hC=>own_off (h.own C hC) hf h2⟩
theorem LwIn.off {b0:Nat} {w w':World} {V:Lw} {A:Option Addr} {c:Nat} {S:Nat→Prop} (h:LwIn b0 w V A c) (hf:Fr S w w') (h2:∀ k cs,Blk w k 25 cs→¬ S k):LwIn b0 w' V A c:=
  ⟨own_fr h.own hf (fun k hk=>by obtain ⟨_,cs,hb⟩:=own_blk h.own hk;exact h2 k cs hb),h.ok⟩
theorem Hlp.fr {ss:List Sl} {b0:Nat} {w w':World} {h:Nat} {ph:Ps} {y:Hz} {S:Nat→Prop} (H:Hlp ss b0 w h ph y) (hf:Fr S w w') (h1:∀ k,hfoot h ph y k→¬ S k)
    (h2:∀ k t cs,Blk w k t cs→(t=25∨t=132∨t=158∨t=41)→¬ S k):Hlp ss b0 w' h ph y:=by
  have hr:∀ k t cs,Blk w k t cs→(t=25∨t=132)→¬ S k:=fun k t cs hb ht=>h2 k t cs hb (ht.elim .inl (fun e=>.inr (.inl e)))
  have hld:∀ f n p js s0 g0,(∀ k,lfoot y.g y.s k→¬ S k)→LdSub ss b0 w y f n p js s0 g0→LdSub ss b0 w' y f n p js s0 g0:=fun f n p js s0 g0 hl hh=>⟨hh.1,hh.2.1,hh.2.2.1,hh.2.2.2.1.off hf hl hr,hh.2.2.2.2⟩
  obtain ⟨A,c,e1,e2⟩:=H.gr
  refine ⟨H.b.fr hf (h1 h (.inl rfl)),⟨A,c,e1,e2.off hf (fun k cs hb=>h2 k _ cs hb (.inl rfl))⟩,H.hb,?_⟩
  have hs:=H.sub
  cases ph with
  | going p js s0 g0=>exact hld _ _ _ _ _ _ (fun k hk=>h1 k (.inr hk)) hs
  | taking p js s0 g0=>exact hld _ _ _ _ _ _ (fun k hk=>h1 k (.inr hk)) hs
  | job t page os og R st =>
    obtain ⟨a1,a2,a3,a4,a5,a6,a7,a8⟩:=hs
    exact ⟨a1,a2,a3,a4,a5.fr hf (fun k hk=>h1 k (.inr hk)) (fun k t cs hb ht=>h2 k t cs hb (by rcases ht with e | e | e;exact .inl e;exact .inr (.inl e);exact .inr (.inr (.inl e)))),a6.fr hf (h2 _ _ _ a6 (.inr (.inr (.inr rfl)))),a7,Nat.le_trans a8 hf.size⟩
  | over d=>exact hs
theorem Hlp.keep {ss:List Sl} {b0:Nat} {w w':World} {h:Nat} {ph:Ps} {y:Hz} (H:Hlp ss b0 w h ph y) (hf:Fr none_ w w'):Hlp ss b0 w' h ph y:=H.fr hf (fun _ _=>id) (fun _ _ _ _ _=>id)
def Stn (ss ss':List Sl) (J:List Nat):Prop:=∀ (js:List Nat) (s g:Int),(∀ j ∈ js,j ∈ J)→Links ss js s g→Links ss' js s g∧js.map (recOf ss')=js.map (recOf ss)∧js.map (refOf ss')=js.map (refOf ss)
theorem LdPh.stn {ss ss':List Sl} {js:List Nat} {n s0 g0:Int} {p:Nat} {s:LdS} (h:LdPh ss js n s0 g0 p s) (hl:Links ss js s0 g0) (hs:Stn ss ss' js):LdPh ss' js n s0 g0 p s:=by
  obtain ⟨_,h2,h3⟩:=hs js s0 g0 (fun _=>id) hl
  refine ⟨h.nn,h.bg,h.ov,h.le,h.hd,?_,?_,fun hp=>(hs _ _ _ (fun j hj=>List.mem_of_mem_drop hj) (h.nx hp)).1,h.ve⟩
  · rw [h.ls,List.map_take,List.map_take,h2]
  · rw [h.rs,List.map_take,List.map_take,h3]
theorem LdPh.any0 {ss ss':List Sl} {js js':List Nat} {n s0 g0 s1 g1:Int} {s:LdS} (h:LdPh ss js n s0 g0 0 s):LdPh ss' js' n s1 g1 0 s:=
  ⟨h.nn,h.bg,by rw [h.ov];simp,Nat.zero_le _,fun e=>absurd e (Nat.lt_irrefl 0),by have:=h.ls;simpa using this,by have:=h.rs;simpa using this,fun e=>absurd e (Nat.lt_irrefl 0),h.ve⟩
def Ps.js:Ps→List Nat
  | .going _ js _ _=>js
  | .taking _ js _ _=>js
  | _=>[]
def Ps.on (ss:List Sl):Ps→Prop
  | .going _ js s0 g0=>Links ss js s0 g0
  | .taking _ js s0 g0=>Links ss js s0 g0
  | _=>True
theorem Hlp.stn {ss ss':List Sl} {b0:Nat} {w:World} {h:Nat} {ph:Ps} {y:Hz} (H:Hlp ss b0 w h ph y) (hl:ph.on ss) (hs:Stn ss ss' ph.js):Hlp ss' b0 w h ph y:=by
  refine ⟨H.b,H.gr,H.hb,?_⟩
  have hh:=H.sub
  cases ph with
  | going p js s0 g0=>exact ⟨hh.1,hh.2.1,hh.2.2.1,hh.2.2.2.1,hh.2.2.2.2.stn hl hs⟩
  | taking p js s0 g0=>exact ⟨hh.1,hh.2.1,hh.2.2.1,hh.2.2.2.1,hh.2.2.2.2.stn hl hs⟩
  | job t page os og R st=>exact hh
  | over d=>exact hh
theorem Hlp.foot_blk {ss:List Sl} {b0:Nat} {w:World} {h:Nat} {ph:Ps} {y:Hz} (H:Hlp ss b0 w h ph y) {k:Nat} (hk:hfoot h ph y k):b0≤k∧∃ t cs,Blk w k t cs∧(t=103∨t=135∨t=147∨t=3∨t=51∨t=36):=by
  rcases hk with rfl | hk
  · exact ⟨H.hb,_,_,H.b,.inl rfl⟩
  · have hld:∀ f n p js s0 g0,lfoot y.g y.s k→LdSub ss b0 w y f n p js s0 g0→b0≤k∧∃ t cs,Blk w k t cs∧(t=103∨t=135∨t=147∨t=3∨t=51∨t=36):=by
      intro f n p js s0 g0 hk hh
      have hl:=hh.2.2.2.1
      rcases hk with rfl | hk | hk
      · exact ⟨hl.lb,_,_,hl.b,.inr (.inl rfl)⟩
      · obtain ⟨q,cs,hb⟩:=own_blk hl.l hk
        exact ⟨q,_,cs,hb,.inr (.inr (.inr (.inr (.inl rfl))))⟩
      · obtain ⟨q,cs,hb⟩:=own_blk hl.r hk
        exact ⟨q,_,cs,hb,.inr (.inr (.inr (.inr (.inr rfl))))⟩
    have hs:=H.sub
    cases ph with
    | going p js s0 g0=>exact hld _ _ _ _ _ _ hk hs
    | taking p js s0 g0=>exact hld _ _ _ _ _ _ hk hs
    | job t page os og R st =>
      obtain ⟨_,_,_,_,a5,_,a7,_⟩:=hs
      obtain ⟨t',cs,hb,ht⟩:=a5.foot_blk hk
      exact ⟨Nat.le_trans a7 (a5.foot_le hk),t',cs,hb,.inr (.inr ht)⟩
    | over d=>exact hk.elim
theorem Hlp.foot_lt {ss:List Sl} {b0:Nat} {w:World} {h:Nat} {ph:Ps} {y:Hz} (H:Hlp ss b0 w h ph y) {k:Nat} (hk:hfoot h ph y k):k < w.heap.size:=by
  obtain ⟨_,t,cs,hb,_⟩:=H.foot_blk hk
  exact hb.lt
open Go.RowKit Go.BigFrame

def KSame (H H':Hm):Prop:=H'.n=H.n∧H'.hs=H.hs∧H'.hg=H.hg∧H'.hp=H.hp∧H'.hl=H.hl∧H'.hk=H.hk∧H'.left=H.left
theorem KSame.refl (H:Hm):KSame H H:=⟨rfl,rfl,rfl,rfl,rfl,rfl,rfl⟩
def SameA (x x':St):Prop:=x'.a=x.a∧x'.G=x.G∧x'.T=x.T∧x'.H=x.H∧x'.C=x.C∧x'.M=x.M
theorem SameA.refl (x:St):SameA x x:=⟨rfl,rfl,rfl,rfl,rfl,rfl⟩
structure OnPage (x:St) (n:Int) (js:List Nat) (s0 g0:Int):Prop where
  pg:∃ i:Nat,n=(i:Int)∧x.ps[i]?=some (true,s0,g0)
  li:Links x.ss js s0 g0
  ne:js≠[]
def Taken (H:Hm) (V:Lw):Prop:=inS V.low V.high V.unb H.hk=true∨(inS V.low V.high V.unb H.hk=false∧V.unb=false∧V.high=H.hk∧V.right≠H.hp)
def Takes (H:Hm) (V:Lw):Prop:=inS V.low V.high V.unb H.hk=false∧V.unb=false∧V.high=H.hk∧V.right=H.hp
noncomputable def viewOf (ss:List Sl) (js:List Nat):Option Lw:=foldL (js.map (recOf ss))
def afterJ (H:Hm):Nat→Bool→Ps
  | 0,true=>.taking 0 [] 0 0
  | 0,false=>.going 0 [] 0 0
  | 1,true=>.job 2 H.n H.hs H.hg (hang (kindC 11) H.hs H.hg) .head
  | 1,false=>.taking 0 [] 0 0
  | _,b=>.over b
def afterG (H:Hm) (s g:Int):Nat→Bool→Int × Int
  | 0,true=>(s,g)
  | _,_=>(H.as_,H.ag)
inductive HStep (last:Int) (x:St) (H:Hm):Ps→Ps→Lw→Int→Int→St→Prop
  | g0 {js s0 g0} (h:OnPage x H.hp js s0 g0):HStep last x H (.going 0 [] 0 0) (.going 1 js s0 g0) H.gone H.as_ H.ag x
  | gn {p js s0 g0} (h0:0 < p) (h:p < js.length):HStep last x H (.going p js s0 g0) (.going (p+1) js s0 g0) H.gone H.as_ H.ag x
  | gF {js s0 g0 V} (hv:viewOf x.ss js=some V) (hg:V.gone=true):HStep last x H (.going js.length js s0 g0) (.taking 0 [] 0 0) { V with gone:=true } s0 g0 x
  | gP {js s0 g0 V} (hv:viewOf x.ss js=some V) (hg:V.gone=false):HStep last x H (.going js.length js s0 g0) (.job 0 H.hp s0 g0 (hang (kindC 5) s0 g0) .head) { V with gone:=true } s0 g0 x
  | t0 {js s0 g0} (h:OnPage x H.left js s0 g0):HStep last x H (.taking 0 [] 0 0) (.taking 1 js s0 g0) H.gone H.as_ H.ag x
  | tn {p js s0 g0} (h0:0 < p) (h:p < js.length):HStep last x H (.taking p js s0 g0) (.taking (p+1) js s0 g0) H.gone H.as_ H.ag x
  | tD {js s0 g0 V} (hv:viewOf x.ss js=some V) (hd:Taken H V):HStep last x H (.taking js.length js s0 g0) (.job 2 H.n H.hs H.hg (hang (kindC 11) H.hs H.hg) .head) H.gone H.as_ H.ag x
  | tM {js s0 g0 V} (hv:viewOf x.ss js=some V) (hd:Takes H V):HStep last x H (.taking js.length js s0 g0) (.job 1 H.left s0 g0 (hang (mergeR H.gone) s0 g0) .head) H.gone H.as_ H.ag x
  | jA {t page os og R s g ss'} (ha:AllocR last x.ss R s g 0 ss'):HStep last x H (.job t page os og R .head) (.job t page os og R (.swap s g)) H.gone H.as_ H.ag { x with ss:=ss' }
  | jY {t page os og R s g ps'} (hw:SwapR x.ps page os og s g true 0 ps'):HStep last x H (.job t page os og R (.swap s g)) (afterJ H t true) H.gone (afterG H s g t true).1 (afterG H s g t true).2 { x with ps:=ps' }
  | jN {t page os og R s g ps'} (hw:SwapR x.ps page os og s g false 0 ps'):HStep last x H (.job t page os og R (.swap s g)) (.job t page os og R (.free s g)) H.gone H.as_ H.ag { x with ps:=ps' }
  | jF {t page os og R s g c ss'} (hf:FreeR x.ss s g c ss'):HStep last x H (.job t page os og R (.free s g)) (afterJ H t false) H.gone H.as_ H.ag { x with ss:=ss' }
def hall (m:Nat) (x:St) (h:Nat) (ph:Ps) (y:Hz):Nat→Prop:=fun k=>mall m x k∨hfoot h ph y k
def HPost (b0 m:Nat) (k:Int) (l:Lm) (x:St) (h:Nat) (ph:Ps) (y:Hz) (w:World) (e:Ending) (w':World):Prop:=
  ∃ ph' y' x',e=.returned (.bool ph'.isOver)∧HStep l.n x y.H ph ph' y'.H.gone y'.H.as_ y'.H.ag x'∧KSame y.H y'.H∧Hlp x'.ss b0 w' h ph' y'∧Mm w' m (k+1) l x'∧Fr (hall m x h ph y) w w'∧(∀ q,hfoot h ph' y' q→hfoot h ph y q∨w.heap.size≤q)∧SameA x x'
theorem HPost.boolE {b0 m:Nat} {k:Int} {l:Lm} {x:St} {h:Nat} {ph:Ps} {y:Hz} {w:World} (e:Ending) (w':World) (hp:HPost b0 m k l x h ph y w e w'):BoolE e:=by
  obtain ⟨ph',_,_,he,_⟩:=hp
  exact ⟨_,he⟩
def Leafy (ss:List Sl) (js:List Nat) (V:Lw):Prop:=(∀ j ∈ js,PRec (recOf ss j))∧leafB (js.map (recOf ss))=true∧viewOf ss js=some V
def OkLd (l:Lm) (x:St) (n:Int) (p:Nat) (js:List Nat) (s0 g0:Int):Prop:=
  (p=0→js=[]∧s0=0∧g0=0∧∃ js s0 g0,OnPage x n js s0 g0∧js.length≤l.s∧js.length≤400)∧(0 < p→Links x.ss js s0 g0∧js≠[]∧js.length≤l.s∧js.length≤400∧p≤js.length)
def Ok13 (l:Lm) (x:St) (H:Hm):Ps→Prop
  | .going p js s0 g0=>OkLd l x H.hp p js s0 g0∧(0 < p→p=js.length→∃ V,Leafy x.ss js V)
  | .taking p js s0 g0=>OkLd l x H.left p js s0 g0∧(0 < p→p=js.length→∃ V,Leafy x.ss js V∧V.gone=false∧SzOk H.hk∧(Taken H V∨(Takes H V∧H.gone.gone=true∧H.gone.rows.length≤1000)))
  | .job t page os og R st=>t≤2∧(∀ sl gn c ss',st=.head→AllocR l.n x.ss R sl gn c ss'→c=0)∧(∀ s g ok c ps',st=.swap s g→SwapR x.ps page os og s g ok c ps'→c=0)
  | .over _=>False
section
variable {b0 m:Nat} {k:Int} {l:Lm} {x:St} {w:World} {h:Nat} {ph:Ps} {y:Hz}
theorem lown_off {g:Nat} {s:LdS} (hM:Mm w m k l x) (hl:Ldr b0 w g s) {q:Nat} {t:TypeId} {cs:Array Value} (hq:Blk w q t cs) (hn:t≠111∧t≠164∧t≠155∧t≠179) (h2:135≠t∧51≠t∧36≠t):¬ lown m x g s q:=by
  rintro (e | e | e | e)
  · exact hM.mall_ty hq hn e
  · exact Blk.ne_ hl.b hq h2.1 e.symm
  · exact own_blk_ne hl.l hq h2.2.1 e
  · exact own_blk_ne hl.r hq h2.2.2 e
theorem hall_ty (hM:Mm w m k l x) (H:Hlp x.ss b0 w h ph y) {q:Nat} {t:TypeId} {cs:Array Value} (hq:Blk w q t cs) (hn:t≠111∧t≠164∧t≠155∧t≠179) (h2:t≠103∧t≠135∧t≠147∧t≠3∧t≠51∧t≠36):¬ hall m x h ph y q:=by
  rintro (e | e)
  · exact hM.mall_ty hq hn e
  · obtain ⟨_,t',cs',hb,ht⟩:=H.foot_blk e
    obtain ⟨rfl,_⟩:=hb.uniq hq
    rcases ht with e | e | e | e | e | e
    · exact h2.1 e
    · exact h2.2.1 e
    · exact h2.2.2.1 e
    · exact h2.2.2.2.1 e
    · exact h2.2.2.2.2.1 e
    · exact h2.2.2.2.2.2 e
def LdR (b0 m:Nat) (k:Int) (l:Lm) (x:St) (n:Int) (p:Nat) (js:List Nat) (s0 g0:Int) (y:Hz) (w:World) (b:Bool) (w1:World):Prop:=
  ∃ s',b=decide (p=js.length)∧LdPh x.ss js n s0 g0 (p+1) s'∧Ldr b0 w1 y.g s'∧Mm w1 m (k+1) l x∧Fr (lown m x y.g y.s) w w1∧OwnStep y.s s' w
theorem ld_first (hl:Ldr b0 w y.g y.s) {n:Int} (hp:LdPh x.ss [] n 0 0 0 y.s) (hM:Mm w m k l x) (hb:∀ i,mall m x i→i < b0) (h0:0≤k) (h1:k≤100000) {js:List Nat} {s0 g0:Int} (ho:OnPage x n js s0 g0) (hls:js.length≤l.s) (h4:js.length≤400) :
    Calls Tryz.prog 45 #[.pointer (some ⟨y.g,0,none⟩),.pointer (some ⟨m,0,none⟩)] w fun e w1=>∃ b,e=.returned (.bool b)∧LdR b0 m k l x n 0 js s0 g0 y w b w1:=by
  refine (step_ph hl hM hb h0 h1 (hp.any0 (js':=js) (s1:=s0) (g1:=g0)) (Nat.zero_le _) ho.pg ho.li ho.ne hls (by omega)).mono ?_
  rintro e w1 ⟨s',rfl,a1,a2,a3,a4,a5⟩
  exact ⟨_,rfl,s',rfl,a1,a2,a3,a4,a5⟩
theorem ld_next (hl:Ldr b0 w y.g y.s) {n:Int} {p:Nat} {js:List Nat} {s0 g0:Int} (hp:LdPh x.ss js n s0 g0 p y.s) (hM:Mm w m k l x) (hb:∀ i,mall m x i→i < b0) (h0:0≤k) (h1:k≤100000) (hp0:0 < p) (hli:Links x.ss js s0 g0) (hne:js≠[]) (hls:js.length≤l.s) (h4:js.length≤400) (hle:p≤js.length) :
    Calls Tryz.prog 45 #[.pointer (some ⟨y.g,0,none⟩),.pointer (some ⟨m,0,none⟩)] w fun e w1=>∃ b,e=.returned (.bool b)∧LdR b0 m k l x n p js s0 g0 y w b w1:=by
  refine (step_phK hl hM hb h0 h1 hp hle hp0 hli hne hls (by omega)).mono ?_
  rintro e w1 ⟨s',rfl,a1,a2,a3,a4,a5⟩
  exact ⟨_,rfl,s',rfl,a1,a2,a3,a4,a5⟩
theorem Hlp.ldR {f:Value} {n:Int} {p p1:Nat} {js js1:List Nat} {s0 g0 s1 g1:Int} (H:Hlp x.ss b0 w h ph y) (hM:Mm w m k l x) (hs:LdSub x.ss b0 w y f n p1 js1 s1 g1) {b:Bool} {w1:World} (hr:LdR b0 m k l x n p js s0 g0 y w b w1) :
    ∃ s',b=decide (p=js.length)∧HpB w1 h y.H∧(∃ A c,y.H.gr=.slice A y.H.gone.rows.length c∧LwIn 0 w1 y.H.gone A c)∧LdSub x.ss b0 w1 { y with s:=s' } f n (p+1) js s0 g0∧Mm w1 m (k+1) l x∧Fr (lown m x y.g y.s) w w1∧(∀ q,lfoot y.g s' q→lfoot y.g y.s q∨w.heap.size≤q):=by
  obtain ⟨s',hbb,a1,a2,a3,a4,a5⟩:=hr
  obtain ⟨A,c,e1,e2⟩:=H.gr
  have hl:=hs.2.2.2.1
  refine ⟨s',hbb,H.b.fr a4 (lown_off hM hl H.b (by decide) (by decide)),⟨A,c,e1,e2.off a4 (fun q cs hq=>lown_off hM hl hq (by decide) (by decide))⟩,⟨hs.1,hs.2.1,hs.2.2.1,a2,a1⟩,a3,a4,?_⟩
  rintro q (rfl | hq | hq)
  · exact .inl (.inl rfl)
  · exact (a5.1 q hq).elim (fun e=>.inl (.inr (.inl e))) .inr
  · exact (a5.2 q hq).elim (fun e=>.inl (.inr (.inr e))) .inr
end
open Go.RowKit

theorem links_uniq {ss:List Sl}:∀ {js js':List Nat} {s g:Int},Links ss js s g→Links ss js' s g→js=js'
  | [],[],_,_,_,_=>rfl
  | [],j :: r,s,g,h,h'=>by obtain ⟨e,_⟩:=h';obtain ⟨e1,_⟩:=h;omega
  | j :: r,[],s,g,h,h'=>by obtain ⟨e,_⟩:=h;obtain ⟨e1,_⟩:=h';omega
  | j :: r,j' :: r',s,g,h,h'=>by
    obtain ⟨e,y,h1,_,_,h4⟩:=h
    obtain ⟨e',y',h1',_,_,h4'⟩:=h'
    have hj:j=j':=by omega
    subst hj
    rw [h1] at h1'
    obtain rfl:=Option.some.inj h1'
    rw [links_uniq h4 h4']
theorem links_sfx {ss:List Sl}:∀ {js d:List Nat} {s g:Int},Links ss js s g→d <:+ js→∃ s0 g0,Links ss d s0 g0
  | [],d,s,g,h,hd=>by
    obtain rfl:=List.suffix_nil.1 hd
    exact ⟨s,g,h⟩
  | j :: r,d,s,g,h,hd=>by
    rcases List.suffix_cons_iff.1 hd with rfl | hd
    · exact ⟨s,g,h⟩
    · obtain ⟨_,y,_,_,_,h4⟩:=h
      exact links_sfx h4 hd
theorem Stn.same {ss ss':List Sl} {J:List Nat} (h:∀ j ∈ J,ss'[j]?=ss[j]?):Stn ss ss' J:=by
  intro js
  induction js with
  | nil=>intro s g _ hl;exact ⟨hl,rfl,rfl⟩
  | cons j r ih =>
    intro s g hj hl
    obtain ⟨e,y,h1,h2,h3,h4⟩:=hl
    obtain ⟨i1,i2,i3⟩:=ih y.R.nslot y.R.ngen (fun q hq=>hj q (List.mem_cons_of_mem _ hq)) h4
    have hs:=h j (hj j (List.mem_cons_self))
    refine ⟨⟨e,y,by rw [hs];exact h1,h2,h3,i1⟩,?_,?_⟩
    · rw [List.map_cons,List.map_cons,i2]
      unfold recOf
      rw [List.getD_eq_getElem?_getD,List.getD_eq_getElem?_getD,hs]
    · rw [List.map_cons,List.map_cons,i3]
      unfold refOf
      rw [List.getD_eq_getElem?_getD,List.getD_eq_getElem?_getD,hs]
def usedN (ss:List Sl):Nat:=ss.countP (·.used)
theorem usedN_set {ss:List Sl} {i:Nat} {y t:Sl} (h:ss[i]?=some y):usedN (ss.set i t)+(if y.used=true then 1 else 0)=usedN ss+(if t.used=true then 1 else 0):=by
  unfold usedN
  induction ss generalizing i with
  | nil=>simp at h
  | cons a r ih =>
    cases i with
    | zero =>
      obtain rfl:a=y:=by simpa using h
      simp only [List.set_cons_zero,List.countP_cons]
      omega
    | succ i =>
      have:=ih (by simpa using h)
      simp only [List.set_cons_succ,List.countP_cons]
      omega
theorem usedN_all {ss:List Sl} (h:∀ (j:Nat) (y:Sl),ss[j]?=some y→y.used=true):usedN ss=ss.length:=by
  unfold usedN
  rw [List.countP_eq_length]
  intro y hy
  obtain ⟨j,hj⟩:=List.mem_iff_getElem?.1 hy
  exact h j y hj
structure Room (x:St) (N u:Nat) (gm:Int):Prop where
  len:x.ss.length=N
  us:usedN x.ss=u
  gn:∀ (j:Nat) (y:Sl),x.ss[j]?=some y→y.gen≤gm
theorem Room.alloc_ok {x:St} {N u:Nat} {gm last:Int} (h:Room x N u gm) (hu:u < N) (hg:gm < last) {R:Rc} {sl gn c:Int} {ss':List Sl} (ha:AllocR last x.ss R sl gn c ss'):c=0:=by
  rcases ha with ⟨_,_,_,_,_,_,_,_,_,hc,_⟩ | ⟨hno,_,_,_,_⟩
  · exact hc
  · exfalso
    have:=usedN_all (fun j y hy=>(hno j y hy).resolve_right (fun e=>by have:=h.gn j y hy;omega))
    have h1:=h.us
    have h2:=h.len
    omega
theorem Room.alloc {x:St} {N u:Nat} {gm last:Int} (h:Room x N u gm) {R:Rc} {sl gn:Int} {ss':List Sl} (ha:AllocR last x.ss R sl gn 0 ss'):Room { x with ss:=ss' } N (u+1) (gm+1):=by
  rcases ha with ⟨i,y,vr,ve,h1,⟨h2,_⟩,_,_,_,_,rfl⟩ | ⟨_,_,_,hc,_⟩
  · have hn:=usedN_set (t:=⟨y.gen+1,true,R,vr,ve⟩) h1
    rw [h2] at hn
    have hu:=h.us
    simp at hn
    refine ⟨by simp [h.len],by show usedN (x.ss.set i ⟨y.gen+1,true,R,vr,ve⟩)=u+1;omega,fun j z hz=>?_⟩
    have hz':(x.ss.set i ⟨y.gen+1,true,R,vr,ve⟩)[j]?=some z:=hz
    rcases Nat.decEq i j with hne | rfl
    · rw [List.getElem?_set_ne hne] at hz'
      have:=h.gn j z hz'
      omega
    · rw [List.getElem?_set_self (List.getElem?_eq_some_iff.1 h1).1] at hz'
      obtain rfl:=Option.some.inj hz'
      have:=h.gn i y h1
      show y.gen+1≤_
      omega
  · exact absurd hc.symm (allocErr_pos _)
theorem Room.free {x:St} {N u:Nat} {gm:Int} (h:Room x N u gm) {sl gn c:Int} {ss':List Sl} {i:Nat} {y:Sl} (hs:sl=(i:Int)+1) (h1:x.ss[i]?=some y) (h2:y.used=true) (h3:y.gen=gn) (hf:FreeR x.ss sl gn c ss'):Room { x with ss:=ss' } N (u - 1) gm∧1≤u∧(∀ j,j≠i→ss'[j]?=x.ss[j]?):=by
  rcases hf with ⟨i',y',e,f1,f2,f3,_,rfl⟩ | ⟨hno,_⟩
  · have hi:i'=i:=by omega
    subst hi
    rw [h1] at f1
    obtain rfl:=Option.some.inj f1
    have hn:=usedN_set (t:=⟨y.gen,false,Rc.zero,.slice none 0 0,.slice none 0 0⟩) h1
    rw [h2] at hn
    have hu:=h.us
    simp at hn
    refine ⟨⟨by simp [h.len],by show usedN (x.ss.set i' ⟨y.gen,false,Rc.zero,.slice none 0 0,.slice none 0 0⟩)=u - 1;omega,fun j z hz=>?_⟩,by omega,fun j hj=>List.getElem?_set_ne (Ne.symm hj)⟩
    have hz':(x.ss.set i' ⟨y.gen,false,Rc.zero,.slice none 0 0,.slice none 0 0⟩)[j]?=some z:=hz
    rcases Nat.decEq i' j with hne | rfl
    · rw [List.getElem?_set_ne hne] at hz'
      exact h.gn j z hz'
    · rw [List.getElem?_set_self (List.getElem?_eq_some_iff.1 h1).1] at hz'
      obtain rfl:=Option.some.inj hz'
      exact h.gn i' y h1
  · exfalso
    refine hno ?_
    have hlt:=(List.getElem?_eq_some_iff.1 h1).1
    rcases atC_cases x.ss sl gn with ⟨e0,hh⟩ | ⟨i',z,f1,f2,f3⟩
    · omega
    · have hi:i'=i:=by omega
      subst hi
      rw [h1] at f2
      obtain rfl:=Option.some.inj f2
      rcases f3 with ⟨_,f4⟩ | ⟨f3,_⟩
      · exact absurd ⟨h2,h3⟩ f4
      · exact f3
theorem Room.ps {x:St} {N u:Nat} {gm:Int} (h:Room x N u gm) (ps':List Pg):Room { x with ps:=ps' } N u gm:=⟨h.len,h.us,h.gn⟩
theorem Room.mono {x:St} {N u:Nat} {gm gm':Int} (h:Room x N u gm) (hg:gm≤gm'):Room x N u gm':=⟨h.len,h.us,fun j y hy=>by have:=h.gn j y hy;omega⟩
def Loose (x:St) (js:Nat→List Nat) (s g:Int) (R:Rc):Prop:=∃ (i:Nat) (y:Sl),s=(i:Int)+1∧x.ss[i]?=some y∧y.used=true∧y.gen=g∧y.R=R∧∀ p,i ∉ js p
structure Adv (x:St) (js:Nat→List Nat) (x':St) (js':Nat→List Nat) (q:Int):Prop where
  sl:∀ (j:Nat) (y:Sl),x.ss[j]?=some y→y.used=true→(j:Int)+1≠q→x'.ss[j]?=some y
  sf:∀ p,js p <:+ js' p
  nw:∀ p j,j ∈ js' p→j ∈ js p∨(j:Int)+1=q
theorem Adv.refl (x:St) (js:Nat→List Nat) (q:Int):Adv x js x js q:=⟨fun _ _ h _ _=>h,fun _=>List.suffix_refl _,fun _ _ h=>.inl h⟩
theorem Loose.adv {x x':St} {js js':Nat→List Nat} {s g q:Int} {R:Rc} (h:Loose x js s g R) (ha:Adv x js x' js' q) (hs:s≠q):Loose x' js' s g R:=by
  obtain ⟨i,y,rfl,h1,h2,h3,h4,h5⟩:=h
  exact ⟨i,y,rfl,ha.sl i y h1 h2 hs,h2,h3,h4,fun p hp=>(ha.nw p i hp).elim (h5 p) hs⟩
theorem Adv.links {x x':St} {js js':Nat→List Nat} {q:Int} (ha:Adv x js x' js' q) {d:List Nat} {s g:Int} (hl:Links x.ss d s g) (hq:∀ j ∈ d,(j:Int)+1≠q):Links x'.ss d s g∧d.map (recOf x'.ss)=d.map (recOf x.ss)∧d.map (refOf x'.ss)=d.map (refOf x.ss):=by
  refine Stn.same (J:=d) (fun j hj=>?_) d s g (fun _=>id) hl
  obtain ⟨y,h1,h2⟩:=links_used hl j hj
  rw [h1,ha.sl j y h1 h2 (hq j hj)]
theorem allocR_slot {last:Int} {x:St} {R:Rc} {sl gn:Int} {ss':List Sl} (ha:AllocR last x.ss R sl gn 0 ss'):∃ (i:Nat) (y:Sl),sl=(i:Int)+1∧ss'[i]?=some y∧y.used=true∧y.gen=gn∧y.R=R∧(∀ z,x.ss[i]?=some z→z.used=false)∧∀ j,j≠i→ss'[j]?=x.ss[j]?:=by
  rcases ha with ⟨i,y,vr,ve,h1,⟨h2,_⟩,_,rfl,rfl,_,rfl⟩ | ⟨_,_,_,hc,_⟩
  · exact ⟨i,_,rfl,by rw [List.getElem?_set_self (List.getElem?_eq_some_iff.1 h1).1],rfl,rfl,rfl,fun z hz=>by rw [h1] at hz;obtain rfl:=Option.some.inj hz;exact h2,fun j hj=>List.getElem?_set_ne (Ne.symm hj)⟩
  · exact absurd hc.symm (allocErr_pos _)
theorem adv_alloc {last:Int} {x:St} {js:Nat→List Nat} {R:Rc} {sl gn:Int} {ss':List Sl} (hjs:∀ p,∀ j ∈ js p,∃ y,x.ss[j]?=some y∧y.used=true) (ha:AllocR last x.ss R sl gn 0 ss') (q:Int):Adv x js { x with ss:=ss' } js q∧Loose { x with ss:=ss' } js sl gn R:=by
  obtain ⟨i,y,e1,e2,e3,e4,e5,e6,e7⟩:=allocR_slot ha
  refine ⟨⟨fun j z hz hu _=>?_,fun _=>List.suffix_refl _,fun _ _ h=>.inl h⟩,i,y,e1,e2,e3,e4,e5,fun p hp=>?_⟩
  · have hne:j≠i:=fun e=>by subst e;have:=e6 z hz;rw [hu] at this;cases this
    show ss'[j]?=_
    rw [e7 j hne]
    exact hz
  · obtain ⟨z,hz,hu⟩:=hjs p i hp
    have:=e6 z hz
    rw [hu] at this
    cases this
theorem adv_push {x:St} {js:Nat→List Nat} {s g:Int} {R:Rc} (h:Loose x js s g R) (ps':List Pg) (p:Nat):∃ i:Nat,s=(i:Int)+1∧Adv x js { x with ps:=ps' } (fun q=>if q=p then i :: js p else js q) s∧recOf x.ss i=R∧(∀ a b,R.nslot=a→R.ngen=b→Links x.ss (js p) a b→Links x.ss (i :: js p) s g)∧(∀ q,i ∉ js q):=by
  obtain ⟨i,y,e1,e2,e3,e4,e5,e6⟩:=h
  refine ⟨i,e1,⟨fun j z hz _ _=>hz,fun q=>?_,fun q j hj=>?_⟩,by unfold recOf;rw [slotD e2,e5],fun a b ha hb hl=>⟨e1,y,e2,e3,e4,by rw [e5,ha,hb];exact hl⟩,e6⟩
  · by_cases hq:q=p
    · subst hq;rw [if_pos rfl];exact List.suffix_cons _ _
    · rw [if_neg hq];exact List.suffix_refl _
  · by_cases hq:q=p
    · subst hq
      rw [if_pos rfl] at hj
      rcases List.mem_cons.1 hj with rfl | hj
      · exact .inr e1.symm
      · exact .inl hj
    · rw [if_neg hq] at hj;exact .inl hj
theorem adv_free {x:St} {js:Nat→List Nat} {s g c:Int} {R:Rc} {ss':List Sl} {N u:Nat} {gm:Int} (h:Loose x js s g R) (hr:Room x N u gm) (hf:FreeR x.ss s g c ss'):Adv x js { x with ss:=ss' } js s∧Room { x with ss:=ss' } N (u - 1) gm∧1≤u:=by
  obtain ⟨i,y,e1,e2,e3,e4,e5,e6⟩:=h
  obtain ⟨h1,h2,h3⟩:=hr.free e1 e2 e3 e4 hf
  refine ⟨⟨fun j z hz _ hq=>?_,fun _=>List.suffix_refl _,fun _ _ h=>.inl h⟩,h1,h2⟩
  show ss'[j]?=_
  rw [h3 j (fun e=>hq (by rw [e,e1]))]
  exact hz
open Go.RowKit

structure Cf where
  N:Nat
  last:Int
  i:Nat
  hs:Int
  hg:Int
  key:ByteArray
  low:ByteArray
  VG:Lw
  ok:List Rw→Prop
  Z:List Rc
  O:Nat→List Rc
  sp:Int→Prop
namespace Cf
def gone (c:Cf):Lw:={ c.VG with gone:=true }
def VP (c:Cf) (L:List Rw):Lw:=⟨c.low,c.key,false,(c.i:Int)+1,L,false⟩
def VQ (c:Cf) (L:List Rw):Lw:=⟨c.low,c.VG.high,c.VG.unb,c.VG.right,L ++ c.VG.rows,false⟩
def VS (c:Cf) (L:List Rw) (q:Int):Lw:=⟨c.low,c.key,false,q,L,false⟩
def Pre (c:Cf) (L:List Rw) (v:Option Lw):Prop:=v=some (c.VP L)
def Post (c:Cf) (L:List Rw) (v:Option Lw):Prop:=v=some (c.VQ L)∨∃ q,(q≠(c.i:Int)+1∧c.sp q)∧v=some (c.VS L q)
end Cf
structure CfOk (c:Cf):Prop where
  kz:SzOk c.key
  k1:inS c.low c.key false c.key=false
  k2:inS c.low c.VG.high c.VG.unb c.key=true
  ng:c.VG.gone=false
  rz:c.VG.rows.length≤400
  mg:∀ L,c.ok L→upL (c.VP L) (mergeR c.gone)=some (c.VQ L)
  pm:PRec (mergeR c.gone)
  i1:1≤c.i
def HK (c:Cf) (H:Hm):Prop:=H.n=0∧H.hs=c.hs∧H.hg=c.hg∧H.hp=(c.i:Int)+1∧H.hk=c.key∧H.left=(c.i:Int)
theorem HK.same {c:Cf} {H H':Hm} (h:HK c H) (hs:KSame H H'):HK c H':=by
  obtain ⟨h1,h2,h3,h4,h5,h6⟩:=h
  obtain ⟨e1,e2,e3,e4,_,e5,e6⟩:=hs
  exact ⟨e1.trans h1,e2.trans h2,e3.trans h3,e4.trans h4,e5.trans h5,e6.trans h6⟩
structure Wd (c:Cf) (Φ:Nat) (cur:List Rw) (x:St) (js:Nat→List Nat) (M:Nat):Prop where
  pg:∀ p,p≤M→∃ s g,x.ps[p]?=some (true,s,g)∧Links x.ss (js p) s g∧js p≠[]
  ou:∀ p,M < p→js p=[]
  iM:c.i+1≤M
  pr:∀ p,∀ j ∈ js p,PRec (recOf x.ss j)
  lf:∀ p,1≤p→p≤M→leafB ((js p).map (recOf x.ss))=true
  ln:∀ p,(js p).length≤20
  g0:∀ d,d≠[]→d <:+ js (c.i+1)→d≠js (c.i+1)→viewOf x.ss d=some c.VG
  g1:viewOf x.ss (js (c.i+1))=some (if Φ=0 then c.VG else c.gone)
  gl:(js (c.i+1)).length=if Φ=0 then 1 else 2
  p0:∀ d,d≠[]→d <:+ js c.i→(∃ L,c.ok L∧c.Pre L (viewOf x.ss d))∨(2≤Φ∧∃ L,c.Post L (viewOf x.ss d))
  p1:if Φ≤1 then c.Pre cur (viewOf x.ss (js c.i)) else c.Post cur (viewOf x.ss (js c.i))
  cu:c.ok cur
  h0:Φ < 3→x.ps[0]?=some (true,c.hs,c.hg)
  h3:Φ=3→∃ s g,x.ps[0]?=some (true,s,g)∧s≠c.hs
  z0:(js 0).map (recOf x.ss)=if Φ < 3 then c.Z else hang (kindC 11) c.hs c.hg :: c.Z
  ot:∀ p,1≤p→p≤M→p≠c.i→p≠c.i+1→(js p).map (recOf x.ss)=c.O p
  f3:Φ≤3
def JI (x:St) (js:Nat→List Nat) (R:Rc):Jst→Prop
  | .head=>True
  | .swap s g=>Loose x js s g R
  | .free s g=>Loose x js s g R
def Jst.isFree:Jst→Prop
  | .free _ _=>True
  | _=>False
def OnLd (x:St) (J:List Nat) (p:Nat) (d:List Nat) (s0 g0:Int):Prop:=(p=0→d=[]∧s0=0∧g0=0)∧(0 < p→Links x.ss d s0 g0∧d≠[]∧d <:+ J∧p≤d.length)
def HJ0 (c:Cf) (Φ:Nat) (x:St) (js:Nat→List Nat) (H:Hm) (page os og:Int) (R:Rc) (st:Jst):Prop:=
  page=(c.i:Int)+1∧R=hang (kindC 5) os og∧H.gone=c.gone∧(∃ d,Links x.ss d os og∧d≠[]∧d <:+ js (c.i+1)∧viewOf x.ss d=some c.VG)∧JI x js R st∧(st.isFree→1≤Φ)
def HJ1 (c:Cf) (Φ:Nat) (x:St) (js:Nat→List Nat) (H:Hm) (page os og:Int) (R:Rc) (st:Jst):Prop:=
  page=(c.i:Int)∧R=hang (mergeR c.gone) os og∧1≤Φ∧H.gone=c.gone∧x.ps[c.i+1]?=some (true,H.as_,H.ag)∧(∃ d L,Links x.ss d os og∧d≠[]∧d <:+ js c.i∧c.ok L∧c.Pre L (viewOf x.ss d))∧JI x js R st
def HJ2 (c:Cf) (Φ:Nat) (x:St) (js:Nat→List Nat) (H:Hm) (page os og:Int) (R:Rc) (st:Jst):Prop:=
  page=0∧os=c.hs∧og=c.hg∧R=hang (kindC 11) c.hs c.hg∧2≤Φ∧x.ps[c.i+1]?=some (true,H.as_,H.ag)∧JI x js R st∧(st.isFree→Φ=3)
def HJ (c:Cf) (Φ:Nat) (x:St) (js:Nat→List Nat) (H:Hm) (page os og:Int) (R:Rc) (st:Jst):Nat→Prop
  | 0=>HJ0 c Φ x js H page os og R st
  | 1=>HJ1 c Φ x js H page os og R st
  | 2=>HJ2 c Φ x js H page os og R st
  | _=>False
def HI (c:Cf) (Φ:Nat) (x:St) (js:Nat→List Nat) (H:Hm):Ps→Prop
  | .going p d s0 g0=>OnLd x (js (c.i+1)) p d s0 g0
  | .taking p d s0 g0=>1≤Φ∧H.gone=c.gone∧x.ps[c.i+1]?=some (true,H.as_,H.ag)∧OnLd x (js c.i) p d s0 g0
  | .job t page os og R st=>HJ c Φ x js H page os og R st t
  | .over _=>Φ=3∧x.ps[c.i+1]?=some (true,H.as_,H.ag)
def Ps.slot:Ps→Int
  | .job _ _ _ _ _ (.swap s _)=>s
  | .job _ _ _ _ _ (.free s _)=>s
  | _=>0
def Ps.cnt:Ps→Nat
  | .job _ _ _ _ _ (.swap _ _)=>1
  | .job _ _ _ _ _ (.free _ _)=>1
  | _=>0
structure Env13 (c:Cf) (Φ Φ':Nat) (x:St) (js:Nat→List Nat) (x':St) (js':Nat→List Nat) (q:Int):Prop where
  ad:Adv x js x' js' q
  le:Φ≤Φ'
  f3:Φ'≤3
  gp:1≤Φ→x'.ps[c.i+1]?=x.ps[c.i+1]?
  qn:∀ p,∀ j ∈ js p,(j:Int)+1≠q
theorem viewOf_same {ss ss':List Sl} {d:List Nat} (h:d.map (recOf ss')=d.map (recOf ss)):viewOf ss' d=viewOf ss d:=by unfold viewOf;rw [h]
section
variable {c:Cf} {Φ Φ':Nat} {x x':St} {js js':Nat→List Nat} {q:Int} {H:Hm}
theorem Env13.chain (e:Env13 c Φ Φ' x js x' js' q) {d:List Nat} {p:Nat} {s g:Int} (hl:Links x.ss d s g) (hd:d <:+ js p):Links x'.ss d s g∧d.map (recOf x'.ss)=d.map (recOf x.ss)∧d <:+ js' p:=by
  have:=e.ad.links hl (fun j hj=>e.qn p j (hd.subset hj))
  exact ⟨this.1,this.2.1,hd.trans (e.ad.sf p)⟩
theorem OnLd.env (e:Env13 c Φ Φ' x js x' js' q) {p:Nat} {k:Nat} {d:List Nat} {s0 g0:Int} (h:OnLd x (js p) k d s0 g0):OnLd x' (js' p) k d s0 g0:=by
  refine ⟨h.1,fun hk=>?_⟩
  obtain ⟨h1,h2,h3,h4⟩:=h.2 hk
  obtain ⟨k1,_,k3⟩:=e.chain h1 h3
  exact ⟨k1,h2,k3,h4⟩
theorem JI.env (e:Env13 c Φ Φ' x js x' js' q) {R:Rc} {st:Jst} {t:Nat} {page os og:Int} (h:JI x js R st) (hq:(Ps.job t page os og R st).slot≠q∨st=.head):JI x' js' R st:=by
  cases st with
  | head=>exact trivial
  | swap s g=>exact Loose.adv h e.ad (hq.elim id (fun e=>by cases e))
  | free s g=>exact Loose.adv h e.ad (hq.elim id (fun e=>by cases e))
theorem HI.env (e:Env13 c Φ Φ' x js x' js' q) {ph:Ps} (h:HI c Φ x js H ph) (hq:ph.slot≠q∨ph.cnt=0):HI c Φ' x' js' H ph:=by
  have hj:∀ {t:Nat} {page os og:Int} {R:Rc} {st:Jst},((Ps.job t page os og R st).slot≠q∨(Ps.job t page os og R st).cnt=0)→JI x js R st→JI x' js' R st:=fun {t page os og R st} hq hh=>by
    refine JI.env (t:=t) (page:=page) (os:=os) (og:=og) e hh ?_
    rcases hq with hq | hq
    · exact .inl hq
    · cases st with
      | head=>exact .inr rfl
      | swap s g=>simp [Ps.cnt] at hq
      | free s g=>simp [Ps.cnt] at hq
  have hgp:∀ {v:Pg},1≤Φ→x.ps[c.i+1]?=some v→x'.ps[c.i+1]?=some v:=fun h1 h2=>by rw [e.gp h1];exact h2
  have hle:=e.le
  have hf3:=e.f3
  cases ph with
  | going p d s0 g0=>exact OnLd.env e h
  | taking p d s0 g0=>exact ⟨Nat.le_trans h.1 hle,h.2.1,hgp h.1 h.2.2.1,OnLd.env e h.2.2.2⟩
  | job t page os og R st =>
    have hj':=fun hh=>hj (t:=t) (page:=page) (os:=os) (og:=og) (R:=R) (st:=st) hq hh
    match t,h with
    | 0,h =>
      obtain ⟨h1,h2,h3,⟨d,d1,d2,d3,d4⟩,h5,h6⟩:=(show HJ0 c Φ x js H page os og R st from h)
      obtain ⟨k1,k2,k3⟩:=e.chain d1 d3
      exact (show HJ0 c Φ' x' js' H page os og R st from ⟨h1,h2,h3,⟨d,k1,d2,k3,by rw [viewOf_same k2];exact d4⟩,hj' h5,fun hh=>Nat.le_trans (h6 hh) hle⟩)
    | 1,h =>
      obtain ⟨h1,h2,h3,h3b,h3c,⟨d,L,d1,d2,d3,d4,d5⟩,h5⟩:=(show HJ1 c Φ x js H page os og R st from h)
      obtain ⟨k1,k2,k3⟩:=e.chain d1 d3
      exact (show HJ1 c Φ' x' js' H page os og R st from ⟨h1,h2,Nat.le_trans h3 hle,h3b,hgp h3 h3c,⟨d,L,k1,d2,k3,d4,by rw [viewOf_same k2];exact d5⟩,hj' h5⟩)
    | 2,h =>
      obtain ⟨h1,h2,h3,h4,h5,h5b,h6,h7⟩:=(show HJ2 c Φ x js H page os og R st from h)
      exact (show HJ2 c Φ' x' js' H page os og R st from ⟨h1,h2,h3,h4,Nat.le_trans h5 hle,hgp (by omega) h5b,hj' h6,fun hh=>by have:=h7 hh;omega⟩)
    | t+3,h=>exact (show False from h).elim
  | over d=>exact ⟨by have:=h.1;omega,hgp (by have:=h.1;omega) h.2⟩
theorem links_ref {ss:List Sl} {js:List Nat} {s g s' g':Int} (hn:js≠[]) (h:Links ss js s g) (h':Links ss js s' g'):s=s'∧g=g':=by
  cases js with
  | nil=>exact absurd rfl hn
  | cons j r =>
    obtain ⟨e,y,h1,_,h3,_⟩:=h
    obtain ⟨e',y',h1',_,h3',_⟩:=h'
    rw [h1] at h1'
    obtain rfl:=Option.some.inj h1'
    exact ⟨by omega,h3.symm.trans h3'⟩
theorem sfx_all {ss:List Sl} {js d:List Nat} {s g:Int} (h:Links ss js s g) (h':Links ss d s g):d=js:=links_uniq h' h
theorem upL_hang (V:Lw) (R:Rc) (s g:Int):upL V (hang R s g)=upL V R:=rfl
theorem viewOf_cons {ss:List Sl} {i:Nat} {d:List Nat} (hd:d≠[]):viewOf ss (i :: d)=(viewOf ss d).bind fun V=>upL V (recOf ss i):=by
  unfold viewOf
  rw [List.map_cons]
  exact foldL_cons _ (by simpa using hd)
theorem leafB_cons {R:Rc} {l:List Rc} (h:l≠[]):leafB (R :: l)=leafB l:=by
  unfold leafB
  have hl:=List.length_pos_iff.2 h
  rw [show (R :: l).length - 1=(l.length - 1)+1 by simp;omega,List.getElem?_cons_succ]
theorem upL_remove {V:Lw} (h:V.gone=false) (R:Rc) (hk:R.kind=5):upL V R=some { V with gone:=true }:=by
  unfold upL
  rw [if_neg (by rw [h];decide),if_neg (by omega),if_neg (by omega),if_neg (by omega),if_neg (by omega),if_pos hk]
end
open Go.RowKit

theorem swap_used13 {ps:List Pg} {n a b c d:Int} {ok:Bool} {k:Int} {ps':List Pg} (h:SwapR ps n a b c d ok k ps') {i:Nat} {s g:Int} (hn:n=(i:Int)) (hi:ps[i]?=some (true,s,g)):k=0∧((ok=true∧s=a∧g=b∧ps'=ps.set i (true,c,d))∨(ok=false∧¬ (s=a∧g=b)∧ps'=ps)):=by
  subst hn
  rcases h with ⟨j,s',g',h1,h2,h3,h4,h5⟩ | ⟨h1,_⟩
  · obtain rfl:i=j:=by omega
    rw [hi] at h2
    injection Option.some.inj h2 with _ h6
    injection h6 with e1 e2
    subst e1
    subst e2
    refine ⟨h4,?_⟩
    by_cases hc:s=a∧g=b
    · exact .inl ⟨by rw [h3];simp [hc],hc.1,hc.2,by rw [h5,swapPs,if_pos hc]⟩
    · refine .inr ⟨?_,hc,by rw [h5,swapPs,if_neg hc]⟩
      rw [h3]
      cases hb:(s==a && g==b) with
      | false=>rfl
      | true=>simp at hb;exact absurd hb hc
  · exact absurd (pgC_used hi) h1
section
variable {c:Cf} {Φ:Nat} {cur:List Rw} {x:St} {js:Nat→List Nat} {M:Nat}
theorem Wd.used (h:Wd c Φ cur x js M):∀ p,∀ j ∈ js p,∃ y,x.ss[j]?=some y∧y.used=true:=fun p j hj=>by
  rcases Nat.lt_or_ge M p with hp | hp
  · rw [h.ou p hp] at hj;cases hj
  · obtain ⟨s,g,_,hl,_⟩:=h.pg p hp
    exact links_used hl j hj
theorem Wd.stand (h:Wd c Φ cur x js M) {ss':List Sl} (hs:∀ p,∀ j ∈ js p,ss'[j]?=x.ss[j]?):Wd c Φ cur { x with ss:=ss' } js M:=by
  have hst:∀ p d s g,d <:+ js p→Links x.ss d s g→Links ss' d s g∧d.map (recOf ss')=d.map (recOf x.ss):=fun p d s g hd hl=>by
    have:=Stn.same (J:=d) (fun j hj=>hs p j (hd.subset hj)) d s g (fun _=>id) hl
    exact ⟨this.1,this.2.1⟩
  have hmap:∀ p d,d <:+ js p→d.map (recOf ss')=d.map (recOf x.ss):=fun p d hd=>by
    rcases Nat.lt_or_ge M p with hp | hp
    · rw [h.ou p hp] at hd
      rw [List.suffix_nil.1 hd];rfl
    · obtain ⟨s,g,_,hl,_⟩:=h.pg p hp
      obtain ⟨s0,g0,hl0⟩:=links_sfx hl hd
      exact (hst p d s0 g0 hd hl0).2
  have hv:∀ p d,d <:+ js p→viewOf ss' d=viewOf x.ss d:=fun p d hd=>viewOf_same (hmap p d hd)
  have hrec:∀ p,∀ j ∈ js p,recOf ss' j=recOf x.ss j:=fun p j hj=>by
    unfold recOf
    rw [List.getD_eq_getElem?_getD,List.getD_eq_getElem?_getD,hs p j hj]
  refine ⟨fun p hp=>?_,h.ou,h.iM,fun p j hj=>?_,fun p h1 h2=>?_,h.ln,fun d h1 h2 h3=>?_,?_,h.gl,fun d h1 h2=>?_,?_,h.cu,h.h0,h.h3,?_,fun p h1 h2 h3 h4=>?_,h.f3⟩
  · obtain ⟨s,g,k1,k2,k3⟩:=h.pg p hp
    exact ⟨s,g,k1,(hst p _ s g (List.suffix_refl _) k2).1,k3⟩
  · show PRec (recOf ss' j);rw [hrec p j hj];exact h.pr p j hj
  · show leafB ((js p).map (recOf ss'))=true;rw [hmap p _ (List.suffix_refl _)];exact h.lf p h1 h2
  · show viewOf ss' d=_;rw [hv _ d h2];exact h.g0 d h1 h2 h3
  · show viewOf ss' _=_;rw [hv _ _ (List.suffix_refl _)];exact h.g1
  · show (∃ L,c.ok L∧c.Pre L (viewOf ss' d))∨(2≤Φ∧∃ L,c.Post L (viewOf ss' d));rw [hv _ d h2];exact h.p0 d h1 h2
  · show if Φ≤1 then c.Pre cur (viewOf ss' _) else c.Post cur (viewOf ss' _);rw [hv _ _ (List.suffix_refl _)];exact h.p1
  · show (js 0).map (recOf ss')=_;rw [hmap 0 _ (List.suffix_refl _)];exact h.z0
  · show (js p).map (recOf ss')=_;rw [hmap p _ (List.suffix_refl _)];exact h.ot p h1 h2 h3 h4
def pushJs (js:Nat→List Nat) (p i:Nat):Nat→List Nat:=fun q=>if q=p then i :: js p else js q
theorem push_at (js:Nat→List Nat) (p i:Nat):pushJs js p i p=i :: js p:=if_pos rfl
theorem push_ne (js:Nat→List Nat) {p q i:Nat} (h:q≠p):pushJs js p i q=js q:=if_neg h
structure Pushed (c:Cf) (x:St) (js:Nat→List Nat) (M p i:Nat) (s g a b:Int) (R:Rc):Prop where
  e:s=(i:Int)+1
  rc:recOf x.ss i=R
  li:Links x.ss (i :: js p) s g
  ni:∀ q,i ∉ js q
  ad:Adv x js { x with ps:=x.ps.set p (true,s,g) } (pushJs js p i) s
  pg:∀ q,q≤M→∃ s1 g1,(x.ps.set p (true,s,g))[q]?=some (true,s1,g1)∧Links x.ss (pushJs js p i q) s1 g1∧pushJs js p i q≠[]
theorem Wd.pushed (h:Wd c Φ cur x js M) {p:Nat} (hp:p≤M) {s g a b:Int} {R:Rc} (hl:Loose x js s g R) (hR:R.nslot=a∧R.ngen=b) (hh:x.ps[p]?=some (true,a,b)):∃ i,Pushed c x js M p i s g a b R:=by
  obtain ⟨i,e1,ad,rc,li,ni⟩:=adv_push hl (x.ps.set p (true,s,g)) p
  obtain ⟨s1,g1,k1,k2,k3⟩:=h.pg p hp
  rw [hh] at k1
  injection Option.some.inj k1 with _ k1
  injection k1 with e2 e3
  subst e2
  subst e3
  refine ⟨i,e1,rc,li a b hR.1 hR.2 k2,ni,ad,fun q hq=>?_⟩
  by_cases hqp:q=p
  · subst hqp
    exact ⟨s,g,by rw [List.getElem?_set_self (List.getElem?_eq_some_iff.1 hh).1],by rw [push_at];exact li a b hR.1 hR.2 k2,by rw [push_at];simp⟩
  · obtain ⟨s2,g2,q1,q2,q3⟩:=h.pg q hq
    exact ⟨s2,g2,by rw [List.getElem?_set_ne (Ne.symm hqp)];exact q1,by rw [push_ne js hqp];exact q2,by rw [push_ne js hqp];exact q3⟩
theorem Wd.envp (h:Wd c Φ cur x js M) {p i Φ':Nat} {s g a b:Int} {R:Rc} (P:Pushed c x js M p i s g a b R) (hle:Φ≤Φ') (hf:Φ'≤3) (hg:1≤Φ→p≠c.i+1):Env13 c Φ Φ' x js { x with ps:=x.ps.set p (true,s,g) } (pushJs js p i) s:=
  ⟨P.ad, hle, hf, fun hh => List.getElem?_set_ne (hg hh), fun q j hj e => P.ni q (by have := P.e; have hji : j = i := by omega
                                                                                     rw [← hji];exact hj)⟩
theorem push_pr (h:Wd c Φ cur x js M) {p i:Nat} {s g a b:Int} {R:Rc} (P:Pushed c x js M p i s g a b R) (hR:PRec R):∀ q,∀ j ∈ pushJs js p i q,PRec (recOf x.ss j):=fun q j hj=>by
  by_cases hq:q=p
  · subst hq
    rw [push_at] at hj
    rcases List.mem_cons.1 hj with rfl | hj
    · rw [P.rc];exact hR
    · exact h.pr q j hj
  · rw [push_ne js hq] at hj
    exact h.pr q j hj
theorem push_lf (h:Wd c Φ cur x js M) {p i:Nat} {s g a b:Int} {R:Rc} (P:Pushed c x js M p i s g a b R) (hp:p≤M):∀ q,1≤q→q≤M→leafB ((pushJs js p i q).map (recOf x.ss))=true:=fun q h1 h2=>by
  by_cases hq:q=p
  · subst hq
    obtain ⟨_,_,_,_,k3⟩:=h.pg q h2
    rw [push_at,List.map_cons,leafB_cons (by simpa using k3)]
    exact h.lf q h1 h2
  · rw [push_ne js hq]
    exact h.lf q h1 h2
theorem push_ou (h:Wd c Φ cur x js M) {p i:Nat} (hp:p≤M):∀ q,M < q→pushJs js p i q=[]:=fun q hq=>by rw [push_ne js (by omega)];exact h.ou q hq
theorem push_ln (h:Wd c Φ cur x js M) {p i:Nat} (hl:(js p).length+1≤20):∀ q,(pushJs js p i q).length≤20:=fun q=>by
  by_cases hq:q=p
  · subst hq;rw [push_at];simpa using hl
  · rw [push_ne js hq];exact h.ln q
theorem Wd.pushG (hc:CfOk c) (h:Wd c Φ cur x js M) {s g a b:Int} (hl:Loose x js s g (hang (kindC 5) a b)) (hh:x.ps[c.i+1]?=some (true,a,b)) {d:List Nat} (hd:Links x.ss d a b) (hv:viewOf x.ss d=some c.VG) (hpr:PRec (hang (kindC 5) a b)) :
    Φ=0∧∃ i,Pushed c x js M (c.i+1) i s g a b (hang (kindC 5) a b)∧Wd c 1 cur { x with ps:=x.ps.set (c.i+1) (true,s,g) } (pushJs js (c.i+1) i) M:=by
  obtain ⟨i,P⟩:=h.pushed h.iM hl ⟨rfl,rfl⟩ hh
  obtain ⟨s1,g1,k1,k2,k3⟩:=h.pg (c.i+1) h.iM
  rw [hh] at k1
  injection Option.some.inj k1 with _ k1
  injection k1 with e2 e3
  subst e2
  subst e3
  obtain rfl:=sfx_all k2 hd
  have hΦ:Φ=0:=by
    have:=h.g1
    rw [hv] at this
    by_cases h0:Φ=0
    · exact h0
    · rw [if_neg h0] at this
      have:=congrArg Lw.gone (Option.some.inj this)
      rw [hc.ng] at this
      cases this
  subst hΦ
  have hi1:=hc.i1
  have hv1:viewOf x.ss (i :: js (c.i+1))=some c.gone:=by
    rw [viewOf_cons k3,hv,P.rc]
    exact upL_remove hc.ng _ rfl
  have hgl:=h.gl
  rw [if_pos rfl] at hgl
  refine ⟨rfl,i,P,⟨P.pg,push_ou h h.iM,h.iM,push_pr h P hpr,push_lf h P h.iM,push_ln h (by omega),fun d h1 h2 h3=>?_,?_,?_,fun d h1 h2=>?_,?_,h.cu,fun _=>?_,fun e=>by omega,?_,fun p q1 q2 q3 q4=>?_,by omega⟩⟩
  · rw [push_at] at h2 h3
    rcases List.suffix_cons_iff.1 h2 with e | h2
    · exact absurd e h3
    · have hde:d=js (c.i+1):=by
        have hlen:=h2.length_le
        have hpos:=List.length_pos_iff.2 h1
        exact h2.eq_of_length (by omega)
      rw [hde];exact hv
  · rw [push_at];exact hv1
  · rw [push_at,if_neg (by omega)];simp;omega
  · rw [push_ne js (by omega)] at h2
    exact (h.p0 d h1 h2).elim .inl (fun e=>by have:=e.1;omega)
  · rw [if_pos (by omega),push_ne js (by omega)]
    have:=h.p1
    rw [if_pos (by omega)] at this
    exact this
  · show (x.ps.set (c.i+1) (true,s,g))[0]?=_
    rw [List.getElem?_set_ne (by omega)];exact h.h0 (by omega)
  · show (pushJs js (c.i+1) i 0).map (recOf x.ss)=_
    rw [push_ne js (by omega)]
    have:=h.z0
    rw [if_pos (by omega)] at this ⊢
    exact this
  · show (pushJs js (c.i+1) i p).map (recOf x.ss)=_
    rw [push_ne js q4];exact h.ot p q1 q2 q3 q4
theorem Wd.pushP (hc:CfOk c) (h:Wd c Φ cur x js M) (hΦ:1≤Φ) {s g a b:Int} (hl:Loose x js s g (hang (mergeR c.gone) a b)) (hh:x.ps[c.i]?=some (true,a,b)) {d:List Nat} {L:List Rw} (hd:Links x.ss d a b) (hok:c.ok L) (hv:c.Pre L (viewOf x.ss d)) (hln:(js c.i).length+1≤20) :
    Φ=1∧∃ i,Pushed c x js M c.i i s g a b (hang (mergeR c.gone) a b)∧Wd c 2 cur { x with ps:=x.ps.set c.i (true,s,g) } (pushJs js c.i i) M:=by
  have hM:=h.iM
  obtain ⟨i,P⟩:=h.pushed (p:=c.i) (by omega) hl ⟨rfl,rfl⟩ hh
  obtain ⟨s1,g1,k1,k2,k3⟩:=h.pg c.i (by omega)
  rw [hh] at k1
  injection Option.some.inj k1 with _ k1
  injection k1 with e2 e3
  subst e2
  subst e3
  obtain rfl:=sfx_all k2 hd
  have hΦ1:Φ=1:=by
    have:=h.p1
    by_cases h1:Φ≤1
    · omega
    · rw [if_neg h1] at this
      exfalso
      rw [show viewOf x.ss (js c.i)=some (c.VP L) from hv] at this
      rcases this with e | ⟨q,hq,e⟩
      · have hk:=congrArg (fun V=>inS V.low V.high V.unb c.key) (Option.some.inj e)
        have hk2:inS c.low c.key false c.key=inS c.low c.VG.high c.VG.unb c.key:=hk
        rw [hc.k1,hc.k2] at hk2
        cases hk2
      · have:=congrArg Lw.right (Option.some.inj e)
        exact hq.1 this.symm
  subst hΦ1
  have hcur:L=cur:=by
    have:=h.p1
    rw [if_pos (by omega)] at this
    have e:=hv.symm.trans this
    exact congrArg Lw.rows (Option.some.inj e)
  subst hcur
  have hi1:=hc.i1
  have hv1:viewOf x.ss (i :: js c.i)=some (c.VQ L):=by
    rw [viewOf_cons k3,show viewOf x.ss (js c.i)=some (c.VP L) from hv,P.rc]
    exact (upL_hang _ _ _ _).trans (hc.mg L hok)
  have hpr:PRec (hang (mergeR c.gone) a b):=⟨⟨hc.pm.ok.low,hc.pm.ok.high,hc.pm.ok.key,hc.pm.ok.hkey,hc.pm.ok.ents⟩,hc.pm.val,hc.pm.rows,hc.pm.zr,hc.pm.ze⟩
  refine ⟨rfl,i,P,⟨P.pg,push_ou h (by omega),h.iM,push_pr h P hpr,push_lf h P (by omega),push_ln h hln,fun d h1 h2 h3=>?_,?_,?_,fun d h1 h2=>?_,?_,h.cu,fun _=>?_,fun e=>by omega,?_,fun p q1 q2 q3 q4=>?_,by omega⟩⟩
  · rw [push_ne js (by omega)] at h2 h3
    exact h.g0 d h1 h2 h3
  · rw [push_ne js (by omega)]
    exact h.g1
  · rw [push_ne js (by omega)]
    exact h.gl
  · rw [push_at] at h2
    rcases List.suffix_cons_iff.1 h2 with e | h2
    · rw [e];exact .inr ⟨by omega,L,.inl hv1⟩
    · exact (h.p0 d h1 h2).elim .inl (fun e=>by have:=e.1;omega)
  · rw [if_neg (by omega),push_at]
    exact .inl hv1
  · show (x.ps.set c.i (true,s,g))[0]?=_
    rw [List.getElem?_set_ne (by omega)];exact h.h0 (by omega)
  · show (pushJs js c.i i 0).map (recOf x.ss)=_
    rw [push_ne js (by omega)]
    have:=h.z0
    rw [if_pos (by omega)] at this ⊢
    exact this
  · show (pushJs js c.i i p).map (recOf x.ss)=_
    rw [push_ne js q3];exact h.ot p q1 q2 q3 q4
theorem Wd.push0 (hc:CfOk c) (h:Wd c Φ cur x js M) (hΦ:2≤Φ) {s g:Int} (hl:Loose x js s g (hang (kindC 11) c.hs c.hg)) (hh:x.ps[0]?=some (true,c.hs,c.hg)) (hpr:PRec (hang (kindC 11) c.hs c.hg)) (hln:(js 0).length+1≤20) :
    Φ=2∧∃ i,Pushed c x js M 0 i s g c.hs c.hg (hang (kindC 11) c.hs c.hg)∧Wd c 3 cur { x with ps:=x.ps.set 0 (true,s,g) } (pushJs js 0 i) M:=by
  have hM:=h.iM
  have hi1:=hc.i1
  obtain ⟨i,P⟩:=h.pushed (p:=0) (by omega) hl ⟨rfl,rfl⟩ hh
  have hΦ2:Φ=2:=by
    have h3:=h.f3
    by_cases h2:Φ=3
    · obtain ⟨s1,g1,e1,e2⟩:=h.h3 h2
      rw [hh] at e1
      injection Option.some.inj e1 with _ e1
      injection e1 with e1 _
      exact absurd e1.symm e2
    · omega
  subst hΦ2
  obtain ⟨s1,g1,k1,k2,k3⟩:=h.pg 0 (by omega)
  rw [hh] at k1
  injection Option.some.inj k1 with _ k1
  injection k1 with e2 e3
  have hsne:s≠c.hs:=by
    rw [e2]
    cases hj:js 0 with
    | nil=>exact absurd hj k3
    | cons j r =>
      rw [hj] at k2
      obtain ⟨e4,_⟩:=k2
      have hne:i≠j:=fun e=>P.ni 0 (by rw [hj,e];simp)
      have:=P.e
      omega
  refine ⟨rfl,i,P,⟨P.pg,push_ou h (by omega),h.iM,push_pr h P hpr,push_lf h P (by omega),push_ln h hln,fun d h1 h2 h3=>?_,?_,?_,fun d h1 h2=>?_,?_,h.cu,fun e=>by omega,fun _=>⟨s,g,?_,hsne⟩,?_,fun p q1 q2 q3 q4=>?_,by omega⟩⟩
  · rw [push_ne js (by omega)] at h2 h3
    exact h.g0 d h1 h2 h3
  · rw [push_ne js (by omega)]
    exact h.g1
  · rw [push_ne js (by omega)]
    exact h.gl
  · rw [push_ne js (by omega)] at h2
    exact (h.p0 d h1 h2).elim .inl (fun e=>.inr ⟨by omega,e.2⟩)
  · rw [if_neg (by omega),push_ne js (by omega)]
    have:=h.p1
    rw [if_neg (by omega)] at this
    exact this
  · rw [List.getElem?_set_self (List.getElem?_eq_some_iff.1 hh).1]
  · show (pushJs js 0 i 0).map (recOf x.ss)=_
    rw [push_at,List.map_cons,P.rc]
    have:=h.z0
    rw [if_pos (by omega)] at this
    rw [if_neg (by omega),this]
  · show (pushJs js 0 i p).map (recOf x.ss)=_
    rw [push_ne js (by omega)];exact h.ot p q1 q2 q3 q4
end
open Go.RowKit

structure St13 (c:Cf) (Φ Φ':Nat) (cur:List Rw) (x x':St) (js js':Nat→List Nat) (M u:Nat) (gm:Int) (H':Hm) (ph ph':Ps):Prop where
  wd:Wd c Φ' cur x' js' M
  en:Env13 c Φ Φ' x js x' js' ph.slot
  hi:HI c Φ' x' js' H' ph'
  rm:∃ u',Room x' c.N u' (gm+1)∧u'+Φ+ph.cnt=u+Φ'+ph'.cnt
  nw:∀ s2 g2 R2,Loose x js s2 g2 R2→ph'.slot≠ph.slot→ph'.slot≠s2
  ov:(ph'=.over true→Φ=2∧Φ'=3)∧(Φ'=3→Φ≠3→ph'=.over true)
  pl:(js' c.i).length=(js c.i).length+if Φ≤1∧2≤Φ' then 1 else 0
  fp:Φ'=Φ∨(Φ'=Φ+1∧∃ page os og R s g,ph=.job Φ page os og R (.swap s g))
theorem loose_pos {x:St} {js:Nat→List Nat} {s g:Int} {R:Rc} (h:Loose x js s g R):1≤s:=by
  obtain ⟨i,_,e,_⟩:=h
  omega
theorem JI.swap {x:St} {js:Nat→List Nat} {R:Rc} {s g:Int} (h:JI x js R (.swap s g)):Loose x js s g R:=h
theorem prec_k (k s g:Int):PRec (hang (kindC k) s g):=⟨⟨SzOk.nil,SzOk.nil,SzOk.nil,SzOk.nil,⟨Nat.zero_le _,fun p hp=>by cases hp⟩⟩,SzOk.nil,⟨Nat.zero_le _,fun p hp=>by cases hp⟩,Nat.zero_le _,Nat.zero_le _⟩
section
variable {c:Cf} {Φ:Nat} {cur:List Rw} {x:St} {js:Nat→List Nat} {M u:Nat} {gm:Int} {H H':Hm}
theorem Env13.refl (h:Wd c Φ cur x js M) {q:Int} (hq:∀ p,∀ j ∈ js p,(j:Int)+1≠q):Env13 c Φ Φ x js x js q:=⟨Adv.refl _ _ _,Nat.le_refl _,h.f3,fun _=>rfl,hq⟩
theorem zero_q (js:Nat→List Nat):∀ p,∀ j ∈ js p,(j:Int)+1≠(0:Int):=fun _ _ _=>by omega
theorem same_pl {Φ:Nat} (n:Nat):n=n+if Φ≤1∧2≤Φ then 1 else 0:=by rw [if_neg (by omega)];rfl
theorem st13_still (hw:Wd c Φ cur x js M) (hr:Room x c.N u gm) {ph ph':Ps} (hi:HI c Φ x js H' ph') (h0:ph.slot=0) (h0':ph'.slot=0) (hc0:ph.cnt=0) (hc0':ph'.cnt=0) (ho:ph'≠.over true):St13 c Φ Φ cur x x js js M u gm H' ph ph':=by
  refine ⟨hw,?_,hi,⟨u,hr.mono (by omega),by omega⟩,fun _ _ _ hl _=>?_,⟨fun e=>absurd e ho,fun e e'=>absurd e e'⟩,same_pl _,.inl rfl⟩
  · rw [h0];exact Env13.refl hw (zero_q js)
  · rw [h0'];have:=loose_pos hl;omega
theorem loose_q {s g:Int} {R:Rc} (h:Loose x js s g R):∀ p,∀ j ∈ js p,(j:Int)+1≠s:=fun p j hj e=>by
  obtain ⟨i,_,e1,_,_,_,_,h5⟩:=h
  have hij:i=j:=by omega
  exact h5 p (by rw [hij];exact hj)
theorem onpage_at (hw:Wd c Φ cur x js M) {p:Nat} (hp:p≤M) {n:Int} (hn:n=(p:Int)) {d:List Nat} {s0 g0:Int} (h:OnPage x n d s0 g0):d=js p∧x.ps[p]?=some (true,s0,g0):=by
  obtain ⟨i,e1,e2⟩:=h.pg
  have hi:i=p:=by omega
  subst hi
  obtain ⟨s,g,k1,k2,k3⟩:=hw.pg i hp
  rw [e2] at k1
  injection Option.some.inj k1 with _ k1
  injection k1 with e3 e4
  subst e3
  subst e4
  exact ⟨links_uniq h.li k2,e2⟩
theorem head_of (hw:Wd c Φ cur x js M) {p:Nat} (hp:p≤M) {s g:Int} (h:Links x.ss (js p) s g):x.ps[p]?=some (true,s,g):=by
  obtain ⟨s',g',k1,k2,k3⟩:=hw.pg p hp
  obtain ⟨e1,e2⟩:=links_ref k3 h k2
  rw [e1,e2]
  exact k1
theorem step13_ld (hc:CfOk c) (hw:Wd c Φ cur x js M) (hr:Room x c.N u gm) (hk:HK c H) {ph ph':Ps} {G':Lw} {a' b':Int} {x':St} (hs:HStep c.last x H ph ph' G' a' b' x') (e1:H'.gone=G') (e2:H'.as_=a') (e3:H'.ag=b') (hi:HI c Φ x js H ph)
  (hld:∀ t page os og R st,ph≠.job t page os og R st):∃ Φ' js',St13 c Φ Φ' cur x x' js js' M u gm H' ph ph':=by
 obtain ⟨k1,k2,k3,k4,k5,k6⟩:=hk
 have hM:=hw.iM
 have hi1:=hc.i1
 cases hs with
 | g0 h =>
  obtain ⟨rfl,_⟩:=onpage_at hw hw.iM (by rw [k4];push_cast;rfl) h
  exact ⟨Φ,js,st13_still hw hr (show OnLd _ _ _ _ _ _ from ⟨fun e=>by omega,fun _=>⟨h.li,h.ne,List.suffix_refl _,List.length_pos_iff.2 h.ne⟩⟩) rfl rfl rfl rfl (by intro e;cases e)⟩
 | gn h0 h =>
  obtain ⟨q1,q2,q3,q4⟩:=(show OnLd _ _ _ _ _ _ from hi).2 h0
  exact ⟨Φ,js,st13_still hw hr (show OnLd _ _ _ _ _ _ from ⟨fun e=>by omega,fun _=>⟨q1,q2,q3,h⟩⟩) rfl rfl rfl rfl (by intro e;cases e)⟩
 | gF hv hg =>
  rename_i d V
  have hd0:0 < d.length:=by
   rcases Nat.eq_zero_or_pos d.length with e | e
   ·have:=List.eq_nil_of_length_eq_zero e
    subst this
    cases hv
   ·exact e
  obtain ⟨q1,q2,q3,q4⟩:=(show OnLd _ _ _ _ _ _ from hi).2 hd0
  have hde:d=js (c.i+1):=by
   by_cases hd:d=js (c.i+1)
   ·exact hd
   ·have:=hw.g0 d q2 q3 hd
    rw [hv] at this
    obtain rfl:=Option.some.inj this
    rw [hc.ng] at hg
    cases hg
  subst hde
  have hg1:=hw.g1
  rw [hv] at hg1
  have hΦ:1≤Φ:=by
   rcases Nat.eq_zero_or_pos Φ with e | e
   ·rw [if_pos e] at hg1
    obtain rfl:=Option.some.inj hg1
    rw [hc.ng] at hg
    cases hg
   ·exact e
  rw [if_neg (by omega)] at hg1
  obtain rfl:=Option.some.inj hg1
  refine ⟨Φ,js,st13_still hw hr (show 1≤Φ∧_ from ⟨hΦ,e1,?_,fun _=>⟨rfl,rfl,rfl⟩,fun e=>absurd e (Nat.lt_irrefl 0)⟩) rfl rfl rfl rfl (by intro e;cases e)⟩
  rw [e2,e3]
  exact head_of hw hw.iM q1
 | gP hv hg =>
  rename_i d V
  have hd0:0 < d.length:=by
   rcases Nat.eq_zero_or_pos d.length with e | e
   ·have:=List.eq_nil_of_length_eq_zero e
    subst this
    cases hv
   ·exact e
  obtain ⟨q1,q2,q3,q4⟩:=(show OnLd _ _ _ _ _ _ from hi).2 hd0
  have hV:V=c.VG:=by
   by_cases hd:d=js (c.i+1)
   ·have:=hw.g1
    rw [← hd,hv] at this
    by_cases e:Φ=0
    ·rw [if_pos e] at this
     exact Option.some.inj this
    ·rw [if_neg e] at this
     obtain rfl:=Option.some.inj this
     cases hg
   ·have:=hw.g0 d q2 q3 hd
    rw [hv] at this
    exact Option.some.inj this
  subst hV
  exact ⟨Φ,js,st13_still hw hr (show HJ0 c Φ x js H' _ _ _ _ _ from ⟨k4,rfl,e1,⟨d,q1,q2,q3,hv⟩,trivial,fun e=>e.elim⟩) rfl rfl rfl rfl (by intro e;cases e)⟩
 | t0 h =>
  obtain ⟨hΦ,hgo,hat,_⟩:=hi
  obtain ⟨rfl,_⟩:=onpage_at hw (p:=c.i) (by omega) k6 h
  exact ⟨Φ,js,st13_still hw hr (show 1≤Φ∧_ from ⟨hΦ,e1.trans hgo,by rw [e2,e3];exact hat,fun e=>by omega,fun _=>⟨h.li,h.ne,List.suffix_refl _,List.length_pos_iff.2 h.ne⟩⟩) rfl rfl rfl rfl (by intro e;cases e)⟩
 | tn h0 h =>
  obtain ⟨hΦ,hgo,hat,hol⟩:=hi
  obtain ⟨q1,q2,q3,q4⟩:=hol.2 h0
  exact ⟨Φ,js,st13_still hw hr (show 1≤Φ∧_ from ⟨hΦ,e1.trans hgo,by rw [e2,e3];exact hat,fun e=>by omega,fun _=>⟨q1,q2,q3,h⟩⟩) rfl rfl rfl rfl (by intro e;cases e)⟩
 | tD hv hd =>
  rename_i d s0 g0 V
  obtain ⟨hΦ,hgo,hat,hol⟩:=hi
  have hd0:0 < d.length:=by
   rcases Nat.eq_zero_or_pos d.length with e | e
   ·have:=List.eq_nil_of_length_eq_zero e
    subst this
    cases hv
   ·exact e
  obtain ⟨q1,q2,q3,q4⟩:=hol.2 hd0
  have h2:2≤Φ:=by
   rcases hw.p0 d q2 q3 with ⟨L,_,hp⟩ | ⟨h2,_⟩
   ·exfalso
    rw [show viewOf x.ss d=some (c.VP L) from hp] at hv
    obtain rfl:=Option.some.inj hv
    rcases hd with hd | ⟨_,_,_,hd⟩
    ·rw [k5] at hd
     have:inS c.low c.key false c.key=true:=hd
     rw [hc.k1] at this
     cases this
    ·exact hd (by rw [k4];rfl)
   ·exact h2
  exact ⟨Φ,js,st13_still hw hr (show HJ2 c Φ x js H' _ _ _ _ _ from ⟨k1,k2,k3,by rw [k2,k3],h2,by rw [e2,e3];exact hat,trivial,fun e=>e.elim⟩) rfl rfl rfl rfl (by intro e;cases e)⟩
 | tM hv hd =>
  rename_i d s0 g0 V
  obtain ⟨hΦ,hgo,hat,hol⟩:=hi
  have hd0:0 < d.length:=by
   rcases Nat.eq_zero_or_pos d.length with e | e
   ·have:=List.eq_nil_of_length_eq_zero e
    subst this
    cases hv
   ·exact e
  obtain ⟨q1,q2,q3,q4⟩:=hol.2 hd0
  have hpre:∃ L,c.ok L∧c.Pre L (viewOf x.ss d):=by
   rcases hw.p0 d q2 q3 with h | ⟨_,L,hp⟩
   ·exact h
   ·exfalso
    rcases hp with hp | ⟨q,hq,hp⟩
    ·rw [hp] at hv
     obtain rfl:=Option.some.inj hv
     have:=hd.1
     rw [k5] at this
     have h2:inS c.low c.VG.high c.VG.unb c.key=false:=this
     rw [hc.k2] at h2
     cases h2
    ·rw [hp] at hv
     obtain rfl:=Option.some.inj hv
     have:=hd.2.2.2
     rw [k4] at this
     exact hq.1 this
  obtain ⟨L,hL1,hL2⟩:=hpre
  exact ⟨Φ,js,st13_still hw hr (show HJ1 c Φ x js H' _ _ _ _ _ from ⟨k6,by rw [hgo],hΦ,e1.trans hgo,by rw [e2,e3];exact hat,⟨d,L,q1,q2,q3,hL1,hL2⟩,trivial⟩) rfl rfl rfl rfl (by intro e;cases e)⟩
 | jA ha=>exact absurd rfl (hld _ _ _ _ _ _)
 | jY hw'=>exact absurd rfl (hld _ _ _ _ _ _)
 | jN hw'=>exact absurd rfl (hld _ _ _ _ _ _)
 | jF hf=>exact absurd rfl (hld _ _ _ _ _ _)
end
open Go.RowKit

section
variable {c:Cf} {Φ:Nat} {cur:List Rw} {x:St} {js:Nat→List Nat} {M u:Nat} {gm:Int} {H H':Hm} {t:Nat} {page os og:Int} {R:Rc}
theorem HJ.turn {Φ':Nat} {x':St} {js':Nat→List Nat} {st st':Jst} (h:HJ c Φ' x' js' H page os og R st t) (e1:H'.gone=H.gone) (e2:H'.as_=H.as_) (e3:H'.ag=H.ag) (hj:JI x' js' R st') (h0:t=0→st'.isFree→1≤Φ') (h2:t=2→st'.isFree→Φ'=3):HJ c Φ' x' js' H' page os og R st' t:=by
  match t,h with
  | 0,h =>
    obtain ⟨a1,a2,a3,a4,a5,a6⟩:=(show HJ0 c Φ' x' js' H page os og R st from h)
    exact (show HJ0 c Φ' x' js' H' page os og R st' from ⟨a1,a2,e1.trans a3,a4,hj,h0 rfl⟩)
  | 1,h =>
    obtain ⟨a1,a2,a3,a4,a5,a6,a7⟩:=(show HJ1 c Φ' x' js' H page os og R st from h)
    exact (show HJ1 c Φ' x' js' H' page os og R st' from ⟨a1,a2,a3,e1.trans a4,by rw [e2,e3];exact a5,a6,hj⟩)
  | 2,h =>
    obtain ⟨a1,a2,a3,a4,a5,a6,a7,a8⟩:=(show HJ2 c Φ' x' js' H page os og R st from h)
    exact (show HJ2 c Φ' x' js' H' page os og R st' from ⟨a1,a2,a3,a4,a5,by rw [e2,e3];exact a6,hj,h2 rfl⟩)
  | t+3,h=>exact (show False from h).elim
theorem HJ.ji {st:Jst} (h:HJ c Φ x js H page os og R st t):JI x js R st:=by
  match t,h with
  | 0,h=>exact (show HJ0 c Φ x js H page os og R st from h).2.2.2.2.1
  | 1,h=>exact (show HJ1 c Φ x js H page os og R st from h).2.2.2.2.2.2
  | 2,h=>exact (show HJ2 c Φ x js H page os og R st from h).2.2.2.2.2.2.1
  | t+3,h=>exact (show False from h).elim
theorem ps_head {ps:List Pg} {p:Nat} {s g a b:Int} (h:ps[p]?=some (true,s,g)) (h':ps[p]?=some (true,a,b)):s=a∧g=b:=by
  rw [h] at h'
  injection Option.some.inj h' with _ h'
  injection h' with e1 e2
  exact ⟨e1,e2⟩
theorem step13_job (hc:CfOk c) (hw:Wd c Φ cur x js M) (hr:Room x c.N u gm) (hk:HK c H) (hl20:(js c.i).length+1≤20∧(js 0).length+1≤20) {st:Jst} {ph':Ps} {G':Lw} {a' b':Int} {x':St} (hs:HStep c.last x H (.job t page os og R st) ph' G' a' b' x') (e1:H'.gone=G') (e2:H'.as_=a') (e3:H'.ag=b') (hi:HJ c Φ x js H page os og R st t) :
  ∃ Φ' js',St13 c Φ Φ' cur x x' js js' M u gm H' (.job t page os og R st) ph':=by
 have hM:=hw.iM
 have hi1:=hc.i1
 have hk0:=hk
 obtain ⟨k1,k2,k3,k4,k5,k6⟩:=hk
 cases hs with
 | jA ha =>
  rename_i s g ss'
  obtain ⟨ad,hlo⟩:=adv_alloc hw.used ha 0
  have hsame:∀ p,∀ j ∈ js p,ss'[j]?=x.ss[j]?:=fun p j hj=>by
   obtain ⟨y,q1,q2⟩:=hw.used p j hj
   rw [q1]
   exact ad.sl j y q1 q2 (by omega)
  have hen:Env13 c Φ Φ x js { x with ss:=ss' } js 0:=⟨ad,Nat.le_refl _,hw.f3,fun _=>rfl,zero_q js⟩
  have hi':HJ c Φ { x with ss:=ss' } js H page os og R .head t:=HI.env (ph:=.job t page os og R .head) hen hi (.inr rfl)
  refine ⟨Φ,js,hw.stand hsame,hen,HJ.turn hi' e1 e2 e3 hlo (fun _ e=>e.elim) (fun _ e=>e.elim),⟨u+1,hr.alloc ha,by simp [Ps.cnt];omega⟩,fun s2 g2 R2 hl2 _=>?_,⟨(fun e=>by cases e),fun a b=>absurd a b⟩,same_pl _,.inl rfl⟩
  obtain ⟨i,y,q1,_,_,_,_,q6,_⟩:=allocR_slot ha
  obtain ⟨i2,y2,r1,r2,r3,_⟩:=hl2
  show s≠s2
  intro e
  have hii:i=i2:=by omega
  subst hii
  have:=q6 y2 r2
  rw [r3] at this
  cases this
 | jN hsw =>
  rename_i s g ps'
  have hps:ps'=x.ps∧(t=0→1≤Φ)∧(t=2→Φ=3):=by
   match t,hi with
   | 0,hi =>
    obtain ⟨a1,a2,a3,⟨d,d1,d2,d3,d4⟩,a5,a6⟩:=(show HJ0 c Φ x js H page os og R _ from hi)
    obtain ⟨s1,g1,q1,q2,q3⟩:=hw.pg (c.i+1) hw.iM
    obtain ⟨_,⟨r1,_⟩ | ⟨_,r2,r3⟩⟩:=swap_used13 hsw (i:=c.i+1) (by rw [a1];push_cast;rfl) q1
    ·cases r1
    ·refine ⟨r3,fun _=>?_,fun e=>by omega⟩
     rcases Nat.eq_zero_or_pos Φ with e | e
     ·exfalso
      have hgl:=hw.gl
      rw [if_pos e] at hgl
      have hde:d=js (c.i+1):=d3.eq_of_length (by have:=d3.length_le;have:=List.length_pos_iff.2 d2;omega)
      rw [hde] at d1
      exact r2 (links_ref q3 q2 d1)
     ·exact e
   | 1,hi =>
    obtain ⟨a1,a2,a3,a4,a5,a6,a7⟩:=(show HJ1 c Φ x js H page os og R _ from hi)
    obtain ⟨s1,g1,q1,q2,q3⟩:=hw.pg c.i (by omega)
    obtain ⟨_,⟨r1,_⟩ | ⟨_,r2,r3⟩⟩:=swap_used13 hsw (i:=c.i) a1 q1
    ·cases r1
    ·exact ⟨r3,fun e=>by omega,fun e=>by omega⟩
   | 2,hi =>
    obtain ⟨a1,a2,a3,a4,a5,a6,a7,a8⟩:=(show HJ2 c Φ x js H page os og R _ from hi)
    obtain ⟨s1,g1,q1,q2,q3⟩:=hw.pg 0 (by omega)
    obtain ⟨_,⟨r1,_⟩ | ⟨_,r2,r3⟩⟩:=swap_used13 hsw (i:=0) a1 q1
    ·cases r1
    ·refine ⟨r3,fun e=>by omega,fun _=>?_⟩
     have hf:=hw.f3
     by_cases h3:Φ < 3
     ·exfalso
      obtain ⟨e4,e5⟩:=ps_head q1 (hw.h0 h3)
      exact r2 ⟨e4.trans a2.symm,e5.trans a3.symm⟩
     ·omega
   | t+3,hi=>exact (show False from hi).elim
  obtain ⟨hps,h0,h2⟩:=hps
  have hxe:({ x with ps:=ps' }:St)=x:=by rw [hps]
  have hji:=hi.ji
  rw [hxe]
  refine ⟨Φ,js,hw,Env13.refl hw (loose_q hji.swap),HJ.turn hi e1 e2 e3 (show JI x js R (.free s g) from hji) (fun e _=>h0 e) (fun e _=>h2 e),⟨u,hr.mono (by omega),by simp [Ps.cnt]⟩,fun _ _ _ _ hne=>absurd rfl hne,⟨(fun e=>by cases e),fun a b=>absurd a b⟩,same_pl _,.inl rfl⟩
 | jF hf =>
  rename_i s g cc ss'
  have hlo:Loose x js s g R:=hi.ji
  obtain ⟨ad,hr',hu1⟩:=adv_free hlo hr hf
  have hsame:∀ p,∀ j ∈ js p,ss'[j]?=x.ss[j]?:=fun p j hj=>by
   obtain ⟨y,q1,q2⟩:=hw.used p j hj
   rw [q1]
   exact ad.sl j y q1 q2 (loose_q hlo p j hj)
  have hen:Env13 c Φ Φ x js { x with ss:=ss' } js s:=⟨ad,Nat.le_refl _,hw.f3,fun _=>rfl,loose_q hlo⟩
  match t,hi,e2,e3 with
  | 0,hi,e2,e3 =>
   exact ⟨Φ,js,hw.stand hsame,hen,(show OnLd _ _ _ _ _ _ from ⟨fun _=>⟨rfl,rfl,rfl⟩,fun e=>absurd e (Nat.lt_irrefl 0)⟩),⟨u - 1,hr'.mono (by omega),by simp [Ps.cnt,afterJ];omega⟩,fun s2 g2 R2 hl2 _=>by have:=loose_pos hl2;show (0:Int)≠s2;omega,⟨fun e=>by simp [afterJ] at e,fun a b=>absurd a b⟩,same_pl _,.inl rfl⟩
  | 1,hi,e2,e3 =>
   obtain ⟨a1,a2,a3,a4,a5,a6,a7⟩:=(show HJ1 c Φ x js H page os og R _ from hi)
   exact ⟨Φ,js,hw.stand hsame,hen,(show 1≤Φ∧_ from ⟨a3,e1.trans a4,by rw [e2,e3];exact a5,fun _=>⟨rfl,rfl,rfl⟩,fun e=>absurd e (Nat.lt_irrefl 0)⟩),⟨u - 1,hr'.mono (by omega),by simp [Ps.cnt,afterJ];omega⟩,fun s2 g2 R2 hl2 _=>by have:=loose_pos hl2;show (0:Int)≠s2;omega,⟨fun e=>by simp [afterJ] at e,fun a b=>absurd a b⟩,same_pl _,.inl rfl⟩
  | 2,hi,e2,e3 =>
   obtain ⟨a1,a2,a3,a4,a5,a6,a7,a8⟩:=(show HJ2 c Φ x js H page os og R _ from hi)
   exact ⟨Φ,js,hw.stand hsame,hen,(show Φ=3∧_ from ⟨a8 trivial,by rw [e2,e3];exact a6⟩),⟨u - 1,hr'.mono (by omega),by simp [Ps.cnt,afterJ];omega⟩,fun s2 g2 R2 hl2 _=>by have:=loose_pos hl2;show (0:Int)≠s2;omega,⟨fun e=>by simp [afterJ] at e,fun a b=>absurd a b⟩,same_pl _,.inl rfl⟩
  | t+3,hi,e2,e3=>exact (show False from hi).elim
 | jY hsw =>
  rename_i s g ps'
  match t,hi,e2,e3 with
  | 0,hi,e2,e3 =>
   obtain ⟨a1,a2,a3,⟨d,d1,d2,d3,d4⟩,a5,a6⟩:=(show HJ0 c Φ x js H page os og R _ from hi)
   obtain ⟨s1,g1,q1,q2,q3⟩:=hw.pg (c.i+1) hw.iM
   obtain ⟨_,⟨_,r1,r2,r3⟩ | ⟨r1,_⟩⟩:=swap_used13 hsw (i:=c.i+1) (by rw [a1];push_cast;rfl) q1
   ·subst r1
    subst r2
    subst r3
    subst a2
    obtain ⟨rfl,i,P,hw'⟩:=hw.pushG hc a5 q1 d1 d4 (prec_k 5 _ _)
    refine ⟨1,pushJs js (c.i+1) i,hw',hw.envp P (by omega) (by omega) (fun e=>by omega),(show 1≤1∧_ from ⟨by omega,e1.trans a3,?_,fun _=>⟨rfl,rfl,rfl⟩,fun e=>absurd e (Nat.lt_irrefl 0)⟩),⟨u,(hr.ps _).mono (by omega),by simp [Ps.cnt,afterJ]⟩,fun s2 g2 R2 hl2 _=>by have:=loose_pos hl2;show (0:Int)≠s2;omega,⟨fun e=>by simp [afterJ] at e,fun a b=>by omega⟩,by rw [push_ne js (by omega),if_neg (by omega)];rfl,.inr ⟨rfl,_,_,_,_,_,_,rfl⟩⟩
    rw [e2,e3]
    show (x.ps.set (c.i+1) (true,s,g))[c.i+1]?=some (true,s,g)
    rw [List.getElem?_set_self (List.getElem?_eq_some_iff.1 q1).1]
   ·cases r1
  | 1,hi,e2,e3 =>
   obtain ⟨a1,a2,a3,a4,a5,⟨d,L,d1,d2,d3,d4,d5⟩,a7⟩:=(show HJ1 c Φ x js H page os og R _ from hi)
   obtain ⟨s1,g1,q1,q2,q3⟩:=hw.pg c.i (by omega)
   obtain ⟨_,⟨_,r1,r2,r3⟩ | ⟨r1,_⟩⟩:=swap_used13 hsw (i:=c.i) a1 q1
   ·subst r1
    subst r2
    subst r3
    subst a2
    obtain ⟨rfl,i,P,hw'⟩:=hw.pushP hc a3 a7 q1 d1 d4 d5 hl20.1
    refine ⟨2,pushJs js c.i i,hw',hw.envp P (by omega) (by omega) (fun _=>by omega),(show HJ2 c 2 _ _ H' _ _ _ _ _ from ⟨k1,k2,k3,by rw [k2,k3],by omega,?_,trivial,fun e=>e.elim⟩),⟨u,(hr.ps _).mono (by omega),by simp [Ps.cnt,afterJ]⟩,fun s2 g2 R2 hl2 _=>by have:=loose_pos hl2;show (0:Int)≠s2;omega,⟨fun e=>by simp [afterJ] at e,fun a b=>by omega⟩,by rw [push_at,if_pos ⟨by omega,by omega⟩];rfl,.inr ⟨rfl,_,_,_,_,_,_,rfl⟩⟩
    rw [e2,e3]
    show (x.ps.set c.i (true,s,g))[c.i+1]?=some (true,H.as_,H.ag)
    rw [List.getElem?_set_ne (by omega)]
    exact a5
   ·cases r1
  | 2,hi,e2,e3 =>
   obtain ⟨a1,a2,a3,a4,a5,a6,a7,a8⟩:=(show HJ2 c Φ x js H page os og R _ from hi)
   obtain ⟨s1,g1,q1,q2,q3⟩:=hw.pg 0 (by omega)
   obtain ⟨_,⟨_,r1,r2,r3⟩ | ⟨r1,_⟩⟩:=swap_used13 hsw (i:=0) a1 q1
   ·subst r1
    subst r2
    subst r3
    subst a2
    subst a3
    subst a4
    obtain ⟨rfl,i,P,hw'⟩:=hw.push0 hc a5 a7 q1 (prec_k 11 _ _) hl20.2
    refine ⟨3,pushJs js 0 i,hw',hw.envp P (by omega) (by omega) (fun _=>by omega),(show 3=3∧_ from ⟨rfl,?_⟩),⟨u,(hr.ps _).mono (by omega),by simp [Ps.cnt,afterJ]⟩,fun s2 g2 R2 hl2 _=>by have:=loose_pos hl2;show (0:Int)≠s2;omega,⟨fun _=>⟨rfl,rfl⟩,fun _ _=>rfl⟩,by rw [push_ne js (by omega),if_neg (by omega)];rfl,.inr ⟨rfl,_,_,_,_,_,_,rfl⟩⟩
    rw [e2,e3]
    show (x.ps.set 0 (true,s,g))[c.i+1]?=some (true,H.as_,H.ag)
    rw [List.getElem?_set_ne (by omega)]
    exact a6
   ·cases r1
  | t+3,hi,e2,e3=>exact (show False from hi).elim
theorem step13 (hc:CfOk c) (hw:Wd c Φ cur x js M) (hr:Room x c.N u gm) (hk:HK c H) (hl20:(js c.i).length+1≤20∧(js 0).length+1≤20) {ph ph':Ps} {x':St} (hs:HStep c.last x H ph ph' H'.gone H'.as_ H'.ag x') (hi:HI c Φ x js H ph) :
    ∃ Φ' js',St13 c Φ Φ' cur x x' js js' M u gm H' ph ph':=by
  cases ph with
  | going p d s0 g0=>exact step13_ld hc hw hr hk hs rfl rfl rfl hi (fun _ _ _ _ _ _ e=>by cases e)
  | taking p d s0 g0=>exact step13_ld hc hw hr hk hs rfl rfl rfl hi (fun _ _ _ _ _ _ e=>by cases e)
  | job t page os og R st=>exact step13_job hc hw hr hk hl20 hs rfl rfl rfl hi
  | over d=>exact step13_ld hc hw hr hk hs rfl rfl rfl hi (fun _ _ _ _ _ _ e=>by cases e)
end
open Go.RowKit Go.BigFrame

section
variable {b0 m:Nat} {k:Int} {l:Lm} {x:St} {w:World} {h:Nat} {ph:Ps} {y:Hz}
structure Mid13 (b0 m:Nat) (k:Int) (l:Lm) (x x':St) (h:Nat) (ph:Ps) (y:Hz) (H1:Hm) (w w2:World):Prop where
  hp:HpB w2 h H1
  mm:Mm w2 m (k+1) l x'
  fr:Fr (hall m x h ph y) w w2
  gr:∃ A c,H1.gr=.slice A H1.gone.rows.length c∧LwIn 0 w2 H1.gone A c
  ov:H1.over=false
  ks:KSame y.H H1
  sa:SameA x x'
theorem Mid13.keep {x':St} {H1:Hm} {w2 w3:World} (M:Mid13 b0 m k l x x' h ph y H1 w w2) (hf:Fr none_ w2 w3):Mid13 b0 m k l x x' h ph y H1 w w3:=by
  obtain ⟨A,c,e1,e2⟩:=M.gr
  exact ⟨M.hp.fr hf id,M.mm.keep hf,M.fr.then_none hf,⟨A,c,e1,e2.keep hf⟩,M.ov,M.ks,M.sa⟩
theorem only_hall {w2 w3:World} (hf0:Fr (hall m x h ph y) w w2) (hf:Fr (only h) w2 w3):Fr (hall m x h ph y) w w3:=
  hf0.trans hf (fun _ _=>id) (fun q _ e=>.inr (.inl e))
theorem fin_see {x':St} {H1:Hm} {w2:World} {f:Value} {n:Int} {ph':Ps} {e:Ending} {w':World} (hH:Hlp x.ss b0 w h ph y) (hb0:b0≤w.heap.size) (M:Mid13 b0 m k l x x' h ph y H1 w w2) (hs:SeePost h H1 n f w2 e w')
    (hph:(ph'=.going 0 [] 0 0∧f=goingF h∧n=H1.hp)∨(ph'=.taking 0 [] 0 0∧f=takingF h∧n=H1.left)) (hst:HStep l.n x y.H ph ph' H1.gone H1.as_ H1.ag x'):HPost b0 m k l x h ph y w e w':=by
  obtain ⟨g,rfl,c1,c2,c3⟩:=hs
  obtain ⟨A,c,e1,e2⟩:=M.gr
  have hsz:=M.fr.size
  have hlw:LwIn 0 w' H1.gone A c:=e2.far M.hp (by decide) c3
  have hsub:HSub x'.ss b0 w' h ⟨{ H1 with lv:=.pointer (some ⟨g,0,none⟩),jv:=.pointer none,tv:=f },g,LdS.new n,y.i,y.B,y.a,y.bx⟩ ph':=by
    rcases hph with ⟨rfl,rfl,rfl⟩ | ⟨rfl,rfl,rfl⟩
    · exact ⟨M.ov,rfl,rfl,c2.base (by omega),LdPh.new _ _ _ _ _⟩
    · exact ⟨M.ov,rfl,rfl,c2.base (by omega),LdPh.new _ _ _ _ _⟩
  have hov:ph'.isOver=false:=by rcases hph with ⟨rfl,_,_⟩ | ⟨rfl,_,_⟩ <;> rfl
  refine ⟨ph',_,x',by rw [hov],hst,?_,⟨c1,⟨A,c,e1,hlw⟩,hH.hb,hsub⟩,M.mm.beside c3 M.hp (by decide) (by decide),only_hall M.fr c3,?_,M.sa⟩
  · exact M.ks
  · intro q hq
    rcases hq with rfl | hq
    · exact .inl (.inl rfl)
    · have hq':lfoot g (LdS.new n) q:=by rcases hph with ⟨rfl,_,_⟩ | ⟨rfl,_,_⟩ <;> exact hq
      rcases hq' with rfl | hq' | hq'
      · exact .inr (Nat.le_trans hsz c2.lb)
      · cases hq'
      · cases hq'
theorem fin_put {x':St} {H1:Hm} {w2:World} {t bx:Nat} {n s g:Int} {R:Rc} {e:Ending} {w':World} (hH:Hlp x.ss b0 w h ph y) (hb0:b0≤w.heap.size) (M:Mid13 b0 m k l x x' h ph y H1 w w2) (hs:PutPost13 h H1 n s g R (afterF bx t) w2 e w') (hx:Blk w' bx 41 #[.pointer (some ⟨h,0,none⟩)])
    (hst:HStep l.n x y.H ph (.job t n s g (hang R s g) .head) H1.gone H1.as_ H1.ag x'):HPost b0 m k l x h ph y w e w':=by
  obtain ⟨i,mv,vr,ve,rfl,c1,c2,c3⟩:=hs
  obtain ⟨A,c,e1,e2⟩:=M.gr
  have hsz:=M.fr.size
  have hlw:LwIn 0 w' H1.gone A c:=e2.far M.hp (by decide) c3
  refine ⟨_,⟨{ H1 with lv:=.pointer none,jv:=.pointer (some ⟨i,0,none⟩),fv:=afterF bx t },y.g,y.s,i,w2.heap.size,ia0 mv vr ve .nilIface,bx⟩,x',rfl,hst,M.ks,⟨c1,⟨A,c,e1,hlw⟩,hH.hb,⟨M.ov,rfl,rfl,rfl,c2,hx,Nat.le_trans hb0 hsz,c3.size⟩⟩,M.mm.beside c3 M.hp (by decide) (by decide),only_hall M.fr c3,?_,M.sa⟩
  intro q hq
  rcases hq with rfl | hq
  · exact .inl (.inl rfl)
  · exact .inr (Nat.le_trans hsz (c2.foot_le hq))
theorem lown_hall {g:Nat} (q:Nat) (hy:y.g=g) (hs:∀ q,lfoot y.g y.s q→sfoot y ph q) (e:lown m x g y.s q):hall m x h ph y q:=by
  subst hy
  rcases e with e | e
  · exact .inl e
  · exact .inr (.inr (hs q e))
theorem Lw.Ok.gone {V:Lw} (h:V.Ok) (b:Bool):Lw.Ok { V with gone:=b }:=⟨h.low,h.high,h.rows⟩
theorem LwIn.gone {b1:Nat} {w:World} {V:Lw} {A:Option Addr} {c:Nat} (h:LwIn b1 w V A c) (b:Bool):LwIn b1 w { V with gone:=b } A c:=⟨h.own,h.ok.gone b⟩
set_option maxHeartbeats 2000000 in
theorem hstep_going {p:Nat} {js:List Nat} {s0 g0:Int} (hH:Hlp x.ss b0 w h (.going p js s0 g0) y) (hM:Mm w m k l x) (hb:∀ i,mall m x i→i < b0) (h0:0≤k) (h1:k≤100000) (hbs:b0≤w.heap.size) (hok:Ok13 l x y.H (.going p js s0 g0)) :
  Calls Tryz.prog 18 #[.pointer (some ⟨h,0,none⟩),.pointer (some ⟨m,0,none⟩)] w (HPost b0 m k l x h (.going p js s0 g0) y w):=by
 have hs:LdSub x.ss b0 w y (goingF h) y.H.hp p js s0 g0:=hH.sub
 obtain ⟨⟨hz,hn⟩,hlast⟩:=hok
 rcases Nat.eq_zero_or_pos p with rfl | hp
 ·obtain ⟨rfl,rfl,rfl,js',s0',g0',ho,hls,h4⟩:=hz rfl
  refine hstep_load hH.b hs.1 hs.2.1 (ld_first hs.2.2.2.1 hs.2.2.2.2 hM hb h0 h1 ho hls h4) (fun w1 hr=>?_) (fun w1 hr=>?_) HPost.boolE
  ·obtain ⟨s',hbb,q1,q2,q3,q4,q5,q6⟩:=hH.ldR hM hs hr
   refine ⟨.going 1 js' s0' g0',{ y with s:=s' },x,rfl,.g0 ho,KSame.refl _,⟨q1,q2,hH.hb,q3⟩,q4,q5.mono (fun q _ e=>lown_hall q rfl (fun _=>id) e),?_,SameA.refl x⟩
   rintro q (rfl | hq)
   ·exact .inl (.inl rfl)
   ·exact (q6 q hq).elim (fun e=>.inl (.inr e)) .inr
  ·obtain ⟨s',hbb,_⟩:=hH.ldR hM hs hr
   have:=List.length_pos_iff.2 ho.ne
   simp at hbb
   omega
 ·obtain ⟨hli,hne,hls,h4,hle⟩:=hn hp
  refine hstep_load hH.b hs.1 hs.2.1 (ld_next hs.2.2.2.1 hs.2.2.2.2 hM hb h0 h1 hp hli hne hls h4 hle) (fun w1 hr=>?_) (fun w1 hr=>?_) HPost.boolE
  ·obtain ⟨s',hbb,q1,q2,q3,q4,q5,q6⟩:=hH.ldR hM hs hr
   have hlt:p < js.length:=by simp at hbb;omega
   refine ⟨.going (p+1) js s0 g0,{ y with s:=s' },x,rfl,.gn hp hlt,KSame.refl _,⟨q1,q2,hH.hb,q3⟩,q4,q5.mono (fun q _ e=>lown_hall q rfl (fun _=>id) e),?_,SameA.refl x⟩
   rintro q (rfl | hq)
   ·exact .inl (.inl rfl)
   ·exact (q6 q hq).elim (fun e=>.inl (.inr e)) .inr
  ·obtain ⟨s',hbb,q1,q2,q3,q4,q5,q6⟩:=hH.ldR hM hs hr
   have hpe:p=js.length:=by simpa using hbb
   subst hpe
   obtain ⟨V,hrec,hlf,hfl⟩:=hlast hp rfl
   have hsn:=q3.2.2.2.2.nn
   obtain ⟨hd1,hd2⟩:=q3.2.2.2.2.hd (by omega)
   refine loaded_go q1 q3.2.1 q3.2.2.1 (phL_page q3.2.2.2.1 q3.2.2.2.2 hrec h4 V hlf hfl) (fun w2 C nc xc D nr yc A c hf2 hv=>?_) HPost.boolE
   refine (going_ok s'.n s'.hs s'.hg C nc xc D nr yc V A c (q1.fr hf2 id)).mono ?_
   intro e w3 hp3
   rcases hp3 with ⟨hg,hsee⟩ | ⟨hg,bx,hput,hbx⟩
   ·obtain ⟨g,rfl,c1,c2,c3⟩:=hsee
    have hsz:=q5.size
    have hsz2:=hf2.size
    have hB2:=q1.fr hf2 id
    have hlw:LwIn 0 w3 { V with gone:=true } A c:=((hv.base (Nat.zero_le _)).far hB2 (by decide) c3).gone true
    have hall1:Fr (hall m x h (.going js.length js s0 g0) y) w w2:=(q5.mono (fun q _ e=>lown_hall q rfl (fun _=>id) e)).then_none hf2
    refine ⟨.taking 0 [] 0 0,⟨{ goH y.H V A c s'.hs s'.hg with lv:=.pointer (some ⟨g,0,none⟩),jv:=.pointer none,tv:=takingF h },g,LdS.new y.H.left,y.i,y.B,y.a,y.bx⟩,x,rfl,?_,KSame.refl _,⟨c1,⟨A,c,rfl,hlw⟩,hH.hb,⟨hs.1,rfl,rfl,c2.base (by omega),LdPh.new _ _ _ _ _⟩⟩,(q4.keep hf2).beside c3 hB2 (by decide) (by decide),only_hall hall1 c3,?_,SameA.refl x⟩
    ·show HStep _ _ _ _ _ _ s'.hs s'.hg _
     rw [hd1,hd2]
     exact .gF hfl hg
    ·rintro q (rfl | hq)
     ·exact .inl (.inl rfl)
     ·rcases hq with rfl | hq | hq
      ·exact .inr (Nat.le_trans hsz (Nat.le_trans hsz2 c2.lb))
      ·cases hq
      ·cases hq
   ·obtain ⟨i,mv,vr,ve,rfl,c1,c2,c3⟩:=hput
    have hsz:=q5.size
    have hsz2:=hf2.size
    have hB2:=q1.fr hf2 id
    have hlw:LwIn 0 w3 { V with gone:=true } A c:=((hv.base (Nat.zero_le _)).far hB2 (by decide) c3).gone true
    have hall1:Fr (hall m x h (.going js.length js s0 g0) y) w w2:=(q5.mono (fun q _ e=>lown_hall q rfl (fun _=>id) e)).then_none hf2
    rw [hsn,hd1,hd2] at c2
    refine ⟨.job 0 y.H.hp s0 g0 (hang (kindC 5) s0 g0) .head,⟨{ goH y.H V A c s'.hs s'.hg with lv:=.pointer none,jv:=.pointer (some ⟨i,0,none⟩),fv:=goneF bx },y.g,y.s,i,w2.heap.size,ia0 mv vr ve .nilIface,bx⟩,x,rfl,?_,KSame.refl _,⟨c1,⟨A,c,rfl,hlw⟩,hH.hb,⟨hs.1,rfl,rfl,rfl,c2,hbx,Nat.le_trans hbs (Nat.le_trans hsz hsz2),c3.size⟩⟩,(q4.keep hf2).beside c3 hB2 (by decide) (by decide),only_hall hall1 c3,?_,SameA.refl x⟩
    ·show HStep _ _ _ _ _ _ s'.hs s'.hg _
     rw [hd1,hd2]
     exact .gP hfl hg
    ·rintro q (rfl | hq)
     ·exact .inl (.inl rfl)
     ·exact .inr (by have:=c2.foot_le hq;omega)
set_option maxHeartbeats 2000000 in
theorem hstep_taking {p:Nat} {js:List Nat} {s0 g0:Int} (hH:Hlp x.ss b0 w h (.taking p js s0 g0) y) (hM:Mm w m k l x) (hb:∀ i,mall m x i→i < b0) (h0:0≤k) (h1:k≤100000) (hbs:b0≤w.heap.size) (hok:Ok13 l x y.H (.taking p js s0 g0)) :
  Calls Tryz.prog 18 #[.pointer (some ⟨h,0,none⟩),.pointer (some ⟨m,0,none⟩)] w (HPost b0 m k l x h (.taking p js s0 g0) y w):=by
 have hs:LdSub x.ss b0 w y (takingF h) y.H.left p js s0 g0:=hH.sub
 obtain ⟨⟨hz,hn⟩,hlast⟩:=hok
 rcases Nat.eq_zero_or_pos p with rfl | hp
 ·obtain ⟨rfl,rfl,rfl,js',s0',g0',ho,hls,h4⟩:=hz rfl
  refine hstep_load hH.b hs.1 hs.2.1 (ld_first hs.2.2.2.1 hs.2.2.2.2 hM hb h0 h1 ho hls h4) (fun w1 hr=>?_) (fun w1 hr=>?_) HPost.boolE
  ·obtain ⟨s',hbb,q1,q2,q3,q4,q5,q6⟩:=hH.ldR hM hs hr
   refine ⟨.taking 1 js' s0' g0',{ y with s:=s' },x,rfl,.t0 ho,KSame.refl _,⟨q1,q2,hH.hb,q3⟩,q4,q5.mono (fun q _ e=>lown_hall q rfl (fun _=>id) e),?_,SameA.refl x⟩
   rintro q (rfl | hq)
   ·exact .inl (.inl rfl)
   ·exact (q6 q hq).elim (fun e=>.inl (.inr e)) .inr
  ·obtain ⟨s',hbb,_⟩:=hH.ldR hM hs hr
   have:=List.length_pos_iff.2 ho.ne
   simp at hbb
   omega
 ·obtain ⟨hli,hne,hls,h4,hle⟩:=hn hp
  refine hstep_load hH.b hs.1 hs.2.1 (ld_next hs.2.2.2.1 hs.2.2.2.2 hM hb h0 h1 hp hli hne hls h4 hle) (fun w1 hr=>?_) (fun w1 hr=>?_) HPost.boolE
  ·obtain ⟨s',hbb,q1,q2,q3,q4,q5,q6⟩:=hH.ldR hM hs hr
   have hlt:p < js.length:=by simp at hbb;omega
   refine ⟨.taking (p+1) js s0 g0,{ y with s:=s' },x,rfl,.tn hp hlt,KSame.refl _,⟨q1,q2,hH.hb,q3⟩,q4,q5.mono (fun q _ e=>lown_hall q rfl (fun _=>id) e),?_,SameA.refl x⟩
   rintro q (rfl | hq)
   ·exact .inl (.inl rfl)
   ·exact (q6 q hq).elim (fun e=>.inl (.inr e)) .inr
  ·obtain ⟨s',hbb,q1,q2,q3,q4,q5,q6⟩:=hH.ldR hM hs hr
   have hpe:p=js.length:=by simpa using hbb
   subst hpe
   obtain ⟨V,⟨hrec,hlf,hfl⟩,hng,hzk,hdec⟩:=hlast hp rfl
   have hsn:=q3.2.2.2.2.nn
   obtain ⟨hd1,hd2⟩:=q3.2.2.2.2.hd (by omega)
   refine loaded_ta q1 q3.2.1 q3.2.2.1 (phL_page q3.2.2.2.1 q3.2.2.2.2 hrec h4 V hlf hfl) (fun w2 C nc xc D nr yc A c hf2 hv=>?_) HPost.boolE
   have M2:Mid13 b0 m k l x x h (.taking js.length js s0 g0) y y.H w w2:=by
    refine Mid13.keep (w2:=w1) ⟨q1,q4,q5.mono (fun q _ e=>lown_hall q rfl (fun _=>id) e),q2,hs.1,KSame.refl _,SameA.refl x⟩ hf2
   have hlo:SzOk V.low∧SzOk V.high∧SzOk y.H.hk:=⟨hv.ok.low,hv.ok.high,hzk⟩
   rcases hdec with (hin | ⟨hin,e1,e2,e3⟩) | ⟨⟨hin,e1,e2,e3⟩,hgg,hgz⟩
   ·refine (taking_has s'.n s'.hs s'.hg C nc xc D nr yc V A c M2.hp hng hlo hin).mono ?_
    rintro e w3 ⟨bx,hput,hbx⟩
    exact fin_put (t:=2) (R:=kindC 11) hH hbs M2 hput hbx (.tD hfl (.inl hin))
   ·refine (taking_split s'.n s'.hs s'.hg C nc xc D nr yc V A c M2.hp hng hlo hin ⟨e1,e2,e3⟩).mono ?_
    rintro e w3 ⟨bx,hput,hbx⟩
    exact fin_put (t:=2) (R:=kindC 11) hH hbs M2 hput hbx (.tD hfl (.inr ⟨hin,e1,e2,e3⟩))
   ·obtain ⟨Ag,cg,hgr,hgv⟩:=M2.gr
    refine (taking_merge s'.n s'.hs s'.hg C nc xc D nr yc V A c M2.hp hng hlo hin ⟨e1,e2,e3⟩ 0 Ag cg hgr hgg hgv hgz).mono ?_
    rintro e w3 ⟨bx,hput,hbx⟩
    rw [hsn,hd1,hd2] at hput
    exact fin_put (t:=1) (R:=mergeR y.H.gone) hH hbs M2 hput hbx (.tM hfl ⟨hin,e1,e2,e3⟩)
end
open Go.RowKit Go.BigFrame

section
variable {b0 m:Nat} {k:Int} {l:Lm} {x:St} {w:World} {h:Nat} {ph:Ps} {y:Hz} {t:Nat} {page os og:Int} {R:Rc} {st:Jst}
def JobR (m:Nat) (k:Int) (l:Lm) (x:St) (page os og:Int) (R:Rc) (st:Jst) (y:Hz) (w:World) (b:Bool) (w1:World):Prop:=
  ∃ x' a',Mm w1 m (k+1) l x'∧SameA x x'∧Fr (mf m x y.i y.a) w w1∧FootLe y.i y.a a' w ∧
    ((b=false∧∃ st',Inst w1 y.B y.i (djob page os og R st') a'∧((∃ s g ss',st=.head∧AllocR l.n x.ss R s g 0 ss'∧st'=.swap s g∧x'={ x with ss:=ss' })∨(∃ s g ps',st=.swap s g∧SwapR x.ps page os og s g false 0 ps'∧st'=.free s g∧x'={ x with ps:=ps' }))) ∨
     (b=true∧∃ D,Inst w1 y.B y.i D a'∧D.stage=7∧D.err=0∧((∃ s g ps',D.done=true∧D.refs=[(s,g)]∧st=.swap s g∧SwapR x.ps page os og s g true 0 ps'∧x'={ x with ps:=ps' })∨(∃ s g c ss',D.done=false∧st=.free s g∧FreeR x.ss s g c ss'∧x'={ x with ss:=ss' }))))
theorem job_step (hI:Inst w y.B y.i (djob page os og R st) y.a) (hM:Mm w m k l x) (h0:0≤k) (h1:k≤100000) (hB:y.B≤w.heap.size)
    (ha:∀ sl gn c ss',st=.head→AllocR l.n x.ss R sl gn c ss'→c=0) (hw:∀ s g ok c ps',st=.swap s g→SwapR x.ps page os og s g ok c ps'→c=0) :
    Calls Tryz.prog 47 #[.pointer (some ⟨y.i,0,none⟩),.pointer (some ⟨m,0,none⟩)] w fun e w1=>∃ b,e=.returned (.bool b)∧JobR m k l x page os og R st y w b w1:=by
  cases st with
  | head =>
    refine (step_fwd hI (by simp [djob]) (by simp [djob]) (by simp [djob]) (fwd3 hI hM h0 h1 rfl (by simp [djob]) hB) (fun e w' hh=>by obtain ⟨_,_,_,_,_,hh,_⟩:=hh;exact ⟨_,hh⟩)).mono ?_
    rintro e w1 ⟨sl,gn,kk,ss',a',rfl,hA,hM1,hI1,hf,hfl,hsm⟩
    obtain rfl:=ha sl gn kk ss' rfl hA
    have e1:fwd3D (djob page os og R .head) 0 sl gn=djob page os og R (.swap sl gn):=by simp [fwd3D,djob]
    rw [e1] at hI1 ⊢
    exact ⟨false,rfl,_,a',hM1,⟨rfl,rfl,rfl,rfl,rfl,rfl⟩,hf,hfl,.inl ⟨rfl,_,hI1,.inl ⟨sl,gn,ss',rfl,hA,rfl,rfl⟩⟩⟩
  | swap s g =>
    refine (step_fwd hI (by simp [djob]) (by simp [djob]) (by simp [djob]) (fwd4 hI hM h0 h1 rfl (j:=0) (s:=s) (g:=g) (by simp [djob]) (by simp [djob])) (fun e w' hh=>by obtain ⟨_,_,_,_,hh,_⟩:=hh;exact ⟨_,hh⟩)).mono ?_
    rintro e w1 ⟨ok,c,ps',a',rfl,hA,hM1,hI1,hf,hfl,hsm⟩
    obtain rfl:=hw s g ok c ps' rfl hA
    cases ok with
    | true =>
      have e1:fwd4D (djob page os og R (.swap s g)) true 0=⟨page,os,og,0,7,[],[],R,[(s,g)],0,true,0⟩:=by simp [fwd4D,djob]
      rw [e1] at hI1 ⊢
      exact ⟨true,rfl,_,a',hM1,⟨rfl,rfl,rfl,rfl,rfl,rfl⟩,hf,hfl,.inr ⟨rfl,_,hI1,rfl,rfl,.inl ⟨s,g,ps',rfl,rfl,rfl,hA,rfl⟩⟩⟩
    | false =>
      have e1:fwd4D (djob page os og R (.swap s g)) false 0=djob page os og R (.free s g):=by simp [fwd4D,undoD,djob]
      rw [e1] at hI1 ⊢
      exact ⟨false,rfl,_,a',hM1,⟨rfl,rfl,rfl,rfl,rfl,rfl⟩,hf,hfl,.inl ⟨rfl,_,hI1,.inr ⟨s,g,ps',rfl,hA,rfl,rfl⟩⟩⟩
  | free s g =>
    refine (stepFreeP hI hM h0 h1 rfl rfl rfl).mono ?_
    rintro e w1 ⟨c,ss',a',rfl,hA,hI1,hM1,hf,hfl,hsm⟩
    exact ⟨true,rfl,_,a',hM1,⟨rfl,rfl,rfl,rfl,rfl,rfl⟩,hf,hfl,.inr ⟨rfl,_,hI1,rfl,rfl,.inr ⟨s,g,c,ss',rfl,rfl,hA,rfl⟩⟩⟩
theorem Er.none_ {w:World} {v:Value} (h:Er w v 0):v=.nilIface:=by
  rcases h with h | ⟨p,s,⟨_,h⟩ | ⟨h,_⟩⟩
  · exact h
  · exact h
  · exact absurd rfl h
theorem mf_ty {B i:Nat} {D:Dt} {a:Ia} (hM:Mm w m k l x) (hI:Inst w B i D a) {q:Nat} {t:TypeId} {cs:Array Value} (hq:Blk w q t cs) (hn:t≠111∧t≠164∧t≠155∧t≠179) (h2:t≠147∧t≠3∧t≠51∧t≠36):¬ mf m x i a q:=by
  rintro (e | e)
  · exact hM.mall_ty hq hn e
  · obtain ⟨t',cs',hb,ht⟩:=hI.foot_blk e
    obtain ⟨rfl,_⟩:=hb.uniq hq
    rcases ht with e | e | e | e
    · exact h2.1 e
    · exact h2.2.1 e
    · exact h2.2.2.1 e
    · exact h2.2.2.2 e
def JobQ (m:Nat) (k:Int) (l:Lm) (x:St) (h t:Nat) (page os og:Int) (R:Rc) (st:Jst) (y:Hz) (w:World) (ok:Bool) (w2:World):Prop:=
  ∃ x' a' D,Mid13 0 m k l x x' h (.job t page os og R st) y y.H w w2∧Inst w2 y.B y.i D a'∧D.done=ok∧Blk w2 y.bx 41 #[.pointer (some ⟨h,0,none⟩)] ∧
    ((ok=true∧∃ s g ps',D.refs=[(s,g)]∧st=.swap s g∧SwapR x.ps page os og s g true 0 ps'∧x'={ x with ps:=ps' })∨(ok=false∧∃ s g c ss',st=.free s g∧FreeR x.ss s g c ss'∧x'={ x with ss:=ss' }))
theorem Mid13.any0 {x':St} {H1:Hm} {w2:World} {c0 c1:Nat} (M:Mid13 c0 m k l x x' h ph y H1 w w2):Mid13 c1 m k l x x' h ph y H1 w w2:=⟨M.hp,M.mm,M.fr,M.gr,M.ov,M.ks,M.sa⟩
theorem jobR_mid (hH:Hlp x.ss b0 w h (.job t page os og R st) y) (hM:Mm w m k l x) {b:Bool} {w1:World} (hr:JobR m k l x page os og R st y w b w1) :
    ∃ x' a',Mid13 0 m k l x x' h (.job t page os og R st) y y.H w w1∧Blk w1 y.bx 41 #[.pointer (some ⟨h,0,none⟩)]∧FootLe y.i y.a a' w ∧
    ((b=false∧∃ st',Inst w1 y.B y.i (djob page os og R st') a'∧((∃ s g ss',st=.head∧AllocR l.n x.ss R s g 0 ss'∧st'=.swap s g∧x'={ x with ss:=ss' })∨(∃ s g ps',st=.swap s g∧SwapR x.ps page os og s g false 0 ps'∧st'=.free s g∧x'={ x with ps:=ps' }))) ∨
     (b=true∧∃ D,Inst w1 y.B y.i D a'∧D.stage=7∧D.err=0∧((∃ s g ps',D.done=true∧D.refs=[(s,g)]∧st=.swap s g∧SwapR x.ps page os og s g true 0 ps'∧x'={ x with ps:=ps' })∨(∃ s g c ss',D.done=false∧st=.free s g∧FreeR x.ss s g c ss'∧x'={ x with ss:=ss' })))):=by
  obtain ⟨x',a',q1,q2,q3,q4,q5⟩:=hr
  obtain ⟨a1,a2,a3,a4,a5,a6,a7,a8⟩:=hH.sub
  obtain ⟨A,c,e1,e2⟩:=hH.gr
  exact ⟨x',a',⟨hH.b.fr q3 (mf_ty hM a5 hH.b (by decide) (by decide)),q1,q3.mono (fun q _ e=>e.elim .inl (fun e=>.inr (.inr e))),⟨A,c,e1,e2.off q3 (fun q cs hq=>mf_ty hM a5 hq (by decide) (by decide))⟩,a1,KSame.refl _,q2⟩,a6.fr q3 (mf_ty hM a5 a6 (by decide) (by decide)),q4,q5⟩
theorem job_more (hH:Hlp x.ss b0 w h (.job t page os og R st) y) (hM:Mm w m k l x) {w1:World} (hr:JobR m k l x page os og R st y w false w1):HPost b0 m k l x h (.job t page os og R st) y w (.returned (.bool false)) w1:=by
  obtain ⟨x',a',M,hbx,hfl,⟨_,st',hI,hc⟩ | ⟨hb,_⟩⟩:=jobR_mid hH hM hr
  · obtain ⟨a1,a2,a3,a4,a5,a6,a7,a8⟩:=hH.sub
    have hfoot:∀ q,hfoot h (.job t page os og R st') { y with a:=a' } q→hfoot h (.job t page os og R st) y q∨w.heap.size≤q:=by
      rintro q (rfl | hq)
      · exact .inl (.inl rfl)
      · exact (hfl q hq).elim (fun e=>.inl (.inr e)) .inr
    have hsz:=M.fr.size
    refine ⟨.job t page os og R st',{ y with a:=a' },x',rfl,?_,KSame.refl _,⟨M.hp,M.gr,hH.hb,⟨a1,a2,a3,a4,hI,hbx,a7,Nat.le_trans a8 hsz⟩⟩,M.mm,M.fr,hfoot,M.sa⟩
    rcases hc with ⟨s,g,ss',rfl,hA,rfl,rfl⟩ | ⟨s,g,ps',rfl,hA,rfl,rfl⟩
    · exact .jA hA
    · exact .jN hA
  · cases hb
theorem job_done (hH:Hlp x.ss b0 w h (.job t page os og R st) y) (hM:Mm w m k l x) {w1:World} (hr:JobR m k l x page os og R st y w true w1) :
    Calls Tryz.prog 48 #[.pointer (some ⟨y.i,0,none⟩)] w1 fun e w2=>∃ ok,e=.returned (.tuple #[.bool ok,.nilIface])∧JobQ m k l x h t page os og R st y w ok w2:=by
  obtain ⟨x',a',M,hbx,hfl,⟨hb,_⟩ | ⟨_,D,hI,h7,he,hc⟩⟩:=jobR_mid hH hM hr
  · cases hb
  · refine (done_ok hI h7).mono ?_
    rintro e w2 ⟨rfl,hf⟩
    have hev:a'.ev=.nilIface:=Er.none_ (by have:=hI.e;rw [he] at this;exact this)
    rw [hev]
    refine ⟨D.done,rfl,x',a',D,M.keep hf,hI.keep hf,rfl,hbx.fr hf id,?_⟩
    rcases hc with ⟨s,g,ps',e1,e2,e3,e4,e5⟩ | ⟨s,g,c,ss',e1,e2,e3,e4⟩
    · exact .inl ⟨e1,s,g,ps',e2,e3,e4,e5⟩
    · exact .inr ⟨e1,s,g,c,ss',e2,e3,e4⟩
theorem fin_over {x':St} {w2 w3:World} {ok:Bool} (hH:Hlp x.ss b0 w h ph y) (M:Mid13 0 m k l x x' h ph y y.H w w2) (hb:HpB w3 h { y.H with over:=true,done:=ok,ev:=.nilIface }) (hf:Fr (only h) w2 w3) (hst:HStep l.n x y.H ph (.over ok) y.H.gone y.H.as_ y.H.ag x'):HPost b0 m k l x h ph y w (.returned (.bool true)) w3:=by
  obtain ⟨A,c,e1,e2⟩:=M.gr
  refine ⟨.over ok,{ y with H:={ y.H with over:=true,done:=ok,ev:=.nilIface } },x',rfl,hst,KSame.refl _,⟨hb,⟨A,c,e1,e2.far M.hp (by decide) hf⟩,hH.hb,⟨rfl,rfl,rfl⟩⟩,M.mm.beside hf M.hp (by decide) (by decide),only_hall M.fr hf,?_,M.sa⟩
  rintro q (rfl | hq)
  · exact .inl (.inl rfl)
  · exact hq.elim
set_option maxHeartbeats 8000000 in
theorem hstep_job (hH:Hlp x.ss b0 w h (.job t page os og R st) y) (hM:Mm w m k l x) (h0:0≤k) (h1:k≤100000) (hbs:b0≤w.heap.size) (hok:Ok13 l x y.H (.job t page os og R st)) :
  Calls Tryz.prog 18 #[.pointer (some ⟨h,0,none⟩),.pointer (some ⟨m,0,none⟩)] w (HPost b0 m k l x h (.job t page os og R st) y w):=by
 obtain ⟨a1,a2,a3,a4,a5,a6,a7,a8⟩:=hH.sub
 obtain ⟨ht,hal,hsw⟩:=hok
 have hst:=job_step a5 hM h0 h1 a8 hal hsw
 have hk:∀ w1,JobR m k l x page os og R st y w true w1→HpB w1 h y.H:=fun w1 hr=>by obtain ⟨_,_,M,_⟩:=jobR_mid hH hM hr;exact M.hp
 have hk2:∀ ok w2,JobQ m k l x h t page os og R st y w ok w2→HpB w2 h y.H:=fun ok w2 hr=>by obtain ⟨_,_,_,M,_⟩:=hr;exact M.hp
 match t,ht with
 | 0,_ =>
  refine hstep_gone hH.b a1 a2 a3 a4 hst (fun w1=>job_more hH hM) hk (fun w1=>job_done hH hM) hk2 (fun ok w2 hr=>?_) HPost.boolE
  obtain ⟨x',a',D,M,hI,hd,hbx,⟨rfl,s,g,ps',hrf,rfl,hS,rfl⟩ | ⟨rfl,s,g,c,ss',rfl,hF,rfl⟩⟩:=hr
  ·refine (goneC_yes M.hp hbx a3 hI hd hrf).mono ?_
   intro e w3 hsee
   obtain ⟨g1,rfl,c1,c2,c3⟩:=hsee
   obtain ⟨A,c,e1,e2⟩:=M.gr
   have hsz:=M.fr.size
   refine ⟨.taking 0 [] 0 0,⟨{ y.H with as_:=s,ag:=g,lv:=.pointer (some ⟨g1,0,none⟩),jv:=.pointer none,tv:=takingF h },g1,LdS.new y.H.left,y.i,y.B,y.a,y.bx⟩,_,rfl,.jY (t:=0) hS,KSame.refl _,⟨c1,⟨A,c,e1,e2.far M.hp (by decide) c3⟩,hH.hb,⟨a1,rfl,rfl,c2.base (Nat.le_trans hbs hsz),LdPh.new _ _ _ _ _⟩⟩,M.mm.beside c3 M.hp (by decide) (by decide),only_hall M.fr c3,?_,M.sa⟩
   rintro q (rfl | hq)
   ·exact .inl (.inl rfl)
   ·rcases hq with rfl | hq | hq
    ·exact .inr (Nat.le_trans hsz c2.lb)
    ·cases hq
    ·cases hq
  ·refine (goneC_no M.hp hbx).mono ?_
   intro e w3 hsee
   exact fin_see hH hbs M.any0 hsee (.inl ⟨rfl,rfl,rfl⟩) (.jF (t:=0) hF)
 | 1,_ =>
  refine hstep_merge hH.b a1 a2 a3 a4 hst (fun w1=>job_more hH hM) hk (fun w1=>job_done hH hM) hk2 (fun ok w2 hr=>?_) HPost.boolE
  obtain ⟨x',a',D,M,hI,hd,hbx,⟨rfl,s,g,ps',hrf,rfl,hS,rfl⟩ | ⟨rfl,s,g,c,ss',rfl,hF,rfl⟩⟩:=hr
  ·refine (mergeC_yes M.hp hbx).mono ?_
   rintro e w3 ⟨bx,hput,hb3⟩
   exact fin_put (t:=2) (R:=kindC 11) hH hbs M.any0 hput hb3 (.jY (t:=1) hS)
  ·refine (mergeC_no M.hp hbx).mono ?_
   intro e w3 hsee
   exact fin_see hH hbs M.any0 hsee (.inr ⟨rfl,rfl,rfl⟩) (.jF (t:=1) hF)
 | 2,_ =>
  refine hstep_third hH.b a1 a2 a3 a4 hst (fun w1=>job_more hH hM) hk (fun w1=>job_done hH hM) hk2 (fun ok w2 hr=>?_) HPost.boolE
  obtain ⟨x',a',D,M,hI,hd,hbx,⟨rfl,s,g,ps',hrf,rfl,hS,rfl⟩ | ⟨rfl,s,g,c,ss',rfl,hF,rfl⟩⟩:=hr
  ·refine (thirdC_ok true M.hp hbx).mono ?_
   rintro e w3 ⟨rfl,c1,c2⟩
   exact fin_over hH M c1 c2 (.jY (t:=2) hS)
  ·refine (thirdC_ok false M.hp hbx).mono ?_
   rintro e w3 ⟨rfl,c1,c2⟩
   exact fin_over hH M c1 c2 (.jF (t:=2) hF)
theorem hstep_any (hH:Hlp x.ss b0 w h ph y) (hM:Mm w m k l x) (hb:∀ i,mall m x i→i < b0) (h0:0≤k) (h1:k≤100000) (hbs:b0≤w.heap.size) (hok:Ok13 l x y.H ph) :
    Calls Tryz.prog 18 #[.pointer (some ⟨h,0,none⟩),.pointer (some ⟨m,0,none⟩)] w (HPost b0 m k l x h ph y w):=by
  cases ph with
  | going p js s0 g0=>exact hstep_going hH hM hb h0 h1 hbs hok
  | taking p js s0 g0=>exact hstep_taking hH hM hb h0 h1 hbs hok
  | job t page os og R st=>exact hstep_job hH hM h0 h1 hbs hok
  | over d=>exact hok.elim
theorem hstep_end {d:Bool} (v:Value) (hH:Hlp x.ss b0 w h (.over d) y):Calls Tryz.prog 18 #[.pointer (some ⟨h,0,none⟩),v] w fun e w'=>e=.returned (.bool true)∧w=w':=hstep_over v hH.b hH.sub.1
end
open Go.RowKit

theorem leafB_sfx (f:Nat→Rc):∀ {J d:List Nat},d <:+ J→d≠[]→leafB (d.map f)=leafB (J.map f)
  | [],d,h,hd=>absurd (List.suffix_nil.1 h) hd
  | j :: r,d,h,hd=>by
    rcases List.suffix_cons_iff.1 h with rfl | h
    · rfl
    · have hr:r≠[]:=fun e=>by rw [e] at h;exact hd (List.suffix_nil.1 h)
      rw [List.map_cons,leafB_cons (by simpa using hr)]
      exact leafB_sfx f h hd
section
variable {c:Cf} {Φ:Nat} {cur:List Rw} {x:St} {js:Nat→List Nat} {M u:Nat} {gm:Int} {H H':Hm} {l:Lm}
theorem okld_of (hw:Wd c Φ cur x js M) {q:Nat} (hq:q≤M) {n:Int} (hn:n=(q:Int)) (hls:20≤l.s) {p:Nat} {d:List Nat} {s0 g0:Int} (h:OnLd x (js q) p d s0 g0):OkLd l x n p d s0 g0:=by
  refine ⟨fun e=>?_,fun e=>?_⟩
  · obtain ⟨e1,e2,e3⟩:=h.1 e
    obtain ⟨s,g,k1,k2,k3⟩:=hw.pg q hq
    have:=hw.ln q
    exact ⟨e1,e2,e3,js q,s,g,⟨⟨q,hn,k1⟩,k2,k3⟩,by omega,by omega⟩
  · obtain ⟨h1,h2,h3,h4⟩:=h.2 e
    have:=hw.ln q
    have:=h3.length_le
    exact ⟨h1,h2,by omega,by omega,h4⟩
theorem leafy_of (hw:Wd c Φ cur x js M) {q:Nat} (h1:1≤q) (hq:q≤M) {d:List Nat} (hd:d≠[]) (hs:d <:+ js q) {V:Lw} (hv:viewOf x.ss d=some V):Leafy x.ss d V:=
  ⟨fun j hj=>hw.pr q j (hs.subset hj),by rw [leafB_sfx _ hs hd];exact hw.lf q h1 hq,hv⟩
theorem ok13 (hc:CfOk c) (hw:Wd c Φ cur x js M) (hr:Room x c.N u gm) (hu:u < c.N) (hg:gm < l.n) (hk:HK c H) (hls:20≤l.s) {ph:Ps} (hi:HI c Φ x js H ph) (ho:ph.isOver=false):Ok13 l x H ph:=by
  obtain ⟨k1,k2,k3,k4,k5,k6⟩:=hk
  have hM:=hw.iM
  have hi1:=hc.i1
  cases ph with
  | going p d s0 g0 =>
    have hol:=(show OnLd _ _ _ _ _ _ from hi)
    refine ⟨okld_of hw hw.iM (by rw [k4];push_cast;rfl) hls hol,fun hp _=>?_⟩
    obtain ⟨h1,h2,h3,h4⟩:=hol.2 hp
    by_cases hd:d=js (c.i+1)
    · exact ⟨_,leafy_of hw (by omega) hw.iM h2 h3 (by rw [hd];exact hw.g1)⟩
    · exact ⟨_,leafy_of hw (by omega) hw.iM h2 h3 (hw.g0 d h2 h3 hd)⟩
  | taking p d s0 g0 =>
    obtain ⟨hΦ,hgo,hat,hol⟩:=hi
    refine ⟨okld_of hw (q:=c.i) (by omega) k6 hls hol,fun hp _=>?_⟩
    obtain ⟨h1,h2,h3,h4⟩:=hol.2 hp
    rw [hgo]
    have hrz:=hc.rz
    rcases hw.p0 d h2 h3 with ⟨L,hL,hv⟩ | ⟨_,L,hv | ⟨q,hq,hv⟩⟩
    · exact ⟨c.VP L,leafy_of hw hi1 (by omega) h2 h3 hv,rfl,by rw [k5];exact hc.kz,.inr ⟨⟨by rw [k5];exact hc.k1,rfl,k5.symm,k4.symm⟩,rfl,by show c.VG.rows.length≤1000;omega⟩⟩
    · exact ⟨c.VQ L,leafy_of hw hi1 (by omega) h2 h3 hv,rfl,by rw [k5];exact hc.kz,.inl (.inl (by rw [k5];exact hc.k2))⟩
    · exact ⟨c.VS L q,leafy_of hw hi1 (by omega) h2 h3 hv,rfl,by rw [k5];exact hc.kz,.inl (.inr ⟨by rw [k5];exact hc.k1,rfl,k5.symm,by rw [k4];exact hq.1⟩)⟩
  | job t page os og R st =>
    have hsw:∀ (p:Nat),p≤M→page=(p:Int)→∀ s g ok cc ps',SwapR x.ps page os og s g ok cc ps'→cc=0:=fun p hp e s g ok cc ps' hh=>by
      obtain ⟨s1,g1,q1,_⟩:=hw.pg p hp
      exact (swap_used13 hh e q1).1
    have hal:∀ sl gn cc ss',st=.head→AllocR l.n x.ss R sl gn cc ss'→cc=0:=fun sl gn cc ss' _ ha=>hr.alloc_ok hu hg ha
    match t,hi with
    | 0,hi =>
      have hh:=(show HJ0 c Φ x js H page os og R st from hi)
      exact ⟨by omega,hal,fun s g ok cc ps' _=>hsw (c.i+1) hw.iM (by rw [hh.1];push_cast;rfl) s g ok cc ps'⟩
    | 1,hi =>
      have hh:=(show HJ1 c Φ x js H page os og R st from hi)
      exact ⟨by omega,hal,fun s g ok cc ps' _=>hsw c.i (by omega) hh.1 s g ok cc ps'⟩
    | 2,hi =>
      have hh:=(show HJ2 c Φ x js H page os og R st from hi)
      exact ⟨by omega,hal,fun s g ok cc ps' _=>hsw 0 (by omega) hh.1 s g ok cc ps'⟩
    | t+3,hi=>exact (show False from hi).elim
  | over d=>cases ho
end
structure H1 where
  h:Nat
  ph:Ps
  y:Hz
def cntL (L:List H1):Nat:=(L.map fun z=>z.ph.cnt).sum
def doneL (L:List H1):Nat:=L.countP fun z=>match z.ph with | .over true=>true | _=>false
structure Hps (c:Cf) (Φ:Nat) (cur:List Rw) (W w:World) (m:Nat) (k:Int) (l:Lm) (x:St) (js:Nat→List Nat) (M b0 u:Nat) (L:List H1):Prop where
  mm:Mm w m k l x
  wd:Wd c Φ cur x js M
  k0:0≤k
  mb:∀ b,mall m x b→W.heap.size≤b∧b < b0
  bw:b0≤w.heap.size
  f:Fr none_ W w
  ls:20≤l.s∧l.n=c.last
  rm:Room x c.N (u+Φ+cntL L) (k+1)
  hp:∀ z ∈ L,Hlp x.ss b0 w z.h z.ph z.y∧HK c z.y.H∧HI c Φ x js z.y.H z.ph
  dj:∀ (i j:Nat) (a b:H1),L[i]?=some a→L[j]?=some b→i≠j→(∀ q,hfoot a.h a.ph a.y q→¬ hfoot b.h b.ph b.y q)∧(a.ph.slot=b.ph.slot→a.ph.cnt=0∨b.ph.cnt=0)
  dn:doneL L=if Φ=3 then 1 else 0
theorem cnt_slot {ph:Ps} (h:ph.cnt≠0):∃ t page os og R s g,(ph=.job t page os og R (.swap s g)∨ph=.job t page os og R (.free s g))∧ph.slot=s:=by
  cases ph with
  | job t page os og R st =>
    cases st with
    | head=>exact absurd rfl h
    | swap s g=>exact ⟨_,_,_,_,_,s,g,.inl rfl,rfl⟩
    | free s g=>exact ⟨_,_,_,_,_,s,g,.inr rfl,rfl⟩
  | going p d s0 g0=>exact absurd rfl h
  | taking p d s0 g0=>exact absurd rfl h
  | over d=>exact absurd rfl h
theorem loose_of {c:Cf} {Φ:Nat} {x:St} {js:Nat→List Nat} {H:Hm} {ph:Ps} (hi:HI c Φ x js H ph) (h:ph.cnt≠0):∃ g R,Loose x js ph.slot g R:=by
  obtain ⟨t,page,os,og,R,s,g,rfl | rfl,hs⟩:=cnt_slot h
  · exact ⟨g,R,(HJ.ji (st:=.swap s g) hi)⟩
  · exact ⟨g,R,(HJ.ji (st:=.free s g) hi)⟩
theorem slot_zero {ph:Ps} (h:ph.cnt=0):ph.slot=0:=by
  cases ph with
  | job t page os og R st =>
    cases st with
    | head=>rfl
    | swap s g=>simp [Ps.cnt] at h
    | free s g=>simp [Ps.cnt] at h
  | going p d s0 g0=>rfl
  | taking p d s0 g0=>rfl
  | over d=>rfl
theorem sum_set {L:List H1} {i:Nat} {z z':H1} (h:L[i]?=some z):cntL (L.set i z')+z.ph.cnt=cntL L+z'.ph.cnt:=by
  unfold cntL
  induction L generalizing i with
  | nil=>simp at h
  | cons a r ih =>
    cases i with
    | zero =>
      obtain rfl:a=z:=by simpa using h
      simp only [List.set_cons_zero,List.map_cons,List.sum_cons]
      omega
    | succ i =>
      have:=ih (by simpa using h)
      simp only [List.set_cons_succ,List.map_cons,List.sum_cons]
      omega
def isDone (ph:Ps):Bool:=match ph with | .over true=>true | _=>false
theorem done_set {L:List H1} {i:Nat} {z z':H1} (h:L[i]?=some z):doneL (L.set i z')+(if isDone z.ph then 1 else 0)=doneL L+(if isDone z'.ph then 1 else 0):=by
  unfold doneL
  induction L generalizing i with
  | nil=>simp at h
  | cons a r ih =>
    cases i with
    | zero =>
      obtain rfl:a=z:=by simpa using h
      simp only [List.set_cons_zero,List.countP_cons]
      unfold isDone
      omega
    | succ i =>
      have:=ih (by simpa using h)
      simp only [List.set_cons_succ,List.countP_cons]
      omega
theorem mall_sa {m:Nat} {x x':St} (h:SameA x x'):mall m x'=mall m x:=by
  obtain ⟨_,h1,_,h2,h3,h4⟩:=h
  unfold mall
  rw [h1,h2,h3,h4]
theorem HI.on {c:Cf} {Φ:Nat} {x:St} {js:Nat→List Nat} {H:Hm} {ph:Ps} (h:HI c Φ x js H ph):ph.on x.ss∧∀ j ∈ ph.js,∃ p,j ∈ js p:=by
  have hld:∀ {q p:Nat} {d:List Nat} {s0 g0:Int},OnLd x (js q) p d s0 g0→Links x.ss d s0 g0∧∀ j ∈ d,∃ p,j ∈ js p:=fun {q p d s0 g0} hh=>by
    rcases Nat.eq_zero_or_pos p with e | e
    · obtain ⟨rfl,rfl,rfl⟩:=hh.1 e
      exact ⟨⟨rfl,rfl⟩,fun j hj=>by cases hj⟩
    · obtain ⟨h1,h2,h3,h4⟩:=hh.2 e
      exact ⟨h1,fun j hj=>⟨q,h3.subset hj⟩⟩
  cases ph with
  | going p d s0 g0=>exact hld (show OnLd _ _ _ _ _ _ from h)
  | taking p d s0 g0=>exact hld h.2.2.2
  | job t page os og R st=>exact ⟨trivial,fun j hj=>by cases hj⟩
  | over d=>exact ⟨trivial,fun j hj=>by cases hj⟩
def OffT (t:TypeId):Prop:=(t≠111∧t≠164∧t≠155∧t≠179)∧(t≠103∧t≠135∧t≠147∧t≠3∧t≠51∧t≠36)
def Kept13 (w w':World):Prop:=∃ S,Fr S w w'∧∀ q t cs,Blk w q t cs→OffT t→¬ S q
structure HpsStep (c:Cf) (Φ Φ':Nat) (cur:List Rw) (W:World) (m:Nat) (k:Int) (l:Lm) (x x':St) (js js':Nat→List Nat) (M b0 u:Nat) (L:List H1) (i:Nat) (z z':H1) (w w':World):Prop where
  ps:Hps c Φ' cur W w' m (k+1) l x' js' M b0 u (L.set i z')
  st:HStep c.last x z.y.H z.ph z'.ph z'.y.H.gone z'.y.H.as_ z'.y.H.ag x'
  s13:∃ u0,St13 c Φ Φ' cur x x' js js' M u0 (k+1) z'.y.H z.ph z'.ph
  hh:z'.h=z.h
  fr:Kept13 w w'
theorem hps_step {c:Cf} {Φ:Nat} {cur:List Rw} {W w:World} {m:Nat} {k:Int} {l:Lm} {x:St} {js:Nat→List Nat} {M b0 u:Nat} {L:List H1} (hc:CfOk c) (P:Hps c Φ cur W w m k l x js M b0 u L) {i:Nat} {z:H1} (hz:L[i]?=some z) (ho:z.ph.isOver=false) (hk:k≤99000) (hu:u+Φ+cntL L < c.N) (hg:k+1 < l.n) (hl20:(js c.i).length+1≤20∧(js 0).length+1≤20) :
  Calls Tryz.prog 18 #[.pointer (some ⟨z.h,0,none⟩),.pointer (some ⟨m,0,none⟩)] w fun e w'=>∃ Φ' js' x' z',e=.returned (.bool z'.ph.isOver)∧HpsStep c Φ Φ' cur W m k l x x' js js' M b0 u L i z z' w w':=by
 obtain ⟨hH,hK,hI⟩:=P.hp z (List.mem_of_getElem? hz)
 have hok:=ok13 hc P.wd P.rm hu hg hK P.ls.1 hI ho
 have hk0:=P.k0
 refine (hstep_any hH P.mm (fun b hb=>(P.mb b hb).2) P.k0 (by omega) P.bw hok).mono ?_
 rintro e w' ⟨ph',y',x',rfl,hst,hks,hH',hM',hf,hft,hsa⟩
 rw [P.ls.2] at hst
 obtain ⟨Φ',js',S⟩:=step13 (H':=y'.H) hc P.wd P.rm hK hl20 hst hI
 have hil:=(List.getElem?_eq_some_iff.1 hz).1
 have hmW:W.heap.size≤b0:=by have:=P.mb m (.inl rfl);omega
 refine ⟨Φ',js',x',⟨z.h,ph',y'⟩,rfl,⟨⟨hM',S.wd,by omega,fun b hb=>P.mb b (by rw [mall_sa hsa] at hb;exact hb),Nat.le_trans P.bw hf.size,?_,P.ls,?_,?_,?_,?_⟩,hst,⟨_,S⟩,rfl,⟨_,hf,fun q t cs hb ht=>hall_ty P.mm hH hb ht.1 ht.2⟩⟩⟩
 ·exact P.f.trans hf (fun _ _=>id) (fun g hg e=>by
   rcases e with e | e
   ·have:=P.mb g e;omega
   ·have:=(hH.foot_blk e).1;omega)
 ·obtain ⟨u',r1,r2⟩:=S.rm
  have:=sum_set (z':=⟨z.h,ph',y'⟩) hz
  have hu':u'=u+Φ'+cntL (L.set i ⟨z.h,ph',y'⟩):=by
   have h1:(⟨z.h,ph',y'⟩:H1).ph.cnt=ph'.cnt:=rfl
   omega
  rw [← hu']
  exact r1
 ·intro z2 hz2
  obtain ⟨j,hj⟩:=List.mem_iff_getElem?.1 hz2
  rcases Nat.decEq i j with hne | rfl
  ·rw [List.getElem?_set_ne hne] at hj
   obtain ⟨hH2,hK2,hI2⟩:=P.hp z2 (List.mem_of_getElem? hj)
   obtain ⟨d1,d2⟩:=P.dj j i z2 z hj hz (Ne.symm hne)
   have hfr:Hlp x.ss b0 w' z2.h z2.ph z2.y:=hH2.fr hf (fun q hq e=>by
     rcases e with e | e
     ·obtain ⟨_,t,cs,hb,ht⟩:=hH2.foot_blk hq
      refine P.mm.mall_ty hb ?_ e
      rcases ht with rfl | rfl | rfl | rfl | rfl | rfl <;> decide
     ·exact d1 q hq e) (fun q t cs hb ht=>by
     refine hall_ty P.mm hH hb ?_ ?_
     ·rcases ht with rfl | rfl | rfl | rfl <;> decide
     ·rcases ht with rfl | rfl | rfl | rfl <;> decide)
   obtain ⟨on1,on2⟩:=hI2.on
   have hstn:Stn x.ss x'.ss z2.ph.js:=Stn.same (fun q hq=>by
    obtain ⟨p,hp⟩:=on2 q hq
    obtain ⟨y,q1,q2⟩:=P.wd.used p q hp
    rw [q1]
    exact S.en.ad.sl q y q1 q2 (S.en.qn p q hp))
   refine ⟨hfr.stn on1 hstn,hK2,hI2.env S.en ?_⟩
   by_cases h2:z2.ph.cnt=0
   ·exact .inr h2
   ·refine .inl (fun e=>?_)
    rcases d2 e with h | h
    ·exact h2 h
    ·rw [slot_zero h] at e
     obtain ⟨_,_,hl⟩:=loose_of hI2 h2
     have:=loose_pos hl
     omega
  ·rw [List.getElem?_set_self hil] at hj
   obtain rfl:=Option.some.inj hj
   exact ⟨hH',hK.same hks,S.hi⟩
 ·have key:∀ (j:Nat) (b:H1),L[j]?=some b→i≠j→(∀ q,hfoot z.h ph' y' q→¬ hfoot b.h b.ph b.y q)∧(ph'.slot=b.ph.slot→ph'.cnt=0∨b.ph.cnt=0):=fun j b hj hne=>by
   obtain ⟨hH2,hK2,hI2⟩:=P.hp b (List.mem_of_getElem? hj)
   obtain ⟨d1,d2⟩:=P.dj i j z b hz hj hne
   refine ⟨fun q hq e=>?_,fun e=>?_⟩
   ·rcases hft q hq with h | h
    ·exact d1 q h e
    ·have:=hH2.foot_lt e;omega
   ·by_cases h1:ph'.cnt=0
    ·exact .inl h1
    ·by_cases h2:b.ph.cnt=0
     ·exact .inr h2
     ·exfalso
      obtain ⟨g2,R2,hl2⟩:=loose_of hI2 h2
      obtain ⟨g3,R3,hl3⟩:=loose_of S.hi h1
      by_cases hs:ph'.slot=z.ph.slot
      ·have h3:z.ph.cnt≠0:=fun h=>by have:=slot_zero h;have:=loose_pos hl3;omega
       rcases d2 (hs.symm.trans e) with h | h
       ·exact h3 h
       ·exact h2 h
      ·exact S.nw _ _ _ hl2 hs e
  intro a b ha hb h1 h2 hne
  rcases Nat.decEq i a with ha' | rfl
  ·rw [List.getElem?_set_ne ha'] at h1
   rcases Nat.decEq i b with hb' | rfl
   ·rw [List.getElem?_set_ne hb'] at h2
    exact P.dj a b ha hb h1 h2 hne
   ·rw [List.getElem?_set_self hil] at h2
    obtain rfl:=Option.some.inj h2
    obtain ⟨q1,q2⟩:=key a ha h1 ha'
    exact ⟨fun q hq e=>q1 q e hq,fun e=>(q2 e.symm).symm⟩
  ·rw [List.getElem?_set_self hil] at h1
   obtain rfl:=Option.some.inj h1
   rw [List.getElem?_set_ne hne] at h2
   exact key b hb h2 hne
 ·have hd:=done_set (z':=⟨z.h,ph',y'⟩) hz
  have hz0:isDone z.ph=false:=by
   unfold isDone
   cases hp:z.ph with
   | over d=>rw [hp] at ho;cases ho
   | going=>rfl
   | taking=>rfl
   | job=>rfl
  rw [hz0] at hd
  have hdn:=P.dn
  have hiff:isDone ph'=true ↔ ph'=.over true:=by
   unfold isDone
   constructor
   ·intro h
    cases ph' with
    | over d=>cases d with
     | true=>rfl
     | false=>cases h
    | going=>cases h
    | taking=>cases h
    | job=>cases h
   ·rintro rfl;rfl
  have h1:(⟨z.h,ph',y'⟩:H1).ph=ph':=rfl
  rw [h1] at hd
  by_cases h3:Φ=3
  ·have h3':Φ'=3:=by have:=S.en.le;have:=S.en.f3;omega
   have:isDone ph'=false:=by
    cases hb:isDone ph' with
    | false=>rfl
    | true=>have:=S.ov.1 (hiff.1 hb);omega
   rw [this] at hd
   rw [if_pos h3] at hdn
   rw [if_pos h3']
   simp at hd
   omega
  ·rw [if_neg h3] at hdn
   by_cases h3':Φ'=3
   ·have:=hiff.2 (S.ov.2 h3' h3)
    rw [this] at hd
    rw [if_pos h3']
    simp at hd
    omega
   ·have:isDone ph'=false:=by
     cases hb:isDone ph' with
     | false=>rfl
     | true=>have:=S.ov.1 (hiff.1 hb);omega
    rw [this] at hd
    rw [if_neg h3']
    simp at hd
    omega
open Go.RowKit

def jl (f:Prop) [Decidable f] (A B:Nat):Jst→Nat
  | .head=>if f then 2+A else 3+B
  | .swap _ _=>if f then 1+A else 2+B
  | .free _ _=>1+B
def d3 (Φ:Nat):Nat:=if Φ < 3 then 2 else 3
def t0 (c:Cf) (Φ:Nat) (js:Nat→List Nat):Nat:=((js c.i).length+1)+(if Φ≤1 then 2 else 0)+d3 Φ
def g0 (c:Cf) (Φ:Nat) (js:Nat→List Nat):Nat:=((js (c.i+1)).length+1)+(if Φ=0 then 2 else 0)+t0 c Φ js
def muG (c:Cf) (Φ:Nat) (js:Nat→List Nat) (p:Nat) (d:List Nat):Nat:=if p=0 then g0 c Φ js else if d=js (c.i+1) then (d.length+1 - p)+(if Φ=0 then 2 else 0)+t0 c Φ js else (d.length+1 - p)+3+g0 c Φ js
def muT (c:Cf) (Φ:Nat) (js:Nat→List Nat) (p:Nat) (d:List Nat):Nat:=if p=0 then t0 c Φ js else if d=js c.i then (d.length+1 - p)+(if Φ≤1 then 2 else 0)+d3 Φ else (d.length+1 - p)+3+t0 c Φ js
noncomputable def muJ (c:Cf) (Φ:Nat) (x:St) (js:Nat→List Nat) (os og:Int) (st:Jst):Nat→Nat
  | 0=>jl (Φ=0) (t0 c Φ js) (g0 c Φ js) st
  | 1=>jl (x.ps[c.i]?=some (true,os,og)) 2 (t0 c Φ js) st
  | _=>jl (Φ < 3) 0 0 st
noncomputable def mu (c:Cf) (Φ:Nat) (x:St) (js:Nat→List Nat):Ps→Nat
  | .going p d _ _=>muG c Φ js p d
  | .taking p d _ _=>muT c Φ js p d
  | .job t _ os og _ st=>muJ c Φ x js os og st t
  | .over _=>0
theorem muG0 (c:Cf) (Φ:Nat) (js:Nat→List Nat) (d:List Nat):muG c Φ js 0 d=g0 c Φ js:=if_pos rfl
theorem muGY {c:Cf} {Φ:Nat} {js:Nat→List Nat} {p:Nat} {d:List Nat} (h:0 < p) (hd:d=js (c.i+1)):muG c Φ js p d=(d.length+1 - p)+(if Φ=0 then 2 else 0)+t0 c Φ js:=by
  unfold muG;rw [if_neg (Nat.ne_of_gt h),if_pos hd]
theorem muGN {c:Cf} {Φ:Nat} {js:Nat→List Nat} {p:Nat} {d:List Nat} (h:0 < p) (hd:¬ d=js (c.i+1)):muG c Φ js p d=(d.length+1 - p)+3+g0 c Φ js:=by
  unfold muG;rw [if_neg (Nat.ne_of_gt h),if_neg hd]
theorem muT0 (c:Cf) (Φ:Nat) (js:Nat→List Nat) (d:List Nat):muT c Φ js 0 d=t0 c Φ js:=if_pos rfl
theorem muTY {c:Cf} {Φ:Nat} {js:Nat→List Nat} {p:Nat} {d:List Nat} (h:0 < p) (hd:d=js c.i):muT c Φ js p d=(d.length+1 - p)+(if Φ≤1 then 2 else 0)+d3 Φ:=by
  unfold muT;rw [if_neg (Nat.ne_of_gt h),if_pos hd]
theorem muTN {c:Cf} {Φ:Nat} {js:Nat→List Nat} {p:Nat} {d:List Nat} (h:0 < p) (hd:¬ d=js c.i):muT c Φ js p d=(d.length+1 - p)+3+t0 c Φ js:=by
  unfold muT;rw [if_neg (Nat.ne_of_gt h),if_neg hd]
def Fresh (c:Cf) (Φ:Nat) (x:St) (js:Nat→List Nat):Ps→Prop
  | .going p d _ _=>(p=0∨d=js (c.i+1))∧Φ < 3
  | .taking p d _ _=>(p=0∨d=js c.i)∧Φ < 3
  | .job t _ os og _ st=>¬ st.isFree∧Φ < 3∧(t=0→Φ=0)∧(t=1→x.ps[c.i]?=some (true,os,og))
  | .over _=>True
section
variable {c:Cf} {Φ Φ':Nat} {cur:List Rw} {x x':St} {js js':Nat→List Nat} {M u:Nat} {gm:Int} {H H':Hm}
theorem js_same (hw:Wd c Φ cur x js M) {ph ph':Ps} (S:St13 c Φ Φ' cur x x' js js' M u gm H' ph ph') (h:Φ'=Φ):js' c.i=js c.i∧js' (c.i+1)=js (c.i+1):=by
  have h1:=S.pl
  rw [if_neg (by omega)] at h1
  have h2:=S.wd.gl
  rw [h,← hw.gl] at h2
  exact ⟨((S.en.ad.sf c.i).eq_of_length h1.symm).symm,((S.en.ad.sf (c.i+1)).eq_of_length h2.symm).symm⟩
theorem t0_same (h:js' c.i=js c.i):t0 c Φ js'=t0 c Φ js:=by unfold t0;rw [h]
theorem g0_same (h:js' c.i=js c.i) (h':js' (c.i+1)=js (c.i+1)):g0 c Φ js'=g0 c Φ js:=by unfold g0;rw [t0_same h,h']
theorem d3_le (Φ:Nat):2≤d3 Φ∧d3 Φ≤3:=by unfold d3;split <;> omega
theorem vlen {ss:List Sl} {d:List Nat} {V:Lw} (h:viewOf ss d=some V):0 < d.length:=by
  cases d with
  | nil=>cases h
  | cons=>simp
theorem pre_post {c:Cf} (hc:CfOk c) {L:List Rw} {v:Option Lw} (h:c.Pre L v) {L':List Rw} (h':c.Post L' v):False:=by
  rw [h] at h'
  rcases h' with e | ⟨q,hq,e⟩
  · have e:=Option.some.inj e
    have e1:c.key=c.VG.high:=congrArg Lw.high e
    have e2:false=c.VG.unb:=congrArg Lw.unb e
    have:=hc.k2
    rw [← e1,← e2,hc.k1] at this
    cases this
  · have e:=Option.some.inj e
    exact hq.1 (congrArg Lw.right e).symm
theorem still_phi (hc:CfOk c) (hw:Wd c Φ cur x js M) {x':St} (hw':Wd c Φ' cur x' js' M) (e1:x'.ps=x.ps) (e2:x'.ss=x.ss):Φ'=Φ:=by
  have hj:∀ p,p≤M→js' p=js p:=fun p hp=>by
    obtain ⟨s,g,k1,k2,_⟩:=hw.pg p hp
    obtain ⟨s',g',k1',k2',_⟩:=hw'.pg p hp
    rw [e1,k1] at k1'
    injection Option.some.inj k1' with _ q
    injection q with q1 q2
    subst q1
    subst q2
    rw [e2] at k2'
    exact links_uniq k2' k2
  have hM:=hw.iM
  have a1:=hw.gl
  have a2:=hw'.gl
  rw [hj _ hM,a1] at a2
  have b1:=hw.p1
  have b2:=hw'.p1
  rw [hj _ (by omega),e2] at b2
  have c1:Φ < 3→¬ Φ'=3:=fun h h'=>by
    have:=hw.h0 h
    obtain ⟨s,g,q1,q2⟩:=hw'.h3 h'
    rw [e1,this] at q1
    injection Option.some.inj q1 with _ q
    injection q with q3
    exact q2 q3.symm
  have c2:Φ' < 3→¬ Φ=3:=fun h h'=>by
    have:=hw'.h0 h
    obtain ⟨s,g,q1,q2⟩:=hw.h3 h'
    rw [e1,q1] at this
    injection Option.some.inj this with _ q
    injection q with q3
    exact q2 q3
  have f1:=hw.f3
  have f2:=hw'.f3
  have d1:Φ=0 ↔ Φ'=0:=by
    constructor
    · intro h;rw [if_pos h] at a2;by_cases h':Φ'=0;exact h';rw [if_neg h'] at a2;cases a2
    · intro h;rw [if_pos h] at a2;by_cases h':Φ=0;exact h';rw [if_neg h'] at a2;cases a2
  have d2:Φ≤1 ↔ Φ'≤1:=by
    constructor
    · intro h
      rw [if_pos h] at b1
      by_cases h':Φ'≤1
      · exact h'
      · rw [if_neg h'] at b2;exact (pre_post hc b1 b2).elim
    · intro h
      rw [if_pos h] at b2
      by_cases h':Φ≤1
      · exact h'
      · rw [if_neg h'] at b1;exact (pre_post hc b2 b1).elim
  omega
theorem jl_head {f:Prop} [Decidable f] {A B:Nat}:jl f A B .head=if f then 2+A else 3+B:=rfl
theorem jl_swap {f:Prop} [Decidable f] {A B:Nat} {s g:Int}:jl f A B (.swap s g)=if f then 1+A else 2+B:=rfl
theorem jl_free {f:Prop} [Decidable f] {A B:Nat} {s g:Int}:jl f A B (.free s g)=1+B:=rfl
theorem jl_next {f:Prop} [Decidable f] {A B:Nat} {s g:Int}:jl f A B (.swap s g)+1=jl f A B .head:=by rw [jl_head,jl_swap];split <;> omega
theorem d3_lt {Φ:Nat} (h:Φ < 3):d3 Φ=2:=if_pos h
theorem jl_d3 (Φ:Nat):jl (Φ < 3) 0 0 .head=d3 Φ:=rfl
theorem mu_step (hc:CfOk c) (hw:Wd c Φ cur x js M) (hk:HK c H) {ph ph':Ps} {G':Lw} {a' b':Int} (hs:HStep c.last x H ph ph' G' a' b' x') (hi:HI c Φ x js H ph) (S:St13 c Φ Φ' cur x x' js js' M u gm H' ph ph') :
  mu c Φ' x' js' ph'+1≤mu c Φ x js ph∧(Fresh c Φ x js ph→mu c Φ' x' js' ph'+1=mu c Φ x js ph∧Fresh c Φ' x' js' ph'):=by
 obtain ⟨k1,k2,k3,k4,k5,k6⟩:=hk
 have hM:=hw.iM
 have hi1:=hc.i1
 have hd3:=d3_le Φ
 have hstill:(∀ page os og R s g,ph≠.job Φ page os og R (.swap s g))→Φ'=Φ:=fun h=>S.fp.elim id (fun e=>by obtain ⟨_,p,a,b,r,s,g,e⟩:=e;exact absurd e (h _ _ _ _ _ _))
 have hhi:=S.hi
 cases hs with
 | g0 h =>
  have hΦ:=hstill (by intros;intro e;cases e)
  subst hΦ
  obtain ⟨j1,j2⟩:=js_same hw S rfl
  obtain ⟨hd,_⟩:=onpage_at hw hw.iM (by rw [k4];push_cast;rfl) h
  subst hd
  show muG _ _ _ _ _+1≤muG _ _ _ _ _∧(Fresh _ _ _ _ _→muG _ _ _ _ _+1=muG _ _ _ _ _∧Fresh _ _ _ _ _)
  rw [muG0,muGY (by omega) j2.symm,t0_same j1]
  unfold g0
  exact ⟨by omega,fun hf=>⟨by omega,.inr j2.symm,hf.2⟩⟩
 | gn h0 h =>
  rename_i p d s0 g0'
  have hΦ:=hstill (by intros;intro e;cases e)
  subst hΦ
  obtain ⟨j1,j2⟩:=js_same hw S rfl
  show muG _ _ _ _ _+1≤muG _ _ _ _ _∧(Fresh _ _ _ _ _→muG _ _ _ _ _+1=muG _ _ _ _ _∧Fresh _ _ _ _ _)
  by_cases hd:d=js (c.i+1)
  ·rw [muGY h0 hd,muGY (by omega) (hd.trans j2.symm),t0_same j1]
   exact ⟨by omega,fun hf=>⟨by omega,.inr (hd.trans j2.symm),hf.2⟩⟩
  ·rw [muGN h0 hd,muGN (by omega) (by rw [j2];exact hd),g0_same j1 j2]
   exact ⟨by omega,fun hf=>by rcases hf.1 with e | e;omega;exact absurd e hd⟩
 | gF hv hg =>
  rename_i d V
  have hΦ:=hstill (by intros;intro e;cases e)
  subst hΦ
  obtain ⟨j1,j2⟩:=js_same hw S rfl
  have hlen:=vlen hv
  obtain ⟨q1,q2,q3,q4⟩:=(show OnLd _ _ _ _ _ _ from hi).2 hlen
  have hde:d=js (c.i+1):=by
   by_cases hd:d=js (c.i+1)
   ·exact hd
   ·have:=hw.g0 d q2 q3 hd
    rw [hv] at this
    obtain rfl:=Option.some.inj this
    rw [hc.ng] at hg
    cases hg
  have hΦ1:Φ'≠0:=by have:=hhi.1;omega
  show muT _ _ _ _ _+1≤muG _ _ _ _ _∧(Fresh _ _ _ _ _→muT _ _ _ _ _+1=muG _ _ _ _ _∧Fresh _ _ _ _ _)
  rw [muGY hlen hde,muT0,t0_same j1,if_neg hΦ1]
  exact ⟨by omega,fun hf=>⟨by omega,.inl rfl,hf.2⟩⟩
 | gP hv hg =>
  rename_i d V
  have hΦ:=hstill (by intros;intro e;cases e)
  subst hΦ
  obtain ⟨j1,j2⟩:=js_same hw S rfl
  have hlen:=vlen hv
  obtain ⟨q1,q2,q3,q4⟩:=(show OnLd _ _ _ _ _ _ from hi).2 hlen
  show jl (Φ'=0) (t0 c Φ' js') (g0 c Φ' js') .head+1≤muG _ _ _ _ _∧(Fresh _ _ _ _ _→jl (Φ'=0) (t0 c Φ' js') (g0 c Φ' js') .head+1=muG _ _ _ _ _∧Fresh _ _ _ _ _)
  rw [t0_same j1,g0_same j1 j2,jl_head]
  by_cases hd:d=js (c.i+1)
  ·have hΦ0:Φ'=0:=by
    have:=hw.g1
    rw [← hd,hv] at this
    by_cases e:Φ'=0
    ·exact e
    ·rw [if_neg e] at this
     obtain rfl:=Option.some.inj this
     cases hg
   rw [muGY hlen hd,if_pos hΦ0,if_pos hΦ0]
   exact ⟨by omega,fun _=>⟨by omega,fun e=>e,by omega,fun _=>hΦ0,fun e=>by omega⟩⟩
  ·have hΦ1:Φ'≠0:=fun e=>by
    have hgl:=hw.gl
    rw [if_pos e] at hgl
    exact hd (q3.eq_of_length (by have:=q3.length_le;omega))
   rw [muGN hlen hd,if_neg hΦ1]
   exact ⟨by omega,fun hf=>by rcases hf.1 with e | e;omega;exact absurd e hd⟩
 | t0 h =>
  have hΦ:=hstill (by intros;intro e;cases e)
  subst hΦ
  obtain ⟨j1,j2⟩:=js_same hw S rfl
  obtain ⟨hd,_⟩:=onpage_at hw (p:=c.i) (by omega) k6 h
  subst hd
  show muT _ _ _ _ _+1≤muT _ _ _ _ _∧(Fresh _ _ _ _ _→muT _ _ _ _ _+1=muT _ _ _ _ _∧Fresh _ _ _ _ _)
  rw [muT0,muTY (by omega) j1.symm]
  unfold t0
  exact ⟨by omega,fun hf=>⟨by omega,.inr j1.symm,hf.2⟩⟩
 | tn h0 h =>
  rename_i p d s0 g0'
  have hΦ:=hstill (by intros;intro e;cases e)
  subst hΦ
  obtain ⟨j1,j2⟩:=js_same hw S rfl
  show muT _ _ _ _ _+1≤muT _ _ _ _ _∧(Fresh _ _ _ _ _→muT _ _ _ _ _+1=muT _ _ _ _ _∧Fresh _ _ _ _ _)
  by_cases hd:d=js c.i
  ·rw [muTY h0 hd,muTY (by omega) (hd.trans j1.symm)]
   exact ⟨by omega,fun hf=>⟨by omega,.inr (hd.trans j1.symm),hf.2⟩⟩
  ·rw [muTN h0 hd,muTN (by omega) (by rw [j1];exact hd),t0_same j1]
   exact ⟨by omega,fun hf=>by rcases hf.1 with e | e;omega;exact absurd e hd⟩
 | tD hv hd' =>
  rename_i d s0 g0' V
  have hΦ:=hstill (by intros;intro e;cases e)
  subst hΦ
  obtain ⟨j1,j2⟩:=js_same hw S rfl
  have hlen:=vlen hv
  have h2:2≤Φ':=(show HJ2 _ _ _ _ _ _ _ _ _ _ from hhi).2.2.2.2.1
  show jl (Φ' < 3) 0 0 .head+1≤muT _ _ _ _ _∧(Fresh _ _ _ _ _→jl (Φ' < 3) 0 0 .head+1=muT _ _ _ _ _∧Fresh _ _ _ _ _)
  rw [jl_d3]
  by_cases hd:d=js c.i
  ·rw [muTY hlen hd,if_neg (by omega)]
   exact ⟨by omega,fun hf=>⟨by omega,fun e=>e,hf.2,fun e=>by omega,fun e=>by omega⟩⟩
  ·rw [muTN hlen hd]
   exact ⟨by omega,fun hf=>by rcases hf.1 with e | e;omega;exact absurd e hd⟩
 | tM hv hd' =>
  rename_i d s0 g0' V
  have hΦ:=hstill (by intros;intro e;cases e)
  subst hΦ
  obtain ⟨j1,j2⟩:=js_same hw S rfl
  have hlen:=vlen hv
  obtain ⟨_,_,_,hol⟩:=hi
  obtain ⟨q1,q2,q3,q4⟩:=hol.2 hlen
  show jl (x.ps[c.i]?=some (true,s0,g0')) 2 (t0 c Φ' js') .head+1≤muT _ _ _ _ _∧(Fresh _ _ _ _ _→jl (x.ps[c.i]?=some (true,s0,g0')) 2 (t0 c Φ' js') .head+1=muT _ _ _ _ _∧Fresh _ _ _ _ _)
  rw [t0_same j1,jl_head]
  by_cases hd:d=js c.i
  ·have hh:x.ps[c.i]?=some (true,s0,g0'):=by rw [hd] at q1;exact head_of hw (by omega) q1
   have hΦ1:Φ'≤1:=by
    by_cases h1:Φ'≤1
    ·exact h1
    ·exfalso
     have:=hw.p1
     rw [if_neg h1,← hd] at this
     rcases this with hp | ⟨q,hq,hp⟩
     ·rw [hp] at hv
      obtain rfl:=Option.some.inj hv
      have:=hd'.1
      rw [k5] at this
      have h2:inS c.low c.VG.high c.VG.unb c.key=false:=this
      rw [hc.k2] at h2
      cases h2
     ·rw [hp] at hv
      obtain rfl:=Option.some.inj hv
      have:=hd'.2.2.2
      rw [k4] at this
      exact hq.1 this
   rw [muTY hlen hd,if_pos hh,if_pos hΦ1,d3_lt (by omega)]
   exact ⟨by omega,fun hf=>⟨by omega,fun e=>e,hf.2,fun e=>by omega,fun _=>hh⟩⟩
  ·have hh:¬ x.ps[c.i]?=some (true,s0,g0'):=fun e=>by
    obtain ⟨s1,g1,r1,r2,r3⟩:=hw.pg c.i (by omega)
    obtain ⟨e1,e2⟩:=ps_head r1 e
    subst e1
    subst e2
    exact hd (sfx_all r2 q1)
   rw [muTN hlen hd,if_neg hh]
   exact ⟨by omega,fun hf=>by rcases hf.1 with e | e;omega;exact absurd e hd⟩
 | jA ha =>
  rename_i t page os og R s g ss'
  have hΦ:=hstill (by intros;intro e;cases e)
  subst hΦ
  obtain ⟨j1,j2⟩:=js_same hw S rfl
  have he:muJ c Φ' { x with ss:=ss' } js' os og (.swap s g) t+1=muJ c Φ' x js os og .head t:=by
   match t with
   | 0 =>
    show jl (Φ'=0) (t0 c Φ' js') (g0 c Φ' js') (.swap s g)+1=jl (Φ'=0) (t0 c Φ' js) (g0 c Φ' js) .head
    rw [t0_same j1,g0_same j1 j2];exact jl_next
   | 1 =>
    show jl (x.ps[c.i]?=some (true,os,og)) 2 (t0 c Φ' js') (.swap s g)+1=jl (x.ps[c.i]?=some (true,os,og)) 2 (t0 c Φ' js) .head
    rw [t0_same j1];exact jl_next
   | t+2=>exact jl_next (s:=s) (g:=g)
  exact ⟨Nat.le_of_eq he,fun hf=>⟨he,fun e=>e,hf.2⟩⟩
 | jY hsw =>
  rename_i t page os og R s g ps'
  match t,hi,S,hhi,hstill with
  | 0,hi,S,hhi,hstill =>
   have hh:=(show HJ0 c Φ x js H page os og R (.swap s g) from hi)
   obtain ⟨s1,g1,q1,q2,q3⟩:=hw.pg (c.i+1) hM
   obtain ⟨_,⟨_,e1,e2,_⟩ | ⟨e,_⟩⟩:=swap_used13 hsw (by rw [hh.1];push_cast;rfl) q1
   rotate_left
   ·cases e
   subst e1
   subst e2
   obtain ⟨d,d1,d2,d3',d4⟩:=hh.2.2.2.1
   have hd:=sfx_all q2 d1
   have hΦ0:Φ=0:=by
    have:=hw.g1
    rw [← hd,d4] at this
    by_cases e:Φ=0
    ·exact e
    ·rw [if_neg e] at this
     have h2:c.VG.gone=true:=congrArg Lw.gone (Option.some.inj this)
     rw [hc.ng] at h2
     cases h2
   have hΦ1:Φ'=1:=by
    have h1:1≤Φ':=hhi.1
    rcases S.fp with e | ⟨e,_⟩ <;> omega
   have hpl:=S.pl
   rw [if_neg (by omega)] at hpl
   show muT c Φ' js' 0 []+1≤jl (Φ=0) (t0 c Φ js) (g0 c Φ js) (.swap s g)∧(_→muT c Φ' js' 0 []+1=jl (Φ=0) (t0 c Φ js) (g0 c Φ js) (.swap s g)∧Fresh c Φ' _ js' (.taking 0 [] 0 0))
   rw [muT0,jl_swap,if_pos hΦ0]
   unfold t0
   rw [hpl,if_pos (by omega),if_pos (by omega),d3_lt (by omega),d3_lt (by omega)]
   exact ⟨by omega,fun _=>⟨by omega,.inl rfl,by omega⟩⟩
  | 1,hi,S,hhi,hstill =>
   have hh:=(show HJ1 c Φ x js H page os og R (.swap s g) from hi)
   obtain ⟨s1,g1,q1,q2,q3⟩:=hw.pg c.i (by omega)
   obtain ⟨_,⟨_,e1,e2,_⟩ | ⟨e,_⟩⟩:=swap_used13 hsw hh.1 q1
   rotate_left
   ·cases e
   subst e1
   subst e2
   obtain ⟨d,L,d1,d2,d3',d4,d5⟩:=hh.2.2.2.2.2.1
   have hd:=sfx_all q2 d1
   have hΦ0:Φ≤1:=by
    have:=hw.p1
    by_cases e:Φ≤1
    ·exact e
    ·rw [if_neg e,← hd] at this
     exact (pre_post hc d5 this).elim
   have hΦ1:Φ'=2:=by
    have h1:2≤Φ':=(show HJ2 _ _ _ _ _ _ _ _ _ _ from hhi).2.2.2.2.1
    rcases S.fp with e | ⟨e,_⟩ <;> omega
   show jl (Φ' < 3) 0 0 .head+1≤jl (x.ps[c.i]?=some (true,s1,g1)) 2 (t0 c Φ js) (.swap s g)∧(_→jl (Φ' < 3) 0 0 .head+1=jl (x.ps[c.i]?=some (true,s1,g1)) 2 (t0 c Φ js) (.swap s g)∧Fresh c Φ' _ js' (.job 2 _ _ _ _ .head))
   rw [jl_d3,d3_lt (by omega),jl_swap,if_pos q1]
   exact ⟨by omega,fun _=>⟨by omega,fun e=>e,by omega,fun e=>by omega,fun e=>by omega⟩⟩
  | t+2,hi,S,hhi,hstill =>
   have ht:t=0:=by
    match t,hi with
    | 0,_=>rfl
    | t+1,hi=>exact (show False from hi).elim
   subst ht
   have hov:=S.ov.1 rfl
   show 0+1≤jl (Φ < 3) 0 0 (.swap s g)∧(_→0+1=jl (Φ < 3) 0 0 (.swap s g)∧True)
   rw [jl_swap,if_pos (by omega)]
   exact ⟨by omega,fun _=>⟨by omega,trivial⟩⟩
 | jN hsw =>
  rename_i t page os og R s g ps'
  match t,hi,S,hhi,hstill with
  | 0,hi,S,hhi,hstill =>
   have hh:=(show HJ0 c Φ x js H page os og R (.swap s g) from hi)
   obtain ⟨s1,g1,q1,q2,q3⟩:=hw.pg (c.i+1) hM
   obtain ⟨_,⟨e,_⟩ | ⟨_,e1,e2⟩⟩:=swap_used13 hsw (by rw [hh.1];push_cast;rfl) q1
   ·cases e
   have hΦ:=still_phi hc hw S.wd e2 rfl
   subst hΦ
   obtain ⟨j1,j2⟩:=js_same hw S rfl
   obtain ⟨d,d1,d2,d3',d4⟩:=hh.2.2.2.1
   have hf:¬ Φ'=0:=fun e=>by
    have hgl:=hw.gl
    rw [if_pos e] at hgl
    have:=List.length_pos_iff.2 d2
    have hd:=d3'.eq_of_length (by have:=d3'.length_le;omega)
    subst hd
    obtain ⟨r1,r2⟩:=links_ref d2 q2 d1
    exact e1 ⟨r1,r2⟩
   show jl (Φ'=0) (t0 c Φ' js') (g0 c Φ' js') (.free s g)+1≤jl (Φ'=0) (t0 c Φ' js) (g0 c Φ' js) (.swap s g)∧(_→_=jl (Φ'=0) (t0 c Φ' js) (g0 c Φ' js) (.swap s g)∧_)
   rw [g0_same j1 j2,jl_free,jl_swap,if_neg hf]
   exact ⟨by omega,fun h=>absurd (h.2.2.1 rfl) hf⟩
  | 1,hi,S,hhi,hstill =>
   have hh:=(show HJ1 c Φ x js H page os og R (.swap s g) from hi)
   obtain ⟨s1,g1,q1,q2,q3⟩:=hw.pg c.i (by omega)
   obtain ⟨_,⟨e,_⟩ | ⟨_,e1,e2⟩⟩:=swap_used13 hsw hh.1 q1
   ·cases e
   have hΦ:=still_phi hc hw S.wd e2 rfl
   subst hΦ
   obtain ⟨j1,j2⟩:=js_same hw S rfl
   have hf:¬ x.ps[c.i]?=some (true,os,og):=fun e=>by
    obtain ⟨r1,r2⟩:=ps_head q1 e
    exact e1 ⟨by omega,by omega⟩
   show jl (ps'[c.i]?=some (true,os,og)) 2 (t0 c Φ' js') (.free s g)+1≤jl (x.ps[c.i]?=some (true,os,og)) 2 (t0 c Φ' js) (.swap s g)∧(_→_=jl (x.ps[c.i]?=some (true,os,og)) 2 (t0 c Φ' js) (.swap s g)∧_)
   rw [t0_same j1,jl_free,jl_swap,if_neg hf]
   exact ⟨by omega,fun h=>absurd (h.2.2.2 rfl) hf⟩
  | t+2,hi,S,hhi,hstill =>
   have ht:t=0:=by
    match t,hi with
    | 0,_=>rfl
    | t+1,hi=>exact (show False from hi).elim
   subst ht
   have hh:=(show HJ2 c Φ x js H page os og R (.swap s g) from hi)
   obtain ⟨s1,g1,q1,q2,q3⟩:=hw.pg 0 (by omega)
   obtain ⟨_,⟨e,_⟩ | ⟨_,e1,e2⟩⟩:=swap_used13 hsw hh.1 q1
   ·cases e
   have hf:¬ Φ < 3:=fun e=>by
    obtain ⟨r1,r2⟩:=ps_head q1 (hw.h0 e)
    exact e1 ⟨by rw [hh.2.1];omega,by rw [hh.2.2.1];omega⟩
   show jl (Φ' < 3) 0 0 (.free s g)+1≤jl (Φ < 3) 0 0 (.swap s g)∧(_→_=jl (Φ < 3) 0 0 (.swap s g)∧_)
   rw [jl_free,jl_swap,if_neg hf]
   exact ⟨by omega,fun h=>absurd h.2.1 hf⟩
 | jF hfr =>
  rename_i t page os og R s g cc ss'
  have hΦ:=hstill (by intros;intro e;cases e)
  subst hΦ
  obtain ⟨j1,j2⟩:=js_same hw S rfl
  have he:mu c Φ' { x with ss:=ss' } js' (afterJ H t false)+1≤muJ c Φ' x js os og (.free s g) t:=by
   match t with
   | 0 =>
    show muG c Φ' js' 0 []+1≤jl (Φ'=0) (t0 c Φ' js) (g0 c Φ' js) (.free s g)
    rw [muG0,jl_free,g0_same j1 j2];omega
   | 1 =>
    show muT c Φ' js' 0 []+1≤jl (x.ps[c.i]?=some (true,os,og)) 2 (t0 c Φ' js) (.free s g)
    rw [muT0,jl_free,t0_same j1];omega
   | t+2 =>
    show 0+1≤jl (Φ' < 3) 0 0 (.free s g)
    rw [jl_free];omega
  exact ⟨he,fun hf=>absurd trivial hf.1⟩
end
open Go.RowKit

structure Lay (x:St) (js:Nat→List Nat) (rs:Nat→List Rc) (M N u:Nat) (gm:Int):Prop where
  pg:∀ p,p < M→∃ s g,x.ps[p]?=some (true,s,g)∧Links x.ss (js p) s g
  fr:∀ p,M≤p→∀ q,x.ps[p]?=some q→q.1=false
  ou:∀ p,M≤p→js p=[]
  us:∀ p,∀ j ∈ js p,∃ y,x.ss[j]?=some y∧y.used=true
  rc:∀ p,(js p).map (recOf x.ss)=rs p
  rm:Room x N u gm
section
variable {x:St} {js:Nat→List Nat} {rs:Nat→List Rc} {M N u:Nat} {gm:Int}
theorem Lay.take (h:Lay x js rs M N u gm) (hM:M < x.ps.length) {n c:Int} {ps':List Pg} (ht:TakeR x.ps n c ps'):n=(M:Int)∧c=0∧ps'.length=x.ps.length∧ps'[M]?=some (true,0,0)∧Lay { x with ps:=ps' } js rs (M+1) N u gm:=by
  obtain ⟨q,hq⟩:∃ q,x.ps[M]?=some q:=⟨_,List.getElem?_eq_getElem hM⟩
  have hq1:=h.fr M (Nat.le_refl _) q hq
  rcases ht with ⟨i,s,g,h1,h2,rfl,rfl,rfl⟩ | ⟨h1,_⟩
  · have hi:i=M:=by
      rcases Nat.lt_trichotomy i M with h3 | h3 | h3
      · obtain ⟨s',g',e,_⟩:=h.pg i h3
        rw [h1] at e
        cases e
      · exact h3
      · have:=h2 M q h3 hq
        rw [hq1] at this
        cases this
    subst hi
    have hset:∀ p,p≠i→(x.ps.set i (true,0,0))[p]?=x.ps[p]?:=fun p hp=>List.getElem?_set_ne (fun e=>hp e.symm)
    have hsi:(x.ps.set i (true,0,0))[i]?=some (true,0,0):=by rw [List.getElem?_set_self hM]
    refine ⟨rfl,rfl,List.length_set,hsi,⟨fun p hp=>?_,fun p hp q hq=>?_,fun p hp=>h.ou p (by omega),h.us,h.rc,h.rm.ps _⟩⟩
    · by_cases e:p=i
      · subst e
        refine ⟨0,0,hsi,?_⟩
        rw [h.ou p (Nat.le_refl _)]
        exact ⟨rfl,rfl⟩
      · obtain ⟨s',g',k1,k2⟩:=h.pg p (by omega)
        exact ⟨s',g',(hset p e).trans k1,k2⟩
    · have hq':(x.ps.set i (true,0,0))[p]?=some q:=hq
      rw [hset p (by omega)] at hq'
      exact h.fr p (by omega) q hq'
  · have:=h1 M q hq
    rw [hq1] at this
    cases this
theorem Lay.alloc (h:Lay x js rs M N u gm) {last:Int} {R:Rc} {sl gn:Int} {ss':List Sl} (ha:AllocR last x.ss R sl gn 0 ss'):Lay { x with ss:=ss' } js rs M N (u+1) (gm+1)∧Loose { x with ss:=ss' } js sl gn R:=by
  obtain ⟨ad,lo⟩:=adv_alloc h.us ha 0
  have hz:∀ p,∀ j ∈ js p,(j:Int)+1≠0:=fun _ _ _=>by omega
  refine ⟨⟨fun p hp=>?_,h.fr,h.ou,fun p j hj=>?_,fun p=>?_,h.rm.alloc ha⟩,lo⟩
  · obtain ⟨s,g,k1,k2⟩:=h.pg p hp
    exact ⟨s,g,k1,(ad.links k2 (hz p)).1⟩
  · obtain ⟨y,k1,k2⟩:=h.us p j hj
    exact ⟨y,ad.sl j y k1 k2 (hz p j hj),k2⟩
  · rw [← h.rc p]
    refine List.map_congr_left fun j hj=>?_
    obtain ⟨y,k1,k2⟩:=h.us p j hj
    have:=ad.sl j y k1 k2 (hz p j hj)
    unfold recOf
    rw [slotD k1,slotD this]
theorem Lay.swap (h:Lay x js rs M N u gm) {s g:Int} {R:Rc} (hl:Loose x js s g R) {p:Nat} (hp:p < M) {d:List Nat} (hd:d=[]∧R.nslot=0∧R.ngen=0∨d=js p) {a b:Int} (hh:x.ps[p]?=some (true,a,b)) (hn:d=js p→R.nslot=a∧R.ngen=b) {n:Int} (hpn:n=(p:Int)) {ok:Bool} {k:Int} {ps':List Pg} (hs:SwapR x.ps n a b s g ok k ps') :
    ok=true∧k=0∧ps'.length=x.ps.length∧ps'[p]?=some (true,s,g)∧∃ i:Nat,s=(i:Int)+1∧Lay { x with ps:=ps' } (fun q=>if q=p then i :: d else js q) (fun q=>if q=p then R :: d.map (recOf x.ss) else rs q) M N u gm:=by
  obtain ⟨hk,⟨rfl,_,_,rfl⟩ | ⟨_,e,_⟩⟩:=swap_used13 hs hpn hh
  rotate_left
  · exact absurd ⟨rfl,rfl⟩ e
  have hpl:=(List.getElem?_eq_some_iff.1 hh).1
  have hset:∀ q,q≠p→(x.ps.set p (true,s,g))[q]?=x.ps[q]?:=fun q hq=>List.getElem?_set_ne (fun e=>hq e.symm)
  have hsi:(x.ps.set p (true,s,g))[p]?=some (true,s,g):=by rw [List.getElem?_set_self hpl]
  obtain ⟨i,y,e1,e2,e3,e4,e5,e6⟩:=hl
  have hdl:Links x.ss d R.nslot R.ngen:=by
    rcases hd with ⟨h1,h2,h3⟩ | h1
    · rw [h1,h2,h3];exact ⟨rfl,rfl⟩
    · obtain ⟨s',g',k1,k2⟩:=h.pg p hp
      obtain ⟨n1,n2⟩:=hn h1
      rw [hh] at k1
      rw [h1,n1,n2]
      injection Option.some.inj k1 with _ q
      injection q with q3 q4
      rw [q3,q4]
      exact k2
  refine ⟨rfl,hk,List.length_set,hsi,i,e1,⟨fun q hq=>?_,fun q hq v hv=>?_,fun q hq=>?_,fun q j hj=>?_,fun q=>?_,h.rm.ps _⟩⟩
  · by_cases e:q=p
    · subst e
      refine ⟨s,g,hsi,?_⟩
      show Links x.ss (if q=q then i :: d else js q) s g
      rw [if_pos rfl]
      exact ⟨e1,y,e2,e3,e4,by rw [e5];exact hdl⟩
    · obtain ⟨s',g',k1,k2⟩:=h.pg q hq
      refine ⟨s',g',(hset q e).trans k1,?_⟩
      show Links x.ss (if q=p then i :: d else js q) s' g'
      rw [if_neg e]
      exact k2
  · have hv':(x.ps.set p (true,s,g))[q]?=some v:=hv
    rw [hset q (by omega)] at hv'
    exact h.fr q hq v hv'
  · show (if q=p then i :: d else js q)=[]
    rw [if_neg (by omega)]
    exact h.ou q hq
  · have hj':j ∈ (if q=p then i :: d else js q):=hj
    by_cases e:q=p
    · rw [if_pos e] at hj'
      rcases List.mem_cons.1 hj' with rfl | hj'
      · exact ⟨y,e2,e3⟩
      · rcases hd with ⟨h1,_⟩ | h1
        · rw [h1] at hj';cases hj'
        · rw [h1] at hj';exact h.us p j hj'
    · rw [if_neg e] at hj'
      exact h.us q j hj'
  · show (if q=p then i :: d else js q).map (recOf x.ss)=if q=p then R :: d.map (recOf x.ss) else rs q
    by_cases e:q=p
    · rw [if_pos e,if_pos e,List.map_cons]
      unfold recOf
      rw [slotD e2,e5]
    · rw [if_neg e,if_neg e]
      exact h.rc q
end
theorem lay_new {x:St} {s p:Nat} {vr ve:Value} (hs:1≤s) (e1:x.ss=⟨1,true,leafR,vr,ve⟩ :: List.replicate (s - 1) Sl.zero) (e2:x.ps=(true,1,1) :: List.replicate (p - 1) (false,0,0)) :
    Lay x (fun q=>if q=0 then [0] else []) (fun q=>if q=0 then [leafR] else []) 1 s 1 1:=by
  have h0:x.ss[0]?=some ⟨1,true,leafR,vr,ve⟩:=by rw [e1];rfl
  refine ⟨fun q hq=>?_,fun q hq v hv=>?_,fun q hq=>if_neg (by omega),fun q j hj=>?_,fun q=>?_,?_,?_,fun j y hy=>?_⟩
  · obtain rfl:q=0:=by omega
    refine ⟨1,1,by rw [e2];rfl,?_⟩
    show Links x.ss (if 0=0 then [0] else []) 1 1
    rw [if_pos rfl]
    exact ⟨rfl,_,h0,rfl,rfl,rfl,rfl⟩
  · obtain ⟨q,rfl⟩:∃ r,q=r+1:=⟨q - 1,by omega⟩
    rw [e2,List.getElem?_cons_succ] at hv
    have:=List.mem_of_getElem? hv
    rw [List.eq_of_mem_replicate this]
  · by_cases e:q=0
    · rw [if_pos e] at hj
      obtain rfl:j=0:=by simpa using hj
      exact ⟨_,h0,rfl⟩
    · rw [if_neg e] at hj;cases hj
  · by_cases e:q=0
    · rw [if_pos e,if_pos e]
      show [recOf x.ss 0]=_
      unfold recOf
      rw [slotD h0]
    · rw [if_neg e,if_neg e];rfl
  · rw [e1];simp;omega
  · rw [e1]
    have:∀ n,usedN (List.replicate n Sl.zero)=0:=fun n=>by
      unfold usedN
      rw [List.countP_eq_zero]
      intro a ha
      rw [List.eq_of_mem_replicate ha]
      decide
    unfold usedN at this ⊢
    rw [List.countP_cons,this]
    rfl
  · rw [e1] at hy
    cases j with
    | zero => obtain rfl : _ = y := by simpa using hy
              exact Int.le_refl 1
    | succ j =>
      rw [List.getElem?_cons_succ] at hy
      rw [List.eq_of_mem_replicate (List.mem_of_getElem? hy)]
      decide
end Go.Proofs.YthpkbppaaagaoaaGreat
