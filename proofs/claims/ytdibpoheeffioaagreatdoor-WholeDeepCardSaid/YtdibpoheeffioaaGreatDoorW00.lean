/- Part 0 of the proof that WholeDeep returns true; no condition. -/
import Derived.Orders
import Derived.Tactics
import Derived.Defers
import Derived.OrdersHeld
import Derived.Laws.Pointers
import Derived.Laws.Strings
import Derived.Laws.Slices
import Derived.Laws.Cells
import Derived.Laws.Append
import Derived.Laws.Concat
import Derived.Laws.Build
import Derived.Laws.Entries
import Derived.Test.YtdibpoheeffioaaGreatDoorProg
import Derived.KernelRfl
import Derived.Laws.BytesString
import Derived.Laws.IdiomStrings
import Derived.Lib.Bytealg
import Derived.Laws.Externs
import Derived.Laws.StructEq
import Derived.Lib.UnsafeStr
import Derived.Recover
import Derived.Laws.LoneSync
namespace Go.Proofs.YtdibpoheeffioaaGreatDoor
set_option linter.all false
section
open Go
abbrev Hp:=Nat→Option Obj
def Sub (m m':Hp):Prop:=∀b o,m b=some o→m' b=some o
theorem Sub.refl (m:Hp):Sub m m:=fun _ _ h=>h
theorem Sub.trans {a b c:Hp} (h:Sub a b) (h':Sub b c):Sub a c:=fun x o hx=>h' x o (h x o hx)
structure Rp where
  m:Hp
  os:Os
  out:Array (Nat×ByteArray)
instance : CoeFun Rp (fun _=>Nat→Option Obj):=⟨Rp.m⟩
def SubR (a b:Rp):Prop:=Sub a.m b.m∧a.os=b.os∧a.out=b.out
theorem SubR.refl (m:Rp):SubR m m:=⟨Sub.refl _,rfl,rfl⟩
def RoOk (ro:Rp) (w:World):Prop:=(∀b o,ro b=some o→w.heap[b]?=some o)∧ro.os=w.os∧ro.out=w.output
structure HProp where
  h:Rp→Hp→Prop
  mono:∀ {ro ro':Rp} {rw rw':Hp},SubR ro ro'→Sub rw rw'→h ro rw→h ro' rw'
def Splits (m m1 m2:Hp):Prop:=∀b,(m1 b=none∧m b=m2 b)∨(m2 b=none∧m b=m1 b)
theorem Splits.comm {m m1 m2:Hp} (h:Splits m m1 m2):Splits m m2 m1:=fun b=>(h b).symm
theorem Splits.left {m m1 m2:Hp} (h:Splits m m1 m2):Sub m1 m:=fun b o hb=>by
  rcases h b with ⟨h1,h2⟩ | ⟨h1,h2⟩<;>simp_all
theorem Splits.right {m m1 m2:Hp} (h:Splits m m1 m2):Sub m2 m:=h.comm.left
theorem Splits.none_left (m:Hp):Splits m (fun _=>none) m:=fun _=>.inl ⟨rfl,rfl⟩
theorem Splits.rot {m m1 m2 a b:Hp} (h:Splits m m1 m2) (h':Splits m2 a b):∃c,Splits m a c∧Splits c m1 b:=by
  refine ⟨fun x=>match m1 x with | some o=>some o | none=>b x,fun x=>?_,fun x=>?_⟩
  · rcases h x with ⟨h1,h2⟩ | ⟨h1,h2⟩<;>rcases h' x with ⟨h3,h4⟩ | ⟨h3,h4⟩<;>simp_all
    · cases hm:m1 x<;>simp_all
    · cases hm:m1 x<;>simp_all
  · rcases h x with ⟨h1,h2⟩ | ⟨h1,h2⟩<;>rcases h' x with ⟨h3,h4⟩ | ⟨h3,h4⟩<;>simp_all
    · cases hm:m1 x<;>simp_all
    · cases hm:m1 x<;>simp_all
theorem Splits.grow {m m' m1 m2:Hp} (h:Splits m m1 m2) (hs:Sub m m'):∃c,Sub m1 c∧Splits m' c m2:=by
  refine ⟨fun x=>match m2 x with | some _=>none | none=>m' x,fun b o hb=>?_,fun b=>?_⟩
  · rcases h b with ⟨h1,h2⟩ | ⟨h1,h2⟩
    · simp_all
    · simp only [h1];exact hs b o (by rw [h2];exact hb)
  · cases hm:m2 b with
    | none=>right;exact ⟨rfl,by simp only [hm]⟩
    | some o =>
      left;refine ⟨by simp only [hm],?_⟩;rcases h b with ⟨h1,h2⟩ | ⟨h1,h2⟩
      · exact hs b o (by rw [h2];exact hm)
      · simp_all
def star:List HProp→Rp→Hp→Prop
  | [],_,_=>True
  | A::L,ro,rw=>∃m1 m2,Splits rw m1 m2∧A.h ro m1∧star L ro m2
theorem zy {ro ro':Rp} (hr:SubR ro ro'):∀ {L:List HProp} {rw rw':Hp},Sub rw rw'→star L ro rw→star L ro' rw'
  | [],_,_,_,_=>trivial
  | A::_,_,_,hw,⟨_,m2,hs,ha,hl⟩ =>
    let ⟨c,h1,h2⟩:=hs.grow hw
    ⟨c,m2,h2,A.mono hr h1 ha,zy hr (Sub.refl _) hl⟩
def pt (b:Nat) (o:Obj):HProp:=⟨fun _ rw=>rw b=some o,fun _ h=>h _ _⟩
def rd (b:Nat) (o:Obj):HProp:=⟨fun ro _=>ro b=some o,fun h _=>h.1 _ _⟩
def ex {α:Sort _} (f:α→HProp):HProp:=⟨fun ro rw=>∃x,(f x).h ro rw,fun h h' ⟨x,hx⟩=>⟨x,(f x).mono h h' hx⟩⟩
def lift (p:Prop):HProp:=⟨fun _ _=>p,fun _ _ h=>h⟩
def box (L:List HProp):HProp:=⟨star L,fun h h'=>zy h h'⟩
def Ent (L L':List HProp):Prop:=∀ro rw,star L ro rw→star L' ro rw
theorem Ent.refl {L:List HProp}:Ent L L:=fun _ _ h=>h
theorem Ent.trans {L M N:List HProp} (h:Ent L M) (h':Ent M N):Ent L N:=fun _ _ x=>h' _ _ (h _ _ x)
theorem Ent.cons {L L':List HProp} {A:HProp} (h:Ent L L'):Ent (A::L) (A::L') :=
  fun _ _ ⟨m1,m2,hs,ha,hl⟩=>⟨m1,m2,hs,ha,h _ _ hl⟩
theorem Ent.drop {L:List HProp} {A:HProp}:Ent (A::L) L :=
  fun _ _ ⟨_,_,hs,_,hl⟩=>zy (SubR.refl _) hs.right hl
theorem Ent.nil {L:List HProp}:Ent L []:=fun _ _ _=>trivial
theorem Ent.swap {L:List HProp} {A B:HProp}:Ent (A::B::L) (B::A::L) :=
  fun _ _ ⟨m1,_,hs,ha,n1,n2,hs',hb,hl⟩ =>
    let ⟨c,h1,h2⟩:=hs.rot hs'
    ⟨n1,c,h1,hb,m1,n2,h2,ha,hl⟩
def Sat (L:List HProp) (w:World):Prop :=
  ∃(ro:Rp) (rw:Hp),RoOk ro w∧(∀b o,rw b=some o→w.heap[b]?=some o)∧(∀b,ro b=none∨rw b=none)∧star L ro rw
theorem Ent.sat {L L':List HProp} (h:Ent L L') {w:World}:Sat L w→Sat L' w :=
  fun ⟨ro,rw,h1,h2,h3,h4⟩=>⟨ro,rw,h1,h2,h3,h _ _ h4⟩
inductive Sel:List HProp→HProp→List HProp→Prop
  | here {A L}:Sel (A::L) A L
  | there {A B L L'}:Sel L A L'→Sel (B::L) A (B::L')
theorem Sel.ent {L L':List HProp} {A:HProp} (h:Sel L A L'):Ent L (A::L'):=by
  induction h with
  | here=>exact .refl
  | there _ ih=>exact ih.cons.trans .swap
inductive Pm:List HProp→List HProp→Prop
  | refl {L}:Pm L L
  | cons {L A L' M}:Sel L A L'→Pm L' M→Pm L (A::M)
  | drop {L A M}:Pm L M→Pm (A::L) M
  | nil {L}:Pm L []
theorem Pm.ent {L L':List HProp} (h:Pm L L'):Ent L L':=by
  induction h with
  | refl=>exact .refl
  | cons s _ ih=>exact s.ent.trans ih.cons
  | drop _ ih=>exact Ent.drop.trans ih
  | nil=>exact .nil
theorem wF {L M:List HProp}:Ent (box L::M) (L++M):=by
  intro ro rw h;obtain ⟨m1,m2,hs,hl,hm⟩:=h
  induction L generalizing rw m1 with
  | nil=>exact zy (SubR.refl _) hs.right hm
  | cons A L ih =>
    obtain ⟨a,b,hs',ha,hl'⟩:=hl;obtain ⟨c,h1,h2⟩:=hs.comm.rot hs';exact ⟨a,c,h1,ha,ih c b h2.comm hl'⟩
theorem wi {L M:List HProp}:Ent (L++M) (box L::M):=by
  induction L with
  | nil=>exact fun ro rw h=>⟨fun _=>none,rw,.none_left _,trivial,h⟩
  | cons A L ih =>
    rintro ro rw ⟨m1,m2,hs,ha,hl⟩;obtain ⟨a,b,hs',hl',hm⟩:=ih ro m2 hl;obtain ⟨c,h1,h2⟩:=hs.rot hs'.comm;exact ⟨c,b,h1.comm,⟨m1,a,h2,ha,hl'⟩,hm⟩
theorem yb {α:Sort _} {f:α→HProp} {L:List HProp} {w:World} (h:Sat (ex f::L) w):∃x,Sat (f x::L) w :=
  let ⟨ro,rw,h1,h2,h3,m1,m2,hs,⟨x,hx⟩,hl⟩:=h
  ⟨x,ro,rw,h1,h2,h3,m1,m2,hs,hx,hl⟩
theorem ye {α:Sort _} {f:α→HProp} {L:List HProp} (x:α):Ent (f x::L) (ex f::L) :=
  fun _ _ ⟨m1,m2,hs,hx,hl⟩=>⟨m1,m2,hs,⟨x,hx⟩,hl⟩
theorem yn {p:Prop} {L:List HProp} {w:World} (h:Sat (lift p::L) w):p∧Sat L w :=
  ⟨let ⟨_,_,_,_,_,_,_,_,hp,_⟩:=h;hp,Ent.drop.sat h⟩
theorem yZ {p:Prop} {L:List HProp} (hp:p):Ent L (lift p::L) :=
  fun _ rw hl=>⟨fun _=>none,rw,.none_left _,hp,hl⟩
def HasP (L:List HProp) (b:Nat) (o:Obj):Prop:=∀w,Sat L w→w.heap[b]?=some o
class Has (L:List HProp) (b:Nat) (o:outParam Obj):Prop where
  out:HasP L b o
theorem Sat.tail {A:HProp} {L:List HProp} {w:World} (h:Sat (A::L) w):Sat L w:=Ent.drop.sat h
theorem xN {b:Nat} {o:Obj} {L:List HProp} {w:World} (h:Sat (pt b o::L) w):w.heap[b]?=some o :=
  let ⟨_,_,_,h2,_,_,_,hs,ha,_⟩:=h
  h2 b o (hs.left b o ha)
theorem sat_rd {b:Nat} {o:Obj} {L:List HProp} {w:World} (h:Sat (rd b o::L) w):w.heap[b]?=some o :=
  let ⟨_,_,h1,_,_,_,_,_,ha,_⟩:=h
  h1.1 b o ha
instance (priority:=high) has_pt {b:Nat} {o:Obj} {L:List HProp}:Has (pt b o::L) b o:=⟨fun _ h=>xN h⟩
instance (priority:=high) has_rd {b:Nat} {o:Obj} {L:List HProp}:Has (rd b o::L) b o:=⟨fun _ h=>sat_rd h⟩
instance (priority:=low) has_tl {b:Nat} {o:Obj} {A:HProp} {L:List HProp} [h:Has L b o]:Has (A::L) b o:=⟨fun w hw=>h.out w hw.tail⟩
class Swp (L:List HProp) (b:Nat) (o:outParam Obj) (o':Obj) (L':outParam (List HProp)):Prop where
  out:∃M,Ent L (pt b o::M)∧Ent (pt b o'::M) L'
instance (priority:=high) swp_here {b:Nat} {o o':Obj} {L:List HProp}:Swp (pt b o::L) b o o' (pt b o'::L):=⟨L,.refl,.refl⟩
instance (priority:=low) swp_tl {b:Nat} {o o':Obj} {A:HProp} {L L':List HProp} [h:Swp L b o o' L']:Swp (A::L) b o o' (A::L') :=
  ⟨let ⟨M,h1,h2⟩:=h.out;⟨A::M,h1.cons.trans .swap,Ent.swap.trans h2.cons⟩⟩
theorem zL {L:List HProp} {w w':World} (h:w'.heap=w.heap) (hL:Sat L w) (hs:w'.os=w.os:=by rfl) (hu:w'.output=w.output:=by rfl):Sat L w' :=
  let ⟨ro,rw,h1,h2,h3,h4⟩:=hL
  ⟨ro,rw,⟨h▸h1.1,h1.2.1.trans hs.symm,h1.2.2.trans hu.symm⟩,h▸h2,h3,h4⟩
theorem yP {b:Nat} {o o':Obj} {L:List HProp} {w w':World} (h:Sat (pt b o::L) w) (hb:w'.heap[b]?=some o')
    (ho:∀c,c≠b→w'.heap[c]?=w.heap[c]?) (hq:w'.os=w.os:=by rfl) (hu:w'.output=w.output:=by rfl):Sat (pt b o'::L) w':=by
  obtain ⟨ro,rw,h1,h2,h3,m1,m2,hs,ha,hl⟩:=h;have ha:m1 b=some o:=ha;have hm2:m2 b=none:=by rcases hs b with ⟨h,_⟩ | ⟨h,_⟩<;>simp_all
  have hrb:rw b=some o:=hs.left b o ha;refine ⟨ro,fun c=>if c=b then some o' else rw c,⟨fun c x hc=>?_,h1.2.1.trans hq.symm,h1.2.2.trans hu.symm⟩,fun c x hc=>?_,fun c=>?_,fun c=>if c=b then some o' else m1 c,m2,fun c=>?_,?_,hl⟩
  · by_cases e:c=b
    · subst e;rcases h3 c with h | h<;>simp_all
    · rw [ho c e];exact h1.1 c x hc
  · by_cases e:c=b
    · subst e;simp at hc;subst hc;exact hb
    · simp [e] at hc;rw [ho c e];exact h2 c x hc
  · by_cases e:c=b
    · subst e;left;rcases h3 c with h | h<;>simp_all
    · simp only [e,if_false];exact h3 c
  · by_cases e:c=b
    · subst e;right;simp [hm2]
    · simp only [e,if_false];exact hs c
  · show (if b=b then some o' else m1 b)=some o'
    simp
theorem Swp.put {b:Nat} {o o':Obj} {L L':List HProp} (hs:Swp L b o o' L') {w w':World} (h:Sat L w) (hb:w'.heap[b]?=some o')
    (ho:∀c,c≠b→w'.heap[c]?=w.heap[c]?) (hq:w'.os=w.os:=by rfl) (hu:w'.output=w.output:=by rfl):Sat L' w' :=
  let ⟨_,h1,h2⟩:=hs.out
  h2.sat (yP (h1.sat h) hb ho hq hu)
theorem Swp.get {b:Nat} {o o':Obj} {L L':List HProp} (hs:Swp L b o o' L') {w:World} (h:Sat L w):w.heap[b]?=some o :=
  let ⟨_,h1,_⟩:=hs.out
  xN (h1.sat h)
theorem yr {o:Obj} {L:List HProp} {w w':World} (h:Sat L w) (hw:w'.heap=w.heap.push o) (hq:w'.os=w.os:=by rfl) (hu:w'.output=w.output:=by rfl):Sat (pt w.heap.size o::L) w':=by
  obtain ⟨ro,rw,h1,h2,h3,hl⟩:=h;have hlt:∀c x,w.heap[c]?=some x→c<w.heap.size:=fun c x hc=>(Array.getElem?_eq_some_iff.1 hc).1;have hr:ro w.heap.size=none:=by
    cases hx:ro w.heap.size with
    | none=>rfl
    | some x=>have:=hlt _ _ (h1.1 _ x hx);omega
  have hrw:rw w.heap.size=none:=by
    cases hx:rw w.heap.size with
    | none=>rfl
    | some x=>have:=hlt _ _ (h2 _ x hx);omega
  have old:∀c x,w.heap[c]?=some x→w'.heap[c]?=some x:=fun c x hc=>by
    have:=hlt c x hc;rw [hw,Array.getElem?_push];simp [Nat.ne_of_lt this,hc]
  refine ⟨ro,fun c=>if c=w.heap.size then some o else rw c,⟨fun c x hc=>old c x (h1.1 c x hc),h1.2.1.trans hq.symm,h1.2.2.trans hu.symm⟩,fun c x hc=>?_,fun c=>?_,
    fun c=>if c=w.heap.size then some o else none,rw,fun c=>?_,?_,hl⟩
  · by_cases e:c=w.heap.size
    · subst e;simp at hc;subst hc;rw [hw];simp
    · simp [e] at hc;exact old c x (h2 c x hc)
  · by_cases e:c=w.heap.size
    · subst e;exact .inl hr
    · simp only [e,if_false];exact h3 c
  · by_cases e:c=w.heap.size
    · subst e;right;simp [hrw]
    · left;simp [e]
  · show (if w.heap.size=w.heap.size then some o else none)=some o
    simp
theorem sat_seal {b:Nat} {o:Obj} {L:List HProp} {w:World} (h:Sat (pt b o::L) w):Sat (rd b o::L) w:=by
  obtain ⟨ro,rw,h1,h2,h3,m1,m2,hs,ha,hl⟩:=h;have ha:m1 b=some o:=ha;have hm2:m2 b=none:=by rcases hs b with ⟨h,_⟩ | ⟨h,_⟩<;>simp_all
  have hrb:rw b=some o:=hs.left b o ha;have hro:ro b=none:=by rcases h3 b with h | h<;>simp_all
  have hsub:SubR ro ⟨fun c=>if c=b then some o else ro c,ro.os,ro.out⟩:=⟨fun c x hc=>by
    by_cases e:c=b
    · subst e;simp_all
    · simpa [e] using hc,rfl,rfl⟩
  refine ⟨⟨fun c=>if c=b then some o else ro c,ro.os,ro.out⟩,m2,⟨fun c x hc=>?_,h1.2.1,h1.2.2⟩,fun c x hc=>h2 c x (hs.right c x hc),fun c=>?_,fun _=>none,m2,.none_left _,?_,zy hsub (Sub.refl _) hl⟩
  · by_cases e:c=b
    · subst e;simp at hc;subst hc;exact h2 _ _ hrb
    · simp [e] at hc;exact h1.1 c x hc
  · by_cases e:c=b
    · subst e;exact .inr hm2
    · simp only [e,if_false];rcases h3 c with h | h
      · exact .inl h
      · right;cases hx:m2 c with
        | none=>rfl
        | some x=>have:=hs.right c x hx;simp_all
  · show (if b=b then some o else ro b)=some o
    simp
theorem ent_dup {b:Nat} {o:Obj} {L:List HProp}:Ent (rd b o::L) (rd b o::rd b o::L) :=
  fun _ rw ⟨m1,m2,hs,ha,hl⟩=>⟨m1,m2,hs,ha,fun _=>none,m2,.none_left _,ha,hl⟩
end
theorem qg {α:Sort _} {a b:α} (h:a=b:=by conv=>lhs;whnf):a=b:=h
theorem qj {α:Sort _} {a b:α} (h:a=b:=by kernel_rfl):a=b:=h
theorem qd {p:Prop} (h:p:=by omega):p:=h
theorem qr {L L':List HProp} {A:HProp} (h:Sel L A L':=by repeat (first | exact Sel.here | apply Sel.there)):Sel L A L':=h
theorem qh {L L':List HProp} (h:Pm L L':=by repeat (first | exact .refl | exact .nil | apply Pm.cons | exact .here | apply Sel.there | apply Pm.drop)):Pm L L':=h
theorem qt {L L':List HProp} (h:Pm L L':=by repeat (first | with_reducible exact .refl | with_reducible exact .nil | with_reducible apply Pm.cons | with_reducible exact .here | with_reducible apply Sel.there | with_reducible apply Pm.drop)):Pm L L':=h
theorem qm {L L':List HProp} (h:Pm L L':=by repeat (first | exact .refl | exact .nil | apply Pm.cons | exact .here | apply Sel.there | apply Pm.drop)):∀w,Sat L w→Sat L' w:=fun _=>h.ent.sat
section
open Go
abbrev Env:=Nat→Value
def up (v:Env) (t:Nat) (x:Value):Env:=fun s=>cond (Nat.beq s t) x (v s)
def upo (v:Env) (t:Option Nat) (x:Value):Env:=match t with | some d=>up v d x | none=>v
def evalE (v:Env):Operand→Value
  | .tmp t=>v t
  | .const x=>x
  | .global g=>.pointer (some ⟨g,0,none⟩)
  | .func f=>.func (.func f) #[] #[]
theorem up_same (v:Env) (t:Nat) (x:Value):up v t x t=x:=by simp [up]
theorem up_ne (v:Env) {s t:Nat} (x:Value) (h:s≠t):up v t x s=v s:=by
  have:Nat.beq s t=false:=by
    cases hb:Nat.beq s t with
    | false=>rfl
    | true=>exact absurd (Nat.eq_of_beq_eq_true hb) h
  simp [up,this]
theorem up_self {v:Env} {t:Nat} {x:Value} (h:v t=x):up v t x=v:=by
  funext s
  by_cases e:s=t
  · subst e;rw [up_same,h]
  · rw [up_ne _ _ e]
def Fits (n:Nat) (ds:List Deferred) (v:Env) (a:Act):Prop:=a.defers=ds∧a.tmps.size=n∧∀t,a.tmps.getD t undef=v t
theorem Fits.eval {n:Nat} {ds:List Deferred} {v:Env} {a:Act} (h:Fits n ds v a):a.eval=evalE v:=by
  funext x
  cases x<;>simp only [Act.eval,evalE];exact h.2.2 _
theorem Fits.put {n:Nat} {ds:List Deferred} {v:Env} {a:Act} (h:Fits n ds v a) {d:Option Nat} (hd:∀t,d=some t→t<n) (x:Value) :
    Fits n ds (upo v d x) (a.put d x):=by
  cases d with
  | none=>exact h
  | some t =>
    refine ⟨h.1,by simp [Act.put,h.2.1],fun s=>?_⟩;have ht:t<a.tmps.size:=by rw [h.2.1];exact hd t rfl
    have hv:=h.2.2 s
    by_cases e:s=t
    · subst e;simp [Act.put,upo,up_same,Array.getD,ht]
    · simp only [upo,up_ne _ _ e,Act.put];rw [←hv];simp [Array.getD_eq_getD_getElem?,Array.getElem?_setIfInBounds_ne (Ne.symm e)]
abbrev Ky:=Exit→Act→World→Prop
section
variable (P:Program) (n:Nat) (ds:List Deferred)
def wpx (c:Code) (Q:Ky) (v:Env) (L:List HProp):Prop:=∀a w,Fits n ds v a→Sat L w→c.wp P Q a w
def Post (Q:Ky) (e:Exit) (v:Env) (L:List HProp):Prop:=∀a w,Fits n ds v a→Sat L w→Q e a w
def wpl (ops:List Oper) (Q:Ky) (l:List Oper) (v:Env) (L:List HProp):Prop:=∀a w,Fits n ds v a→Sat L w→wpList P ops.toArray Q l a w
end
def Qt (P:Program) (op:Op) (ty:TypeId) (v:Env) (L:List HProp) (r:Value):Prop :=
  ∀d pos af gd w,Sat L w→(execOp (evalE v) ⟨d,op,ty,pos,af,gd⟩).run P w=.ok (.value r) w
def Ow (P:Program) (op:Op) (ty:TypeId) (v:Env) (L:List HProp) (K:Value→List HProp→Prop):Prop :=
  ∀d pos af gd w,Sat L w→∀Q:Ky,∀a:Act,a.eval=evalE v→∀N:Act→World→Prop,
    (∀r L',K r L'→∀w',Sat L' w'→N (a.put d r) w')→(Oper.mk d op ty pos af gd).wp P a w N Q
section
variable {P:Program} {n:Nat} {ds:List Deferred} {Q:Ky} {v:Env} {L:List HProp} {op:Op} {ty:TypeId}
theorem Qt.ow {r:Value} {K:Value→List HProp→Prop} (h:Qt P op ty v L r) (hk:K r L):Ow P op ty v L K:=by
  intro d pos af gd w hw Q a ha N hN;unfold Oper.wp;rw [ha,h d pos af gd w hw];exact hN r L hk w hw
theorem yX {K:Value→List HProp→Prop}
    (h:∀d pos af gd w,Sat L w→∃r w' L',(execOp (evalE v) ⟨d,op,ty,pos,af,gd⟩).run P w=.ok (.value r) w'∧Sat L' w'∧K r L'):Ow P op ty v L K:=by
  intro d pos af gd w hw Q a ha N hN;obtain ⟨r,w',L',hr,hs,hk⟩:=h d pos af gd w hw;unfold Oper.wp;rw [ha,hr];exact hN r L' hk w' hs
theorem k8 {K:Value→List HProp→Prop}
    (h:∀d pos af gd w,Sat L w→∃w' L',(execOp (evalE v) ⟨d,op,ty,pos,af,gd⟩).run P w=.ok .skip w'∧Sat L' w'∧K undef L'):Ow P op ty v L K:=by
  intro d pos af gd w hw Q a ha N hN;obtain ⟨w',L',hr,hs,hk⟩:=h d pos af gd w hw;unfold Oper.wp;rw [ha,hr];exact hN undef L' hk w' hs
theorem Ow.mono {K K':Value→List HProp→Prop} (h:Ow P op ty v L K) (hk:∀r L',K r L'→K' r L'):Ow P op ty v L K' :=
  fun d pos af gd w hw Q a ha N hN=>h d pos af gd w hw Q a ha N fun r L' hr=>hN r L' (hk r L' hr)
theorem qw {x y:Code} (h:wpx P n ds x (Exit.then (fun a w=>y.wp P Q a w) Q) v L):wpx P n ds (.seq x y) Q v L :=
  fun a w ha hw=>wp_seq (h a w ha hw)
theorem qF (h:Post n ds Q .normal v L):wpx P n ds .skip Q v L:=fun a w ha hw=>wp_skip (h a w ha hw)
theorem qL (h:Post n ds Q .ret v L):wpx P n ds .ret Q v L:=fun a w ha hw=>wp_ret (h a w ha hw)
theorem wk {id:Nat} (h:Post n ds Q (.exit id) v L):wpx P n ds (.exit id) Q v L:=fun a w ha hw=>wp_exit (h a w ha hw)
theorem qJ {id:Nat} {c:Code} (h:wpx P n ds c (Exit.inBlock id Q) v L):wpx P n ds (.block id c) Q v L :=
  fun a w ha hw=>wp_block (h a w ha hw)
theorem yM {c:Operand} {x y:Code} {t:Bool} (hc:evalE v c=.bool t) (ht:t=true→wpx P n ds x Q v L)
    (hf:t=false→wpx P n ds y Q v L):wpx P n ds (.cond c x y) Q v L :=
  fun a w ha hw=>wp_cond_split (by rw [ha.eval];exact hc) (fun h=>ht h a w ha hw) (fun h=>hf h a w ha hw)
theorem qN {c:Operand} {x y:Code} (hc:evalE v c=.bool true) (h:wpx P n ds x Q v L):wpx P n ds (.cond c x y) Q v L :=
  yM hc (fun _=>h) (fun h=>by cases h)
theorem qB {c:Operand} {x y:Code} (hc:evalE v c=.bool false) (h:wpx P n ds y Q v L):wpx P n ds (.cond c x y) Q v L :=
  yM hc (fun h=>by cases h) (fun _=>h)
theorem wx_if {c:Operand} {x y:Code} {p:Prop} [Decidable p] (hc:evalE v c=.bool (decide p)) (ht:p→wpx P n ds x Q v L)
    (hf:¬p→wpx P n ds y Q v L):wpx P n ds (.cond c x y) Q v L :=
  yM hc (fun h=>ht (of_decide_eq_true h)) (fun h=>hf (of_decide_eq_false h))
theorem wx_ifnot {c:Operand} {x y:Code} {p:Prop} [Decidable p] (hc:evalE v c=.bool (!decide p)) (ht:¬p→wpx P n ds x Q v L)
    (hf:p→wpx P n ds y Q v L):wpx P n ds (.cond c x y) Q v L :=
  yM hc (fun h=>ht (by simpa using h)) (fun h=>hf (by simpa using h))
theorem qv {y:Code} {Q':Ky} (h:wpx P n ds y Q v L):Post n ds (Exit.then (fun a w=>y.wp P Q a w) Q') .normal v L:=h
theorem qQ {N:Act→World→Prop} {id:Nat} (h:Post n ds Q (.exit id) v L):Post n ds (Exit.then N Q) (.exit id) v L:=h
theorem wt {N:Act→World→Prop} (h:Post n ds Q .ret v L):Post n ds (Exit.then N Q) .ret v L:=h
theorem ww {id:Nat} (h:Post n ds Q .normal v L):Post n ds (Exit.inBlock id Q) (.exit id) v L :=
  fun a w ha hw=>by simp only [Exit.inBlock,if_true];exact h a w ha hw
theorem px_miss {id id':Nat} (hne:Nat.beq id' id=false) (h:Post n ds Q (.exit id') v L):Post n ds (Exit.inBlock id Q) (.exit id') v L :=
  fun a w ha hw=>by
    have:id'≠id:=fun e=>by subst e;rw [Nat.beq_refl] at hne;cases hne
    simp only [Exit.inBlock,this,if_false];exact h a w ha hw
theorem qX {id:Nat} (h:Post n ds Q .normal v L):Post n ds (Exit.inBlock id Q) .normal v L:=h
theorem wQ {id:Nat} (h:Post n ds Q .ret v L):Post n ds (Exit.inBlock id Q) .ret v L:=h
theorem wx_wk {c:Code} {L':List HProp} (h:Pm L L') (h':wpx P n ds c Q v L'):wpx P n ds c Q v L :=
  fun a w ha hw=>h' a w ha (h.ent.sat hw)
theorem w8 {c:Code} {L':List HProp} (h:∀w,Sat L w→Sat L' w) (h':wpx P n ds c Q v L'):wpx P n ds c Q v L :=
  fun a w ha hw=>h' a w ha (h w hw)
theorem wx_ex {c:Code} {α:Sort _} {f:α→HProp} (h:∀x,wpx P n ds c Q v (f x::L)):wpx P n ds c Q v (ex f::L) :=
  fun a w ha hw=>let ⟨x,hx⟩:=yb hw;h x a w ha hx
theorem wx_lift {c:Code} {p:Prop} (h:p→wpx P n ds c Q v L):wpx P n ds c Q v (lift p::L) :=
  fun a w ha hw=>let ⟨hp,hx⟩:=yn hw;h hp a w ha hx
theorem wx_cut {x y:Code} (α:Type) (E:α→Env→List HProp→Prop)
    (h1:wpx P n ds x (Exit.then (fun a w=>∃(z:α) (v':Env) (L':List HProp),E z v' L'∧Fits n ds v' a∧Sat L' w) Q) v L)
    (h2:∀z v' L',E z v' L'→wpx P n ds y Q v' L'):wpx P n ds (.seq x y) Q v L :=
  fun a w ha hw=>wp_seq (wp_mono (h1 a w ha hw) fun e a w hq=>by
    cases e<;>first | exact hq | (obtain ⟨z,v',L',he,hf,hs⟩:=hq;exact h2 z v' L' he a w hf hs))
theorem px_cut {α:Type} {E:α→Env→List HProp→Prop} (z:α) (L':List HProp) (h:E z v L') (hp:Pm L L') :
    Post n ds (Exit.then (fun a w=>∃(z:α) (v':Env) (L':List HProp),E z v' L'∧Fits n ds v' a∧Sat L' w) Q) .normal v L :=
  fun _ _ ha hw=>⟨z,v,L',h,ha,hp.ent.sat hw⟩
theorem wx_loop {c:Code} (α:Type) (E:α→Env→List HProp→Prop) (μ:α→Nat) (z₀:α) (L₀:List HProp) (h₀:E z₀ v L₀) (hp:Pm L L₀)
    (round:∀z v' L',E z v' L' →
      wpx P n ds c (Exit.then (fun a w=>∃(z':α) (v'':Env) (L'':List HProp),(E z' v'' L''∧μ z'<μ z)∧Fits n ds v'' a∧Sat L'' w) Q) v' L') :
    wpx P n ds (.loop c) Q v L:=by
  intro a w ha hw b kk cs;have key:∀k z v' L' a w,μ z=k→E z v' L'→Fits n ds v' a→Sat L' w →
      ∃e a' w',Q e a' w'∧Arrives P (lone (b.at a (.code c::.inLoop c::kk)) cs w) b kk cs e a' w':=by
    intro k
    induction k using Nat.strongRecOn with
    | _ k ih =>
      intro z v' L' a w hk he hf hs;obtain ⟨e,a1,w1,hq,harr⟩:=round z v' L' he a w hf hs b (.inLoop c::kk) cs;cases e with
      | normal =>
        obtain ⟨z',v'',L'',⟨he',hlt⟩,hf',hs'⟩:=hq;obtain ⟨e2,a2,w2,hq2,harr2⟩:=ih (μ z') (hk▸hlt) z' v'' L'' a1 w1 rfl he' hf' hs';exact ⟨e2,a2,w2,hq2,.of_steps (Steps.trans harr (.one step_inLoop)) harr2⟩
      | exit id=>exact ⟨_,a1,w1,hq,.pass (x:=.inLoop c) rfl (fun _ _=>.inl (by simp)) harr⟩
      | goto l=>exact ⟨_,a1,w1,hq,.pass (x:=.inLoop c) rfl (fun _ _=>.inl (by simp)) harr⟩
      | ret=>exact ⟨_,a1,w1,hq,.pass (x:=.inLoop c) rfl (fun _ _=>.inl (by simp)) harr⟩
      | panic ch=>exact ⟨_,a1,w1,hq,.pass (x:=.inLoop c) rfl (fun _ _=>.inl (by simp)) harr⟩
      | outgrown=>exact ⟨_,a1,w1,hq,.pass (x:=.inLoop c) rfl (fun _ _=>.inl (by simp)) harr⟩
  obtain ⟨e,a',w',hq,harr⟩:=key _ z₀ v L₀ a w rfl h₀ ha (hp.ent.sat hw);exact ⟨e,a',w',hq,.of_steps (.one step_loop) harr⟩
theorem px_round {α:Type} {E:α→Env→List HProp→Prop} {μ:α→Nat} {z:α} (z':α) (L':List HProp) (h:E z' v L') (hm:μ z'<μ z) (hp:Pm L L') :
    Post n ds (Exit.then (fun a w=>∃(z':α) (v'':Env) (L'':List HProp),(E z' v'' L''∧μ z'<μ z)∧Fits n ds v'' a∧Sat L'' w) Q) .normal v L :=
  fun _ _ ha hw=>⟨z',v,L',⟨h,hm⟩,ha,hp.ent.sat hw⟩
theorem qu {id:Nat} {ops:List Oper} (h:wpl P n ds ops Q ops v L):wpx P n ds (.region id ops.toArray false) Q v L :=
  fun a w ha hw=>wp_region_lit (h a w ha hw)
theorem qx {ops:List Oper} (h:Post n ds Q .normal v L):wpl P n ds ops Q [] v L:=fun a w ha hw=>h a w ha hw
def dstOk (n:Nat) (d:Option Nat):Bool:=match d with | some d=>Nat.blt d n | none=>true
theorem yp {d:Option Nat} (h:dstOk n d=true):∀t,d=some t→t<n:=fun t ht=>by
  subst ht;exact Nat.le_of_ble_eq_true h
theorem zd {ops:Array Oper} {l:List Oper} {o:Oper} {a:Act} {w:World} (hw:Region.wanted o (yielded ops a.tmps)=true)
    (h:o.wp P a w (wpList P ops Q l) Q):wpList P ops Q (o::l) a w:=by
  unfold wpList;rw [if_pos hw];exact .inl h
theorem wpList_unwanted {ops:Array Oper} {l:List Oper} {o:Oper} {a:Act} {w:World} (hw:Region.wanted o (yielded ops a.tmps)=false)
    (h:wpList P ops Q l (a.put o.dst undef) w):wpList P ops Q (o::l) a w:=by
  unfold wpList;rw [if_neg (by simp [hw])];exact h
section
variable {ops l:List Oper} {d:Nat} {pos:String} {af:Array Edge}
theorem qC (hd:Nat.blt d n=true) (h:Ow P op ty v L fun r L'=>wpl P n ds ops Q l (up v d r) L'):wpl P n ds ops Q (⟨some d,op,ty,pos,af,none⟩::l) v L :=
  fun a w ha hw=>zd (by simp [Region.wanted]) (h _ _ _ _ w hw Q a ha.eval _ fun r _ hr w' hw'=>hr _ _ (ha.put (d:=some d) (yp hd) r) hw')
theorem q6 (h:Ow P op ty v L fun _ L'=>wpl P n ds ops Q l v L'):wpl P n ds ops Q (⟨none,op,ty,pos,af,none⟩::l) v L :=
  fun a w ha hw=>zd (by simp [Region.wanted]) (h _ _ _ _ w hw Q a ha.eval _ fun r _ hr w' hw'=>hr _ _ (ha.put (d:=none) (fun _ h=>by cases h) r) hw')
theorem wl_q {r:Value} (hd:Nat.blt d n=true) (hq:Qt P op ty v L r) (h:wpl P n ds ops Q l (up v d r) L):wpl P n ds ops Q (⟨some d,op,ty,pos,af,none⟩::l) v L :=
  qC hd (hq.ow h)
def Wants (n:Nat) (ds:List Deferred) (ops:Array Oper) (v:Env) (gd:Option (Nat×Bool)) (t:Bool):Prop :=
  ∀a d op ty pos af,Fits n ds v a→Region.wanted ⟨d,op,ty,pos,af,gd⟩ (yielded ops a.tmps)=t
theorem qz {ops:Array Oper}:Wants n ds ops v none true:=fun a _ _ _ _ _ _=>by simp [Region.wanted]
theorem yielded_eq {ops:Array Oper} {a:Act} {j:Nat} {oj:Oper} {d:Nat} {t:Bool} (ha:Fits n ds v a) (hj:ops[j]?=some oj) (hd:oj.dst=some d)
    (hlt:Nat.blt d n=true) (ht:v d=.bool t):yielded ops a.tmps j=some t:=by
  have hs:d<a.tmps.size:=by rw [ha.2.1];exact Nat.le_of_ble_eq_true hlt
  have h2:=ha.2.2 d;rw [ht] at h2;have h3:a.tmps[d]?=some (.bool t):=by
    rw [Array.getD_eq_getD_getElem?,Array.getElem?_eq_getElem hs] at h2;rw [Array.getElem?_eq_getElem hs];simpa using h2
  simp [yielded,hj,hd,h3]
def opAt:List Oper→Nat→Option Oper
  | [],_=>none
  | o::_,0=>some o
  | _::l,i+1=>opAt l i
theorem j5:∀(l:List Oper) (i:Nat),opAt l i=l.toArray[i]?
  | [],i=>by simp [opAt]
  | o::l,0=>by simp [opAt]
  | o::l,i+1=>by simp [opAt,j5 l i]
def dstAt (l:List Oper) (i:Nat):Option Nat:=match opAt l i with | some o=>o.dst | none=>none
theorem qG {ops:List Oper} {j d:Nat} {want t r:Bool} (hj:dstAt ops j=some d) (hlt:Nat.blt d n=true) (ht:v d=.bool t) (hr:(t == want)=r) :
    Wants n ds ops.toArray v (some (j,want)) r:=fun a _ _ _ _ _ ha=>by
  subst hr;unfold dstAt at hj;cases ho:opAt ops j with
  | none=>rw [ho] at hj;cases hj
  | some oj =>
    rw [ho] at hj;have hy:=yielded_eq ha ((j5 ops j).symm.trans ho) hj hlt ht;unfold Region.wanted;show (yielded ops.toArray a.tmps j == some want)=(t == want)
    rw [hy];cases t<;>cases want<;>rfl
theorem xr {gd:Option (Nat×Bool)} (hw:Wants n ds ops.toArray v gd true) (hd:Nat.blt d n=true) (h:Ow P op ty v L fun r L'=>wpl P n ds ops Q l (up v d r) L') :
    wpl P n ds ops Q (⟨some d,op,ty,pos,af,gd⟩::l) v L :=
  fun a w ha hs=>zd (hw a _ _ _ _ _ ha) (h _ _ _ _ w hs Q a ha.eval _ fun r _ hr w' hw'=>hr _ _ (ha.put (d:=some d) (yp hd) r) hw')
theorem wl_q_g {gd:Option (Nat×Bool)} {r:Value} (hw:Wants n ds ops.toArray v gd true) (hd:Nat.blt d n=true) (hq:Qt P op ty v L r) (h:wpl P n ds ops Q l (up v d r) L) :
    wpl P n ds ops Q (⟨some d,op,ty,pos,af,gd⟩::l) v L :=
  xr hw hd (hq.ow h)
theorem xq {gd:Option (Nat×Bool)} (hw:Wants n ds ops.toArray v gd false) (hd:Nat.blt d n=true) (h:wpl P n ds ops Q l (up v d undef) L) :
    wpl P n ds ops Q (⟨some d,op,ty,pos,af,gd⟩::l) v L :=
  fun a w ha hs=>wpList_unwanted (hw a _ _ _ _ _ ha) (h _ _ (ha.put (d:=some d) (yp hd) undef) hs)
end
end
end
section
open Go
variable {P:Program} {n:Nat} {ds:List Deferred} {Q:Ky} {v:Env} {L:List HProp} {op:Op} {ty:TypeId} {ops l:List Oper} {d:Nat} {pos:String} {af:Array Edge} {gd:Option (Nat×Bool)} {r:Value}
theorem qb (hq:Qt P op ty v L r) (h:wpl P n ds ops Q l (up v d r) L) (hd:Nat.blt d n=true:=by exact rfl):wpl P n ds ops Q (⟨some d,op,ty,pos,af,none⟩::l) v L:=wl_q hd hq h
theorem qq (hq:Qt P op ty v L r) (h:wpl P n ds ops Q l (up v d r) L) (hw:Wants n ds ops.toArray v gd true:=by exact qG rfl rfl rfl rfl) (hd:Nat.blt d n=true:=by exact rfl):wpl P n ds ops Q (⟨some d,op,ty,pos,af,gd⟩::l) v L:=wl_q_g hw hd hq h
theorem qs (h:wpl P n ds ops Q l (up v d undef) L) (hw:Wants n ds ops.toArray v gd false:=by exact qG rfl rfl rfl rfl) (hd:Nat.blt d n=true:=by exact rfl):wpl P n ds ops Q (⟨some d,op,ty,pos,af,gd⟩::l) v L:=xq hw hd h
end
section
open Go
def Enters (P:Program) (f:FuncId):Prop:=∃fn,P.funcs[f]?=some fn∧fn.body.isNone=false∧(fn.name == "runtime.NumGoroutine")=false
def Rets (post:Value→List HProp→List HProp→Prop) (T:List HProp):Ending→World→Prop:=fun e w'=>∃r L',e=.returned r∧post r T L'∧Sat L' w'
def Spec (P:Program) (f:FuncId) (args:Array Value) (pre:List HProp→List HProp) (post:Value→List HProp→List HProp→Prop):Prop :=
  Enters P f∧∀T w,Sat (pre T) w→Calls P f args w (Rets post T)
theorem Spec.mono {P:Program} {f:FuncId} {args:Array Value} {pre pre':List HProp→List HProp} {post post':Value→List HProp→List HProp→Prop}
    (h:Spec P f args pre post) (h1:∀T w,Sat (pre' T) w→Sat (pre T) w) (h2:∀r T L,post r T L→∃L',post' r T L'∧∀w,Sat L w→Sat L' w):Spec P f args pre' post' :=
  ⟨h.1,fun T w hw=>(h.2 T w (h1 T w hw)).mono fun _ w' ⟨r,L',he,hp,hs⟩=>let ⟨L'',hp',hw'⟩:=h2 r T L' hp;⟨r,L'',he,hp',hw' w' hs⟩⟩
def argFrom (k:Nat):List Value→Env
  | []=>fun _=>undef
  | x::l=>up (argFrom (k+1) l) k x
theorem jB:∀(l:List Value) (k t:Nat),argFrom k l t=if t<k then undef else l.getD (t-k) undef
  | [],k,t=>by simp [argFrom]
  | x::l,k,t=>by
    by_cases e:t=k
    · subst e;simp [argFrom,up_same]
    · rw [argFrom,up_ne _ _ e,jB l (k+1) t]
      by_cases h:t<k
      · simp [h,show t<k+1 by omega]
      · simp only [h,show ¬t<k+1 by omega,if_false];obtain ⟨m,hm⟩:∃m,t-k=m+1:=⟨t-k-1,by omega⟩
        rw [hm,show t-(k+1)=m by omega];simp
section
variable {P:Program}
theorem spec_of {f:FuncId} {fn:Func} {c:Code} {n:Nat} {args:List Value} {pre:List HProp→List HProp} {post:Value→List HProp→List HProp→Prop}
    (hf:P.funcs[f]?=some fn) (hb:fn.body=some c) (hn:fn.ntmps=n) (hnm:(fn.name == "runtime.NumGoroutine")=false) (hl:Nat.ble args.length n=true)
    (h:∀T,wpx P n [] c (bodyPost P fn (Rets post T)) (argFrom 0 args) (pre T)) :
    Spec P f args.toArray pre post:=by
  refine ⟨⟨fn,hf,by simp [hb],hnm⟩,fun T w hw=>calls_of_wp hf hb (h T _ _ ⟨rfl,?_,fun t=>?_⟩ hw)⟩
  · have:=Nat.le_of_ble_eq_true hl;simp [hn];omega
  · rw [jB];simp only [Nat.not_lt_zero,if_false,Nat.sub_zero,Array.getD_eq_getD_getElem?,List.getD_eq_getElem?_getD]
    by_cases ht:t<args.length
    · simp [Array.getElem?_append,ht]
    · simp only [Array.getElem?_append,List.size_toArray,ht,if_false,List.getElem?_eq_none (Nat.not_lt.1 ht),Option.getD_none,Array.getElem?_replicate]
      split<;>rfl
def RVal (P:Program) (v:Env) (L:List HProp):ResultVar→Value→Prop
  | .tmp t,x=>v t=x
  | .cell a T,x=>∃p,v a=.pointer (some p)∧∀w,Sat L w→(loadVar T p).run P w=.ok x w
theorem qD {v:Env} {L:List HProp} {t:Nat} {x:Value} (h:v t=x):RVal P v L (.tmp t) x:=h
theorem rval_cell {v:Env} {L:List HProp} {a T:Nat} {p:Addr} {x:Value} (h:v a=.pointer (some p)) (hl:∀w,Sat L w→(loadVar T p).run P w=.ok x w) :
    RVal P v L (.cell a T) x:=⟨p,h,hl⟩
theorem RVal.run {v:Env} {L:List HProp} {rv:ResultVar} {x:Value} (h:RVal P v L rv x) {tmps:Array Value} (ht:∀t,tmps.getD t undef=v t) {w:World} (hw:Sat L w) :
    (match rv with | .tmp t=>pure (tmps.getD t undef) | .cell a t=>do loadVar t (←asAddr (tmps.getD a undef)):Sem Value).run P w=.ok x w:=by
  cases rv with
  | tmp t=>have h:v t=x:=h;simp only [ht t,h];rfl
  | cell a T =>
    obtain ⟨p,hp,hl⟩:=h;simp only [ht a,hp,asAddr,Sem.run_bind,Sem.run_pure,Result.andThen_ok];exact hl w hw
inductive All2 {α β:Type} (R:α→β→Prop):List α→List β→Prop
  | nil:All2 R [] []
  | cons {a b l m}:R a b→All2 R l m→All2 R (a::l) (b::m)
theorem mapM_run {P:Program} {v:Env} {L:List HProp} {w:World} (hw:Sat L w) {f:ResultVar→Sem Value} (hf:∀rv x,RVal P v L rv x→(f rv).run P w=.ok x w) {rs:List ResultVar} {xs:List Value}
    (h:All2 (RVal P v L) rs xs):(rs.mapM f).run P w=.ok xs w:=by
  induction h with
  | nil=>rfl
  | cons hx _ ih =>
    rw [List.mapM_cons];simp only [Sem.run_bind];rw [hf _ _ hx];simp only [Result.andThen_ok];rw [ih];rfl
theorem yK {fn:Func} {rs:List ResultVar} {xs:List Value} (hr:fn.results=rs.toArray) {v:Env} {L:List HProp}
    (h:All2 (RVal P v L) rs xs) {tmps:Array Value} (ht:∀t,tmps.getD t undef=v t) {w:World} (hw:Sat L w) :
    (results fn tmps).run P w=.ok (match xs with | [x]=>x | xs=>.tuple xs.toArray) w:=by
  unfold results;rw [hr,List.mapM_toArray];simp only [Sem.run_bind,Sem.run_map];rw [mapM_run hw (fun rv x hx=>by cases rv<;>exact hx.run ht hw) h];simp only [Result.andThen_ok,Sem.run_pure]
  match xs with
  | []=>rfl
  | [x]=>rfl
  | x::y::l=>simp
variable {n:Nat} {v:Env} {L:List HProp} {fn:Func} {T:List HProp} {post:Value→List HProp→List HProp→Prop}
def ends (e:Exit):Bool:=match e with | .normal | .ret=>true | _=>false
theorem wM {e:Exit} (he:ends e=true) (hr:fn.results=#[]) (L':List HProp) (hp:post (.tuple #[]) T L') (hw:∀w,Sat L w→Sat L' w) :
    Post n [] (bodyPost P fn (Rets post T)) e v L:=by
  intro a w ha hs;have:=yK (P:=P) (fn:=fn) (rs:=[]) (xs:=[]) (by simpa using hr) .nil ha.2.2 hs;cases e<;>first | (cases he;done) | exact ⟨ha.1,_,this,_,L',rfl,hp,hw w hs⟩
theorem qM {e:Exit} (he:ends e=true) {r1:ResultVar} {x1:Value} (hr:fn.results=#[r1]) (h1:RVal P v L r1 x1) (L':List HProp) (hp:post x1 T L') (hw:∀w,Sat L w→Sat L' w) :
    Post n [] (bodyPost P fn (Rets post T)) e v L:=by
  intro a w ha hs;have:=yK (P:=P) (fn:=fn) (rs:=[r1]) (xs:=[x1]) (by simpa using hr) (.cons h1 .nil) ha.2.2 hs;cases e<;>first | (cases he;done) | exact ⟨ha.1,_,this,_,L',rfl,hp,hw w hs⟩
theorem wu {e:Exit} (he:ends e=true) {r1 r2:ResultVar} {x1 x2:Value} (hr:fn.results=#[r1,r2]) (h1:RVal P v L r1 x1) (h2:RVal P v L r2 x2)
    (L':List HProp) (hp:post (.tuple #[x1,x2]) T L') (hw:∀w,Sat L w→Sat L' w) :
    Post n [] (bodyPost P fn (Rets post T)) e v L:=by
  intro a w ha hs;have:=yK (P:=P) (fn:=fn) (rs:=[r1,r2]) (xs:=[x1,x2]) (by simpa using hr) (.cons h1 (.cons h2 .nil)) ha.2.2 hs;cases e<;>first | (cases he;done) | exact ⟨ha.1,_,this,_,L',rfl,hp,hw w hs⟩
theorem k7 {e:Exit} (he:ends e=true) {r1 r2 r3:ResultVar} {x1 x2 x3:Value} (hr:fn.results=#[r1,r2,r3]) (h1:RVal P v L r1 x1) (h2:RVal P v L r2 x2) (h3:RVal P v L r3 x3)
    (L':List HProp) (hp:post (.tuple #[x1,x2,x3]) T L') (hw:∀w,Sat L w→Sat L' w) :
    Post n [] (bodyPost P fn (Rets post T)) e v L:=by
  intro a w ha hs;have:=yK (P:=P) (fn:=fn) (rs:=[r1,r2,r3]) (xs:=[x1,x2,x3]) (by simpa using hr) (.cons h1 (.cons h2 (.cons h3 .nil))) ha.2.2 hs;cases e<;>first | (cases he;done) | exact ⟨ha.1,_,this,_,L',rfl,hp,hw w hs⟩
theorem jY {g:FuncId} {args:Array Value} (h:Enters P g) (w:World):(callFunc g args).run P w=.ok (.enter g args) w:=by
  obtain ⟨fn,hf,hb,hn⟩:=h;simp only [callFunc,Sem.run_bind,run_program,Result.andThen_ok,hf,hn,hb,Bool.false_eq_true,if_false,Sem.run_pure]
theorem ow_enter {op:Op} {ty:TypeId} {g:FuncId} {args:Array Value} {pre:List HProp→List HProp} {post:Value→List HProp→List HProp→Prop} {K:Value→List HProp→Prop}
    (hs:Spec P g args pre post) (he:Enters P g→∀d pos af gd w,Sat L w→(execOp (evalE v) ⟨d,op,ty,pos,af,gd⟩).run P w=.ok (.enter g args) w)
    (hp:Pm L (pre T)) (hk:∀r L',post r T L'→K r L'):Ow P op ty v L K:=by
  intro d pos af gd w hw Q a ha N hN;unfold Oper.wp;rw [ha,he hs.1 d pos af gd w hw];refine (hs.2 T w (hp.ent.sat hw)).mono ?_;rintro e w' ⟨r,L',rfl,hr,hs'⟩;exact hN r L' (hk r L' hr) w' hs'
def evs (v:Env):List Operand→List Value
  | []=>[]
  | x::l=>evalE v x::evs v l
theorem kA (v:Env):∀l,evs v l=l.map (evalE v)
  | []=>rfl
  | x::l=>by rw [evs,kA v l,List.map_cons]
theorem ow_call {fo:Operand} {as0:List Operand} {ats:Array TypeId} {ty:TypeId}
    {g:FuncId} {first cap args:List Value} {pre:List HProp→List HProp} {post:Value→List HProp→List HProp→Prop} {K:Value→List HProp→Prop}
    (hf:evalE v fo=.func (.func g) first.toArray cap.toArray) (ha:first++(evs v as0++cap)=args)
    (hs:Spec P g args.toArray pre post) (hp:Pm L (pre T)) (hk:∀r L',post r T L'→K r L') :
    Ow P (.call ⟨.value fo,as0.toArray,ats⟩) ty v L K :=
  ow_enter hs (fun hent d pos af gd w _=>by
    subst ha;simp only [execOp,resolve,hf,Deferred.ofValue,invoke,Sem.run_bind,Sem.run_pure,Result.andThen_ok];have:=jY (args:=(first++(evs v as0++cap)).toArray) hent w;rw [kA] at this ⊢;simpa using this) hp hk
end
end
section
open Go
section
variable {P:Program} {ops:Array Oper}
def calm (Q:Ky):Ky:=fun e a w=>match e with | .panic _=>False | e=>Q e a w
theorem Oper.wp_calm {o:Oper} {a:Act} {w:World} {K:Act→World→Prop} {Q:Ky} (h:o.wp P a w K (calm Q)):o.wp P a w K Q:=by
  unfold Oper.wp at *
  generalize (execOp a.eval o).run P w=r at *
  cases r with
  | ok n w' =>
    cases n<;>simp only [Oper.upon] at h ⊢ <;>
      first
        | exact h
        | exact Calls.mono h (fun e w'' he=>by cases e<;>first | exact he | exact he.elim)
  | halt x w'=>cases x<;>simp only [Oper.upon] at h ⊢<;>first | exact h.elim | exact h
theorem wpOp_calm {i:Nat} {a:Act} {w:World} {K:Act→World→Prop} {Q:Ky} (h:wpOp P ops (calm Q) i K a w):wpOp P ops Q i K a w:=by
  unfold wpOp at *
  split
  · simpa [*] using h
  · rename_i o ho;simp only [ho] at h
    split
    · rename_i hw;simp only [hw,if_true] at h;exact h.imp Oper.wp_calm id
    · rename_i hw;simp only [hw] at h;exact h
def wpAnyS (P:Program) (ops:Array Oper) (Q:Ky) (S:Array Bool→World→Prop):Nat→Array Bool→Act→World→Prop
  | 0,listed,a,w=>Region.ready .any ops listed=[]∧Q .normal a w
  | fuel+1,listed,a,w =>
    (Region.ready .any ops listed=[]→Q .normal a w) ∧
    ∀i∈Region.ready .any ops listed,wpOp P ops (calm Q) i (fun a' w'=>S (listed.setIfInBounds i true) w'∧wpAnyS P ops Q S fuel (listed.setIfInBounds i true) a' w') a w
theorem wpAny_of_S {Q:Ky} {S:Array Bool→World→Prop}:∀(fuel:Nat) (listed:Array Bool) (a:Act) (w:World),wpAnyS P ops Q S fuel listed a w→wpAny P .any ops Q fuel listed a w
  | 0,_,_,_,h=>h
  | fuel+1,_,_,_,h=>⟨h.1,fun i hi=>wpOp_mono (fun a' w' h'=>wpAny_of_S fuel _ a' w' h'.2) (wpOp_calm (h.2 i hi))⟩
def Down (ops:Array Oper) (listed:Array Bool):Prop :=
  ∀j oj,ops[j]?=some oj→listed.getD j false=true→∀e∈oj.after,Region.binds .any e=true→listed.getD e.on false=true
theorem Down.set {listed:Array Bool} (h:Down ops listed) {i:Nat} (hi:i∈Region.ready .any ops listed):Down ops (listed.setIfInBounds i true):=by
  obtain ⟨_,oi,hoi,hall⟩:=mem_ready.1 hi;intro j oj hj hl e he hb
  by_cases hij:i=j
  · subst hij;rw [hoi] at hj;cases hj;exact getD_set_true (hall e he hb)
  · rw [getD_set_ne false hij] at hl;exact getD_set_true (h j oj hj hl e he hb)
def lateFlag (late:List Nat) (listed:Array Bool):Bool:=late.any fun k=>listed.getD k false
def lateS (late:List Nat) (S0:World→Prop) (listed:Array Bool) (w:World):Prop:=lateFlag late listed=true∨S0 w
def waitsFor (ops:Array Oper):Nat→Nat→Nat→Bool
  | 0,_,_=>false
  | f+1,k,i=>match ops[k]? with
    | some ok=>ok.after.any (fun e=>Region.binds .any e&&e.on == i) || ok.after.any (fun e=>Region.binds .any e&&waitsFor ops f e.on i)
    | none=>false
def waits (ops:Array Oper) (late:List Nat) (i:Nat):Bool:=late.all fun k=>k != i&&waitsFor ops 9 k i
theorem jC {listed:Array Bool} (hd:Down ops listed):∀(f k i:Nat),waitsFor ops f k i=true→listed.getD k false=true→listed.getD i false=true
  | 0,_,_,h,_=>by cases h
  | f+1,k,i,h,hk=>by
    unfold waitsFor at h;cases hok:ops[k]? with
    | none=>simp [hok] at h
    | some ok =>
      simp only [hok,Bool.or_eq_true,Array.any_eq_true',Bool.and_eq_true,beq_iff_eq] at h;rcases h with ⟨e,he,hb,heq⟩ | ⟨e,he,hb,hr⟩
      · have:=hd k ok hok hk e he hb
        rwa [heq] at this
      · exact jC hd f e.on i hr (hd k ok hok hk e he hb)
theorem vb {late:List Nat} {i:Nat} {listed:Array Bool} (hw:waits ops late i=true) (hd:Down ops listed) (hi:i∈Region.ready .any ops listed):lateFlag late listed=false:=by
  rw [Bool.eq_false_iff];intro hl;simp only [lateFlag,List.any_eq_true] at hl;obtain ⟨k,hk,hlk⟩:=hl;simp only [waits,List.all_eq_true,Bool.and_eq_true] at hw;obtain ⟨_,h2⟩:=hw k hk;have h3:=jC hd _ _ _ h2 hlk;have h0:=(mem_ready.1 hi).1;rcases Nat.lt_or_ge i listed.size with h' | h'
  · simp [h'] at h0 h3;rw [h0] at h3;cases h3
  · simp [Array.getElem?_eq_none h'] at h3
theorem wpAnyS_first {Q:Ky} {late:List Nat} {S0:World→Prop} {i:Nat} {oi:Oper} {v:Value} (hi:ops[i]?=some oi)
    (hsel:∀(j:Nat) (o:Oper) cs b,ops[j]?=some o→o.op≠.select cs b) (hwait:waits ops late i=true) :
    ∀(fuel:Nat) (listed:Array Bool) (a:Act) (w:World),
      (∀j oj,ops[j]?=some oj→j≠i→listed.getD j true=false→(∀e∈oj.after,Region.binds .any e=true→e.on≠i)→oi.apart ops oj=true) →
      Down ops listed→i∈Region.ready .any ops listed→YieldsIf P ops S0 oi v a→lateS late S0 listed w →
      wpAnyS P ops Q (lateS late S0) fuel (listed.setIfInBounds i true) (a.put oi.dst v) w→wpAnyS P ops Q (lateS late S0) (fuel+1) listed a w:=by
  intro fuel
  induction fuel with
  | zero =>
    intro listed a w _ hdown hr hy hS H;have hS0:S0 w:=hS.resolve_left (by simp [vb hwait hdown hr]);refine ⟨fun h=>(by rw [h] at hr;cases hr),fun j hj=>?_⟩
    by_cases hji:j=i
    · subst hji;exact hy.wpOp hi hS0 ⟨.inr hS0,H⟩
    · have:=ready_mono hj hji;rw [H.1] at this;cases this
  | succ fuel ih =>
    intro listed a w hfree hdown hr hy hS H;have hS0:S0 w:=hS.resolve_left (by simp [vb hwait hdown hr]);refine ⟨fun h=>(by rw [h] at hr;cases hr),fun j hj=>?_⟩
    by_cases hji:j=i
    · subst hji;exact hy.wpOp hi hS0 ⟨.inr hS0,H⟩
    · have h1:=H.2 j (ready_mono hj hji);obtain ⟨hjun,oj,hoj,hall⟩:=mem_ready.1 hj;have hnot:∀e∈oj.after,Region.binds .any e=true→e.on≠i:=fun e he hb heq=>by
        have h1:=hall e he hb;have h0:=(mem_ready.1 hr).1;rw [heq] at h1;rcases Nat.lt_or_ge i listed.size with h' | h'
        · simp [h'] at h0 h1;rw [h0] at h1;cases h1
        · simp [Array.getElem?_eq_none h'] at h1
      have h2:=wpOp_putIf hoj (hfree j oj hoj hji hjun hnot) (fun cs b=>hsel i oi cs b hi) (fun cs b=>hsel j oj cs b hoj) (fun _ _ _ h=>h.elim) hy h1;have hfree':∀k ok,ops[k]?=some ok→k≠i→(listed.setIfInBounds j true).getD k true=false →
          (∀e∈ok.after,Region.binds .any e=true→e.on≠i)→oi.apart ops ok=true:=fun k ok hk hki hun hno=>by
        refine hfree k ok hk hki ?_ hno
        by_cases hjk:j=k
        · subst hjk;exact hjun
        · rw [getD_set_ne true hjk] at hun;exact hun
      refine wpOp_mono (fun a' w' h3=>?_) h2;obtain ⟨hy',hS',hrest⟩:=h3;have hi':=ready_mono hr (Ne.symm hji);have hl':=vb hwait (hdown.set hj) hi';have hSj:lateS late S0 (listed.setIfInBounds j true) w':=by
        rcases hS' with hl | h0
        ·
          left;simp only [lateFlag,List.any_eq_true] at hl ⊢;obtain ⟨k,hk,hlk⟩:=hl;refine ⟨k,hk,?_⟩;have hki:k≠i:=by
            simp only [waits,List.all_eq_true,Bool.and_eq_true,bne_iff_ne] at hwait;exact (hwait k hk).1
          rw [Array.setIfInBounds_comm _ _ (Ne.symm hji)] at hlk
          rwa [getD_set_ne false (Ne.symm hki)] at hlk
        · exact .inr h0
      refine ⟨hSj,ih (listed.setIfInBounds j true) a' w' hfree' (hdown.set hj) hi' hy' hSj ?_⟩;rw [Array.setIfInBounds_comm _ _ hji];exact hrest
end
section
variable (P:Program) (n:Nat) (ds:List Deferred) (ops:List Oper) (Q:Ky) (late:List Nat) (L0:List HProp)
def wda (fuel:Nat) (listed:Array Bool) (v:Env) (L:List HProp):Prop :=
  ∀a w,Fits n ds v a→Sat L w→(lateFlag late listed=true∨Sat L0 w)→Down ops.toArray listed→wpAnyS P ops.toArray Q (lateS late (Sat L0)) fuel listed a w
end
section
variable {P:Program} {n:Nat} {ds:List Deferred} {ops:List Oper} {Q:Ky} {late:List Nat} {L0:List HProp} {v:Env} {L:List HProp} {fuel:Nat} {listed:Array Bool}
theorem wg {id:Nat} (late:List Nat) (L0:List HProp) (hm:P.follows .mixedOrders=true) (h0:∀w,Sat L w→Sat L0 w) (k:Nat) (hk:ops.length=k)
    (h:wda P n ds ops Q late L0 k (Array.replicate k false) v L):wpx P n ds (.region id ops.toArray true) Q v L:=by
  intro a w ha hw;subst hk;refine wp_region_any hm (wpAny_of_S _ _ _ _ (h a _ ha (zL rfl hw) (.inr (zL rfl (h0 w hw))) ?_));intro j oj hj hl;have:j<ops.length:=by simpa using (Array.getElem?_eq_some_iff.1 hj).1
  simp [this] at hl
def takeOk (ops:List Oper) (late:List Nat) (listed:Array Bool) (i:Nat):Bool :=
  Region.noSelect ops.toArray&&Region.free .any ops.toArray listed i&&(Region.ready .any ops.toArray listed).contains i&&waits ops.toArray late i
theorem wd_take_y {i:Nat} {o:Oper} {r:Value} (ho:opAt ops i=some o) (hd:dstOk n o.dst=true) (hk:takeOk ops late listed i=true)
    (hy:∀a,Fits n ds v a→YieldsIf P ops.toArray (Sat L0) o r a)
    (h:wda P n ds ops Q late L0 fuel (listed.setIfInBounds i true) (upo v o.dst r) L):wda P n ds ops Q late L0 (fuel+1) listed v L:=by
  rw [j5] at ho;simp only [takeOk,Bool.and_eq_true] at hk;obtain ⟨⟨⟨h1,h2⟩,h3⟩,h4⟩:=hk;have hr:i∈Region.ready .any ops.toArray listed:=by simpa using h3
  intro a w ha hw hS hdown;have hS0:Sat L0 w:=hS.resolve_left (by simp [vb h4 hdown hr]);exact wpAnyS_first ho (Region.noSelect_spec h1) h4 fuel listed a w (Region.free_spec ho h2) hdown hr (hy a ha) hS
    (h _ _ (ha.put (yp hd) r) hw (.inr hS0) (hdown.set hr))
variable {op:Op} {ty:TypeId} {pos:String} {af:Array Edge} {gd:Option (Nat×Bool)}
theorem wo (i:Nat) {d:Nat} {r:Value} (ho:opAt ops i=some ⟨some d,op,ty,pos,af,gd⟩) (hw:Wants n ds ops.toArray v gd true) (hd:Nat.blt d n=true) (hk:takeOk ops late listed i=true)
    (hq:Qt P op ty v L0 r) (h:wda P n ds ops Q late L0 fuel (listed.setIfInBounds i true) (up v d r) L):wda P n ds ops Q late L0 (fuel+1) listed v L :=
  wd_take_y ho hd hk (fun a ha=>.inl ⟨hw a _ _ _ _ _ ha,fun w hs=>by rw [ha.eval];exact hq _ _ _ _ w hs⟩) h
theorem wO (i:Nat) {d:Nat} (ho:opAt ops i=some ⟨some d,op,ty,pos,af,gd⟩) (hw:Wants n ds ops.toArray v gd false) (hd:Nat.blt d n=true) (hk:takeOk ops late listed i=true)
    (h:wda P n ds ops Q late L0 fuel (listed.setIfInBounds i true) (up v d undef) L):wda P n ds ops Q late L0 (fuel+1) listed v L :=
  wd_take_y ho hd hk (fun a ha=>.inr ⟨hw a _ _ _ _ _ ha,rfl⟩) h
def AllL (p:Nat→Prop):List Nat→Prop
  | []=>True
  | i::l=>p i∧AllL p l
theorem AllL.mem {p:Nat→Prop}:∀ {l:List Nat},AllL p l→∀i∈l,p i
  | [],_,_,hi=>by cases hi
  | _::_,h,i,hi=>by
    cases hi with
    | head=>exact h.1
    | tail _ hm=>exact AllL.mem h.2 i hm
def Wo (P:Program) (n:Nat) (ds:List Deferred) (ops:List Oper) (Q:Ky) (late:List Nat) (L0:List HProp) (fuel:Nat) (listed:Array Bool) (v:Env) (L:List HProp) (i:Nat):Prop :=
  ∃d op ty pos af gd,opAt ops i=some ⟨d,op,ty,pos,af,gd⟩∧dstOk n d=true ∧
    ((Wants n ds ops.toArray v gd true∧Ow P op ty v L fun r L'=>(lateFlag late (listed.setIfInBounds i true)=true∨(∀w,Sat L' w→Sat L0 w))∧wda P n ds ops Q late L0 fuel (listed.setIfInBounds i true) (upo v d r) L') ∨
     (Wants n ds ops.toArray v gd false∧wda P n ds ops Q late L0 fuel (listed.setIfInBounds i true) (upo v d undef) L))
theorem we {i d:Nat} (ho:opAt ops i=some ⟨some d,op,ty,pos,af,gd⟩) (hw:Wants n ds ops.toArray v gd true) (hd:Nat.blt d n=true)
    (h:Ow P op ty v L fun r L'=>(lateFlag late (listed.setIfInBounds i true)=true∨(∀w,Sat L' w→Sat L0 w))∧wda P n ds ops Q late L0 fuel (listed.setIfInBounds i true) (up v d r) L') :
    Wo P n ds ops Q late L0 fuel listed v L i:=⟨_,_,_,_,_,_,ho,hd,.inl ⟨hw,h⟩⟩
theorem wn {i:Nat} (ho:opAt ops i=some ⟨none,op,ty,pos,af,gd⟩) (hw:Wants n ds ops.toArray v gd true)
    (h:Ow P op ty v L fun _ L'=>(lateFlag late (listed.setIfInBounds i true)=true∨(∀w,Sat L' w→Sat L0 w))∧wda P n ds ops Q late L0 fuel (listed.setIfInBounds i true) v L') :
    Wo P n ds ops Q late L0 fuel listed v L i:=⟨_,_,_,_,_,_,ho,rfl,.inl ⟨hw,h⟩⟩
theorem wo_pass {i d:Nat} (ho:opAt ops i=some ⟨some d,op,ty,pos,af,gd⟩) (hw:Wants n ds ops.toArray v gd false) (hd:Nat.blt d n=true)
    (h:wda P n ds ops Q late L0 fuel (listed.setIfInBounds i true) (up v d undef) L) :
    Wo P n ds ops Q late L0 fuel listed v L i:=⟨_,_,_,_,_,_,ho,hd,.inr ⟨hw,h⟩⟩
theorem qO (rs:List Nat) (hr:Region.ready .any ops.toArray listed=rs) (hne:rs.isEmpty=false) (h:AllL (Wo P n ds ops Q late L0 fuel listed v L) rs) :
    wda P n ds ops Q late L0 (fuel+1) listed v L:=by
  intro a w ha hw hS hdown;refine ⟨fun h0=>(by rw [h0] at hr;subst hr;cases hne),fun i hi=>?_⟩;obtain ⟨d,op,ty,pos,af,gd,ho,hd,h1⟩:=h.mem i (hr▸hi);rw [j5] at ho;unfold wpOp;simp only [ho];rcases h1 with ⟨hwant,h2⟩ | ⟨hwant,h2⟩
  · rw [if_pos (hwant a _ _ _ _ _ ha)];left;refine h2 _ _ _ _ w hw _ a ha.eval _ fun r L' hr' w' hw'=>?_;have hS':lateS late (Sat L0) (listed.setIfInBounds i true) w':=hr'.1.imp id fun f=>f w' hw';exact ⟨hS',hr'.2 _ _ (ha.put (yp hd) r) hw' hS' (hdown.set hi)⟩
  · rw [if_neg (by simp [hwant a _ _ _ _ _ ha])];have hS':lateS late (Sat L0) (listed.setIfInBounds i true) w:=by
      rcases hS with hl | h0
      · left;simp only [lateFlag,List.any_eq_true] at hl ⊢;obtain ⟨k,hk,hlk⟩:=hl;exact ⟨k,hk,getD_set_true hlk⟩
      · exact .inr h0
    exact ⟨hS',h2 _ _ (ha.put (yp hd) undef) hw hS' (hdown.set hi)⟩
theorem qY (hr:Region.ready .any ops.toArray listed=[]) (h:Post n ds Q .normal v L):∀ {fuel},wda P n ds ops Q late L0 fuel listed v L
  | 0=>fun a w ha hw _ _=>⟨hr,h a w ha hw⟩
  | _+1=>fun a w ha hw _ _=>⟨fun _=>h a w ha hw,by rw [hr];simp⟩
end
end
section
open Go
variable {P:Program} {n:Nat} {ds:List Deferred} {ops:List Oper} {Q:Ky} {late:List Nat} {L0:List HProp} {v:Env} {L:List HProp} {fuel:Nat} {listed:Array Bool} {op:Op} {ty:TypeId} {pos:String} {af:Array Edge} {gd:Option (Nat×Bool)} {d:Nat} {r:Value}
theorem qk (i:Nat) (ho:opAt ops i=some ⟨some d,op,ty,pos,af,gd⟩) (hq:Qt P op ty v L0 r) (h:wda P n ds ops Q late L0 fuel (listed.setIfInBounds i true) (up v d r) L) (hw:Wants n ds ops.toArray v gd true:=by exact qz) (hd:Nat.blt d n=true:=by exact rfl) (hk:takeOk ops late listed i=true:=by kernel_rfl):wda P n ds ops Q late L0 (fuel+1) listed v L:=wo i ho hw hd hk hq h
end
section
open Go
class TNA (P:Program) (T:TypeId):Prop where
  agg:∀w,(isAgg T).run P w=.ok false w
  size:∀w,(sizeOf T).run P w=.ok 1 w
class TAG (P:Program) (T:TypeId) (k:outParam Nat):Prop where
  agg:∀w,(isAgg T).run P w=.ok true w
  size:∀w,(sizeOf T).run P w=.ok k w
class TSZ (P:Program) (T:TypeId) (k:outParam Nat):Prop where
  size:∀w,(sizeOf T).run P w=.ok k w
class TU (P:Program) (T:TypeId) (d:outParam TypeDesc):Prop where
  u0:P.underlying T=some d
theorem TU.u {P:Program} {T:TypeId} {d:TypeDesc} (h:TU P T d) (w:World):(underlying T).run P w=.ok d w:=run_underlying h.u0 w
class TZ (P:Program) (T:TypeId) (zs:outParam (List Value)):Prop where
  z:∃z,(∀w,(zeroValue T).run P w=.ok z w)∧z.cells=zs.toArray
class TZ1 (P:Program) (T:TypeId) (z:outParam Value):Prop where
  z:∀w,(zeroValue T).run P w=.ok z w
class TB (P:Program) (T:TypeId) (bytes:outParam Nat):Prop where
  b:∃i,(∀w,(typeInfo T).run P w=.ok i w)∧i.bytes=bytes
class TF (P:Program) (T:TypeId) (f:Nat) (off:outParam Nat):Prop where
  f:∃fs fd k,(∀w,(underlying T).run P w=.ok (.struct fs) w)∧fs[f]?=some fd∧fd.offset=off∧(∀w,(sizeOf fd.type).run P w=.ok (k+1) w)
abbrev cl (l:List Value) (E:TypeId):Obj:=.cells l.toArray E (0,0)
class CellAt (l:List Value) (i:Nat) (r:outParam Value):Prop where
  at_:l[i]?=some r
instance cellAt0 {a:Value} {l:List Value}:CellAt (a::l) 0 a:=⟨rfl⟩
instance cellAtS {a r:Value} {l:List Value} {i:Nat} [h:CellAt l i r]:CellAt (a::l) (i+1) r:=⟨by simpa using h.at_⟩
class SetL (l:List Value) (i:Nat) (x:Value) (l':outParam (List Value)):Prop where
  set:i<l.length∧l.set i x=l'
instance setL0 {a x:Value} {l:List Value}:SetL (a::l) 0 x (x::l):=⟨by simp⟩
instance setLS {a x:Value} {l l':List Value} {i:Nat} [h:SetL l i x l']:SetL (a::l) (i+1) x (a::l'):=⟨by have:=h.set;simp [this.2];omega⟩
theorem kb {w:World} {b off:Nat} {l:List Value} {E:TypeId} {fz:Nat×Nat} (h:w.heap[b]?=some (.cells l.toArray E fz)):w.cell? ⟨b,off,none⟩=l[off]?:=by
  simp [World.cell?,h]
section
variable {P:Program} {n:Nat} {v:Env} {L:List HProp} {ty:TypeId} {x y z:Operand} {T:TypeId}
theorem qK {t:Nat} {r:Value} (h:v t=r):Qt P (.move (.tmp t)) ty v L r:=fun _ _ _ _ _ _=>by subst h;rfl
theorem xh {t:Nat} {r:Value} (h:v t=r):Qt P (.assign (.tmp t)) ty v L r:=fun _ _ _ _ _ _=>by subst h;rfl
theorem wH {c:Value}:Qt P (.move (.const c)) ty v L c:=fun _ _ _ _ _ _=>rfl
theorem qt_asc {c:Value}:Qt P (.assign (.const c)) ty v L c:=fun _ _ _ _ _ _=>rfl
theorem qt_move:Qt P (.move x) ty v L (evalE v x):=fun _ _ _ _ _ _=>rfl
theorem qt_assign:Qt P (.assign x) ty v L (evalE v x):=fun _ _ _ _ _ _=>rfl
theorem q9 {r:Value} (h:evalE v x=.bool true) (hr:evalE v y=r):Qt P (.pick x y z) ty v L r:=fun _ _ _ _ _ _=>by simp [execOp,h,asBool,hr]
theorem qW {r:Value} (h:evalE v x=.bool false) (hr:evalE v z=r):Qt P (.pick x y z) ty v L r:=fun _ _ _ _ _ _=>by simp [execOp,h,asBool,hr]
theorem qP {i:Nat} {r:Value} {vs:List Value} (h:evalE v x=.tuple vs.toArray) [hc:CellAt vs i r]:Qt P (.extract x i) ty v L r:=fun _ _ _ _ _ _=>by
  have:=hc.at_;simp [execOp,h,Instr.extract,this]
theorem qy {a:Addr} (h:evalE v x=.pointer (some a)):Qt P (.nilCheck x) ty v L (.pointer (some a)):=fun _ _ _ _ _ _=>by
  simp [execOp,h]
theorem qt_nilCheck_i {t:TypeId} {u:Value} (h:evalE v x=.iface t u):Qt P (.nilCheck x) ty v L (.iface t u):=fun _ _ _ _ _ _=>by
  simp [execOp,h]
theorem qt_nilCheck_f {f:FuncId} {a b:Array Value} (h:evalE v x=.func (.func f) a b):Qt P (.nilCheck x) ty v L (.func (.func f) a b):=fun _ _ _ _ _ _=>by
  simp [execOp,h]
theorem run_load1 [hn:TNA P T] {b off:Nat} {l:List Value} {E:TypeId} {fz:Nat×Nat} {r:Value} {w:World}
    (hh:w.heap[b]?=some (.cells l.toArray E fz)) (hr:l[off]?=some r):(loadVar T ⟨b,off,none⟩).run P w=.ok r w:=by
  simp [loadVar,hn.agg,kb hh,hr]
theorem jX {k:Nat} [hn:TAG P T k] {b off:Nat} {l:List Value} {E:TypeId} {fz:Nat×Nat} {rs:List Value} {w:World}
    (hh:w.heap[b]?=some (.cells l.toArray E fz)) (hlen:rs.length=k) (hr:∀j,j<k→l[off+j]?=rs[j]?):(loadVar T ⟨b,off,none⟩).run P w=.ok (.agg rs.toArray) w:=by
  have h:(loadCells ⟨b,off,none⟩ k).run P w=.ok rs.toArray w:=by
    subst hlen;apply run_loadCells_list;intro j x hj;have hlt:j<rs.length:=(List.getElem?_eq_some_iff.1 hj).1;have:(Addr.add ⟨b,off,none⟩ j)=(⟨b,off+j,none⟩:Addr):=by
      unfold Addr.add;split<;>simp_all
    rw [this,kb hh,hr j hlt,hj]
  simp [loadVar,hn.agg,hn.size,h]
theorem qA {b off:Nat} {l:List Value} {E:TypeId} {fz:Nat×Nat} {r:Value} (hx:evalE v x=.pointer (some ⟨b,off,none⟩))
    [hn:TNA P T] [hh:Has L b (.cells l.toArray E fz)] [hr:CellAt l off r]:Qt P (.load T x) ty v L r:=fun _ _ _ _ w hw=>by
  simp [execOp,hx,Instr.loadAt,Instr.sureAddr,run_load1 (hh.out w hw) hr.at_]
theorem q8 {b off:Nat} {l:List Value} {E:TypeId} {fz:Nat×Nat} {r:Value} (hx:evalE v x=.pointer (some ⟨b,off,none⟩))
    [hn:TNA P T] [hh:Has L b (.cells l.toArray E fz)] (hr:l[off]?=some r):Qt P (.load T x) ty v L r:=fun _ _ _ _ w hw=>by
  simp [execOp,hx,Instr.loadAt,Instr.sureAddr,run_load1 (hh.out w hw) hr]
class CellsAt (l:List Value) (i k:Nat) (rs:outParam (List Value)):Prop where
  at_:rs.length=k∧∀j,j<k→l[i+j]?=rs[j]?
instance cellsAt0 {l:List Value} {i:Nat}:CellsAt l i 0 []:=⟨rfl,fun _ h=>by omega⟩
instance cellsAtS {l rs:List Value} {i k:Nat} {r:Value} [h:CellAt l i r] [h':CellsAt l (i+1) k rs]:CellsAt l i (k+1) (r::rs) :=
  ⟨by simp [h'.at_.1],fun j hj=>by
    cases j with
    | zero=>simpa using h.at_
    | succ j=>have:=h'.at_.2 j qd;simpa [Nat.add_assoc,Nat.add_comm 1 j] using this⟩
theorem wm {b off k:Nat} {l:List Value} {E:TypeId} {fz:Nat×Nat} {rs:List Value} (hx:evalE v x=.pointer (some ⟨b,off,none⟩))
    [hn:TAG P T k] [hh:Has L b (.cells l.toArray E fz)] [hr:CellsAt l off k rs]:Qt P (.load T x) ty v L (.agg rs.toArray):=fun _ _ _ _ w hw=>by
  simp [execOp,hx,Instr.loadAt,Instr.sureAddr,jX (hh.out w hw) hr.at_.1 hr.at_.2]
theorem wD {b off k:Nat} {l:List Value} {E:TypeId} {fz:Nat×Nat} {rs:List Value} (hx:evalE v x=.pointer (some ⟨b,off,none⟩))
    [hn:TAG P T k] [hh:Has L b (.cells l.toArray E fz)] (hlen:rs.length=k) (hr:∀j,j<k→l[off+j]?=rs[j]?):Qt P (.load T x) ty v L (.agg rs.toArray):=fun _ _ _ _ w hw=>by
  simp [execOp,hx,Instr.loadAt,Instr.sureAddr,jX (hh.out w hw) hlen hr]
theorem yO {w:World} {b off:Nat} {l:List Value} {E:TypeId} {fz:Nat×Nat} {r:Value} (h:w.heap[b]?=some (.cells l.toArray E fz)) :
    (w.setCell ⟨b,off,none⟩ r).heap[b]?=some (.cells (l.set off r).toArray E fz)∧∀c,c≠b→(w.setCell ⟨b,off,none⟩ r).heap[c]?=w.heap[c]?:=by
  constructor
  · simp [World.setCell,Array.getElem?_modify,h]
  · intro c hc;simp [World.setCell,Array.getElem?_modify,Ne.symm hc]
def Value.one (x:Value):Bool:=match x with | .agg _ | .tuple _=>false | _=>true
theorem va {x:Value} (h:Value.one x=true):x.oneCell'=true∧x.cells=#[x]:=by
  cases x<;>first | (cases h;done) | exact ⟨rfl,rfl⟩
theorem run_store1 [hn:TNA P T] {b off:Nat} {l:List Value} {E:TypeId} {fz:Nat×Nat} {r:Value} {w:World} (h1:Value.one r=true)
    (hh:w.heap[b]?=some (.cells l.toArray E fz)) (hfz:fz.1≤off→fz.2≤off) (hlt:off<l.length) :
    (storeVar T ⟨b,off,none⟩ r).run P w=.ok () (w.setCell ⟨b,off,none⟩ r):=by
  obtain ⟨ho,hc⟩:=va h1;have hcell:w.cell? ⟨b,off,none⟩=some l[off]:=by rw [kb hh];simp [hlt]
  have hfr:w.frozen? ⟨b,off,none⟩=false:=by
    simp only [World.frozen?,hh]
    by_cases h:fz.1≤off
    · have:=hfz h;simp;omega
    · simp [h]
  simp only [storeVar,hc,Sem.run_bind,hn.size,Result.andThen_ok];simp [storeCells,run_store P w ⟨b,off,none⟩ r .plain ho,Addr.add,hcell,hfr]
theorem qV {b off:Nat} {l l':List Value} {E:TypeId} {r:Value} {L':List HProp} {K:Value→List HProp→Prop}
    (hx:evalE v x=.pointer (some ⟨b,off,none⟩)) (hy:evalE v y=r) (h1:Value.one r=true)
    [hn:TNA P T] [hh:Has L b (cl l E)] [hs:SetL l off r l'] [hw:Swp L b (cl l E) (cl l' E) L'] (hk:K undef L'):Ow P (.store T x y) ty v L K :=
  k8 fun _ _ _ _ w hL=>by
    have hb:=hh.out w hL;have:=yO (off:=off) (r:=r) hb;refine ⟨_,L',?_,hw.put hL (o':=cl l' E) (by rw [this.1,hs.set.2]) this.2,hk⟩;simp [execOp,hx,hy,Instr.storeAt,Instr.sureAddr,run_store1 (T:=T) h1 hb (by simp) hs.set.1]
theorem wW {b off:Nat} {l:List Value} {E:TypeId} {r:Value} {L':List HProp} {K:Value→List HProp→Prop}
    (hx:evalE v x=.pointer (some ⟨b,off,none⟩)) (hy:evalE v y=r) (h1:Value.one r=true) (hlt:off<l.length)
    [hn:TNA P T] [hh:Has L b (cl l E)] [hw:Swp L b (cl l E) (cl (l.set off r) E) L'] (hk:K undef L'):Ow P (.store T x y) ty v L K :=
  k8 fun _ _ _ _ w hL=>by
    have hb:=hh.out w hL;have:=yO (off:=off) (r:=r) hb;refine ⟨_,L',?_,hw.put hL (o':=cl (l.set off r) E) this.1 this.2,hk⟩;simp [execOp,hx,hy,Instr.storeAt,Instr.sureAddr,run_store1 (T:=T) h1 hb (by simp) hlt]
def setAll (l:List Value) (i:Nat):List Value→List Value
  | []=>l
  | x::xs=>setAll (l.set i x) (i+1) xs
def Ones:List Value→Bool
  | []=>true
  | x::l=>Value.one x&&Ones l
theorem xL:∀(xs l:List Value) (i:Nat),(setAll l i xs).length=l.length
  | [],_,_=>rfl
  | _::xs,l,i=>by rw [setAll,xL xs];simp
theorem yR {b off:Nat} {E:TypeId} {fz:Nat×Nat}:∀(xs:List Value) (l:List Value) (j:Nat) (w:World),Ones xs=true →
    w.heap[b]?=some (.cells l.toArray E fz)→(∀i,fz.1≤i→i<fz.2→off+j+xs.length≤i∨i<off+j)→off+j+xs.length≤l.length →
    ∃w',(storeCells ⟨b,off,none⟩ xs j).run P w=.ok () w'∧w'.heap[b]?=some (.cells (setAll l (off+j) xs).toArray E fz)∧(∀c,c≠b→w'.heap[c]?=w.heap[c]?)∧w'.os=w.os∧w'.output=w.output
  | [],l,j,w,_,hb,_,_=>⟨w,rfl,hb,fun _ _=>rfl,rfl,rfl⟩
  | x::xs,l,j,w,h1,hb,hfz,hlen=>by
    simp only [Ones,Bool.and_eq_true] at h1;simp only [List.length_cons] at hlen hfz;have hlt:off+j<l.length:=by omega
    have hadd:(Addr.add ⟨b,off,none⟩ j)=(⟨b,off+j,none⟩:Addr):=by unfold Addr.add;split<;>simp_all
    have hcell:w.cell? ⟨b,off+j,none⟩=some l[off+j]:=by rw [kb hb];simp [hlt]
    have hfr:w.frozen? ⟨b,off+j,none⟩=false:=by
      simp only [World.frozen?,hb]
      by_cases h:fz.1≤off+j∧off+j<fz.2
      · rcases hfz (off+j) h.1 h.2 with h' | h'<;>omega
      · simp;omega
    have hset:=yO (off:=off+j) (r:=x) hb;obtain ⟨w',hr,hb',ho,hq,hu⟩:=yR (off:=off) xs (l.set (off+j) x) (j+1) _ h1.2 hset.1 (fun i h h'=>by rcases hfz i h h' with h3 | h3<;>omega) (by simp;omega);refine ⟨w',?_,hb',fun c hc=>(ho c hc).trans (hset.2 c hc),hq,hu⟩;rw [storeCells];simp only [Sem.run_bind,hadd];rw [run_store P w _ x .plain (va h1.1).1];simp only [hcell,hfr,Bool.false_eq_true,if_false,Result.andThen_ok];exact hr
theorem run_storeK {k:Nat} [hn:TAG P T k] {b off:Nat} {l:List Value} {E:TypeId} {xs:List Value} {w:World} (h1:Ones xs=true) (hk:xs.length=k)
    (hb:w.heap[b]?=some (cl l E)) (hlen:off+k≤l.length) :
    ∃w',(storeVar T ⟨b,off,none⟩ (.agg xs.toArray)).run P w=.ok () w'∧w'.heap[b]?=some (cl (setAll l off xs) E)∧(∀c,c≠b→w'.heap[c]?=w.heap[c]?)∧w'.os=w.os∧w'.output=w.output:=by
  obtain ⟨w',hr,h2,h3⟩:=yR (P:=P) (off:=off) xs l 0 w h1 hb (fun i h h'=>by simp at h') (by simp;omega);refine ⟨w',?_,h2,h3⟩;simp [storeVar,Value.cells,hn.size,hk,hr]
class SetLs (l:List Value) (i:Nat) (xs:List Value) (l':outParam (List Value)):Prop where
  set:i+xs.length≤l.length∧setAll l i xs=l'
instance setLs1 {l l':List Value} {i:Nat} {x:Value} [h:SetL l i x l']:SetLs l i [x] l':=⟨by have:=h.set;simp [setAll,this.2];omega⟩
instance (priority:=low) setLsS {l l1 l':List Value} {i:Nat} {x:Value} {xs:List Value} [h:SetL l i x l1] [h':SetLs l1 (i+1) xs l']:SetLs l i (x::xs) l' :=
  ⟨by
    have h1:=h.set;have h2:=h'.set;have h3:l1.length=l.length:=by rw [←h1.2];simp
    rw [h3] at h2;refine ⟨by simp;omega,?_⟩;rw [setAll,h1.2,h2.2]⟩
theorem wc {b off k:Nat} {l l' xs:List Value} {E:TypeId} {L':List HProp} {K:Value→List HProp→Prop}
    (hx:evalE v x=.pointer (some ⟨b,off,none⟩)) (hy:evalE v y=.agg xs.toArray) (h1:Ones xs=true) [hn:TAG P T k] (hlen:xs.length=k)
    [hh:Has L b (cl l E)] [hs:SetLs l off xs l'] [hw:Swp L b (cl l E) (cl l' E) L'] (hk:K undef L'):Ow P (.store T x y) ty v L K :=
  k8 fun _ _ _ _ w hL=>by
    obtain ⟨w',hr,h2,h3,hq,hu⟩:=run_storeK (P:=P) (T:=T) (off:=off) h1 hlen (hh.out w hL) (by have:=hs.set.1;omega);refine ⟨w',L',?_,hw.put hL (o':=cl l' E) (by rw [h2,hs.set.2]) h3 hq hu,hk⟩;simp [execOp,hx,hy,Instr.storeAt,Instr.sureAddr,hr]
theorem xl {b off k:Nat} {l xs:List Value} {E:TypeId} {L':List HProp} {K:Value→List HProp→Prop}
    (hx:evalE v x=.pointer (some ⟨b,off,none⟩)) (hy:evalE v y=.agg xs.toArray) (h1:Ones xs=true) [hn:TAG P T k] (hlen:xs.length=k) (hlt:off+k≤l.length)
    [hh:Has L b (cl l E)] [hw:Swp L b (cl l E) (cl (setAll l off xs) E) L'] (hk:K undef L'):Ow P (.store T x y) ty v L K :=
  k8 fun _ _ _ _ w hL=>by
    obtain ⟨w',hr,h2,h3,hq,hu⟩:=run_storeK (P:=P) (T:=T) h1 hlen (hh.out w hL) hlt;refine ⟨w',L',?_,hw.put hL (o':=cl (setAll l off xs) E) h2 h3 hq hu,hk⟩;simp [execOp,hx,hy,Instr.storeAt,Instr.sureAddr,hr]
theorem qE {b f k:Nat} (hx:evalE v x=.pointer (some ⟨b,0,none⟩)) [hf:TF P T f k]:Qt P (.fieldAddr T x f) ty v L (.pointer (some ⟨b,k,none⟩)):=fun _ _ _ _ w _=>by
  obtain ⟨fs,fd,m,hu,hfd,hoff,hsz⟩:=hf.f;simp [execOp,Instr.fieldAt,hu,hfd,hx,Instr.sureAddr,fieldPlace,hsz,hoff,Addr.add];exact fun h=>h.symm
theorem xB {b off f k:Nat} (hx:evalE v x=.pointer (some ⟨b,off,none⟩)) [hf:TF P T f k]:Qt P (.fieldAddr T x f) ty v L (.pointer (some ⟨b,off+k,none⟩)):=fun _ _ _ _ w _=>by
  obtain ⟨fs,fd,m,hu,hfd,hoff,hsz⟩:=hf.f
  by_cases hk:k=0
  · subst hk;simp [execOp,Instr.fieldAt,hu,hfd,hx,Instr.sureAddr,fieldPlace,hsz,hoff,Addr.add]
  · simp [execOp,Instr.fieldAt,hu,hfd,hx,Instr.sureAddr,fieldPlace,hsz,hoff,Addr.add,hk]
theorem wz {b off len cap k:Nat} {E:TypeId} {kk:IntKind} {i:Int} [hu:TU P T (.slice E)] [hn:TSZ P E 1] (hx:evalE v x=.slice (some ⟨b,off,none⟩) len cap)
    (hy:evalE v y=.int kk i) (hi:i=(k:Int)) (hlt:k<len):Qt P (.indexAddr T x y) ty v L (.pointer (some ⟨b,off+k,none⟩)):=fun _ _ _ _ w _=>by
  subst hi;have h1:(0:Int)≤(k:Int)∧(k:Int)<(len:Int):=by omega
  simp only [execOp,Instr.indexAt,hx,hy,asIntOf,Sem.run_bind,Sem.run_pure,Sem.run_map,Result.andThen_ok,hu.u,if_pos h1,hn.size];unfold Addr.add
  split<;>simp_all
theorem wN {b off len cap k s:Nat} {E:TypeId} {kk:IntKind} {i:Int} [hu:TU P T (.slice E)] [hn:TSZ P E s] (hx:evalE v x=.slice (some ⟨b,off,none⟩) len cap)
    (hy:evalE v y=.int kk i) (hi:i=(k:Int)) (hlt:k<len):Qt P (.indexAddr T x y) ty v L (.pointer (some ⟨b,off+k*s,none⟩)):=fun _ _ _ _ w _=>by
  subst hi;have h1:(0:Int)≤(k:Int)∧(k:Int)<(len:Int):=by omega
  simp only [execOp,Instr.indexAt,hx,hy,asIntOf,Sem.run_bind,Sem.run_pure,Sem.run_map,Result.andThen_ok,hu.u,if_pos h1,hn.size];unfold Addr.add
  split<;>simp_all
theorem zA {b off len k s:Nat} {E:TypeId} {kk:IntKind} {i:Int} [hu:TU P T (.array len E)] [hn:TSZ P E s] (hx:evalE v x=.pointer (some ⟨b,off,none⟩))
    (hy:evalE v y=.int kk i) (hi:i=(k:Int)) (hlt:k<len):Qt P (.indexAddr T x y) ty v L (.pointer (some ⟨b,off+k*s,none⟩)):=fun _ _ _ _ w _=>by
  subst hi;have h1:(0:Int)≤(k:Int)∧(k:Int)<(len:Int):=by omega
  simp only [execOp,Instr.indexAt,hx,hy,asIntOf,Sem.run_bind,Sem.run_pure,Sem.run_map,Result.andThen_ok,hu.u,if_pos h1,hn.size,Instr.sureAddr];unfold Addr.add
  split<;>simp_all
theorem jF {a:Int} (h:-9223372036854775808≤a∧a≤9223372036854775807):IntKind.i64.wrap a=a:=by
  simp only [IntKind.wrap,IntKind.bits,IntKind.signed];simp;omega
theorem wrap_u (k:IntKind) (hk:k.signed=false) {a:Int} (h0:0≤a) (h:a<2^k.bits):k.wrap a=a:=by
  simp only [IntKind.wrap,hk,Bool.false_and,Bool.false_eq_true,if_false];exact Int.emod_eq_of_lt h0 h
theorem qt_addw {k:IntKind} {a b:Int} {yt:TypeId} (hx:evalE v x=.int k a) (hy:evalE v y=.int k b):Qt P (.binOp .add T x y yt) ty v L (.int k (k.wrap (a+b))):=fun _ _ _ _ _ _=>by
  simp [execOp,hx,hy,eqGuard,binOp,Op.intArith]
theorem qt_subw {k:IntKind} {a b:Int} {yt:TypeId} (hx:evalE v x=.int k a) (hy:evalE v y=.int k b):Qt P (.binOp .sub T x y yt) ty v L (.int k (k.wrap (a-b))):=fun _ _ _ _ _ _=>by
  simp [execOp,hx,hy,eqGuard,binOp,Op.intArith]
theorem qt_mulw {k:IntKind} {a b:Int} {yt:TypeId} (hx:evalE v x=.int k a) (hy:evalE v y=.int k b):Qt P (.binOp .mul T x y yt) ty v L (.int k (k.wrap (a*b))):=fun _ _ _ _ _ _=>by
  simp [execOp,hx,hy,eqGuard,binOp,Op.intArith]
theorem wa {a b:Int} {yt:TypeId} (hx:evalE v x=.int .i64 a) (hy:evalE v y=.int .i64 b) (h:-9223372036854775808≤a+b∧a+b≤9223372036854775807) :
    Qt P (.binOp .add T x y yt) ty v L (.int .i64 (a+b)):=by have:=qt_addw (P:=P) (L:=L) (T:=T) (ty:=ty) (yt:=yt) hx hy;rwa [jF h] at this
theorem wT {a b:Int} {yt:TypeId} (hx:evalE v x=.int .i64 a) (hy:evalE v y=.int .i64 b) (h:-9223372036854775808≤a-b∧a-b≤9223372036854775807) :
    Qt P (.binOp .sub T x y yt) ty v L (.int .i64 (a-b)):=by have:=qt_subw (P:=P) (L:=L) (T:=T) (ty:=ty) (yt:=yt) hx hy;rwa [jF h] at this
theorem yV {a b:Int} {yt:TypeId} (hx:evalE v x=.int .i64 a) (hy:evalE v y=.int .i64 b) (h:-9223372036854775808≤a*b∧a*b≤9223372036854775807) :
    Qt P (.binOp .mul T x y yt) ty v L (.int .i64 (a*b)):=by have:=qt_mulw (P:=P) (L:=L) (T:=T) (ty:=ty) (yt:=yt) hx hy;rwa [jF h] at this
theorem qt_quo {k:IntKind} {a b:Int} {yt:TypeId} (hx:evalE v x=.int k a) (hy:evalE v y=.int k b) (h:b≠0):Qt P (.binOp .quo T x y yt) ty v L (.int k (k.wrap (a.tdiv b))):=fun _ _ _ _ _ _=>by
  simp [execOp,hx,hy,eqGuard,binOp,Op.intDiv,h]
theorem qt_rem {k:IntKind} {a b:Int} {yt:TypeId} (hx:evalE v x=.int k a) (hy:evalE v y=.int k b) (h:b≠0):Qt P (.binOp .rem T x y yt) ty v L (.int k (a.tmod b)):=fun _ _ _ _ _ _=>by
  simp [execOp,hx,hy,eqGuard,binOp,Op.intDiv,h]
def bitop (op:BinOp) (k:IntKind) (a b:Int):Int :=
  let x:=BitVec.ofInt k.bits a
  let y:=BitVec.ofInt k.bits b
  match op with
  | .and=>k.wrap (x &&& y).toNat
  | .or=>k.wrap (x ||| y).toNat
  | .xor=>k.wrap (x ^^^ y).toNat
  | _=>k.wrap (x &&& ~~~y).toNat
theorem qt_and {k:IntKind} {a b:Int} {yt:TypeId} (hx:evalE v x=.int k a) (hy:evalE v y=.int k b):Qt P (.binOp .and T x y yt) ty v L (.int k (bitop .and k a b)):=fun _ _ _ _ _ _=>by
  simp [execOp,hx,hy,eqGuard,binOp,Op.intBits,bitop]
theorem qt_or {k:IntKind} {a b:Int} {yt:TypeId} (hx:evalE v x=.int k a) (hy:evalE v y=.int k b):Qt P (.binOp .or T x y yt) ty v L (.int k (bitop .or k a b)):=fun _ _ _ _ _ _=>by
  simp [execOp,hx,hy,eqGuard,binOp,Op.intBits,bitop]
theorem qt_xor {k:IntKind} {a b:Int} {yt:TypeId} (hx:evalE v x=.int k a) (hy:evalE v y=.int k b):Qt P (.binOp .xor T x y yt) ty v L (.int k (bitop .xor k a b)):=fun _ _ _ _ _ _=>by
  simp [execOp,hx,hy,eqGuard,binOp,Op.intBits,bitop]
theorem qt_andNot {k:IntKind} {a b:Int} {yt:TypeId} (hx:evalE v x=.int k a) (hy:evalE v y=.int k b):Qt P (.binOp .andNot T x y yt) ty v L (.int k (bitop .andNot k a b)):=fun _ _ _ _ _ _=>by
  simp [execOp,hx,hy,eqGuard,binOp,Op.intBits,bitop]
theorem qt_shl {k yk:IntKind} {a b:Int} {yt:TypeId} (hx:evalE v x=.int k a) (hy:evalE v y=.int yk b) (h:0≤b):Qt P (.binOp .shl T x y yt) ty v L (.int k (k.wrap (a*2^(min b.toNat k.bits)))):=fun _ _ _ _ _ _=>by
  simp [execOp,hx,hy,eqGuard,binOp,Op.shift,Int.not_lt.2 h]
theorem qt_shr {k yk:IntKind} {a b:Int} {yt:TypeId} (hx:evalE v x=.int k a) (hy:evalE v y=.int yk b) (h:0≤b):Qt P (.binOp .shr T x y yt) ty v L (.int k (a.fdiv (2^(min b.toNat k.bits)))):=fun _ _ _ _ _ _=>by
  simp [execOp,hx,hy,eqGuard,binOp,Op.shift,Int.not_lt.2 h]
theorem qt_not {t:Bool} (hx:evalE v x=.bool t):Qt P (.unOp .not T x) ty v L (.bool (!t)):=fun _ _ _ _ _ _=>by simp [execOp,hx,Op.unary]
theorem xe (hx:evalE v x=.bool true):Qt P (.unOp .not T x) ty v L (.bool false):=qt_not hx
theorem xH (hx:evalE v x=.bool false):Qt P (.unOp .not T x) ty v L (.bool true):=qt_not hx
theorem qt_neg {a:Int} {k:IntKind} (hx:evalE v x=.int k a):Qt P (.unOp .neg T x) ty v L (.int k (k.wrap (0-a))):=fun _ _ _ _ _ _=>by simp [execOp,hx,Op.unary,Op.intArith]
theorem qt_inv {a:Int} {k:IntKind} (hx:evalE v x=.int k a):Qt P (.unOp .xor T x) ty v L (.int k (bitop .xor k (if k.signed then -1 else k.max) a)):=fun _ _ _ _ _ _=>by
  simp [execOp,hx,Op.unary,Op.intBits,bitop]
theorem qt_conv {k k':IntKind} {a:Int} {S:TypeDesc} [h1:TU P T S] {U:TypeId} [h2:TU P U (.int k')] (hx:evalE v x=.int k a):Qt P (.convert T U x) ty v L (.int k' (k'.wrap a)):=fun _ _ _ _ w _=>by
  simp only [execOp,hx,convert,Sem.run_bind,h1.u,h2.u,Result.andThen_ok];cases S<;>simp [Conv.intToInt]
theorem wj {k:IntKind} {a b:Int} {yt:TypeId} (hx:evalE v x=.int k a) (hy:evalE v y=.int k b):Qt P (.binOp .lss T x y yt) ty v L (.bool (decide (a<b))):=fun _ _ _ _ _ _=>by
  simp [execOp,hx,hy,eqGuard,binOp,Op.intCmp]
theorem yi {k:IntKind} {a b:Int} {yt:TypeId} (hx:evalE v x=.int k a) (hy:evalE v y=.int k b):Qt P (.binOp .leq T x y yt) ty v L (.bool (decide (a≤b))):=fun _ _ _ _ _ _=>by
  simp [execOp,hx,hy,eqGuard,binOp,Op.intCmp]
theorem wS {k:IntKind} {a b:Int} {yt:TypeId} (hx:evalE v x=.int k a) (hy:evalE v y=.int k b):Qt P (.binOp .gtr T x y yt) ty v L (.bool (decide (b<a))):=fun _ _ _ _ _ _=>by
  simp [execOp,hx,hy,eqGuard,binOp,Op.intCmp]
theorem w9 {k:IntKind} {a b:Int} {yt:TypeId} (hx:evalE v x=.int k a) (hy:evalE v y=.int k b):Qt P (.binOp .geq T x y yt) ty v L (.bool (decide (b≤a))):=fun _ _ _ _ _ _=>by
  simp [execOp,hx,hy,eqGuard,binOp,Op.intCmp]
theorem wA {k:IntKind} {a b:Int} {yt:TypeId} (hx:evalE v x=.int k a) (hy:evalE v y=.int k b):Qt P (.binOp .eql T x y yt) ty v L (.bool (decide (a=b))):=fun _ _ _ _ _ _=>by
  simp [execOp,hx,hy,eqGuard,binOp,Op.intCmp];rfl
theorem wB {k:IntKind} {a b:Int} {yt:TypeId} (hx:evalE v x=.int k a) (hy:evalE v y=.int k b):Qt P (.binOp .neq T x y yt) ty v L (.bool (decide (a≠b))):=fun _ _ _ _ _ _=>by
  simp [execOp,hx,hy,eqGuard,binOp,Op.intCmp]
  by_cases h:a=b<;>simp [h]
theorem Qt.ways {op:Op} {p:Prop} [Decidable p] {K:Value→Prop} (h:Qt P op ty v L (.bool (decide p))) (ht:p→Qt P op ty v L (.bool true)→K (.bool true)) (hf:¬p→Qt P op ty v L (.bool false)→K (.bool false)):K (.bool (decide p)):=by
  by_cases hp:p
  · rw [decide_eq_true hp] at h ⊢;exact ht hp h
  · rw [decide_eq_false hp] at h ⊢;exact hf hp h
end
end
section
open Go
variable {P:Program} {n:Nat} {ds:List Deferred} {Q:Ky} {v:Env} {L:List HProp} {ty:TypeId} {ops l:List Oper} {d t:Nat} {pos:String} {af:Array Edge} {r c:Value}
theorem qe (h:wpl P n ds ops Q l (up v d r) L) (he:v t=r:=by conv=>lhs;whnf) (hd:Nat.blt d n=true:=by exact rfl):wpl P n ds ops Q (⟨some d,.move (.tmp t),ty,pos,af,none⟩::l) v L:=wl_q hd (qK he) h
theorem qi (h:wpl P n ds ops Q l (up v d r) L) (he:v t=r:=by conv=>lhs;whnf) (hd:Nat.blt d n=true:=by exact rfl):wpl P n ds ops Q (⟨some d,.assign (.tmp t),ty,pos,af,none⟩::l) v L:=wl_q hd (xh he) h
theorem qo (h:wpl P n ds ops Q l (up v d c) L) (hd:Nat.blt d n=true:=by exact rfl):wpl P n ds ops Q (⟨some d,.assign (.const c),ty,pos,af,none⟩::l) v L:=wl_q hd qt_asc h
end
section
open Go
section
variable {P:Program} {n:Nat} {v:Env} {L:List HProp} {ty:TypeId} {x y z:Operand} {T:TypeId}
theorem qZ {zs:List Value} {K:Value→List HProp→Prop} [hz:TZ P T zs] (hk:∀b,K (.pointer (some ⟨b,0,none⟩)) (pt b (cl zs T)::L)):Ow P (.alloc T) ty v L K :=
  yX fun _ _ _ _ w hw=>by
    obtain ⟨zv,hzv,hc⟩:=hz.z;refine ⟨_,w.alloc (cl zs T),_,?_,yr hw rfl,hk w.heap.size⟩;simp [execOp,Instr.alloc,hzv,newVar,newRow,hc]
theorem xI {r:Value} {K:Value→List HProp→Prop} (hx:evalE v x=r) (h1:Value.one r=true) (hk:∀b,K (.pointer (some ⟨b,0,none⟩)) (pt b (cl [r] T)::L)):Ow P (.box T x) ty v L K :=
  yX fun _ _ _ _ w hw=>by
    refine ⟨_,w.alloc (cl [r] T),_,?_,yr hw rfl,hk w.heap.size⟩;simp [execOp,Instr.box,hx,newVar,newRow,(va h1).2]
theorem wx {xs:List Value} {K:Value→List HProp→Prop} (hx:evalE v x=.agg xs.toArray) (hk:∀b,K (.pointer (some ⟨b,0,none⟩)) (pt b (cl xs T)::L)):Ow P (.box T x) ty v L K :=
  yX fun _ _ _ _ w hw=>by
    refine ⟨_,w.alloc (cl xs T),_,?_,yr hw rfl,hk w.heap.size⟩;simp [execOp,Instr.box,hx,newVar,newRow,Value.cells]
class TS (P:Program) (T:TypeId) (pl:outParam (List (Nat×Nat))):Prop where
  s:∃fs,(∀w,(underlying T).run P w=.ok (.struct fs) w)∧∀w,(fs.mapM fun f=>do pure (f.offset,←sizeOf f.type):Sem _).run P w=.ok pl.toArray w
class PlAt (pl:List (Nat×Nat)) (i:Nat) (off k:outParam Nat):Prop where
  at_:pl[i]?=some (off,k)
instance plAt0 {a b:Nat} {l:List (Nat×Nat)}:PlAt ((a,b)::l) 0 a b:=⟨rfl⟩
instance plAtS {p:Nat×Nat} {a b i:Nat} {l:List (Nat×Nat)} [h:PlAt l i a b]:PlAt (p::l) (i+1) a b:=⟨by simpa using h.at_⟩
inductive Bld (v:Env) (pl:List (Nat×Nat)):List Value→List (Nat×Operand)→List Value→Prop
  | nil {zs}:Bld v pl zs [] zs
  | one {zs zs' out ps i off x} {r:Value} [h:PlAt pl i off 1] (hx:evalE v x=r) (h1:Value.one r=true) [hs:SetL zs off r zs'] (hb:Bld v pl zs' ps out):Bld v pl zs ((i,x)::ps) out
  | agg {zs zs' out ps i off k x} {xs:List Value} [h:PlAt pl i off k] (hx:evalE v x=.agg xs.toArray) (hk:xs.length=k) [hs:SetLs zs off xs zs'] (hb:Bld v pl zs' ps out):Bld v pl zs ((i,x)::ps) out
theorem vk (off:Nat):∀(xs l:List Value) (j:Nat),((xs.zipIdx j).foldl (fun (cs:Array Value) (x:Value×Nat)=>cs.setIfInBounds (off+x.2) x.1) l.toArray)=(setAll l (off+j) xs).toArray
  | [],_,_=>rfl
  | x::xs,l,j=>by
    simp only [List.zipIdx_cons,List.foldl_cons,setAll];rw [List.setIfInBounds_toArray,vk off xs _ (j+1)];rfl
theorem j8 {place:Nat→Option (Nat×Nat)} {l xs:List Value} {i off k:Nat} {u:Value} {rest:List (Nat×Value)} (hp:place i=some (off,k)) (hc:u.cells=xs.toArray) (hk:xs.length=k)
    (hl:off+k≤l.length):Instr.fill place l.toArray ((i,u)::rest)=Instr.fill place (setAll l off xs).toArray rest:=by
  rw [Instr.fill,hp];simp only [hc,List.size_toArray];rw [if_neg (by simp [hk];omega)];have h:=vk off xs l 0;rw [Nat.add_zero] at h;rw [←h,←Array.foldl_toList]
  simp
theorem fill_bld {pl:List (Nat×Nat)} {zs out:List Value} {ps:List (Nat×Operand)} (h:Bld v pl zs ps out) :
    Instr.fill (fun i=>pl[i]?) zs.toArray (ps.map fun x=>(x.1,evalE v x.2))=some out.toArray:=by
  induction h with
  | nil=>rfl
  | @one zs zs' out ps i off x r hpl hx h1 hs _ ih =>
    have h3:=hs.set;rw [List.map_cons,j8 hpl.at_ (xs:=[r]) (by rw [hx];exact (va h1).2) rfl qd];rw [show setAll zs off [r]=zs' from h3.2];exact ih
  | @agg zs zs' out ps i off k x xs hpl hx hk hs _ ih =>
    have h3:=hs.set;rw [List.map_cons,j8 hpl.at_ (xs:=xs) (by rw [hx];rfl) hk qd,h3.2];exact ih
theorem wy {pl:List (Nat×Nat)} {zs out:List Value} {ps:List (Nat×Operand)} [hs:TS P T pl] [hz:TZ P T zs] (h:Bld v pl zs ps out) :
    Qt P (.build T ps.toArray) ty v L (.agg out.toArray):=fun _ _ _ _ w _=>by
  obtain ⟨fs,hu,hpl⟩:=hs.s;obtain ⟨zv,hzv,hc⟩:=hz.z;have hf:=fill_bld h;simp only [execOp,Instr.build,Sem.run_bind,hzv,hu,Result.andThen_ok,hpl,hc];simp only [List.map_toArray,List.getElem?_toArray,hf,Sem.run_pure,Result.andThen_ok,Sem.run_map]
inductive Prts (v:Env):Nat→Nat→List (Nat×Operand)→List Value→Prop
  | nil {k i}:Prts v k i [] []
  | one {i x ps out} {r:Value} (hx:evalE v x=r) (h1:Value.one r=true) (h:Prts v 1 (i+1) ps out):Prts v 1 i ((i,x)::ps) (r::out)
  | agg {i k x ps out} {xs:List Value} (hx:evalE v x=.agg xs.toArray) (hk:xs.length=k) (h:Prts v k (i+1) ps out):Prts v k i ((i,x)::ps) (xs++out)
theorem Prts.length {k i:Nat} {ps:List (Nat×Operand)} {out:List Value} (h:Prts v k i ps out):out.length=ps.length*k:=by
  induction h with
  | nil=>simp
  | one _ _ _ ih=>simp [ih]
  | agg _ hk _ ih=>simp [ih,hk,Nat.succ_mul];omega
theorem zK (pre suf:List Value):∀(xs mid:List Value),mid.length=xs.length→setAll (pre++mid++suf) pre.length xs=pre++xs++suf:=by
  intro xs
  induction xs generalizing pre with
  | nil=>intro mid h;have:mid=[]:=List.eq_nil_of_length_eq_zero h;subst this;simp [setAll]
  | cons x xs ih =>
    intro mid h;obtain ⟨m,mid,rfl⟩:∃m ms,mid=m::ms:=by cases mid with | nil=>cases h | cons m ms=>exact ⟨m,ms,rfl⟩
    have:=ih (pre++[x]) mid (by simpa using h);simp only [List.length_append,List.length_singleton] at this;rw [setAll,List.append_assoc,List.append_assoc,List.set_append_right _ _ (by simp)];simpa using this
theorem fill_prts {k i:Nat} {ps:List (Nat×Operand)} {out:List Value} (h:Prts v k i ps out):∀pre mid:List Value,pre.length=i*k→mid.length=out.length →
    Instr.fill (fun i=>some (i*k,k)) (pre++mid).toArray (ps.map fun x=>(x.1,evalE v x.2))=some (pre++out).toArray:=by
  induction h with
  | nil=>intro pre mid _ h;have:mid=[]:=List.eq_nil_of_length_eq_zero h;subst this;rfl
  | @one i x ps out r hx h1 h ih =>
    intro pre mid hp hm;simp only [List.length_cons] at hm;obtain ⟨m,mid,rfl⟩:∃m ms,mid=m::ms:=by cases mid with | nil=>cases hm | cons m ms=>exact ⟨m,ms,rfl⟩
    rw [List.map_cons,j8 rfl (xs:=[r]) (by rw [hx];exact (va h1).2) rfl (by simp;omega)];have h2:=zK pre mid [r] [m] rfl;rw [hp] at h2;have h3:=ih (pre++[r]) mid (by simp [hp,Nat.succ_mul]) (by simpa using hm);simp only [List.append_assoc,List.cons_append,List.nil_append] at h2 h3;rw [h2];exact h3
  | @agg i k x ps out xs hx hk h ih =>
    intro pre mid hp hm;simp only [List.length_append] at hm;rw [List.map_cons,j8 rfl (xs:=xs) (by rw [hx];rfl) hk (by simp;omega)];have h2:=zK pre (mid.drop xs.length) xs (mid.take xs.length) (by simp;omega);rw [hp,List.append_assoc,List.take_append_drop] at h2;have h3:=ih (pre++xs) (mid.drop xs.length) (by simp [hp,hk,Nat.succ_mul]) (by simp;omega);rw [h2];simpa using h3
theorem qS {E k m:Nat} {zs out:List Value} {ps:List (Nat×Operand)} {K:Value→List HProp→Prop} [hu:TU P T (.slice E)] [hs:TSZ P E k] [hz:TZ P E zs]
    (hm:ps.length=m) (hsm:m*k≤16777216) (h:Prts v k 0 ps out)
    (hk:∀b,K (.slice (some ⟨b,0,none⟩) m m) (pt b (cl out E)::L)):Ow P (.buildSlice T m ps.toArray) ty v L K :=
  yX fun _ _ _ _ w hw=>by
    refine ⟨_,w.alloc (cl out E),_,?_,yr hw rfl,hk w.heap.size⟩;obtain ⟨zv,hzv,hc⟩:=hz.z;have hlen:=h.length;subst hm;simp only [execOp,Instr.buildSlice,Sem.run_bind,Sem.run_map,hu.u,hs.size,Result.andThen_ok];rw [if_neg qd]
    by_cases h0:ps.length*k=0
    · have hf:=fill_prts h [] [] (by simp) (by simp [hlen,h0]);simp only [List.nil_append] at hf;simp only [h0,if_true,Sem.run_pure,Result.andThen_ok,Sem.run_bind,List.map_toArray,Array.range_zero',List.map_toArray];simp [hf,newRow]
    · have hf:=fill_prts h [] (((Array.range (ps.length*k)).map (zs.toArray[·%zs.toArray.size]!)).toList) (by simp) (by simp [hlen]);simp only [List.nil_append,Array.toArray_toList] at hf;simp only [h0,if_false,Sem.run_bind,hzv,hc,Result.andThen_ok,Sem.run_pure,List.map_toArray,hf];rfl
inductive Evl (v:Env):List Operand→List Value→Prop
  | nil:Evl v [] []
  | cons {x r l rs} (h:evalE v x=r) (t:Evl v l rs):Evl v (x::l) (r::rs)
theorem Evl.eq {l:List Operand} {rs:List Value} (h:Evl v l rs):l.map (evalE v)=rs:=by
  induction h with
  | nil=>rfl
  | cons h _ ih=>rw [List.map_cons,h,ih]
theorem wv {fn:Fn} {f c:List Operand} {fs cs:List Value} (hf:Evl v f fs) (hc:Evl v c cs):Qt P (.makeFunc fn f.toArray c.toArray) ty v L (.func fn fs.toArray cs.toArray):=fun _ _ _ _ _ _=>by
  simp [execOp,Instr.makeFunc,hf.eq,hc.eq]
theorem xp {r:Value} (hx:evalE v x=r) (hc:P.concrete T=true):Qt P (.makeInterface T x) ty v L (.iface T r):=fun _ _ _ _ w _=>by
  simp [execOp,hx,run_makeInterface (h:=hc)]
theorem qI {a:Option Addr} {len cap:Nat} {t E:TypeId} [hu:TU P t (.slice E)] (hx:evalE v x=.slice a len cap):Qt P (.call ⟨.builtin .len,#[x],#[t]⟩) ty v L (.int .i64 len):=fun _ _ _ _ w _=>by
  simp [execOp,resolve,invoke,builtin,Builtin.len_,hx,hu.u,goInt]
theorem wL {s:ByteArray} {t:TypeId} [hu:TU P t .string] (hx:evalE v x=.string s):Qt P (.call ⟨.builtin .len,#[x],#[t]⟩) ty v L (.int .i64 s.size):=fun _ _ _ _ w _=>by
  simp [execOp,resolve,invoke,builtin,Builtin.len_,hx,hu.u,goInt]
theorem qt_min2 {k k':IntKind} {a b:Int} {ts:Array TypeId} (hx:evalE v x=.int k a) (hy:evalE v y=.int k' b):Qt P (.call ⟨.builtin .min,#[x,y],ts⟩) ty v L (.int k (if b<a then b else a)):=fun _ _ _ _ w _=>by
  simp [execOp,resolve,invoke,builtin,Builtin.min_,hx,hy,Builtin.min2]
theorem qt_max2 {k k':IntKind} {a b:Int} {ts:Array TypeId} (hx:evalE v x=.int k a) (hy:evalE v y=.int k' b):Qt P (.call ⟨.builtin .max,#[x,y],ts⟩) ty v L (.int k (if b>a then b else a)):=fun _ _ _ _ w _=>by
  simp [execOp,resolve,invoke,builtin,Builtin.max_,hx,hy,Builtin.max2]
theorem qt_field {i off:Nat} {cs:List Value} {r:Value} {pl:List (Nat×Nat)} (hx:evalE v x=.agg cs.toArray) (fs:Array Field) (fd:Field) (hu:∀w,(underlying T).run P w=.ok (.struct fs) w) (hfd:fs[i]?=some fd)
    (hn:∀w,(isAgg fd.type).run P w=.ok false w) (hr:cs[fd.offset]?=some r):Qt P (.field T x i) ty v L r:=fun _ _ _ _ w _=>by
  simp [execOp,Instr.field,hx,hu,hfd,asAgg,part,hn,hr]
theorem jv {s:ByteArray} {k:IntKind} {i:Int} {m:Nat} [hu:TU P T .string] (hx:evalE v x=.string s) (hy:evalE v y=.int k i) (hi:i=(m:Int)) (hm:m<s.size) :
    Qt P (.index T x y) ty v L (.int .u8 (s[m]'hm).toNat):=fun _ _ _ _ w _=>by
  subst hi;simp [execOp,Instr.index,hx,hy,asIntOf,hu.u,ByteArray.getElem?_lt' s m hm]
theorem yy {a b:ByteArray}:(a.toList == b.toList)=decide (a=b):=by
  by_cases h:a=b
  · subst h;simp
  · have:a.toList≠b.toList:=fun h'=>h (by
      rw [ByteArray.toList_eq,ByteArray.toList_eq] at h';cases a;cases b;simp at h';subst h';rfl)
    simp [h,this]
theorem jJ {a b:ByteArray} {yt:TypeId} (hx:evalE v x=.string a) (hy:evalE v y=.string b):Qt P (.binOp .eql T x y yt) ty v L (.bool (decide (a=b))):=fun _ _ _ _ _ _=>by
  simp [execOp,hx,hy,eqGuard,binOp,Op.stringOp,yy]
theorem zj {a b:ByteArray} {yt:TypeId} (hx:evalE v x=.string a) (hy:evalE v y=.string b):Qt P (.binOp .neq T x y yt) ty v L (.bool (decide (a≠b))):=fun _ _ _ _ _ _=>by
  simp [execOp,hx,hy,eqGuard,binOp,Op.stringOp,yy]
def ltB (a b:ByteArray):Prop:=Op.bytesLess a.toList b.toList=true
instance (a b:ByteArray):Decidable (ltB a b):=inferInstanceAs (Decidable (_=true))
theorem ltB_dec (a b:ByteArray):decide (ltB a b)=Op.bytesLess a.toList b.toList:=by
  by_cases h:ltB a b
  · rw [decide_eq_true h];exact h.symm
  · rw [decide_eq_false h];exact (Bool.not_eq_true _▸h:_=false).symm
theorem kX {a b:ByteArray} {yt:TypeId} (hx:evalE v x=.string a) (hy:evalE v y=.string b):Qt P (.binOp .lss T x y yt) ty v L (.bool (decide (ltB a b))):=fun _ _ _ _ _ _=>by
  simp [execOp,hx,hy,eqGuard,binOp,Op.stringOp,ltB_dec]
theorem qt_strle {a b:ByteArray} {yt:TypeId} (hx:evalE v x=.string a) (hy:evalE v y=.string b):Qt P (.binOp .leq T x y yt) ty v L (.bool (decide (ltB a b∨a=b))):=fun _ _ _ _ _ _=>by
  simp [execOp,hx,hy,eqGuard,binOp,Op.stringOp,ltB_dec,yy]
theorem run_ptr_nil {p:Option Addr} {E:TypeId} [hu:TU P T (.pointer E)] (d:Nat) (w:World):(Op.equalIn (d+1) T (.pointer p) (.pointer none)).run P w=.ok p.isNone w:=by
  cases p<;>simp [Op.equalIn,hu.u]
theorem wd {p:Option Addr} {yt:TypeId} {E:TypeId} [hu:TU P T (.pointer E)] (hx:evalE v x=.pointer p) (hy:evalE v y=.pointer none):Qt P (.binOp .eql T x y yt) ty v L (.bool p.isNone):=fun _ _ _ _ w _=>by
  have h:(Op.equal T (.pointer p) (.pointer none)).run P w=.ok p.isNone w:=run_ptr_nil 9999 w;have h2:binOp .eql T (.pointer p) (.pointer none)=(do pure (.bool (←Op.equal T (.pointer p) (.pointer none))):Sem Value):=by cases p<;>rfl
  have h3:eqGuard .eql T x y (.pointer p) (.pointer none)=pure ():=rfl;simp only [execOp,hx,hy,h2,h3,Sem.run_bind,Sem.run_pure,Result.andThen_ok,h]
theorem xf {p:Option Addr} {yt:TypeId} {E:TypeId} [hu:TU P T (.pointer E)] (hx:evalE v x=.pointer p) (hy:evalE v y=.pointer none):Qt P (.binOp .neq T x y yt) ty v L (.bool (!p.isNone)):=fun _ _ _ _ w _=>by
  have h:(Op.equal T (.pointer p) (.pointer none)).run P w=.ok p.isNone w:=run_ptr_nil 9999 w;have h2:binOp .neq T (.pointer p) (.pointer none)=(do pure (.bool (!(←Op.equal T (.pointer p) (.pointer none)))):Sem Value):=by cases p<;>rfl
  have h3:eqGuard .neq T x y (.pointer p) (.pointer none)=pure ():=rfl;simp only [execOp,hx,hy,h2,h3,Sem.run_bind,Sem.run_pure,Result.andThen_ok,h]
theorem xU {k:IntKind} {i:Int} {m y:Nat} {c:BoundsCode} (hi:i=(m:Int)) (h:m≤y) (w:World):(Instr.sliceBound (.int k i) y c).run P w=.ok m w:=by
  subst hi;have h1:(0:Int)≤(m:Int)∧(m:Int)≤(y:Int):=by omega
  simp only [Instr.sliceBound,asIntOf,Sem.run_bind,Sem.run_pure,Result.andThen_ok];rw [if_pos h1];rfl
theorem xW {a:Option Addr} {len cap m:Nat} {E s:TypeId} {k:IntKind} {i:Int} [hu:TU P T (.slice E)] [hs:TSZ P E s] (hx:evalE v x=.slice a len cap) (hy:evalE v y=.int k i) (hi:i=(m:Int)) (hm:m≤cap) :
    Qt P (.slice T x none (some y) none) ty v L (.slice a m cap):=fun _ _ _ _ w _=>by
  simp only [execOp,Instr.sliceAt,Instr.slice,hx,hy,Sem.run_bind,hu.u,Result.andThen_ok,Instr.sliceBounds,Option.map_some,Option.map_none,Sem.run_pure,xU hi hm,hs.size]
  by_cases hc:cap=0
  · simp [hc]
  · cases a<;>simp [Addr.add,Ne.symm hc]
theorem qt_slice_lh {b off len cap l m:Nat} {E s:TypeId} {k k':IntKind} {i j:Int} [hu:TU P T (.slice E)] [hs:TSZ P E s] (hx:evalE v x=.slice (some ⟨b,off,none⟩) len cap) (hy:evalE v y=.int k i) (hz:evalE v z=.int k' j)
    (hi:i=(l:Int)) (hj:j=(m:Int)) (hl:l≤m) (hm:m≤cap):Qt P (.slice T x (some y) (some z) none) ty v L (.slice (some (if cap=l then ⟨b,off,none⟩ else ⟨b,off+l*s,none⟩)) (m-l) (cap-l)):=fun _ _ _ _ w _=>by
  simp only [execOp,Instr.sliceAt,Instr.slice,hx,hy,hz,Sem.run_bind,hu.u,Result.andThen_ok,Instr.sliceBounds,Option.map_some,Option.map_none,Sem.run_pure,xU hj hm,xU hi hl,Option.isSome_none,Bool.false_eq_true,if_false,hs.size]
  by_cases hc:cap=l
  · simp [hc]
  · simp only [if_neg hc,Addr.add]
    split
    · rename_i h0;rw [h0];simp
    · simp
theorem qt_slice_l {b off len cap l:Nat} {E s:TypeId} {k:IntKind} {i:Int} [hu:TU P T (.slice E)] [hs:TSZ P E s] (hx:evalE v x=.slice (some ⟨b,off,none⟩) len cap) (hy:evalE v y=.int k i)
    (hi:i=(l:Int)) (hl:l≤len):Qt P (.slice T x (some y) none none) ty v L (.slice (some (if cap=l then ⟨b,off,none⟩ else ⟨b,off+l*s,none⟩)) (len-l) (cap-l)):=fun _ _ _ _ w _=>by
  simp only [execOp,Instr.sliceAt,Instr.slice,hx,hy,Sem.run_bind,hu.u,Result.andThen_ok,Instr.sliceBounds,Option.map_some,Option.map_none,Sem.run_pure,xU hi hl,Option.isSome_none,Bool.false_eq_true,if_false,hs.size]
  by_cases hc:cap=l
  · simp [hc]
  · simp only [if_neg hc,Addr.add]
    split
    · rename_i h0;rw [h0];simp
    · simp
theorem yc {s:ByteArray} {l:Nat} {k:IntKind} {i:Int} [hu:TU P T .string] (hx:evalE v x=.string s) (hy:evalE v y=.int k i) (hi:i=(l:Int)) (hl:l≤s.size) :
    Qt P (.slice T x (some y) none none) ty v L (.string (s.extract l s.size)):=fun _ _ _ _ w _=>by
  simp only [execOp,Instr.sliceAt,Instr.slice,hx,hy,Sem.run_bind,hu.u,Result.andThen_ok,Instr.sliceBounds,Option.map_some,Option.map_none,Sem.run_pure,xU hi hl,Option.isSome_none,Bool.false_eq_true,if_false]
theorem xV {s:ByteArray} {l:Nat} {k:IntKind} {i:Int} [hu:TU P T .string] (hx:evalE v x=.string s) (hy:evalE v y=.int k i) (hi:i=(l:Int)) (hl:l≤s.size) :
    Qt P (.slice T x none (some y) none) ty v L (.string (s.extract 0 l)):=fun _ _ _ _ w _=>by
  simp only [execOp,Instr.sliceAt,Instr.slice,hx,hy,Sem.run_bind,hu.u,Result.andThen_ok,Instr.sliceBounds,Option.map_some,Option.map_none,Sem.run_pure,xU hi hl,Option.isSome_none,Bool.false_eq_true,if_false]
theorem zl {s:ByteArray} {l m:Nat} {k k':IntKind} {i j:Int} [hu:TU P T .string] (hx:evalE v x=.string s) (hy:evalE v y=.int k i) (hz:evalE v z=.int k' j) (hi:i=(l:Int)) (hj:j=(m:Int)) (hl:l≤m) (hm:m≤s.size) :
    Qt P (.slice T x (some y) (some z) none) ty v L (.string (s.extract l m)):=fun _ _ _ _ w _=>by
  simp only [execOp,Instr.sliceAt,Instr.slice,hx,hy,hz,Sem.run_bind,hu.u,Result.andThen_ok,Instr.sliceBounds,Option.map_some,Option.map_none,Sem.run_pure,xU hj hm,xU hi hl,Option.isSome_none,Bool.false_eq_true,if_false]
end
end
section
open Go
def own (s:Value) (E:TypeId) (k:Nat) (xs:List Value):HProp :=
  ⟨fun _ rw=>(s=.slice none 0 0∧xs=[])∨∃b n cap sp,s=.slice (some ⟨b,0,none⟩) n cap∧xs.length=n*k∧xs.length+sp.length=cap*k∧rw b=some (cl (xs++sp) E),
   fun _ h' h=>h.imp id fun ⟨b,n,cap,sp,h1,h2,h3,h4⟩=>⟨b,n,cap,sp,h1,h2,h3,h' _ _ h4⟩⟩
def rds (s:Value) (k:Nat) (xs:List Value):HProp :=
  ⟨fun ro _=>∃a n cap,s=.slice a n cap∧xs.length=n*k∧n*k≤cap*k∧(xs=[]∨∃b off l E fz,a=some ⟨b,off,none⟩∧ro b=some (.cells (List.toArray l) E fz)∧∀i,i<xs.length→l[off+i]?=xs[i]?),
   fun h' _ ⟨a,n,cap,h1,h2,hc,h3⟩=>⟨a,n,cap,h1,h2,hc,h3.imp id fun ⟨b,off,l,E,fz,h4,h5,h6⟩=>⟨b,off,l,E,fz,h4,h'.1 _ _ h5,h6⟩⟩⟩
theorem zB {s:Value} {E:TypeId} {k:Nat} {xs:List Value} {L:List HProp} {w:World} (h:Sat (own s E k xs::L) w) :
    (s=.slice none 0 0∧xs=[]∧Sat L w)∨∃b n cap sp,s=.slice (some ⟨b,0,none⟩) n cap∧xs.length=n*k∧xs.length+sp.length=cap*k∧Sat (pt b (cl (xs++sp) E)::L) w:=by
  obtain ⟨ro,rw,h1,h2,h3,m1,m2,hs,ho,hl⟩:=h;rcases ho with ⟨ha,hb⟩ | ⟨b,n,cap,sp,ha,hb,hc,hd⟩
  · exact .inl ⟨ha,hb,ro,rw,h1,h2,h3,zy (SubR.refl _) hs.right hl⟩
  · exact .inr ⟨b,n,cap,sp,ha,hb,hc,ro,rw,h1,h2,h3,m1,m2,hs,hd,hl⟩
theorem zx {b n cap k:Nat} {xs sp:List Value} {E:TypeId} {L:List HProp} (h1:xs.length=n*k) (h2:xs.length+sp.length=cap*k) :
    Ent (pt b (cl (xs++sp) E)::L) (own (.slice (some ⟨b,0,none⟩) n cap) E k xs::L) :=
  fun _ _ ⟨m1,m2,hs,ha,hl⟩=>⟨m1,m2,hs,.inr ⟨b,n,cap,sp,rfl,h1,h2,ha⟩,hl⟩
theorem wC {k:Nat} {E:TypeId} {L:List HProp}:Ent L (own (.slice none 0 0) E k []::L) :=
  fun _ rw hl=>⟨fun _=>none,rw,.none_left _,.inl ⟨rfl,rfl⟩,hl⟩
theorem own_slice {s:Value} {E:TypeId} {k:Nat} {xs:List Value} {L:List HProp} {w:World} (h:Sat (own s E k xs::L) w) :
    ∃a n cap,s=.slice a n cap∧xs.length=n*k:=by
  rcases zB h with ⟨rfl,rfl,_⟩ | ⟨b,n,cap,sp,rfl,h1,_,_⟩
  · exact ⟨none,0,0,rfl,by simp⟩
  · exact ⟨_,n,cap,rfl,h1⟩
theorem wX {s:Value} {E:TypeId} {k:Nat} {xs:List Value} {L:List HProp} {w:World} (h:Sat (own s E k xs::L) w):Sat (rds s k xs::L) w:=by
  rcases zB h with ⟨rfl,rfl,hl⟩ | ⟨b,n,cap,sp,rfl,h1,h2,hl⟩
  · obtain ⟨ro,rw,e1,e2,e3,hl⟩:=hl;exact ⟨ro,rw,e1,e2,e3,fun _=>none,rw,.none_left _,⟨none,0,0,rfl,by simp,by simp,.inl rfl⟩,hl⟩
  · obtain ⟨ro,rw,e1,e2,e3,m1,m2,hs,ha,hl⟩:=sat_seal hl;exact ⟨ro,rw,e1,e2,e3,m1,m2,hs,⟨_,n,cap,rfl,h1,by omega,.inr ⟨b,0,_,E,_,rfl,ha,fun i hi=>by simp [List.getElem?_append,hi]⟩⟩,hl⟩
theorem rds_slice {s:Value} {k:Nat} {xs:List Value} {L:List HProp} {w:World} (h:Sat (rds s k xs::L) w):∃a n cap,s=.slice a n cap∧xs.length=n*k:=by
  obtain ⟨ro,rw,e1,e2,e3,m1,m2,hs,⟨a,n,cap,h1,h2,_⟩,hl⟩:=h;exact ⟨a,n,cap,h1,h2⟩
theorem ent_rds_dup {s:Value} {k:Nat} {xs:List Value} {L:List HProp}:Ent (rds s k xs::L) (rds s k xs::rds s k xs::L) :=
  fun _ _ ⟨m1,m2,hs,ha,hl⟩=>⟨m1,m2,hs,ha,fun _=>none,m2,.none_left _,ha,hl⟩
theorem xR {k cap:Nat} {a:Option Addr} {L:List HProp}:Ent L (rds (.slice a 0 cap) k []::L) :=
  fun _ rw hl=>⟨fun _=>none,rw,.none_left _,⟨a,0,cap,rfl,by simp,by simp,.inl rfl⟩,hl⟩
theorem rds_open {a:Option Addr} {n cap k:Nat} {xs:List Value} {L:List HProp} {w:World} (h:Sat (rds (.slice a n cap) k xs::L) w) (hne:0<xs.length) :
    ∃b off l E fz,a=some ⟨b,off,none⟩∧(∀i,i<xs.length→(l:List Value)[off+i]?=xs[i]?)∧Sat (rd b (.cells l.toArray E fz)::rds (.slice a n cap) k xs::L) w:=by
  obtain ⟨ro,rw,e1,e2,e3,m1,m2,hs,hr,hl⟩:=h;obtain ⟨a',n',cap',h1,h2,hc,h3⟩:=hr;cases h1;rcases h3 with rfl | ⟨b,off,l,E,fz,h4,h5,h6⟩
  · cases hne
  · exact ⟨b,off,l,E,fz,h4,h6,ro,rw,e1,e2,e3,fun _=>none,rw,.none_left _,h5,m1,m2,hs,⟨a,n,cap,rfl,h2,hc,.inr ⟨b,off,l,E,fz,h4,h5,h6⟩⟩,hl⟩
def Rdb (P:Program) (L:List HProp) (x:Value) (k m:Nat) (ys:List Value):Prop :=
  ys.length=m*k∧∀w,Sat L w→(Builtin.lenOf x).run P w=.ok m w∧(Builtin.firstCells k m x).run P w=.ok ys.toArray w
theorem add_off (b off j:Nat):(Addr.add ⟨b,off,none⟩ j)=(⟨b,off+j,none⟩:Addr):=by
  unfold Addr.add;split<;>simp_all
theorem zf {P:Program} {w:World} {b off:Nat} {l ys:List Value} {E:TypeId} {fz:Nat×Nat} (hb:w.heap[b]?=some (.cells l.toArray E fz)) (h:∀j,j<ys.length→l[off+j]?=ys[j]?) :
    (loadCells ⟨b,off,none⟩ ys.length).run P w=.ok ys.toArray w:=by
  apply run_loadCells_list;intro j x hj;have hlt:j<ys.length:=(List.getElem?_eq_some_iff.1 hj).1;rw [add_off,kb hb,h j hlt,hj]
theorem rdb_nil {P:Program} {L:List HProp} {k cap:Nat}:Rdb P L (.slice none 0 cap) k 0 [] :=
  ⟨by simp,fun w _=>⟨rfl,rfl⟩⟩
theorem j0 {P:Program} {L:List HProp} {b off k m cap:Nat} {l ys:List Value} {E:TypeId} {fz:Nat×Nat} [h:Has L b (.cells l.toArray E fz)] (hm:ys.length=m*k) (hy:∀j,j<ys.length→l[off+j]?=ys[j]?) :
    Rdb P L (.slice (some ⟨b,off,none⟩) m cap) k m ys :=
  ⟨hm,fun w hw=>⟨rfl,by
    have:=zf (P:=P) (off:=off) (h.out w hw) hy;rw [hm] at this;exact this⟩⟩
theorem rdb_rds {P:Program} {L Lr:List HProp} {x:Value} {k m cap:Nat} {a:Option Addr} {ys:List Value} (hs:Sel L (rds (.slice a m cap) k ys) Lr):Rdb P L (.slice a m cap) k ys.length ys→True:=fun _=>trivial
theorem xD {P:Program} {L Lr:List HProp} {k m cap:Nat} {a:Option Addr} {ys:List Value} (hs:Sel L (rds (.slice a m cap) k ys) Lr) (hm:ys.length=m*k):Rdb P L (.slice a m cap) k m ys :=
  ⟨hm,fun w hw=>by
    have h:=hs.ent.sat hw;refine ⟨rfl,?_⟩
    by_cases h0:0<ys.length
    · obtain ⟨b,off,l,E,fz,rfl,hy,hs'⟩:=rds_open h h0;have:=zf (P:=P) (off:=off) (sat_rd hs') hy;rw [hm] at this;exact this
    · have:ys=[]:=List.eq_nil_of_length_eq_zero qd;subst this;have hz:m*k=0:=by simpa using hm.symm
      cases a with
      | none=>rfl
      | some a=>simp [Builtin.firstCells,hz,loadCells,loadCellsFrom]⟩
def u8s (l:List UInt8):List Value:=l.map fun b=>.int .u8 b.toNat
theorem kp {P:Program} {L:List HProp} {s:ByteArray}:Rdb P L (.string s) 1 s.size (u8s s.data.toList) :=
  ⟨by simp [u8s],fun w _=>⟨rfl,by
    have h1:s.extract 0 s.size=s:=by simp
    simp only [Builtin.firstCells,u8s,h1,Sem.run_pure,Result.ok.injEq,and_true];apply Array.ext'
    simp⟩⟩
section
variable {P:Program} {n:Nat} {v:Env} {L:List HProp} {ty:TypeId} {x y z:Operand} {T:TypeId}
theorem zero_rest {zs:List Value} (n k:Nat) (h:zs.length=k):(Builtin.zeroCells zs.toArray n).toList.length=n*k:=by
  simp [Builtin.zeroCells,h]
theorem setAll_tail {xs sp ys:List Value} (h:ys.length≤sp.length):setAll (xs++sp) xs.length ys=xs++ys++sp.drop ys.length:=by
  have:=zK xs (sp.drop ys.length) ys (sp.take ys.length) (by simp;omega)
  rwa [List.append_assoc,List.take_append_drop] at this
theorem ones_of {ys:List Value} (h:∀y∈ys,Value.one y=true):Ones ys=true:=by
  induction ys with
  | nil=>rfl
  | cons y ys ih=>simp only [Ones,Bool.and_eq_true];exact ⟨h y (by simp),ih fun z hz=>h z (by simp [hz])⟩
def notInt:TypeDesc→Bool
  | .int _=>false
  | _=>true
section
variable {E k bytes m sn cap:Nat} {zs xs ys:List Value} {xt:TypeId} {xd:TypeDesc} {xv:Value} {w:World}
theorem kR [hu:TU P T (.slice E)] [hxt:TU P xt xd] (hxd:notInt xd=true) [hsz:TSZ P E k] {a:Option Addr}
    (h1:(Builtin.lenOf xv).run P w=.ok m w) (h2:(Builtin.firstCells k m xv).run P w=.ok ys.toArray w) (hroom:sn+m≤cap) :
    (Builtin.append_ #[T,xt] ty #[.slice a sn cap,xv]).run P w=((match a with | some a=>storeCells (a.add (sn*k)) ys | none=>pure ():Sem Unit).run P w).andThen fun _ w'=>.ok (.slice a (sn+m) cap) w':=by
  have hm:((do pure ((←underlying xt) matches .int _):Sem Bool)).run P w=.ok false w:=by
    simp only [Sem.run_bind,hxt.u,Result.andThen_ok,Sem.run_pure];cases xd<;>first | rfl | (cases hxd;done)
  simp only [Builtin.append_,List.getElem?_toArray,List.getElem?_cons_zero,List.getElem?_cons_succ,Sem.run_bind,hu.u,Result.andThen_ok,hsz.size,hxt.u,Sem.run_pure]
  split
  · cases hxd
  · cases a<;>simp [h1,h2,hroom]
theorem kS [hu:TU P T (.slice E)] [hxt:TU P xt xd] (hxd:notInt xd=true) [hsz:TSZ P E k] [hb:TB P E bytes] {a:Option Addr} {zv:Value}
    (hz:∀w,(zeroValue E).run P w=.ok zv w)
    (h1:(Builtin.lenOf xv).run P w=.ok m w) (h2:∀d,(Builtin.firstCells k m xv).run P { w with drawn:=d }=.ok ys.toArray { w with drawn:=d })
    (h3:∀d,(Builtin.firstCells k sn (.slice a sn cap)).run P { w with drawn:=d }=.ok xs.toArray { w with drawn:=d })
    (hroom:cap<sn+m) (hfit:(sn+m)*bytes≤140737488355328) (hmax:sn+m≤9223372036854775807) (hbp:0<bytes) :
    ∃nc,sn+m≤nc∧(Builtin.append_ #[T,xt] ty #[.slice a sn cap,xv]).run P w=.ok (.slice (some ⟨w.heap.size,0,none⟩) (sn+m) nc)
      (w.drew.alloc (cl (xs++ys++(Builtin.zeroCells zv.cells (nc-(sn+m))).toList) E)):=by
  obtain ⟨inf,hinf,hby⟩:=hb.b;have hfits:=growslice_fits hroom hfit;refine ⟨grownCap w (sn+m) cap E,by simp [grownCap,Question.cut],?_⟩;have hn:¬(sn+m≤cap):=by omega
  have h63:¬(9223372036854775807<((sn:Int)+(m:Int))):=by omega
  have h48:¬(281474976710656<Builtin.nextslicecap (sn+m) cap*inf.bytes):=by rw [hby];omega
  have h2':=h2 (w.drawn+1);have h3':=h3 (w.drawn+1);simp only [World.drew_eq] at h2' h3';simp only [Builtin.append_,List.getElem?_toArray,List.getElem?_cons_zero,List.getElem?_cons_succ,Sem.run_bind,hu.u,Result.andThen_ok,hsz.size,hxt.u,Sem.run_pure]
  split
  · cases hxd
  · simp [hinf,h1,hn,h63,h48,Question.forced,h2',h3',hz,newRow,grownCap]
    congr 2
    apply Array.ext'
    simp
end
theorem wl {sv xv:Value} {E k bytes m:Nat} {zs xs ys:List Value} {Lr:List HProp} {xt:TypeId} {xd:TypeDesc} {K:Value→List HProp→Prop}
    (hx:evalE v x=sv) (hy:evalE v y=xv) (hsel:Sel L (own sv E k xs) Lr) [hu:TU P T (.slice E)] [hxt:TU P xt xd] (hxd:notInt xd=true)
    [hsz:TSZ P E k] [hz:TZ P E zs] [hb:TB P E bytes] (hzl:zs.length=k) (hbp:0<bytes) (hr:Rdb P L xv k m ys) (ho:∀y∈ys,Value.one y=true)
    (hroom:∀a n cap,sv=.slice a n cap→xs.length=n*k→(n+m)*bytes≤140737488355328)
    (hk:∀a n cap a' cap',sv=.slice a n cap→K (.slice a' (n+m) cap') (own (.slice a' (n+m) cap') E k (xs++ys)::Lr)) :
    Ow P (.call ⟨.builtin .append,#[x,y],#[T,xt]⟩) ty v L K :=
  yX fun d pos af gd w hw=>by
    have hs:=hsel.ent.sat hw;obtain ⟨hlen,hrd⟩:=hr;obtain ⟨hr1,hr2⟩:=hrd w hw;obtain ⟨zv,hzv,hzc⟩:=hz.z;have hexec:∀w,(execOp (evalE v) ⟨d,.call ⟨.builtin .append,#[x,y],#[T,xt]⟩,ty,pos,af,gd⟩).run P w=((Builtin.append_ #[T,xt] ty #[sv,xv]).run P w).andThen fun r w'=>.ok (.value r) w':=by
      intro w;simp [execOp,resolve,invoke,builtin,hx,hy]
    rcases zB hs with ⟨rfl,rfl,hL⟩ | ⟨b,sn,cap,sp,rfl,h1,h2,hL⟩
    · by_cases hm:m=0
      · subst hm;have hys:ys=[]:=List.eq_nil_of_length_eq_zero (by simpa using hlen);subst hys;refine ⟨_,w,_,?_,?_,hk none 0 0 none 0 rfl⟩
        · rw [hexec,kR (T:=T) (xt:=xt) (E:=E) hxd hr1 hr2 (by simp)];rfl
        · simpa using wC.sat hL
      · obtain ⟨nc,hnc,hrun⟩:=kS (T:=T) (xt:=xt) (E:=E) (ty:=ty) (sn:=0) (cap:=0) (xs:=[]) (a:=none) hxd hzv hr1 (fun d=>(hrd { w with drawn:=d } (zL (w:=w) rfl hw)).2) (fun d=>rfl) qd (hroom _ _ _ rfl (by simp)) (by have:=hroom _ _ _ rfl (by simp);have:(0+m)*1≤(0+m)*bytes:=Nat.mul_le_mul_left _ hbp;omega) hbp;refine ⟨_,w.drew.alloc (cl ([]++ys++(Builtin.zeroCells zv.cells (nc-(0+m))).toList) E),_,?_,?_,hk none 0 0 (some ⟨w.heap.size,0,none⟩) nc rfl⟩
        · rw [hexec,hrun];rfl
        · have hn:=yr (o:=cl ([]++ys++(Builtin.zeroCells zv.cells (nc-(0+m))).toList) E) (zL (w':=w.drew) rfl hL) (rfl:(w.drew.alloc (cl ([]++ys++(Builtin.zeroCells zv.cells (nc-(0+m))).toList) E)).heap=_);refine (zx (n:=0+m) (cap:=nc) (k:=k) (by simpa using hlen) ?_).sat hn;rw [hzc,zero_rest _ k hzl];simp only [List.nil_append,hlen,←Nat.add_mul]
          congr 1;omega
    · by_cases hroom':sn+m≤cap
      · have hb:=xN hL;have hmk:m*k≤sp.length:=by
          have:(sn+m)*k≤cap*k:=Nat.mul_le_mul_right _ hroom';rw [Nat.add_mul] at this;omega
        obtain ⟨w',hst,hb',ho'⟩:=yR (P:=P) (off:=sn*k) ys (xs++sp) 0 w (ones_of ho) hb (fun i h h'=>by simp at h') (by simp;omega);refine ⟨_,w',_,?_,?_,hk _ sn cap (some ⟨b,0,none⟩) cap rfl⟩
        · rw [hexec,kR (T:=T) (xt:=xt) (E:=E) hxd hr1 hr2 hroom'];simp only [add_off,Nat.zero_add,hst,Result.andThen_ok]
        · have hn:=yP (o':=cl (xs++ys++sp.drop ys.length) E) hL (by rw [hb',Nat.add_zero,←h1,setAll_tail qd]) ho'.1 ho'.2.1 ho'.2.2;exact (zx (by simp [h1,hlen,Nat.add_mul]) (by simp;omega)).sat hn
      · have hb:=xN hL;obtain ⟨nc,hnc,hrun⟩:=kS (T:=T) (xt:=xt) (E:=E) (ty:=ty) (sn:=sn) (cap:=cap) (xs:=xs) (a:=some ⟨b,0,none⟩) hxd hzv hr1 (fun d=>(hrd { w with drawn:=d } (zL (w:=w) rfl hw)).2)
          (fun d=>by
            have:=zf (P:=P) (w:={ w with drawn:=d }) (off:=0) (ys:=xs) hb (fun j hj=>by simp [List.getElem?_append,hj]);rw [h1] at this;exact this) qd (hroom _ _ _ rfl h1) (by have:=hroom _ _ _ rfl h1;have:(sn+m)*1≤(sn+m)*bytes:=Nat.mul_le_mul_left _ hbp;omega) hbp
        refine ⟨_,w.drew.alloc (cl (xs++ys++(Builtin.zeroCells zv.cells (nc-(sn+m))).toList) E),_,?_,?_,hk _ sn cap (some ⟨w.heap.size,0,none⟩) nc rfl⟩
        · rw [hexec,hrun];rfl
        · have hn:=yr (o:=cl (xs++ys++(Builtin.zeroCells zv.cells (nc-(sn+m))).toList) E) (zL (w':=w.drew) rfl hL.tail) (rfl:(w.drew.alloc (cl (xs++ys++(Builtin.zeroCells zv.cells (nc-(sn+m))).toList) E)).heap=_);refine (zx (n:=sn+m) (cap:=nc) (k:=k) (by simp [h1,hlen,Nat.add_mul]) ?_).sat hn;rw [hzc,zero_rest _ k hzl];simp only [List.length_append,h1,hlen,←Nat.add_mul]
          congr 1;omega
theorem k9 {E k bytes l c:Nat} {zs:List Value} {kk kc:IntKind} {il ic:Int} {K:Value→List HProp→Prop} [hu:TU P T (.slice E)] [hsz:TSZ P E k] [hz:TZ P E zs] [hb:TB P E bytes] (hzl:zs.length=k)
    (hx:evalE v x=.int kk il) (hy:evalE v y=.int kc ic) (hl:il=(l:Int)) (hc:ic=(c:Int)) (hlc:l≤c) (hfit:bytes*c≤281474976710656) (hcm:c≤9223372036854775807)
    (hk:∀b,K (.slice (some ⟨b,0,none⟩) l c) (pt b (cl ((List.range (c*k)).map fun i=>zs[i%k]?.getD default) E)::L)):Ow P (.makeSlice T x y) ty v L K :=
  yX fun _ _ _ _ w hw=>by
    obtain ⟨zv,hzv,hzc⟩:=hz.z;obtain ⟨inf,hinf,hby⟩:=hb.b;refine ⟨_,w.alloc (cl ((List.range (c*k)).map fun i=>zs[i%k]?.getD default) E),_,?_,yr hw rfl,hk w.heap.size⟩;subst hl hc;have hw1:IntKind.i64.wrap (l:Int)=l:=jF qd;have hw2:IntKind.i64.wrap (c:Int)=c:=jF qd;have h48:¬((281474976710656:Int)<(bytes:Int)*(c:Int)):=by
      have:((bytes*c:Nat):Int)=(bytes:Int)*(c:Int):=by simp
      omega
    have hle:¬((c:Int)<(l:Int)):=by omega
    have hneg:¬((c:Int)<0∨(l:Int)<0):=by omega
    have hr:Array.map (fun i=>zs[i%k]?.getD default) (Array.range (c*k))=((List.range (c*k)).map fun i=>zs[i%k]?.getD default).toArray:=by
      apply Array.ext';simp
    by_cases h0:c*k=0
    · have hr0:(#[]:Array Value)=((List.range (c*k)).map fun i=>zs[i%k]?.getD default).toArray:=by rw [h0];rfl
      simp [execOp,Instr.makeSlice,hx,hy,asInt,asIntOf,hu.u,hinf,hby,hw1,hw2,h48,hle,hsz.size,h0,newRow,hneg];rw [Array.range_zero',Array.map_empty]
    · simp [execOp,Instr.makeSlice,hx,hy,asInt,asIntOf,hu.u,hinf,hby,hw1,hw2,h48,hle,hsz.size,h0,newRow,hzv,hzc,hzl,hneg];rw [hr]
end
end
section
open Go
theorem mixed:Tryz.prog.follows .mixedOrders=true:=by kernel_rfl
instance : TNA Tryz.prog 1:=⟨Tryz.isAgg1,Tryz.sizeOf1⟩
instance : TSZ Tryz.prog 1 1:=⟨Tryz.sizeOf1⟩
instance : TZ Tryz.prog 1 [Value.nilFunc]:=⟨_,Tryz.zeroValue1,rfl⟩
instance : TB Tryz.prog 1 8:=⟨_,Tryz.typeInfo1,rfl⟩
instance : TNA Tryz.prog 2:=⟨Tryz.isAgg2,Tryz.sizeOf2⟩
instance : TSZ Tryz.prog 2 1:=⟨Tryz.sizeOf2⟩
instance : TU Tryz.prog 2 (TypeDesc.int IntKind.i64):=⟨Tryz.underlying2⟩
instance : TZ Tryz.prog 2 [Value.int IntKind.i64 0]:=⟨_,Tryz.zeroValue2,rfl⟩
instance : TB Tryz.prog 2 8:=⟨_,Tryz.typeInfo2,rfl⟩
instance : TNA Tryz.prog 3:=⟨Tryz.isAgg3,Tryz.sizeOf3⟩
instance : TSZ Tryz.prog 3 1:=⟨Tryz.sizeOf3⟩
instance : TU Tryz.prog 3 (TypeDesc.int IntKind.i64):=⟨Tryz.underlying3⟩
instance : TZ Tryz.prog 3 [Value.int IntKind.i64 0]:=⟨_,Tryz.zeroValue3,rfl⟩
instance : TB Tryz.prog 3 8:=⟨_,Tryz.typeInfo3,rfl⟩
instance : TNA Tryz.prog 4:=⟨Tryz.isAgg4,Tryz.sizeOf4⟩
instance : TSZ Tryz.prog 4 1:=⟨Tryz.sizeOf4⟩
instance : TU Tryz.prog 4 (TypeDesc.bool):=⟨Tryz.underlying4⟩
instance : TZ Tryz.prog 4 [Value.bool Bool.false]:=⟨_,Tryz.zeroValue4,rfl⟩
instance : TB Tryz.prog 4 1:=⟨_,Tryz.typeInfo4,rfl⟩
instance : TNA Tryz.prog 5:=⟨Tryz.isAgg5,Tryz.sizeOf5⟩
instance : TSZ Tryz.prog 5 1:=⟨Tryz.sizeOf5⟩
instance : TU Tryz.prog 5 (TypeDesc.int IntKind.u8):=⟨Tryz.underlying5⟩
instance : TZ Tryz.prog 5 [Value.int IntKind.u8 0]:=⟨_,Tryz.zeroValue5,rfl⟩
instance : TB Tryz.prog 5 1:=⟨_,Tryz.typeInfo5,rfl⟩
instance : TNA Tryz.prog 9:=⟨Tryz.isAgg9,Tryz.sizeOf9⟩
instance : TSZ Tryz.prog 9 1:=⟨Tryz.sizeOf9⟩
instance : TU Tryz.prog 9 (TypeDesc.string):=⟨Tryz.underlying9⟩
instance : TZ Tryz.prog 9 [Value.string ⟨#[]⟩]:=⟨_,Tryz.zeroValue9,rfl⟩
instance : TB Tryz.prog 9 16:=⟨_,Tryz.typeInfo9,rfl⟩
instance : TNA Tryz.prog 20:=⟨Tryz.isAgg20,Tryz.sizeOf20⟩
instance : TSZ Tryz.prog 20 1:=⟨Tryz.sizeOf20⟩
instance : TZ Tryz.prog 20 [Value.nilIface]:=⟨_,Tryz.zeroValue20,rfl⟩
instance : TB Tryz.prog 20 16:=⟨_,Tryz.typeInfo20,rfl⟩
instance : TNA Tryz.prog 21:=⟨Tryz.isAgg21,Tryz.sizeOf21⟩
instance : TSZ Tryz.prog 21 1:=⟨Tryz.sizeOf21⟩
instance : TU Tryz.prog 21 (TypeDesc.int IntKind.i32):=⟨Tryz.underlying21⟩
instance : TZ Tryz.prog 21 [Value.int IntKind.i32 0]:=⟨_,Tryz.zeroValue21,rfl⟩
instance : TB Tryz.prog 21 4:=⟨_,Tryz.typeInfo21,rfl⟩
instance : TNA Tryz.prog 22:=⟨Tryz.isAgg22,Tryz.sizeOf22⟩
instance : TSZ Tryz.prog 22 1:=⟨Tryz.sizeOf22⟩
instance : TU Tryz.prog 22 (TypeDesc.slice 38):=⟨Tryz.underlying22⟩
instance : TZ Tryz.prog 22 [Value.slice Option.none 0 0]:=⟨_,Tryz.zeroValue22,rfl⟩
instance : TB Tryz.prog 22 24:=⟨_,Tryz.typeInfo22,rfl⟩
instance : TNA Tryz.prog 23:=⟨Tryz.isAgg23,Tryz.sizeOf23⟩
instance : TSZ Tryz.prog 23 1:=⟨Tryz.sizeOf23⟩
instance : TU Tryz.prog 23 (TypeDesc.slice 42):=⟨Tryz.underlying23⟩
instance : TZ Tryz.prog 23 [Value.slice Option.none 0 0]:=⟨_,Tryz.zeroValue23,rfl⟩
instance : TB Tryz.prog 23 24:=⟨_,Tryz.typeInfo23,rfl⟩
instance : TNA Tryz.prog 24:=⟨Tryz.isAgg24,Tryz.sizeOf24⟩
instance : TSZ Tryz.prog 24 1:=⟨Tryz.sizeOf24⟩
instance : TU Tryz.prog 24 (TypeDesc.pointer 92):=⟨Tryz.underlying24⟩
instance : TZ Tryz.prog 24 [Value.pointer Option.none]:=⟨_,Tryz.zeroValue24,rfl⟩
instance : TB Tryz.prog 24 8:=⟨_,Tryz.typeInfo24,rfl⟩
instance : TNA Tryz.prog 25:=⟨Tryz.isAgg25,Tryz.sizeOf25⟩
instance : TSZ Tryz.prog 25 1:=⟨Tryz.sizeOf25⟩
instance : TU Tryz.prog 25 (TypeDesc.pointer 79):=⟨Tryz.underlying25⟩
instance : TZ Tryz.prog 25 [Value.pointer Option.none]:=⟨_,Tryz.zeroValue25,rfl⟩
instance : TB Tryz.prog 25 8:=⟨_,Tryz.typeInfo25,rfl⟩
instance : TNA Tryz.prog 28:=⟨Tryz.isAgg28,Tryz.sizeOf28⟩
instance : TSZ Tryz.prog 28 1:=⟨Tryz.sizeOf28⟩
instance : TU Tryz.prog 28 (TypeDesc.slice 43):=⟨Tryz.underlying28⟩
instance : TZ Tryz.prog 28 [Value.slice Option.none 0 0]:=⟨_,Tryz.zeroValue28,rfl⟩
instance : TB Tryz.prog 28 24:=⟨_,Tryz.typeInfo28,rfl⟩
instance : TNA Tryz.prog 29:=⟨Tryz.isAgg29,Tryz.sizeOf29⟩
instance : TSZ Tryz.prog 29 1:=⟨Tryz.sizeOf29⟩
instance : TU Tryz.prog 29 (TypeDesc.slice 34):=⟨Tryz.underlying29⟩
instance : TZ Tryz.prog 29 [Value.slice Option.none 0 0]:=⟨_,Tryz.zeroValue29,rfl⟩
instance : TB Tryz.prog 29 24:=⟨_,Tryz.typeInfo29,rfl⟩
instance : TNA Tryz.prog 32:=⟨Tryz.isAgg32,Tryz.sizeOf32⟩
instance : TSZ Tryz.prog 32 1:=⟨Tryz.sizeOf32⟩
instance : TU Tryz.prog 32 (TypeDesc.slice 49):=⟨Tryz.underlying32⟩
instance : TZ Tryz.prog 32 [Value.slice Option.none 0 0]:=⟨_,Tryz.zeroValue32,rfl⟩
instance : TB Tryz.prog 32 24:=⟨_,Tryz.typeInfo32,rfl⟩
instance : TNA Tryz.prog 34:=⟨Tryz.isAgg34,Tryz.sizeOf34⟩
instance : TSZ Tryz.prog 34 1:=⟨Tryz.sizeOf34⟩
instance : TU Tryz.prog 34 (TypeDesc.slice 94):=⟨Tryz.underlying34⟩
instance : TZ Tryz.prog 34 [Value.slice Option.none 0 0]:=⟨_,Tryz.zeroValue34,rfl⟩
instance : TB Tryz.prog 34 24:=⟨_,Tryz.typeInfo34,rfl⟩
instance : TNA Tryz.prog 35:=⟨Tryz.isAgg35,Tryz.sizeOf35⟩
instance : TSZ Tryz.prog 35 1:=⟨Tryz.sizeOf35⟩
instance : TU Tryz.prog 35 (TypeDesc.slice 5):=⟨Tryz.underlying35⟩
instance : TZ Tryz.prog 35 [Value.slice Option.none 0 0]:=⟨_,Tryz.zeroValue35,rfl⟩
instance : TB Tryz.prog 35 24:=⟨_,Tryz.typeInfo35,rfl⟩
instance : TNA Tryz.prog 36:=⟨Tryz.isAgg36,Tryz.sizeOf36⟩
instance : TSZ Tryz.prog 36 1:=⟨Tryz.sizeOf36⟩
instance : TU Tryz.prog 36 (TypeDesc.int IntKind.u16):=⟨Tryz.underlying36⟩
instance : TZ Tryz.prog 36 [Value.int IntKind.u16 0]:=⟨_,Tryz.zeroValue36,rfl⟩
instance : TB Tryz.prog 36 2:=⟨_,Tryz.typeInfo36,rfl⟩
instance : TAG Tryz.prog 38 5:=⟨Tryz.isAgg38,Tryz.sizeOf38⟩
instance : TSZ Tryz.prog 38 5:=⟨Tryz.sizeOf38⟩
instance : TZ Tryz.prog 38 [Value.slice Option.none 0 0,Value.slice Option.none 0 0,Value.int IntKind.u8 0,Value.int IntKind.u8 0,Value.int IntKind.u16 0]:=⟨_,Tryz.zeroValue38,rfl⟩
instance : TB Tryz.prog 38 56:=⟨_,Tryz.typeInfo38,rfl⟩
instance : TF Tryz.prog 38 0 0:=⟨_,_,_,Tryz.runUnderlying38,rfl,rfl,Tryz.sizeOf34⟩
instance : TF Tryz.prog 38 1 1:=⟨_,_,_,Tryz.runUnderlying38,rfl,rfl,Tryz.sizeOf35⟩
instance : TF Tryz.prog 38 2 2:=⟨_,_,_,Tryz.runUnderlying38,rfl,rfl,Tryz.sizeOf5⟩
instance : TF Tryz.prog 38 3 3:=⟨_,_,_,Tryz.runUnderlying38,rfl,rfl,Tryz.sizeOf5⟩
instance : TF Tryz.prog 38 4 4:=⟨_,_,_,Tryz.runUnderlying38,rfl,rfl,Tryz.sizeOf36⟩
instance : TS Tryz.prog 38 [(0,1),(1,1),(2,1),(3,1),(4,1)]:=⟨_,Tryz.runUnderlying38,fun w=>by simp [Tryz.sizeOf34,Tryz.sizeOf35,Tryz.sizeOf36,Tryz.sizeOf5]⟩
instance : TNA Tryz.prog 40:=⟨Tryz.isAgg40,Tryz.sizeOf40⟩
instance : TSZ Tryz.prog 40 1:=⟨Tryz.sizeOf40⟩
instance : TU Tryz.prog 40 (TypeDesc.int IntKind.i64):=⟨Tryz.underlying40⟩
instance : TZ Tryz.prog 40 [Value.int IntKind.i64 0]:=⟨_,Tryz.zeroValue40,rfl⟩
instance : TB Tryz.prog 40 8:=⟨_,Tryz.typeInfo40,rfl⟩
instance : TNA Tryz.prog 41:=⟨Tryz.isAgg41,Tryz.sizeOf41⟩
instance : TSZ Tryz.prog 41 1:=⟨Tryz.sizeOf41⟩
instance : TZ Tryz.prog 41 [Value.nilFunc]:=⟨_,Tryz.zeroValue41,rfl⟩
instance : TB Tryz.prog 41 8:=⟨_,Tryz.typeInfo41,rfl⟩
instance : TAG Tryz.prog 42 2:=⟨Tryz.isAgg42,Tryz.sizeOf42⟩
instance : TSZ Tryz.prog 42 2:=⟨Tryz.sizeOf42⟩
instance : TU Tryz.prog 42 (TypeDesc.array 2 36):=⟨Tryz.underlying42⟩
instance : TZ Tryz.prog 42 [Value.int IntKind.u16 0,Value.int IntKind.u16 0]:=⟨_,Tryz.zeroValue42,rfl⟩
instance : TB Tryz.prog 42 4:=⟨_,Tryz.typeInfo42,rfl⟩
instance : TNA Tryz.prog 43:=⟨Tryz.isAgg43,Tryz.sizeOf43⟩
instance : TSZ Tryz.prog 43 1:=⟨Tryz.sizeOf43⟩
instance : TU Tryz.prog 43 (TypeDesc.slice 3):=⟨Tryz.underlying43⟩
instance : TZ Tryz.prog 43 [Value.slice Option.none 0 0]:=⟨_,Tryz.zeroValue43,rfl⟩
instance : TB Tryz.prog 43 24:=⟨_,Tryz.typeInfo43,rfl⟩
instance : TAG Tryz.prog 45 5:=⟨Tryz.isAgg45,Tryz.sizeOf45⟩
instance : TSZ Tryz.prog 45 5:=⟨Tryz.sizeOf45⟩
instance : TZ Tryz.prog 45 [Value.int IntKind.i64 0,Value.bool Bool.false,Value.int IntKind.i64 0,Value.slice Option.none 0 0,Value.slice Option.none 0 0]:=⟨_,Tryz.zeroValue45,rfl⟩
instance : TB Tryz.prog 45 72:=⟨_,Tryz.typeInfo45,rfl⟩
instance : TF Tryz.prog 45 0 0:=⟨_,_,_,Tryz.runUnderlying45,rfl,rfl,Tryz.sizeOf40⟩
instance : TF Tryz.prog 45 1 1:=⟨_,_,_,Tryz.runUnderlying45,rfl,rfl,Tryz.sizeOf4⟩
instance : TF Tryz.prog 45 2 2:=⟨_,_,_,Tryz.runUnderlying45,rfl,rfl,Tryz.sizeOf3⟩
instance : TF Tryz.prog 45 3 3:=⟨_,_,_,Tryz.runUnderlying45,rfl,rfl,Tryz.sizeOf43⟩
instance : TF Tryz.prog 45 4 4:=⟨_,_,_,Tryz.runUnderlying45,rfl,rfl,Tryz.sizeOf34⟩
instance : TS Tryz.prog 45 [(0,1),(1,1),(2,1),(3,1),(4,1)]:=⟨_,Tryz.runUnderlying45,fun w=>by simp [Tryz.sizeOf3,Tryz.sizeOf34,Tryz.sizeOf4,Tryz.sizeOf40,Tryz.sizeOf43]⟩
instance : TAG Tryz.prog 48 6:=⟨Tryz.isAgg48,Tryz.sizeOf48⟩
instance : TSZ Tryz.prog 48 6:=⟨Tryz.sizeOf48⟩
instance : TZ Tryz.prog 48 [Value.int IntKind.i64 0,Value.int IntKind.i64 0,Value.int IntKind.i64 0,Value.int IntKind.i64 0,Value.slice Option.none 0 0,Value.string ⟨#[]⟩]:=⟨_,Tryz.zeroValue48,rfl⟩
instance : TB Tryz.prog 48 72:=⟨_,Tryz.typeInfo48,rfl⟩
instance : TF Tryz.prog 48 0 0:=⟨_,_,_,Tryz.runUnderlying48,rfl,rfl,Tryz.sizeOf3⟩
instance : TF Tryz.prog 48 1 1:=⟨_,_,_,Tryz.runUnderlying48,rfl,rfl,Tryz.sizeOf3⟩
instance : TF Tryz.prog 48 2 2:=⟨_,_,_,Tryz.runUnderlying48,rfl,rfl,Tryz.sizeOf3⟩
instance : TF Tryz.prog 48 3 3:=⟨_,_,_,Tryz.runUnderlying48,rfl,rfl,Tryz.sizeOf3⟩
instance : TF Tryz.prog 48 4 4:=⟨_,_,_,Tryz.runUnderlying48,rfl,rfl,Tryz.sizeOf43⟩
instance : TF Tryz.prog 48 5 5:=⟨_,_,_,Tryz.runUnderlying48,rfl,rfl,Tryz.sizeOf9⟩
instance : TS Tryz.prog 48 [(0,1),(1,1),(2,1),(3,1),(4,1),(5,1)]:=⟨_,Tryz.runUnderlying48,fun w=>by simp [Tryz.sizeOf3,Tryz.sizeOf43,Tryz.sizeOf9]⟩
instance : TNA Tryz.prog 49:=⟨Tryz.isAgg49,Tryz.sizeOf49⟩
instance : TSZ Tryz.prog 49 1:=⟨Tryz.sizeOf49⟩
instance : TU Tryz.prog 49 (TypeDesc.slice 4):=⟨Tryz.underlying49⟩
instance : TZ Tryz.prog 49 [Value.slice Option.none 0 0]:=⟨_,Tryz.zeroValue49,rfl⟩
instance : TB Tryz.prog 49 24:=⟨_,Tryz.typeInfo49,rfl⟩
instance : TAG Tryz.prog 62 2:=⟨Tryz.isAgg62,Tryz.sizeOf62⟩
instance : TSZ Tryz.prog 62 2:=⟨Tryz.sizeOf62⟩
instance : TZ Tryz.prog 62 [Value.slice Option.none 0 0,Value.int IntKind.i64 0]:=⟨_,Tryz.zeroValue62,rfl⟩
instance : TB Tryz.prog 62 32:=⟨_,Tryz.typeInfo62,rfl⟩
instance : TF Tryz.prog 62 0 0:=⟨_,_,_,Tryz.runUnderlying62,rfl,rfl,Tryz.sizeOf43⟩
instance : TF Tryz.prog 62 1 1:=⟨_,_,_,Tryz.runUnderlying62,rfl,rfl,Tryz.sizeOf3⟩
instance : TS Tryz.prog 62 [(0,1),(1,1)]:=⟨_,Tryz.runUnderlying62,fun w=>by simp [Tryz.sizeOf3,Tryz.sizeOf43]⟩
instance : TNA Tryz.prog 64:=⟨Tryz.isAgg64,Tryz.sizeOf64⟩
instance : TSZ Tryz.prog 64 1:=⟨Tryz.sizeOf64⟩
instance : TU Tryz.prog 64 (TypeDesc.pointer 124):=⟨Tryz.underlying64⟩
instance : TZ Tryz.prog 64 [Value.pointer Option.none]:=⟨_,Tryz.zeroValue64,rfl⟩
instance : TB Tryz.prog 64 8:=⟨_,Tryz.typeInfo64,rfl⟩
instance : TNA Tryz.prog 65:=⟨Tryz.isAgg65,Tryz.sizeOf65⟩
instance : TSZ Tryz.prog 65 1:=⟨Tryz.sizeOf65⟩
instance : TU Tryz.prog 65 (TypeDesc.pointer 122):=⟨Tryz.underlying65⟩
instance : TZ Tryz.prog 65 [Value.pointer Option.none]:=⟨_,Tryz.zeroValue65,rfl⟩
instance : TB Tryz.prog 65 8:=⟨_,Tryz.typeInfo65,rfl⟩
instance : TNA Tryz.prog 66:=⟨Tryz.isAgg66,Tryz.sizeOf66⟩
instance : TSZ Tryz.prog 66 1:=⟨Tryz.sizeOf66⟩
instance : TU Tryz.prog 66 (TypeDesc.pointer 104):=⟨Tryz.underlying66⟩
instance : TZ Tryz.prog 66 [Value.pointer Option.none]:=⟨_,Tryz.zeroValue66,rfl⟩
instance : TB Tryz.prog 66 8:=⟨_,Tryz.typeInfo66,rfl⟩
instance : TNA Tryz.prog 67:=⟨Tryz.isAgg67,Tryz.sizeOf67⟩
instance : TSZ Tryz.prog 67 1:=⟨Tryz.sizeOf67⟩
instance : TU Tryz.prog 67 (TypeDesc.int IntKind.u32):=⟨Tryz.underlying67⟩
instance : TZ Tryz.prog 67 [Value.int IntKind.u32 0]:=⟨_,Tryz.zeroValue67,rfl⟩
instance : TB Tryz.prog 67 4:=⟨_,Tryz.typeInfo67,rfl⟩
instance : TAG Tryz.prog 69 4:=⟨Tryz.isAgg69,Tryz.sizeOf69⟩
instance : TSZ Tryz.prog 69 4:=⟨Tryz.sizeOf69⟩
instance : TZ Tryz.prog 69 [Value.int IntKind.i64 0,Value.int IntKind.i64 0,Value.int IntKind.i64 0,Value.int IntKind.u32 0]:=⟨_,Tryz.zeroValue69,rfl⟩
instance : TB Tryz.prog 69 32:=⟨_,Tryz.typeInfo69,rfl⟩
instance : TF Tryz.prog 69 0 0:=⟨_,_,_,Tryz.runUnderlying69,rfl,rfl,Tryz.sizeOf3⟩
instance : TF Tryz.prog 69 1 1:=⟨_,_,_,Tryz.runUnderlying69,rfl,rfl,Tryz.sizeOf3⟩
instance : TF Tryz.prog 69 2 2:=⟨_,_,_,Tryz.runUnderlying69,rfl,rfl,Tryz.sizeOf3⟩
instance : TF Tryz.prog 69 3 3:=⟨_,_,_,Tryz.runUnderlying69,rfl,rfl,Tryz.sizeOf67⟩
instance : TS Tryz.prog 69 [(0,1),(1,1),(2,1),(3,1)]:=⟨_,Tryz.runUnderlying69,fun w=>by simp [Tryz.sizeOf3,Tryz.sizeOf67]⟩
instance : TNA Tryz.prog 70:=⟨Tryz.isAgg70,Tryz.sizeOf70⟩
instance : TSZ Tryz.prog 70 1:=⟨Tryz.sizeOf70⟩
instance : TU Tryz.prog 70 (TypeDesc.pointer 224):=⟨Tryz.underlying70⟩
instance : TZ Tryz.prog 70 [Value.pointer Option.none]:=⟨_,Tryz.zeroValue70,rfl⟩
instance : TB Tryz.prog 70 8:=⟨_,Tryz.typeInfo70,rfl⟩
instance : TAG Tryz.prog 71 0:=⟨Tryz.isAgg71,Tryz.sizeOf71⟩
instance : TSZ Tryz.prog 71 0:=⟨Tryz.sizeOf71⟩
instance : TZ Tryz.prog 71 []:=⟨_,Tryz.zeroValue71,rfl⟩
instance : TB Tryz.prog 71 0:=⟨_,Tryz.typeInfo71,rfl⟩
instance : TAG Tryz.prog 72 0:=⟨Tryz.isAgg72,Tryz.sizeOf72⟩
instance : TSZ Tryz.prog 72 0:=⟨Tryz.sizeOf72⟩
instance : TZ Tryz.prog 72 []:=⟨_,Tryz.zeroValue72,rfl⟩
instance : TB Tryz.prog 72 0:=⟨_,Tryz.typeInfo72,rfl⟩
instance : TAG Tryz.prog 74 2:=⟨Tryz.isAgg74,Tryz.sizeOf74⟩
instance : TSZ Tryz.prog 74 2:=⟨Tryz.sizeOf74⟩
instance : TZ Tryz.prog 74 [Value.int IntKind.i32 0,Value.int IntKind.u32 0]:=⟨_,Tryz.zeroValue74,rfl⟩
instance : TB Tryz.prog 74 8:=⟨_,Tryz.typeInfo74,rfl⟩
instance : TF Tryz.prog 74 0 0:=⟨_,_,_,Tryz.runUnderlying74,rfl,rfl,Tryz.sizeOf21⟩
instance : TF Tryz.prog 74 1 1:=⟨_,_,_,Tryz.runUnderlying74,rfl,rfl,Tryz.sizeOf67⟩
instance : TS Tryz.prog 74 [(0,1),(1,1)]:=⟨_,Tryz.runUnderlying74,fun w=>by simp [Tryz.sizeOf21,Tryz.sizeOf67]⟩
instance : TAG Tryz.prog 76 2:=⟨Tryz.isAgg76,Tryz.sizeOf76⟩
instance : TSZ Tryz.prog 76 2:=⟨Tryz.sizeOf76⟩
instance : TZ Tryz.prog 76 [Value.int IntKind.i32 0,Value.int IntKind.u32 0]:=⟨_,Tryz.zeroValue76,rfl⟩
instance : TB Tryz.prog 76 8:=⟨_,Tryz.typeInfo76,rfl⟩
instance : TF Tryz.prog 76 1 0:=⟨_,_,_,Tryz.runUnderlying76,rfl,rfl,Tryz.sizeOf74⟩
instance : TS Tryz.prog 76 [(0,0),(0,2)]:=⟨_,Tryz.runUnderlying76,fun w=>by simp [Tryz.sizeOf72,Tryz.sizeOf74]⟩
instance : TNA Tryz.prog 77:=⟨Tryz.isAgg77,Tryz.sizeOf77⟩
instance : TSZ Tryz.prog 77 1:=⟨Tryz.sizeOf77⟩
instance : TU Tryz.prog 77 (TypeDesc.pointer 155):=⟨Tryz.underlying77⟩
instance : TZ Tryz.prog 77 [Value.pointer Option.none]:=⟨_,Tryz.zeroValue77,rfl⟩
instance : TB Tryz.prog 77 8:=⟨_,Tryz.typeInfo77,rfl⟩
instance : TAG Tryz.prog 79 14:=⟨Tryz.isAgg79,Tryz.sizeOf79⟩
instance : TSZ Tryz.prog 79 14:=⟨Tryz.sizeOf79⟩
instance : TZ Tryz.prog 79 [Value.pointer Option.none,Value.pointer Option.none,Value.pointer Option.none,Value.pointer Option.none,Value.int IntKind.i64 0,Value.int IntKind.i64 0,Value.int IntKind.i64 0,Value.int IntKind.u32 0,Value.bool Bool.false,Value.pointer Option.none,Value.pointer Option.none,Value.int IntKind.i32 0,Value.int IntKind.u32 0,Value.pointer Option.none]:=⟨_,Tryz.zeroValue79,rfl⟩
instance : TB Tryz.prog 79 104:=⟨_,Tryz.typeInfo79,rfl⟩
instance : TF Tryz.prog 79 0 0:=⟨_,_,_,Tryz.runUnderlying79,rfl,rfl,Tryz.sizeOf64⟩
instance : TF Tryz.prog 79 1 1:=⟨_,_,_,Tryz.runUnderlying79,rfl,rfl,Tryz.sizeOf24⟩
instance : TF Tryz.prog 79 2 2:=⟨_,_,_,Tryz.runUnderlying79,rfl,rfl,Tryz.sizeOf65⟩
instance : TF Tryz.prog 79 3 3:=⟨_,_,_,Tryz.runUnderlying79,rfl,rfl,Tryz.sizeOf66⟩
instance : TF Tryz.prog 79 4 4:=⟨_,_,_,Tryz.runUnderlying79,rfl,rfl,Tryz.sizeOf69⟩
instance : TF Tryz.prog 79 5 8:=⟨_,_,_,Tryz.runUnderlying79,rfl,rfl,Tryz.sizeOf4⟩
instance : TF Tryz.prog 79 6 9:=⟨_,_,_,Tryz.runUnderlying79,rfl,rfl,Tryz.sizeOf70⟩
instance : TF Tryz.prog 79 7 10:=⟨_,_,_,Tryz.runUnderlying79,rfl,rfl,Tryz.sizeOf70⟩
instance : TF Tryz.prog 79 8 11:=⟨_,_,_,Tryz.runUnderlying79,rfl,rfl,Tryz.sizeOf76⟩
instance : TF Tryz.prog 79 9 13:=⟨_,_,_,Tryz.runUnderlying79,rfl,rfl,Tryz.sizeOf77⟩
instance : TS Tryz.prog 79 [(0,1),(1,1),(2,1),(3,1),(4,4),(8,1),(9,1),(10,1),(11,2),(13,1)]:=⟨_,Tryz.runUnderlying79,fun w=>by simp [Tryz.sizeOf24,Tryz.sizeOf4,Tryz.sizeOf64,Tryz.sizeOf65,Tryz.sizeOf66,Tryz.sizeOf69,Tryz.sizeOf70,Tryz.sizeOf76,Tryz.sizeOf77]⟩
instance : TNA Tryz.prog 81:=⟨Tryz.isAgg81,Tryz.sizeOf81⟩
instance : TSZ Tryz.prog 81 1:=⟨Tryz.sizeOf81⟩
instance : TZ Tryz.prog 81 [Value.nilFunc]:=⟨_,Tryz.zeroValue81,rfl⟩
instance : TB Tryz.prog 81 8:=⟨_,Tryz.typeInfo81,rfl⟩
instance : TNA Tryz.prog 89:=⟨Tryz.isAgg89,Tryz.sizeOf89⟩
instance : TSZ Tryz.prog 89 1:=⟨Tryz.sizeOf89⟩
instance : TU Tryz.prog 89 (TypeDesc.map 9 181):=⟨Tryz.underlying89⟩
instance : TZ Tryz.prog 89 [Value.map Option.none]:=⟨_,Tryz.zeroValue89,rfl⟩
instance : TB Tryz.prog 89 8:=⟨_,Tryz.typeInfo89,rfl⟩
instance : TNA Tryz.prog 90:=⟨Tryz.isAgg90,Tryz.sizeOf90⟩
instance : TSZ Tryz.prog 90 1:=⟨Tryz.sizeOf90⟩
instance : TU Tryz.prog 90 (TypeDesc.slice 253):=⟨Tryz.underlying90⟩
instance : TZ Tryz.prog 90 [Value.slice Option.none 0 0]:=⟨_,Tryz.zeroValue90,rfl⟩
instance : TB Tryz.prog 90 24:=⟨_,Tryz.typeInfo90,rfl⟩
instance : TAG Tryz.prog 92 7:=⟨Tryz.isAgg92,Tryz.sizeOf92⟩
instance : TSZ Tryz.prog 92 7:=⟨Tryz.sizeOf92⟩
instance : TZ Tryz.prog 92 [Value.int IntKind.i64 0,Value.int IntKind.i64 0,Value.map Option.none,Value.map Option.none,Value.slice Option.none 0 0,Value.int IntKind.i64 0,Value.bool Bool.false]:=⟨_,Tryz.zeroValue92,rfl⟩
instance : TB Tryz.prog 92 72:=⟨_,Tryz.typeInfo92,rfl⟩
instance : TF Tryz.prog 92 0 0:=⟨_,_,_,Tryz.runUnderlying92,rfl,rfl,Tryz.sizeOf3⟩
instance : TF Tryz.prog 92 1 1:=⟨_,_,_,Tryz.runUnderlying92,rfl,rfl,Tryz.sizeOf3⟩
instance : TF Tryz.prog 92 2 2:=⟨_,_,_,Tryz.runUnderlying92,rfl,rfl,Tryz.sizeOf89⟩
instance : TF Tryz.prog 92 3 3:=⟨_,_,_,Tryz.runUnderlying92,rfl,rfl,Tryz.sizeOf89⟩
instance : TF Tryz.prog 92 4 4:=⟨_,_,_,Tryz.runUnderlying92,rfl,rfl,Tryz.sizeOf90⟩
instance : TF Tryz.prog 92 5 5:=⟨_,_,_,Tryz.runUnderlying92,rfl,rfl,Tryz.sizeOf3⟩
instance : TF Tryz.prog 92 6 6:=⟨_,_,_,Tryz.runUnderlying92,rfl,rfl,Tryz.sizeOf4⟩
instance : TS Tryz.prog 92 [(0,1),(1,1),(2,1),(3,1),(4,1),(5,1),(6,1)]:=⟨_,Tryz.runUnderlying92,fun w=>by simp [Tryz.sizeOf3,Tryz.sizeOf4,Tryz.sizeOf89,Tryz.sizeOf90]⟩
instance : TAG Tryz.prog 94 2:=⟨Tryz.isAgg94,Tryz.sizeOf94⟩
instance : TSZ Tryz.prog 94 2:=⟨Tryz.sizeOf94⟩
instance : TZ Tryz.prog 94 [Value.string ⟨#[]⟩,Value.int IntKind.u32 0]:=⟨_,Tryz.zeroValue94,rfl⟩
instance : TB Tryz.prog 94 24:=⟨_,Tryz.typeInfo94,rfl⟩
instance : TF Tryz.prog 94 0 0:=⟨_,_,_,Tryz.runUnderlying94,rfl,rfl,Tryz.sizeOf9⟩
instance : TF Tryz.prog 94 1 1:=⟨_,_,_,Tryz.runUnderlying94,rfl,rfl,Tryz.sizeOf67⟩
instance : TS Tryz.prog 94 [(0,1),(1,1)]:=⟨_,Tryz.runUnderlying94,fun w=>by simp [Tryz.sizeOf67,Tryz.sizeOf9]⟩
instance : TNA Tryz.prog 98:=⟨Tryz.isAgg98,Tryz.sizeOf98⟩
instance : TSZ Tryz.prog 98 1:=⟨Tryz.sizeOf98⟩
instance : TZ Tryz.prog 98 [Value.nilFunc]:=⟨_,Tryz.zeroValue98,rfl⟩
instance : TB Tryz.prog 98 8:=⟨_,Tryz.typeInfo98,rfl⟩
instance : TNA Tryz.prog 100:=⟨Tryz.isAgg100,Tryz.sizeOf100⟩
instance : TSZ Tryz.prog 100 1:=⟨Tryz.sizeOf100⟩
instance : TZ Tryz.prog 100 [Value.nilIface]:=⟨_,Tryz.zeroValue100,rfl⟩
instance : TB Tryz.prog 100 16:=⟨_,Tryz.typeInfo100,rfl⟩
instance : TNA Tryz.prog 101:=⟨Tryz.isAgg101,Tryz.sizeOf101⟩
instance : TSZ Tryz.prog 101 1:=⟨Tryz.sizeOf101⟩
instance : TU Tryz.prog 101 (TypeDesc.slice 117):=⟨Tryz.underlying101⟩
instance : TZ Tryz.prog 101 [Value.slice Option.none 0 0]:=⟨_,Tryz.zeroValue101,rfl⟩
instance : TB Tryz.prog 101 24:=⟨_,Tryz.typeInfo101,rfl⟩
instance : TNA Tryz.prog 102:=⟨Tryz.isAgg102,Tryz.sizeOf102⟩
instance : TSZ Tryz.prog 102 1:=⟨Tryz.sizeOf102⟩
instance : TU Tryz.prog 102 (TypeDesc.slice 110):=⟨Tryz.underlying102⟩
instance : TZ Tryz.prog 102 [Value.slice Option.none 0 0]:=⟨_,Tryz.zeroValue102,rfl⟩
instance : TB Tryz.prog 102 24:=⟨_,Tryz.typeInfo102,rfl⟩
instance : TAG Tryz.prog 104 3:=⟨Tryz.isAgg104,Tryz.sizeOf104⟩
instance : TSZ Tryz.prog 104 3:=⟨Tryz.sizeOf104⟩
instance : TZ Tryz.prog 104 [Value.pointer Option.none,Value.slice Option.none 0 0,Value.slice Option.none 0 0]:=⟨_,Tryz.zeroValue104,rfl⟩
instance : TB Tryz.prog 104 56:=⟨_,Tryz.typeInfo104,rfl⟩
instance : TF Tryz.prog 104 0 0:=⟨_,_,_,Tryz.runUnderlying104,rfl,rfl,Tryz.sizeOf24⟩
instance : TF Tryz.prog 104 1 1:=⟨_,_,_,Tryz.runUnderlying104,rfl,rfl,Tryz.sizeOf101⟩
instance : TF Tryz.prog 104 2 2:=⟨_,_,_,Tryz.runUnderlying104,rfl,rfl,Tryz.sizeOf102⟩
instance : TS Tryz.prog 104 [(0,1),(1,1),(2,1)]:=⟨_,Tryz.runUnderlying104,fun w=>by simp [Tryz.sizeOf101,Tryz.sizeOf102,Tryz.sizeOf24]⟩
instance : TNA Tryz.prog 106:=⟨Tryz.isAgg106,Tryz.sizeOf106⟩
instance : TSZ Tryz.prog 106 1:=⟨Tryz.sizeOf106⟩
instance : TU Tryz.prog 106 (TypeDesc.slice 180):=⟨Tryz.underlying106⟩
instance : TZ Tryz.prog 106 [Value.slice Option.none 0 0]:=⟨_,Tryz.zeroValue106,rfl⟩
instance : TB Tryz.prog 106 24:=⟨_,Tryz.typeInfo106,rfl⟩
instance : TAG Tryz.prog 110 6:=⟨Tryz.isAgg110,Tryz.sizeOf110⟩
instance : TSZ Tryz.prog 110 6:=⟨Tryz.sizeOf110⟩
instance : TZ Tryz.prog 110 [Value.int IntKind.i64 0,Value.int IntKind.i64 0,Value.int IntKind.i64 0,Value.int IntKind.i64 0,Value.int IntKind.u32 0,Value.slice Option.none 0 0]:=⟨_,Tryz.zeroValue110,rfl⟩
instance : TB Tryz.prog 110 64:=⟨_,Tryz.typeInfo110,rfl⟩
instance : TF Tryz.prog 110 0 0:=⟨_,_,_,Tryz.runUnderlying110,rfl,rfl,Tryz.sizeOf3⟩
instance : TF Tryz.prog 110 1 1:=⟨_,_,_,Tryz.runUnderlying110,rfl,rfl,Tryz.sizeOf69⟩
instance : TF Tryz.prog 110 2 5:=⟨_,_,_,Tryz.runUnderlying110,rfl,rfl,Tryz.sizeOf106⟩
instance : TS Tryz.prog 110 [(0,1),(1,4),(5,1)]:=⟨_,Tryz.runUnderlying110,fun w=>by simp [Tryz.sizeOf106,Tryz.sizeOf3,Tryz.sizeOf69]⟩
instance : TAG Tryz.prog 117 3:=⟨Tryz.isAgg117,Tryz.sizeOf117⟩
instance : TSZ Tryz.prog 117 3:=⟨Tryz.sizeOf117⟩
instance : TZ Tryz.prog 117 [Value.int IntKind.i64 0,Value.int IntKind.i64 0,Value.int IntKind.u32 0]:=⟨_,Tryz.zeroValue117,rfl⟩
instance : TB Tryz.prog 117 24:=⟨_,Tryz.typeInfo117,rfl⟩
instance : TF Tryz.prog 117 0 0:=⟨_,_,_,Tryz.runUnderlying117,rfl,rfl,Tryz.sizeOf3⟩
instance : TF Tryz.prog 117 1 1:=⟨_,_,_,Tryz.runUnderlying117,rfl,rfl,Tryz.sizeOf3⟩
instance : TF Tryz.prog 117 2 2:=⟨_,_,_,Tryz.runUnderlying117,rfl,rfl,Tryz.sizeOf67⟩
instance : TS Tryz.prog 117 [(0,1),(1,1),(2,1)]:=⟨_,Tryz.runUnderlying117,fun w=>by simp [Tryz.sizeOf3,Tryz.sizeOf67]⟩
instance : TNA Tryz.prog 120:=⟨Tryz.isAgg120,Tryz.sizeOf120⟩
instance : TSZ Tryz.prog 120 1:=⟨Tryz.sizeOf120⟩
instance : TU Tryz.prog 120 (TypeDesc.slice 62):=⟨Tryz.underlying120⟩
instance : TZ Tryz.prog 120 [Value.slice Option.none 0 0]:=⟨_,Tryz.zeroValue120,rfl⟩
instance : TB Tryz.prog 120 24:=⟨_,Tryz.typeInfo120,rfl⟩
instance : TAG Tryz.prog 122 4:=⟨Tryz.isAgg122,Tryz.sizeOf122⟩
instance : TSZ Tryz.prog 122 4:=⟨Tryz.sizeOf122⟩
instance : TZ Tryz.prog 122 [Value.pointer Option.none,Value.slice Option.none 0 0,Value.slice Option.none 0 0,Value.bool Bool.false]:=⟨_,Tryz.zeroValue122,rfl⟩
instance : TB Tryz.prog 122 64:=⟨_,Tryz.typeInfo122,rfl⟩
instance : TF Tryz.prog 122 0 0:=⟨_,_,_,Tryz.runUnderlying122,rfl,rfl,Tryz.sizeOf24⟩
instance : TF Tryz.prog 122 1 1:=⟨_,_,_,Tryz.runUnderlying122,rfl,rfl,Tryz.sizeOf29⟩
instance : TF Tryz.prog 122 2 2:=⟨_,_,_,Tryz.runUnderlying122,rfl,rfl,Tryz.sizeOf120⟩
instance : TF Tryz.prog 122 3 3:=⟨_,_,_,Tryz.runUnderlying122,rfl,rfl,Tryz.sizeOf4⟩
instance : TS Tryz.prog 122 [(0,1),(1,1),(2,1),(3,1)]:=⟨_,Tryz.runUnderlying122,fun w=>by simp [Tryz.sizeOf120,Tryz.sizeOf24,Tryz.sizeOf29,Tryz.sizeOf4]⟩
instance : TAG Tryz.prog 124 2:=⟨Tryz.isAgg124,Tryz.sizeOf124⟩
instance : TSZ Tryz.prog 124 2:=⟨Tryz.sizeOf124⟩
instance : TZ Tryz.prog 124 [Value.pointer Option.none,Value.pointer Option.none]:=⟨_,Tryz.zeroValue124,rfl⟩
instance : TB Tryz.prog 124 16:=⟨_,Tryz.typeInfo124,rfl⟩
instance : TF Tryz.prog 124 0 0:=⟨_,_,_,Tryz.runUnderlying124,rfl,rfl,Tryz.sizeOf65⟩
instance : TF Tryz.prog 124 1 1:=⟨_,_,_,Tryz.runUnderlying124,rfl,rfl,Tryz.sizeOf66⟩
instance : TS Tryz.prog 124 [(0,1),(1,1)]:=⟨_,Tryz.runUnderlying124,fun w=>by simp [Tryz.sizeOf65,Tryz.sizeOf66]⟩
instance : TNA Tryz.prog 140:=⟨Tryz.isAgg140,Tryz.sizeOf140⟩
instance : TSZ Tryz.prog 140 1:=⟨Tryz.sizeOf140⟩
instance : TZ Tryz.prog 140 [Value.nilFunc]:=⟨_,Tryz.zeroValue140,rfl⟩
instance : TB Tryz.prog 140 8:=⟨_,Tryz.typeInfo140,rfl⟩
instance : TAG Tryz.prog 143 2:=⟨Tryz.isAgg143,Tryz.sizeOf143⟩
instance : TSZ Tryz.prog 143 2:=⟨Tryz.sizeOf143⟩
instance : TZ Tryz.prog 143 [Value.int IntKind.i64 0,Value.int IntKind.i64 0]:=⟨_,Tryz.zeroValue143,rfl⟩
instance : TB Tryz.prog 143 16:=⟨_,Tryz.typeInfo143,rfl⟩
instance : TF Tryz.prog 143 0 0:=⟨_,_,_,Tryz.runUnderlying143,rfl,rfl,Tryz.sizeOf3⟩
instance : TF Tryz.prog 143 1 1:=⟨_,_,_,Tryz.runUnderlying143,rfl,rfl,Tryz.sizeOf40⟩
instance : TS Tryz.prog 143 [(0,1),(1,1)]:=⟨_,Tryz.runUnderlying143,fun w=>by simp [Tryz.sizeOf3,Tryz.sizeOf40]⟩
instance : TNA Tryz.prog 145:=⟨Tryz.isAgg145,Tryz.sizeOf145⟩
instance : TSZ Tryz.prog 145 1:=⟨Tryz.sizeOf145⟩
instance : TZ Tryz.prog 145 [Value.nilFunc]:=⟨_,Tryz.zeroValue145,rfl⟩
instance : TB Tryz.prog 145 8:=⟨_,Tryz.typeInfo145,rfl⟩
instance : TNA Tryz.prog 146:=⟨Tryz.isAgg146,Tryz.sizeOf146⟩
instance : TSZ Tryz.prog 146 1:=⟨Tryz.sizeOf146⟩
instance : TZ Tryz.prog 146 [Value.nilFunc]:=⟨_,Tryz.zeroValue146,rfl⟩
instance : TB Tryz.prog 146 8:=⟨_,Tryz.typeInfo146,rfl⟩
instance : TNA Tryz.prog 152:=⟨Tryz.isAgg152,Tryz.sizeOf152⟩
instance : TSZ Tryz.prog 152 1:=⟨Tryz.sizeOf152⟩
instance : TU Tryz.prog 152 (TypeDesc.map 9 153):=⟨Tryz.underlying152⟩
instance : TZ Tryz.prog 152 [Value.map Option.none]:=⟨_,Tryz.zeroValue152,rfl⟩
instance : TB Tryz.prog 152 8:=⟨_,Tryz.typeInfo152,rfl⟩
instance : TNA Tryz.prog 153:=⟨Tryz.isAgg153,Tryz.sizeOf153⟩
instance : TSZ Tryz.prog 153 1:=⟨Tryz.sizeOf153⟩
instance : TU Tryz.prog 153 (TypeDesc.pointer 220):=⟨Tryz.underlying153⟩
instance : TZ Tryz.prog 153 [Value.pointer Option.none]:=⟨_,Tryz.zeroValue153,rfl⟩
instance : TB Tryz.prog 153 8:=⟨_,Tryz.typeInfo153,rfl⟩
instance : TAG Tryz.prog 155 4:=⟨Tryz.isAgg155,Tryz.sizeOf155⟩
instance : TSZ Tryz.prog 155 4:=⟨Tryz.sizeOf155⟩
instance : TZ Tryz.prog 155 [Value.int IntKind.i64 0,Value.map Option.none,Value.pointer Option.none,Value.pointer Option.none]:=⟨_,Tryz.zeroValue155,rfl⟩
instance : TB Tryz.prog 155 32:=⟨_,Tryz.typeInfo155,rfl⟩
instance : TF Tryz.prog 155 0 0:=⟨_,_,_,Tryz.runUnderlying155,rfl,rfl,Tryz.sizeOf3⟩
instance : TF Tryz.prog 155 1 1:=⟨_,_,_,Tryz.runUnderlying155,rfl,rfl,Tryz.sizeOf152⟩
instance : TF Tryz.prog 155 2 2:=⟨_,_,_,Tryz.runUnderlying155,rfl,rfl,Tryz.sizeOf153⟩
instance : TF Tryz.prog 155 3 3:=⟨_,_,_,Tryz.runUnderlying155,rfl,rfl,Tryz.sizeOf153⟩
instance : TS Tryz.prog 155 [(0,1),(1,1),(2,1),(3,1)]:=⟨_,Tryz.runUnderlying155,fun w=>by simp [Tryz.sizeOf152,Tryz.sizeOf153,Tryz.sizeOf3]⟩
instance : TNA Tryz.prog 165:=⟨Tryz.isAgg165,Tryz.sizeOf165⟩
instance : TSZ Tryz.prog 165 1:=⟨Tryz.sizeOf165⟩
instance : TU Tryz.prog 165 (TypeDesc.slice 9):=⟨Tryz.underlying165⟩
instance : TZ Tryz.prog 165 [Value.slice Option.none 0 0]:=⟨_,Tryz.zeroValue165,rfl⟩
instance : TB Tryz.prog 165 24:=⟨_,Tryz.typeInfo165,rfl⟩
instance : TNA Tryz.prog 170:=⟨Tryz.isAgg170,Tryz.sizeOf170⟩
instance : TSZ Tryz.prog 170 1:=⟨Tryz.sizeOf170⟩
instance : TZ Tryz.prog 170 [Value.nilFunc]:=⟨_,Tryz.zeroValue170,rfl⟩
instance : TB Tryz.prog 170 8:=⟨_,Tryz.typeInfo170,rfl⟩
instance : TAG Tryz.prog 175 2:=⟨Tryz.isAgg175,Tryz.sizeOf175⟩
instance : TSZ Tryz.prog 175 2:=⟨Tryz.sizeOf175⟩
instance : TZ Tryz.prog 175 [Value.int IntKind.i64 0,Value.string ⟨#[]⟩]:=⟨_,Tryz.zeroValue175,rfl⟩
instance : TB Tryz.prog 175 24:=⟨_,Tryz.typeInfo175,rfl⟩
instance : TF Tryz.prog 175 0 0:=⟨_,_,_,Tryz.runUnderlying175,rfl,rfl,Tryz.sizeOf3⟩
instance : TF Tryz.prog 175 1 1:=⟨_,_,_,Tryz.runUnderlying175,rfl,rfl,Tryz.sizeOf9⟩
instance : TS Tryz.prog 175 [(0,1),(1,1)]:=⟨_,Tryz.runUnderlying175,fun w=>by simp [Tryz.sizeOf3,Tryz.sizeOf9]⟩
instance : TAG Tryz.prog 180 5:=⟨Tryz.isAgg180,Tryz.sizeOf180⟩
instance : TSZ Tryz.prog 180 5:=⟨Tryz.sizeOf180⟩
instance : TZ Tryz.prog 180 [Value.slice Option.none 0 0,Value.int IntKind.i64 0,Value.int IntKind.i64 0,Value.int IntKind.i64 0,Value.string ⟨#[]⟩]:=⟨_,Tryz.zeroValue180,rfl⟩
instance : TB Tryz.prog 180 64:=⟨_,Tryz.typeInfo180,rfl⟩
instance : TF Tryz.prog 180 0 0:=⟨_,_,_,Tryz.runUnderlying180,rfl,rfl,Tryz.sizeOf43⟩
instance : TF Tryz.prog 180 1 1:=⟨_,_,_,Tryz.runUnderlying180,rfl,rfl,Tryz.sizeOf3⟩
instance : TF Tryz.prog 180 2 2:=⟨_,_,_,Tryz.runUnderlying180,rfl,rfl,Tryz.sizeOf3⟩
instance : TF Tryz.prog 180 3 3:=⟨_,_,_,Tryz.runUnderlying180,rfl,rfl,Tryz.sizeOf175⟩
instance : TS Tryz.prog 180 [(0,1),(1,1),(2,1),(3,2)]:=⟨_,Tryz.runUnderlying180,fun w=>by simp [Tryz.sizeOf175,Tryz.sizeOf3,Tryz.sizeOf43]⟩
instance : TNA Tryz.prog 181:=⟨Tryz.isAgg181,Tryz.sizeOf181⟩
instance : TSZ Tryz.prog 181 1:=⟨Tryz.sizeOf181⟩
instance : TU Tryz.prog 181 (TypeDesc.pointer 185):=⟨Tryz.underlying181⟩
instance : TZ Tryz.prog 181 [Value.pointer Option.none]:=⟨_,Tryz.zeroValue181,rfl⟩
instance : TB Tryz.prog 181 8:=⟨_,Tryz.typeInfo181,rfl⟩
instance : TAG Tryz.prog 185 3:=⟨Tryz.isAgg185,Tryz.sizeOf185⟩
instance : TSZ Tryz.prog 185 3:=⟨Tryz.sizeOf185⟩
instance : TZ Tryz.prog 185 [Value.int IntKind.i64 0,Value.slice Option.none 0 0,Value.int IntKind.i64 0]:=⟨_,Tryz.zeroValue185,rfl⟩
instance : TB Tryz.prog 185 40:=⟨_,Tryz.typeInfo185,rfl⟩
instance : TF Tryz.prog 185 0 0:=⟨_,_,_,Tryz.runUnderlying185,rfl,rfl,Tryz.sizeOf3⟩
instance : TF Tryz.prog 185 1 1:=⟨_,_,_,Tryz.runUnderlying185,rfl,rfl,Tryz.sizeOf35⟩
instance : TF Tryz.prog 185 2 2:=⟨_,_,_,Tryz.runUnderlying185,rfl,rfl,Tryz.sizeOf3⟩
instance : TS Tryz.prog 185 [(0,1),(1,1),(2,1)]:=⟨_,Tryz.runUnderlying185,fun w=>by simp [Tryz.sizeOf3,Tryz.sizeOf35]⟩
instance : TNA Tryz.prog 188:=⟨Tryz.isAgg188,Tryz.sizeOf188⟩
instance : TSZ Tryz.prog 188 1:=⟨Tryz.sizeOf188⟩
instance : TU Tryz.prog 188 (TypeDesc.pointer 271):=⟨Tryz.underlying188⟩
instance : TZ Tryz.prog 188 [Value.pointer Option.none]:=⟨_,Tryz.zeroValue188,rfl⟩
instance : TB Tryz.prog 188 8:=⟨_,Tryz.typeInfo188,rfl⟩
instance : TNA Tryz.prog 196:=⟨Tryz.isAgg196,Tryz.sizeOf196⟩
instance : TSZ Tryz.prog 196 1:=⟨Tryz.sizeOf196⟩
instance : TU Tryz.prog 196 (TypeDesc.pointer 280):=⟨Tryz.underlying196⟩
instance : TZ Tryz.prog 196 [Value.pointer Option.none]:=⟨_,Tryz.zeroValue196,rfl⟩
instance : TB Tryz.prog 196 8:=⟨_,Tryz.typeInfo196,rfl⟩
instance : TNA Tryz.prog 199:=⟨Tryz.isAgg199,Tryz.sizeOf199⟩
instance : TSZ Tryz.prog 199 1:=⟨Tryz.sizeOf199⟩
instance : TU Tryz.prog 199 (TypeDesc.int IntKind.u64):=⟨Tryz.underlying199⟩
instance : TZ Tryz.prog 199 [Value.int IntKind.u64 0]:=⟨_,Tryz.zeroValue199,rfl⟩
instance : TB Tryz.prog 199 8:=⟨_,Tryz.typeInfo199,rfl⟩
instance : TNA Tryz.prog 215:=⟨Tryz.isAgg215,Tryz.sizeOf215⟩
instance : TSZ Tryz.prog 215 1:=⟨Tryz.sizeOf215⟩
instance : TU Tryz.prog 215 (TypeDesc.slice 405):=⟨Tryz.underlying215⟩
instance : TZ Tryz.prog 215 [Value.slice Option.none 0 0]:=⟨_,Tryz.zeroValue215,rfl⟩
instance : TB Tryz.prog 215 24:=⟨_,Tryz.typeInfo215,rfl⟩
instance : TAG Tryz.prog 220 8:=⟨Tryz.isAgg220,Tryz.sizeOf220⟩
instance : TSZ Tryz.prog 220 8:=⟨Tryz.sizeOf220⟩
instance : TZ Tryz.prog 220 [Value.string ⟨#[]⟩,Value.int IntKind.i64 0,Value.bool Bool.false,Value.int IntKind.i64 0,Value.slice Option.none 0 0,Value.slice Option.none 0 0,Value.pointer Option.none,Value.pointer Option.none]:=⟨_,Tryz.zeroValue220,rfl⟩
instance : TB Tryz.prog 220 104:=⟨_,Tryz.typeInfo220,rfl⟩
instance : TF Tryz.prog 220 0 0:=⟨_,_,_,Tryz.runUnderlying220,rfl,rfl,Tryz.sizeOf9⟩
instance : TF Tryz.prog 220 1 1:=⟨_,_,_,Tryz.runUnderlying220,rfl,rfl,Tryz.sizeOf45⟩
instance : TF Tryz.prog 220 2 6:=⟨_,_,_,Tryz.runUnderlying220,rfl,rfl,Tryz.sizeOf153⟩
instance : TF Tryz.prog 220 3 7:=⟨_,_,_,Tryz.runUnderlying220,rfl,rfl,Tryz.sizeOf153⟩
instance : TS Tryz.prog 220 [(0,1),(1,5),(6,1),(7,1)]:=⟨_,Tryz.runUnderlying220,fun w=>by simp [Tryz.sizeOf153,Tryz.sizeOf45,Tryz.sizeOf9]⟩
instance : TAG Tryz.prog 224 3:=⟨Tryz.isAgg224,Tryz.sizeOf224⟩
instance : TSZ Tryz.prog 224 3:=⟨Tryz.sizeOf224⟩
instance : TZ Tryz.prog 224 [Value.int IntKind.i64 0,Value.nilFunc,Value.bool Bool.false]:=⟨_,Tryz.zeroValue224,rfl⟩
instance : TB Tryz.prog 224 24:=⟨_,Tryz.typeInfo224,rfl⟩
instance : TF Tryz.prog 224 0 0:=⟨_,_,_,Tryz.runUnderlying224,rfl,rfl,Tryz.sizeOf3⟩
instance : TF Tryz.prog 224 1 1:=⟨_,_,_,Tryz.runUnderlying224,rfl,rfl,Tryz.sizeOf140⟩
instance : TF Tryz.prog 224 2 2:=⟨_,_,_,Tryz.runUnderlying224,rfl,rfl,Tryz.sizeOf4⟩
instance : TS Tryz.prog 224 [(0,1),(1,1),(2,1)]:=⟨_,Tryz.runUnderlying224,fun w=>by simp [Tryz.sizeOf140,Tryz.sizeOf3,Tryz.sizeOf4]⟩
instance : TAG Tryz.prog 232 2:=⟨Tryz.isAgg232,Tryz.sizeOf232⟩
instance : TSZ Tryz.prog 232 2:=⟨Tryz.sizeOf232⟩
instance : TZ Tryz.prog 232 [Value.int IntKind.i64 0,Value.string ⟨#[]⟩]:=⟨_,Tryz.zeroValue232,rfl⟩
instance : TB Tryz.prog 232 24:=⟨_,Tryz.typeInfo232,rfl⟩
instance : TF Tryz.prog 232 0 0:=⟨_,_,_,Tryz.runUnderlying232,rfl,rfl,Tryz.sizeOf3⟩
instance : TF Tryz.prog 232 1 1:=⟨_,_,_,Tryz.runUnderlying232,rfl,rfl,Tryz.sizeOf9⟩
instance : TS Tryz.prog 232 [(0,1),(1,1)]:=⟨_,Tryz.runUnderlying232,fun w=>by simp [Tryz.sizeOf3,Tryz.sizeOf9]⟩
instance : TNA Tryz.prog 236:=⟨Tryz.isAgg236,Tryz.sizeOf236⟩
instance : TSZ Tryz.prog 236 1:=⟨Tryz.sizeOf236⟩
instance : TZ Tryz.prog 236 [Value.nilFunc]:=⟨_,Tryz.zeroValue236,rfl⟩
instance : TB Tryz.prog 236 8:=⟨_,Tryz.typeInfo236,rfl⟩
instance : TAG Tryz.prog 241 2:=⟨Tryz.isAgg241,Tryz.sizeOf241⟩
instance : TSZ Tryz.prog 241 2:=⟨Tryz.sizeOf241⟩
instance : TZ Tryz.prog 241 [Value.int IntKind.u32 0,Value.string ⟨#[]⟩]:=⟨_,Tryz.zeroValue241,rfl⟩
instance : TB Tryz.prog 241 24:=⟨_,Tryz.typeInfo241,rfl⟩
instance : TF Tryz.prog 241 0 0:=⟨_,_,_,Tryz.runUnderlying241,rfl,rfl,Tryz.sizeOf67⟩
instance : TF Tryz.prog 241 1 1:=⟨_,_,_,Tryz.runUnderlying241,rfl,rfl,Tryz.sizeOf9⟩
instance : TS Tryz.prog 241 [(0,1),(1,1)]:=⟨_,Tryz.runUnderlying241,fun w=>by simp [Tryz.sizeOf67,Tryz.sizeOf9]⟩
instance : TNA Tryz.prog 242:=⟨Tryz.isAgg242,Tryz.sizeOf242⟩
instance : TSZ Tryz.prog 242 1:=⟨Tryz.sizeOf242⟩
instance : TU Tryz.prog 242 (TypeDesc.slice 241):=⟨Tryz.underlying242⟩
instance : TZ Tryz.prog 242 [Value.slice Option.none 0 0]:=⟨_,Tryz.zeroValue242,rfl⟩
instance : TB Tryz.prog 242 24:=⟨_,Tryz.typeInfo242,rfl⟩
instance : TNA Tryz.prog 243:=⟨Tryz.isAgg243,Tryz.sizeOf243⟩
instance : TSZ Tryz.prog 243 1:=⟨Tryz.sizeOf243⟩
instance : TU Tryz.prog 243 (TypeDesc.map 3 3):=⟨Tryz.underlying243⟩
instance : TZ Tryz.prog 243 [Value.map Option.none]:=⟨_,Tryz.zeroValue243,rfl⟩
instance : TB Tryz.prog 243 8:=⟨_,Tryz.typeInfo243,rfl⟩
instance : TAG Tryz.prog 244 256:=⟨Tryz.isAgg244,Tryz.sizeOf244⟩
instance : TSZ Tryz.prog 244 256:=⟨Tryz.sizeOf244⟩
instance : TU Tryz.prog 244 (TypeDesc.array 256 67):=⟨Tryz.underlying244⟩
instance : TB Tryz.prog 244 1024:=⟨_,Tryz.typeInfo244,rfl⟩
instance : TNA Tryz.prog 247:=⟨Tryz.isAgg247,Tryz.sizeOf247⟩
instance : TSZ Tryz.prog 247 1:=⟨Tryz.sizeOf247⟩
instance : TU Tryz.prog 247 (TypeDesc.pointer 244):=⟨Tryz.underlying247⟩
instance : TZ Tryz.prog 247 [Value.pointer Option.none]:=⟨_,Tryz.zeroValue247,rfl⟩
instance : TB Tryz.prog 247 8:=⟨_,Tryz.typeInfo247,rfl⟩
instance : TNA Tryz.prog 248:=⟨Tryz.isAgg248,Tryz.sizeOf248⟩
instance : TSZ Tryz.prog 248 1:=⟨Tryz.sizeOf248⟩
instance : TU Tryz.prog 248 (TypeDesc.slice 41):=⟨Tryz.underlying248⟩
instance : TZ Tryz.prog 248 [Value.slice Option.none 0 0]:=⟨_,Tryz.zeroValue248,rfl⟩
instance : TB Tryz.prog 248 24:=⟨_,Tryz.typeInfo248,rfl⟩
instance : TAG Tryz.prog 253 3:=⟨Tryz.isAgg253,Tryz.sizeOf253⟩
instance : TSZ Tryz.prog 253 3:=⟨Tryz.sizeOf253⟩
instance : TZ Tryz.prog 253 [Value.string ⟨#[]⟩,Value.string ⟨#[]⟩,Value.pointer Option.none]:=⟨_,Tryz.zeroValue253,rfl⟩
instance : TB Tryz.prog 253 40:=⟨_,Tryz.typeInfo253,rfl⟩
instance : TF Tryz.prog 253 0 0:=⟨_,_,_,Tryz.runUnderlying253,rfl,rfl,Tryz.sizeOf9⟩
instance : TF Tryz.prog 253 1 1:=⟨_,_,_,Tryz.runUnderlying253,rfl,rfl,Tryz.sizeOf9⟩
instance : TF Tryz.prog 253 2 2:=⟨_,_,_,Tryz.runUnderlying253,rfl,rfl,Tryz.sizeOf181⟩
instance : TS Tryz.prog 253 [(0,1),(1,1),(2,1)]:=⟨_,Tryz.runUnderlying253,fun w=>by simp [Tryz.sizeOf181,Tryz.sizeOf9]⟩
instance : TNA Tryz.prog 258:=⟨Tryz.isAgg258,Tryz.sizeOf258⟩
instance : TSZ Tryz.prog 258 1:=⟨Tryz.sizeOf258⟩
instance : TZ Tryz.prog 258 [Value.nilIface]:=⟨_,Tryz.zeroValue258,rfl⟩
instance : TB Tryz.prog 258 16:=⟨_,Tryz.typeInfo258,rfl⟩
instance : TNA Tryz.prog 263:=⟨Tryz.isAgg263,Tryz.sizeOf263⟩
instance : TSZ Tryz.prog 263 1:=⟨Tryz.sizeOf263⟩
instance : TU Tryz.prog 263 (TypeDesc.slice 266):=⟨Tryz.underlying263⟩
instance : TZ Tryz.prog 263 [Value.slice Option.none 0 0]:=⟨_,Tryz.zeroValue263,rfl⟩
instance : TB Tryz.prog 263 24:=⟨_,Tryz.typeInfo263,rfl⟩
instance : TAG Tryz.prog 266 3:=⟨Tryz.isAgg266,Tryz.sizeOf266⟩
instance : TSZ Tryz.prog 266 3:=⟨Tryz.sizeOf266⟩
instance : TZ Tryz.prog 266 [Value.string ⟨#[]⟩,Value.int IntKind.u32 0,Value.int IntKind.u32 0]:=⟨_,Tryz.zeroValue266,rfl⟩
instance : TB Tryz.prog 266 24:=⟨_,Tryz.typeInfo266,rfl⟩
instance : TF Tryz.prog 266 0 0:=⟨_,_,_,Tryz.runUnderlying266,rfl,rfl,Tryz.sizeOf9⟩
instance : TF Tryz.prog 266 1 1:=⟨_,_,_,Tryz.runUnderlying266,rfl,rfl,Tryz.sizeOf67⟩
instance : TF Tryz.prog 266 2 2:=⟨_,_,_,Tryz.runUnderlying266,rfl,rfl,Tryz.sizeOf67⟩
instance : TS Tryz.prog 266 [(0,1),(1,1),(2,1)]:=⟨_,Tryz.runUnderlying266,fun w=>by simp [Tryz.sizeOf67,Tryz.sizeOf9]⟩
instance : TAG Tryz.prog 271 3:=⟨Tryz.isAgg271,Tryz.sizeOf271⟩
instance : TSZ Tryz.prog 271 3:=⟨Tryz.sizeOf271⟩
instance : TZ Tryz.prog 271 [Value.string ⟨#[]⟩,Value.int IntKind.i64 0,Value.int IntKind.i64 0]:=⟨_,Tryz.zeroValue271,rfl⟩
instance : TB Tryz.prog 271 32:=⟨_,Tryz.typeInfo271,rfl⟩
instance : TF Tryz.prog 271 0 0:=⟨_,_,_,Tryz.runUnderlying271,rfl,rfl,Tryz.sizeOf9⟩
instance : TF Tryz.prog 271 1 1:=⟨_,_,_,Tryz.runUnderlying271,rfl,rfl,Tryz.sizeOf3⟩
instance : TF Tryz.prog 271 2 2:=⟨_,_,_,Tryz.runUnderlying271,rfl,rfl,Tryz.sizeOf40⟩
instance : TS Tryz.prog 271 [(0,1),(1,1),(2,1)]:=⟨_,Tryz.runUnderlying271,fun w=>by simp [Tryz.sizeOf3,Tryz.sizeOf40,Tryz.sizeOf9]⟩
instance : TAG Tryz.prog 276 0:=⟨Tryz.isAgg276,Tryz.sizeOf276⟩
instance : TSZ Tryz.prog 276 0:=⟨Tryz.sizeOf276⟩
instance : TZ Tryz.prog 276 []:=⟨_,Tryz.zeroValue276,rfl⟩
instance : TB Tryz.prog 276 0:=⟨_,Tryz.typeInfo276,rfl⟩
instance : TAG Tryz.prog 280 1:=⟨Tryz.isAgg280,Tryz.sizeOf280⟩
instance : TSZ Tryz.prog 280 1:=⟨Tryz.sizeOf280⟩
instance : TZ Tryz.prog 280 [Value.slice Option.none 0 0]:=⟨_,Tryz.zeroValue280,rfl⟩
instance : TB Tryz.prog 280 24:=⟨_,Tryz.typeInfo280,rfl⟩
instance : TF Tryz.prog 280 0 0:=⟨_,_,_,Tryz.runUnderlying280,rfl,rfl,Tryz.sizeOf35⟩
instance : TS Tryz.prog 280 [(0,1)]:=⟨_,Tryz.runUnderlying280,fun w=>by simp [Tryz.sizeOf35]⟩
instance : TNA Tryz.prog 282:=⟨Tryz.isAgg282,Tryz.sizeOf282⟩
instance : TSZ Tryz.prog 282 1:=⟨Tryz.sizeOf282⟩
instance : TU Tryz.prog 282 (TypeDesc.pointer 74):=⟨Tryz.underlying282⟩
instance : TZ Tryz.prog 282 [Value.pointer Option.none]:=⟨_,Tryz.zeroValue282,rfl⟩
instance : TB Tryz.prog 282 8:=⟨_,Tryz.typeInfo282,rfl⟩
instance : TNA Tryz.prog 284:=⟨Tryz.isAgg284,Tryz.sizeOf284⟩
instance : TSZ Tryz.prog 284 1:=⟨Tryz.sizeOf284⟩
instance : TU Tryz.prog 284 (TypeDesc.pointer 21):=⟨Tryz.underlying284⟩
instance : TZ Tryz.prog 284 [Value.pointer Option.none]:=⟨_,Tryz.zeroValue284,rfl⟩
instance : TB Tryz.prog 284 8:=⟨_,Tryz.typeInfo284,rfl⟩
instance : TNA Tryz.prog 286:=⟨Tryz.isAgg286,Tryz.sizeOf286⟩
instance : TSZ Tryz.prog 286 1:=⟨Tryz.sizeOf286⟩
instance : TU Tryz.prog 286 (TypeDesc.unsafePointer):=⟨Tryz.underlying286⟩
instance : TZ Tryz.prog 286 [Value.pointer Option.none]:=⟨_,Tryz.zeroValue286,rfl⟩
instance : TB Tryz.prog 286 8:=⟨_,Tryz.typeInfo286,rfl⟩
instance : TNA Tryz.prog 290:=⟨Tryz.isAgg290,Tryz.sizeOf290⟩
instance : TSZ Tryz.prog 290 1:=⟨Tryz.sizeOf290⟩
instance : TZ Tryz.prog 290 [Value.nilIface]:=⟨_,Tryz.zeroValue290,rfl⟩
instance : TB Tryz.prog 290 16:=⟨_,Tryz.typeInfo290,rfl⟩
instance : TNA Tryz.prog 292:=⟨Tryz.isAgg292,Tryz.sizeOf292⟩
instance : TSZ Tryz.prog 292 1:=⟨Tryz.sizeOf292⟩
instance : TU Tryz.prog 292 (TypeDesc.pointer 299):=⟨Tryz.underlying292⟩
instance : TZ Tryz.prog 292 [Value.pointer Option.none]:=⟨_,Tryz.zeroValue292,rfl⟩
instance : TB Tryz.prog 292 8:=⟨_,Tryz.typeInfo292,rfl⟩
instance : TNA Tryz.prog 294:=⟨Tryz.isAgg294,Tryz.sizeOf294⟩
instance : TSZ Tryz.prog 294 1:=⟨Tryz.sizeOf294⟩
instance : TU Tryz.prog 294 (TypeDesc.int IntKind.i64):=⟨Tryz.underlying294⟩
instance : TZ Tryz.prog 294 [Value.int IntKind.i64 0]:=⟨_,Tryz.zeroValue294,rfl⟩
instance : TB Tryz.prog 294 8:=⟨_,Tryz.typeInfo294,rfl⟩
instance : TNA Tryz.prog 296:=⟨Tryz.isAgg296,Tryz.sizeOf296⟩
instance : TSZ Tryz.prog 296 1:=⟨Tryz.sizeOf296⟩
instance : TU Tryz.prog 296 (TypeDesc.pointer 384):=⟨Tryz.underlying296⟩
instance : TZ Tryz.prog 296 [Value.pointer Option.none]:=⟨_,Tryz.zeroValue296,rfl⟩
instance : TB Tryz.prog 296 8:=⟨_,Tryz.typeInfo296,rfl⟩
instance : TNA Tryz.prog 297:=⟨Tryz.isAgg297,Tryz.sizeOf297⟩
instance : TSZ Tryz.prog 297 1:=⟨Tryz.sizeOf297⟩
instance : TU Tryz.prog 297 (TypeDesc.pointer 375):=⟨Tryz.underlying297⟩
instance : TZ Tryz.prog 297 [Value.pointer Option.none]:=⟨_,Tryz.zeroValue297,rfl⟩
instance : TB Tryz.prog 297 8:=⟨_,Tryz.typeInfo297,rfl⟩
instance : TAG Tryz.prog 299 3:=⟨Tryz.isAgg299,Tryz.sizeOf299⟩
instance : TSZ Tryz.prog 299 3:=⟨Tryz.sizeOf299⟩
instance : TZ Tryz.prog 299 [Value.nilIface,Value.pointer Option.none,Value.pointer Option.none]:=⟨_,Tryz.zeroValue299,rfl⟩
instance : TB Tryz.prog 299 32:=⟨_,Tryz.typeInfo299,rfl⟩
instance : TF Tryz.prog 299 0 0:=⟨_,_,_,Tryz.runUnderlying299,rfl,rfl,Tryz.sizeOf290⟩
instance : TF Tryz.prog 299 1 1:=⟨_,_,_,Tryz.runUnderlying299,rfl,rfl,Tryz.sizeOf296⟩
instance : TF Tryz.prog 299 2 2:=⟨_,_,_,Tryz.runUnderlying299,rfl,rfl,Tryz.sizeOf297⟩
instance : TS Tryz.prog 299 [(0,1),(1,1),(2,1)]:=⟨_,Tryz.runUnderlying299,fun w=>by simp [Tryz.sizeOf290,Tryz.sizeOf296,Tryz.sizeOf297]⟩
instance : TNA Tryz.prog 314:=⟨Tryz.isAgg314,Tryz.sizeOf314⟩
instance : TSZ Tryz.prog 314 1:=⟨Tryz.sizeOf314⟩
instance : TZ Tryz.prog 314 [Value.nilIface]:=⟨_,Tryz.zeroValue314,rfl⟩
instance : TB Tryz.prog 314 16:=⟨_,Tryz.typeInfo314,rfl⟩
instance : TNA Tryz.prog 318:=⟨Tryz.isAgg318,Tryz.sizeOf318⟩
instance : TSZ Tryz.prog 318 1:=⟨Tryz.sizeOf318⟩
instance : TZ Tryz.prog 318 [Value.nilIface]:=⟨_,Tryz.zeroValue318,rfl⟩
instance : TB Tryz.prog 318 16:=⟨_,Tryz.typeInfo318,rfl⟩
instance : TNA Tryz.prog 343:=⟨Tryz.isAgg343,Tryz.sizeOf343⟩
instance : TSZ Tryz.prog 343 1:=⟨Tryz.sizeOf343⟩
instance : TZ Tryz.prog 343 [Value.nilFunc]:=⟨_,Tryz.zeroValue343,rfl⟩
instance : TB Tryz.prog 343 8:=⟨_,Tryz.typeInfo343,rfl⟩
instance : TNA Tryz.prog 347:=⟨Tryz.isAgg347,Tryz.sizeOf347⟩
instance : TSZ Tryz.prog 347 1:=⟨Tryz.sizeOf347⟩
instance : TZ Tryz.prog 347 [Value.nilFunc]:=⟨_,Tryz.zeroValue347,rfl⟩
instance : TB Tryz.prog 347 8:=⟨_,Tryz.typeInfo347,rfl⟩
instance : TNA Tryz.prog 349:=⟨Tryz.isAgg349,Tryz.sizeOf349⟩
instance : TSZ Tryz.prog 349 1:=⟨Tryz.sizeOf349⟩
instance : TU Tryz.prog 349 (TypeDesc.int IntKind.u64):=⟨Tryz.underlying349⟩
instance : TZ Tryz.prog 349 [Value.int IntKind.u64 0]:=⟨_,Tryz.zeroValue349,rfl⟩
instance : TB Tryz.prog 349 8:=⟨_,Tryz.typeInfo349,rfl⟩
instance : TNA Tryz.prog 356:=⟨Tryz.isAgg356,Tryz.sizeOf356⟩
instance : TSZ Tryz.prog 356 1:=⟨Tryz.sizeOf356⟩
instance : TU Tryz.prog 356 (TypeDesc.map 9 71):=⟨Tryz.underlying356⟩
instance : TZ Tryz.prog 356 [Value.map Option.none]:=⟨_,Tryz.zeroValue356,rfl⟩
instance : TB Tryz.prog 356 8:=⟨_,Tryz.typeInfo356,rfl⟩
instance : TNA Tryz.prog 371:=⟨Tryz.isAgg371,Tryz.sizeOf371⟩
instance : TSZ Tryz.prog 371 1:=⟨Tryz.sizeOf371⟩
instance : TU Tryz.prog 371 (TypeDesc.pointer 67):=⟨Tryz.underlying371⟩
instance : TZ Tryz.prog 371 [Value.pointer Option.none]:=⟨_,Tryz.zeroValue371,rfl⟩
instance : TB Tryz.prog 371 8:=⟨_,Tryz.typeInfo371,rfl⟩
instance : TNA Tryz.prog 373:=⟨Tryz.isAgg373,Tryz.sizeOf373⟩
instance : TSZ Tryz.prog 373 1:=⟨Tryz.sizeOf373⟩
instance : TU Tryz.prog 373 (TypeDesc.slice 377):=⟨Tryz.underlying373⟩
instance : TZ Tryz.prog 373 [Value.slice Option.none 0 0]:=⟨_,Tryz.zeroValue373,rfl⟩
instance : TB Tryz.prog 373 24:=⟨_,Tryz.typeInfo373,rfl⟩
instance : TAG Tryz.prog 375 2:=⟨Tryz.isAgg375,Tryz.sizeOf375⟩
instance : TSZ Tryz.prog 375 2:=⟨Tryz.sizeOf375⟩
instance : TZ Tryz.prog 375 [Value.slice Option.none 0 0,Value.int IntKind.u64 0]:=⟨_,Tryz.zeroValue375,rfl⟩
instance : TB Tryz.prog 375 32:=⟨_,Tryz.typeInfo375,rfl⟩
instance : TF Tryz.prog 375 0 0:=⟨_,_,_,Tryz.runUnderlying375,rfl,rfl,Tryz.sizeOf373⟩
instance : TF Tryz.prog 375 1 1:=⟨_,_,_,Tryz.runUnderlying375,rfl,rfl,Tryz.sizeOf199⟩
instance : TS Tryz.prog 375 [(0,1),(1,1)]:=⟨_,Tryz.runUnderlying375,fun w=>by simp [Tryz.sizeOf199,Tryz.sizeOf373]⟩
instance : TAG Tryz.prog 377 2:=⟨Tryz.isAgg377,Tryz.sizeOf377⟩
instance : TSZ Tryz.prog 377 2:=⟨Tryz.sizeOf377⟩
instance : TZ Tryz.prog 377 [Value.int IntKind.i64 0,Value.int IntKind.u64 0]:=⟨_,Tryz.zeroValue377,rfl⟩
instance : TB Tryz.prog 377 16:=⟨_,Tryz.typeInfo377,rfl⟩
instance : TF Tryz.prog 377 0 0:=⟨_,_,_,Tryz.runUnderlying377,rfl,rfl,Tryz.sizeOf294⟩
instance : TF Tryz.prog 377 1 1:=⟨_,_,_,Tryz.runUnderlying377,rfl,rfl,Tryz.sizeOf199⟩
instance : TS Tryz.prog 377 [(0,1),(1,1)]:=⟨_,Tryz.runUnderlying377,fun w=>by simp [Tryz.sizeOf199,Tryz.sizeOf294]⟩
instance : TNA Tryz.prog 382:=⟨Tryz.isAgg382,Tryz.sizeOf382⟩
instance : TSZ Tryz.prog 382 1:=⟨Tryz.sizeOf382⟩
instance : TU Tryz.prog 382 (TypeDesc.slice 199):=⟨Tryz.underlying382⟩
instance : TZ Tryz.prog 382 [Value.slice Option.none 0 0]:=⟨_,Tryz.zeroValue382,rfl⟩
instance : TB Tryz.prog 382 24:=⟨_,Tryz.typeInfo382,rfl⟩
instance : TAG Tryz.prog 384 2:=⟨Tryz.isAgg384,Tryz.sizeOf384⟩
instance : TSZ Tryz.prog 384 2:=⟨Tryz.sizeOf384⟩
instance : TZ Tryz.prog 384 [Value.int IntKind.i64 0,Value.slice Option.none 0 0]:=⟨_,Tryz.zeroValue384,rfl⟩
instance : TB Tryz.prog 384 32:=⟨_,Tryz.typeInfo384,rfl⟩
instance : TF Tryz.prog 384 0 0:=⟨_,_,_,Tryz.runUnderlying384,rfl,rfl,Tryz.sizeOf3⟩
instance : TF Tryz.prog 384 1 1:=⟨_,_,_,Tryz.runUnderlying384,rfl,rfl,Tryz.sizeOf382⟩
instance : TS Tryz.prog 384 [(0,1),(1,1)]:=⟨_,Tryz.runUnderlying384,fun w=>by simp [Tryz.sizeOf3,Tryz.sizeOf382]⟩
instance : TNA Tryz.prog 387:=⟨Tryz.isAgg387,Tryz.sizeOf387⟩
instance : TSZ Tryz.prog 387 1:=⟨Tryz.sizeOf387⟩
instance : TU Tryz.prog 387 (TypeDesc.pointer 392):=⟨Tryz.underlying387⟩
instance : TZ Tryz.prog 387 [Value.pointer Option.none]:=⟨_,Tryz.zeroValue387,rfl⟩
instance : TB Tryz.prog 387 8:=⟨_,Tryz.typeInfo387,rfl⟩
instance : TNA Tryz.prog 388:=⟨Tryz.isAgg388,Tryz.sizeOf388⟩
instance : TSZ Tryz.prog 388 1:=⟨Tryz.sizeOf388⟩
instance : TU Tryz.prog 388 (TypeDesc.pointer 442):=⟨Tryz.underlying388⟩
instance : TZ Tryz.prog 388 [Value.pointer Option.none]:=⟨_,Tryz.zeroValue388,rfl⟩
instance : TB Tryz.prog 388 8:=⟨_,Tryz.typeInfo388,rfl⟩
instance : TNA Tryz.prog 390:=⟨Tryz.isAgg390,Tryz.sizeOf390⟩
instance : TSZ Tryz.prog 390 1:=⟨Tryz.sizeOf390⟩
instance : TU Tryz.prog 390 (TypeDesc.int IntKind.i64):=⟨Tryz.underlying390⟩
instance : TZ Tryz.prog 390 [Value.int IntKind.i64 0]:=⟨_,Tryz.zeroValue390,rfl⟩
instance : TB Tryz.prog 390 8:=⟨_,Tryz.typeInfo390,rfl⟩
instance : TAG Tryz.prog 392 5:=⟨Tryz.isAgg392,Tryz.sizeOf392⟩
instance : TSZ Tryz.prog 392 5:=⟨Tryz.sizeOf392⟩
instance : TZ Tryz.prog 392 [Value.nilIface,Value.int IntKind.i64 0,Value.map Option.none,Value.pointer Option.none,Value.int IntKind.i64 0]:=⟨_,Tryz.zeroValue392,rfl⟩
instance : TB Tryz.prog 392 48:=⟨_,Tryz.typeInfo392,rfl⟩
instance : TF Tryz.prog 392 0 0:=⟨_,_,_,Tryz.runUnderlying392,rfl,rfl,Tryz.sizeOf290⟩
instance : TF Tryz.prog 392 1 1:=⟨_,_,_,Tryz.runUnderlying392,rfl,rfl,Tryz.sizeOf3⟩
instance : TF Tryz.prog 392 2 2:=⟨_,_,_,Tryz.runUnderlying392,rfl,rfl,Tryz.sizeOf243⟩
instance : TF Tryz.prog 392 3 3:=⟨_,_,_,Tryz.runUnderlying392,rfl,rfl,Tryz.sizeOf388⟩
instance : TF Tryz.prog 392 4 4:=⟨_,_,_,Tryz.runUnderlying392,rfl,rfl,Tryz.sizeOf3⟩
instance : TS Tryz.prog 392 [(0,1),(1,1),(2,1),(3,1),(4,1)]:=⟨_,Tryz.runUnderlying392,fun w=>by simp [Tryz.sizeOf243,Tryz.sizeOf290,Tryz.sizeOf3,Tryz.sizeOf388]⟩
instance : TAG Tryz.prog 405 4:=⟨Tryz.isAgg405,Tryz.sizeOf405⟩
instance : TSZ Tryz.prog 405 4:=⟨Tryz.sizeOf405⟩
instance : TZ Tryz.prog 405 [Value.string ⟨#[]⟩,Value.int IntKind.u32 0,Value.int IntKind.u32 0,Value.int IntKind.u32 0]:=⟨_,Tryz.zeroValue405,rfl⟩
instance : TB Tryz.prog 405 32:=⟨_,Tryz.typeInfo405,rfl⟩
instance : TF Tryz.prog 405 0 0:=⟨_,_,_,Tryz.runUnderlying405,rfl,rfl,Tryz.sizeOf9⟩
instance : TF Tryz.prog 405 1 1:=⟨_,_,_,Tryz.runUnderlying405,rfl,rfl,Tryz.sizeOf67⟩
instance : TF Tryz.prog 405 2 2:=⟨_,_,_,Tryz.runUnderlying405,rfl,rfl,Tryz.sizeOf67⟩
instance : TF Tryz.prog 405 3 3:=⟨_,_,_,Tryz.runUnderlying405,rfl,rfl,Tryz.sizeOf67⟩
instance : TS Tryz.prog 405 [(0,1),(1,1),(2,1),(3,1)]:=⟨_,Tryz.runUnderlying405,fun w=>by simp [Tryz.sizeOf67,Tryz.sizeOf9]⟩
instance : TNA Tryz.prog 407:=⟨Tryz.isAgg407,Tryz.sizeOf407⟩
instance : TSZ Tryz.prog 407 1:=⟨Tryz.sizeOf407⟩
instance : TZ Tryz.prog 407 [Value.nilFunc]:=⟨_,Tryz.zeroValue407,rfl⟩
instance : TB Tryz.prog 407 8:=⟨_,Tryz.typeInfo407,rfl⟩
instance : TNA Tryz.prog 421:=⟨Tryz.isAgg421,Tryz.sizeOf421⟩
instance : TSZ Tryz.prog 421 1:=⟨Tryz.sizeOf421⟩
instance : TU Tryz.prog 421 (TypeDesc.int IntKind.i64):=⟨Tryz.underlying421⟩
instance : TZ Tryz.prog 421 [Value.int IntKind.i64 0]:=⟨_,Tryz.zeroValue421,rfl⟩
instance : TB Tryz.prog 421 8:=⟨_,Tryz.typeInfo421,rfl⟩
instance : TNA Tryz.prog 429:=⟨Tryz.isAgg429,Tryz.sizeOf429⟩
instance : TSZ Tryz.prog 429 1:=⟨Tryz.sizeOf429⟩
instance : TU Tryz.prog 429 (TypeDesc.int IntKind.i64):=⟨Tryz.underlying429⟩
instance : TZ Tryz.prog 429 [Value.int IntKind.i64 0]:=⟨_,Tryz.zeroValue429,rfl⟩
instance : TB Tryz.prog 429 8:=⟨_,Tryz.typeInfo429,rfl⟩
instance : TNA Tryz.prog 432:=⟨Tryz.isAgg432,Tryz.sizeOf432⟩
instance : TSZ Tryz.prog 432 1:=⟨Tryz.sizeOf432⟩
instance : TU Tryz.prog 432 (TypeDesc.pointer 474):=⟨Tryz.underlying432⟩
instance : TZ Tryz.prog 432 [Value.pointer Option.none]:=⟨_,Tryz.zeroValue432,rfl⟩
instance : TB Tryz.prog 432 8:=⟨_,Tryz.typeInfo432,rfl⟩
instance : TNA Tryz.prog 436:=⟨Tryz.isAgg436,Tryz.sizeOf436⟩
instance : TSZ Tryz.prog 436 1:=⟨Tryz.sizeOf436⟩
instance : TU Tryz.prog 436 (TypeDesc.slice 294):=⟨Tryz.underlying436⟩
instance : TZ Tryz.prog 436 [Value.slice Option.none 0 0]:=⟨_,Tryz.zeroValue436,rfl⟩
instance : TB Tryz.prog 436 24:=⟨_,Tryz.typeInfo436,rfl⟩
instance : TNA Tryz.prog 439:=⟨Tryz.isAgg439,Tryz.sizeOf439⟩
instance : TSZ Tryz.prog 439 1:=⟨Tryz.sizeOf439⟩
instance : TU Tryz.prog 439 (TypeDesc.slice 390):=⟨Tryz.underlying439⟩
instance : TZ Tryz.prog 439 [Value.slice Option.none 0 0]:=⟨_,Tryz.zeroValue439,rfl⟩
instance : TB Tryz.prog 439 24:=⟨_,Tryz.typeInfo439,rfl⟩
instance : TNA Tryz.prog 440:=⟨Tryz.isAgg440,Tryz.sizeOf440⟩
instance : TSZ Tryz.prog 440 1:=⟨Tryz.sizeOf440⟩
instance : TU Tryz.prog 440 (TypeDesc.slice 479):=⟨Tryz.underlying440⟩
instance : TZ Tryz.prog 440 [Value.slice Option.none 0 0]:=⟨_,Tryz.zeroValue440,rfl⟩
instance : TB Tryz.prog 440 24:=⟨_,Tryz.typeInfo440,rfl⟩
instance : TAG Tryz.prog 442 2:=⟨Tryz.isAgg442,Tryz.sizeOf442⟩
instance : TSZ Tryz.prog 442 2:=⟨Tryz.sizeOf442⟩
instance : TZ Tryz.prog 442 [Value.slice Option.none 0 0,Value.int IntKind.u64 0]:=⟨_,Tryz.zeroValue442,rfl⟩
instance : TB Tryz.prog 442 32:=⟨_,Tryz.typeInfo442,rfl⟩
instance : TF Tryz.prog 442 0 0:=⟨_,_,_,Tryz.runUnderlying442,rfl,rfl,Tryz.sizeOf440⟩
instance : TF Tryz.prog 442 1 1:=⟨_,_,_,Tryz.runUnderlying442,rfl,rfl,Tryz.sizeOf199⟩
instance : TS Tryz.prog 442 [(0,1),(1,1)]:=⟨_,Tryz.runUnderlying442,fun w=>by simp [Tryz.sizeOf199,Tryz.sizeOf440]⟩
instance : TAG Tryz.prog 460 24:=⟨Tryz.isAgg460,Tryz.sizeOf460⟩
instance : TSZ Tryz.prog 460 24:=⟨Tryz.sizeOf460⟩
instance : TU Tryz.prog 460 (TypeDesc.array 24 5):=⟨Tryz.underlying460⟩
instance : TZ Tryz.prog 460 [Value.int IntKind.u8 0,Value.int IntKind.u8 0,Value.int IntKind.u8 0,Value.int IntKind.u8 0,Value.int IntKind.u8 0,Value.int IntKind.u8 0,Value.int IntKind.u8 0,Value.int IntKind.u8 0,Value.int IntKind.u8 0,Value.int IntKind.u8 0,Value.int IntKind.u8 0,Value.int IntKind.u8 0,Value.int IntKind.u8 0,Value.int IntKind.u8 0,Value.int IntKind.u8 0,Value.int IntKind.u8 0,Value.int IntKind.u8 0,Value.int IntKind.u8 0,Value.int IntKind.u8 0,Value.int IntKind.u8 0,Value.int IntKind.u8 0,Value.int IntKind.u8 0,Value.int IntKind.u8 0,Value.int IntKind.u8 0]:=⟨_,Tryz.zeroValue460,rfl⟩
instance : TB Tryz.prog 460 24:=⟨_,Tryz.typeInfo460,rfl⟩
instance : TNA Tryz.prog 464:=⟨Tryz.isAgg464,Tryz.sizeOf464⟩
instance : TSZ Tryz.prog 464 1:=⟨Tryz.sizeOf464⟩
instance : TU Tryz.prog 464 (TypeDesc.int IntKind.u64):=⟨Tryz.underlying464⟩
instance : TZ Tryz.prog 464 [Value.int IntKind.u64 0]:=⟨_,Tryz.zeroValue464,rfl⟩
instance : TB Tryz.prog 464 8:=⟨_,Tryz.typeInfo464,rfl⟩
instance : TNA Tryz.prog 468:=⟨Tryz.isAgg468,Tryz.sizeOf468⟩
instance : TSZ Tryz.prog 468 1:=⟨Tryz.sizeOf468⟩
instance : TU Tryz.prog 468 (TypeDesc.pointer 3):=⟨Tryz.underlying468⟩
instance : TZ Tryz.prog 468 [Value.pointer Option.none]:=⟨_,Tryz.zeroValue468,rfl⟩
instance : TB Tryz.prog 468 8:=⟨_,Tryz.typeInfo468,rfl⟩
instance : TAG Tryz.prog 474 3:=⟨Tryz.isAgg474,Tryz.sizeOf474⟩
instance : TSZ Tryz.prog 474 3:=⟨Tryz.sizeOf474⟩
instance : TZ Tryz.prog 474 [Value.string ⟨#[]⟩,Value.string ⟨#[]⟩,Value.nilIface]:=⟨_,Tryz.zeroValue474,rfl⟩
instance : TB Tryz.prog 474 48:=⟨_,Tryz.typeInfo474,rfl⟩
instance : TF Tryz.prog 474 0 0:=⟨_,_,_,Tryz.runUnderlying474,rfl,rfl,Tryz.sizeOf9⟩
instance : TF Tryz.prog 474 1 1:=⟨_,_,_,Tryz.runUnderlying474,rfl,rfl,Tryz.sizeOf9⟩
instance : TF Tryz.prog 474 2 2:=⟨_,_,_,Tryz.runUnderlying474,rfl,rfl,Tryz.sizeOf258⟩
instance : TS Tryz.prog 474 [(0,1),(1,1),(2,1)]:=⟨_,Tryz.runUnderlying474,fun w=>by simp [Tryz.sizeOf258,Tryz.sizeOf9]⟩
instance : TAG Tryz.prog 477 64:=⟨Tryz.isAgg477,Tryz.sizeOf477⟩
instance : TSZ Tryz.prog 477 64:=⟨Tryz.sizeOf477⟩
instance : TU Tryz.prog 477 (TypeDesc.array 64 5):=⟨Tryz.underlying477⟩
instance : TB Tryz.prog 477 64:=⟨_,Tryz.typeInfo477,rfl⟩
instance : TAG Tryz.prog 479 2:=⟨Tryz.isAgg479,Tryz.sizeOf479⟩
instance : TSZ Tryz.prog 479 2:=⟨Tryz.sizeOf479⟩
instance : TZ Tryz.prog 479 [Value.int IntKind.i64 0,Value.int IntKind.u64 0]:=⟨_,Tryz.zeroValue479,rfl⟩
instance : TB Tryz.prog 479 16:=⟨_,Tryz.typeInfo479,rfl⟩
instance : TF Tryz.prog 479 0 0:=⟨_,_,_,Tryz.runUnderlying479,rfl,rfl,Tryz.sizeOf390⟩
instance : TF Tryz.prog 479 1 1:=⟨_,_,_,Tryz.runUnderlying479,rfl,rfl,Tryz.sizeOf199⟩
instance : TS Tryz.prog 479 [(0,1),(1,1)]:=⟨_,Tryz.runUnderlying479,fun w=>by simp [Tryz.sizeOf199,Tryz.sizeOf390]⟩
instance : TAG Tryz.prog 484 20:=⟨Tryz.isAgg484,Tryz.sizeOf484⟩
instance : TSZ Tryz.prog 484 20:=⟨Tryz.sizeOf484⟩
instance : TU Tryz.prog 484 (TypeDesc.array 20 199):=⟨Tryz.underlying484⟩
instance : TZ Tryz.prog 484 [Value.int IntKind.u64 0,Value.int IntKind.u64 0,Value.int IntKind.u64 0,Value.int IntKind.u64 0,Value.int IntKind.u64 0,Value.int IntKind.u64 0,Value.int IntKind.u64 0,Value.int IntKind.u64 0,Value.int IntKind.u64 0,Value.int IntKind.u64 0,Value.int IntKind.u64 0,Value.int IntKind.u64 0,Value.int IntKind.u64 0,Value.int IntKind.u64 0,Value.int IntKind.u64 0,Value.int IntKind.u64 0,Value.int IntKind.u64 0,Value.int IntKind.u64 0,Value.int IntKind.u64 0,Value.int IntKind.u64 0]:=⟨_,Tryz.zeroValue484,rfl⟩
instance : TB Tryz.prog 484 160:=⟨_,Tryz.typeInfo484,rfl⟩
instance : TAG Tryz.prog 485 65:=⟨Tryz.isAgg485,Tryz.sizeOf485⟩
instance : TSZ Tryz.prog 485 65:=⟨Tryz.sizeOf485⟩
instance : TU Tryz.prog 485 (TypeDesc.array 65 5):=⟨Tryz.underlying485⟩
instance : TB Tryz.prog 485 65:=⟨_,Tryz.typeInfo485,rfl⟩
instance : TNA Tryz.prog 490:=⟨Tryz.isAgg490,Tryz.sizeOf490⟩
instance : TSZ Tryz.prog 490 1:=⟨Tryz.sizeOf490⟩
instance : TU Tryz.prog 490 (TypeDesc.pointer 5):=⟨Tryz.underlying490⟩
instance : TZ Tryz.prog 490 [Value.pointer Option.none]:=⟨_,Tryz.zeroValue490,rfl⟩
instance : TB Tryz.prog 490 8:=⟨_,Tryz.typeInfo490,rfl⟩
instance : TNA Tryz.prog 491:=⟨Tryz.isAgg491,Tryz.sizeOf491⟩
instance : TSZ Tryz.prog 491 1:=⟨Tryz.sizeOf491⟩
instance : TU Tryz.prog 491 (TypeDesc.pointer 493):=⟨Tryz.underlying491⟩
instance : TZ Tryz.prog 491 [Value.pointer Option.none]:=⟨_,Tryz.zeroValue491,rfl⟩
instance : TB Tryz.prog 491 8:=⟨_,Tryz.typeInfo491,rfl⟩
instance : TAG Tryz.prog 493 1:=⟨Tryz.isAgg493,Tryz.sizeOf493⟩
instance : TSZ Tryz.prog 493 1:=⟨Tryz.sizeOf493⟩
instance : TZ Tryz.prog 493 [Value.string ⟨#[]⟩]:=⟨_,Tryz.zeroValue493,rfl⟩
instance : TB Tryz.prog 493 16:=⟨_,Tryz.typeInfo493,rfl⟩
instance : TF Tryz.prog 493 0 0:=⟨_,_,_,Tryz.runUnderlying493,rfl,rfl,Tryz.sizeOf9⟩
instance : TS Tryz.prog 493 [(0,1)]:=⟨_,Tryz.runUnderlying493,fun w=>by simp [Tryz.sizeOf9]⟩
instance : TAG Tryz.prog 496 32:=⟨Tryz.isAgg496,Tryz.sizeOf496⟩
instance : TSZ Tryz.prog 496 32:=⟨Tryz.sizeOf496⟩
instance : TU Tryz.prog 496 (TypeDesc.array 32 5):=⟨Tryz.underlying496⟩
instance : TZ Tryz.prog 496 [Value.int IntKind.u8 0,Value.int IntKind.u8 0,Value.int IntKind.u8 0,Value.int IntKind.u8 0,Value.int IntKind.u8 0,Value.int IntKind.u8 0,Value.int IntKind.u8 0,Value.int IntKind.u8 0,Value.int IntKind.u8 0,Value.int IntKind.u8 0,Value.int IntKind.u8 0,Value.int IntKind.u8 0,Value.int IntKind.u8 0,Value.int IntKind.u8 0,Value.int IntKind.u8 0,Value.int IntKind.u8 0,Value.int IntKind.u8 0,Value.int IntKind.u8 0,Value.int IntKind.u8 0,Value.int IntKind.u8 0,Value.int IntKind.u8 0,Value.int IntKind.u8 0,Value.int IntKind.u8 0,Value.int IntKind.u8 0,Value.int IntKind.u8 0,Value.int IntKind.u8 0,Value.int IntKind.u8 0,Value.int IntKind.u8 0,Value.int IntKind.u8 0,Value.int IntKind.u8 0,Value.int IntKind.u8 0,Value.int IntKind.u8 0]:=⟨_,Tryz.zeroValue496,rfl⟩
instance : TB Tryz.prog 496 32:=⟨_,Tryz.typeInfo496,rfl⟩
end
section
open Go
section
variable {P:Program} {n:Nat} {ds:List Deferred} {Q:Ky} {v:Env} {L:List HProp} {ty:TypeId} {x y z:Operand} {T:TypeId} {op:Op}
variable {ops l:List Oper} {d:Nat} {pos:String} {af:Array Edge} {gd:Option (Nat×Bool)}
theorem wG {p:Prop} [Decidable p] (hd:Nat.blt d n=true) (hq:Qt P op ty v L (.bool (decide p))) (ht:p→wpl P n ds ops Q l (up v d (.bool true)) L)
    (hf:¬p→wpl P n ds ops Q l (up v d (.bool false)) L):wpl P n ds ops Q (⟨some d,op,ty,pos,af,none⟩::l) v L:=by
  refine wl_q hd hq ?_
  by_cases hp:p
  · rw [decide_eq_true hp];exact ht hp
  · rw [decide_eq_false hp];exact hf hp
theorem xO {p:Prop} [Decidable p] (hw:Wants n ds ops.toArray v gd true) (hd:Nat.blt d n=true) (hq:Qt P op ty v L (.bool (decide p))) (ht:p→wpl P n ds ops Q l (up v d (.bool true)) L)
    (hf:¬p→wpl P n ds ops Q l (up v d (.bool false)) L):wpl P n ds ops Q (⟨some d,op,ty,pos,af,gd⟩::l) v L:=by
  refine wl_q_g hw hd hq ?_
  by_cases hp:p
  · rw [decide_eq_true hp];exact ht hp
  · rw [decide_eq_false hp];exact hf hp
theorem xb {p:Prop} [Decidable p] (hd:Nat.blt d n=true) (hq:Qt P op ty v L (.bool (decide p))) (hp:p) (ht:wpl P n ds ops Q l (up v d (.bool true)) L) :
    wpl P n ds ops Q (⟨some d,op,ty,pos,af,none⟩::l) v L:=wG hd hq (fun _=>ht) (fun h=>absurd hp h)
theorem wq {p:Prop} [Decidable p] (hd:Nat.blt d n=true) (hq:Qt P op ty v L (.bool (decide p))) (hp:¬p) (hf:wpl P n ds ops Q l (up v d (.bool false)) L) :
    wpl P n ds ops Q (⟨some d,op,ty,pos,af,none⟩::l) v L:=wG hd hq (fun h=>absurd h hp) (fun _=>hf)
theorem yq {p:Prop} [Decidable p] (hw:Wants n ds ops.toArray v gd true) (hd:Nat.blt d n=true) (hq:Qt P op ty v L (.bool (decide p))) (hp:p) (ht:wpl P n ds ops Q l (up v d (.bool true)) L) :
    wpl P n ds ops Q (⟨some d,op,ty,pos,af,gd⟩::l) v L:=xO hw hd hq (fun _=>ht) (fun h=>absurd hp h)
theorem wR {p:Prop} [Decidable p] (hw:Wants n ds ops.toArray v gd true) (hd:Nat.blt d n=true) (hq:Qt P op ty v L (.bool (decide p))) (hp:¬p) (hf:wpl P n ds ops Q l (up v d (.bool false)) L) :
    wpl P n ds ops Q (⟨some d,op,ty,pos,af,gd⟩::l) v L:=xO hw hd hq (fun h=>absurd h hp) (fun _=>hf)
variable {late:List Nat} {L0:List HProp} {fuel:Nat} {listed:Array Bool}
theorem yL (i:Nat) {p:Prop} [Decidable p] (ho:opAt ops i=some ⟨some d,op,ty,pos,af,gd⟩) (hw:Wants n ds ops.toArray v gd true) (hd:Nat.blt d n=true) (hk:takeOk ops late listed i=true)
    (hq:Qt P op ty v L0 (.bool (decide p))) (ht:p→wda P n ds ops Q late L0 fuel (listed.setIfInBounds i true) (up v d (.bool true)) L)
    (hf:¬p→wda P n ds ops Q late L0 fuel (listed.setIfInBounds i true) (up v d (.bool false)) L):wda P n ds ops Q late L0 (fuel+1) listed v L:=by
  refine wo i ho hw hd hk hq ?_
  by_cases hp:p
  · rw [decide_eq_true hp];exact ht hp
  · rw [decide_eq_false hp];exact hf hp
theorem wrap_nat {k:IntKind} {m:Nat} (h:(m:Int)≤k.max):k.wrap (m:Int)=(m:Int):=by
  cases k<;>simp only [IntKind.max,IntKind.wrap,IntKind.bits,IntKind.signed] at*<;> simp at*<;> omega
theorem yU {k:IntKind} {a b:Int} {m j:Nat} {yt:TypeId} (hx:evalE v x=.int k a) (hy:evalE v y=.int k b) (hb:b=(j:Int)) (hj:0<j) (ha:a=(m:Int)) (hm:(m:Int)≤k.max) :
    Qt P (.binOp .quo T x y yt) ty v L (.int k ((m/j:Nat):Int)):=by
  subst ha hb;have h:=qt_quo (P:=P) (L:=L) (T:=T) (ty:=ty) (yt:=yt) hx hy qd;have h1:(m:Int).tdiv (j:Int)=((m/j:Nat):Int):=by rw [Int.tdiv_eq_ediv_of_nonneg qd];simp
  have h2:m/j≤m:=Nat.div_le_self m j;have h3:k.wrap ((m/j:Nat):Int)=((m/j:Nat):Int):=wrap_nat (Int.le_trans qd hm)
  rwa [h1,h3] at h
theorem yT {k:IntKind} {a b:Int} {m j:Nat} {yt:TypeId} (hx:evalE v x=.int k a) (hy:evalE v y=.int k b) (hb:b=(j:Int)) (hj:0<j) (ha:a=(m:Int)) :
    Qt P (.binOp .rem T x y yt) ty v L (.int k ((m%j:Nat):Int)):=by
  subst ha hb;have h:=qt_rem (P:=P) (L:=L) (T:=T) (ty:=ty) (yt:=yt) hx hy qd;have h1:(m:Int).tmod (j:Int)=((m%j:Nat):Int):=by rw [Int.tmod_eq_emod_of_nonneg qd];simp
  rwa [h1] at h
theorem wh {k k':IntKind} {a:Int} {m:Nat} {S:TypeDesc} [h1:TU P T S] {U:TypeId} [h2:TU P U (.int k')] (hx:evalE v x=.int k a) (ha:a=(m:Int)) (hm:(m:Int)≤k'.max) :
    Qt P (.convert T U x) ty v L (.int k' (m:Int)):=by
  subst ha;have h:=qt_conv (P:=P) (L:=L) (T:=T) (U:=U) (ty:=ty) hx
  rwa [wrap_nat hm] at h
theorem xZ {b m:Nat} (h:m<2^b):(BitVec.ofInt b (m:Int)).toNat=m:=by
  rw [BitVec.ofInt_natCast,BitVec.toNat_ofNat,Nat.mod_eq_of_lt h]
theorem kE {k:IntKind} (hk:k.signed=false) {m:Nat} (h:m<2^k.bits):k.wrap (m:Int)=(m:Int) :=
  wrap_u k hk qd (by exact_mod_cast h)
theorem qt_andN {k:IntKind} {a b:Int} {m j:Nat} {yt:TypeId} (hx:evalE v x=.int k a) (hy:evalE v y=.int k b) (ha:a=(m:Int)) (hb:b=(j:Int)) (hk:k.signed=false) (hm:m<2^k.bits) (hj:j<2^k.bits) :
    Qt P (.binOp .and T x y yt) ty v L (.int k ((m &&& j:Nat):Int)):=by
  subst ha hb;have h:=qt_and (P:=P) (L:=L) (T:=T) (ty:=ty) (yt:=yt) hx hy;simp only [bitop,BitVec.toNat_and,xZ hm,xZ hj] at h
  rwa [kE hk (Nat.and_lt_two_pow _ hj)] at h
theorem qt_orN {k:IntKind} {a b:Int} {m j:Nat} {yt:TypeId} (hx:evalE v x=.int k a) (hy:evalE v y=.int k b) (ha:a=(m:Int)) (hb:b=(j:Int)) (hk:k.signed=false) (hm:m<2^k.bits) (hj:j<2^k.bits) :
    Qt P (.binOp .or T x y yt) ty v L (.int k ((m ||| j:Nat):Int)):=by
  subst ha hb;have h:=qt_or (P:=P) (L:=L) (T:=T) (ty:=ty) (yt:=yt) hx hy;simp only [bitop,BitVec.toNat_or,xZ hm,xZ hj] at h
  rwa [kE hk (Nat.or_lt_two_pow hm hj)] at h
theorem zX {k:IntKind} {a b:Int} {m j:Nat} {yt:TypeId} (hx:evalE v x=.int k a) (hy:evalE v y=.int k b) (ha:a=(m:Int)) (hb:b=(j:Int)) (hk:k.signed=false) (hm:m<2^k.bits) (hj:j<2^k.bits) :
    Qt P (.binOp .xor T x y yt) ty v L (.int k ((m ^^^ j:Nat):Int)):=by
  subst ha hb;have h:=qt_xor (P:=P) (L:=L) (T:=T) (ty:=ty) (yt:=yt) hx hy;simp only [bitop,BitVec.toNat_xor,xZ hm,xZ hj] at h
  rwa [kE hk (Nat.xor_lt_two_pow hm hj)] at h
theorem yD {k yk:IntKind} {a b:Int} {m j:Nat} {yt:TypeId} (hx:evalE v x=.int k a) (hy:evalE v y=.int yk b) (ha:a=(m:Int)) (hb:b=(j:Int)) (hj:j≤k.bits) :
    Qt P (.binOp .shr T x y yt) ty v L (.int k ((m >>> j:Nat):Int)):=by
  subst ha hb;have h:=qt_shr (P:=P) (L:=L) (T:=T) (ty:=ty) (yt:=yt) hx hy qd;have h1:(m:Int).fdiv (2^(min ((j:Int)).toNat k.bits))=((m >>> j:Nat):Int):=by
    rw [Int.fdiv_eq_ediv_of_nonneg _ (by exact Int.le_of_lt (Int.pow_pos (by decide)))];simp [Nat.min_eq_left hj,Nat.shiftRight_eq_div_pow]
  rwa [h1] at h
theorem qt_shlN {k yk:IntKind} {a b:Int} {m j:Nat} {yt:TypeId} (hx:evalE v x=.int k a) (hy:evalE v y=.int yk b) (ha:a=(m:Int)) (hb:b=(j:Int)) (hk:k.signed=false) (hj:j≤k.bits) :
    Qt P (.binOp .shl T x y yt) ty v L (.int k ((m <<< j%2^k.bits:Nat):Int)):=by
  subst ha hb;have h:=qt_shl (P:=P) (L:=L) (T:=T) (ty:=ty) (yt:=yt) hx hy qd;have h1:k.wrap ((m:Int)*2^(min ((j:Int)).toNat k.bits))=((m <<< j%2^k.bits:Nat):Int):=by
    simp only [IntKind.wrap,hk,Bool.false_and,Bool.false_eq_true,if_false];simp [Nat.min_eq_left hj,Nat.shiftLeft_eq]
  rwa [h1] at h
end
theorem wZ {a:Int} (h:a≤9223372036854775807):a≤IntKind.i64.max:=by rw [IntKind.max_i64];exact h
theorem zw {a:Int} (h:a≤18446744073709551615):a≤IntKind.u64.max:=h
theorem xw {a:Int} (h:a≤4294967295):a≤IntKind.u32.max:=h
theorem max_i32 {a:Int} (h:a≤2147483647):a≤IntKind.i32.max:=h
theorem j7 {a:Int} (h:a≤65535):a≤IntKind.u16.max:=h
theorem yG {a:Int} (h:a≤255):a≤IntKind.u8.max:=h
theorem at_map {α:Type} {f:α→Value} {l:List α} {k:Nat} (d:α) (h:k<l.length):(l.map f)[0+k]?=some (f (l.getD k d)):=by
  simp [List.getElem?_eq_getElem h]
theorem zJ {w j b:Nat} (h:w<b):w >>> j<b:=Nat.lt_of_le_of_lt (by rw [Nat.shiftRight_eq_div_pow];exact Nat.div_le_self _ _) h
section
variable {P:Program} {v:Env} {L:List HProp} {ty:TypeId}
theorem qH {g:FuncId} {xs:List Operand} {ats:Array TypeId} {args:List Value} {T:List HProp} {pre:List HProp→List HProp} {post:Value→List HProp→List HProp→Prop} {K:Value→List HProp→Prop}
    (hp:Pm L (pre T)) (hs:Spec P g args.toArray pre post) (ha:evs v xs=args) (hk:∀r L',post r T L'→K r L'):Ow P (.call ⟨.value (.func g),xs.toArray,ats⟩) ty v L K :=
  ow_call (first:=[]) (cap:=[]) (args:=args) rfl (by simpa using ha) hs hp hk
theorem jD {fo:Operand} {g:FuncId} {xs:List Operand} {ats:Array TypeId} {first cap args:List Value} {T:List HProp} {pre:List HProp→List HProp} {post:Value→List HProp→List HProp→Prop} {K:Value→List HProp→Prop}
    (hp:Pm L (pre T)) (hs:Spec P g args.toArray pre post) (hf:evalE v fo=.func (.func g) first.toArray cap.toArray) (ha:first++(evs v xs++cap)=args) (hk:∀r L',post r T L'→K r L') :
    Ow P (.call ⟨.value fo,xs.toArray,ats⟩) ty v L K:=ow_call hf ha hs hp hk
end
def ups (v:Env):List (Nat×Value)→Env
  | []=>v
  | (t,x)::l=>up (ups v l) t x
inductive At (v:Env):List (Nat×Value)→Prop
  | nil:At v []
  | cons {t x l} (h:v t=x) (r:At v l):At v ((t,x)::l)
theorem At.eq {v:Env} {l:List (Nat×Value)} (h:At v l):v=ups v l:=by
  induction h with
  | nil=>rfl
  | cons h _ ih=>rw [ups,←ih,up_self h]
section
variable {P:Program} {n:Nat} {ds:List Deferred} {Q:Ky} {v:Env} {L:List HProp}
def Again (n:Nat) (ds:List Deferred) (E:Nat→Env→List HProp→Prop) (m:Nat):Act→World→Prop :=
  fun a w=>∃(m':Nat) (v':Env) (L':List HProp),(E m' v' L'∧m'<m)∧Fits n ds v' a∧Sat L' w
theorem q7 {c:Code} (E:Nat→Env→List HProp→Prop) (m₀:Nat) (L₀:List HProp) (h₀:E m₀ v L₀) (hp:Pm L L₀)
    (round:∀m v' L',E m v' L'→wpx P n ds c (Exit.then (Again n ds E m) Q) v' L'):wpx P n ds (.loop c) Q v L :=
  wx_loop Nat E id m₀ L₀ h₀ hp round
theorem qT {E:Nat→Env→List HProp→Prop} {m:Nat} (m':Nat) (L':List HProp) (h:E m' v L') (hm:m'<m) (hp:Pm L L') :
    Post n ds (Exit.then (Again n ds E m) Q) .normal v L:=fun _ _ ha hw=>⟨m',v,L',⟨h,hm⟩,ha,hp.ent.sat hw⟩
def Cut (n:Nat) (ds:List Deferred) (E:Env→List HProp→Prop):Act→World→Prop:=fun a w=>∃(v':Env) (L':List HProp),E v' L'∧Fits n ds v' a∧Sat L' w
theorem wx_cutE {x y:Code} (E:Env→List HProp→Prop) (h1:wpx P n ds x (Exit.then (Cut n ds E) Q) v L) (h2:∀v' L',E v' L'→wpx P n ds y Q v' L'):wpx P n ds (.seq x y) Q v L :=
  fun a w ha hw=>wp_seq (wp_mono (h1 a w ha hw) fun e a w hq=>by
    cases e<;>first | exact hq | (obtain ⟨v',L',he,hf,hs⟩:=hq;exact h2 v' L' he a w hf hs))
theorem yx {E:Env→List HProp→Prop} (L':List HProp) (h:E v L') (hp:Pm L L'):Post n ds (Exit.then (Cut n ds E) Q) .normal v L :=
  fun _ _ ha hw=>⟨v,L',h,ha,hp.ent.sat hw⟩
end
section
variable {P:Program} {v:Env} {L:List HProp} {ty T:TypeId} {x y:Operand}
theorem k6 {k:IntKind} {a b:Int} {m j:Nat} {yt:TypeId} (hx:evalE v x=.int k a) (hy:evalE v y=.int k b) (ha:a=(m:Int)) (hb:b=(j:Int)) (hk:k.signed=false) :
    Qt P (.binOp .mul T x y yt) ty v L (.int k ((m*j%2^k.bits:Nat):Int)):=by
  subst ha hb;have h:=qt_mulw (P:=P) (L:=L) (T:=T) (ty:=ty) (yt:=yt) hx hy;have h1:k.wrap ((m:Int)*(j:Int))=((m*j%2^k.bits:Nat):Int):=by
    simp only [IntKind.wrap,hk,Bool.false_and,Bool.false_eq_true,if_false]
    simp
  rwa [h1] at h
theorem j4 {k:IntKind} {a b:Int} {m j:Nat} {yt:TypeId} (hx:evalE v x=.int k a) (hy:evalE v y=.int k b) (ha:a=(m:Int)) (hb:b=(j:Int)) (hk:k.signed=false) :
    Qt P (.binOp .add T x y yt) ty v L (.int k (((m+j)%2^k.bits:Nat):Int)):=by
  subst ha hb;have h:=qt_addw (P:=P) (L:=L) (T:=T) (ty:=ty) (yt:=yt) hx hy;have h1:k.wrap ((m:Int)+(j:Int))=(((m+j)%2^k.bits:Nat):Int):=by
    simp only [IntKind.wrap,hk,Bool.false_and,Bool.false_eq_true,if_false]
    simp
  rwa [h1] at h
theorem qt_negN {k:IntKind} {a:Int} {m:Nat} (hx:evalE v x=.int k a) (ha:a=(m:Int)) (hk:k.signed=false) (h0:0<m) (hm:m<2^k.bits):Qt P (.unOp .neg T x) ty v L (.int k ((2^k.bits-m:Nat):Int)):=by
  subst ha;have h:=qt_neg (P:=P) (L:=L) (T:=T) (ty:=ty) hx;have h1:k.wrap (0-(m:Int))=((2^k.bits-m:Nat):Int):=by
    simp only [IntKind.wrap,hk,Bool.false_and,Bool.false_eq_true,if_false];have h2:(0-(m:Int))=((2^k.bits-m:Nat):Int)+(2^k.bits:Int)*(-1):=by
      have:((2^k.bits-m:Nat):Int)=(2^k.bits:Int)-m:=by
        rw [Int.ofNat_sub (Nat.le_of_lt hm)];simp
      omega
    rw [h2,Int.add_mul_emod_self_left];exact Int.emod_eq_of_lt qd (by exact_mod_cast (by omega:2^k.bits-m<2^k.bits))
  rwa [h1] at h
end
section
variable {P:Program} {v:Env} {L:List HProp} {ty T:TypeId} {x y:Operand}
theorem yE {k k':IntKind} {a b r:Int} {ts:Array TypeId} (hx:evalE v x=.int k a) (hy:evalE v y=.int k' b) (h:(if b<a then b else a)=r):Qt P (.call ⟨.builtin .min,#[x,y],ts⟩) ty v L (.int k r):=by
  subst h;exact qt_min2 hx hy
theorem zu {k k':IntKind} {a b r:Int} {ts:Array TypeId} (hx:evalE v x=.int k a) (hy:evalE v y=.int k' b) (h:(if b>a then b else a)=r):Qt P (.call ⟨.builtin .max,#[x,y],ts⟩) ty v L (.int k r):=by
  subst h;exact qt_max2 hx hy
theorem xG {b:Nat} {y:Value} {E:TypeId} [h:Has L b (cl [y] E)]:Rdb P L (.slice (some ⟨b,0,none⟩) 1 1) 1 1 [y] :=
  j0 (by simp) (fun j hj=>by simp)
theorem xc {b k:Nat} {ys:List Value} {E:TypeId} [h:Has L b (cl ys E)] (hk:ys.length=k):Rdb P L (.slice (some ⟨b,0,none⟩) 1 1) k 1 ys :=
  j0 (by simp [hk]) (fun j hj=>by simp)
theorem ones1 {y:Value} (h:Value.one y=true):∀z∈[y],Value.one z=true:=by simpa using h
theorem onesK {ys:List Value} (h:Ones ys=true):∀z∈ys,Value.one z=true:=by
  induction ys with
  | nil=>simp
  | cons y ys ih =>
    simp only [Ones,Bool.and_eq_true] at h;intro z hz;cases hz with
    | head=>exact h.1
    | tail _ hz=>exact ih h.2 z hz
end
abbrev N64 (j:Nat):Value:=.int .i64 j
theorem Pm.sat {L L':List HProp} (h:Pm L L'):∀w,Sat L w→Sat L' w:=fun _=>h.ent.sat
section
variable {P:Program} {v:Env} {L:List HProp} {ty T:TypeId} {x y:Operand}
theorem zeros1 (z:Value) (c:Nat):((List.range (c*1)).map fun i=>[z][i%1]?.getD default)=List.replicate c z:=by
  rw [Nat.mul_one]
  induction c with
  | zero=>rfl
  | succ c ih=>rw [List.range_succ,List.map_append,ih,List.replicate_succ'];simp [Nat.mod_one]
theorem yz {E bytes l c:Nat} {z:Value} {kk kc:IntKind} {il ic:Int} {K:Value→List HProp→Prop} [hu:TU P T (.slice E)] [hsz:TSZ P E 1] [hz:TZ P E [z]] [hb:TB P E bytes]
    (hx:evalE v x=.int kk il) (hy:evalE v y=.int kc ic) (hl:il=(l:Int)) (hc:ic=(c:Int)) (hlc:l≤c) (hfit:bytes*c≤281474976710656) (hcm:c≤9223372036854775807)
    (hk:∀b,K (.slice (some ⟨b,0,none⟩) l c) (pt b (cl (List.replicate c z) E)::L)):Ow P (.makeSlice T x y) ty v L K :=
  k9 (k:=1) (zs:=[z]) rfl hx hy hl hc hlc hfit hcm fun b=>by rw [zeros1];exact hk b
end
end
section
open Go
abbrev U8 (w:Nat):Value:=.int .u8 w
theorem rdb_own {P:Program} {L Lr:List HProp} {E k n cap:Nat} {a:Option Addr} {xs:List Value} (hsel:Sel L (own (.slice a n cap) E k xs) Lr) (hn:xs.length=n*k):Rdb P L (.slice a n cap) k n xs :=
  ⟨hn,fun w hw=>by
    refine ⟨rfl,?_⟩;rcases zB (hsel.ent.sat hw) with ⟨h1,rfl,_⟩ | ⟨b,n',cap',sp,h1,h2,h3,hL⟩
    · cases h1;rfl
    · cases h1;have:=zf (P:=P) (off:=0) (ys:=xs) (xN hL) (fun j hj=>by simp [List.getElem?_append,hj]);rw [h2] at this;exact this⟩
theorem foldl_push:∀(bs:List UInt8) (s:ByteArray),((bs.map fun b=>(b.toNat:Int)).foldl (fun r n=>r.push (UInt8.ofNat n.toNat)) s)=⟨s.data++bs.toArray⟩
  | [],s=>by simp
  | b::bs,s=>by
    rw [List.map_cons,List.foldl_cons,foldl_push bs];simp [ByteArray.push]
section
variable {P:Program} {v:Env} {L:List HProp} {ty T:TypeId} {x y:Operand}
theorem qt_b2s {a:Option Addr} {n cap:Nat} {bs:List UInt8} {U:TypeId} [hs:TU P T (.slice 5)] [he:TU P 5 (.int .u8)] [hu:TU P U .string] (hx:evalE v x=.slice a n cap) (hr:Rdb P L (.slice a n cap) 1 n (u8s bs)) :
    Qt P (.convert T U x) ty v L (.string ⟨bs.toArray⟩):=fun _ _ _ _ w hw=>by
  have h:=(hr.2 w hw).2;have hc:(convert T U (.slice a n cap)).run P w=(Conv.bytesToString (.slice a n cap)).run P w:=by
    simp only [convert,Sem.run_bind,hs.u,hu.u,he.u,Result.andThen_ok]
  have hb:(Conv.bytesToString (.slice a n cap)).run P w=.ok (.string ⟨bs.toArray⟩) w:=by
    cases a with
    | none =>
      have h0:n=0:=by
        have:=hr.1;simp only [Builtin.firstCells,Sem.run_pure,Result.ok.injEq,and_true] at h;have h2:(u8s bs)=[]:=by simpa using h.symm
        rw [h2] at this;simpa using this.symm
      have h2:bs=[]:=by
        have:=hr.1;subst h0;simp [u8s] at this;exact this
      subst h2;rfl
    | some a =>
      have h1:(loadCells a n).run P w=.ok ((bs.map fun b=>(b.toNat:Int)).map (Value.int .u8)).toArray w:=by
        have h3:(loadCells a (n*1)).run P w=.ok (u8s bs).toArray w:=h;rw [Nat.mul_one] at h3;rw [h3];simp [u8s,Function.comp_def]
      rw [run_bytesToString w a n cap _ h1,foldl_push]
      simp
  simp only [execOp,hx,Sem.run_bind,hc,hb,Result.andThen_ok,Sem.run_pure]
theorem ow_s2b {s:ByteArray} {U:TypeId} {K:Value→List HProp→Prop} [hs:TU P T .string] [hu:TU P U (.slice 5)] [he:TU P 5 (.int .u8)] (hx:evalE v x=.string s)
    (hk:∀b cap rest fz,K (.slice (some ⟨b,0,none⟩) s.size cap) (pt b (.cells (u8s s.data.toList++rest).toArray 5 fz)::L)):Ow P (.convert T U x) ty v L K :=
  yX fun d pos af gd w hw=>by
    have hr:=run_bytes_of_string (P:=P) w T U 5 s hs.u0 hu.u0 he.u0;have hb:bytesRow s (grownCap w s.size 0 5)=(u8s s.data.toList++List.replicate (grownCap w s.size 0 5-s.size) (Value.int .u8 0)).toArray:=by
      apply Array.ext';simp [bytesRow,u8s]
    refine ⟨.slice (some ⟨w.heap.size,0,none⟩) s.size (grownCap w s.size 0 5),_,_,?_,yr (zL (w':=w.drew) rfl hw) (rfl:(w.drew.alloc (.cells (bytesRow s (grownCap w s.size 0 5)) 5 ((bytesRow s (grownCap w s.size 0 5)).size,(bytesRow s (grownCap w s.size 0 5)).size+1))).heap=_),?_⟩
    · simp only [execOp,hx,Sem.run_bind,hr,Result.andThen_ok,Sem.run_pure]
    · rw [hb];exact hk w.heap.size _ _ _
theorem qt_invN {k:IntKind} {a:Int} {m:Nat} (hx:evalE v x=.int k a) (ha:a=(m:Int)) (hk:k.signed=false) (hm:m<2^k.bits):Qt P (.unOp .xor T x) ty v L (.int k ((2^k.bits-1 ^^^ m:Nat):Int)):=by
  subst ha;have h:=qt_inv (P:=P) (L:=L) (T:=T) (ty:=ty) hx;have h1:(if k.signed then (-1:Int) else k.max)=((2^k.bits-1:Nat):Int):=by
    simp only [hk,Bool.false_eq_true,if_false,IntKind.max];have:1≤2^k.bits:=Nat.one_le_two_pow;rw [Int.ofNat_sub this];simp
  rw [h1] at h;simp only [bitop,BitVec.toNat_xor,xZ hm,xZ (Nat.sub_lt Nat.one_le_two_pow (by decide):2^k.bits-1<2^k.bits)] at h
  rwa [kE hk (Nat.xor_lt_two_pow (Nat.sub_lt Nat.one_le_two_pow (by decide)) hm)] at h
end
section
variable {P:Program} {v:Env} {L:List HProp}
theorem rval_cell1 {a T b off:Nat} {l:List Value} {E:TypeId} {fz:Nat×Nat} {x:Value} (h:v a=.pointer (some ⟨b,off,none⟩)) [hn:TNA P T] [hh:Has L b (.cells l.toArray E fz)] [hr:CellAt l off x]:RVal P v L (.cell a T) x :=
  rval_cell h fun w hw=>run_load1 (hh.out w hw) hr.at_
theorem wJ {a T b off k:Nat} {l:List Value} {E:TypeId} {fz:Nat×Nat} {rs:List Value} (h:v a=.pointer (some ⟨b,off,none⟩)) [hn:TAG P T k] [hh:Has L b (.cells l.toArray E fz)] [hr:CellsAt l off k rs]:RVal P v L (.cell a T) (.agg rs.toArray) :=
  rval_cell h fun w hw=>jX (hh.out w hw) hr.at_.1 hr.at_.2
end
theorem vm (s:ByteArray) (i j:Nat):(s.extract i j).data.toList=(s.data.toList.take j).drop i:=by
  simp [ByteArray.data_extract,Array.toList_extract,List.extract_eq_take_drop,List.drop_take]
theorem zm {a b:ByteArray} (h:a.data.toList=b.data.toList):a=b:=by
  cases a;cases b;congr;exact Array.ext' h
theorem w4 {s:ByteArray} {pre mid suf:List UInt8} {i n:Nat} (h:s.data.toList=pre++(mid++suf)) (hi:i=pre.length) (hn:n=mid.length):(s.extract i (i+n)).data.toList=mid:=by
  subst hi hn;rw [vm,h,List.take_append,List.drop_append]
  simp
theorem ka {s:ByteArray} {pre suf:List UInt8} {n:Nat} (h:s.data.toList=pre++suf) (hn:n=pre.length):(s.extract 0 n).data.toList=pre:=by
  have:=w4 (s:=s) (pre:=[]) (mid:=pre) (suf:=suf) (i:=0) (n:=n) (by simpa using h) rfl hn;simpa using this
theorem j9 {s:ByteArray} {pre suf:List UInt8} {n:Nat} (h:s.data.toList=pre++suf) (hn:n=pre.length):(s.extract n s.size).data.toList=suf:=by
  subst hn;have hs:s.size=s.data.toList.length:=rfl;rw [vm,hs,List.take_length,h,List.drop_left]
theorem jp (l:List UInt8):(ByteArray.mk l.toArray).size=l.length:=rfl
theorem x9 (s:ByteArray):s.size=s.data.toList.length:=rfl
end
section
open Go
theorem Sel.back {L L':List HProp} {A:HProp} (h:Sel L A L'):Ent (A::L') L:=by
  induction h with
  | here=>exact .refl
  | there _ ih=>exact Ent.swap.trans ih.cons
theorem xM {L Lr:List HProp} {s:Value} {k:Nat} {xs:List Value} (hsel:Sel L (rds s k xs) Lr) {w:World} (h:Sat L w):Sat (rds s k xs::L) w :=
  (hsel.back.cons).sat (ent_rds_dup.sat (hsel.ent.sat h))
theorem w5 {α:Type} {f:α→Value} {l:List α} {k:Nat} (d:α) (h:k<l.length):(l.map f)[k]?=some (f (l.getD k d)):=by
  simp [List.getElem?_eq_getElem h]
theorem zq {L:List HProp} {a:Option Addr} {n cap k m:Nat} {xs:List Value} (hm:m≤n) {w:World} (h:Sat (rds (.slice a n cap) k xs::L) w):Sat (rds (.slice a m cap) k (xs.take (m*k))::L) w:=by
  obtain ⟨ro,rw,e1,e2,e3,m1,m2,hs,⟨a',n',cap',h1,h2,hc,h3⟩,hl⟩:=h;cases h1;have hle:m*k≤n*k:=Nat.mul_le_mul_right _ hm;refine ⟨ro,rw,e1,e2,e3,m1,m2,hs,⟨a,m,cap,rfl,by simp;omega,by omega,?_⟩,hl⟩;rcases h3 with rfl | ⟨b,off,l,E,fz,h4,h5,h6⟩
  · exact .inl (by simp)
  · exact .inr ⟨b,off,l,E,fz,h4,h5,fun i hi=>by
      simp only [List.length_take] at hi;rw [List.getElem?_take,if_pos qd];exact h6 i qd⟩
section
variable {P:Program} {n:Nat} {ds:List Deferred} {Q:Ky} {v:Env} {L L':List HProp} {ops l:List Oper} {c:Code}
theorem wE (h:∀w,Sat L w→Sat L' w) (h':wpl P n ds ops Q l v L'):wpl P n ds ops Q l v L:=fun a w ha hw=>h' a w ha (h w hw)
theorem wl_ex {α:Sort _} {f:α→HProp} (h:∀x,wpl P n ds ops Q l v (f x::L)):wpl P n ds ops Q l v (ex f::L):=fun a w ha hw=>let ⟨x,hx⟩:=yb hw;h x a w ha hx
theorem wl_lift {p:Prop} (h:p→wpl P n ds ops Q l v L):wpl P n ds ops Q l v (lift p::L):=fun a w ha hw=>let ⟨hp,hx⟩:=yn hw;h hp a w ha hx
theorem wl_obtain {α:Sort _} {f:α→List HProp} (h:∀w,Sat L w→∃x,Sat (f x) w) (h':∀x,wpl P n ds ops Q l v (f x)):wpl P n ds ops Q l v L :=
  fun a w ha hw=>let ⟨x,hx⟩:=h w hw;h' x a w ha hx
theorem wx_obtain {α:Sort _} {f:α→List HProp} (h:∀w,Sat L w→∃x,Sat (f x) w) (h':∀x,wpx P n ds c Q v (f x)):wpx P n ds c Q v L :=
  fun a w ha hw=>let ⟨x,hx⟩:=h w hw;h' x a w ha hx
theorem yW {e:Exit} (h:∀w,Sat L w→Sat L' w) (h':Post n ds Q e v L'):Post n ds Q e v L:=fun a w ha hw=>h' a w ha (h w hw)
theorem yg {p:Prop} (h:∀w,Sat L w→p) (h':p→wpx P n ds c Q v L):wpx P n ds c Q v L:=fun a w ha hw=>h' (h w hw) a w ha hw
theorem kG {p:Prop} (h:∀w,Sat L w→p) (h':p→wpl P n ds ops Q l v L):wpl P n ds ops Q l v L:=fun a w ha hw=>h' (h w hw) a w ha hw
variable {Lr:List HProp} {a:Option Addr} {m cap k:Nat} {xs:List Value}
theorem wK (hsel:Sel L (rds (.slice a m cap) k xs) Lr) (hne:0<xs.length)
    (h:∀b off l' E fz,a=some ⟨b,off,none⟩→(∀i,i<xs.length→(l':List Value)[off+i]?=xs[i]?)→wpl P n ds ops Q l v (rd b (.cells l'.toArray E fz)::L)):wpl P n ds ops Q l v L :=
  fun ac w ha hw=>by
    obtain ⟨b,off,l',E,fz,h1,h2,h3⟩:=rds_open (xM hsel hw) hne;exact h b off l' E fz h1 h2 ac w ha (Ent.drop.cons.sat h3)
theorem wx_rds (hsel:Sel L (rds (.slice a m cap) k xs) Lr) (hne:0<xs.length)
    (h:∀b off l' E fz,a=some ⟨b,off,none⟩→(∀i,i<xs.length→(l':List Value)[off+i]?=xs[i]?)→wpx P n ds c Q v (rd b (.cells l'.toArray E fz)::L)):wpx P n ds c Q v L :=
  fun ac w ha hw=>by
    obtain ⟨b,off,l',E,fz,h1,h2,h3⟩:=rds_open (xM hsel hw) hne;exact h b off l' E fz h1 h2 ac w ha (Ent.drop.cons.sat h3)
theorem zT {s:Value} {E:Nat} (hsel:Sel L (own s E k xs) Lr) (h:wpx P n ds c Q v (rds s k xs::Lr)):wpx P n ds c Q v L:=fun ac w ha hw=>h ac w ha (wX (hsel.ent.sat hw))
theorem jU {s:Value} {E:Nat} (hsel:Sel L (own s E k xs) Lr) (h:wpl P n ds ops Q l v (rds s k xs::Lr)):wpl P n ds ops Q l v L:=fun ac w ha hw=>h ac w ha (wX (hsel.ent.sat hw))
theorem px_seal {s:Value} {E:Nat} {e:Exit} (hsel:Sel L (own s E k xs) Lr) (h:Post n ds Q e v (rds s k xs::Lr)):Post n ds Q e v L:=fun ac w ha hw=>h ac w ha (wX (hsel.ent.sat hw))
end
theorem xa {b m cap k:Nat} {xs rest:List Value} {E:TypeId} {fz:Nat×Nat} {L:List HProp} {w:World} (h:Sat (pt b (.cells (xs++rest).toArray E fz)::L) w) (hm:xs.length=m*k) (hc:m*k≤cap*k) :
    Sat (rds (.slice (some ⟨b,0,none⟩) m cap) k xs::L) w:=by
  obtain ⟨ro,rw,e1,e2,e3,m1,m2,hs,ha,hl⟩:=sat_seal h;exact ⟨ro,rw,e1,e2,e3,m1,m2,hs,⟨_,m,cap,rfl,hm,hc,.inr ⟨b,0,_,E,_,rfl,ha,fun i hi=>by simp [List.getElem?_append,hi]⟩⟩,hl⟩
theorem zh {L Lr:List HProp} {a:Option Addr} {n cap k:Nat} {xs:List Value} (hsel:Sel L (rds (.slice a n cap) k xs) Lr) (w:World) (h:Sat L w):n*k≤cap*k:=by
  obtain ⟨ro,rw,e1,e2,e3,m1,m2,hs,⟨a',n',cap',h1,h2,hc,h3⟩,hl⟩:=hsel.ent.sat h;cases h1;exact hc
theorem kW {L Lr:List HProp} {a:Option Addr} {n cap k:Nat} {xs:List Value} (hsel:Sel L (rds (.slice a n cap) k xs) Lr) (w:World) (h:Sat L w):xs.length=n*k:=by
  obtain ⟨_,_,_,h1,h2⟩:=rds_slice (hsel.ent.sat h);cases h1;exact h2
theorem own_len {L Lr:List HProp} {a:Option Addr} {E n cap k:Nat} {xs:List Value} (hsel:Sel L (own (.slice a n cap) E k xs) Lr) (w:World) (h:Sat L w):xs.length=n*k:=by
  obtain ⟨_,_,_,h1,h2⟩:=own_slice (hsel.ent.sat h);cases h1;exact h2
end
section
open Go
section
variable {P:Program} {n:Nat} {ds:List Deferred} {Q:Ky} {v:Env} {L L' Lr:List HProp} {ops:Array Oper} {l:List Oper}
variable {x y z:Operand} {ty T:TypeId}
theorem qt_stradd {a b:ByteArray} {yt:TypeId} (hx:evalE v x=.string a) (hy:evalE v y=.string b) (hs:a.size+b.size≤1000000000000):Qt P (.binOp .add T x y yt) ty v L (.string (a++b)):=fun _ _ _ _ _ _=>by
  have:¬(((a.size+b.size:Nat):Int)>IntKind.i64.max):=by
    have:IntKind.i64.max=9223372036854775807:=rfl;omega
  simp only [execOp,hx,hy,eqGuard,binOp,Op.stringOp,if_neg this];rfl
theorem qt_extern {f:FuncId} {fn:Func} {e:Array Value→Sem Value} {xs:List Operand} {vals:List Value} {ts:Array TypeId} {r:Value} (hf:P.funcs[f]?=some fn) (hname:(fn.name == "runtime.NumGoroutine")=false)
    (hb:fn.body.isNone=true) (hn:Extern.findNext fn=none) (he:Extern.find fn=some e) (ha:evs v xs=vals) (hr:∀w,(e vals.toArray).run P w=.ok r w):Qt P (.call ⟨.value (.func f),xs.toArray,ts⟩) ty v L r:=fun _ _ _ _ w _=>by
  subst ha;have h1:=run_callFunc_extern hf hname hb hn he (evs v xs).toArray w;rw [hr] at h1;rw [kA] at h1;simpa [execOp,resolve,invoke,evalE,Deferred.ofValue] using h1
end
def fro (a:Option Addr) (cap m k:Nat):Option Addr:=if cap=m then a else a.map (·.add (m*k))
section
variable {P:Program} {v:Env} {L:List HProp} {x y z:Operand} {ty T:TypeId}
theorem xj {a:Option Addr} {len cap l:Nat} {E s:TypeId} {k:IntKind} {i:Int} [hu:TU P T (.slice E)] [hs:TSZ P E s] (hx:evalE v x=.slice a len cap) (hy:evalE v y=.int k i)
    (hi:i=(l:Int)) (hl:l≤len):Qt P (.slice T x (some y) none none) ty v L (.slice (fro a cap l s) (len-l) (cap-l)):=fun _ _ _ _ w _=>by
  simp only [execOp,Instr.sliceAt,Instr.slice,hx,hy,Sem.run_bind,hu.u,Result.andThen_ok,Instr.sliceBounds,Option.map_some,Option.map_none,Sem.run_pure,xU hi hl,Option.isSome_none,Bool.false_eq_true,if_false,hs.size,fro]
theorem qt_slice_part {a:Option Addr} {len cap l m:Nat} {E s:TypeId} {k k':IntKind} {i j:Int} [hu:TU P T (.slice E)] [hs:TSZ P E s] (hx:evalE v x=.slice a len cap) (hy:evalE v y=.int k i) (hz:evalE v z=.int k' j)
    (hi:i=(l:Int)) (hj:j=(m:Int)) (hl:l≤m) (hm:m≤cap):Qt P (.slice T x (some y) (some z) none) ty v L (.slice (fro a cap l s) (m-l) (cap-l)):=fun _ _ _ _ w _=>by
  simp only [execOp,Instr.sliceAt,Instr.slice,hx,hy,hz,Sem.run_bind,hu.u,Result.andThen_ok,Instr.sliceBounds,Option.map_some,Option.map_none,Sem.run_pure,xU hj hm,xU hi hl,Option.isSome_none,Bool.false_eq_true,if_false,hs.size,fro]
end
theorem xn {L Lr:List HProp} {a:Option Addr} {n cap k m:Nat} {xs:List Value} (hsel:Sel L (rds (.slice a n cap) k xs) Lr) (hm:m≤n) {w:World} (h:Sat L w) :
    Sat (rds (.slice (fro a cap m k) (n-m) (cap-m)) k (xs.drop (m*k))::L) w:=by
  obtain ⟨ro,rw,e1,e2,e3,m1,m2,hs,⟨a',n',cap',h1,h2,hc,h3⟩,hl⟩:=xM hsel h;cases h1;have hle:m*k≤n*k:=Nat.mul_le_mul_right _ hm;have e4:(n-m)*k=n*k-m*k:=Nat.sub_mul ..;have e5:(cap-m)*k=cap*k-m*k:=Nat.sub_mul ..;refine ⟨ro,rw,e1,e2,e3,m1,m2,hs,⟨_,_,_,rfl,by rw [List.length_drop];omega,by omega,?_⟩,hl⟩;rcases h3 with rfl | ⟨b,off,l,E,fz,rfl,h5,h6⟩
  · exact .inl (by simp)
  · by_cases hcm:cap=m
    · subst hcm;left;apply List.eq_nil_of_length_eq_zero;rw [List.length_drop];omega
    · right;refine ⟨b,off+m*k,l,E,fz,?_,h5,fun i hi=>?_⟩
      · unfold fro;rw [if_neg hcm,Option.map_some,Addr.add]
        split
        · rename_i h0;rw [h0];simp
        · simp
      rw [List.length_drop] at hi;rw [List.getElem?_drop,←h6 (m*k+i) qd]
      congr 1
      omega
theorem yh {b cap k:Nat} {E:TypeId} {l:List Value} {L:List HProp} {w:World} (h:Sat (pt b (cl l E)::L) w) (hl:l.length=cap*k):Sat (own (.slice (some ⟨b,0,none⟩) 0 cap) E k []::L) w :=
  (zx (xs:=[]) (sp:=l) (by simp) (by simpa using hl)).sat h
end
section
set_option linter.unusedSectionVars false
open Go
class Key (κ:Type) [DecidableEq κ] where
  kv:κ→Value
  kd:TypeDesc
  same:∀a b,Instr.sameNow kd (kv a) (kv b)=some (decide (a=b))
  stay:∀a,Instr.sameBits 10000 (kv a) (kv a)=true
  chk:∀(P:Program) (t:TypeId) (w:World) (e:Bool) (a:κ),(underlying t).run P w=.ok kd w→(Instr.checkKey e 10000 t (kv a)).run P w=.ok () w
theorem ba_beq (a b:ByteArray):(a == b)=decide (a=b):=by rw [beq_toListBytes,yy]
theorem chk_str {P:Program} {t:TypeId} {w:World} {e:Bool} {a:ByteArray} (n:Nat) (h:(underlying t).run P w=.ok .string w):(Instr.checkKey e (n+1) t (.string a)).run P w=.ok () w:=by simp [Instr.checkKey,h]
theorem chk_int {P:Program} {t:TypeId} {w:World} {e:Bool} {a:Int} (n:Nat) (h:(underlying t).run P w=.ok (.int .i64) w):(Instr.checkKey e (n+1) t (.int .i64 a)).run P w=.ok () w:=by simp [Instr.checkKey,h]
instance : Key ByteArray where
  kv:=.string
  kd:=.string
  same a b:=by simp [Instr.sameNow,ba_beq]
  stay a:=by show (a == a)=true;rw [ba_beq];simp
  chk P t w e a h:=chk_str 9999 h
instance : Key Int where
  kv:=.int .i64
  kd:=.int .i64
  same a b:=by simp [Instr.sameNow];rfl
  stay a:=by show ((IntKind.i64 == IntKind.i64)&&a == a)=true;simp
  chk P t w e a h:=chk_int 9999 h
section
variable {κ:Type} [DecidableEq κ] [Key κ]
abbrev ME (κ:Type):=κ×Value×Nat
def ment (e:ME κ):MapEntry:=⟨Key.kv e.1,e.2.1,e.2.2⟩
def mob (es:List (ME κ)) (clock:Nat):Obj:=.map (es.map ment).toArray clock
def fnd:List (ME κ)→κ→Nat→Option (Nat×Value)
  | [],_,_=>none
  | e::es,k,i=>if k=e.1 then some (i,e.2.1) else fnd es k (i+1)
theorem findNow_eq (k:κ):∀(es:List (ME κ)) (i:Nat),Instr.findNow (Key.kd κ) (Key.kv k) (es.map ment) i=some (fnd es k i)
  | [],_=>rfl
  | e::es,i=>by
    have h:=Key.same k e.1;simp only [List.map_cons,Instr.findNow,ment,fnd,h]
    by_cases hk:k=e.1
    · simp [hk]
    · simp only [hk,decide_false,if_false];exact findNow_eq k es (i+1)
theorem yf {P:Program} {K:TypeId} {w:World} (hu:(underlying K).run P w=.ok (Key.kd κ) w) (k:κ) (es:List (ME κ)):(Instr.findKey K (Key.kv k) (es.map ment)).run P w=.ok (fnd es k 0) w:=by
  simp [Instr.findKey,hu,findNow_eq]
abbrev strip (es:List (ME κ)):List (κ×Value):=es.map fun e=>(e.1,e.2.1)
def lookL:List (κ×Value)→κ→Option Value
  | [],_=>none
  | e::m,k=>if k=e.1 then some e.2 else lookL m k
def putL:List (κ×Value)→κ→Value→List (κ×Value)
  | [],k,v=>[(k,v)]
  | e::m,k,v=>if k=e.1 then (k,v)::m else e::putL m k v
def delL:List (κ×Value)→κ→List (κ×Value)
  | [],_=>[]
  | e::m,k=>if k=e.1 then m else e::delL m k
theorem fnd_look:∀(es:List (ME κ)) (k:κ) (i:Nat),(fnd es k i).map (·.2)=lookL (strip es) k
  | [],_,_=>rfl
  | e::es,k,i=>by
    simp only [fnd,strip,List.map_cons,lookL]
    split
    · rfl
    · exact fnd_look es k (i+1)
theorem fnd_some:∀(es:List (ME κ)) (k:κ) (i j:Nat) (v:Value),fnd es k i=some (j,v)→∃t,j=i+t∧t<es.length∧(es[t]?).map (·.1)=some k∧(∀x,strip (es.modify t fun e=>(k,x,e.2.2))=putL (strip es) k x)∧strip (es.eraseIdx t)=delL (strip es) k
  | [],_,_,_,_,h=>by cases h
  | e::es,k,i,j,v,h=>by
    simp only [fnd] at h
    by_cases hk:k=e.1
    · rw [if_pos hk] at h;cases h;exact ⟨0,by simp,by simp,by simp [hk],fun x=>by simp [putL,←hk],by simp [delL,←hk]⟩
    · rw [if_neg hk] at h;obtain ⟨t,h1,h2,h3,h4,h5⟩:=fnd_some es k (i+1) j v h;refine ⟨t+1,by omega,by simpa using h2,by simpa using h3,fun x=>?_,?_⟩
      · have:=h4 x;simp only [strip,List.modify_succ_cons,List.map_cons,putL,if_neg hk] at this ⊢;rw [this]
      · simp only [strip,List.eraseIdx_cons_succ,List.map_cons,delL,if_neg hk] at h5 ⊢;rw [h5]
theorem fnd_none:∀(es:List (ME κ)) (k:κ) (i:Nat),fnd es k i=none→(∀x c,strip (es++[(k,x,c)])=putL (strip es) k x)∧delL (strip es) k=strip es∧∀e∈es,e.1≠k
  | [],_,_,_=>by simp [putL,delL]
  | e::es,k,i,h=>by
    simp only [fnd] at h
    by_cases hk:k=e.1
    · rw [if_pos hk] at h;cases h
    · rw [if_neg hk] at h;obtain ⟨h1,h2,h3⟩:=fnd_none es k (i+1) h;refine ⟨fun x c=>?_,?_,?_⟩
      · have:=h1 x c;simp only [strip,List.cons_append,List.map_cons,putL,if_neg hk] at this ⊢;rw [this]
      · simp only [strip,List.map_cons,delL,if_neg hk] at h2 ⊢;rw [h2]
      · intro e' he';rcases List.mem_cons.1 he' with rfl | he'
        · exact fun h=>hk h.symm
        · exact h3 e' he'
structure MOK (es:List (ME κ)) (clock:Nat):Prop where
  lt:∀e∈es,e.2.2<clock
  ne:es.Pairwise fun a b=>a.1≠b.1∧a.2.2≠b.2.2
theorem MOK.nil:MOK (κ:=κ) [] 0:=⟨by simp,.nil⟩
theorem MOK.push {es:List (ME κ)} {c:Nat} {k:κ} (h:MOK es c) (hk:∀e∈es,e.1≠k) (x:Value):MOK (es++[(k,x,c)]) (c+1):=by
  refine ⟨?_,List.pairwise_append.2 ⟨h.ne,by simp,?_⟩⟩
  · intro e he;rcases List.mem_append.1 he with he | he
    · have:=h.lt e he;omega
    · rw [List.mem_singleton.1 he];simp
  · intro a ha b hb;rw [List.mem_singleton.1 hb];exact ⟨hk a ha,by have:=h.lt a ha;simp;omega⟩
theorem vd {α β:Type} {f:α→α} {g:α→β}:∀(l:List α) (t:Nat),(∀a,l[t]?=some a→g (f a)=g a)→(l.modify t f).map g=l.map g
  | [],_,_=>by simp
  | a::l,0,h=>by simp [h a]
  | a::l,t+1,h=>by simp [vd l t (fun b hb=>h b (by simpa using hb))]
theorem mok_iff {es:List (ME κ)} {c:Nat}:MOK es c↔(∀e∈es.map fun e=>(e.1,e.2.2),e.2<c)∧(es.map fun e=>(e.1,e.2.2)).Pairwise fun a b=>a.1≠b.1∧a.2≠b.2:=by
  rw [List.pairwise_map];exact ⟨fun h=>⟨fun e he=>by obtain ⟨a,ha,rfl⟩:=List.mem_map.1 he;exact h.lt a ha,h.ne⟩,fun h=>⟨fun e he=>h.1 _ (List.mem_map.2 ⟨e,he,rfl⟩),h.2⟩⟩
theorem MOK.mod {es:List (ME κ)} {c t:Nat} {k:κ} (h:MOK es c) (ht:(es[t]?).map (·.1)=some k) (x:Value):MOK (es.modify t fun e=>(k,x,e.2.2)) c:=by
  rw [mok_iff,vd (g:=fun e:ME κ=>(e.1,e.2.2)) es t (fun a ha=>by rw [ha] at ht;simp at ht;simp [ht]),←mok_iff];exact h
theorem MOK.erase {es:List (ME κ)} {c t:Nat} (h:MOK es c):MOK (es.eraseIdx t) c :=
  ⟨fun e he=>h.lt e (List.mem_of_mem_eraseIdx he),h.ne.sublist (List.eraseIdx_sublist _ _)⟩
def mpo (b:Nat) (m:List (κ×Value)):HProp :=
  ex fun es:List (ME κ)=>ex fun clock=>box [lift (strip es=m∧MOK es clock),pt b (mob es clock)]
theorem x5 {b:Nat} {m:List (κ×Value)} {L:List HProp} {w:World} (h:Sat (mpo b m::L) w):∃es clock,strip es=m∧MOK es clock∧Sat (pt b (mob es clock)::L) w:=by
  obtain ⟨es,h⟩:=yb h;obtain ⟨c,h⟩:=yb h;obtain ⟨⟨h1,h2⟩,h⟩:=yn (wF.sat h);exact ⟨es,c,h1,h2,h⟩
theorem jW {b clock:Nat} {es:List (ME κ)} {m:List (κ×Value)} {L:List HProp} {w:World} (h1:strip es=m) (h2:MOK es clock) (h:Sat (pt b (mob es clock)::L) w):Sat (mpo b m::L) w :=
  (ye (f:=fun es:List (ME κ)=>ex fun clock=>box [lift (strip es=m∧MOK es clock),pt b (mob es clock)]) es).sat
    ((ye (f:=fun clock=>box [lift (strip es=m∧MOK es clock),pt b (mob es clock)]) clock).sat (wi (L:=[_,_]).sat ((yZ ⟨h1,h2⟩).sat h)))
def mit (it b:Nat) (m left:List (κ×Value)) (cur:Option (κ×Value)):HProp :=
  ex fun es:List (ME κ)=>ex fun clock=>ex fun seen:List Nat =>
    box [lift (strip es=m∧MOK es clock∧left=strip (es.filter fun e=>!seen.contains e.2.2)∧∀c,cur=some c→∃e∈es,(e.1,e.2.1)=c∧seen.getLast?=some e.2.2),pt b (mob es clock),pt it (.mapIter (some b) clock seen.toArray clock)]
theorem jr {it b:Nat} {m left:List (κ×Value)} {cur:Option (κ×Value)} {L:List HProp} {w:World} (h:Sat (mit it b m left cur::L) w) :
    ∃(es:List (ME κ)) (clock:Nat) (seen:List Nat),strip es=m∧MOK es clock∧left=strip (es.filter fun e=>!seen.contains e.2.2)∧(∀c,cur=some c→∃e∈es,(e.1,e.2.1)=c∧seen.getLast?=some e.2.2)∧Sat (pt b (mob es clock)::pt it (.mapIter (some b) clock seen.toArray clock)::L) w:=by
  obtain ⟨es,h⟩:=yb h;obtain ⟨c,h⟩:=yb h;obtain ⟨s,h⟩:=yb h;obtain ⟨⟨h1,h2,h3,h4⟩,h⟩:=yn (wF.sat h);exact ⟨es,c,s,h1,h2,h3,h4,h⟩
theorem sat_mit {it b clock:Nat} {es:List (ME κ)} {seen:List Nat} {m left:List (κ×Value)} {cur:Option (κ×Value)} {L:List HProp} {w:World} (h1:strip es=m) (h2:MOK es clock) (h3:left=strip (es.filter fun e=>!seen.contains e.2.2))
    (h4:∀c,cur=some c→∃e∈es,(e.1,e.2.1)=c∧seen.getLast?=some e.2.2) (h:Sat (pt b (mob es clock)::pt it (.mapIter (some b) clock seen.toArray clock)::L) w):Sat (mit it b m left cur::L) w:=by
  refine (ye (f:=fun es:List (ME κ)=>ex fun clock=>ex fun seen:List Nat=>box [lift (strip es=m∧MOK es clock∧left=strip (es.filter fun e=>!seen.contains e.2.2)∧∀c,cur=some c→∃e∈es,(e.1,e.2.1)=c∧seen.getLast?=some e.2.2),pt b (mob es clock),pt it (.mapIter (some b) clock seen.toArray clock)]) es).sat ?_;refine (ye (f:=fun clock=>ex fun seen:List Nat=>box [lift (strip es=m∧MOK es clock∧left=strip (es.filter fun e=>!seen.contains e.2.2)∧∀c,cur=some c→∃e∈es,(e.1,e.2.1)=c∧seen.getLast?=some e.2.2),pt b (mob es clock),pt it (.mapIter (some b) clock seen.toArray clock)]) clock).sat ?_;refine (ye (f:=fun seen:List Nat=>box [lift (strip es=m∧MOK es clock∧left=strip (es.filter fun e=>!seen.contains e.2.2)∧∀c,cur=some c→∃e∈es,(e.1,e.2.1)=c∧seen.getLast?=some e.2.2),pt b (mob es clock),pt it (.mapIter (some b) clock seen.toArray clock)]) seen).sat ?_;exact wi (L:=[_,_,_]).sat ((yZ ⟨h1,h2,h3,h4⟩).sat h)
theorem sat_mit_end {it b:Nat} {m left:List (κ×Value)} {cur:Option (κ×Value)} {L:List HProp} {w:World} (h:Sat (mit it b m left cur::L) w):Sat (mpo b m::L) w:=by
  obtain ⟨es,c,s,h1,h2,_,_,h⟩:=jr h;exact jW h1 h2 (Ent.drop.cons.sat h)
end
section
variable {κ:Type} [DecidableEq κ] [Key κ]
variable {P:Program} {v:Env} {L Lr:List HProp} {x y z:Operand} {ty T K E:TypeId} {b:Nat} {m:List (κ×Value)} {kd:TypeDesc}
theorem map_modify' {α β:Type} {f:α→α} {g:β→β} {h:α→β}:∀(l:List α) (t:Nat),(∀a,h (f a)=g (h a))→(l.modify t f).map h=(l.map h).modify t g
  | [],_,_=>by simp
  | a::l,0,hf=>by simp [hf]
  | a::l,t+1,hf=>by simp [map_modify' l t hf]
theorem map_erase' {α β:Type} {h:α→β}:∀(l:List α) (t:Nat),(l.map h).eraseIdx t=(l.eraseIdx t).map h
  | [],_=>by simp
  | a::l,0=>by simp
  | a::l,t+1=>by simp [map_erase' l t]
theorem xJ {w:World} {es:List (ME κ)} {c:Nat} (h:w.heap[b]?=some (mob es c)):(getObj b).run P w=.ok (.map (es.map ment).toArray c) w:=by
  simp only [getObj,Sem.run,h];rfl
theorem zN {w:World} {es:List (ME κ)} {c:Nat} {o:Obj} (h:w.heap[b]?=some (mob es c)):(setObj b o).run P w=.ok () { w with heap:=w.heap.setIfInBounds b o }:=by
  simp only [setObj,Sem.run,h];rfl
theorem y8 {κ:Type} [DecidableEq κ] [Key κ] {K':Value→List HProp→Prop} (hk:∀b,K' (.map (some b)) (mpo (κ:=κ) b []::L)):Ow P (.makeMap T none) ty v L K' :=
  yX fun _ _ _ _ w hw=>⟨_,w.alloc (mob (κ:=κ) [] 0),_,by simp [execOp,Instr.makeMap,mob],jW (κ:=κ) rfl .nil (yr hw rfl),hk w.heap.size⟩
theorem y7 [hu:TU P T (.map K E)] (hx:evalE v x=.map (some b)) (hsel:Sel L (mpo b m) Lr):Qt P (.call ⟨.builtin .len,#[x],#[T]⟩) ty v L (.int .i64 m.length):=fun _ _ _ _ w hw=>by
  obtain ⟨es,c,h1,h2,h⟩:=x5 (hsel.ent.sat hw);have hb:=xN h;subst h1;simp [execOp,resolve,invoke,builtin,Builtin.len_,hx,hu.u,goInt,xJ hb]
theorem j1 [hu:TU P T (.map K E)] [hk:TU P K kd] {k:κ} {zv:Value} (hx:evalE v x=.map (some b)) (hy:evalE v y=Key.kv k) (hkd:kd=Key.kd κ) (hsel:Sel L (mpo b m) Lr) (hz:∀w,(zeroValue E).run P w=.ok zv w) :
    Qt P (.lookup T x y false) ty v L ((lookL m k).getD zv):=fun _ _ _ _ w hw=>by
  subst hkd;obtain ⟨es,c,h1,h2,h⟩:=x5 (hsel.ent.sat hw);have hb:=xN h;subst h1;have h3:=fnd_look es k 0;simp only [execOp,Instr.lookup,hx,hy,Sem.run_bind,hu.u,Result.andThen_ok,xJ hb,Sem.run_pure,Key.chk P K w _ _ (hk.u w),yf (hk.u w) k es,List.isEmpty_toArray];rw [←h3];cases hf:fnd es k 0 with
  | none=>simp [hz]
  | some r=>simp
theorem ju [hu:TU P T (.map K E)] [hk:TU P K kd] {k:κ} {zv:Value} (hx:evalE v x=.map (some b)) (hy:evalE v y=Key.kv k) (hkd:kd=Key.kd κ) (hsel:Sel L (mpo b m) Lr) (hz:∀w,(zeroValue E).run P w=.ok zv w) :
    Qt P (.lookup T x y true) ty v L (.tuple #[(lookL m k).getD zv,.bool (lookL m k).isSome]):=fun _ _ _ _ w hw=>by
  subst hkd;obtain ⟨es,c,h1,h2,h⟩:=x5 (hsel.ent.sat hw);have hb:=xN h;subst h1;have h3:=fnd_look es k 0;simp only [execOp,Instr.lookup,hx,hy,Sem.run_bind,hu.u,Result.andThen_ok,xJ hb,Sem.run_pure,Key.chk P K w _ _ (hk.u w),yf (hk.u w) k es,List.isEmpty_toArray];rw [←h3];cases hf:fnd es k 0 with
  | none=>simp [hz]
  | some r=>simp
theorem mob_put {w:World} {es es':List (ME κ)} {c c':Nat} {m':List (κ×Value)} (h1:strip es'=m') (h2:MOK es' c') (h:Sat (pt b (mob es c)::L) w):Sat (mpo b m'::L) { w with heap:=w.heap.setIfInBounds b (mob es' c') }:=by
  have hb:=xN h;have hlt:=(Array.getElem?_eq_some_iff.1 hb).1;exact jW h1 h2 (yP h (by simp [Array.getElem?_setIfInBounds,hlt]) (fun c hc=>by simp [Array.getElem?_setIfInBounds,Ne.symm hc]))
theorem x6 [hu:TU P T (.map K E)] [hk:TU P K kd] {k:κ} {r:Value} {K':Value→List HProp→Prop} (hx:evalE v x=.map (some b)) (hy:evalE v y=Key.kv k) (hv:evalE v z=r) (hkd:kd=Key.kd κ) (hsel:Sel L (mpo b m) Lr)
    (hK:K' undef (mpo b (putL m k r)::Lr)):Ow P (.mapUpdate T x y z) ty v L K' :=
  k8 fun _ _ _ _ w hw=>by
    subst hkd hv;obtain ⟨es,c,h1,h2,h⟩:=x5 (hsel.ent.sat hw);have hb:=xN h;subst h1;cases hf:fnd es k 0 with
    | none =>
      obtain ⟨h3,_,h4⟩:=fnd_none es k 0 hf;refine ⟨_,_,?_,mob_put (h3 _ c) (h2.push h4 _) h,hK⟩;simp only [execOp,Instr.mapUpdate,hx,hy,Sem.run_bind,hu.u,Result.andThen_ok,xJ hb,Sem.run_pure,Key.chk P K w _ _ (hk.u w),yf (hk.u w) k es,hf,zN hb];simp [mob,ment]
    | some q =>
      obtain ⟨i,x'⟩:=q;obtain ⟨t,rfl,h3,h4,h5,_⟩:=fnd_some es k 0 i x' hf;simp only [Nat.zero_add] at hf;refine ⟨_,_,?_,mob_put (h5 _) (h2.mod h4 _) h,hK⟩;obtain ⟨e,he⟩:∃e,es[t]?=some e:=⟨_,List.getElem?_eq_getElem h3⟩
      rw [he] at h4;have h4:e.1=k:=by simpa using h4
      have h6:((((es.map ment).toArray[t]?).map (·.key)).getD (Key.kv k))=Key.kv k:=by simp [he,ment,h4]
      have h7:(Instr.keyThatStays (Key.kv k) (Key.kv k)).run P w=.ok (Key.kv k) w:=by simp [Instr.keyThatStays,Key.stay]
      simp only [execOp,Instr.mapUpdate,hx,hy,Sem.run_bind,hu.u,Result.andThen_ok,xJ hb,Sem.run_pure,Key.chk P K w _ _ (hk.u w),yf (hk.u w) k es,hf,h6,h7,zN hb]
      congr 3
      show Obj.map _ c=Obj.map _ c
      congr 1
      apply Array.ext';rw [Array.toList_modify];exact (map_modify' (h:=ment) (f:=fun e:ME κ=>(k,evalE v z,e.2.2)) es t (fun e=>rfl)).symm
theorem ow_delete [hu:TU P T (.map K E)] [hk:TU P K kd] {k:κ} {kt:TypeId} {K':Value→List HProp→Prop} (hx:evalE v x=.map (some b)) (hy:evalE v y=Key.kv k) (hkd:kd=Key.kd κ) (hsel:Sel L (mpo b m) Lr)
    (hK:K' (.tuple #[]) (mpo b (delL m k)::Lr)):Ow P (.call ⟨.builtin .delete,#[x,y],#[T,kt]⟩) ty v L K' :=
  yX fun _ _ _ _ w hw=>by
    subst hkd;obtain ⟨es,c,h1,h2,h⟩:=x5 (hsel.ent.sat hw);have hb:=xN h;subst h1;cases hf:fnd es k 0 with
    | none =>
      obtain ⟨_,h3,h4⟩:=fnd_none es k 0 hf;refine ⟨_,_,_,?_,mob_put h3.symm h2 h,hK⟩;simp only [execOp,resolve,invoke,builtin,Builtin.delete_,List.getElem?_toArray,List.getElem?_cons_zero,List.getElem?_cons_succ,Sem.run_bind,hu.u,Result.andThen_ok,xJ hb,Sem.run_pure,Key.chk P K w _ _ (hk.u w),yf (hk.u w) k es,hf,zN hb];simp [hx,hy,hu.u,xJ hb,Key.chk P K w _ _ (hk.u w),yf (hk.u w) k es,hf,zN hb,mob]
    | some q =>
      obtain ⟨i,x'⟩:=q;obtain ⟨t,rfl,h3,h4,_,h5⟩:=fnd_some es k 0 i x' hf;simp only [Nat.zero_add] at hf;refine ⟨_,_,_,?_,mob_put h5 h2.erase h,hK⟩;simp [execOp,resolve,invoke,builtin,Builtin.delete_,hx,hy,hu.u,xJ hb,Key.chk P K w _ _ (hk.u w),yf (hk.u w) k es,hf,zN hb,mob,Array.eraseIdxIfInBounds,h3,map_erase']
theorem strip_filter (es:List (ME κ)) (seen:List Nat):(es.map ment).toArray.filter (fun e=>!seen.toArray.contains e.born)=((es.filter fun e=>!seen.contains e.2.2).map ment).toArray:=by
  apply Array.ext';simp only [List.filter_toArray,List.filter_map]
  congr 1
  exact List.filter_congr fun e _=>by by_cases q:e.2.2∈seen<;>simp [ment,q]
theorem filter_less {es F:List (ME κ)} {c:Nat} {seen:List Nat} (h:MOK es c) (hF:(es.filter fun e=>!seen.contains e.2.2)=F) {j:Nat} (hj:j<F.length):(es.filter fun e=>!(seen++[(F[j]).2.2]).contains e.2.2)=F.take j++F.drop (j+1):=by
  have hp:F.Pairwise fun a b=>a.1≠b.1∧a.2.2≠b.2.2:=by rw [←hF];exact h.ne.sublist List.filter_sublist
  have e1:(es.filter fun e=>!(seen++[(F[j]).2.2]).contains e.2.2)=F.filter fun e=>decide (e.2.2≠(F[j]).2.2):=by
    conv=>rhs;arg 2;rw [←hF]
    rw [List.filter_filter];exact List.filter_congr fun e _=>by
      by_cases q1:e.2.2∈seen<;>by_cases q2:e.2.2=(F[j]).2.2<;>simp [q1,q2]
  rw [e1];have e2:F=F.take j++F[j]::F.drop (j+1):=by simp
  conv=>lhs;arg 2;rw [e2]
  rw [List.filter_append,List.filter_cons];have hq:=hp;rw [e2,List.pairwise_append,List.pairwise_cons] at hq;obtain ⟨_,⟨h2,_⟩,h3⟩:=hq;simp only [ne_eq,not_true_eq_false,decide_false,Bool.false_eq_true,if_false]
  congr 1
  · exact List.filter_eq_self.2 fun a ha=>by simpa using (h3 a ha F[j] List.mem_cons_self).2
  · exact List.filter_eq_self.2 fun a ha=>by simpa using (h2 a ha).2.symm
theorem ow_range [hu:TU P T (.map K E)] {K':Value→List HProp→Prop} (hx:evalE v x=.map (some b)) (hsel:Sel L (mpo b m) Lr) (hK:∀it,K' (.pointer (some ⟨it,0,none⟩)) (mit it b m m none::Lr)):Ow P (.range T x) ty v L K' :=
  yX fun _ _ _ _ w hw=>by
    obtain ⟨es,c,h1,h2,h⟩:=x5 (hsel.ent.sat hw);have hb:=xN h;refine ⟨_,w.alloc (.mapIter (some b) c #[] c),_,?_,?_,hK w.heap.size⟩
    · simp [execOp,Instr.range,hx,hu.u,xJ hb]
    · have h3:=Ent.swap.sat (yr (o:=.mapIter (some b) c #[] c) h (rfl:(w.alloc (.mapIter (some b) c #[] c)).heap=_));exact sat_mit (seen:=[]) h1 h2 (by rw [←h1];congr 1;exact (List.filter_eq_self.2 (by simp)).symm) (by simp) h3
theorem ow_next {it:Nat} {left:List (κ×Value)} {cur:Option (κ×Value)} {K':Value→List HProp→Prop} (hx:evalE v x=.pointer (some ⟨it,0,none⟩)) (hsel:Sel L (mit it b m left cur) Lr)
    (h0:left=[]→K' (.tuple #[.bool false]) (mpo b m::Lr)) (h1:∀l1 e l2,left=l1++e::l2→K' (.tuple #[.bool true,Key.kv e.1,e.2]) (mit it b m (l1++l2) (some e)::Lr)):Ow P (.next x false) ty v L K' :=
  yX fun _ _ _ _ w hw=>by
    obtain ⟨es,c,seen,g1,g2,g3,g4,h⟩:=jr (hsel.ent.sat hw);have hb:=xN h;have hit:=xN (Ent.swap.sat h);have r1:(getObj it).run P w=.ok (.mapIter (some b) c seen.toArray c) w:=by simp only [getObj,Sem.run,hit]
    have hold:∀e∈es.map ment,e.born<c:=by
      intro e he;obtain ⟨a,ha,rfl⟩:=List.mem_map.1 he;exact g2.lt a ha
    have r2:(!seen.toArray.isEmpty&&!(es.map ment).toArray.isEmpty&&(es.map ment).toArray.all (fun x=>decide (x.born≥c)))=false:=by
      cases hes:es with
      | nil=>simp
      | cons e l =>
        have:=hold (ment e) (by simp [hes]);have h':¬c≤(ment e).born:=by omega
        simp [h']
    have r3:=strip_filter es seen
    generalize hF:(es.filter fun e=>!seen.contains e.2.2)=F at r3 g3
    have hFm:∀e∈F.map ment,e.born<c:=by
      intro e he;obtain ⟨a,ha,rfl⟩:=List.mem_map.1 he;rw [←hF] at ha;exact g2.lt a (List.mem_filter.1 ha).1
    have e1:(F.map ment).toArray.filter (fun x=>decide (x.born<c))=(F.map ment).toArray:=Array.filter_eq_self.2 (fun x hx=>by simpa using hFm x (by simpa using hx));have e2:(F.map ment).toArray.filter (fun x=>decide (x.born≥c))=#[]:=by
      rw [Array.filter_eq_empty_iff];intro x hx;have:=hFm x (by simpa using hx)
      simp;omega
    cases hFc:F with
    | nil =>
      subst hFc;refine ⟨.tuple #[.bool false],w,_,?_,?_,h0 (by rw [g3];rfl)⟩
      · simp only [execOp,Instr.next,hx,Sem.run_bind,r1,Result.andThen_ok,xJ hb,r2,Bool.false_eq_true,if_false,r3,e1,e2];simp [choose,Sem.run,Question.forced]
      · exact jW g1 g2 (Ent.drop.cons.sat h)
    | cons f F' =>
      have hne:(F.map ment).toArray.isEmpty=false:=by simp [hFc]
      have hch:∃(j:Nat) (w1:World),j<F.length∧w1.heap=w.heap∧w1.os=w.os∧w1.output=w.output∧(choose (Question.mapNext F.length)).run P w=.ok j w1:=by
        have hpos:0<F.length:=by simp [hFc]
        by_cases hf:F.length≤1
        · exact ⟨0,w,hpos,rfl,rfl,rfl,by simp [choose,Sem.run,Question.forced,hf]⟩
        · exact ⟨_,w.drew,Nat.mod_lt _ hpos,rfl,rfl,rfl,by
            simp only [choose,Sem.run,Question.forced,decide_eq_true_eq,hf,if_false,Question.cut];rfl⟩
      obtain ⟨j,w1,hj,hw1,hq1,hq2,hrun⟩:=hch;have hset:(setObj it (.mapIter (some b) c (seen++[(F[j]).2.2]).toArray c)).run P w1=.ok () { w1 with heap:=w1.heap.setIfInBounds it (.mapIter (some b) c (seen++[(F[j]).2.2]).toArray c) }:=by
        simp only [setObj,Sem.run,hw1,hit]
      have hsub:∀e∈F,e∈es:=by rw [←hF];exact fun e he=>(List.mem_filter.1 he).1
      have hmem:F[j]∈es:=hsub _ (List.getElem_mem hj);refine ⟨.tuple #[.bool true,Key.kv (F[j]).1,(F[j]).2.1],{ w1 with heap:=w1.heap.setIfInBounds it (.mapIter (some b) c (seen++[(F[j]).2.2]).toArray c) },_,?_,?_,h1 (strip (F.take j)) ((F[j]).1,(F[j]).2.1) (strip (F.drop (j+1))) ?_⟩
      · simp only [execOp,Instr.next,hx,Sem.run_bind,r1,Result.andThen_ok,xJ hb,r2,Bool.false_eq_true,if_false,r3,e1,e2,Array.append_empty,hne,Array.empty_append];have hsz:((F.map ment).toArray.map some).size=F.length:=by simp
        rw [hsz];simp only [hrun,Result.andThen_ok];have e3:((F.map ment).toArray.map some)[j]?=some (some (ment F[j])):=by simp [hj]
        rw [e3];simp only [Sem.run_bind];have e4:seen.toArray.push (ment F[j]).born=(seen++[(F[j]).2.2]).toArray:=by simp [ment]
        rw [e4,hset];rfl
      · have hlt:it<w1.heap.size:=by rw [hw1];exact (Array.getElem?_eq_some_iff.1 hit).1
        have h5:=yP (o':=.mapIter (some b) c (seen++[(F[j]).2.2]).toArray c) (w':={ w1 with heap:=w1.heap.setIfInBounds it (.mapIter (some b) c (seen++[(F[j]).2.2]).toArray c) }) (Ent.swap.sat h) (by simp [Array.getElem?_setIfInBounds,hlt]) (fun q hq=>by simp [Array.getElem?_setIfInBounds,Ne.symm hq,hw1]) hq1 hq2;refine sat_mit g1 g2 ?_ ?_ (Ent.swap.sat h5)
        · rw [filter_less g2 hF hj];simp [strip]
        · intro q hq;cases hq;exact ⟨_,hmem,rfl,by simp⟩
      · rw [g3];have:F=F.take j++F[j]::F.drop (j+1):=by simp
        conv=>lhs;rw [this]
        rw [strip,List.map_append,List.map_cons]
theorem find_own {e:ME κ}:∀ {es:List (ME κ)},es.Pairwise (fun a b=>a.1≠b.1∧a.2.2≠b.2.2)→e∈es→(es.map ment).find? (·.born == e.2.2)=some (ment e)
  | a::es,hp,he=>by
    rw [List.pairwise_cons] at hp;rcases List.mem_cons.1 he with rfl | he
    · simp [ment]
    · have:=(hp.1 e he).2;have h2:(ment a).born≠e.2.2:=this;rw [List.map_cons,List.find?_cons,show ((ment a).born == e.2.2)=false by simpa using h2];exact find_own hp.2 he
theorem qt_entry {it:Nat} {left:List (κ×Value)} {e:κ×Value} (hx:evalE v x=.pointer (some ⟨it,0,none⟩)) (hsel:Sel L (mit it b m left (some e)) Lr):Qt P (.entry x) ty v L (.tuple #[Key.kv e.1,e.2]):=fun _ _ _ _ w hw=>by
  obtain ⟨es,c,seen,g1,g2,g3,g4,h⟩:=jr (hsel.ent.sat hw);have hb:=xN h;have hit:=xN (Ent.swap.sat h);have r1:(getObj it).run P w=.ok (.mapIter (some b) c seen.toArray c) w:=by simp only [getObj,Sem.run,hit]
  obtain ⟨a,ha,rfl,h5⟩:=g4 e rfl;have h6:seen.toArray.back?=some a.2.2:=by simpa using h5
  have h7:=find_own g2.ne ha;simp [execOp,Instr.entry,hx,r1,xJ hb,h6,h7];exact ⟨rfl,rfl⟩
end
end
section
open Go
section
variable {P:Program} {v:Env} {L:List HProp} {x y:Operand} {ty T:TypeId}
theorem qt_slice_eq_nil {a:Option Addr} {n c m d:Nat} {yt E:TypeId} [hu:TU P T (.slice E)] (hx:evalE v x=.slice a n c) (hy:evalE v y=.slice none m d):Qt P (.binOp .eql T x y yt) ty v L (.bool a.isNone):=fun _ _ _ _ w _=>by
  have h0:∀d',(Op.equalIn (d'+1) T (.slice a n c) (.slice none m d)).run P w=.ok a.isNone w:=fun d'=>by cases a<;>simp [Op.equalIn,hu.u]
  have h:(Op.equal T (.slice a n c) (.slice none m d)).run P w=.ok a.isNone w:=h0 9999;have h2:binOp .eql T (.slice a n c) (.slice none m d)=(do pure (.bool (←Op.equal T (.slice a n c) (.slice none m d))):Sem Value):=by cases a<;>rfl
  have h3:eqGuard .eql T x y (.slice a n c) (.slice none m d)=pure ():=rfl;simp only [execOp,hx,hy,h2,h3,Sem.run_bind,Sem.run_pure,Result.andThen_ok,h]
theorem yd {a:Option Addr} {n c m d:Nat} {yt E:TypeId} [hu:TU P T (.slice E)] (hx:evalE v x=.slice a n c) (hy:evalE v y=.slice none m d):Qt P (.binOp .eql T x y yt) ty v L (.bool (decide (a=none))):=by
  have h:=qt_slice_eq_nil (P:=P) (L:=L) (T:=T) (ty:=ty) (yt:=yt) hx hy;cases a<;>exact h
theorem y6 {z:Operand} {s q:ByteArray} {l m:Nat} {k k':IntKind} {i j:Int} [hu:TU P T .string] (hx:evalE v x=.string s) (hy:evalE v y=.int k i) (hz:evalE v z=.int k' j) (hi:i=(l:Int)) (hj:j=(m:Int)) (hl:l≤m) (hm:m≤s.size) (hq:s.extract l m=q) :
    Qt P (.slice T x (some y) (some z) none) ty v L (.string q):=by
  subst hq;exact zl hx hy hz hi hj hl hm
theorem kV {L Lr:List HProp} {n cap k:Nat} {xs:List Value} (hsel:Sel L (rds (.slice none n cap) k xs) Lr) (w:World) (h:Sat L w):xs=[]:=by
  obtain ⟨ro,rw,e1,e2,e3,m1,m2,hs,⟨a',n',cap',h1,h2,hc,h3⟩,hl⟩:=hsel.ent.sat h;cases h1;rcases h3 with rfl | ⟨_,_,_,_,_,h4,_⟩
  · rfl
  · cases h4
theorem qt_slice_ne_nil {a:Option Addr} {n c m d:Nat} {yt E:TypeId} [hu:TU P T (.slice E)] (hx:evalE v x=.slice a n c) (hy:evalE v y=.slice none m d):Qt P (.binOp .neq T x y yt) ty v L (.bool (!a.isNone)):=fun _ _ _ _ w _=>by
  have h0:∀d',(Op.equalIn (d'+1) T (.slice a n c) (.slice none m d)).run P w=.ok a.isNone w:=fun d'=>by cases a<;>simp [Op.equalIn,hu.u]
  have h:(Op.equal T (.slice a n c) (.slice none m d)).run P w=.ok a.isNone w:=h0 9999;have h2:binOp .neq T (.slice a n c) (.slice none m d)=(do pure (.bool (!(←Op.equal T (.slice a n c) (.slice none m d)))):Sem Value):=by cases a<;>rfl
  have h3:eqGuard .neq T x y (.slice a n c) (.slice none m d)=pure ():=rfl;simp only [execOp,hx,hy,h2,h3,Sem.run_bind,Sem.run_pure,Result.andThen_ok,h]
theorem qt_func_eq_nil {f:Fn} {a c:Array Value} {yt:TypeId} {ps rs:List TypeId} {b:Bool} {D:TypeDesc} [hu:TU P T D] (hD:(match D with | .func _ _ _=>true | _=>false)=true) (hx:evalE v x=.func f a c) (hy:evalE v y=.nilFunc):Qt P (.binOp .eql T x y yt) ty v L (.bool false):=fun _ _ _ _ w _=>by
  have h0:∀d',(Op.equalIn (d'+1) T (.func f a c) .nilFunc).run P w=.ok false w:=fun d'=>by
    cases D<;>simp at hD;simp [Op.equalIn,hu.u]
  have h:(Op.equal T (.func f a c) .nilFunc).run P w=.ok false w:=h0 9999;have h2:binOp .eql T (.func f a c) .nilFunc=(do pure (.bool (←Op.equal T (.func f a c) .nilFunc)):Sem Value):=rfl;have h3:eqGuard .eql T x y (.func f a c) .nilFunc=pure ():=rfl;simp only [execOp,hx,hy,h2,h3,Sem.run_bind,Sem.run_pure,Result.andThen_ok,h]
theorem yj {t:TypeId} {r:Value} {yt:TypeId} {D:TypeDesc} [hu:TU P T D] (hD:(match D with | .interface _=>true | _=>false)=true) (hx:evalE v x=.iface t r) (hy:evalE v y=.nilIface):Qt P (.binOp .eql T x y yt) ty v L (.bool false):=fun _ _ _ _ w _=>by
  have h0:∀d',(Op.equalIn (d'+1) T (.iface t r) .nilIface).run P w=.ok false w:=fun d'=>by
    cases D<;>simp at hD;simp [Op.equalIn,hu.u]
  have h:(Op.equal T (.iface t r) .nilIface).run P w=.ok false w:=h0 9999;have h2:binOp .eql T (.iface t r) .nilIface=(do pure (.bool (←Op.equal T (.iface t r) .nilIface)):Sem Value):=rfl;have h3:eqGuard .eql T x y (.iface t r) .nilIface=pure ():=rfl;simp only [execOp,hx,hy,h2,h3,Sem.run_bind,Sem.run_pure,Result.andThen_ok,h]
theorem qt_iface_ne_nil {t:TypeId} {r:Value} {yt:TypeId} {D:TypeDesc} [hu:TU P T D] (hD:(match D with | .interface _=>true | _=>false)=true) (hx:evalE v x=.iface t r) (hy:evalE v y=.nilIface):Qt P (.binOp .neq T x y yt) ty v L (.bool true):=fun _ _ _ _ w _=>by
  have h0:∀d',(Op.equalIn (d'+1) T (.iface t r) .nilIface).run P w=.ok false w:=fun d'=>by
    cases D<;>simp at hD;simp [Op.equalIn,hu.u]
  have h:(Op.equal T (.iface t r) .nilIface).run P w=.ok false w:=h0 9999;have h2:binOp .neq T (.iface t r) .nilIface=(do pure (.bool (!(←Op.equal T (.iface t r) .nilIface))):Sem Value):=rfl;have h3:eqGuard .neq T x y (.iface t r) .nilIface=pure ():=rfl;simp only [execOp,hx,hy,h2,h3,Sem.run_bind,Sem.run_pure,Result.andThen_ok,h,Bool.not_false]
end
end
section
open Go
instance : TU Tryz.prog 258 (.interface #[("Error",201)]):=⟨by kernel_rfl⟩
section
variable {P:Program} {v:Env} {L Lr:List HProp} {x y z:Operand} {ty T:TypeId}
theorem kZ {b off N l m s:Nat} {E:TypeId} {k k':IntKind} {i j:Int} [hu:TU P T (.array N E)] [hs:TSZ P E s] (hx:evalE v x=.pointer (some ⟨b,off,none⟩)) (hy:evalE v y=.int k i) (hz:evalE v z=.int k' j)
    (hi:i=(l:Int)) (hj:j=(m:Int)) (hl:l≤m) (hm:m≤N) (hN:N≠l) (hp:l*s≠0):Qt P (.slice T x (some y) (some z) none) ty v L (.slice (some ⟨b,off+l*s,none⟩) (m-l) (N-l)):=fun _ _ _ _ w _=>by
  simp only [execOp,Instr.sliceAt,Instr.sureAddr,hx,hy,hz,Sem.run_bind,hu.u,Result.andThen_ok,Instr.sliceBounds,Option.map_some,Option.map_none,Sem.run_pure,xU hj hm,xU hi hl,Option.isSome_none,Bool.false_eq_true,if_false,hs.size,if_neg hN,Addr.add,if_neg hp]
theorem qt_mulNE {k:IntKind} {a b:Int} {m j q:Nat} {yt:TypeId} (hx:evalE v x=.int k a) (hy:evalE v y=.int k b) (ha:a=(m:Int)) (hb:b=(j:Int)) (hk:k.signed=false) (hq:m*j%2^k.bits=q) :
    Qt P (.binOp .mul T x y yt) ty v L (.int k (q:Int)):=by subst hq;exact k6 hx hy ha hb hk
theorem zO {k:IntKind} {a b:Int} {m j q:Nat} {yt:TypeId} (hx:evalE v x=.int k a) (hy:evalE v y=.int k b) (ha:a=(m:Int)) (hb:b=(j:Int)) (hk:k.signed=false) (hq:(m+j)%2^k.bits=q) :
    Qt P (.binOp .add T x y yt) ty v L (.int k (q:Int)):=by subst hq;exact j4 hx hy ha hb hk
theorem xE {s:ByteArray} {k:IntKind} {i:Int} {m:Nat} {c:UInt8} [hu:TU P T .string] (hx:evalE v x=.string s) (hy:evalE v y=.int k i) (hi:i=(m:Int)) (hm:m<s.size) (hc:s.data.toList[m]'hm=c) :
    Qt P (.index T x y) ty v L (U8 c.toNat):=by
  subst hc;exact jv hx hy hi hm
theorem qt_subNE {k:IntKind} {a b:Int} {m j q:Nat} {yt:TypeId} (hx:evalE v x=.int k a) (hy:evalE v y=.int k b) (ha:a=(m:Int)) (hb:b=(j:Int)) (hk:k.signed=false) (hq:m=j+q) (hm:q<2^k.bits) :
    Qt P (.binOp .sub T x y yt) ty v L (.int k (q:Int)):=by
  subst ha hb hq;have h:=qt_subw (P:=P) (L:=L) (T:=T) (ty:=ty) (yt:=yt) hx hy;have h1:k.wrap (((j+q:Nat):Int)-(j:Int))=(q:Int):=by
    rw [show ((j+q:Nat):Int)-(j:Int)=(q:Int) by omega];simp only [IntKind.wrap,hk,Bool.false_and,Bool.false_eq_true,if_false];exact Int.emod_eq_of_lt qd (by exact_mod_cast hm)
  rwa [h1] at h
theorem qt_iface_eqi {t:TypeId} {k:IntKind} {a b:Int} {yt:TypeId} {D:TypeDesc} {inf:TypeInfo} [hu:TU P T D] [ht:TU P t (.int k)] (hi:∀w,(typeInfo t).run P w=.ok inf w) (hc:inf.comparable=true) (hD:(match D with | .interface _=>true | _=>false)=true)
    (hx:evalE v x=.iface t (.int k a)) (hy:evalE v y=.iface t (.int k b)):Qt P (.binOp .eql T x y yt) ty v L (.bool (decide (a=b))):=fun _ _ _ _ w _=>by
  have h0:∀d',(Op.equalIn (d'+1+1) T (.iface t (.int k a)) (.iface t (.int k b))).run P w=.ok (decide (a=b)) w:=fun d'=>by
    cases D<;>simp at hD;simp [Op.equalIn,hu.u,hi,hc,ht.u];rfl
  have h:(Op.equal T (.iface t (.int k a)) (.iface t (.int k b))).run P w=.ok (decide (a=b)) w:=h0 9998;have h2:binOp .eql T (.iface t (.int k a)) (.iface t (.int k b))=(do pure (.bool (←Op.equal T (.iface t (.int k a)) (.iface t (.int k b)))):Sem Value):=rfl;have h3:eqGuard .eql T x y (.iface t (.int k a)) (.iface t (.int k b))=pure ():=rfl;simp only [execOp,hx,hy,h2,h3,Sem.run_bind,Sem.run_pure,Result.andThen_ok,h]
theorem qt_iface_nn {c:Value} {yt:TypeId} {D:TypeDesc} [hu:TU P T D] (hD:(match D with | .interface _=>true | _=>false)=true) (hx:evalE v x=.nilIface) (hy:evalE v (.const c)=.nilIface):Qt P (.binOp .neq T x (.const c) yt) ty v L (.bool false):=fun _ _ _ _ w _=>by
  have h0:∀d',(Op.equalIn (d'+1) T .nilIface .nilIface).run P w=.ok true w:=fun d'=>by
    cases D<;>simp at hD;simp [Op.equalIn,hu.u]
  have h:(Op.equal T .nilIface .nilIface).run P w=.ok true w:=h0 9999;have h2:binOp .neq T .nilIface .nilIface=(do pure (.bool (!(←Op.equal T .nilIface .nilIface))):Sem Value):=rfl;have h3:(eqGuard .neq T x (.const c) .nilIface .nilIface).run P w=.ok () w:=by simp [eqGuard]
  simp only [execOp,hx,hy,h2,h3,Sem.run_bind,Sem.run_pure,Result.andThen_ok,h,Bool.not_true]
theorem kg {r:Value} (hc:P.concrete T=true):Qt P (.makeInterface T (.const r)) ty v L (.iface T r):=xp rfl hc
theorem ow_copyStr {b n c sz E:TypeId} {l:List Value} {bs:ByteArray} {L':List HProp} {kt:TypeId} {K:Value→List HProp→Prop} [hu:TU P T (.slice E)] [hE:TSZ P E 1]
    (hx:evalE v x=.slice (some ⟨b,0,none⟩) n c) (hy:evalE v y=.string bs) (hn:bs.size=n) (hl:n≤l.length) [hh:Has L b (cl l sz)] [hw:Swp L b (cl l sz) (cl (setAll l 0 (u8s bs.data.toList)) sz) L'] (hk:K (.int .i64 n) L') :
    Ow P (.call ⟨.builtin .copy,#[x,y],#[T,kt]⟩) ty v L K :=
  yX fun _ _ _ _ w hL=>by
    have hb:=hh.out w hL;have h1:Ones (u8s bs.data.toList)=true:=ones_of (by
      intro z hz;obtain ⟨b,_,rfl⟩:=List.mem_map.1 hz;rfl)
    have hlen:(u8s bs.data.toList).length=n:=by rw [←hn];simp [u8s]
    obtain ⟨w',hst,hb',ho'⟩:=yR (P:=P) (off:=0) (u8s bs.data.toList) l 0 w h1 hb (fun i h h'=>by simp at h') (by rw [hlen];simpa using hl);refine ⟨_,w',L',?_,hw.put hL (o':=cl (setAll l 0 (u8s bs.data.toList)) sz) hb' ho'.1 ho'.2.1 ho'.2.2,hk⟩;have hfc:(Builtin.firstCells 1 n (.string bs)).run P w=.ok (u8s bs.data.toList).toArray w:=by
      rw [←hn];exact ((kp (P:=P) (L:=L) (s:=bs)).2 w hL).2
    have hmin:Nat.min bs.size n=n:=by rw [hn];exact Nat.min_self n
    simp only [execOp,resolve,invoke,builtin,Builtin.copy_,List.getElem?_toArray,List.getElem?_cons_zero,List.getElem?_cons_succ,Sem.run_bind,hu.u,Result.andThen_ok,Builtin.lenOf,Sem.run_pure,hE.size,goInt];simp [hx,hy,hst,hu.u,hE.size,hfc,hmin,Builtin.lenOf,goInt]
theorem ow_unsafeStr {b:Nat} {l:List UInt8} {rest:List Value} {pT it:TypeId} {K:Value→List HProp→Prop} [hu:TU P pT (.pointer 5)] (hc:P.cellsOf 5=1) (hx:evalE v x=.pointer (some ⟨b,0,none⟩)) (hy:evalE v y=.int .i64 l.length) (h0:l≠[]) (h63:l.length≤9223372036854775807)
    (hsel:Sel L (pt b (cl (u8s l++rest) 5)) Lr) (hk:K (.string ⟨l.toArray⟩) Lr):Ow P (.call ⟨.builtin .unsafeString,#[x,y],#[pT,it]⟩) ty v L K :=
  yX fun _ _ _ _ w hL=>by
    have hs:=hsel.ent.sat hL;have hb:=xN hs;have hshape:w.shape? b=some (5,(u8s l++rest).length):=by simp [World.shape?,hb]
    have hcell:∀j x,l[j]?=some x→w.cell? ((⟨b,0,none⟩:Addr).add j)=some (.int .u8 x.toNat):=by
      intro j x hj;have hlt:j<l.length:=(List.getElem?_eq_some_iff.1 hj).1;have:(⟨b,0,none⟩:Addr).add j=⟨b,0+j,none⟩:=by
        unfold Addr.add;split
        · rename_i h;rw [h]
        · rfl
      rw [this,kb hb];simp [u8s,List.getElem?_append,hlt,List.getElem?_eq_some_iff.1 hj];exact (List.getElem?_eq_some_iff.1 hj).2▸rfl
    have hrun:=Lib.run_unsafeString_row (P:=P) w pT it ty 5 hu.u0 hc b _ hshape l h0 (by simp [u8s]) h63 hcell;refine ⟨_,w.freeze ⟨b,0,none⟩ l.length,_,?_,?_,hk⟩
    · simp [execOp,resolve,invoke,builtin,hx,hy,hrun]
    · have hl:l.length≠0:=by simpa using h0
      have hlt:=(Array.getElem?_eq_some_iff.1 hb).1;refine Ent.drop.sat (yP (o':=.cells (u8s l++rest).toArray 5 (0,0+l.length)) hs ?_ ?_ (by simp only [World.freeze,if_neg hl]) (by simp only [World.freeze,if_neg hl]))
      · simp only [World.freeze,if_neg hl];rw [Array.getElem?_modify];simp [hb]
      · intro c hc;simp only [World.freeze,if_neg hl];rw [Array.getElem?_modify];simp [Ne.symm hc]
end
theorem yielded_undef {n:Nat} {ds:List Deferred} {v:Env} {ops:Array Oper} {a:Act} {j:Nat} {oj:Oper} {d:Nat} (ha:Fits n ds v a) (hj:ops[j]?=some oj) (hd:oj.dst=some d)
    (hlt:Nat.blt d n=true) (ht:v d=undef):yielded ops a.tmps j=none:=by
  have hs:d<a.tmps.size:=by rw [ha.2.1];exact Nat.le_of_ble_eq_true hlt
  have h2:=ha.2.2 d;rw [ht] at h2;have h3:a.tmps[d]?=some undef:=by
    rw [Array.getD_eq_getD_getElem?,Array.getElem?_eq_getElem hs] at h2;rw [Array.getElem?_eq_getElem hs];simpa using h2
  simp [yielded,hj,hd,h3,undef]
theorem wV {n:Nat} {ds:List Deferred} {v:Env} {ops:List Oper} {j d:Nat} {want:Bool} (hj:dstAt ops j=some d) (hlt:Nat.blt d n=true) (ht:v d=undef) :
    Wants n ds ops.toArray v (some (j,want)) false:=fun a _ _ _ _ _ ha=>by
  unfold dstAt at hj;cases ho:opAt ops j with
  | none=>rw [ho] at hj;cases hj
  | some oj =>
    rw [ho] at hj;have hy:=yielded_undef ha ((j5 ops j).symm.trans ho) hj hlt ht;unfold Region.wanted;show (yielded ops.toArray a.tmps j == some want)=false;rw [hy];rfl
end
section
open Go
section
variable {P:Program} {v:Env} {L Lr:List HProp} {x y:Operand} {ty T:TypeId}
theorem jc {b:Nat} {yt K E:TypeId} [hu:TU P T (.map K E)] (hx:evalE v x=.map (some b)) (hy:evalE v y=.map none):Qt P (.binOp .eql T x y yt) ty v L (.bool false):=fun _ _ _ _ w _=>by
  have h0:∀d',(Op.equalIn (d'+1) T (.map (some b)) (.map none)).run P w=.ok false w:=fun d'=>by simp [Op.equalIn,hu.u]
  have h:(Op.equal T (.map (some b)) (.map none)).run P w=.ok false w:=h0 9999;have h2:binOp .eql T (.map (some b)) (.map none)=(do pure (.bool (←Op.equal T (.map (some b)) (.map none))):Sem Value):=rfl;have h3:eqGuard .eql T x y (.map (some b)) (.map none)=pure ():=rfl;simp only [execOp,hx,hy,h2,h3,Sem.run_bind,Sem.run_pure,Result.andThen_ok,h]
theorem qt_assertMap {t:TypeId} {r:Value} {xt K E:TypeId} [hu:TU P t (.map K E)] (hx:evalE v x=.iface t r):Qt P (.typeAssert x xt t false) ty v L r:=fun _ _ _ _ w _=>by
  simp [execOp,Instr.typeAssert,hx,hu.u]
theorem ow_mapsClone {κ:Type} [DecidableEq κ] [Key κ] {f:FuncId} {fn:Func} {b:Nat} {m:List (κ×Value)} {ts:Array TypeId} {t:TypeId} {K:Value→List HProp→Prop} (hf:P.funcs[f]?=some fn) (hname:(fn.name == "runtime.NumGoroutine")=false)
    (hb:fn.body.isNone=true) (hn:Extern.findNext fn=none) (he:Extern.find fn=some Extern.MapsClone.clone) (hx:evalE v x=.iface t (.map (some b))) (hsel:Sel L (mpo (κ:=κ) b m) Lr)
    (hK:∀b',K (.iface t (.map (some b'))) (mpo (κ:=κ) b' m::mpo (κ:=κ) b m::Lr)):Ow P (.call ⟨.value (.func f),#[x],ts⟩) ty v L K :=
  yX fun _ _ _ _ w hw=>by
    obtain ⟨es,c,h1,h2,h⟩:=x5 (hsel.ent.sat hw);have hbb:=xN h;have h4:(Extern.MapsClone.clone #[.iface t (.map (some b))]).run P w=.ok (.iface t (.map (some w.heap.size))) (w.alloc (mob es c)):=by
      have e:Extern.MapsClone.clone #[.iface t (.map (some b))]=(getObj b >>= fun o=>match o with
        | .map entries clock=>do pure (.iface t (.map (some (←newObj (.map entries clock)))))
        | _=>stuck "maps.clone: a map expected"):=rfl
      rw [e];simp [xJ hbb,mob]
    have h5:=run_callFunc_extern hf hname hb hn he #[.iface t (.map (some b))] w;rw [h4] at h5;refine ⟨_,w.alloc (mob es c),_,?_,?_,hK w.heap.size⟩
    · have e2:evalE v (.func f)=.func (.func f) #[] #[]:=rfl;simpa [execOp,resolve,invoke,e2,Deferred.ofValue,hx] using h5
    · have h6:=yr (o:=mob es c) h (rfl:(w.alloc (mob es c)).heap=_);exact Ent.swap.sat (jW h1 h2 (Ent.swap.sat (jW h1 h2 h6)))
end
end
section
open Go
set_option maxRecDepth 4000
section
variable {P:Program} {n:Nat} {ds:List Deferred} {Q:Ky} {v:Env} {L:List HProp} {ops l:List Oper} {ty:TypeId} {pos:String} {af:Array Edge}
abbrev dfr (g:FuncId) (cap:List Value):Deferred:={ target:=.fn (.func g) cap.toArray,args:=#[] }
theorem wl_defer {fo:Operand} {ats:Array TypeId} {g:FuncId} {cap:List Value} (hf:evalE v fo=.func (.func g) #[] cap.toArray)
    (h:wpl P n (dfr g cap::ds) ops Q l v L):wpl P n ds ops Q (⟨none,.defer ⟨.value fo,#[],ats⟩,ty,pos,af,none⟩::l) v L:=by
  intro a w ha hw;refine zd (by simp [Region.wanted]) ?_;have hr:(execOp a.eval ⟨none,.defer ⟨.value fo,#[],ats⟩,ty,pos,af,none⟩).run P w=.ok (.defer (dfr g cap)) w:=by
    rw [ha.eval];simp [execOp,resolve,hf,Deferred.ofValue]
  unfold Oper.wp;rw [hr];exact h _ w ⟨by rw [←ha.1];rfl,ha.2.1,ha.2.2⟩ hw
theorem spec_ofD {f:FuncId} {fn:Func} {c:Code} {args:List Value} {pre:List HProp→List HProp} {post:Value→List HProp→List HProp→Prop}
    (hf:P.funcs[f]?=some fn) (hb:fn.body=some c) (hn:fn.ntmps=n) (hnm:(fn.name == "runtime.NumGoroutine")=false) (hl:Nat.ble args.length n=true)
    (h:∀T,wpx P n [] c (bodyPostD P fn (Rets post T)) (argFrom 0 args) (pre T)) :
    Spec P f args.toArray pre post:=by
  refine ⟨⟨fn,hf,by simp [hb],hnm⟩,fun T w hw=>calls_of_wp_defers hf hb (h T _ _ ⟨rfl,?_,fun t=>?_⟩ hw)⟩
  · have:=Nat.le_of_ble_eq_true hl;simp [hn];omega
  · rw [jB];simp only [Nat.not_lt_zero,if_false,Nat.sub_zero,Array.getD_eq_getD_getElem?,List.getD_eq_getElem?_getD]
    by_cases ht:t<args.length
    · simp [Array.getElem?_append,ht]
    · simp only [Array.getElem?_append,List.size_toArray,ht,if_false,List.getElem?_eq_none (Nat.not_lt.1 ht),Option.getD_none,Array.getElem?_replicate]
      split<;>rfl
def Idle (P:Program) (g:FuncId) (cap:List Value) (L:List HProp):Prop :=
  (∀w,(callFunc g cap.toArray).run P w=.ok (.enter g cap.toArray) w)∧∀w,Sat L w→CallsD P g cap.toArray .returning w fun e u' w'=>u'=.returning∧(∃r,e=.returned r)∧Sat L w'
variable {fn:Func} {T:List HProp} {post:Value→List HProp→List HProp→Prop}
theorem leaves_idle {g:FuncId} {cap:List Value} {tmps:Array Value} {R:Ending→World→Prop} {w:World} (hi:Idle P g cap L) (hw:Sat L w)
    (h:∀w',Sat L w'→∃r,(results fn tmps).run P w'=.ok r w'∧R (.returned r) w'):Leaves P fn tmps R [dfr g cap] .returning w:=by
  refine leaves_cons (f:=g) (args:=cap.toArray) (by simp) (by simp [invoke,hi.1]) ((hi.2 w hw).mono ?_);rintro e u' w' ⟨rfl,⟨r,rfl⟩,hs⟩;exact h w' hs
theorem px_res2D {e:Exit} (he:ends e=true) {r1 r2:ResultVar} {x1 x2:Value} {g:FuncId} {cap:List Value} (hr:fn.results=#[r1,r2]) (h1:RVal P v L r1 x1) (h2:RVal P v L r2 x2) (hi:Idle P g cap L)
    (L':List HProp) (hp:post (.tuple #[x1,x2]) T L') (hw:∀w,Sat L w→Sat L' w) :
    Post n [dfr g cap] (bodyPostD P fn (Rets post T)) e v L:=by
  intro a w ha hs;have hrun:∀w',Sat L w'→(results fn a.tmps).run P w'=.ok (.tuple #[x1,x2]) w':=fun w' hs' =>
    yK (P:=P) (fn:=fn) (rs:=[r1,r2]) (xs:=[x1,x2]) (by simpa using hr) (.cons h1 (.cons h2 .nil)) ha.2.2 hs'
  have hl:Leaves P fn a.tmps (Rets post T) a.defers .returning w:=by
    rw [ha.1];exact leaves_idle hi hs fun w' hs'=>⟨_,hrun w' hs',_,L',rfl,hp,hw w' hs'⟩
  cases e<;>first | (cases he;done) | exact hl
end
instance : TU Tryz.prog 20 (.interface #[]):=⟨by kernel_rfl⟩
theorem idle174 (b2 b3:Nat) (L:List HProp):Idle Tryz.prog 174 [.pointer (some ⟨b2,0,none⟩),.pointer (some ⟨b3,0,none⟩)] L:=by
  refine ⟨fun w=>jY ⟨_,Tryz.func174,rfl,rfl⟩ w,fun w hw=>?_⟩;have hne:∀w,(binOp .neq 20 .nilIface .nilIface).run Tryz.prog w=.ok (.bool false) w:=fun w=>by
    have h0:∀d',(Op.equalIn (d'+1) 20 .nilIface .nilIface).run Tryz.prog w=.ok true w:=fun d'=>by
      have hu:=(TU.u (P:=Tryz.prog) (T:=20) inferInstance w)
      simp [Op.equalIn,hu]
    have h:(Op.equal 20 .nilIface .nilIface).run Tryz.prog w=.ok true w:=h0 9999;have h2:binOp .neq 20 .nilIface .nilIface=(do pure (.bool (!(←Op.equal 20 .nilIface .nilIface))):Sem Value):=rfl;simp only [h2,Sem.run_bind,Sem.run_pure,Result.andThen_ok,h,Bool.not_true]
  refine callsD_of_wpS Tryz.func174 rfl fun c₀ cs hu=>?_;apply wpS_seq;apply wpS_region;simp [wpOpsS,go_sem,recoverD,hu,Tryz.ntmps174,Exit.thenS];apply wpS_seq;apply wpS_region;simp [wpOpsS,go_sem,recoverD,hu,Exit.thenS,hne];refine wpS_cond (t:=false) (by simp [Act.eval,Array.replicate]) ?_;simp only [Bool.false_eq_true,if_false];refine wpS_of_wp (wp_skip ?_);cases c₀
  simp_all [bodyPostS,results,Tryz.results174]
end
section
open Go
set_option maxRecDepth 4000
def wr (p:Nat) (bs:List UInt8):HProp:=ex fun a=>ex fun cap=>box [pt p (cl [.slice a bs.length cap] 280),own (.slice a bs.length cap) 5 1 (u8s bs)]
theorem sat_open_wr {p:Nat} {bs:List UInt8} {L:List HProp} {w:World} (h:Sat (wr p bs::L) w):∃a cap,Sat (pt p (cl [.slice a bs.length cap] 280)::own (.slice a bs.length cap) 5 1 (u8s bs)::L) w:=by
  obtain ⟨a,h⟩:=yb h;obtain ⟨cap,h⟩:=yb h;exact ⟨a,cap,wF.sat h⟩
theorem sat_wr {p n cap:Nat} {a:Option Addr} {bs:List UInt8} {xs:List Value} {L:List HProp} {w:World} (h:Sat (pt p (cl [.slice a n cap] 280)::own (.slice a n cap) 5 1 xs::L) w) (hx:xs=u8s bs) (hn:n=bs.length):Sat (wr p bs::L) w:=by
  subst hn hx;exact (ye (f:=fun a=>ex fun cap=>box [pt p (cl [.slice a bs.length cap] 280),own (.slice a bs.length cap) 5 1 (u8s bs)]) a).sat ((ye (f:=fun cap=>box [pt p (cl [.slice a bs.length cap] 280),own (.slice a bs.length cap) 5 1 (u8s bs)]) cap).sat (wi (L:=[_,_]).sat h))
section
variable {P:Program} {n:Nat} {ds:List Deferred} {Q:Ky} {v:Env} {L:List HProp} {p:Nat} {bs:List UInt8}
theorem wx_wr {c:Code} (h:∀a cap,wpx P n ds c Q v (pt p (cl [.slice a bs.length cap] 280)::own (.slice a bs.length cap) 5 1 (u8s bs)::L)):wpx P n ds c Q v (wr p bs::L) :=
  fun a w ha hw=>let ⟨b,cap,h'⟩:=sat_open_wr hw;h b cap a w ha h'
end
def beN:Nat→Nat→List UInt8
  | 0,_=>[]
  | k+1,v=>UInt8.ofNat (v >>> (8*k))::beN k v
theorem qR:∀k v,(beN k v).length=k
  | 0,_=>rfl
  | k+1,v=>by simp [beN,qR k v]
theorem kj (a b:List UInt8):u8s (a++b)=u8s a++u8s b:=by simp [u8s]
theorem x7 (a:List UInt8):(u8s a).length=a.length:=by simp [u8s]
theorem byte_conv (v k:Nat):IntKind.u8.wrap ((v >>> k:Nat):Int)=((UInt8.ofNat (v >>> k)).toNat:Int):=by
  simp only [IntKind.wrap,IntKind.bits,IntKind.signed,Bool.false_and,Bool.false_eq_true,if_false]
  simp
theorem ones_u8s (l:List UInt8):∀z∈u8s l,Value.one z=true:=by
  intro z hz;obtain ⟨b,_,rfl⟩:=List.mem_map.1 hz;rfl
theorem kC {l:List UInt8} {rest:List Value} {i:Nat} (h:i<l.length):(u8s l++rest)[0+i]?=some (U8 (l.getD i 0).toNat):=by
  simp [u8s,List.getElem?_append,h]
abbrev rdr (p:Nat) (s:ByteArray) (at_:Nat):HProp:=pt p (cl [.string s,.int .i64 at_,.int .i64 0] 271)
theorem yB:∀(n x i:Nat),i<n→((beN n x).getD i 0).toNat=(x >>> (8*(n-(i+1))))%256
  | n+1,x,0,_=>by simp [beN]
  | n+1,x,i+1,h=>by
    have:=yB n x i qd;rw [show n+1-(i+1+1)=n-(i+1) by omega,←this];rfl
theorem be_step {x n i:Nat} (hx:x<2^64) (hi:i<n):((x >>> (8*(n-i))) <<< 8%2^IntKind.u64.bits ||| (x >>> (8*(n-(i+1))))%256)=x >>> (8*(n-(i+1))):=by
  have e:8*(n-i)=8*(n-(i+1))+8:=by omega
  rw [e,Nat.shiftRight_add]
  generalize hy:x >>> (8*(n-(i+1)))=y
  have hy2:y<2^64:=by rw [←hy];exact zJ hx
  have h1:(y >>> 8) <<< 8=y/256*256:=by rw [Nat.shiftLeft_eq,Nat.shiftRight_eq_div_pow]
  have h2:(y >>> 8) <<< 8%2^IntKind.u64.bits=(y >>> 8) <<< 8:=by
    rw [h1];exact Nat.mod_eq_of_lt (by show _<2^64;omega)
  rw [h2,←Nat.shiftLeft_add_eq_or_of_lt (by omega:y%256<2^8),h1];omega
theorem shr_all {x n:Nat} (h:x<2^(8*n)):x >>> (8*n)=0:=by
  rw [Nat.shiftRight_eq_div_pow];exact Nat.div_eq_of_lt h
theorem beN_mod:∀(n k v:Nat),n≤k→beN n (v%2^(8*k))=beN n v
  | 0,_,_,_=>rfl
  | n+1,k,v,h=>by
    rw [beN,beN,beN_mod n k v qd]
    congr 1
    apply UInt8.toNat_inj.1;simp only [UInt8.toNat_ofNat'];apply Nat.eq_of_testBit_eq;intro i
    by_cases hi:i<8
    · simp only [Nat.testBit_mod_two_pow,hi,decide_true,Bool.true_and,Nat.testBit_shiftRight];have:8*n+i<8*k:=by omega
      simp [this]
    · rw [Nat.testBit_mod_two_pow,Nat.testBit_mod_two_pow];simp [hi]
theorem sp100 :Spec Tryz.prog 100 #[]
    (fun T=>T) (fun r T L=>∃p,r=.pointer (some ⟨p,0,none⟩)∧L=wr p []::T):=by
  refine spec_of (n:=3) (args:=[]) Tryz.func100 rfl rfl rfl rfl fun T=>?_;refine qw (qu (qo (qx (qv (qw (qu (qb (wy .nil) ?_)))))));refine qC rfl (wx rfl fun b2=>?_);refine qi ?_;refine qx (qv (qL ?_));refine qM rfl rfl (qD qg) _ ⟨_,rfl,rfl⟩ (fun w h=>sat_wr (wC.sat h |> Ent.swap.sat) rfl rfl)
theorem sp176 (p x n:Nat) (bs:List UInt8) (hx:x<2^64) (hn:n≤8) (hb:bs.length≤100000000):Spec Tryz.prog 176 #[.pointer (some ⟨p,0,none⟩),.int .u64 x,.int .i64 n]
    (fun T=>wr p bs::T) (fun r T L=>r=.tuple #[]∧L=wr p (bs++beN n x)::T):=by
  refine spec_of (n:=28) (args:=[.pointer (some ⟨p,0,none⟩),.int .u64 x,.int .i64 n]) Tryz.func176 rfl rfl rfl rfl fun T=>?_;refine wx_wr fun a cap=>?_;refine qw (qw (qu (qe ?_)));refine qb (wd rfl rfl) ?_;refine qx (qv (qB rfl ?_));refine qF (qv (qw (qu (qe ?_))));refine qb (wT rfl rfl qd) ?_;refine qi ?_;refine qx (qv (qJ (q7 (fun m v L=>∃(k q:Nat) (pre:List UInt8) (a:Option Addr) (cap:Nat),k=m∧(∃v0,v=ups v0 [(0,.pointer (some ⟨p,0,none⟩)),(1,.int .u64 x),(2,.int .i64 ((k:Int)-1))])∧(pre++beN k x=bs++beN n x)∧(q=pre.length)∧(k≤n)∧(pre.length+k=bs.length+n)∧L=pt p (cl [.slice a q cap] 280)::own (.slice a q cap) 5 1 (u8s pre)::T) _ _ ⟨n,_,bs,_,_,rfl,⟨_,At.eq (.cons rfl (.cons rfl (.cons rfl .nil)))⟩,rfl,rfl,Nat.le_refl _,rfl,rfl⟩ qh ?_)));rintro m _ _ ⟨k,q,pre,a,cap,rfl,⟨v0,rfl⟩,hpre,hq,hk,hlen,rfl⟩;refine qw (qw (qu (qe ?_)));refine wG rfl (w9 rfl rfl) (fun h11=>?_) (fun h11=>?_)
  · obtain ⟨k,rfl⟩:∃m,k=m+1:=⟨k-1,by omega⟩
    have e:((k+1:Nat):Int)-1=k:=by omega
    rw [e];have hul:=x7 pre;refine qx (qv (qN rfl ?_));refine qF (qv (qw (qJ (wg [14] [pt p (cl [.slice a q cap] 280)] mixed qm 15 rfl ?_))));refine qk 0 rfl (qK qg) ?_;refine qk 1 rfl (qK qg) ?_;refine qk 2 rfl (qy rfl) ?_;refine qk 3 rfl (qE rfl) ?_;refine qk 4 rfl (qA rfl) ?_;refine qk 5 rfl (qK qg) ?_;refine qk 6 rfl (qK qg) ?_;refine qk 7 rfl (yV rfl rfl qd) ?_;refine qk 8 rfl (yD (j:=8*k) rfl rfl rfl qd (by show 8*k≤64;omega)) ?_;refine qk 9 rfl (qt_conv rfl) ?_;refine qO [10] qj rfl ⟨?_,trivial⟩;refine we rfl qz rfl (qS rfl (by decide) (.one qg rfl .nil) fun b24=>?_);refine ⟨.inr qm,?_⟩;refine qO [11] qj rfl ⟨?_,trivial⟩;refine we rfl qz rfl (wl qg qg qr rfl (by rfl) (by decide) xG (ones1 rfl) (fun _ _ _ h h'=>by cases h;simp at h';omega) ?_);rintro _ _ _ a25 c25 ⟨⟩;refine ⟨.inr qm,?_⟩;refine qk 12 rfl (qy rfl) ?_;refine qk 13 rfl (qE rfl) ?_;refine qO [14] qj rfl ⟨?_,trivial⟩;refine wn rfl qz (qV rfl qg rfl ?_);refine ⟨.inl qj,?_⟩;refine qY qj ?_;refine qX (qv (qu (qe ?_)));refine qb (wT rfl rfl qd) ?_;refine qi ?_;refine qx ?_;refine qT _ _ ⟨k,q+1,pre++[UInt8.ofNat (x >>> (8*k))],_,_,rfl,⟨_,At.eq (.cons rfl (.cons rfl (.cons rfl .nil)))⟩,by simpa [beN] using hpre,by simp [hq],by omega,by simp;omega,rfl⟩ qd (by rw [kj];rw [byte_conv];repeat (first | exact .refl | exact .nil | apply Pm.cons | exact .here | apply Sel.there | apply Pm.drop))
  · obtain rfl:k=0:=by omega
    simp only [beN,List.append_nil] at hpre;subst hpre;refine qx (qv (qB rfl ?_));refine wk ?_;refine qQ (qQ (ww ?_));refine wM rfl rfl _ ⟨rfl,rfl⟩ (fun w h=>sat_wr (Pm.sat qh w h) rfl hq)
theorem sp132 (p x:Nat) (bs:List UInt8) (hx:x<2^8) (hb:bs.length≤100000000):Spec Tryz.prog 132 #[.pointer (some ⟨p,0,none⟩),.int .u8 x]
    (fun T=>wr p bs::T) (fun r T L=>r=.tuple #[]∧L=wr p (bs++beN 1 x)::T):=by
  refine spec_of (n:=8) (args:=[.pointer (some ⟨p,0,none⟩),.int .u8 x]) Tryz.func132 rfl rfl rfl rfl fun T=>?_;refine qu (qe ?_);refine qe ?_;refine qb (wh rfl rfl (zw qd)) ?_;refine qC rfl (qH qh (sp176 _ _ 1 _ qd qd qd) rfl ?_);rintro _ _ ⟨rfl,rfl⟩;refine qx ?_;refine wM rfl rfl _ ⟨rfl,rfl⟩ qm
theorem sp130 (p x:Nat) (bs:List UInt8) (hx:x<2^16) (hb:bs.length≤100000000):Spec Tryz.prog 130 #[.pointer (some ⟨p,0,none⟩),.int .u16 x]
    (fun T=>wr p bs::T) (fun r T L=>r=.tuple #[]∧L=wr p (bs++beN 2 x)::T):=by
  refine spec_of (n:=8) (args:=[.pointer (some ⟨p,0,none⟩),.int .u16 x]) Tryz.func130 rfl rfl rfl rfl fun T=>?_;refine qu (qe ?_);refine qe ?_;refine qb (wh rfl rfl (zw qd)) ?_;refine qC rfl (qH qh (sp176 _ _ 2 _ qd qd qd) rfl ?_);rintro _ _ ⟨rfl,rfl⟩;refine qx ?_;refine wM rfl rfl _ ⟨rfl,rfl⟩ qm
theorem sp133 (p x:Nat) (bs:List UInt8) (hx:x<2^32) (hb:bs.length≤100000000):Spec Tryz.prog 133 #[.pointer (some ⟨p,0,none⟩),.int .u32 x]
    (fun T=>wr p bs::T) (fun r T L=>r=.tuple #[]∧L=wr p (bs++beN 4 x)::T):=by
  refine spec_of (n:=8) (args:=[.pointer (some ⟨p,0,none⟩),.int .u32 x]) Tryz.func133 rfl rfl rfl rfl fun T=>?_;refine qu (qe ?_);refine qe ?_;refine qb (wh rfl rfl (zw qd)) ?_;refine qC rfl (qH qh (sp176 _ _ 4 _ qd qd qd) rfl ?_);rintro _ _ ⟨rfl,rfl⟩;refine qx ?_;refine wM rfl rfl _ ⟨rfl,rfl⟩ qm
theorem sp101 (p x:Nat) (bs:List UInt8) (hx:x<2^64) (hb:bs.length≤100000000):Spec Tryz.prog 101 #[.pointer (some ⟨p,0,none⟩),.int .u64 x]
    (fun T=>wr p bs::T) (fun r T L=>r=.tuple #[]∧L=wr p (bs++beN 8 x)::T):=by
  refine spec_of (n:=7) (args:=[.pointer (some ⟨p,0,none⟩),.int .u64 x]) Tryz.func101 rfl rfl rfl rfl fun T=>?_;refine qu (qe ?_);refine qe ?_;refine qC rfl (qH qh (sp176 _ _ 8 _ qd qd qd) rfl ?_);rintro _ _ ⟨rfl,rfl⟩;refine qx ?_;refine wM rfl rfl _ ⟨rfl,rfl⟩ qm
theorem sp102 (p:Nat) (bs:List UInt8) (s:ByteArray) (hb:bs.length≤100000000) (hs:s.size≤100000000):Spec Tryz.prog 102 #[.pointer (some ⟨p,0,none⟩),.string s]
    (fun T=>wr p bs::T) (fun r T L=>r=.tuple #[]∧L=wr p (bs++s.data.toList)::T):=by
  refine spec_of (n:=15) (args:=[.pointer (some ⟨p,0,none⟩),.string s]) Tryz.func102 rfl rfl rfl rfl fun T=>?_;refine wx_wr fun a cap=>?_;refine qw (qu (qe ?_));refine qb (xf rfl rfl) ?_;refine qx (qv (qN rfl ?_));refine qu (qe ?_);refine qe ?_;refine qb (qy rfl) ?_;refine qb (qE rfl) ?_;refine qb (qA rfl) ?_;refine qe ?_;refine qC rfl (wl qg qg qr rfl (by rfl) (by decide) kp (ones_u8s _) (fun _ _ _ h h'=>by cases h;rw [x7] at h';omega) ?_);rintro _ _ _ a12 c12 ⟨⟩;refine qb (qy rfl) ?_;refine qb (qE rfl) ?_;refine q6 (qV rfl qg rfl ?_);refine qx ?_;refine wM rfl rfl _ ⟨rfl,rfl⟩ (fun w h=>sat_wr (Pm.sat qh w h) (kj _ _).symm (by simp))
theorem sp144 (p:Nat) (bs:List UInt8):Spec Tryz.prog 144 #[.pointer (some ⟨p,0,none⟩)]
    (fun T=>wr p bs::T) (fun r T L=>r=.int .i64 bs.length∧L=wr p bs::T):=by
  refine spec_of (n:=10) (args:=[.pointer (some ⟨p,0,none⟩)]) Tryz.func144 rfl rfl rfl rfl fun T=>?_;refine wx_wr fun a cap=>?_;refine qw (qu (qo (qx (qv (qw (qw (qu ?_)))))));refine qe ?_;refine qb (wd rfl rfl) ?_;refine qx (qv (qB rfl ?_));refine qF (qv (qw (qu (qe ?_))));refine qb (qy rfl) ?_;refine qb (qE rfl) ?_;refine qb (qA rfl) ?_;refine qb (qI rfl) ?_;refine qi ?_;refine qx (qv (qL ?_));refine qM rfl rfl (qD qg) _ ⟨rfl,rfl⟩ (fun w h=>sat_wr (Pm.sat qh w h) rfl rfl)
theorem sp103 (p:Nat) (bs:List UInt8):Spec Tryz.prog 103 #[.pointer (some ⟨p,0,none⟩)]
    (fun T=>wr p bs::T) (fun r T L=>r=.string ⟨bs.toArray⟩∧L=wr p bs::T):=by
  refine spec_of (n:=10) (args:=[.pointer (some ⟨p,0,none⟩)]) Tryz.func103 rfl rfl rfl rfl fun T=>?_;refine wx_wr fun a cap=>?_;refine qw (qu (qo (qx (qv (qw (qw (qu ?_)))))));refine qe ?_;refine qb (wd rfl rfl) ?_;refine qx (qv (qB rfl ?_));refine qF (qv (qw (qu (qe ?_))));refine qb (qy rfl) ?_;refine qb (qE rfl) ?_;refine qb (qA rfl) ?_;refine qb (qt_b2s rfl (rdb_own qr (by simp [x7]))) ?_;refine qi ?_;refine qx (qv (qL ?_));refine qM rfl rfl (qD qg) _ ⟨rfl,rfl⟩ (fun w h=>sat_wr (Pm.sat qh w h) rfl rfl)
theorem sp94 (s:ByteArray):Spec Tryz.prog 94 #[.string s]
    (fun T=>T) (fun r T L=>∃p,r=.pointer (some ⟨p,0,none⟩)∧L=rdr p s 0::T):=by
  refine spec_of (n:=6) (args:=[.string s]) Tryz.func94 rfl rfl rfl rfl fun T=>?_;refine qw (qu (qo (qx (qv (qw (qu (qe ?_)))))));refine qb (wy (.one qg rfl .nil)) ?_;refine qC rfl (wx rfl fun b5=>?_);refine qi ?_;refine qx (qv (qL ?_));refine qM rfl rfl (qD qg) _ ⟨_,rfl,rfl⟩ qm
theorem sp169 (p i:Nat) (s:ByteArray) (hi:i≤s.size) (hs:s.size≤1000000000):Spec Tryz.prog 169 #[.pointer (some ⟨p,0,none⟩)]
    (fun T=>rdr p s i::T) (fun r T L=>r=.int .i64 (s.size-i)∧L=rdr p s i::T):=by
  refine spec_of (n:=15) (args:=[.pointer (some ⟨p,0,none⟩)]) Tryz.func169 rfl rfl rfl rfl fun T=>?_;refine qw (qu (qo (qx (qv (qw (qw (qu ?_)))))));refine qe ?_;refine qb (wd rfl rfl) ?_;refine qx (qv (qB rfl ?_));refine qF (qv (qw (wg [] _ mixed (fun w h=>h) 11 rfl ?_)));refine qk 0 rfl (qK qg) ?_;refine qk 1 rfl (qy rfl) ?_;refine qk 2 rfl (qE rfl) ?_;refine qk 3 rfl (qA rfl) ?_;refine qk 4 rfl (wL rfl) ?_;refine qk 5 rfl (qK qg) ?_;refine qk 6 rfl (qy rfl) ?_;refine qk 7 rfl (qE rfl) ?_;refine qk 8 rfl (qA rfl) ?_;refine qk 9 rfl (wT rfl rfl qd) ?_;refine qk 10 rfl (xh qg) ?_;refine qY qj ?_;refine qv (qL ?_);refine qM rfl rfl (qD qg) _ ⟨rfl,rfl⟩ qm
theorem sp171 (p i:Nat) (s:ByteArray):Spec Tryz.prog 171 #[.pointer (some ⟨p,0,none⟩)]
    (fun T=>rdr p s i::T) (fun r T L=>r=.int .i64 0∧L=rdr p s i::T):=by
  refine spec_of (n:=9) (args:=[.pointer (some ⟨p,0,none⟩)]) Tryz.func171 rfl rfl rfl rfl fun T=>?_;refine qw (qu (qo (qx (qv (qw (qw (qu ?_)))))));refine qe ?_;refine qb (wd rfl rfl) ?_;refine qx (qv (qB rfl ?_));refine qF (qv (qw (qu (qe ?_))));refine qb (qy rfl) ?_;refine qb (qE rfl) ?_;refine qb (qA rfl) ?_;refine qi ?_;refine qx (qv (qL ?_));refine qM rfl rfl (qD qg) _ ⟨rfl,rfl⟩ qm
theorem sp333 (p i:Nat) (s:ByteArray):Spec Tryz.prog 333 #[.pointer (some ⟨p,0,none⟩)]
    (fun T=>rdr p s i::T) (fun r T L=>r=.int .i64 i∧L=rdr p s i::T):=by
  refine spec_of (n:=9) (args:=[.pointer (some ⟨p,0,none⟩)]) Tryz.func333 rfl rfl rfl rfl fun T=>?_;refine qw (qu (qo (qx (qv (qw (qw (qu ?_)))))));refine qe ?_;refine qb (wd rfl rfl) ?_;refine qx (qv (qB rfl ?_));refine qF (qv (qw (qu (qe ?_))));refine qb (qy rfl) ?_;refine qb (qE rfl) ?_;refine qb (qA rfl) ?_;refine qi ?_;refine qx (qv (qL ?_));refine qM rfl rfl (qD qg) _ ⟨rfl,rfl⟩ qm
theorem sp97 (p:Nat) (s:ByteArray) (hs:s.size≤1000000000):Spec Tryz.prog 97 #[.pointer (some ⟨p,0,none⟩)]
    (fun T=>rdr p s s.size::T) (fun r T L=>r=.int .i64 0∧L=rdr p s s.size::T):=by
  refine spec_of (n:=10) (args:=[.pointer (some ⟨p,0,none⟩)]) Tryz.func97 rfl rfl rfl rfl fun T=>?_;refine qw (qu (qo (qx (qv (qw (qw (qu ?_)))))));refine qe ?_;refine qC rfl (qH qh (sp169 _ _ _ qd qd) rfl ?_);rintro _ _ ⟨rfl,rfl⟩;refine wq rfl (wS rfl rfl) qd ?_;refine qx (qv (qB rfl ?_));refine qF (qv (qw (qu (qe ?_))));refine qC rfl (qH qh (sp171 _ _ _) rfl ?_);rintro _ _ ⟨rfl,rfl⟩;refine qi ?_;refine qx (qv (qL ?_));refine qM rfl rfl (qD qg) _ ⟨rfl,rfl⟩ qm
theorem sp250 (p i n:Nat) (s:ByteArray) (hi:i+n≤s.size) (hs:s.size≤1000000000):Spec Tryz.prog 250 #[.pointer (some ⟨p,0,none⟩),.int .i64 n]
    (fun T=>rdr p s i::T) (fun r T L=>r=.tuple #[.string (s.extract i (i+n)),.int .i64 0]∧L=rdr p s (i+n)::T):=by
  refine spec_of (n:=55) (args:=[.pointer (some ⟨p,0,none⟩),.int .i64 n]) Tryz.func250 rfl rfl rfl rfl fun T=>?_;refine qw (qu (qo (qo (qx (qv (qw (qJ ?_)))))));refine qw (qu (qe ?_));refine qb (wd rfl rfl) ?_;refine qe ?_;refine qq (qK qg) ?_;refine qq (qy rfl) ?_;refine qq (qE rfl) ?_;refine qq (qA rfl) ?_;refine wR (qG rfl rfl rfl rfl) rfl (wB rfl rfl) qd ?_;refine qb (qW rfl qg) ?_;refine qi ?_;refine qx (qv (qB rfl ?_));refine qw (qu (qe ?_));refine wq rfl (wj rfl rfl) qd ?_;refine qi ?_;refine qx (qv (qB rfl ?_));refine qw (qu (qe ?_));refine qe ?_;refine qC rfl (qH qh (sp169 _ _ _ qd qd) rfl ?_);rintro _ _ ⟨rfl,rfl⟩;refine wq rfl (wS rfl rfl) qd ?_;refine qi ?_;refine qx (qv (qB rfl ?_));refine qF (qX (qv (qw (wg [] _ mixed (fun w h=>h) 16 rfl ?_))));refine qk 0 rfl (qK qg) ?_;refine qk 1 rfl (qy rfl) ?_;refine qk 2 rfl (qE rfl) ?_;refine qk 3 rfl (qA rfl) ?_;refine qk 4 rfl (qK qg) ?_;refine qk 5 rfl (qy rfl) ?_;refine qk 6 rfl (qE rfl) ?_;refine qk 7 rfl (qA rfl) ?_;refine qk 8 rfl (qK qg) ?_;refine qk 9 rfl (qy rfl) ?_;refine qk 10 rfl (qE rfl) ?_;refine qk 11 rfl (qA rfl) ?_;refine qk 12 rfl (qK qg) ?_;refine qk 13 rfl (wa rfl rfl qd) ?_;refine qk 14 rfl (zl rfl rfl rfl rfl (by omega:_=((i+n:Nat):Int)) qd hi) ?_;refine qk 15 rfl (xh qg) ?_;refine qY qj ?_;refine qv (qw (qu (qe ?_)));refine qb (qy rfl) ?_;refine qb (qE rfl) ?_;refine qb (qA rfl) ?_;refine qe ?_;refine qb (wa rfl rfl qd) ?_;refine qb (qy rfl) ?_;refine qb (qE rfl) ?_;refine q6 (qV rfl qg rfl ?_);refine qx (qv (qw (qu (qe ?_))));refine qi ?_;refine qo (qx (qv (qL ?_)));refine wu rfl rfl (qD qg) (qD qg) _ ⟨rfl,rfl⟩ (fun w h=>by simpa [rdr] using h)
theorem sp168 (p i n x:Nat) (s:ByteArray) (hi:i+n≤s.size) (hs:s.size≤1000000000) (hb:(s.extract i (i+n)).data.toList=beN n x) (hx:x<2^(8*n)) (hn:n≤8):Spec Tryz.prog 168 #[.pointer (some ⟨p,0,none⟩),.int .i64 n]
    (fun T=>rdr p s i::T) (fun r T L=>r=.tuple #[.int .u64 x,.int .i64 0]∧L=rdr p s (i+n)::T):=by
  refine spec_of (n:=32) (args:=[.pointer (some ⟨p,0,none⟩),.int .i64 n]) Tryz.func168 rfl rfl rfl rfl fun T=>?_;have hsz:(s.extract i (i+n)).size=n:=by simp;omega
  have hx64:x<2^64:=Nat.lt_of_lt_of_le hx (Nat.pow_le_pow_right (by decide) qd);refine qw (qu (qo (qo (qx (qv (qw (qu ?_)))))));refine qe ?_;refine qe ?_;refine qC rfl (qH qh (sp250 _ _ _ _ qd qd) rfl ?_);rintro _ _ ⟨rfl,rfl⟩;refine qe ?_;refine qb (qP rfl) ?_;refine qb (qP rfl) ?_;refine qi ?_;refine qi ?_;refine qx (qv (qw (qu (qo (qx (qv (qw ?_)))))));refine qw (qu (qe ?_));refine qC rfl (ow_s2b rfl fun b0 cap0 rest fz=>?_);refine qb (qI rfl) ?_;refine qb wH ?_;refine qx (qv (qJ (q7 (fun m v L=>∃(k:Nat),n-k=m∧(∃v0,v=ups v0 [(7,.int .i64 0),(8,.int .u64 (x >>> (8*(n-k)):Nat)),(18,.slice (some ⟨b0,0,none⟩) (s.extract i (i+n)).size cap0),(19,.int .i64 (s.extract i (i+n)).size),(20,.int .i64 k)])∧(k≤n)∧L=pt b0 (.cells (u8s (s.extract i (i+n)).data.toList++rest).toArray 5 fz)::rdr p s (i+n)::T) _ _ ⟨0,rfl,⟨_,At.eq (.cons rfl (.cons (by rw [Nat.sub_zero,shr_all hx];rfl) (.cons rfl (.cons rfl (.cons rfl .nil)))))⟩,by omega,rfl⟩ qh ?_)));rintro m _ _ ⟨k,rfl,⟨v0,rfl⟩,hk,rfl⟩;refine qw (qu ?_);refine wG rfl (wj rfl rfl) (fun h21=>?_) (fun h21=>?_)
  · refine qx (qv (qw (qN rfl ?_)));refine qF (qv (qw (qJ (qw (qu (qb (wz rfl rfl rfl qd) ?_))))));refine qb (q8 rfl (by rw [hb];exact kC (by rw [qR];omega))) ?_;refine qi ?_;refine qx (qv (qu (qe ?_)));refine qb (qt_shlN (j:=8) rfl rfl rfl rfl rfl (by decide)) ?_;refine qe ?_;refine qb (wh rfl rfl (zw (by rw [yB _ _ _ qd];omega))) ?_;refine qb (qt_orN rfl rfl rfl rfl rfl (Nat.mod_lt _ (by decide)) (by rw [yB _ _ _ qd];show _<2^64;omega)) ?_;refine qi ?_;refine qx (qX (qv (qu (qb (wa rfl rfl qd) ?_))));refine qe ?_;refine qx ?_;refine qT _ _ ⟨k+1,rfl,⟨_,At.eq (.cons rfl (.cons (by show Value.int .u64 _=_;rw [yB _ _ _ qd,be_step hx64 qd]) (.cons rfl (.cons rfl (.cons rfl .nil)))))⟩,by omega,rfl⟩ qd qh
  · obtain rfl:k=n:=by omega
    refine qx (qv (qw (qB rfl ?_)));refine wk ?_;refine qQ (qQ (ww ?_));refine qv (qw (qu (qe ?_)));refine qe ?_;refine qi ?_;refine qi ?_;refine qx (qv (qL ?_));refine wu rfl rfl (qD qg) (qD qg) _ ⟨by simp,rfl⟩ qm
theorem sp96 (p i x:Nat) (s:ByteArray) (hi:i+1≤s.size) (hs:s.size≤1000000000) (hb:(s.extract i (i+1)).data.toList=beN 1 x) (hx:x<2^8):Spec Tryz.prog 96 #[.pointer (some ⟨p,0,none⟩)]
    (fun T=>rdr p s i::T) (fun r T L=>r=.tuple #[.int .u8 x,.int .i64 0]∧L=rdr p s (i+1)::T):=by
  refine spec_of (n:=14) (args:=[.pointer (some ⟨p,0,none⟩)]) Tryz.func96 rfl rfl rfl rfl fun T=>?_;refine qw (qu (qo (qo (qx (qv (qw (qu ?_)))))));refine qe ?_;refine qC rfl (qH qh (sp168 _ _ 1 _ _ hi hs hb hx (by decide)) rfl ?_);rintro _ _ ⟨rfl,rfl⟩;refine qe ?_;refine qb (qP rfl) ?_;refine qb (qP rfl) ?_;refine qi ?_;refine qi ?_;refine qx (qv (qw (qu (qe ?_))));refine qb (wh rfl rfl (yG qd)) ?_;refine qe ?_;refine qi ?_;refine qi ?_;refine qx (qv (qL ?_));refine wu rfl rfl (qD qg) (qD qg) _ ⟨rfl,rfl⟩ qm
theorem sp257 (p i x:Nat) (s:ByteArray) (hi:i+2≤s.size) (hs:s.size≤1000000000) (hb:(s.extract i (i+2)).data.toList=beN 2 x) (hx:x<2^16):Spec Tryz.prog 257 #[.pointer (some ⟨p,0,none⟩)]
    (fun T=>rdr p s i::T) (fun r T L=>r=.tuple #[.int .u16 x,.int .i64 0]∧L=rdr p s (i+2)::T):=by
  refine spec_of (n:=14) (args:=[.pointer (some ⟨p,0,none⟩)]) Tryz.func257 rfl rfl rfl rfl fun T=>?_;refine qw (qu (qo (qo (qx (qv (qw (qu ?_)))))));refine qe ?_;refine qC rfl (qH qh (sp168 _ _ 2 _ _ hi hs hb hx (by decide)) rfl ?_);rintro _ _ ⟨rfl,rfl⟩;refine qe ?_;refine qb (qP rfl) ?_;refine qb (qP rfl) ?_;refine qi ?_;refine qi ?_;refine qx (qv (qw (qu (qe ?_))));refine qb (wh rfl rfl (j7 qd)) ?_;refine qe ?_;refine qi ?_;refine qi ?_;refine qx (qv (qL ?_));refine wu rfl rfl (qD qg) (qD qg) _ ⟨rfl,rfl⟩ qm
theorem sp95 (p i x:Nat) (s:ByteArray) (hi:i+4≤s.size) (hs:s.size≤1000000000) (hb:(s.extract i (i+4)).data.toList=beN 4 x) (hx:x<2^32):Spec Tryz.prog 95 #[.pointer (some ⟨p,0,none⟩)]
    (fun T=>rdr p s i::T) (fun r T L=>r=.tuple #[.int .u32 x,.int .i64 0]∧L=rdr p s (i+4)::T):=by
  refine spec_of (n:=14) (args:=[.pointer (some ⟨p,0,none⟩)]) Tryz.func95 rfl rfl rfl rfl fun T=>?_;refine qw (qu (qo (qo (qx (qv (qw (qu ?_)))))));refine qe ?_;refine qC rfl (qH qh (sp168 _ _ 4 _ _ hi hs hb hx (by decide)) rfl ?_);rintro _ _ ⟨rfl,rfl⟩;refine qe ?_;refine qb (qP rfl) ?_;refine qb (qP rfl) ?_;refine qi ?_;refine qi ?_;refine qx (qv (qw (qu (qe ?_))));refine qb (wh rfl rfl (xw qd)) ?_;refine qe ?_;refine qi ?_;refine qi ?_;refine qx (qv (qL ?_));refine wu rfl rfl (qD qg) (qD qg) _ ⟨rfl,rfl⟩ qm
end
end Go.Proofs.YtdibpoheeffioaaGreatDoor
