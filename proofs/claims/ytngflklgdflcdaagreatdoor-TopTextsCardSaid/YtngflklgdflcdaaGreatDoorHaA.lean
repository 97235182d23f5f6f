/- Two functions walked at the one input that the example gives them. -/
import Derived.Test.YtngflklgdflcdaaGreatDoorAbD
import Derived.Test.YtngflklgdflcdaaGreatDoorProg
import Derived.Deep.RegionHeld3
import Derived.Lib.Hide
import Derived.Handy
set_option linter.all false
noncomputable section
namespace Go.Ab
variable {vs:Ξ}{s:ByteArray}{n:Int}{k:IntKind}{X:ξ}{η η':Nat->Value}{w w':World}{x:aH}{r:ai}{C:da}
section
section
open Go.Proofs Go.RowKit
abbrev V7:Nat->Prop:=λ_=>False
theorem G3{a b c:World}(h:aM V7 a b)(k:aM V7 b c):aM V7 a c:=h.trans (k.mono λ_ _ h=>h.elim)
theorem DG(w:World)(s:ByteArray)(pos:Nat):aM V7 w (w.iter s pos):=by
 have h:=World.iter_extends w s pos;exact⟨h.os,h.tape,h.output,h.size,λb a _=>h.block b a,di _⟩
theorem WR(w:World):aM V7 w w.drew:=⟨rfl,rfl,rfl,di _,λ_ _ _=>rfl,iA _⟩
theorem Q8O(w:World)(k:Nat)(os:Array Go.Obj):aM V7 w (Go.Sort.grow (w.drewN k) os):=
 ⟨rfl,rfl,rfl,by simp[Go.Sort.grow,World.drewN],λb a _=>by simp[Go.Sort.grow,World.drewN,io,a],by simp[Go.Sort.grow,World.drewN]⟩
theorem aM.gl(h:aM V7 w w')(g:GL w X):GL w' X:=g.mono λb c a=>⟨h.block b c λh=>h,a⟩
theorem qH:XS (Qh [] w X η) (ls []) η'=X:=by
 funext b
 apply propext;constructor
 .rintro (⟨h,_⟩|⟨i,o,h,_⟩)
  .exact h
  .cases h
 .intro h;exact .inl ⟨h,λ⟨i,o,hi,_⟩=>by cases hi⟩
theorem Jb{v:Value}(st:aM V7 w w')(hr:aQ w' X η (Qh [] w X η) v r):eW (Qh [] w X η) r [] v η w' :=
 ⟨st.mono λb _ h=>h.elim,(by rw[qH];exact hr),λi o h=>(by cases h),λi j b h=>absurd rfl h,λi o b h=>(by cases h),λi v h=>(by simp[Qh]at h)⟩
section
variable {v:Value}
theorem gH(h:aQ w X η C v (.v (.c (.d x)))):aA w X v x:=by
 cases h with|v _ _ h=>cases h with|c _ _ h=>cases h with|d _ _ h=>exact h
theorem qo(h:aQ w X η C v (.v (.c (.d (.int k n))))):v=.int k n:=by cases gH h;rfl
theorem KW(h:aQ w X η C v (.v (.c (.d (.str s))))):v=.string s:=by cases gH h;rfl
theorem HT(h:aA w X v x):aQ w X η C v (.v (.c (.d x))):=.v _ _ (.c _ _ (.d _ _ h))
theorem vH:aQ w X η C (.int k n) (.v (.c (.d (.int k n)))):=HT (.int _ _)
theorem PS:aQ w X η C (.string s) (.v (.c (.d (.str s)))):=HT (.str _)
end
theorem KU(h:vs.size=1):vs=#[vs.getD 0 undef]:=by
 obtain⟨l⟩:=vs
 match l,h with
 |[a],_=>rfl
theorem qm(h:vs.size=2):vs=#[vs.getD 0 undef,vs.getD 1 undef]:=by
 obtain⟨l⟩:=vs
 match l,h with
 |[a,b],_=>rfl
theorem Ad(h:vs.size=3):vs=#[vs.getD 0 undef,vs.getD 1 undef,vs.getD 2 undef]:=by
 obtain⟨l⟩:=vs
 match l,h with
 |[a,b,c],_=>rfl
