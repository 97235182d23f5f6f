/- The code follows the plain programs: whenever the plain program has a result. -/
import Derived.Test.YtdfbifjpedjljaaAbE
import Derived.Test.YtdfbifjpedjljaaPuC
set_option linter.unusedVariables false
set_option linter.unusedSimpArgs false
section
namespace Go.Ab
open Go.Proofs
set_option linter.unusedVariables false
set_option maxRecDepth 100000
theorem keep_New_spec {F:Nat} {x1:(List Int)} {r:Tape} (h:keep_New F x1=some r) :
  FSpec Try.prog 4 [AL x1] [] (pt 100) [(100,bx (gC r))]:=by
 refine FI Try.func4 prog_mixed prog_lay fun C Fm=>?_
 unfold keep_New at h
 refine AW.SG0 Fm 1 [(0,AL x1)] [] ?_
 obtain ⟨hg2,h⟩:=gS h
 refine AW.SP Fm [.s,.s,.s,.s,.w (AL (α:=Int) (x1.take (gmin (lI x1) (400:Int)).toNat)),.s,.s,.s] [(2,pt 9)] [(9,bx [.d (DL (α:=Int) (x1.take (gmin (lI x1) (400:Int)).toNat)),ci 0])] (cA (⟨hg2,(Is.refl x1).len⟩ : ((sl (List.length x1) (LF x1) none (some (gmin (lI x1) (400:Int)))).2∧∀ j,j<List.length x1→(LF x1 j).length=1)) (cT (ALe.lst (sl_is x1 none (some (gmin (lI x1) (400:Int))) hg2):ALe (.v (.c (.d (.lst (sl (List.length x1) (LF x1) none (some (gmin (lI x1) (400:Int)))).1.1 (sl (List.length x1) (LF x1) none (some (gmin (lI x1) (400:Int)))).1.2)))) (AL (α:=Int) (x1.take (gmin (lI x1) (400:Int)).toNat))))) ?_
 refine AW.ret ?_
 obtain rfl:=Option.some.inj h
 exact Kn.re Fm [(100,9)] [(2,pt 100)] [(100,bx [.d (DL (α:=Int) (x1.take (gmin (lI x1) (400:Int)).toNat)),ci 0])] (by kernel_rfl) (by kernel_rfl) (by kernel_rfl) (by kernel_rfl) (Kn.dn Fm (by kernel_rfl))
theorem keep_Mod_spec {F:Nat} {x3:Int} {x4:Int} {r:Int} (h:keep_Mod F x3 x4=some r) :
  FSpec Try.prog 23 [vi x3,vi x4] [] (vi r) []:=by
 refine FI Try.func23 prog_mixed prog_lay fun C Fm=>?_
 unfold keep_Mod at h
 refine AW.SG0 Fm 1 [(0,vi x3),(1,vi x4)] [] ?_
 refine AW.seq (AW.SG0 Fm 2 [(0,vi x3),(1,vi x4),(6,vb (decide (x4<(1:Int))))] [] ?_)
 refine AW.cN h (fun hb5 h=>?_) (fun hb5 h=>?_)
 ·refine AW.SG0 Fm 1 [(4,vi 0)] [] ?_
  refine AW.ret ?_
  obtain rfl:=Option.some.inj h
  exact Kn.D Fm
 ·refine AW.skip ?_
  obtain ⟨hg6,h⟩:=gS h
  refine AW.SP Fm [.s,.s,.s,.s] [(0,vi (x3.tmod x4)),(1,vi x4)] [] (cT hg6) ?_
  refine AW.join (r:=r) (fun z:Int=>keep_Mod_k0 F z) (fun z=>[(0,vi z)]) (fun z=>[]) (fun v9 h=>?_) (fun b a=>?_)
  ·refine AW.SG0 Fm 2 [(4,vi v9)] [] ?_
   refine AW.ret ?_
   obtain rfl:=Option.some.inj h
   exact Kn.D Fm
  ·refine AW.SG0 Fm 2 [(0,vi (x3.tmod x4)),(1,vi x4),(11,vb (decide ((x3.tmod x4)<(0:Int))))] [] ?_
   refine AW.cN h (fun hb7 h=>?_) (fun hb7 h=>?_)
   ·obtain ⟨hg8,h⟩:=gS h
    refine AW.pN Fm [.s,.s,.s,.s] [(0,vi ((x3.tmod x4)+x4))] [] (cT (cT hg8)) ?_
    exact Kn.R Fm (a ((x3.tmod x4)+x4) h)
   ·exact AW.skip (Kn.R Fm (a (x3.tmod x4) h))
theorem keep_Tape_Next_spec {F:Nat} {a:Tape} {b:Int} {r:Tape×Int} (h:keep_Tape_Next F a b=some r) :
  FSpec Try.prog 9 [pt 0,vi b] [(0,bx (gC a))] (vi r.2) [(0,bx (gC r.1))]:=by
 refine FI Try.func9 prog_mixed prog_lay fun C Fm=>?_
 unfold keep_Tape_Next at h
 refine AW.SG0 Fm 1 [(0,pt 0),(1,vi b)] [(0,bx (gC a))] ?_
 refine AW.seq (AW.SG0 Fm 10 [(0,pt 0),(1,vi b),(14,vb (decide ((lI a.l_)≤a.at_)))] [(0,bx (gC a))] ?_)
 refine AW.cN h (fun e h=>?_) (fun e h=>?_)
 ·refine AW.SG0 Fm 1 [(4,vi 0)] [(0,bx (gC a))] ?_
  refine AW.ret ?_
  obtain rfl:=Option.some.inj h
  exact Kn.D Fm
 ·refine AW.skip ?_
  obtain ⟨i,h⟩:=gS h
  refine AW.SP Fm [.s,.s,.s,.s,.s,.s,.s,.s] [(0,pt 0),(1,vi b)] [(0,bx [.d (DL a.l_),ci (a.at_+1)])] (cT (cT i)) ?_
  refine AW.seq ?_
  obtain ⟨j,l,h⟩:=gS2 h
  obtain ⟨c,m,h⟩:=bS h
  refine AW.G Fm [.s,.s,.s,.s,.s,.s,.s,.s,.s,.s,.s,.s,.k (cE [] [] (vi c) [] []),.s] (fun K=>(_∧True)∧_∧K 12∧True) [(4,vi c)] [(0,bx [.d (DL a.l_),ci (a.at_+1)])] ⟨⟨j,⟨⟩⟩,l,KAt.CC (keep_Mod_spec m) Try.call23 [],⟨⟩⟩ ?_
  refine AW.ret ?_
  obtain rfl:=Option.some.inj h
  exact Kn.D Fm
theorem keep_Tape_Range_spec {F:Nat} {a:Tape} {b:Int} {d:Int} {r:Tape×Int} (h:keep_Tape_Range F a b d=some r) :
  FSpec Try.prog 12 [pt 0,vi b,vi d] [(0,bx (gC a))] (vi r.2) [(0,bx (gC r.1))]:=by
 refine FI Try.func12 prog_mixed prog_lay fun C Fm=>?_
 unfold keep_Tape_Range at h
 refine AW.SG0 Fm 1 [(0,pt 0),(1,vi b),(2,vi d)] [(0,bx (gC a))] ?_
 refine AW.seq ?_
 obtain ⟨e,i,h⟩:=gS2 h
 obtain ⟨c,l,h⟩:=bS h
 obtain ⟨j,h⟩:=gS h
 refine AW.G Fm [.s,.s,.s,.s,.s,.s,.k (cE [(0,0)] [] (vi c.2) [(0,bx (gC a))] [(0,bx (gC c.1))]),.s,.s] (fun K=>(_∧True)∧(_∧True)∧K 6∧(_∧True)∧True) [(6,vi (b+c.2))] [(0,bx (gC c.1))] ⟨⟨e,⟨⟩⟩,⟨i,⟨⟩⟩,KAt.CC (keep_Tape_Next_spec l) Try.call9 [(0,0)],⟨j,⟨⟩⟩,⟨⟩⟩ ?_
 refine AW.ret ?_
 obtain rfl:=Option.some.inj h
 exact Kn.D Fm
theorem keep_Tape_Rect_spec {F:Nat} {c:Tape} {d:Int} {r:Tape×Rect} (h:keep_Tape_Rect F c d=some r) :
  FSpec Try.prog 40 [pt 0,vi d] [(0,bx (gC c))] (gE r.2) [(0,bx (gC r.1))]:=by
 refine FI Try.func40 prog_mixed prog_lay fun C Fm=>?_
 unfold keep_Tape_Rect at h
 refine AW.SG0 Fm 1 [(0,pt 0),(1,vi d),(4,pt 4)] [(0,bx (gC c)),(4,bx [ci 0,ci 0,ci 0,ci 0])] ?_
 refine AW.seq ?_
 obtain ⟨b,q,h⟩:=bS h
 obtain ⟨a,t,h⟩:=bS h
 refine AW.G Fm [.s,.s,.k (cE [(0,0)] [] (vi b.2) [(0,bx (gC c))] [(0,bx (gC b.1))]),.s,.s,.k (cE [(0,0)] [] (vi a.2) [(0,bx (gC b.1))] [(0,bx (gC a.1))]),.s,.s] (fun K=>K 2∧K 5∧True) [(0,pt 0),(1,vi d),(4,pt 4),(5,vi b.2),(6,vi a.2)] [(0,bx (gC a.1)),(4,bx [ci 0,ci 0,ci 0,ci 0])] ⟨KAt.CC (keep_Tape_Next_spec q) Try.call9 [(0,0)],KAt.CC (keep_Tape_Next_spec t) Try.call9 [(0,0)],⟨⟩⟩ ?_
 refine AW.seq ?_
 obtain ⟨j,l,h⟩:=gS2 h
 obtain ⟨e,u,h⟩:=bS h
 obtain ⟨m,n,o,h⟩:=gS3 h
 obtain ⟨i,w,h⟩:=bS h
 obtain ⟨p,h⟩:=gS h
 refine AW.G Fm [.s,.s,.s,.s,.s,.s,.s,.s,.k (cE [(0,0)] [] (vi e.2) [(0,bx (gC a.1))] [(0,bx (gC e.1))]),.s,.s,.s,.s,.s,.s,.s,.k (cE [(0,0)] [] (vi i.2) [(0,bx (gC e.1))] [(0,bx (gC i.1))]),.s,.s,.s] (fun K=>(_∧True)∧(_∧True)∧K 8∧(_∧True)∧(_∧True)∧(_∧True)∧K 16∧(_∧True)∧True) [(4,pt 4)] [(0,bx (gC i.1)),(4,bx [ci b.2,ci a.2,ci ((b.2+1)+e.2),ci ((a.2+1)+i.2)])] ⟨⟨j,⟨⟩⟩,⟨l,⟨⟩⟩,KAt.CC (keep_Tape_Next_spec u) Try.call9 [(0,0)],⟨m,⟨⟩⟩,⟨n,⟨⟩⟩,⟨o,⟨⟩⟩,KAt.CC (keep_Tape_Next_spec w) Try.call9 [(0,0)],⟨p,⟨⟩⟩,⟨⟩⟩ ?_
 refine AW.ret ?_
 obtain rfl:=Option.some.inj h
 exact Kn.D Fm
theorem ref04_proper_spec {F:Nat} {e:Rect} {r:Bool} (h:ref04_proper F e=some r) :
  FSpec Try.prog 49 [gE e] [] (vb r) []:=by
 refine FI Try.func49 prog_mixed prog_lay fun C Fm=>?_
 unfold ref04_proper at h
 refine AW.SG0 Fm 2 [(1,pt 1)] [(1,bx (gC e))] ?_
 refine AW.join (r:=r) (fun z:Bool=>ref04_proper_k0 F z) (fun z=>[(2,vb z)]) (fun z=>[]) (fun l h=>?_) (fun k b=>?_)
 ·refine AW.ret ?_
  obtain rfl:=Option.some.inj h
  exact Kn.D Fm
 ·rcases br_or h with ⟨a,h⟩|⟨a,h⟩
  ·rcases br_or h with ⟨c,h⟩|⟨c,h⟩
   ·rcases br_or h with ⟨d,h⟩|⟨d,h⟩
    ·rcases br_or h with ⟨i,h⟩|⟨i,h⟩
     ·rcases br_or h with ⟨j,h⟩|⟨j,h⟩
      ·refine AW.pN Fm [.s,.s,.s,.w (vb true),.s,.s,.s,.s,.s,.s,.w (vb true),.s,.s,.s,.s,.w (vb true),.s,.s,.s,.s,.w (vb true),.s,.s,.s,.s,.s,.s,.w (vb true),.s,.s,.s,.s,.s] [(2,vb (decide (e.high_≤(16384:Int))))] [] (cA (ALe.bool a) (cA (ALe.bool c) (cA (ALe.bool d) (cA (ALe.bool i) (cT (ALe.bool j)))))) ?_
       exact Kn.R Fm (b (decide (e.high_≤(16384:Int))) h)
      ·refine AW.pN Fm [.s,.s,.s,.w (vb true),.s,.s,.s,.s,.s,.s,.w (vb true),.s,.s,.s,.s,.w (vb true),.s,.s,.s,.s,.w (vb true),.s,.s,.s,.s,.s,.s,.w (vb false),.s,.s,.s,.s,.s] [(2,vb false)] [] (cA (ALe.bool a) (cA (ALe.bool c) (cA (ALe.bool d) (cA (ALe.bool i) (cT (ALe.bool j)))))) ?_
       exact Kn.R Fm (b false h)
     ·refine AW.pN Fm [.s,.s,.s,.w (vb true),.s,.s,.s,.s,.s,.s,.w (vb true),.s,.s,.s,.s,.w (vb true),.s,.s,.s,.s,.w (vb false),.s,.s,.s,.s,.s,.s,.s,.s,.s,.s,.s,.s] [(2,vb false)] [] (cA (ALe.bool a) (cA (ALe.bool c) (cA (ALe.bool d) (cT (ALe.bool i))))) ?_
      exact Kn.R Fm (b false h)
    ·refine AW.pN Fm [.s,.s,.s,.w (vb true),.s,.s,.s,.s,.s,.s,.w (vb true),.s,.s,.s,.s,.w (vb false),.s,.s,.s,.s,.s,.s,.s,.s,.s,.s,.s,.s,.s,.s,.s,.s,.s] [(2,vb false)] [] (cA (ALe.bool a) (cA (ALe.bool c) (cT (ALe.bool d)))) ?_
     exact Kn.R Fm (b false h)
   ·refine AW.pN Fm [.s,.s,.s,.w (vb true),.s,.s,.s,.s,.s,.s,.w (vb false),.s,.s,.s,.s,.s,.s,.s,.s,.s,.s,.s,.s,.s,.s,.s,.s,.s,.s,.s,.s,.s,.s] [(2,vb false)] [] (cA (ALe.bool a) (cT (ALe.bool c))) ?_
    exact Kn.R Fm (b false h)
  ·refine AW.pN Fm [.s,.s,.s,.w (vb false),.s,.s,.s,.s,.s,.s,.s,.s,.s,.s,.s,.s,.s,.s,.s,.s,.s,.s,.s,.s,.s,.s,.s,.s,.s,.s,.s,.s,.s] [(2,vb false)] [] (cT (ALe.bool a)) ?_
   exact Kn.R Fm (b false h)
theorem ref01_Put_spec {F:Nat} {a:(List Int)} {e:Int} {r:(List Int)} (h:ref01_Put F a e=some r) :
  FSpec Try.prog 58 [AL a,vi e] [] (AL (α:=Int) r) []:=by
 refine FI Try.func58 prog_mixed prog_lay fun C Fm=>?_
 unfold ref01_Put at h
 refine AW.SG0 Fm 1 [(0,AL a),(1,vi e)] [] ?_
 refine AW.SG0 Fm 1 [(0,AL a),(1,vi e),(5,vi 0)] [] ?_
 refine AW.join (r:=r) (fun z:Int=>ref01_Put_k2 F a e z) (fun z=>[(0,AL a),(1,vi e),(5,vi z)]) (fun z=>[]) (fun b h=>?_) (fun O y=>?_)
 ·refine AW.seq (AW.join (r:=r) (fun z:Bool=>ref01_Put_k3 F a e b z) (fun z=>[(0,AL a),(1,vi e),(5,vi b),(31,vb z)]) (fun z=>[]) (fun U h=>?_) (fun P o=>?_))
  ·refine AW.cN h (fun B h=>?_) (fun B h=>?_)
   ·refine AW.SG0 Fm 2 [(4,AL a)] [] ?_
    refine AW.ret ?_
    obtain rfl:=Option.some.inj h
    exact Kn.D Fm
   ·refine AW.skip ?_
    obtain ⟨p,I,K,q,h⟩:=gS4 h
    obtain ⟨L,h⟩:=gS h
    refine AW.SV Fm [.m,.s,.s,.w (AL (α:=Int) (a.take b.toNat)),.s,.s,.w (AL (α:=Int) ([e]:List Int)),.s,.s,.s,.w (AL (α:=Int) (a.drop b.toNat)),.s,.s] [(4,ow 44)] [(44,AO (α:=Int) (((([]:List Int)++(a.take b.toNat))++([e]:List Int))++(a.drop b.toNat)))] (cA (⟨p,(Is.refl a).len⟩ : ((sl (List.length a) (LF a) none (some b)).2∧∀ j,j<List.length a→(LF a j).length=1)) (cA (ALe.lst (sl_is a none (some b) p):ALe (.v (.c (.d (.lst (sl (List.length a) (LF a) none (some b)).1.1 (sl (List.length a) (LF a) none (some b)).1.2)))) (AL (α:=Int) (a.take b.toNat))) (cA (cA I (cT (Is.refl (a.take b.toNat):Is (List.length (α:=Int) (a.take b.toNat)) (LF (α:=Int) (a.take b.toNat)) (a.take b.toNat)).len)) (cA (ALe.lst (.lit ([e]:List Int) (by kernel_rfl)):ALe (.v (.c (.d (.lst 1 (litF 1 [.int .i64 e]))))) (AL (α:=Int) ([e]:List Int))) (cA (cA K (cT (Is.refl ([e]:List Int):Is (List.length (α:=Int) ([e]:List Int)) (LF (α:=Int) ([e]:List Int)) ([e]:List Int)).len)) (cA (⟨q,(Is.refl a).len⟩ : ((sl (List.length a) (LF a) (some b) none).2∧∀ j,j<List.length a→(LF a j).length=1)) (cA (ALe.lst (sl_is a (some b) none q):ALe (.v (.c (.d (.lst (sl (List.length a) (LF a) (some b) none).1.1 (sl (List.length a) (LF a) (some b) none).1.2)))) (AL (α:=Int) (a.drop b.toNat))) (cT (cA L (cT (Is.refl (a.drop b.toNat):Is (List.length (α:=Int) (a.drop b.toNat)) (LF (α:=Int) (a.drop b.toNat)) (a.drop b.toNat)).len)))))))))) [(44,.arr 1 ((((0)+(List.length (α:=Int) (a.take b.toNat)))+(List.length (α:=Int) ([e]:List Int)))+(List.length (α:=Int) (a.drop b.toNat))) (appF (((0)+(List.length (α:=Int) (a.take b.toNat)))+(List.length (α:=Int) ([e]:List Int))) (appF ((0)+(List.length (α:=Int) (a.take b.toNat))) (appF (0) (litF 1 []) (LF (α:=Int) (a.take b.toNat))) (LF (α:=Int) ([e]:List Int))) (LF (α:=Int) (a.drop b.toNat))))] ⟨OLe.is (Is.app (Is.app (Is.app (Is.lit ([]:List Int) (by kernel_rfl)) (Is.refl (a.take b.toNat))) (Is.refl ([e]:List Int))) (Is.refl (a.drop b.toNat))),⟨⟩⟩ ?_
    refine AW.ret ?_
    obtain rfl:=Option.some.inj h
    refine Kn.r Fm [(4,ow 44)] [(44,AO (α:=Int) (((([]:List Int)++(a.take b.toNat))++([e]:List Int))++(a.drop b.toNat)))] (by kernel_rfl) ?_
    refine Kn.frz [(4,AL (α:=Int) (((([]:List Int)++(a.take b.toNat))++([e]:List Int))++(a.drop b.toNat)))] [] (by kernel_rfl) (by kernel_rfl) (by kernel_rfl) ?_
    exact Kn.D Fm
  ·rcases br_or h with ⟨l,h⟩|⟨l,h⟩
   ·obtain ⟨H,h⟩:=gS h
    refine AW.pN Fm [.s,.s,.s,.s,.w (vb true),.s,.s,.s,.s,.s,.s,.s] [(0,AL a),(1,vi e),(5,vi b),(31,vb ((gl a b.toNat)==e))] [] (cA (ALe.bool l) (cT H)) ?_
    exact Kn.R Fm (o ((gl a b.toNat)==e) h)
   ·refine AW.pN Fm [.s,.s,.s,.s,.w (vb false),.s,.s,.s,.s,.s,.s,.s] [(0,AL a),(1,vi e),(5,vi b),(31,vb false)] [] (cT (ALe.bool l)) ?_
    exact Kn.R Fm (o false h)
 ·refine AW.block (AW.loopF (E' := fun z=>[(0,AL a),(1,vi e),(5,vi z)]) (S' := fun z=>[]) (fun t i M u h=>?_) h)
  refine AW.seq (AW.join (r:=r) (fun z:Bool=>ref01_Put_k1 F a e i t z) (fun z=>[(0,AL a),(1,vi e),(5,vi i),(17,vb z)]) (fun z=>[]) (fun T h=>?_) (fun N n=>?_))
  ·refine AW.cN h (fun A h=>?_) (fun A h=>?_)
   ·refine AW.skip (AW.block ?_)
    obtain ⟨G,h⟩:=gS h
    refine AW.pN Fm [.s,.s,.s] [(0,AL a),(1,vi e),(5,vi (i+1))] [] (cT (cT G)) ?_
    exact Kn.R Fm (u (i+1) h)
   ·exact AW.exit (Kn.R Fm (y i h))
  ·rcases br_or h with ⟨k,h⟩|⟨k,h⟩
   ·obtain ⟨E,h⟩:=gS h
    refine AW.pN Fm [.s,.s,.s,.s,.w (vb true),.s,.s,.s,.s,.s,.s,.s] [(0,AL a),(1,vi e),(5,vi i),(11,AL a),(12,vi i),(13,.v (.c (.elm [.int .i64 (gl a i.toNat)]))),(14,vi (gl a i.toNat)),(15,vi e),(16,vb (decide ((gl a i.toNat)<e))),(17,vb (decide ((gl a i.toNat)<e)))] [] (cA (ALe.bool k) (cT E)) ?_
    exact Kn.R Fm (n (decide ((gl a i.toNat)<e)) h)
   ·refine AW.pN Fm [.s,.s,.s,.s,.w (vb false),.s,.s,.s,.s,.s,.s,.s] [(0,AL a),(1,vi e),(5,vi i),(17,vb false)] [] (cT (ALe.bool k)) ?_
    exact Kn.R Fm (n false h)
theorem ref04_inside_spec {F:Nat} {a:(List Rect)} {e:Int} {d:Int} {r:Bool} (h:ref04_inside F a e d=some r) :
  FSpec Try.prog 60 [AL a,vi e,vi d] [] (vb r) []:=by
 refine FI Try.func60 prog_mixed prog_lay fun C Fm=>?_
 unfold ref04_inside at h
 refine AW.SG0 Fm 1 [(0,AL a),(1,vi e),(2,vi d)] [] ?_
 refine AW.join (r:=r) (fun z:Unit=>ref04_inside_k2 F) (fun z=>[]) (fun z=>[]) (fun z h=>?_) (fun A n=>?_)
 ·refine AW.SG0 Fm 1 [(6,vb false)] [] ?_
  refine AW.ret ?_
  obtain rfl:=Option.some.inj h
  exact Kn.D Fm
 ·refine AW.SG0 Fm 3 [(1,vi e),(2,vi d),(9,AL a),(10,vi (lI a)),(11,vi 0)] [] ?_
  refine AW.block (AW.loopF (E' := fun z=>[(1,vi e),(2,vi d),(9,AL a),(10,vi (lI a)),(11,vi z)]) (S' := fun z=>[]) (fun m b B o h=>?_) h)
  refine AW.SG0 Fm 1 [(1,vi e),(2,vi d),(9,AL a),(10,vi (lI a)),(11,vi b),(12,vb (decide (b<(lI a))))] [] ?_
  refine AW.seq (AW.cN h (fun q h=>?_) (fun q h=>?_))
  ·refine AW.skip (AW.seq (AW.block ?_))
   obtain ⟨u,h⟩:=gS h
   refine AW.SP Fm [.s,.s,.s,.s] [(1,vi e),(2,vi d),(8,pt 8),(9,AL a),(10,vi (lI a)),(11,vi b)] [(8,bx [ci ((gl a b.toNat).left_),ci ((gl a b.toNat).low_),ci ((gl a b.toNat).right_),ci ((gl a b.toNat).high_)])] (cT u) ?_
   refine AW.join (r:=r) (fun z:Bool=>ref04_inside_k1 F b m z) (fun z=>[(1,vi e),(2,vi d),(9,AL a),(10,vi (lI a)),(11,vi b),(36,vb z)]) (fun z=>[]) (fun E h=>?_) (fun y j=>?_)
   ·refine AW.cN h (fun p h=>?_) (fun p h=>?_)
    ·refine AW.SG0 Fm 1 [(6,vb true)] [] ?_
     refine AW.ret ?_
     obtain rfl:=Option.some.inj h
     exact Kn.D Fm
    ·refine AW.skip ?_
     obtain ⟨t,h⟩:=gS h
     refine AW.pN Fm [.s,.s] [(1,vi e),(2,vi d),(9,AL a),(10,vi (lI a)),(11,vi (b+1))] [] (cT (cT t)) ?_
     exact Kn.R Fm (o (b+1) h)
   ·rcases br_or h with ⟨i,h⟩|⟨i,h⟩
    ·rcases br_or h with ⟨k,h⟩|⟨k,h⟩
     ·rcases br_or h with ⟨l,h⟩|⟨l,h⟩
      ·refine AW.pN Fm [.s,.s,.s,.s,.w (vb true),.s,.s,.s,.s,.s,.w (vb true),.s,.s,.s,.s,.s,.w (vb true),.s,.s,.s,.s,.s] [(1,vi e),(2,vi d),(9,AL a),(10,vi (lI a)),(11,vi b),(20,vi e),(21,.v (.c (.ptr 8 2))),(22,vi (gl a b.toNat).right_),(23,vb (decide (e<((gl a b.toNat).right_)))),(26,.v (.c (.ptr 8 1))),(27,vi (gl a b.toNat).low_),(28,vi d),(29,vb (decide (((gl a b.toNat).low_)≤d))),(32,vi d),(33,.v (.c (.ptr 8 3))),(34,vi (gl a b.toNat).high_),(35,vb (decide (d<((gl a b.toNat).high_)))),(36,vb (decide (d<((gl a b.toNat).high_))))] [(8,bx [ci ((gl a b.toNat).left_),ci ((gl a b.toNat).low_),ci ((gl a b.toNat).right_),ci ((gl a b.toNat).high_)])] (cA (ALe.bool i) (cA (ALe.bool k) (cT (ALe.bool l)))) ?_
       exact Kn.R Fm (j (decide (d<((gl a b.toNat).high_))) h)
      ·refine AW.pN Fm [.s,.s,.s,.s,.w (vb true),.s,.s,.s,.s,.s,.w (vb true),.s,.s,.s,.s,.s,.w (vb false),.s,.s,.s,.s,.s] [(1,vi e),(2,vi d),(9,AL a),(10,vi (lI a)),(11,vi b),(20,vi e),(21,.v (.c (.ptr 8 2))),(22,vi (gl a b.toNat).right_),(23,vb (decide (e<((gl a b.toNat).right_)))),(26,.v (.c (.ptr 8 1))),(27,vi (gl a b.toNat).low_),(28,vi d),(29,vb (decide (((gl a b.toNat).low_)≤d))),(36,vb false)] [(8,bx [ci ((gl a b.toNat).left_),ci ((gl a b.toNat).low_),ci ((gl a b.toNat).right_),ci ((gl a b.toNat).high_)])] (cA (ALe.bool i) (cA (ALe.bool k) (cT (ALe.bool l)))) ?_
       exact Kn.R Fm (j false h)
     ·refine AW.pN Fm [.s,.s,.s,.s,.w (vb true),.s,.s,.s,.s,.s,.w (vb false),.s,.s,.s,.s,.s,.s,.s,.s,.s,.s,.s] [(1,vi e),(2,vi d),(9,AL a),(10,vi (lI a)),(11,vi b),(20,vi e),(21,.v (.c (.ptr 8 2))),(22,vi (gl a b.toNat).right_),(23,vb (decide (e<((gl a b.toNat).right_)))),(36,vb false)] [(8,bx [ci ((gl a b.toNat).left_),ci ((gl a b.toNat).low_),ci ((gl a b.toNat).right_),ci ((gl a b.toNat).high_)])] (cA (ALe.bool i) (cT (ALe.bool k))) ?_
      exact Kn.R Fm (j false h)
    ·refine AW.pN Fm [.s,.s,.s,.s,.w (vb false),.s,.s,.s,.s,.s,.s,.s,.s,.s,.s,.s,.s,.s,.s,.s,.s,.s] [(1,vi e),(2,vi d),(9,AL a),(10,vi (lI a)),(11,vi b),(36,vb false)] [] (cT (ALe.bool i)) ?_
     exact Kn.R Fm (j false h)
  ·exact AW.exit (Kn.R Fm (n () h))
theorem ref04_keep_spec {F:Nat} {c:Bool} {a:Bool} {b:Int} {r:Bool} (h:ref04_keep F c a b=some r) :
  FSpec Try.prog 59 [vb c,vb a,vi b] [] (vb r) []:=by
 refine FI Try.func59 prog_mixed prog_lay fun C Fm=>?_
 unfold ref04_keep at h
 refine AW.SG0 Fm 1 [(0,vb c),(1,vb a),(2,vi b)] [] ?_
 refine AW.seq (AW.SG0 Fm 1 [(0,vb c),(1,vb a),(7,vi b)] [] ?_)
 refine AW.block (AW.SG0 Fm 2 [(0,vb c),(1,vb a),(7,vi b),(8,vb (b==(1:Int)))] [] ?_)
 refine AW.cN h (fun m h=>?_) (fun m h=>?_)
 ·refine AW.join (r:=r) (fun z:Bool=>ref04_keep_k0 F z) (fun z=>[(6,vb z)]) (fun z=>[]) (fun t h=>?_) (fun o j=>?_)
  ·refine AW.ret ?_
   obtain rfl:=Option.some.inj h
   exact Kn.D Fm
  ·rcases br_or h with ⟨d,h⟩|⟨d,h⟩
   ·refine AW.pN Fm [.s,.w (vb true),.s,.s,.s] [(6,vb true)] [] (cT (ALe.bool d)) ?_
    exact Kn.R Fm (j true h)
   ·refine AW.pN Fm [.s,.w (vb false),.s,.s,.s] [(6,vb a)] [] (cT (ALe.bool d)) ?_
    exact Kn.R Fm (j a h)
 ·refine AW.SG0 Fm 2 [(0,vb c),(1,vb a),(14,vb (b==(2:Int)))] [] ?_
  refine AW.cN h (fun n h=>?_) (fun n h=>?_)
  ·refine AW.join (r:=r) (fun z:Bool=>ref04_keep_k1 F z) (fun z=>[(6,vb z)]) (fun z=>[]) (fun u h=>?_) (fun p k=>?_)
   ·refine AW.ret ?_
    obtain rfl:=Option.some.inj h
    exact Kn.D Fm
   ·rcases br_or h with ⟨e,h⟩|⟨e,h⟩
    ·refine AW.pN Fm [.s,.w (vb true),.s,.s,.s] [(6,vb a)] [] (cT (ALe.bool e)) ?_
     exact Kn.R Fm (k a h)
    ·refine AW.pN Fm [.s,.w (vb false),.s,.s,.s] [(6,vb false)] [] (cT (ALe.bool e)) ?_
     exact Kn.R Fm (k false h)
  ·refine AW.skip (AW.join (r:=r) (fun z:Bool=>ref04_keep_k2 F z) (fun z=>[(6,vb z)]) (fun z=>[]) (fun y h=>?_) (fun q l=>?_))
   ·refine AW.ret ?_
    obtain rfl:=Option.some.inj h
    exact Kn.D Fm
   ·rcases br_or h with ⟨i,h⟩|⟨i,h⟩
    ·refine AW.pN Fm [.s,.w (vb true),.s,.s,.s,.s] [(6,vb (!a))] [] (cT (ALe.bool i)) ?_
     exact Kn.R Fm (l (!a) h)
    ·refine AW.pN Fm [.s,.w (vb false),.s,.s,.s,.s] [(6,vb false)] [] (cT (ALe.bool i)) ?_
     exact Kn.R Fm (l false h)
theorem ref04_same_spec {F:Nat} {a:(List Rect)} {d:(List Rect)} {r:Bool} (h:ref04_same F a d=some r) :
  FSpec Try.prog 61 [AL a,AL d] [] (vb r) []:=by
 refine FI Try.func61 prog_mixed prog_lay fun C Fm=>?_
 unfold ref04_same at h
 refine AW.SG0 Fm 1 [(0,AL a),(1,AL d)] [] ?_
 refine AW.seq (AW.SG0 Fm 5 [(0,AL a),(1,AL d),(10,vb ((lI a) != (lI d)))] [] ?_)
 refine AW.cN h (fun o h=>?_) (fun o h=>?_)
 ·refine AW.SG0 Fm 1 [(4,vb false)] [] ?_
  refine AW.ret ?_
  obtain rfl:=Option.some.inj h
  exact Kn.D Fm
 ·refine AW.skip (AW.join (r:=r) (fun z:Unit=>ref04_same_k2 F) (fun z=>[]) (fun z=>[]) (fun z h=>?_) (fun E n=>?_))
  ·refine AW.SG0 Fm 1 [(4,vb true)] [] ?_
   refine AW.ret ?_
   obtain rfl:=Option.some.inj h
   exact Kn.D Fm
  ·refine AW.SG0 Fm 3 [(0,AL a),(1,AL d),(12,vi (lI a)),(13,vi 0)] [] ?_
   refine AW.block (AW.loopF (E' := fun z=>[(0,AL a),(1,AL d),(12,vi (lI a)),(13,vi z)]) (S' := fun z=>[]) (fun l b A m h=>?_) h)
   refine AW.SG0 Fm 1 [(0,AL a),(1,AL d),(12,vi (lI a)),(13,vi b),(14,vb (decide (b<(lI a))))] [] ?_
   refine AW.seq (AW.cN h (fun p h=>?_) (fun p h=>?_))
   ·refine AW.skip (AW.seq (AW.block (AW.SG0 Fm 2 [(0,AL a),(1,AL d),(5,vi b),(12,vi (lI a)),(13,vi b)] [] ?_)))
    refine AW.join (r:=r) (fun z:Bool=>ref04_same_k1 F b l z) (fun z=>[(0,AL a),(1,AL d),(12,vi (lI a)),(13,vi b),(39,vb z)]) (fun z=>[]) (fun G h=>?_) (fun B i=>?_)
    ·refine AW.cN h (fun q h=>?_) (fun q h=>?_)
     ·refine AW.SG0 Fm 1 [(4,vb false)] [] ?_
      refine AW.ret ?_
      obtain rfl:=Option.some.inj h
      exact Kn.D Fm
     ·refine AW.skip ?_
      obtain ⟨y,h⟩:=gS h
      refine AW.pN Fm [.s,.s] [(0,AL a),(1,AL d),(12,vi (lI a)),(13,vi (b+1))] [] (cT (cT y)) ?_
      exact Kn.R Fm (m (b+1) h)
    ·obtain ⟨j,k,h⟩:=gS2 h
     rcases br_or h with ⟨e,h⟩|⟨e,h⟩
     ·refine AW.pN Fm [.s,.s,.s,.s,.s,.s,.s,.s,.s,.s,.s,.w (vb true),.s,.s,.s,.s,.s,.s,.s,.s,.s,.s,.s,.s] [(0,AL a),(1,AL d),(12,vi (lI a)),(13,vi b),(39,vb true)] [] (cA j (cA k (cT (ALe.bool e)))) ?_
      exact Kn.R Fm (i true h)
     ·obtain ⟨t,u,h⟩:=gS2 h
      refine AW.pN Fm [.s,.s,.s,.s,.s,.s,.s,.s,.s,.s,.s,.w (vb false),.s,.s,.s,.s,.s,.s,.s,.s,.s,.s,.s,.s] [(0,AL a),(1,AL d),(12,vi (lI a)),(13,vi b),(28,AL a),(29,vi b),(30,.v (.c (.elm [.int .i64 (gl a b.toNat).left_,.int .i64 (gl a b.toNat).low_,.int .i64 (gl a b.toNat).right_,.int .i64 (gl a b.toNat).high_]))),(31,.v (.c (.elm [.int .i64 (gl a b.toNat).right_,.int .i64 (gl a b.toNat).high_]))),(32,vi (gl a b.toNat).right_),(33,AL d),(34,vi b),(35,.v (.c (.elm [.int .i64 (gl d b.toNat).left_,.int .i64 (gl d b.toNat).low_,.int .i64 (gl d b.toNat).right_,.int .i64 (gl d b.toNat).high_]))),(36,.v (.c (.elm [.int .i64 (gl d b.toNat).right_,.int .i64 (gl d b.toNat).high_]))),(37,vi (gl d b.toNat).right_),(38,vb (((gl a b.toNat).right_) != ((gl d b.toNat).right_))),(39,vb (((gl a b.toNat).right_) != ((gl d b.toNat).right_)))] [] (cA j (cA k (cA (ALe.bool e) (cA t (cT u))))) ?_
      exact Kn.R Fm (i (((gl a b.toNat).right_) != ((gl d b.toNat).right_)) h)
   ·exact AW.exit (Kn.R Fm (n () h))
theorem ref04_Combine_spec {F:Nat} {a:(List Rect)} {b:(List Rect)} {p:Int} {r:(List Rect)} (h:ref04_Combine F a b p=some r) :
  FSpec Try.prog 50 [AL a,AL b,vi p] [] (AL (α:=Rect) r) []:=by
 refine FI Try.func50 prog_mixed prog_lay fun C Fm=>?_
 unfold ref04_Combine at h
 refine AW.SG0 Fm 1 [(0,AL a),(1,AL b),(2,vi p)] [] ?_
 refine AW.SW Fm [.m,.m] (fun K=>True) [(0,AL a),(1,AL b),(2,vi p),(7,ow 7),(8,ow 8)] [(7,AO (α:=Int) ([]:List Int)),(8,AO (α:=Int) ([]:List Int))] True.intro [(7,.arr 1 (0) (fun _=>[])),(8,.arr 1 (0) (fun _=>[]))] ⟨OLe.is ((Is.nil (α:=Int))),OLe.is ((Is.nil (α:=Int))),⟨⟩⟩ ?_
 refine AW.join (r:=r) (fun z:(List Int)×(List Int)=>ref04_Combine_k3 F a b p z.1 z.2) (fun z=>[(0,AL a),(1,AL b),(2,vi p),(7,AL z.1),(8,AL z.2)]) (fun z=>[]) (fun z h=>?_) (fun c2 B0=>?_)
 ·obtain ⟨l,e⟩:=z
  refine AW.SW Fm [.m,.m] (fun K=>True) [(0,AL a),(1,AL b),(2,vi p),(7,AL l),(8,AL e),(13,ow 13),(14,ow 14)] [(13,AO (α:=Rect) ([]:List Rect)),(14,AO (α:=Rect) ([]:List Rect))] True.intro [(13,.arr 4 (0) (fun _=>[])),(14,.arr 4 (0) (fun _=>[]))] ⟨OLe.is ((Is.nil (α:=Rect))),OLe.is ((Is.nil (α:=Rect))),⟨⟩⟩ ?_
  refine AW.join (r:=r) (fun z:(List Rect)×(List Rect)=>ref04_Combine_k14 F z.1 z.2) (fun z=>[(13,ow 13),(14,ow 14)]) (fun z=>[(13,AO z.1),(14,AO z.2)]) (fun z h=>?_) (fun q2 M0=>?_)
  ·obtain ⟨L,I⟩:=z
   obtain ⟨K1,h⟩:=gS h
   refine AW.SV Fm [.s,.s,.s,.s] [(6,ow 176)] [(176,AO (α:=Rect) (L++I))] (cT (cA K1 (cT (Is.refl I:Is (List.length (α:=Rect) I) (LF (α:=Rect) I) I).len))) [(176,.arr 4 ((List.length (α:=Rect) L)+(List.length (α:=Rect) I)) (appF (List.length (α:=Rect) L) (LF (α:=Rect) L) (LF (α:=Rect) I)))] ⟨OLe.is (Is.app (Is.refl L) (Is.refl I)),⟨⟩⟩ ?_
   refine AW.ret ?_
   obtain rfl:=Option.some.inj h
   refine Kn.r Fm [(6,ow 176)] [(176,AO (α:=Rect) (L++I))] (by kernel_rfl) ?_
   refine Kn.frz [(6,AL (α:=Rect) (L++I))] [] (by kernel_rfl) (by kernel_rfl) (by kernel_rfl) ?_
   exact Kn.D Fm
  ·refine AW.SG0 Fm 1 [(0,AL a),(1,AL b),(2,vi p),(7,AL l),(8,AL e),(13,ow 13),(14,ow 14),(15,vi 0)] [(13,AO (α:=Rect) ([]:List Rect)),(14,AO (α:=Rect) ([]:List Rect))] ?_
   refine AW.block (Kn.r Fm [(0,AL a),(1,AL b),(2,vi p),(7,AL l),(8,AL e),(13,ow 13),(14,ow 14),(15,vi 0)] [(13,AO ([]:List Rect)),(14,AO ([]:List Rect))] (by kernel_rfl) ?_)
   refine AW.loopF (E' := fun z=>[(0,AL a),(1,AL b),(2,vi p),(7,AL l),(8,AL e),(13,ow 13),(14,ow 14),(15,vi z.1)]) (S' := fun z=>[(13,AO z.2.1),(14,AO z.2.2)]) (fun M z d2 D0 h=>?_) h
   obtain ⟨i,u,q⟩:=z
   refine AW.seq ?_
   obtain ⟨b1,h⟩:=gS h
   refine AW.SP Fm [.s,.s,.s,.s,.s] [(0,AL a),(1,AL b),(2,vi p),(7,AL l),(8,AL e),(13,ow 13),(14,ow 14),(15,vi i),(54,vb (decide ((i+1)<(lI e))))] [(13,AO u),(14,AO q)] (cT (cT b1)) ?_
   refine AW.cN h (fun P0 h=>?_) (fun P0 h=>?_)
   ·refine AW.skip (AW.join (r:=r) (fun z:(List Rect)×(List Rect)=>ref04_Combine_k13 F i M z.1 z.2) (fun z=>[(0,AL a),(1,AL b),(2,vi p),(7,AL l),(8,AL e),(13,ow 13),(14,ow 14),(15,vi i)]) (fun z=>[(13,AO z.1),(14,AO z.2)]) (fun z h=>?_) (fun p2 j0=>?_))
    ·obtain ⟨q0,s0⟩:=z
     obtain ⟨I1,h⟩:=gS h
     refine AW.pN Fm [.s,.s,.s] [(0,AL a),(1,AL b),(2,vi p),(7,AL l),(8,AL e),(13,ow 13),(14,ow 14),(15,vi (i+1))] [(13,AO q0),(14,AO s0)] (cT (cT I1)) ?_
     exact Kn.R Fm (D0 ((i+1),q0,s0) h)
    ·refine AW.block (AW.SW Fm [.m] (fun K=>True) [(0,AL a),(1,AL b),(2,vi p),(7,AL l),(8,AL e),(13,ow 13),(14,ow 14),(15,vi i),(16,ow 16)] [(13,AO u),(14,AO q),(16,AO (α:=Rect) ([]:List Rect))] True.intro [(16,.arr 4 (0) (fun _=>[]))] ⟨OLe.is ((Is.nil (α:=Rect))),⟨⟩⟩ ?_)
     refine AW.join (r:=r) (fun z:(List Rect)=>ref04_Combine_k8 F e i u q M z) (fun z=>[(0,AL a),(1,AL b),(2,vi p),(7,AL l),(8,AL e),(13,ow 13),(14,ow 14),(15,vi i),(16,ow 16)]) (fun z=>[(13,AO u),(14,AO q),(16,AO z)]) (fun E h=>?_) (fun k2 H0=>?_)
     ·refine AW.join (r:=r) (fun z:Unit=>ref04_Combine_k12 F i u q E M) (fun z=>[(0,AL a),(1,AL b),(2,vi p),(7,AL l),(8,AL e),(13,ow 13),(14,ow 14),(15,vi i),(16,ow 16)]) (fun z=>[(13,AO u),(14,AO q),(16,AO E)]) (fun z h=>?_) (fun o2 L0=>?_)
      ·obtain ⟨H1,h⟩:=gS h
       refine AW.SV Fm [.s,.s,.s,.s] [(0,AL a),(1,AL b),(2,vi p),(7,AL l),(8,AL e),(13,ow 172),(15,vi i),(16,ow 16)] [(16,AO E),(172,AO (α:=Rect) (u++q))] (cT (cA H1 (cT (Is.refl q:Is (List.length (α:=Rect) q) (LF (α:=Rect) q) q).len))) [(172,.arr 4 ((List.length (α:=Rect) u)+(List.length (α:=Rect) q)) (appF (List.length (α:=Rect) u) (LF (α:=Rect) u) (LF (α:=Rect) q)))] ⟨OLe.is (Is.app (Is.refl u) (Is.refl q)),⟨⟩⟩ ?_
       refine AW.G0 Fm 2 [(0,AL a),(1,AL b),(2,vi p),(7,AL l),(8,AL e),(13,ow 172),(14,ow 16),(15,vi i)] [(16,AO E),(172,AO (α:=Rect) (u++q))] ?_
       exact Kn.RE Fm [(13,172),(14,16)] (j0 ((u++q),E) h)
      ·refine AW.join (r:=r) (fun z:Bool=>ref04_Combine_k9 F e i u q E M z) (fun z=>[(0,AL a),(1,AL b),(2,vi p),(7,AL l),(8,AL e),(13,ow 13),(14,ow 14),(15,vi i),(16,ow 16),(154,vb z)]) (fun z=>[(13,AO u),(14,AO q),(16,AO E)]) (fun w2 h=>?_) (fun l2 X=>?_)
       ·refine AW.cN h (fun V0 h=>?_) (fun V0 h=>?_)
        ·refine AW.join (r:=r) (fun z:(List Rect)=>ref04_Combine_k11 F i u M z) (fun z=>[(0,AL a),(1,AL b),(2,vi p),(7,AL l),(8,AL e),(13,ow 13),(14,ow 14),(15,vi i)]) (fun z=>[(13,AO u),(14,AO z)]) (fun U1 h=>?_) (fun n2 K0=>?_)
         ·exact AW.exit (Kn.R Fm (j0 (u,U1) h))
         ·refine AW.SG0 Fm 3 [(0,AL a),(1,AL b),(2,vi p),(7,AL l),(8,AL e),(13,ow 13),(14,ow 14),(15,vi i),(156,vi (lI q)),(157,vi 0)] [(13,AO u),(14,AO q)] ?_
          refine AW.block (AW.loopF (E' := fun z=>[(0,AL a),(1,AL b),(2,vi p),(7,AL l),(8,AL e),(13,ow 13),(14,ow 14),(15,vi i),(156,vi (lI q)),(157,vi z.1)]) (S' := fun z=>[(13,AO u),(14,AO z.2)]) (fun t2 z m2 I0 h=>?_) h)
          obtain ⟨A,B⟩:=z
          refine AW.SG0 Fm 1 [(0,AL a),(1,AL b),(2,vi p),(7,AL l),(8,AL e),(13,ow 13),(14,ow 14),(15,vi i),(156,vi (lI q)),(157,vi A),(158,vb (decide (A<(lI q))))] [(13,AO u),(14,AO B)] ?_
          refine AW.seq (AW.cN h (fun W0 h=>?_) (fun W0 h=>?_))
          ·refine AW.skip (AW.seq (AW.block (AW.SG0 Fm 2 [(0,AL a),(1,AL b),(2,vi p),(7,AL l),(8,AL e),(13,ow 13),(14,ow 14),(15,vi i),(19,vi A),(156,vi (lI q)),(157,vi A)] [(13,AO u),(14,AO B)] ?_)))
           obtain ⟨D1,E1,b0,h⟩:=gS3 h
           refine AW.WP Fm [.s,.s,.s,.s,.s,.s,.s,.s,.s,.s] [(0,AL a),(1,AL b),(2,vi p),(7,AL l),(8,AL e),(13,ow 13),(14,ow 14),(15,vi i),(156,vi (lI q)),(157,vi A)] [(13,AO u),(14,AO (α:=Rect) (List.set B A.toNat (⟨(gl B A.toNat).left_,(gl B A.toNat).low_,(gl B A.toNat).right_,(gl e (i+1).toNat)⟩ : Rect)))] (cA (cT D1) (cA E1 (cA b0 (cT (toNat_lt b0))))) [(14,.arr 4 (List.length (α:=Rect) B) (fun j=>if j=A.toNat then splice ((LF (α:=Rect) B) A.toNat) 3 [.int .i64 (gl e (i+1).toNat)] else (LF (α:=Rect) B) j))] ⟨OLe.is (Is.set (Is.refl B) (toNat_lt b0) (⟨(gl B A.toNat).left_,(gl B A.toNat).low_,(gl B A.toNat).right_,(gl e (i+1).toNat)⟩ : Rect) (by kernel_rfl)),⟨⟩⟩ ?_
           obtain ⟨G1,h⟩:=gS h
           refine AW.pN Fm [.s,.s] [(0,AL a),(1,AL b),(2,vi p),(7,AL l),(8,AL e),(13,ow 13),(14,ow 14),(15,vi i),(156,vi (lI q)),(157,vi (A+1))] [(13,AO u),(14,AO (α:=Rect) (List.set B A.toNat (⟨(gl B A.toNat).left_,(gl B A.toNat).low_,(gl B A.toNat).right_,(gl e (i+1).toNat)⟩ : Rect)))] (cT (cT G1)) ?_
           exact Kn.R Fm (I0 ((A+1),(List.set B A.toNat (⟨(gl B A.toNat).left_,(gl B A.toNat).low_,(gl B A.toNat).right_,(gl e (i+1).toNat)⟩ : Rect))) h)
          ·exact AW.exit (Kn.R Fm (K0 B h))
        ·exact AW.skip (Kn.R Fm (L0 () h))
       ·rcases br_or h with ⟨N,h⟩|⟨N,h⟩
        ·obtain ⟨V,m0,h⟩:=bS h
         rcases br_or h with ⟨Z,h⟩|⟨Z,h⟩
         ·obtain ⟨l0,B1,h⟩:=gS2 h
          refine AW.G Fm [.s,.s,.s,.w (vb true),.s,.s,.k (sE (vb V)),.s,.w (vb true),.s,.s,.s,.s,.s,.s,.s,.s,.s,.s] (fun K=>_∧K 6∧_∧_∧_∧_∧True) [(0,AL a),(1,AL b),(2,vi p),(7,AL l),(8,AL e),(13,ow 13),(14,ow 14),(15,vi i),(16,ow 16),(140,ow 14),(141,ow 16),(142,vb V),(145,ow 14),(146,.v (.c (.pte 14 4 ((0:Int).toNat) 0))),(147,.v (.c (.pte 14 4 ((0:Int).toNat) 3))),(148,vi (gl q (0:Int).toNat).high_),(149,AL e),(150,vi i),(151,.v (.c (.elm [.int .i64 (gl e i.toNat)]))),(152,vi (gl e i.toNat)),(153,vb (((gl q (0:Int).toNat).high_)==(gl e i.toNat))),(154,vb (((gl q (0:Int).toNat).high_)==(gl e i.toNat)))] [(13,AO u),(14,AO q),(16,AO E)] ⟨ALe.bool N,KAt.callBX (ref04_same_spec m0) Try.call61 [14,16] [.tmp 140,.tmp 141] rfl (by kernel_rfl) (by kernel_rfl) ⟨ArgB.own 14 (es:=4) (n:=List.length q) (f:=LF q) (by kernel_rfl) (by kernel_rfl) (by kernel_rfl) (by kernel_rfl),ArgB.own 16 (es:=4) (n:=List.length E) (f:=LF E) (by kernel_rfl) (by kernel_rfl) (by kernel_rfl) (by kernel_rfl),⟨⟩⟩,ALe.bool Z,l0,(toNat_lt l0),B1,⟨⟩⟩ ?_
          exact Kn.R Fm (X (((gl q (0:Int).toNat).high_)==(gl e i.toNat)) h)
         ·refine AW.G Fm [.s,.s,.s,.w (vb true),.s,.s,.k (sE (vb V)),.s,.w (vb false),.s,.s,.s,.s,.s,.s,.s,.s,.s,.s] (fun K=>_∧K 6∧_∧True) [(0,AL a),(1,AL b),(2,vi p),(7,AL l),(8,AL e),(13,ow 13),(14,ow 14),(15,vi i),(16,ow 16),(140,ow 14),(141,ow 16),(142,vb V),(154,vb false)] [(13,AO u),(14,AO q),(16,AO E)] ⟨ALe.bool N,KAt.callBX (ref04_same_spec m0) Try.call61 [14,16] [.tmp 140,.tmp 141] rfl (by kernel_rfl) (by kernel_rfl) ⟨ArgB.own 14 (es:=4) (n:=List.length q) (f:=LF q) (by kernel_rfl) (by kernel_rfl) (by kernel_rfl) (by kernel_rfl),ArgB.own 16 (es:=4) (n:=List.length E) (f:=LF E) (by kernel_rfl) (by kernel_rfl) (by kernel_rfl) (by kernel_rfl),⟨⟩⟩,ALe.bool Z,⟨⟩⟩ ?_
          exact Kn.R Fm (X false h)
        ·refine AW.pN Fm [.s,.s,.s,.w (vb false),.s,.s,.s,.s,.s,.s,.s,.s,.s,.s,.s,.s,.s,.s,.s] [(0,AL a),(1,AL b),(2,vi p),(7,AL l),(8,AL e),(13,ow 13),(14,ow 14),(15,vi i),(16,ow 16),(154,vb false)] [(13,AO u),(14,AO q),(16,AO E)] (cT (ALe.bool N)) ?_
         exact Kn.R Fm (X false h)
     ·refine AW.SG0 Fm 1 [(0,AL a),(1,AL b),(2,vi p),(7,AL l),(8,AL e),(13,ow 13),(14,ow 14),(15,vi i),(16,ow 16),(17,vi 0)] [(13,AO u),(14,AO q),(16,AO (α:=Rect) ([]:List Rect))] ?_
      refine AW.block (Kn.r Fm [(0,AL a),(1,AL b),(2,vi p),(7,AL l),(8,AL e),(13,ow 13),(14,ow 14),(15,vi i),(16,ow 16),(17,vi 0)] [(13,AO u),(14,AO q),(16,AO ([]:List Rect))] (by kernel_rfl) ?_)
      refine AW.loopF (E' := fun z=>[(0,AL a),(1,AL b),(2,vi p),(7,AL l),(8,AL e),(13,ow 13),(14,ow 14),(15,vi i),(16,ow 16),(17,vi z.1)]) (S' := fun z=>[(13,AO u),(14,AO q),(16,AO z.2)]) (fun e0 z e2 E0 h=>?_) h
      obtain ⟨t,o⟩:=z
      refine AW.seq ?_
      obtain ⟨c1,h⟩:=gS h
      refine AW.SP Fm [.s,.s,.s,.s,.s] [(0,AL a),(1,AL b),(2,vi p),(7,AL l),(8,AL e),(13,ow 13),(14,ow 14),(15,vi i),(16,ow 16),(17,vi t),(61,vb (decide ((t+1)<(lI l))))] [(13,AO u),(14,AO q),(16,AO o)] (cT (cT c1)) ?_
      refine AW.cN h (fun R0 h=>?_) (fun R0 h=>?_)
      ·refine AW.skip (AW.join (r:=r) (fun z:(List Rect)=>ref04_Combine_k7 F t e0 z) (fun z=>[(0,AL a),(1,AL b),(2,vi p),(7,AL l),(8,AL e),(13,ow 13),(14,ow 14),(15,vi i),(16,ow 16),(17,vi t)]) (fun z=>[(13,AO u),(14,AO q),(16,AO z)]) (fun p0 h=>?_) (fun j2 W=>?_))
       ·obtain ⟨A1,h⟩:=gS h
        refine AW.pN Fm [.s,.s,.s] [(0,AL a),(1,AL b),(2,vi p),(7,AL l),(8,AL e),(13,ow 13),(14,ow 14),(15,vi i),(16,ow 16),(17,vi (t+1))] [(13,AO u),(14,AO q),(16,AO p0)] (cT (cT A1)) ?_
        exact Kn.R Fm (E0 ((t+1),p0) h)
       ·refine AW.block (AW.seq (AW.seq ?_))
        obtain ⟨d1,e1,h⟩:=gS2 h
        obtain ⟨X1,P1,h⟩:=bS h
        obtain ⟨i1,j1,h⟩:=gS2 h
        obtain ⟨Y1,R1,h⟩:=bS h
        obtain ⟨t0,T1,h⟩:=bS h
        refine AW.G Fm [.s,.s,.s,.s,.s,.s,.s,.s,.s,.k (cE [] [] (vb X1) [] []),.s,.s,.s,.s,.s,.s,.s,.s,.s,.k (cE [] [] (vb Y1) [] []),.s,.k (cE [] [] (vb t0) [] []),.s] (fun K=>_∧_∧K 9∧_∧_∧K 19∧K 21∧True) [(0,AL a),(1,AL b),(2,vi p),(7,AL l),(8,AL e),(13,ow 13),(14,ow 14),(15,vi i),(16,ow 16),(17,vi t),(86,vb (!t0))] [(13,AO u),(14,AO q),(16,AO o)] ⟨d1,e1,KAt.CC (ref04_inside_spec P1) Try.call60 [],i1,j1,KAt.CC (ref04_inside_spec R1) Try.call60 [],KAt.CC (ref04_keep_spec T1) Try.call59 [],⟨⟩⟩ ?_
        refine AW.cN h (fun T0 h=>?_) (fun T0 h=>?_)
        ·exact AW.exit (Kn.R Fm (W o h))
        ·refine AW.skip (AW.SG0 Fm 3 [(0,AL a),(1,AL b),(2,vi p),(7,AL l),(8,AL e),(13,ow 13),(14,ow 14),(15,vi i),(16,ow 16),(17,vi t),(18,vi (lI o))] [(13,AO u),(14,AO q),(16,AO o)] ?_)
         refine AW.join (r:=r) (fun z:Bool=>ref04_Combine_k6 F l e i t o e0 z) (fun z=>[(0,AL a),(1,AL b),(2,vi p),(7,AL l),(8,AL e),(13,ow 13),(14,ow 14),(15,vi i),(16,ow 16),(17,vi t),(18,vi (lI o)),(103,vb z)]) (fun z=>[(13,AO u),(14,AO q),(16,AO o)]) (fun u2 h=>?_) (fun i2 i0=>?_)
         ·refine AW.cN h (fun U0 h=>?_) (fun U0 h=>?_)
          ·obtain ⟨m1,n1,o1,a0,h⟩:=gS4 h
           refine AW.WP Fm [.s,.s,.s,.s,.s,.s,.s,.s,.s,.s,.s] [(0,AL a),(1,AL b),(2,vi p),(7,AL l),(8,AL e),(13,ow 13),(14,ow 14),(15,vi i),(16,ow 16),(17,vi t)] [(13,AO u),(14,AO q),(16,AO (α:=Rect) (List.set o ((lI o)-1).toNat (⟨(gl o ((lI o)-1).toNat).left_,(gl o ((lI o)-1).toNat).low_,(gl l (t+1).toNat),(gl o ((lI o)-1).toNat).high_⟩ : Rect)))] (cA (cT m1) (cA (cT n1) (cA o1 (cA a0 (cT (toNat_lt a0)))))) [(16,.arr 4 (List.length (α:=Rect) o) (fun j=>if j=((lI o)-1).toNat then splice ((LF (α:=Rect) o) ((lI o)-1).toNat) 2 [.int .i64 (gl l (t+1).toNat)] else (LF (α:=Rect) o) j))] ⟨OLe.is (Is.set (Is.refl o) (toNat_lt a0) (⟨(gl o ((lI o)-1).toNat).left_,(gl o ((lI o)-1).toNat).low_,(gl l (t+1).toNat),(gl o ((lI o)-1).toNat).high_⟩ : Rect) (by kernel_rfl)),⟨⟩⟩ ?_
           exact Kn.R Fm (W (List.set o ((lI o)-1).toNat (⟨(gl o ((lI o)-1).toNat).left_,(gl o ((lI o)-1).toNat).low_,(gl l (t+1).toNat),(gl o ((lI o)-1).toNat).high_⟩ : Rect)) h)
          ·obtain ⟨p1,q1,s1,t1,h⟩:=gS4 h
           obtain ⟨u1,w1,y1,h⟩:=gS3 h
           refine AW.WP Fm [.s,.s,.s,.s,.s,.s,.s,.s,.s,.s,.s,.s,.s,.s,.s,.s,.s,.s,.s,.s,.w (AL (α:=Rect) ([(⟨(gl l t.toNat),(gl e i.toNat),(gl l (t+1).toNat),(gl e (i+1).toNat)⟩ : Rect)]:List Rect)),.s,.s] [(0,AL a),(1,AL b),(2,vi p),(7,AL l),(8,AL e),(13,ow 13),(14,ow 14),(15,vi i),(16,ow 135),(17,vi t)] [(13,AO u),(14,AO q),(135,AO (α:=Rect) (o++([(⟨(gl l t.toNat),(gl e i.toNat),(gl l (t+1).toNat),(gl e (i+1).toNat)⟩ : Rect)]:List Rect)))] (cA p1 (cA q1 (cA (cT s1) (cA t1 (cA (cT u1) (cA w1 (cA (ALe.lst (.lit ([(⟨(gl l t.toNat),(gl e i.toNat),(gl l (t+1).toNat),(gl e (i+1).toNat)⟩ : Rect)]:List Rect) (by kernel_rfl)):ALe (.v (.c (.d (.lst 1 (litF 4 [.int .i64 (gl l t.toNat),.int .i64 (gl e i.toNat),.int .i64 (gl l (t+1).toNat),.int .i64 (gl e (i+1).toNat)]))))) (AL (α:=Rect) ([(⟨(gl l t.toNat),(gl e i.toNat),(gl l (t+1).toNat),(gl e (i+1).toNat)⟩ : Rect)]:List Rect))) (cT (cA y1 (cT (Is.refl ([(⟨(gl l t.toNat),(gl e i.toNat),(gl l (t+1).toNat),(gl e (i+1).toNat)⟩ : Rect)]:List Rect):Is (List.length (α:=Rect) ([(⟨(gl l t.toNat),(gl e i.toNat),(gl l (t+1).toNat),(gl e (i+1).toNat)⟩ : Rect)]:List Rect)) (LF (α:=Rect) ([(⟨(gl l t.toNat),(gl e i.toNat),(gl l (t+1).toNat),(gl e (i+1).toNat)⟩ : Rect)]:List Rect)) ([(⟨(gl l t.toNat),(gl e i.toNat),(gl l (t+1).toNat),(gl e (i+1).toNat)⟩ : Rect)]:List Rect)).len)))))))))) [(135,.arr 4 ((List.length (α:=Rect) o)+(List.length (α:=Rect) ([(⟨(gl l t.toNat),(gl e i.toNat),(gl l (t+1).toNat),(gl e (i+1).toNat)⟩ : Rect)]:List Rect))) (appF (List.length (α:=Rect) o) (LF (α:=Rect) o) (LF (α:=Rect) ([(⟨(gl l t.toNat),(gl e i.toNat),(gl l (t+1).toNat),(gl e (i+1).toNat)⟩ : Rect)]:List Rect))))] ⟨OLe.is (Is.app (Is.refl o) (Is.refl ([(⟨(gl l t.toNat),(gl e i.toNat),(gl l (t+1).toNat),(gl e (i+1).toNat)⟩ : Rect)]:List Rect))),⟨⟩⟩ ?_
           exact Kn.RE Fm [(16,135)] (W (o++([(⟨(gl l t.toNat),(gl e i.toNat),(gl l (t+1).toNat),(gl e (i+1).toNat)⟩ : Rect)]:List Rect)) h)
         ·rcases br_or h with ⟨Y,h⟩|⟨Y,h⟩
          ·obtain ⟨k1,k0,l1,h⟩:=gS3 h
           refine AW.pN Fm [.s,.s,.w (vb true),.s,.s,.s,.s,.s,.s,.s,.s,.s,.s,.s,.s] [(0,AL a),(1,AL b),(2,vi p),(7,AL l),(8,AL e),(13,ow 13),(14,ow 14),(15,vi i),(16,ow 16),(17,vi t),(18,vi (lI o)),(92,ow 16),(93,vi (lI o)),(94,vi ((lI o)-1)),(95,.v (.c (.pte 16 4 (((lI o)-1).toNat) 0))),(96,.v (.c (.pte 16 4 (((lI o)-1).toNat) 2))),(97,vi (gl o ((lI o)-1).toNat).right_),(98,AL l),(99,vi t),(100,.v (.c (.elm [.int .i64 (gl l t.toNat)]))),(101,vi (gl l t.toNat)),(102,vb (((gl o ((lI o)-1).toNat).right_)==(gl l t.toNat))),(103,vb (((gl o ((lI o)-1).toNat).right_)==(gl l t.toNat)))] [(13,AO u),(14,AO q),(16,AO o)] (cA (ALe.bool Y) (cA (cT k1) (cA k0 (cA (toNat_lt k0) (cT l1))))) ?_
           exact Kn.R Fm (i0 (((gl o ((lI o)-1).toNat).right_)==(gl l t.toNat)) h)
          ·refine AW.pN Fm [.s,.s,.w (vb false),.s,.s,.s,.s,.s,.s,.s,.s,.s,.s,.s,.s] [(0,AL a),(1,AL b),(2,vi p),(7,AL l),(8,AL e),(13,ow 13),(14,ow 14),(15,vi i),(16,ow 16),(17,vi t),(18,vi (lI o)),(103,vb false)] [(13,AO u),(14,AO q),(16,AO o)] (cT (ALe.bool Y)) ?_
           exact Kn.R Fm (i0 false h)
      ·exact AW.exit (Kn.R Fm (H0 o h))
   ·exact AW.exit (Kn.R Fm (M0 (u,q) h))
 ·refine AW.SP Fm [.s,.s,.w (AL (α:=(List Rect)) ([a,b]:List (List Rect))),.s,.s] [(0,AL a),(1,AL b),(2,vi p),(7,ow 7),(8,ow 8),(22,AL (α:=(List Rect)) ([a,b]:List (List Rect))),(23,vi ((List.length ([a,b]:List (List Rect)):Nat):Int)),(24,vi 0)] [(7,AO (α:=Int) ([]:List Int)),(8,AO (α:=Int) ([]:List Int))] (cT (ALe.lst (.lit ([a,b]:List (List Rect)) (by kernel_rfl)):ALe (.v (.c (.d (.lst 2 (litF 1 [DL a,DL b]))))) (AL (α:=(List Rect)) ([a,b]:List (List Rect))))) ?_
  refine AW.block (Kn.r Fm [(0,AL a),(1,AL b),(2,vi p),(7,ow 7),(8,ow 8),(22,AL (α:=(List Rect)) ([a,b]:List (List Rect))),(23,vi ((List.length ([a,b]:List (List Rect)):Nat):Int)),(24,vi 0)] [(7,AO (α:=Int) ([]:List Int)),(8,AO (α:=Int) ([]:List Int))] (by kernel_rfl) ?_)
  refine Kn.frz [(0,AL a),(1,AL b),(2,vi p),(7,AL (α:=Int) ([]:List Int)),(8,ow 8),(22,AL (α:=(List Rect)) ([a,b]:List (List Rect))),(23,vi ((List.length ([a,b]:List (List Rect)):Nat):Int)),(24,vi 0)] [(8,AO (α:=Int) ([]:List Int))] (by kernel_rfl) (by kernel_rfl) (by kernel_rfl) ?_
  refine Kn.r Fm [(0,AL a),(1,AL b),(2,vi p),(7,AL (α:=Int) ([]:List Int)),(8,ow 8),(22,AL (α:=(List Rect)) ([a,b]:List (List Rect))),(23,vi ((List.length ([a,b]:List (List Rect)):Nat):Int)),(24,vi 0)] [(8,AO (α:=Int) ([]:List Int))] (by kernel_rfl) ?_
  refine Kn.frz [(0,AL a),(1,AL b),(2,vi p),(7,AL (α:=Int) ([]:List Int)),(8,AL (α:=Int) ([]:List Int)),(22,AL (α:=(List Rect)) ([a,b]:List (List Rect))),(23,vi ((List.length ([a,b]:List (List Rect)):Nat):Int)),(24,vi 0)] [] (by kernel_rfl) (by kernel_rfl) (by kernel_rfl) ?_
  refine Kn.r Fm [(0,AL a),(1,AL b),(2,vi p),(7,AL ([]:List Int)),(8,AL ([]:List Int)),(22,AL (α:=(List Rect)) ([a,b]:List (List Rect))),(23,vi ((List.length ([a,b]:List (List Rect)):Nat):Int)),(24,vi 0)] [] (by kernel_rfl) ?_
  refine AW.loopF (E' := fun z=>[(0,AL a),(1,AL b),(2,vi p),(7,AL z.1),(8,AL z.2.1),(22,AL (α:=(List Rect)) ([a,b]:List (List Rect))),(23,vi ((List.length ([a,b]:List (List Rect)):Nat):Int)),(24,vi z.2.2)]) (S' := fun z=>[]) (fun u0 z Z1 w0 h=>?_) h
  obtain ⟨O,P,y⟩:=z
  refine AW.SG0 Fm 1 [(0,AL a),(1,AL b),(2,vi p),(7,AL O),(8,AL P),(22,AL (α:=(List Rect)) ([a,b]:List (List Rect))),(23,vi ((List.length ([a,b]:List (List Rect)):Nat):Int)),(24,vi y),(25,vb (decide (y<((List.length ([a,b]:List (List Rect)):Nat):Int))))] [] ?_
  refine AW.seq (AW.cN h (fun N0 h=>?_) (fun N0 h=>?_))
  ·refine AW.skip (AW.join (r:=r) (fun z:(List Int)×(List Int)=>ref04_Combine_k2 F y u0 z.1 z.2) (fun z=>[(0,AL a),(1,AL b),(2,vi p),(7,AL z.1),(8,AL z.2),(22,AL (α:=(List Rect)) ([a,b]:List (List Rect))),(23,vi ((List.length ([a,b]:List (List Rect)):Nat):Int)),(24,vi y)]) (fun z=>[]) (fun z h=>?_) (fun b2 A0=>?_))
   ·obtain ⟨n0,o0⟩:=z
    obtain ⟨a1,h⟩:=gS h
    refine AW.pN Fm [.s,.s] [(0,AL a),(1,AL b),(2,vi p),(7,AL n0),(8,AL o0),(22,AL (α:=(List Rect)) ([a,b]:List (List Rect))),(23,vi ((List.length ([a,b]:List (List Rect)):Nat):Int)),(24,vi (y+1))] [] (cT (cT a1)) ?_
    exact Kn.R Fm (w0 (n0,o0,(y+1)) h)
   ·refine AW.block ?_
    obtain ⟨X0,h⟩:=gS h
    refine AW.SP Fm [.s,.s,.s] [(0,AL a),(1,AL b),(2,vi p),(7,AL O),(8,AL P),(10,AL (α:=Rect) (gl ([a,b]:List (List Rect)) y.toNat)),(22,AL (α:=(List Rect)) ([a,b]:List (List Rect))),(23,vi ((List.length ([a,b]:List (List Rect)):Nat):Int)),(24,vi y)] [] (cT X0) ?_
    refine AW.SG0 Fm 3 [(0,AL a),(1,AL b),(2,vi p),(7,AL O),(8,AL P),(22,AL (α:=(List Rect)) ([a,b]:List (List Rect))),(23,vi ((List.length ([a,b]:List (List Rect)):Nat):Int)),(24,vi y),(28,AL (α:=Rect) (gl ([a,b]:List (List Rect)) y.toNat)),(29,vi ((List.length (gl ([a,b]:List (List Rect)) y.toNat):Nat):Int)),(30,vi 0)] [] ?_
    refine AW.block (AW.loopF (E' := fun z=>[(0,AL a),(1,AL b),(2,vi p),(7,AL z.1),(8,AL z.2.1),(22,AL (α:=(List Rect)) ([a,b]:List (List Rect))),(23,vi ((List.length ([a,b]:List (List Rect)):Nat):Int)),(24,vi y),(28,AL (α:=Rect) (gl ([a,b]:List (List Rect)) y.toNat)),(29,vi ((List.length (gl ([a,b]:List (List Rect)) y.toNat):Nat):Int)),(30,vi z.2.2)]) (S' := fun z=>[]) (fun s2 z a2 y0 h=>?_) h)
    obtain ⟨c0,d0,H⟩:=z
    refine AW.SG0 Fm 1 [(0,AL a),(1,AL b),(2,vi p),(7,AL c0),(8,AL d0),(22,AL (α:=(List Rect)) ([a,b]:List (List Rect))),(23,vi ((List.length ([a,b]:List (List Rect)):Nat):Int)),(24,vi y),(28,AL (α:=Rect) (gl ([a,b]:List (List Rect)) y.toNat)),(29,vi ((List.length (gl ([a,b]:List (List Rect)) y.toNat):Nat):Int)),(30,vi H),(31,vb (decide (H<((List.length (gl ([a,b]:List (List Rect)) y.toNat):Nat):Int))))] [] ?_
    refine AW.seq (AW.cN h (fun O0 h=>?_) (fun O0 h=>?_))
    ·refine AW.skip (AW.seq (AW.block ?_))
     obtain ⟨Y0,h⟩:=gS h
     refine AW.SP Fm [.s,.s,.s,.s] [(0,AL a),(1,AL b),(2,vi p),(7,AL c0),(8,AL d0),(12,pt 12),(22,AL (α:=(List Rect)) ([a,b]:List (List Rect))),(23,vi ((List.length ([a,b]:List (List Rect)):Nat):Int)),(24,vi y),(28,AL (α:=Rect) (gl ([a,b]:List (List Rect)) y.toNat)),(29,vi ((List.length (gl ([a,b]:List (List Rect)) y.toNat):Nat):Int)),(30,vi H)] [(12,bx [ci ((gl (gl ([a,b]:List (List Rect)) y.toNat) H.toNat).left_),ci ((gl (gl ([a,b]:List (List Rect)) y.toNat) H.toNat).low_),ci ((gl (gl ([a,b]:List (List Rect)) y.toNat) H.toNat).right_),ci ((gl (gl ([a,b]:List (List Rect)) y.toNat) H.toNat).high_)])] (cT Y0) ?_
     obtain ⟨V1,L1,h⟩:=bS h
     obtain ⟨T,M1,h⟩:=bS h
     obtain ⟨W1,N1,h⟩:=bS h
     obtain ⟨U,O1,h⟩:=bS h
     refine AW.G Fm [.s,.s,.s,.k (cE [] [] (AL V1) [] []),.s,.s,.k (cE [] [] (AL T) [] []),.s,.s,.s,.k (cE [] [] (AL W1) [] []),.s,.s,.k (cE [] [] (AL U) [] []),.s,.s] (fun K=>K 3∧K 6∧K 10∧K 13∧True) [(0,AL a),(1,AL b),(2,vi p),(7,AL T),(8,AL U),(22,AL (α:=(List Rect)) ([a,b]:List (List Rect))),(23,vi ((List.length ([a,b]:List (List Rect)):Nat):Int)),(24,vi y),(28,AL (α:=Rect) (gl ([a,b]:List (List Rect)) y.toNat)),(29,vi ((List.length (gl ([a,b]:List (List Rect)) y.toNat):Nat):Int)),(30,vi H)] [] ⟨KAt.CC (ref01_Put_spec L1) Try.call58 [],KAt.CC (ref01_Put_spec M1) Try.call58 [],KAt.CC (ref01_Put_spec N1) Try.call58 [],KAt.CC (ref01_Put_spec O1) Try.call58 [],⟨⟩⟩ ?_
     obtain ⟨Z0,h⟩:=gS h
     refine AW.pN Fm [.s,.s] [(0,AL a),(1,AL b),(2,vi p),(7,AL T),(8,AL U),(22,AL (α:=(List Rect)) ([a,b]:List (List Rect))),(23,vi ((List.length ([a,b]:List (List Rect)):Nat):Int)),(24,vi y),(28,AL (α:=Rect) (gl ([a,b]:List (List Rect)) y.toNat)),(29,vi ((List.length (gl ([a,b]:List (List Rect)) y.toNat):Nat):Int)),(30,vi (H+1))] [] (cT (cT Z0)) ?_
     exact Kn.R Fm (y0 (T,U,(H+1)) h)
    ·exact AW.exit (Kn.R Fm (A0 (c0,d0) h))
  ·exact AW.exit (Kn.R Fm (B0 (O,P) h))
theorem ref04_Bound_spec {F:Nat} {a:(List Rect)} {r:Region×Int} (h:ref04_Bound F a=some r) :
  FSpec Try.prog 62 [AL a] [] (.t [.g [.d (DL (α:=Rect) r.1.rects_)],.c (ci r.2)]) []:=by
 refine FI Try.func62 prog_mixed prog_lay fun C Fm=>?_
 unfold ref04_Bound at h
 refine AW.SG0 Fm 2 [(0,AL a),(2,pt 2)] [(2,bx [.fl 0 fun _=>[]])] ?_
 refine AW.seq (AW.SG0 Fm 3 [(0,AL a),(2,pt 2),(6,vb (decide ((120:Int)<(lI a))))] [(2,bx [.fl 0 fun _=>[]])] ?_)
 refine AW.cN h (fun b h=>?_) (fun b h=>?_)
 ·refine AW.SP Fm [.w (.v (.g [.d (DL (α:=Rect) [])])),.s,.s] [(2,pt 2),(3,vi 1)] [(2,bx [.d (DL (α:=Rect) [])])] (cT (ALe.g ⟨CLe.fl .nil,⟨⟩⟩ : ALe (.v (.g [.fl 0 fun _=>[]])) (.v (.g [.d (DL (α:=Rect) [])])))) ?_
  refine AW.ret ?_
  obtain rfl:=Option.some.inj h
  exact Kn.D Fm
 ·refine AW.skip (AW.SG0 Fm 4 [(2,pt 2),(3,vi 0)] [(2,bx [.d (DL a)])] ?_)
  refine AW.ret ?_
  obtain rfl:=Option.some.inj h
  exact Kn.D Fm
theorem ref04_Of_spec {F:Nat} {a:(List Rect)} {r:Region×Int} (h:ref04_Of F a=some r) :
  FSpec Try.prog 51 [AL a] [] (.t [.g [.d (DL (α:=Rect) r.1.rects_)],.c (ci r.2)]) []:=by
 refine FI Try.func51 prog_mixed prog_lay fun C Fm=>?_
 unfold ref04_Of at h
 refine AW.SG0 Fm 2 [(0,AL a),(2,pt 2)] [(2,bx [.fl 0 fun _=>[]])] ?_
 refine AW.seq (AW.SG0 Fm 3 [(0,AL a),(2,pt 2),(8,vb (decide ((120:Int)<(lI a))))] [(2,bx [.fl 0 fun _=>[]])] ?_)
 refine AW.cN h (fun m h=>?_) (fun m h=>?_)
 ·refine AW.SP Fm [.w (.v (.g [.d (DL (α:=Rect) [])])),.s,.s] [(2,pt 2),(3,vi 1)] [(2,bx [.d (DL (α:=Rect) [])])] (cT (ALe.g ⟨CLe.fl .nil,⟨⟩⟩ : ALe (.v (.g [.fl 0 fun _=>[]])) (.v (.g [.d (DL (α:=Rect) [])])))) ?_
  refine AW.ret ?_
  obtain rfl:=Option.some.inj h
  exact Kn.D Fm
 ·refine AW.skip (AW.join (r:=r) (fun z:Unit=>ref04_Of_k1 F a) (fun z=>[(0,AL a),(2,pt 2)]) (fun z=>[(2,bx [.fl 0 fun _=>[]])]) (fun z h=>?_) (fun I l=>?_))
  ·refine AW.seq ?_
   obtain ⟨E,A,h⟩:=bS h
   obtain ⟨e,B,h⟩:=bS h
   refine AW.G Fm [.s,.k (cE [] [] (AL E) [] []),.k (cE [] [] (.t [.g [.d (DL e.1.rects_)],.c (ci e.2)]) [] []),.s,.s,.s,.s] (fun K=>K 1∧K 2∧True) [(2,pt 2),(3,vi e.2)] [(2,bx [.d (DL e.1.rects_)])] ⟨KAt.callX (ref04_Combine_spec A) Try.call50 [] [] [.tmp 21,.const (.slice none 0 0),.const (.int .i64 1)] rfl (by kernel_rfl) (by kernel_rfl) (by kernel_rfl) ⟨.p,ArgT.plain (by kernel_rfl) (ALe.c (CLe.fl .nil)) (by kernel_rfl),.p,⟨⟩⟩,KAt.CC (ref04_Bound_spec B) Try.call62 [],⟨⟩⟩ ?_
   refine AW.ret ?_
   obtain rfl:=Option.some.inj h
   exact Kn.D Fm
  ·refine AW.SG0 Fm 3 [(0,AL a),(2,pt 2),(10,AL a),(11,vi (lI a)),(12,vi 0)] [(2,bx [.fl 0 fun _=>[]])] ?_
   refine AW.block (AW.loopF (E' := fun z=>[(0,AL a),(2,pt 2),(10,AL a),(11,vi (lI a)),(12,vi z)]) (S' := fun z=>[(2,bx [.fl 0 fun _=>[]])]) (fun L b H j h=>?_) h)
   refine AW.SG0 Fm 1 [(0,AL a),(2,pt 2),(10,AL a),(11,vi (lI a)),(12,vi b),(13,vb (decide (b<(lI a))))] [(2,bx [.fl 0 fun _=>[]])] ?_
   refine AW.seq (AW.cN h (fun n h=>?_) (fun n h=>?_))
   ·refine AW.skip (AW.seq (AW.block ?_))
    obtain ⟨q,h⟩:=gS h
    refine AW.SP Fm [.s,.s,.s,.s] [(0,AL a),(2,pt 2),(5,pt 5),(10,AL a),(11,vi (lI a)),(12,vi b)] [(2,bx [.fl 0 fun _=>[]]),(5,bx [ci ((gl a b.toNat).left_),ci ((gl a b.toNat).low_),ci ((gl a b.toNat).right_),ci ((gl a b.toNat).high_)])] (cT q) ?_
    refine AW.seq ?_
    obtain ⟨i,y,h⟩:=bS h
    refine AW.G Fm [.s,.k (cE [] [] (vb i) [] []),.s] (fun K=>K 1∧True) [(0,AL a),(2,pt 2),(10,AL a),(11,vi (lI a)),(12,vi b),(18,vb (!i))] [(2,bx [.fl 0 fun _=>[]])] ⟨KAt.CC (ref04_proper_spec y) Try.call49 [],⟨⟩⟩ ?_
    refine AW.cN h (fun o h=>?_) (fun o h=>?_)
    ·refine AW.SP Fm [.w (.v (.g [.d (DL (α:=Rect) [])])),.s,.s] [(2,pt 2),(3,vi 2)] [(2,bx [.d (DL (α:=Rect) [])])] (cT (ALe.g ⟨CLe.fl .nil,⟨⟩⟩ : ALe (.v (.g [.fl 0 fun _=>[]])) (.v (.g [.d (DL (α:=Rect) [])])))) ?_
     refine AW.ret ?_
     obtain rfl:=Option.some.inj h
     exact Kn.D Fm
    ·refine AW.skip ?_
     obtain ⟨u,h⟩:=gS h
     refine AW.pN Fm [.s,.s] [(0,AL a),(2,pt 2),(10,AL a),(11,vi (lI a)),(12,vi (b+1))] [(2,bx [.fl 0 fun _=>[]])] (cT (cT u)) ?_
     exact Kn.R Fm (j (b+1) h)
   ·exact AW.exit (Kn.R Fm (l () h))
theorem keep_Tape_Region_spec {F:Nat} {l:Tape} {b:Int} {u:Int} {r:Tape×Region} (h:keep_Tape_Region F l b u=some r) :
  FSpec Try.prog 39 [pt 0,vi b,vi u] [(0,bx (gC l))] (.v (.g [.d (DL (α:=Rect) r.2.rects_)])) [(0,bx (gC r.1))]:=by
 refine FI Try.func39 prog_mixed prog_lay fun C Fm=>?_
 unfold keep_Tape_Region at h
 refine AW.SG0 Fm 1 [(0,pt 0),(1,vi b),(2,vi u),(6,pt 6)] [(0,bx (gC l)),(6,bx [.fl 0 fun _=>[]])] ?_
 refine AW.SW Fm [.m] (fun K=>True) [(0,pt 0),(1,vi b),(2,vi u),(6,pt 6),(7,ow 7)] [(0,bx (gC l)),(6,bx [.fl 0 fun _=>[]]),(7,AO (α:=Rect) ([]:List Rect))] True.intro [(7,.arr 4 (0) (fun _=>[]))] ⟨OLe.is ((Is.nil (α:=Rect))),⟨⟩⟩ ?_
 refine AW.join (r:=r) (fun z:(List Rect)×(List Int)×Int=>keep_Tape_Region_k1 F z.1 z.2.1 z.2.2) (fun z=>[(6,pt 6),(7,ow 7)]) (fun z=>[(0,bx [.d (DL z.2.1),ci z.2.2]),(6,bx [.fl 0 fun _=>[]]),(7,AO z.1)]) (fun z h=>?_) (fun U E=>?_)
 ·obtain ⟨A,p,q⟩:=z
  refine AW.seq (Kn.r Fm [(6,pt 6),(7,ow 7)] [(7,AO A),(0,bx [.d (DL p),ci q]),(6,bx [.fl 0 fun _=>[]])] (by kernel_rfl) ?_)
  refine Kn.frz [(6,pt 6),(7,AL A)] [(0,bx [.d (DL p),ci q]),(6,bx [.fl 0 fun _=>[]])] (by kernel_rfl) (by kernel_rfl) (by kernel_rfl) ?_
  obtain ⟨y,P,h⟩:=bS h
  refine AW.G Fm [.s,.k (cE [] [] (.t [.g [.d (DL y.1.rects_)],.c (ci y.2)]) [] []),.s,.s,.s,.s,.s,.s] (fun K=>K 1∧True) [(6,pt 6),(9,pt 9)] [(0,bx [.d (DL p),ci q]),(6,bx [.fl 0 fun _=>[]]),(9,bx [.d (DL y.1.rects_)])] ⟨KAt.CC (ref04_Of_spec P) Try.call51 [],⟨⟩⟩ ?_
  refine AW.SG0 Fm 2 [(6,pt 6)] [(0,bx [.d (DL p),ci q]),(6,bx [.d (DL y.1.rects_)])] ?_
  refine AW.ret ?_
  obtain rfl:=Option.some.inj h
  exact Kn.D Fm
 ·refine AW.seq ?_
  obtain ⟨I,h⟩:=gS h
  obtain ⟨i,N,h⟩:=bS h
  refine AW.G Fm [.s,.s,.s,.k (cE [(0,0)] [] (vi i.2) [(0,bx (gC l))] [(0,bx (gC i.1))]),.s] (fun K=>(_∧True)∧K 3∧True) [(0,pt 0),(1,vi b),(6,pt 6),(7,ow 7),(8,vi i.2)] [(0,bx (gC i.1)),(6,bx [.fl 0 fun _=>[]]),(7,AO (α:=Rect) ([]:List Rect))] ⟨⟨I,⟨⟩⟩,KAt.CC (keep_Tape_Next_spec N) Try.call9 [(0,0)],⟨⟩⟩ ?_
  refine AW.block (Kn.r Fm [(0,pt 0),(1,vi b),(6,pt 6),(7,ow 7),(8,vi i.2)] [(0,bx [.d (DL i.1.l_),ci i.1.at_]),(6,bx [.fl 0 fun _=>[]]),(7,AO ([]:List Rect))] (by kernel_rfl) ?_)
  refine AW.loopF (E' := fun z=>[(0,pt 0),(1,vi b),(6,pt 6),(7,ow 7),(8,vi z.1)]) (S' := fun z=>[(0,bx [.d (DL z.2.1),ci z.2.2.1]),(6,bx [.fl 0 fun _=>[]]),(7,AO z.2.2.2)]) (fun V z T B h=>?_) h
  obtain ⟨j,n,o,e⟩:=z
  refine AW.seq (AW.SG0 Fm 2 [(0,pt 0),(1,vi b),(6,pt 6),(7,ow 7),(8,vi j),(16,vb (decide ((0:Int)<j)))] [(0,bx [.d (DL n),ci o]),(6,bx [.fl 0 fun _=>[]]),(7,AO e)] ?_)
  refine AW.cN h (fun H h=>?_) (fun H h=>?_)
  ·refine AW.skip (AW.seq (AW.block ?_))
   obtain ⟨a,O,h⟩:=bS h
   obtain ⟨L,h⟩:=gS h
   refine AW.GW Fm [.s,.s,.s,.k (cE [(0,0)] [] (gE a.2) [(0,bx [.d (DL (α:=Int) (⟨n,o⟩ : Tape).l_),ci ((⟨n,o⟩ : Tape).at_)])] [(0,bx (gC a.1))]),.w (AL (α:=Rect) ([a.2]:List Rect)),.s,.s] (fun K=>K 3∧(ALe (.v (.c (.d (.lst 1 (litF 4 [.int .i64 a.2.left_,.int .i64 a.2.low_,.int .i64 a.2.right_,.int .i64 a.2.high_]))))) (AL (α:=Rect) ([a.2]:List Rect)))∧(_∧_∧True)∧True) [(0,pt 0),(1,vi b),(6,pt 6),(7,ow 24),(8,vi j)] [(0,bx (gC a.1)),(6,bx [.fl 0 fun _=>[]]),(24,AO (α:=Rect) (e++([a.2]:List Rect)))] ⟨KAt.CC (keep_Tape_Rect_spec O) Try.call40 [(0,0)],ALe.lst (.lit ([a.2]:List Rect) (by kernel_rfl)),⟨L,(Is.refl ([a.2]:List Rect):Is (List.length (α:=Rect) ([a.2]:List Rect)) (LF (α:=Rect) ([a.2]:List Rect)) ([a.2]:List Rect)).len,⟨⟩⟩,⟨⟩⟩ [(24,.arr 4 ((List.length (α:=Rect) e)+(List.length (α:=Rect) ([a.2]:List Rect))) (appF (List.length (α:=Rect) e) (LF (α:=Rect) e) (LF (α:=Rect) ([a.2]:List Rect))))] ⟨OLe.is (Is.app (Is.refl e) (Is.refl ([a.2]:List Rect))),⟨⟩⟩ ?_
   obtain ⟨M,h⟩:=gS h
   refine AW.pN Fm [.s,.s,.s] [(0,pt 0),(1,vi b),(6,pt 6),(7,ow 24),(8,vi (j-1))] [(0,bx (gC a.1)),(6,bx [.fl 0 fun _=>[]]),(24,AO (α:=Rect) (e++([a.2]:List Rect)))] (cT (cT M)) ?_
   exact Kn.RE Fm [(7,24)] (B ((j-1),a.1.l_,a.1.at_,(e++([a.2]:List Rect))) h)
  ·exact AW.exit (Kn.R Fm (E (e,n,o) h))
theorem keep_Tape_Land_spec {F:Nat} {i:Tape} {e:Int} {j:Int} {r:Tape×Region} (h:keep_Tape_Land F i e j=some r) :
  FSpec Try.prog 26 [pt 0,vi e,vi j] [(0,bx (gC i))] (.v (.g [.d (DL (α:=Rect) r.2.rects_)])) [(0,bx (gC r.1))]:=by
 refine FI Try.func26 prog_mixed prog_lay fun C Fm=>?_
 unfold keep_Tape_Land at h
 refine AW.SG0 Fm 1 [(0,pt 0),(1,vi e),(2,vi j),(6,pt 6)] [(0,bx (gC i)),(6,bx [.fl 0 fun _=>[]])] ?_
 refine AW.seq ?_
 obtain ⟨b,n,h⟩:=bS h
 refine AW.G Fm [.s,.s,.s,.k (cE [(0,0)] [] (.v (.g [.d (DL b.2.rects_)])) [(0,bx (gC i))] [(0,bx (gC b.1))]),.s,.s] (fun K=>K 3∧True) [(0,pt 0),(1,vi e),(6,pt 6),(7,pt 7)] [(0,bx (gC b.1)),(6,bx [.fl 0 fun _=>[]]),(7,bx [.d (DL b.2.rects_)])] ⟨KAt.CC (keep_Tape_Region_spec n) Try.call39 [(0,0)],⟨⟩⟩ ?_
 refine AW.join (r:=r) (fun z:(List Rect)×(List Int)×Int=>keep_Tape_Land_k0 F z.1 z.2.1 z.2.2) (fun z=>[(6,pt 6),(7,pt 7)]) (fun z=>[(0,bx [.d (DL z.2.1),ci z.2.2]),(6,bx [.fl 0 fun _=>[]]),(7,bx [.d (DL z.1)])]) (fun z h=>?_) (fun u l=>?_)
 ·obtain ⟨p,q,t⟩:=z
  refine AW.SG0 Fm 2 [(6,pt 6)] [(0,bx [.d (DL q),ci t]),(6,bx [.d (DL p)])] ?_
  refine AW.ret ?_
  obtain rfl:=Option.some.inj h
  exact Kn.D Fm
 ·refine AW.SG0 Fm 4 [(0,pt 0),(1,vi e),(6,pt 6),(7,pt 7),(15,vb ((lI b.2.rects_)==(0:Int)))] [(0,bx (gC b.1)),(6,bx [.fl 0 fun _=>[]]),(7,bx [.d (DL b.2.rects_)])] ?_
  refine AW.cN h (fun m h=>?_) (fun m h=>?_)
  ·obtain ⟨a,o,h⟩:=bS h
   refine AW.G Fm [.s,.s,.k (cE [(0,0)] [] (gE a.2) [(0,bx (gC b.1))] [(0,bx (gC a.1))]),.w (AL (α:=Rect) ([a.2]:List Rect)),.s,.s] (fun K=>K 2∧(ALe (.v (.c (.d (.lst 1 (litF 4 [.int .i64 a.2.left_,.int .i64 a.2.low_,.int .i64 a.2.right_,.int .i64 a.2.high_]))))) (AL (α:=Rect) ([a.2]:List Rect)))∧True) [(6,pt 6),(7,pt 7)] [(0,bx (gC a.1)),(6,bx [.fl 0 fun _=>[]]),(7,bx [.d (DL (α:=Rect) ([a.2]:List Rect))])] ⟨KAt.CC (keep_Tape_Rect_spec o) Try.call40 [(0,0)],ALe.lst (.lit ([a.2]:List Rect) (by kernel_rfl)),⟨⟩⟩ ?_
   exact Kn.R Fm (l (([a.2]:List Rect),a.1.l_,a.1.at_) h)
  ·exact AW.skip (Kn.R Fm (l (b.2.rects_,b.1.l_,b.1.at_) h))
theorem keep_Tape_Feature_spec {F:Nat} {c:Tape} {b:Int} {r:Tape×Feature} (h:keep_Tape_Feature F c b=some r) :
  FSpec Try.prog 11 [pt 0,vi b] [(0,bx (gC c))] (gE r.2) [(0,bx (gC r.1))]:=by
 refine FI Try.func11 prog_mixed prog_lay fun C Fm=>?_
 unfold keep_Tape_Feature at h
 refine AW.SG0 Fm 1 [(0,pt 0),(1,vi b),(4,pt 4)] [(0,bx (gC c)),(4,bx [ci 0,ci 0,ci 0,ci 0,.fl 0 fun _=>[]])] ?_
 refine AW.seq ?_
 obtain ⟨a,m,h⟩:=bS h
 refine AW.G Fm [.s,.k (cE [(0,0)] [] (vi a.2) [(0,bx (gC c))] [(0,bx (gC a.1))]),.s] (fun K=>K 1∧True) [(0,pt 0),(1,vi b),(4,pt 4),(5,vi a.2)] [(0,bx (gC a.1)),(4,bx [ci 0,ci 0,ci 0,ci 0,.fl 0 fun _=>[]])] ⟨KAt.CC (keep_Tape_Next_spec m) Try.call9 [(0,0)],⟨⟩⟩ ?_
 refine AW.seq ?_
 obtain ⟨e,n,h⟩:=bS h
 obtain ⟨i,o,h⟩:=bS h
 obtain ⟨l,h⟩:=gS h
 obtain ⟨j,p,h⟩:=bS h
 refine AW.G Fm [.s,.s,.k (cE [(0,0)] [] (vi e.2) [(0,bx (gC a.1))] [(0,bx (gC e.1))]),.s,.s,.s,.k (cE [(0,0)] [] (vi i.2) [(0,bx (gC e.1))] [(0,bx (gC i.1))]),.s,.s,.k (cE [(0,0)] [] (.v (.g [.d (DL j.2.rects_)])) [(0,bx (gC i.1))] [(0,bx (gC j.1))]),.s,.s] (fun K=>K 2∧K 6∧(_∧True)∧K 9∧True) [(4,pt 4)] [(0,bx (gC j.1)),(4,bx [ci b,ci e.2,ci a.2,ci (a.2+i.2),.d (DL j.2.rects_)])] ⟨KAt.CC (keep_Tape_Next_spec n) Try.call9 [(0,0)],KAt.CC (keep_Tape_Range_spec o) Try.call12 [(0,0)],⟨l,⟨⟩⟩,KAt.CC (keep_Tape_Land_spec p) Try.call26 [(0,0)],⟨⟩⟩ ?_
 refine AW.ret ?_
 obtain rfl:=Option.some.inj h
 exact Kn.D Fm
theorem ref04_Rects_spec {F:Nat} {c:(List Rect)} {d:(List Rect)} {r:Bool} (h:ref04_Rects F c d=some r) :
  FSpec Try.prog 32 [AL c,AL d] [] (vb r) []:=by
 refine FI Try.func32 prog_mixed prog_lay fun C Fm=>?_
 unfold ref04_Rects at h
 refine AW.SG0 Fm 1 [(0,AL c),(1,AL d)] [] ?_
 refine AW.seq (AW.SG0 Fm 5 [(0,AL c),(1,AL d),(10,vb ((lI c) != (lI d)))] [] ?_)
 refine AW.cN h (fun j h=>?_) (fun j h=>?_)
 ·refine AW.SG0 Fm 1 [(4,vb false)] [] ?_
  refine AW.ret ?_
  obtain rfl:=Option.some.inj h
  exact Kn.D Fm
 ·refine AW.skip (AW.join (r:=r) (fun z:Unit=>ref04_Rects_k1 F) (fun z=>[]) (fun z=>[]) (fun z h=>?_) (fun t i=>?_))
  ·refine AW.SG0 Fm 1 [(4,vb true)] [] ?_
   refine AW.ret ?_
   obtain rfl:=Option.some.inj h
   exact Kn.D Fm
  ·refine AW.SG0 Fm 3 [(0,AL c),(1,AL d),(12,vi (lI c)),(13,vi 0)] [] ?_
   refine AW.block (AW.loopF (E' := fun z=>[(0,AL c),(1,AL d),(12,vi (lI c)),(13,vi z)]) (S' := fun z=>[]) (fun u a q e h=>?_) h)
   refine AW.SG0 Fm 1 [(0,AL c),(1,AL d),(12,vi (lI c)),(13,vi a),(14,vb (decide (a<(lI c))))] [] ?_
   refine AW.seq (AW.cN h (fun l h=>?_) (fun l h=>?_))
   ·refine AW.skip (AW.seq (AW.block (AW.SG0 Fm 2 [(0,AL c),(1,AL d),(5,vi a),(12,vi (lI c)),(13,vi a)] [] ?_)))
    obtain ⟨n,o,h⟩:=gS2 h
    refine AW.SG Fm [.s,.s,.s,.s,.s,.s,.s,.s,.k (sE (vb (!((((gl c a.toNat).left_)==((gl d a.toNat).left_))&&((((gl c a.toNat).low_)==((gl d a.toNat).low_))&&((((gl c a.toNat).right_)==((gl d a.toNat).right_))&&((((gl c a.toNat).high_)==((gl d a.toNat).high_))&&true)))))))] (fun K=>_∧_∧K 8∧True) [(0,AL c),(1,AL d),(12,vi (lI c)),(13,vi a),(24,vb (!((((gl c a.toNat).left_)==((gl d a.toNat).left_))&&((((gl c a.toNat).low_)==((gl d a.toNat).low_))&&((((gl c a.toNat).right_)==((gl d a.toNat).right_))&&((((gl c a.toNat).high_)==((gl d a.toNat).high_))&&true))))))] [] ⟨n,o,KAt.eq (xs:=[ci ((gl c a.toNat).left_),ci ((gl c a.toNat).low_),ci ((gl c a.toNat).right_),ci ((gl c a.toNat).high_)]) (ys:=[ci ((gl d a.toNat).left_),ci ((gl d a.toNat).low_),ci ((gl d a.toNat).right_),ci ((gl d a.toNat).high_)]) eqT53 false (b:=((((gl c a.toNat).left_)==((gl d a.toNat).left_))&&((((gl c a.toNat).low_)==((gl d a.toNat).low_))&&((((gl c a.toNat).right_)==((gl d a.toNat).right_))&&((((gl c a.toNat).high_)==((gl d a.toNat).high_))&&true))))) rfl rfl (by kernel_rfl) (by kernel_rfl) (by kernel_rfl) (by kernel_rfl),⟨⟩⟩ ?_
    refine AW.cN h (fun m h=>?_) (fun m h=>?_)
    ·refine AW.SG0 Fm 1 [(4,vb false)] [] ?_
     refine AW.ret ?_
     obtain rfl:=Option.some.inj h
     exact Kn.D Fm
    ·refine AW.skip ?_
     obtain ⟨p,h⟩:=gS h
     refine AW.pN Fm [.s,.s] [(0,AL c),(1,AL d),(12,vi (lI c)),(13,vi (a+1))] [] (cT (cT p)) ?_
     exact Kn.R Fm (e (a+1) h)
   ·exact AW.exit (Kn.R Fm (i () h))
theorem ref04_Valid_spec {F:Nat} {a:Region} {r:Bool} (h:ref04_Valid F a=some r) :
  FSpec Try.prog 38 [.v (.g [.d (DL a.rects_)])] [] (vb r) []:=by
 refine FI Try.func38 prog_mixed prog_lay fun C Fm=>?_
 unfold ref04_Valid at h
 refine AW.SG0 Fm 2 [(1,pt 1)] [(1,bx [.d (DL a.rects_)])] ?_
 refine AW.seq (AW.SG0 Fm 4 [(1,pt 1),(8,vb (decide ((120:Int)<(lI a.rects_))))] [(1,bx [.d (DL a.rects_)])] ?_)
 refine AW.cN h (fun m h=>?_) (fun m h=>?_)
 ·refine AW.SG0 Fm 1 [(2,vb false)] [] ?_
  refine AW.ret ?_
  obtain rfl:=Option.some.inj h
  exact Kn.D Fm
 ·refine AW.skip (AW.join (r:=r) (fun z:Unit=>ref04_Valid_k1 F a) (fun z=>[(1,pt 1)]) (fun z=>[(1,bx [.d (DL a.rects_)])]) (fun z h=>?_) (fun E l=>?_))
  ·refine AW.seq ?_
   obtain ⟨A,w,h⟩:=bS h
   obtain ⟨i,y,h⟩:=bS h
   refine AW.G Fm [.s,.s,.k (cE [] [] (AL A) [] []),.s,.s,.k (cE [] [] (vb i) [] []),.s] (fun K=>K 2∧K 5∧True) [(2,vb i)] [] ⟨KAt.callX (ref04_Combine_spec w) Try.call50 [] [] [.tmp 21,.const (.slice none 0 0),.const (.int .i64 1)] rfl (by kernel_rfl) (by kernel_rfl) (by kernel_rfl) ⟨.p,ArgT.plain (by kernel_rfl) (ALe.c (CLe.fl .nil)) (by kernel_rfl),.p,⟨⟩⟩,KAt.CC (ref04_Rects_spec y) Try.call32 [],⟨⟩⟩ ?_
   refine AW.ret ?_
   obtain rfl:=Option.some.inj h
   exact Kn.D Fm
  ·refine AW.SG0 Fm 4 [(1,pt 1),(10,AL a.rects_),(11,vi (lI a.rects_)),(12,vi 0)] [(1,bx [.d (DL a.rects_)])] ?_
   refine AW.block (AW.loopF (E' := fun z=>[(1,pt 1),(10,AL a.rects_),(11,vi (lI a.rects_)),(12,vi z)]) (S' := fun z=>[(1,bx [.d (DL a.rects_)])]) (fun H b B j h=>?_) h)
   refine AW.SG0 Fm 1 [(1,pt 1),(10,AL a.rects_),(11,vi (lI a.rects_)),(12,vi b),(13,vb (decide (b<(lI a.rects_))))] [(1,bx [.d (DL a.rects_)])] ?_
   refine AW.seq (AW.cN h (fun n h=>?_) (fun n h=>?_))
   ·refine AW.skip (AW.seq (AW.block ?_))
    obtain ⟨q,h⟩:=gS h
    refine AW.SP Fm [.s,.s,.s,.s] [(1,pt 1),(4,pt 4),(10,AL a.rects_),(11,vi (lI a.rects_)),(12,vi b)] [(1,bx [.d (DL a.rects_)]),(4,bx [ci ((gl a.rects_ b.toNat).left_),ci ((gl a.rects_ b.toNat).low_),ci ((gl a.rects_ b.toNat).right_),ci ((gl a.rects_ b.toNat).high_)])] (cT q) ?_
    refine AW.seq ?_
    obtain ⟨e,u,h⟩:=bS h
    refine AW.G Fm [.s,.k (cE [] [] (vb e) [] []),.s] (fun K=>K 1∧True) [(1,pt 1),(10,AL a.rects_),(11,vi (lI a.rects_)),(12,vi b),(18,vb (!e))] [(1,bx [.d (DL a.rects_)])] ⟨KAt.CC (ref04_proper_spec u) Try.call49 [],⟨⟩⟩ ?_
    refine AW.cN h (fun o h=>?_) (fun o h=>?_)
    ·refine AW.SG0 Fm 1 [(2,vb false)] [] ?_
     refine AW.ret ?_
     obtain rfl:=Option.some.inj h
     exact Kn.D Fm
    ·refine AW.skip ?_
     obtain ⟨t,h⟩:=gS h
     refine AW.pN Fm [.s,.s] [(1,pt 1),(10,AL a.rects_),(11,vi (lI a.rects_)),(12,vi (b+1))] [(1,bx [.d (DL a.rects_)])] (cT (cT t)) ?_
     exact Kn.R Fm (j (b+1) h)
   ·exact AW.exit (Kn.R Fm (l () h))
theorem ref09_one_spec {F:Nat} {a:Feature} {r:Int} (h:ref09_one F a=some r) :
  FSpec Try.prog 25 [gE a] [] (vi r) []:=by
 refine FI Try.func25 prog_mixed prog_lay fun C Fm=>?_
 unfold ref09_one at h
 refine AW.SG0 Fm 2 [(1,pt 1)] [(1,bx (gC a))] ?_
 refine AW.seq (AW.block (AW.join (r:=r) (fun z:Bool=>ref09_one_k0 F a z) (fun z=>[(1,pt 1),(3,vb z)]) (fun z=>[(1,bx (gC a))]) (fun I h=>?_) (fun A l=>?_)))
 ·refine AW.cN h (fun q h=>?_) (fun q h=>?_)
  ·refine AW.SG0 Fm 1 [(2,vi 2)] [] ?_
   refine AW.ret ?_
   obtain rfl:=Option.some.inj h
   exact Kn.D Fm
  ·refine AW.join (r:=r) (fun z:Bool=>ref09_one_k1 F a z) (fun z=>[(1,pt 1),(12,vb z)]) (fun z=>[(1,bx (gC a))]) (fun L h=>?_) (fun B m=>?_)
   ·refine AW.cN h (fun t h=>?_) (fun t h=>?_)
    ·refine AW.SG0 Fm 1 [(2,vi 14)] [] ?_
     refine AW.ret ?_
     obtain rfl:=Option.some.inj h
     exact Kn.D Fm
    ·refine AW.join (r:=r) (fun z:Bool=>ref09_one_k2 F a z) (fun z=>[(1,pt 1),(21,vb z)]) (fun z=>[(1,bx (gC a))]) (fun M h=>?_) (fun E c=>?_)
     ·refine AW.cN h (fun u h=>?_) (fun u h=>?_)
      ·refine AW.SG0 Fm 1 [(2,vi 9)] [] ?_
       refine AW.ret ?_
       obtain rfl:=Option.some.inj h
       exact Kn.D Fm
      ·refine AW.join (r:=r) (fun z:Bool=>ref09_one_k3 F z) (fun z=>[(37,vb z)]) (fun z=>[]) (fun N h=>?_) (fun H n=>?_)
       ·refine AW.cN h (fun y h=>?_) (fun y h=>?_)
        ·refine AW.SG0 Fm 1 [(2,vi 7)] [] ?_
         refine AW.ret ?_
         obtain rfl:=Option.some.inj h
         exact Kn.D Fm
        ·refine AW.skip (AW.SG0 Fm 1 [(2,vi 0)] [] ?_)
         refine AW.ret ?_
         obtain rfl:=Option.some.inj h
         exact Kn.D Fm
       ·obtain ⟨p,o,h⟩:=bS h
        rcases br_or h with ⟨j,h⟩|⟨j,h⟩
        ·refine AW.G Fm [.s,.s,.k (cE [] [] (vb p) [] []),.s,.w (vb true),.s,.s,.s,.s,.s,.s,.s] (fun K=>K 2∧_∧True) [(37,vb true)] [] ⟨KAt.CC (ref04_Valid_spec o) Try.call38 [],ALe.bool j,⟨⟩⟩ ?_
         exact Kn.R Fm (n true h)
        ·refine AW.G Fm [.s,.s,.k (cE [] [] (vb p) [] []),.s,.w (vb false),.s,.s,.s,.s,.s,.s,.s] (fun K=>K 2∧_∧True) [(37,vb ((lI a.region_.rects_)==(0:Int)))] [] ⟨KAt.CC (ref04_Valid_spec o) Try.call38 [],ALe.bool j,⟨⟩⟩ ?_
         exact Kn.R Fm (n ((lI a.region_.rects_)==(0:Int)) h)
     ·rcases br_or h with ⟨b,h⟩|⟨b,h⟩
      ·refine AW.pN Fm [.s,.s,.s,.w (vb true),.s,.s,.s,.s,.s,.s,.s,.s,.s,.s,.s,.s] [(1,pt 1),(21,vb true)] [(1,bx (gC a))] (cT (ALe.bool b)) ?_
       exact Kn.R Fm (c true h)
      ·rcases br_or h with ⟨i,h⟩|⟨i,h⟩
       ·refine AW.pN Fm [.s,.s,.s,.w (vb false),.s,.s,.s,.s,.s,.s,.w (vb true),.s,.s,.s,.s,.s] [(1,pt 1),(21,vb true)] [(1,bx (gC a))] (cA (ALe.bool b) (cT (ALe.bool i))) ?_
        exact Kn.R Fm (c true h)
       ·refine AW.pN Fm [.s,.s,.s,.w (vb false),.s,.s,.s,.s,.s,.s,.w (vb false),.s,.s,.s,.s,.s] [(1,pt 1),(21,vb (decide ((36865:Int)<a.until_)))] [(1,bx (gC a))] (cA (ALe.bool b) (cT (ALe.bool i))) ?_
        exact Kn.R Fm (c (decide ((36865:Int)<a.until_)) h)
   ·rcases br_or h with ⟨e,h⟩|⟨e,h⟩
    ·refine AW.pN Fm [.s,.s,.s,.w (vb true),.s,.s,.s,.s,.s] [(1,pt 1),(12,vb true)] [(1,bx (gC a))] (cT (ALe.bool e)) ?_
     exact Kn.R Fm (m true h)
    ·refine AW.pN Fm [.s,.s,.s,.w (vb false),.s,.s,.s,.s,.s] [(1,pt 1),(12,vb (decide ((15:Int)<a.kind_)))] [(1,bx (gC a))] (cT (ALe.bool e)) ?_
     exact Kn.R Fm (m (decide ((15:Int)<a.kind_)) h)
 ·rcases br_or h with ⟨d,h⟩|⟨d,h⟩
  ·refine AW.pN Fm [.s,.s,.s,.w (vb true),.s,.s,.s,.s,.s] [(1,pt 1),(3,vb true)] [(1,bx (gC a))] (cT (ALe.bool d)) ?_
   exact Kn.R Fm (l true h)
  ·refine AW.pN Fm [.s,.s,.s,.w (vb false),.s,.s,.s,.s,.s] [(1,pt 1),(3,vb (decide ((1073741824:Int)<a.number_)))] [(1,bx (gC a))] (cT (ALe.bool d)) ?_
   exact Kn.R Fm (l (decide ((1073741824:Int)<a.number_)) h)
theorem ref09_Check_spec {F:Nat} {a:(List Feature)} {r:Int} (h:ref09_Check F a=some r) :
  FSpec Try.prog 24 [AL a] [] (vi r) []:=by
 refine FI Try.func24 prog_mixed prog_lay fun C Fm=>?_
 unfold ref09_Check at h
 refine AW.SG0 Fm 1 [(0,AL a)] [] ?_
 refine AW.seq (AW.SG0 Fm 3 [(0,AL a),(8,vb (decide ((60:Int)<(lI a))))] [] ?_)
 refine AW.cN h (fun o h=>?_) (fun o h=>?_)
 ·refine AW.SG0 Fm 1 [(2,vi 1)] [] ?_
  refine AW.ret ?_
  obtain rfl:=Option.some.inj h
  exact Kn.D Fm
 ·refine AW.skip (AW.join (r:=r) (fun z:Unit=>ref09_Check_k2 F) (fun z=>[]) (fun z=>[]) (fun z h=>?_) (fun L n=>?_))
  ·refine AW.SG0 Fm 1 [(2,vi 0)] [] ?_
   refine AW.ret ?_
   obtain rfl:=Option.some.inj h
   exact Kn.D Fm
  ·refine AW.SG0 Fm 3 [(0,AL a),(9,AL a),(10,vi (lI a)),(11,vi 0)] [] ?_
   refine AW.block (AW.loopF (E' := fun z=>[(0,AL a),(9,AL a),(10,vi (lI a)),(11,vi z)]) (S' := fun z=>[]) (fun l b H m h=>?_) h)
   refine AW.SG0 Fm 1 [(0,AL a),(9,AL a),(10,vi (lI a)),(11,vi b),(12,vb (decide (b<(lI a))))] [] ?_
   refine AW.seq (AW.cN h (fun p h=>?_) (fun p h=>?_))
   ·refine AW.skip (AW.seq (AW.block ?_))
    obtain ⟨u,h⟩:=gS h
    refine AW.SP Fm [.s,.s,.s,.s,.s,.s] [(0,AL a),(3,vi b),(4,pt 4),(9,AL a),(10,vi (lI a)),(11,vi b)] [(4,bx [ci ((gl a b.toNat).number_),ci ((gl a b.toNat).kind_),ci ((gl a b.toNat).from_),ci ((gl a b.toNat).until_),.d (DL (α:=Rect) (gl a b.toNat).region_.rects_)])] (cT u) ?_
    refine AW.seq (AW.seq ?_)
    obtain ⟨e,E,h⟩:=bS h
    refine AW.G Fm [.s,.k (cE [] [] (vi e) [] []),.s] (fun K=>K 1∧True) [(0,AL a),(3,vi b),(4,pt 4),(5,vi e),(9,AL a),(10,vi (lI a)),(11,vi b)] [(4,bx [ci ((gl a b.toNat).number_),ci ((gl a b.toNat).kind_),ci ((gl a b.toNat).from_),ci ((gl a b.toNat).until_),.d (DL (α:=Rect) (gl a b.toNat).region_.rects_)])] ⟨KAt.CC (ref09_one_spec E) Try.call25 [],⟨⟩⟩ ?_
    refine AW.SG0 Fm 2 [(0,AL a),(3,vi b),(4,pt 4),(5,vi e),(9,AL a),(10,vi (lI a)),(11,vi b),(19,vb (e != (0:Int)))] [(4,bx [ci ((gl a b.toNat).number_),ci ((gl a b.toNat).kind_),ci ((gl a b.toNat).from_),ci ((gl a b.toNat).until_),.d (DL (α:=Rect) (gl a b.toNat).region_.rects_)])] ?_
    refine AW.cN h (fun q h=>?_) (fun q h=>?_)
    ·refine AW.SG0 Fm 2 [(2,vi e)] [] ?_
     refine AW.ret ?_
     obtain rfl:=Option.some.inj h
     exact Kn.D Fm
    ·refine AW.skip (AW.join (r:=r) (fun z:Bool=>ref09_Check_k1 F b l z) (fun z=>[(0,AL a),(9,AL a),(10,vi (lI a)),(11,vi b),(33,vb z)]) (fun z=>[]) (fun M h=>?_) (fun I j=>?_))
     ·refine AW.cN h (fun t h=>?_) (fun t h=>?_)
      ·refine AW.SG0 Fm 1 [(2,vi 3)] [] ?_
       refine AW.ret ?_
       obtain rfl:=Option.some.inj h
       exact Kn.D Fm
      ·refine AW.skip ?_
       obtain ⟨B,h⟩:=gS h
       refine AW.pN Fm [.s,.s] [(0,AL a),(9,AL a),(10,vi (lI a)),(11,vi (b+1))] [] (cT (cT B)) ?_
       exact Kn.R Fm (m (b+1) h)
     ·rcases br_or h with ⟨i,h⟩|⟨i,h⟩
      ·obtain ⟨y,A,h⟩:=gS2 h
       refine AW.pN Fm [.s,.s,.w (vb true),.s,.s,.s,.s,.s,.s,.s,.s,.s,.s] [(0,AL a),(9,AL a),(10,vi (lI a)),(11,vi b),(24,pt 4),(25,vi (gl a b.toNat).number_),(26,AL a),(27,vi b),(28,vi (b-1)),(29,.v (.c (.elm [.int .i64 (gl a (b-1).toNat).number_,.int .i64 (gl a (b-1).toNat).kind_,.int .i64 (gl a (b-1).toNat).from_,.int .i64 (gl a (b-1).toNat).until_,DL (α:=Rect) (gl a (b-1).toNat).region_.rects_]))),(30,.v (.c (.elm [.int .i64 (gl a (b-1).toNat).number_,.int .i64 (gl a (b-1).toNat).kind_,.int .i64 (gl a (b-1).toNat).from_,.int .i64 (gl a (b-1).toNat).until_,DL (α:=Rect) (gl a (b-1).toNat).region_.rects_]))),(31,vi (gl a (b-1).toNat).number_),(32,vb (decide (((gl a b.toNat).number_)≤((gl a (b-1).toNat).number_)))),(33,vb (decide (((gl a b.toNat).number_)≤((gl a (b-1).toNat).number_))))] [(4,bx [ci ((gl a b.toNat).number_),ci ((gl a b.toNat).kind_),ci ((gl a b.toNat).from_),ci ((gl a b.toNat).until_),.d (DL (α:=Rect) (gl a b.toNat).region_.rects_)])] (cA (ALe.bool i) (cA (cT y) (cT A))) ?_
       exact Kn.R Fm (j (decide (((gl a b.toNat).number_)≤((gl a (b-1).toNat).number_))) h)
      ·refine AW.pN Fm [.s,.s,.w (vb false),.s,.s,.s,.s,.s,.s,.s,.s,.s,.s] [(0,AL a),(9,AL a),(10,vi (lI a)),(11,vi b),(33,vb false)] [] (cT (ALe.bool i)) ?_
       exact Kn.R Fm (j false h)
   ·exact AW.exit (Kn.R Fm (n () h))
theorem ref09_Add_spec {F:Nat} {a:(List Feature)} {b:Feature} {r:(List Feature)×Int} (h:ref09_Add F a b=some r) :
  FSpec Try.prog 10 [AL a,gE b] [] (.t [.c (.d (DL (α:=Feature) r.1)),.c (ci r.2)]) []:=by
 refine FI Try.func10 prog_mixed prog_lay fun C Fm=>?_
 unfold ref09_Add at h
 refine AW.SG0 Fm 3 [(0,AL a),(3,pt 3)] [(3,bx (gC b))] ?_
 refine AW.seq (AW.seq ?_)
 obtain ⟨l,Y,h⟩:=bS h
 refine AW.G Fm [.s,.k (cE [] [] (vi l) [] []),.s] (fun K=>K 1∧True) [(0,AL a),(3,pt 3),(6,vi l)] [(3,bx (gC b))] ⟨KAt.CC (ref09_Check_spec Y) Try.call24 [],⟨⟩⟩ ?_
 refine AW.SG0 Fm 2 [(0,AL a),(3,pt 3),(6,vi l),(12,vb (l != (0:Int)))] [(3,bx (gC b))] ?_
 refine AW.cN h (fun I h=>?_) (fun I h=>?_)
 ·refine AW.SG0 Fm 3 [(4,.v (.c (.fl 0 fun _=>[]))),(5,vi l)] [] ?_
  refine AW.ret ?_
  obtain rfl:=Option.some.inj h
  refine Kn.r Fm [(4,.v (.c (.fl 0 fun _=>[]))),(5,vi l)] [] (by kernel_rfl) ?_
  refine Kn.wk [(4,AL (α:=Feature) []),(5,vi l)] [] ⟨rfl,ALe.c (CLe.fl .nil),⟨rfl,ALe.c (CLe.refl _),⟨⟩⟩⟩ True.intro ?_
  exact Kn.D Fm
 ·refine AW.skip (AW.seq (AW.seq ?_))
  obtain ⟨n,Z,h⟩:=bS h
  refine AW.G Fm [.s,.k (cE [] [] (vi n) [] []),.s] (fun K=>K 1∧True) [(0,AL a),(3,pt 3),(7,vi n)] [(3,bx (gC b))] ⟨KAt.CC (ref09_one_spec Z) Try.call25 [],⟨⟩⟩ ?_
  refine AW.SG0 Fm 2 [(0,AL a),(3,pt 3),(7,vi n),(17,vb (n != (0:Int)))] [(3,bx (gC b))] ?_
  refine AW.cN h (fun L h=>?_) (fun L h=>?_)
  ·refine AW.SG0 Fm 3 [(4,.v (.c (.fl 0 fun _=>[]))),(5,vi n)] [] ?_
   refine AW.ret ?_
   obtain rfl:=Option.some.inj h
   refine Kn.r Fm [(4,.v (.c (.fl 0 fun _=>[]))),(5,vi n)] [] (by kernel_rfl) ?_
   refine Kn.wk [(4,AL (α:=Feature) []),(5,vi n)] [] ⟨rfl,ALe.c (CLe.fl .nil),⟨rfl,ALe.c (CLe.refl _),⟨⟩⟩⟩ True.intro ?_
   exact Kn.D Fm
  ·refine AW.skip (AW.SG0 Fm 1 [(0,AL a),(3,pt 3),(8,vi 0)] [(3,bx (gC b))] ?_)
   refine AW.join (r:=r) (fun z:Int=>ref09_Add_k2 F a b z) (fun z=>[(0,AL a),(3,pt 3),(8,vi z)]) (fun z=>[(3,bx (gC b))]) (fun e h=>?_) (fun c0 H=>?_)
   ·refine AW.seq (AW.join (r:=r) (fun z:Bool=>ref09_Add_k3 F a b e z) (fun z=>[(0,AL a),(3,pt 3),(8,vi e),(48,vb z)]) (fun z=>[(3,bx (gC b))]) (fun i0 h=>?_) (fun d0 u=>?_))
    ·refine AW.cN h (fun N h=>?_) (fun N h=>?_)
     ·refine AW.SG0 Fm 2 [(4,.v (.c (.fl 0 fun _=>[]))),(5,vi 6)] [] ?_
      refine AW.ret ?_
      obtain rfl:=Option.some.inj h
      refine Kn.r Fm [(4,.v (.c (.fl 0 fun _=>[]))),(5,vi 6)] [] (by kernel_rfl) ?_
      refine Kn.wk [(4,AL (α:=Feature) []),(5,vi 6)] [] ⟨rfl,ALe.c (CLe.fl .nil),⟨rfl,ALe.c (CLe.refl _),⟨⟩⟩⟩ True.intro ?_
      exact Kn.D Fm
     ·refine AW.skip (AW.seq (AW.SG0 Fm 3 [(0,AL a),(3,pt 3),(8,vi e),(51,vb ((lI a)==(60:Int)))] [(3,bx (gC b))] ?_))
      refine AW.cN h (fun O h=>?_) (fun O h=>?_)
      ·refine AW.SG0 Fm 2 [(4,.v (.c (.fl 0 fun _=>[]))),(5,vi 1)] [] ?_
       refine AW.ret ?_
       obtain rfl:=Option.some.inj h
       refine Kn.r Fm [(4,.v (.c (.fl 0 fun _=>[]))),(5,vi 1)] [] (by kernel_rfl) ?_
       refine Kn.wk [(4,AL (α:=Feature) []),(5,vi 1)] [] ⟨rfl,ALe.c (CLe.fl .nil),⟨rfl,ALe.c (CLe.refl _),⟨⟩⟩⟩ True.intro ?_
       exact Kn.D Fm
      ·refine AW.skip ?_
       obtain ⟨y,V,W,A,h⟩:=gS4 h
       obtain ⟨X,h⟩:=gS h
       refine AW.SV Fm [.m,.s,.s,.w (AL (α:=Feature) (a.take e.toNat)),.s,.s,.w (AL (α:=Feature) ([b]:List Feature)),.s,.s,.s,.w (AL (α:=Feature) (a.drop e.toNat)),.s,.s,.s] [(4,ow 63),(5,vi 0)] [(63,AO (α:=Feature) (((([]:List Feature)++(a.take e.toNat))++([b]:List Feature))++(a.drop e.toNat)))] (cA (⟨y,(Is.refl a).len⟩ : ((sl (List.length a) (LF a) none (some e)).2∧∀ j,j<List.length a→(LF a j).length=5)) (cA (ALe.lst (sl_is a none (some e) y):ALe (.v (.c (.d (.lst (sl (List.length a) (LF a) none (some e)).1.1 (sl (List.length a) (LF a) none (some e)).1.2)))) (AL (α:=Feature) (a.take e.toNat))) (cA (cA V (cT (Is.refl (a.take e.toNat):Is (List.length (α:=Feature) (a.take e.toNat)) (LF (α:=Feature) (a.take e.toNat)) (a.take e.toNat)).len)) (cA (ALe.lst (.lit ([b]:List Feature) (by kernel_rfl)):ALe (.v (.c (.d (.lst 1 (litF 5 [.int .i64 b.number_,.int .i64 b.kind_,.int .i64 b.from_,.int .i64 b.until_,DL b.region_.rects_]))))) (AL (α:=Feature) ([b]:List Feature))) (cA (cA W (cT (Is.refl ([b]:List Feature):Is (List.length (α:=Feature) ([b]:List Feature)) (LF (α:=Feature) ([b]:List Feature)) ([b]:List Feature)).len)) (cA (⟨A,(Is.refl a).len⟩ : ((sl (List.length a) (LF a) (some e) none).2∧∀ j,j<List.length a→(LF a j).length=5)) (cA (ALe.lst (sl_is a (some e) none A):ALe (.v (.c (.d (.lst (sl (List.length a) (LF a) (some e) none).1.1 (sl (List.length a) (LF a) (some e) none).1.2)))) (AL (α:=Feature) (a.drop e.toNat))) (cT (cA X (cT (Is.refl (a.drop e.toNat):Is (List.length (α:=Feature) (a.drop e.toNat)) (LF (α:=Feature) (a.drop e.toNat)) (a.drop e.toNat)).len)))))))))) [(63,.arr 5 ((((0)+(List.length (α:=Feature) (a.take e.toNat)))+(List.length (α:=Feature) ([b]:List Feature)))+(List.length (α:=Feature) (a.drop e.toNat))) (appF (((0)+(List.length (α:=Feature) (a.take e.toNat)))+(List.length (α:=Feature) ([b]:List Feature))) (appF ((0)+(List.length (α:=Feature) (a.take e.toNat))) (appF (0) (litF 5 []) (LF (α:=Feature) (a.take e.toNat))) (LF (α:=Feature) ([b]:List Feature))) (LF (α:=Feature) (a.drop e.toNat))))] ⟨OLe.is (Is.app (Is.app (Is.app (Is.lit ([]:List Feature) (by kernel_rfl)) (Is.refl (a.take e.toNat))) (Is.refl ([b]:List Feature))) (Is.refl (a.drop e.toNat))),⟨⟩⟩ ?_
       refine AW.ret ?_
       obtain rfl:=Option.some.inj h
       refine Kn.r Fm [(4,ow 63),(5,vi 0)] [(63,AO (α:=Feature) (((([]:List Feature)++(a.take e.toNat))++([b]:List Feature))++(a.drop e.toNat)))] (by kernel_rfl) ?_
       refine Kn.frz [(4,AL (α:=Feature) (((([]:List Feature)++(a.take e.toNat))++([b]:List Feature))++(a.drop e.toNat))),(5,vi 0)] [] (by kernel_rfl) (by kernel_rfl) (by kernel_rfl) ?_
       exact Kn.D Fm
    ·rcases br_or h with ⟨p,h⟩|⟨p,h⟩
     ·obtain ⟨U,h⟩:=gS h
      refine AW.pN Fm [.s,.s,.s,.s,.w (vb true),.s,.s,.s,.s,.s,.s,.s,.s,.s] [(0,AL a),(3,pt 3),(8,vi e),(48,vb (((gl a e.toNat).number_)==b.number_))] [(3,bx (gC b))] (cA (ALe.bool p) (cT U)) ?_
      exact Kn.R Fm (u (((gl a e.toNat).number_)==b.number_) h)
     ·refine AW.pN Fm [.s,.s,.s,.s,.w (vb false),.s,.s,.s,.s,.s,.s,.s,.s,.s] [(0,AL a),(3,pt 3),(8,vi e),(48,vb false)] [(3,bx (gC b))] (cT (ALe.bool p)) ?_
      exact Kn.R Fm (u false h)
   ·refine AW.block (AW.loopF (E' := fun z=>[(0,AL a),(3,pt 3),(8,vi z)]) (S' := fun z=>[(3,bx (gC b))]) (fun B i a0 E h=>?_) h)
    refine AW.seq (AW.join (r:=r) (fun z:Bool=>ref09_Add_k1 F a b i B z) (fun z=>[(0,AL a),(3,pt 3),(8,vi i),(32,vb z)]) (fun z=>[(3,bx (gC b))]) (fun e0 h=>?_) (fun b0 q=>?_))
    ·refine AW.cN h (fun M h=>?_) (fun M h=>?_)
     ·refine AW.skip (AW.block ?_)
      obtain ⟨T,h⟩:=gS h
      refine AW.pN Fm [.s,.s,.s] [(0,AL a),(3,pt 3),(8,vi (i+1))] [(3,bx (gC b))] (cT (cT T)) ?_
      exact Kn.R Fm (E (i+1) h)
     ·exact AW.exit (Kn.R Fm (H i h))
    ·rcases br_or h with ⟨o,h⟩|⟨o,h⟩
     ·obtain ⟨P,h⟩:=gS h
      refine AW.pN Fm [.s,.s,.s,.s,.w (vb true),.s,.s,.s,.s,.s,.s,.s,.s,.s] [(0,AL a),(3,pt 3),(8,vi i),(24,AL a),(25,vi i),(26,.v (.c (.elm [.int .i64 (gl a i.toNat).number_,.int .i64 (gl a i.toNat).kind_,.int .i64 (gl a i.toNat).from_,.int .i64 (gl a i.toNat).until_,DL (α:=Rect) (gl a i.toNat).region_.rects_]))),(27,.v (.c (.elm [.int .i64 (gl a i.toNat).number_,.int .i64 (gl a i.toNat).kind_,.int .i64 (gl a i.toNat).from_,.int .i64 (gl a i.toNat).until_,DL (α:=Rect) (gl a i.toNat).region_.rects_]))),(28,vi (gl a i.toNat).number_),(29,pt 3),(30,vi b.number_),(31,vb (decide (((gl a i.toNat).number_)<b.number_))),(32,vb (decide (((gl a i.toNat).number_)<b.number_)))] [(3,bx (gC b))] (cA (ALe.bool o) (cT P)) ?_
      exact Kn.R Fm (q (decide (((gl a i.toNat).number_)<b.number_)) h)
     ·refine AW.pN Fm [.s,.s,.s,.s,.w (vb false),.s,.s,.s,.s,.s,.s,.s,.s,.s] [(0,AL a),(3,pt 3),(8,vi i),(32,vb false)] [(3,bx (gC b))] (cT (ALe.bool o)) ?_
      exact Kn.R Fm (q false h)
theorem keep_Tape_Layer_spec {F:Nat} {l:Tape} {p:Int} {r:Tape×(List Feature)} (h:keep_Tape_Layer F l p=some r) :
  FSpec Try.prog 5 [pt 0,vi p] [(0,bx (gC l))] (AL (α:=Feature) r.2) [(0,bx (gC r.1))]:=by
 refine FI Try.func5 prog_mixed prog_lay fun C Fm=>?_
 unfold keep_Tape_Layer at h
 refine AW.SG0 Fm 1 [(0,pt 0),(1,vi p)] [(0,bx (gC l))] ?_
 refine AW.SW Fm [.m] (fun K=>True) [(0,pt 0),(1,vi p),(5,ow 5)] [(0,bx (gC l)),(5,AO (α:=Feature) ([]:List Feature))] True.intro [(5,.arr 5 (0) (fun _=>[]))] ⟨OLe.is ((Is.nil (α:=Feature))),⟨⟩⟩ ?_
 refine AW.join (r:=r) (fun z:(List Feature)×(List Int)×Int=>keep_Tape_Layer_k2 F z.1 z.2.1 z.2.2) (fun z=>[(5,AL z.1)]) (fun z=>[(0,bx [.d (DL z.2.1),ci z.2.2])]) (fun z h=>?_) (fun a0 H=>?_)
 ·obtain ⟨V,W,X⟩:=z
  refine AW.SG0 Fm 2 [(4,AL V)] [(0,bx [.d (DL W),ci X])] ?_
  refine AW.ret ?_
  obtain rfl:=Option.some.inj h
  exact Kn.D Fm
 ·refine AW.seq ?_
  obtain ⟨M,h⟩:=gS h
  obtain ⟨a,O,h⟩:=bS h
  refine AW.G Fm [.s,.s,.s,.k (cE [(0,0)] [] (vi a.2) [(0,bx (gC l))] [(0,bx (gC a.1))]),.s] (fun K=>(_∧True)∧K 3∧True) [(0,pt 0),(5,ow 5),(6,vi a.2)] [(0,bx (gC a.1)),(5,AO (α:=Feature) ([]:List Feature))] ⟨⟨M,⟨⟩⟩,KAt.CC (keep_Tape_Next_spec O) Try.call9 [(0,0)],⟨⟩⟩ ?_
  refine AW.block (Kn.r Fm [(0,pt 0),(5,ow 5),(6,vi a.2)] [(5,AO (α:=Feature) ([]:List Feature)),(0,bx (gC a.1))] (by kernel_rfl) ?_)
  refine Kn.frz [(0,pt 0),(5,AL (α:=Feature) ([]:List Feature)),(6,vi a.2)] [(0,bx (gC a.1))] (by kernel_rfl) (by kernel_rfl) (by kernel_rfl) ?_
  refine Kn.r Fm [(0,pt 0),(5,AL ([]:List Feature)),(6,vi a.2)] [(0,bx [.d (DL a.1.l_),ci a.1.at_])] (by kernel_rfl) ?_
  refine AW.loopF (E' := fun z=>[(0,pt 0),(5,AL z.1),(6,vi z.2.1)]) (S' := fun z=>[(0,bx [.d (DL z.2.2.1),ci z.2.2.2])]) (fun B z Y E h=>?_) h
  obtain ⟨j,b,n,o⟩:=z
  refine AW.seq (AW.SG0 Fm 2 [(0,pt 0),(5,AL j),(6,vi b),(14,vb (decide ((0:Int)<b)))] [(0,bx [.d (DL n),ci o])] ?_)
  refine AW.cN h (fun I h=>?_) (fun I h=>?_)
  ·refine AW.skip (AW.join (r:=r) (fun z:(List Feature)×(List Int)×Int=>keep_Tape_Layer_k1 F b B z.1 z.2.1 z.2.2) (fun z=>[(0,pt 0),(5,AL z.1),(6,vi b)]) (fun z=>[(0,bx [.d (DL z.2.1),ci z.2.2])]) (fun z h=>?_) (fun Z u=>?_))
   ·obtain ⟨w,y,A⟩:=z
    obtain ⟨N,h⟩:=gS h
    refine AW.pN Fm [.s,.s,.s] [(0,pt 0),(5,AL w),(6,vi (b-1))] [(0,bx [.d (DL y),ci A])] (cT (cT N)) ?_
    exact Kn.R Fm (E (w,(b-1),y,A) h)
   ·refine AW.block (AW.seq ?_)
    obtain ⟨q,P,h⟩:=bS h
    obtain ⟨e,T,h⟩:=bS h
    obtain ⟨i,U,h⟩:=bS h
    refine AW.G Fm [.s,.s,.s,.k (cE [(0,0)] [] (vi q.2) [(0,bx [.d (DL (α:=Int) (⟨n,o⟩ : Tape).l_),ci ((⟨n,o⟩ : Tape).at_)])] [(0,bx (gC q.1))]),.k (cE [(0,0)] [] (gE e.2) [(0,bx (gC q.1))] [(0,bx (gC e.1))]),.k (cE [] [] (.t [.c (.d (DL i.1)),.c (ci i.2)]) [] []),.s,.s,.s,.s,.s] (fun K=>K 3∧K 4∧K 5∧True) [(0,pt 0),(5,AL j),(6,vi b),(7,AL i.1),(8,vi i.2)] [(0,bx (gC e.1))] ⟨KAt.CC (keep_Tape_Range_spec P) Try.call12 [(0,0)],KAt.CC (keep_Tape_Feature_spec T) Try.call11 [(0,0)],KAt.CC (ref09_Add_spec U) Try.call10 [],⟨⟩⟩ ?_
    refine AW.SG0 Fm 2 [(0,pt 0),(5,AL j),(6,vi b),(7,AL i.1),(27,vb (i.2==(0:Int)))] [(0,bx (gC e.1))] ?_
    refine AW.cN h (fun L h=>?_) (fun L h=>?_)
    ·refine AW.G0 Fm 2 [(0,pt 0),(5,AL i.1),(6,vi b)] [(0,bx (gC e.1))] ?_
     exact Kn.R Fm (u (i.1,e.1.l_,e.1.at_) h)
    ·exact AW.skip (Kn.R Fm (u (j,e.1.l_,e.1.at_) h))
  ·exact AW.exit (Kn.R Fm (H (j,n,o) h))
theorem slices_IndexFunc_Rect_spec {F:Nat} {a:(List Rect)} {d:Rect→Option Bool} {r:Int} (h:slices_IndexFunc_Rect F a d=some r) :
  FSpec Try.prog 52 [AL a,.v (.c (.sem (CloOK Try.prog (FR_Rect_Bool d))))] [] (vi r) []:=by
 refine FI Try.func52 prog_mixed prog_lay fun C Fm=>?_
 unfold slices_IndexFunc_Rect at h
 refine AW.SG0 Fm 1 [(0,AL a),(1,.v (.c (.sem (CloOK Try.prog (FR_Rect_Bool d)))))] [] ?_
 refine AW.join (r:=r) (fun z:Unit=>slices_IndexFunc_Rect_k1 F) (fun z=>[]) (fun z=>[]) (fun z h=>?_) (fun t j=>?_)
 ·refine AW.SG0 Fm 1 [(4,vi (-1:Int))] [] ?_
  refine AW.ret ?_
  obtain rfl:=Option.some.inj h
  exact Kn.D Fm
 ·refine AW.SG0 Fm 3 [(0,AL a),(1,.v (.c (.sem (CloOK Try.prog (FR_Rect_Bool d))))),(7,vi (lI a)),(8,vi 0)] [] ?_
  refine AW.block (AW.loopF (E' := fun z=>[(0,AL a),(1,.v (.c (.sem (CloOK Try.prog (FR_Rect_Bool d))))),(7,vi (lI a)),(8,vi z)]) (S' := fun z=>[]) (fun u b q i h=>?_) h)
  refine AW.SG0 Fm 1 [(0,AL a),(1,.v (.c (.sem (CloOK Try.prog (FR_Rect_Bool d))))),(7,vi (lI a)),(8,vi b),(9,vb (decide (b<(lI a))))] [] ?_
  refine AW.seq (AW.cN h (fun l h=>?_) (fun l h=>?_))
  ·refine AW.skip (AW.seq (AW.block (AW.SG0 Fm 2 [(0,AL a),(1,.v (.c (.sem (CloOK Try.prog (FR_Rect_Bool d))))),(5,vi b),(7,vi (lI a)),(8,vi b)] [] ?_)))
   refine AW.seq ?_
   obtain ⟨n,h⟩:=gS h
   obtain ⟨e,p,h⟩:=bS h
   refine AW.G Fm [.s,.s,.s,.s,.s,.k (sE (vb e))] (fun K=>_∧K 5∧True) [(0,AL a),(1,.v (.c (.sem (CloOK Try.prog (FR_Rect_Bool d))))),(5,vi b),(7,vi (lI a)),(8,vi b),(16,vb e)] [] ⟨n,KAt.sem (F:=(FR_Rect_Bool d)) (args:=[.v (.g [ci ((gl a b.toNat).left_),ci ((gl a b.toNat).low_),ci ((gl a b.toNat).right_),ci ((gl a b.toNat).high_)])]) ⟨(gl a b.toNat),e,p,rfl,rfl⟩ rfl (by kernel_rfl) (by kernel_rfl) (by kernel_rfl),⟨⟩⟩ ?_
   refine AW.cN h (fun m h=>?_) (fun m h=>?_)
   ·refine AW.SG0 Fm 2 [(4,vi b)] [] ?_
    refine AW.ret ?_
    obtain rfl:=Option.some.inj h
    exact Kn.D Fm
   ·refine AW.skip ?_
    obtain ⟨o,h⟩:=gS h
    refine AW.pN Fm [.s,.s] [(0,AL a),(1,.v (.c (.sem (CloOK Try.prog (FR_Rect_Bool d))))),(7,vi (lI a)),(8,vi (b+1))] [] (cT (cT o)) ?_
    exact Kn.R Fm (i (b+1) h)
  ·exact AW.exit (Kn.R Fm (j () h))
theorem slices_ContainsFunc_Rect_spec {F:Nat} {a:(List Rect)} {b:Rect→Option Bool} {r:Bool} (h:slices_ContainsFunc_Rect F a b=some r) :
  FSpec Try.prog 41 [AL a,.v (.c (.sem (CloOK Try.prog (FR_Rect_Bool b))))] [] (vb r) []:=by
 refine FI Try.func41 prog_mixed prog_lay fun C Fm=>?_
 unfold slices_ContainsFunc_Rect at h
 refine AW.SG0 Fm 1 [(0,AL a),(1,.v (.c (.sem (CloOK Try.prog (FR_Rect_Bool b)))))] [] ?_
 refine AW.seq ?_
 obtain ⟨d,e,h⟩:=bS h
 refine AW.G Fm [.s,.s,.k (cE [] [] (vi d) [] []),.s,.s] (fun K=>K 2∧True) [(4,vb (decide ((0:Int)≤d)))] [] ⟨KAt.callX (slices_IndexFunc_Rect_spec e) Try.call52 [] [] [.tmp 5,.tmp 6] rfl (by kernel_rfl) (by kernel_rfl) (by kernel_rfl) ⟨.p,ArgT.semX (by kernel_rfl) (by kernel_rfl) (by kernel_rfl),⟨⟩⟩,⟨⟩⟩ ?_
 refine AW.ret ?_
 obtain rfl:=Option.some.inj h
 exact Kn.D Fm
theorem region_proper_spec {F:Nat} {e:Rect} {r:Bool} (h:region_proper F e=some r) :
  FSpec Try.prog 43 [gE e] [] (vb r) []:=by
 refine FI Try.func43 prog_mixed prog_lay fun C Fm=>?_
 unfold region_proper at h
 refine AW.SG0 Fm 2 [(1,pt 1)] [(1,bx (gC e))] ?_
 refine AW.join (r:=r) (fun z:Bool=>region_proper_k0 F z) (fun z=>[(2,vb z)]) (fun z=>[]) (fun l h=>?_) (fun k b=>?_)
 ·refine AW.ret ?_
  obtain rfl:=Option.some.inj h
  exact Kn.D Fm
 ·rcases br_or h with ⟨a,h⟩|⟨a,h⟩
  ·rcases br_or h with ⟨c,h⟩|⟨c,h⟩
   ·rcases br_or h with ⟨d,h⟩|⟨d,h⟩
    ·rcases br_or h with ⟨i,h⟩|⟨i,h⟩
     ·rcases br_or h with ⟨j,h⟩|⟨j,h⟩
      ·refine AW.pN Fm [.s,.s,.s,.w (vb true),.s,.s,.s,.s,.s,.s,.w (vb true),.s,.s,.s,.s,.w (vb true),.s,.s,.s,.s,.w (vb true),.s,.s,.s,.s,.s,.s,.w (vb true),.s,.s,.s,.s,.s] [(2,vb (decide (e.high_≤(16384:Int))))] [] (cA (ALe.bool a) (cA (ALe.bool c) (cA (ALe.bool d) (cA (ALe.bool i) (cT (ALe.bool j)))))) ?_
       exact Kn.R Fm (b (decide (e.high_≤(16384:Int))) h)
      ·refine AW.pN Fm [.s,.s,.s,.w (vb true),.s,.s,.s,.s,.s,.s,.w (vb true),.s,.s,.s,.s,.w (vb true),.s,.s,.s,.s,.w (vb true),.s,.s,.s,.s,.s,.s,.w (vb false),.s,.s,.s,.s,.s] [(2,vb false)] [] (cA (ALe.bool a) (cA (ALe.bool c) (cA (ALe.bool d) (cA (ALe.bool i) (cT (ALe.bool j)))))) ?_
       exact Kn.R Fm (b false h)
     ·refine AW.pN Fm [.s,.s,.s,.w (vb true),.s,.s,.s,.s,.s,.s,.w (vb true),.s,.s,.s,.s,.w (vb true),.s,.s,.s,.s,.w (vb false),.s,.s,.s,.s,.s,.s,.s,.s,.s,.s,.s,.s] [(2,vb false)] [] (cA (ALe.bool a) (cA (ALe.bool c) (cA (ALe.bool d) (cT (ALe.bool i))))) ?_
      exact Kn.R Fm (b false h)
    ·refine AW.pN Fm [.s,.s,.s,.w (vb true),.s,.s,.s,.s,.s,.s,.w (vb true),.s,.s,.s,.s,.w (vb false),.s,.s,.s,.s,.s,.s,.s,.s,.s,.s,.s,.s,.s,.s,.s,.s,.s] [(2,vb false)] [] (cA (ALe.bool a) (cA (ALe.bool c) (cT (ALe.bool d)))) ?_
     exact Kn.R Fm (b false h)
   ·refine AW.pN Fm [.s,.s,.s,.w (vb true),.s,.s,.s,.s,.s,.s,.w (vb false),.s,.s,.s,.s,.s,.s,.s,.s,.s,.s,.s,.s,.s,.s,.s,.s,.s,.s,.s,.s,.s,.s] [(2,vb false)] [] (cA (ALe.bool a) (cT (ALe.bool c))) ?_
    exact Kn.R Fm (b false h)
  ·refine AW.pN Fm [.s,.s,.s,.w (vb false),.s,.s,.s,.s,.s,.s,.s,.s,.s,.s,.s,.s,.s,.s,.s,.s,.s,.s,.s,.s,.s,.s,.s,.s,.s,.s,.s,.s,.s] [(2,vb false)] [] (cT (ALe.bool a)) ?_
   exact Kn.R Fm (b false h)
theorem region_Valid_1_spec {F:Nat} {a:Rect} {r:Bool} (h:region_Valid_1 F a=some r) :
  FSpec Try.prog 42 [gE a] [] (vb r) []:=by
 refine FI Try.func42 prog_mixed prog_lay fun C Fm=>?_
 unfold region_Valid_1 at h
 refine AW.SG0 Fm 2 [(1,pt 1)] [(1,bx (gC a))] ?_
 refine AW.seq ?_
 obtain ⟨b,c,h⟩:=bS h
 refine AW.G Fm [.s,.k (cE [] [] (vb b) [] []),.s,.s] (fun K=>K 1∧True) [(2,vb (!b))] [] ⟨KAt.CC (region_proper_spec c) Try.call43 [],⟨⟩⟩ ?_
 refine AW.ret ?_
 obtain rfl:=Option.some.inj h
 exact Kn.D Fm
theorem slices_Compact_int_spec {F:Nat} {b:(List Int)} {r:(List Int)} (h:slices_Compact_int F b=some r) :
  FSpec Try.prog 66 [ow 0] [(0,AO b)] (ow 100) [(100,AO (α:=Int) r)]:=by
 refine FI Try.func66 prog_mixed prog_lay fun C Fm=>?_
 unfold slices_Compact_int at h
 refine AW.SG Fm [.m] (fun K=>True) [(0,ow 0)] [(0,AO b)] True.intro ?_
 refine AW.seq (AW.SG0 Fm 3 [(0,ow 0),(8,vb (decide ((lI b)<(2:Int))))] [(0,AO b)] ?_)
 refine AW.cN h (fun T h=>?_) (fun T h=>?_)
 ·refine AW.SG0 Fm 2 [(2,ow 0)] [(0,AO b)] ?_
  refine AW.ret ?_
  obtain rfl:=Option.some.inj h
  exact Kn.re Fm [(100,0)] [(2,ow 100)] [(100,AO b)] (by kernel_rfl) (by kernel_rfl) (by kernel_rfl) (by kernel_rfl) (Kn.dn Fm (by kernel_rfl))
 ·refine AW.skip (AW.join (r:=r) (fun z:Unit=>slices_Compact_int_k5 F b) (fun z=>[(0,ow 0)]) (fun z=>[(0,AO b)]) (fun z h=>?_) (fun u0 P=>?_))
  ·refine AW.SG0 Fm 2 [(2,ow 0)] [(0,AO b)] ?_
   refine AW.ret ?_
   obtain rfl:=Option.some.inj h
   exact Kn.re Fm [(100,0)] [(2,ow 100)] [(100,AO b)] (by kernel_rfl) (by kernel_rfl) (by kernel_rfl) (by kernel_rfl) (Kn.dn Fm (by kernel_rfl))
  ·refine AW.SG0 Fm 1 [(0,ow 0),(3,vi 1)] [(0,AO b)] ?_
   refine AW.block (AW.loopF (E' := fun z=>[(0,ow 0),(3,vi z)]) (S' := fun z=>[(0,AO b)]) (fun G a o0 I h=>?_) h)
   refine AW.seq (AW.SG0 Fm 4 [(0,ow 0),(3,vi a),(13,vb (decide (a<(lI b))))] [(0,AO b)] ?_)
   refine AW.cN h (fun U h=>?_) (fun U h=>?_)
   ·refine AW.skip (AW.join (r:=r) (fun z:Unit=>slices_Compact_int_k4 F a G) (fun z=>[(0,ow 0),(3,vi a)]) (fun z=>[(0,AO b)]) (fun z h=>?_) (fun t0 O=>?_))
    ·obtain ⟨n0,h⟩:=gS h
     refine AW.pN Fm [.s,.s,.s] [(0,ow 0),(3,vi (a+1))] [(0,AO b)] (cT (cT n0)) ?_
     exact Kn.R Fm (I (a+1) h)
    ·refine AW.block ?_
     obtain ⟨y,Y,A,h⟩:=gS3 h
     refine AW.SP Fm [.s,.s,.s,.s,.s,.s,.s,.s,.s,.s] [(0,ow 0),(3,vi a),(25,vb ((gl b a.toNat)==(gl b (a-1).toNat)))] [(0,AO b)] (cA y (cA (toNat_lt y) (cA (cT Y) (cA A (cT (toNat_lt A)))))) ?_
     refine AW.cN h (fun V h=>?_) (fun V h=>?_)
     ·obtain ⟨Z,h⟩:=gS h
      refine AW.SG Fm [.s,.s,.k (rE { v:=.v (.c (.sub 0 1 (0+(a).toNat) ((List.length (α:=Int) b)-(a).toNat))) }),.s] (fun K=>K 2∧True) [(0,ow 0),(3,vi a),(4,.v (.c (.sub 0 1 (0+(a).toNat) ((List.length (α:=Int) b)-(a).toNat))))] [(0,AO b)] ⟨KAt.vslice (l:=(some a)) (u:=none) (id:=0) (lo0:=0) (n:=(List.length (α:=Int) b)) (N:=List.length (α:=Int) b) (f:=LF (α:=Int) b) prog_lay slT22 rfl rfl (by kernel_rfl) (by kernel_rfl) (by kernel_rfl) (by kernel_rfl) (by kernel_rfl) Z (by kernel_rfl),⟨⟩⟩ ?_
      refine AW.join (r:=r) (fun z:Int×(List Int)=>slices_Compact_int_k3 F z.1 z.2) (fun z=>[(0,ow 0),(3,vi z.1)]) (fun z=>[(0,AO z.2)]) (fun z h=>?_) (fun s0 M=>?_)
      ·obtain ⟨d,o⟩:=z
       obtain ⟨m0,h⟩:=gS h
       refine AW.SW Fm [.s,.s,.k (rE { v:=.v (.c (.sub 0 1 (0+(d).toNat) ((List.length (α:=Int) o)-(d).toNat))) }),.k (rE { v:=.any,upd:=some (0,.arr 1 (List.length (α:=Int) o) (fun i=>if (0+(d).toNat)≤i∧i<(0+(d).toNat)+((List.length (α:=Int) o)-(d).toNat) then (fun _=>[.int .i64 0]) (i-(0+(d).toNat)) else (LF (α:=Int) o) i)) })] (fun K=>K 2∧K 3∧True) [(0,ow 0),(3,vi d)] [(0,AO (α:=Int) (clr o (0+(d).toNat) ((List.length (α:=Int) o)-(d).toNat)))] ⟨KAt.vslice (l:=(some d)) (u:=none) (id:=0) (lo0:=0) (n:=(List.length (α:=Int) o)) (N:=List.length (α:=Int) o) (f:=LF (α:=Int) o) prog_lay slT22 rfl rfl (by kernel_rfl) (by kernel_rfl) (by kernel_rfl) (by kernel_rfl) (by kernel_rfl) m0 (by kernel_rfl),KAt.vclear (id:=0) (lo0:=(0+(d).toNat)) (n:=((List.length (α:=Int) o)-(d).toNat)) (N:=List.length (α:=Int) o) (f:=(LF (α:=Int) o)) prog_lay slT22 [.int .i64 0] [.int .i64 0] ⟨DLe.refl _,⟨⟩⟩ rfl rfl (by kernel_rfl) (Nat.succ_pos _) (by kernel_rfl) (by kernel_rfl) (by kernel_rfl) (by kernel_rfl) rfl,⟨⟩⟩ [(0,.arr 1 (List.length (α:=Int) o) (fun i=>if (0+(d).toNat)≤i∧i<(0+(d).toNat)+((List.length (α:=Int) o)-(d).toNat) then (fun _=>[.int .i64 0]) (i-(0+(d).toNat)) else (LF (α:=Int) o) i))] ⟨OLe.is (Is.clr (l:=o) (0+(d).toNat) ((List.length (α:=Int) o)-(d).toNat) (zd:=[.int .i64 0]) (by kernel_rfl)),⟨⟩⟩ ?_
       obtain ⟨B,h⟩:=gS h
       refine AW.SV Fm [.s,.s,.m,.s] [(2,ow 59)] [(59,AO (α:=Int) ((clr o (0+(d).toNat) ((List.length (α:=Int) o)-(d).toNat)).take (d).toNat))] (cT B) [(59,.arr 1 ((d).toNat) (LF (α:=Int) (clr o (0+(d).toNat) ((List.length (α:=Int) o)-(d).toNat))))] ⟨OLe.is (Is.take (Is.refl (clr o (0+(d).toNat) ((List.length (α:=Int) o)-(d).toNat))) B.2),⟨⟩⟩ ?_
       refine AW.ret ?_
       obtain rfl:=Option.some.inj h
       exact Kn.re Fm [(100,59)] [(2,ow 100)] [(100,AO (α:=Int) ((clr o (0+(d).toNat) ((List.length (α:=Int) o)-(d).toNat)).take (d).toNat))] (by kernel_rfl) (by kernel_rfl) (by kernel_rfl) (by kernel_rfl) (Kn.dn Fm (by kernel_rfl))
      ·refine AW.SG0 Fm 1 [(0,ow 0),(3,vi a),(4,.v (.c (.sub 0 1 (0+(a).toNat) ((List.length (α:=Int) b)-(a).toNat)))),(5,vi 1)] [(0,AO b)] ?_
       refine AW.block (AW.loopF (E' := fun z=>[(0,ow 0),(3,vi z.1),(4,.v (.c (.sub 0 1 (0+(a).toNat) ((List.length (α:=Int) b)-(a).toNat)))),(5,vi z.2.1)]) (S' := fun z=>[(0,AO z.2.2)]) (fun H z p0 L h=>?_) h)
       obtain ⟨q,p,e⟩:=z
       refine AW.seq (AW.SG Fm [.s,.s,.k (rE { v:=vi ((((List.length (α:=Int) b)-(a).toNat):Nat):Int) }),.s] (fun K=>K 2∧True) [(0,ow 0),(3,vi q),(4,.v (.c (.sub 0 1 (0+(a).toNat) ((List.length (α:=Int) b)-(a).toNat)))),(5,vi p),(32,vb (decide (p<((((List.length (α:=Int) b)-(a).toNat):Nat):Int))))] [(0,AO e)] ⟨KAt.vlen (es:=1) (id:=0) (lo0:=(0+(a).toNat)) (n:=((List.length (α:=Int) b)-(a).toNat)) (N:=List.length (α:=Int) e) (f:=LF (α:=Int) e) prog_lay slT22 rfl rfl (by kernel_rfl) (by kernel_rfl) (by kernel_rfl),⟨⟩⟩ ?_)
       refine AW.cN h (fun W h=>?_) (fun W h=>?_)
       ·refine AW.skip (AW.join (r:=r) (fun z:Int×(List Int)=>slices_Compact_int_k2 F p H z.1 z.2) (fun z=>[(0,ow 0),(3,vi z.1),(4,.v (.c (.sub 0 1 (0+(a).toNat) ((List.length (α:=Int) b)-(a).toNat)))),(5,vi p)]) (fun z=>[(0,AO z.2)]) (fun z h=>?_) (fun q0 w=>?_))
        ·obtain ⟨D,E⟩:=z
         obtain ⟨l0,h⟩:=gS h
         refine AW.pN Fm [.s,.s,.s] [(0,ow 0),(3,vi D),(4,.v (.c (.sub 0 1 (0+(a).toNat) ((List.length (α:=Int) b)-(a).toNat)))),(5,vi (p+1))] [(0,AO E)] (cT (cT l0)) ?_
         exact Kn.R Fm (L (D,(p+1),E) h)
        ·refine AW.block ?_
         obtain ⟨a0,b0,c0,d0,h⟩:=gS4 h
         obtain ⟨e0,h⟩:=gS h
         refine AW.SG Fm [.s,.s,.k (rE { v:=.v (.c (.pte 0 1 ((0+(a).toNat)+(p).toNat) 0)) }),.s,.s,.s,.s,.k (rE { v:=.v (.c (.pte 0 1 ((0+(a).toNat)+((p-1)).toNat) 0)) }),.s,.s] (fun K=>K 2∧_∧(_∧True)∧K 7∧_∧True) [(0,ow 0),(3,vi q),(4,.v (.c (.sub 0 1 (0+(a).toNat) ((List.length (α:=Int) b)-(a).toNat)))),(5,vi p),(44,vb ((gl e ((0+(a).toNat)+(p).toNat)) != (gl e ((0+(a).toNat)+((p-1)).toNat))))] [(0,AO e)] ⟨KAt.vindex (m:=p) (id:=0) (lo0:=(0+(a).toNat)) (n:=((List.length (α:=Int) b)-(a).toNat)) (N:=List.length (α:=Int) e) (f:=LF (α:=Int) e) prog_lay slT22 rfl rfl (by kernel_rfl) (by kernel_rfl) (by kernel_rfl) (by kernel_rfl) a0 (by kernel_rfl),b0,⟨c0,⟨⟩⟩,KAt.vindex (m:=(p-1)) (id:=0) (lo0:=(0+(a).toNat)) (n:=((List.length (α:=Int) b)-(a).toNat)) (N:=List.length (α:=Int) e) (f:=LF (α:=Int) e) prog_lay slT22 rfl rfl (by kernel_rfl) (by kernel_rfl) (by kernel_rfl) (by kernel_rfl) d0 (by kernel_rfl),e0,⟨⟩⟩ ?_
         refine AW.cN h (fun X h=>?_) (fun X h=>?_)
         ·obtain ⟨i0,j0,t,h⟩:=gS3 h
          refine AW.SW Fm [.s,.s,.s,.s,.k (rE { v:=.v (.c (.pte 0 1 ((0+(a).toNat)+(p).toNat) 0)) }),.s,.s,.s] (fun K=>K 4∧_∧_∧_∧True) [(0,ow 0),(3,vi q),(4,.v (.c (.sub 0 1 (0+(a).toNat) ((List.length (α:=Int) b)-(a).toNat)))),(5,vi p)] [(0,AO (α:=Int) (List.set e q.toNat (gl e ((0+(a).toNat)+(p).toNat))))] ⟨KAt.vindex (m:=p) (id:=0) (lo0:=(0+(a).toNat)) (n:=((List.length (α:=Int) b)-(a).toNat)) (N:=List.length (α:=Int) e) (f:=LF (α:=Int) e) prog_lay slT22 rfl rfl (by kernel_rfl) (by kernel_rfl) (by kernel_rfl) (by kernel_rfl) i0 (by kernel_rfl),j0,t,(toNat_lt t),⟨⟩⟩ [(0,.arr 1 (List.length (α:=Int) e) (fun j=>if j=q.toNat then splice ((LF (α:=Int) e) q.toNat) 0 [.int .i64 (gl e ((0+(a).toNat)+(p).toNat))] else (LF (α:=Int) e) j))] ⟨OLe.is (Is.set (Is.refl e) (toNat_lt t) (gl e ((0+(a).toNat)+(p).toNat)) (by kernel_rfl)),⟨⟩⟩ ?_
          obtain ⟨k0,h⟩:=gS h
          refine AW.pN Fm [.s,.s,.s] [(0,ow 0),(3,vi (q+1)),(4,.v (.c (.sub 0 1 (0+(a).toNat) ((List.length (α:=Int) b)-(a).toNat)))),(5,vi p)] [(0,AO (α:=Int) (List.set e q.toNat (gl e ((0+(a).toNat)+(p).toNat))))] (cT (cT k0)) ?_
          exact Kn.R Fm (w ((q+1),(List.set e q.toNat (gl e ((0+(a).toNat)+(p).toNat)))) h)
         ·exact AW.skip (Kn.R Fm (w (q,e) h))
       ·exact AW.exit (Kn.R Fm (M (q,e) h))
     ·exact AW.skip (Kn.R Fm (O () h))
   ·exact AW.exit (Kn.R Fm (P () h))
theorem region_Cuts_spec {F:Nat} {a:(List (List Rect))} {r:(List Int)} (h:region_Cuts F a=some r) :
  FSpec Try.prog 54 [AL a] [] (AL (α:=Int) r) []:=by
 refine FI Try.func54 prog_mixed prog_lay fun C Fm=>?_
 unfold region_Cuts at h
 refine AW.SG0 Fm 1 [(0,AL a)] [] ?_
 refine AW.SW Fm [.m] (fun K=>True) [(0,AL a),(3,ow 3)] [(3,AO (α:=Int) ([]:List Int))] True.intro [(3,.arr 1 (0) (fun _=>[]))] ⟨OLe.is ((Is.nil (α:=Int))),⟨⟩⟩ ?_
 refine AW.join (r:=r) (fun z:(List Int)=>region_Cuts_k3 F z) (fun z=>[(3,ow 3)]) (fun z=>[(3,AO z)]) (fun P h=>?_) (fun W y=>?_)
 ·refine AW.seq ?_
  obtain ⟨n,N,h⟩:=bS h
  refine AW.G Fm [.s,.k (cE [(0,3)] [] (.any) [(0,AO P)] [(0,AO n)])] (fun K=>K 1∧True) [(3,ow 3)] [(3,AO n)] ⟨KAt.CC (sortI_spec N) Try.call65 [(0,3)],⟨⟩⟩ ?_
  refine AW.seq ?_
  obtain ⟨l,O,h⟩:=bS h
  refine AW.G Fm [.s,.k (cE [(0,3),(100,32)] [] (ow 100) [(0,AO n)] [(100,AO l)]),.s] (fun K=>K 1∧True) [(2,ow 32)] [(32,AO l)] ⟨KAt.CC (slices_Compact_int_spec O) Try.call66 [(0,3),(100,32)],⟨⟩⟩ ?_
  refine AW.ret ?_
  obtain rfl:=Option.some.inj h
  refine Kn.r Fm [(2,ow 32)] [(32,AO l)] (by kernel_rfl) ?_
  refine Kn.frz [(2,AL l)] [] (by kernel_rfl) (by kernel_rfl) (by kernel_rfl) ?_
  exact Kn.D Fm
 ·refine AW.SG0 Fm 3 [(3,ow 3),(8,AL a),(9,vi (lI a)),(10,vi 0)] [(3,AO (α:=Int) ([]:List Int))] ?_
  refine AW.block (Kn.r Fm [(3,ow 3),(8,AL a),(9,vi (lI a)),(10,vi 0)] [(3,AO ([]:List Int))] (by kernel_rfl) ?_)
  refine AW.loopF (E' := fun z=>[(3,ow 3),(8,AL a),(9,vi (lI a)),(10,vi z.1)]) (S' := fun z=>[(3,AO z.2)]) (fun p z T q h=>?_) h
  obtain ⟨b,j⟩:=z
  refine AW.SG0 Fm 1 [(3,ow 3),(8,AL a),(9,vi (lI a)),(10,vi b),(11,vb (decide (b<(lI a))))] [(3,AO j)] ?_
  refine AW.seq (AW.cN h (fun A h=>?_) (fun A h=>?_))
  ·refine AW.skip (AW.join (r:=r) (fun z:(List Int)=>region_Cuts_k2 F b p z) (fun z=>[(3,ow 3),(8,AL a),(9,vi (lI a)),(10,vi b)]) (fun z=>[(3,AO z)]) (fun o h=>?_) (fun V u=>?_))
   ·obtain ⟨M,h⟩:=gS h
    refine AW.pN Fm [.s,.s] [(3,ow 3),(8,AL a),(9,vi (lI a)),(10,vi (b+1))] [(3,AO o)] (cT (cT M)) ?_
    exact Kn.R Fm (q ((b+1),o) h)
   ·refine AW.block ?_
    obtain ⟨E,h⟩:=gS h
    refine AW.SP Fm [.s,.s,.s] [(3,ow 3),(5,AL (α:=Rect) (gl a b.toNat)),(8,AL a),(9,vi (lI a)),(10,vi b)] [(3,AO j)] (cT E) ?_
    refine AW.SG0 Fm 3 [(3,ow 3),(8,AL a),(9,vi (lI a)),(10,vi b),(14,AL (α:=Rect) (gl a b.toNat)),(15,vi (lI (gl a b.toNat))),(16,vi 0)] [(3,AO j)] ?_
    refine AW.block (AW.loopF (E' := fun z=>[(3,ow 3),(8,AL a),(9,vi (lI a)),(10,vi b),(14,AL (α:=Rect) (gl a b.toNat)),(15,vi (lI (gl a b.toNat))),(16,vi z.1)]) (S' := fun z=>[(3,AO z.2)]) (fun X z U t h=>?_) h)
    obtain ⟨e,i⟩:=z
    refine AW.SG0 Fm 1 [(3,ow 3),(8,AL a),(9,vi (lI a)),(10,vi b),(14,AL (α:=Rect) (gl a b.toNat)),(15,vi (lI (gl a b.toNat))),(16,vi e),(17,vb (decide (e<(lI (gl a b.toNat)))))] [(3,AO i)] ?_
    refine AW.seq (AW.cN h (fun B h=>?_) (fun B h=>?_))
    ·refine AW.skip (AW.seq (AW.block ?_))
     obtain ⟨H,h⟩:=gS h
     refine AW.SP Fm [.s,.s,.s,.s] [(3,ow 3),(7,pt 7),(8,AL a),(9,vi (lI a)),(10,vi b),(14,AL (α:=Rect) (gl a b.toNat)),(15,vi (lI (gl a b.toNat))),(16,vi e)] [(3,AO i),(7,bx [ci ((gl (gl a b.toNat) e.toNat).left_),ci ((gl (gl a b.toNat) e.toNat).low_),ci ((gl (gl a b.toNat) e.toNat).right_),ci ((gl (gl a b.toNat) e.toNat).high_)])] (cT H) ?_
     obtain ⟨I,h⟩:=gS h
     refine AW.WP Fm [.s,.s,.s,.s,.s,.w (AL (α:=Int) ([(gl (gl a b.toNat) e.toNat).low_,(gl (gl a b.toNat) e.toNat).high_]:List Int)),.s,.s] [(3,ow 26),(8,AL a),(9,vi (lI a)),(10,vi b),(14,AL (α:=Rect) (gl a b.toNat)),(15,vi (lI (gl a b.toNat))),(16,vi e)] [(26,AO (α:=Int) (i++([(gl (gl a b.toNat) e.toNat).low_,(gl (gl a b.toNat) e.toNat).high_]:List Int)))] (cA (ALe.lst (.lit ([(gl (gl a b.toNat) e.toNat).low_,(gl (gl a b.toNat) e.toNat).high_]:List Int) (by kernel_rfl)):ALe (.v (.c (.d (.lst 2 (litF 1 [.int .i64 (gl (gl a b.toNat) e.toNat).low_,.int .i64 (gl (gl a b.toNat) e.toNat).high_]))))) (AL (α:=Int) ([(gl (gl a b.toNat) e.toNat).low_,(gl (gl a b.toNat) e.toNat).high_]:List Int))) (cT (cA I (cT (Is.refl ([(gl (gl a b.toNat) e.toNat).low_,(gl (gl a b.toNat) e.toNat).high_]:List Int):Is (List.length (α:=Int) ([(gl (gl a b.toNat) e.toNat).low_,(gl (gl a b.toNat) e.toNat).high_]:List Int)) (LF (α:=Int) ([(gl (gl a b.toNat) e.toNat).low_,(gl (gl a b.toNat) e.toNat).high_]:List Int)) ([(gl (gl a b.toNat) e.toNat).low_,(gl (gl a b.toNat) e.toNat).high_]:List Int)).len)))) [(26,.arr 1 ((List.length (α:=Int) i)+(List.length (α:=Int) ([(gl (gl a b.toNat) e.toNat).low_,(gl (gl a b.toNat) e.toNat).high_]:List Int))) (appF (List.length (α:=Int) i) (LF (α:=Int) i) (LF (α:=Int) ([(gl (gl a b.toNat) e.toNat).low_,(gl (gl a b.toNat) e.toNat).high_]:List Int))))] ⟨OLe.is (Is.app (Is.refl i) (Is.refl ([(gl (gl a b.toNat) e.toNat).low_,(gl (gl a b.toNat) e.toNat).high_]:List Int))),⟨⟩⟩ ?_
     obtain ⟨L,h⟩:=gS h
     refine AW.pN Fm [.s,.s] [(3,ow 26),(8,AL a),(9,vi (lI a)),(10,vi b),(14,AL (α:=Rect) (gl a b.toNat)),(15,vi (lI (gl a b.toNat))),(16,vi (e+1))] [(26,AO (α:=Int) (i++([(gl (gl a b.toNat) e.toNat).low_,(gl (gl a b.toNat) e.toNat).high_]:List Int)))] (cT (cT L)) ?_
     exact Kn.RE Fm [(3,26)] (t ((e+1),(i++([(gl (gl a b.toNat) e.toNat).low_,(gl (gl a b.toNat) e.toNat).high_]:List Int))) h)
    ·exact AW.exit (Kn.R Fm (u i h))
  ·exact AW.exit (Kn.R Fm (y j h))
theorem cmp_isNaN_int_spec {F:Nat} {a:Int} {r:Bool} (h:cmp_isNaN_int F a=some r) :
  FSpec Try.prog 46 [vi a] [] (vb r) []:=by
 refine FI Try.func46 prog_mixed prog_lay fun C Fm=>?_
 unfold cmp_isNaN_int at h
 refine AW.SG0 Fm 1 [(0,vi a)] [] ?_
 refine AW.SG0 Fm 4 [(2,vb (a != a))] [] ?_
 refine AW.ret ?_
 obtain rfl:=Option.some.inj h
 exact Kn.D Fm
theorem cmp_Compare_int_spec {F:Nat} {a:Int} {b:Int} {r:Int} (h:cmp_Compare_int F a b=some r) :
  FSpec Try.prog 28 [vi a,vi b] [] (vi r) []:=by
 refine FI Try.func28 prog_mixed prog_lay fun C Fm=>?_
 unfold cmp_Compare_int at h
 refine AW.SG0 Fm 1 [(0,vi a),(1,vi b)] [] ?_
 refine AW.seq ?_
 obtain ⟨d,n,h⟩:=bS h
 refine AW.G Fm [.s,.k (cE [] [] (vb d) [] []),.s] (fun K=>K 1∧True) [(0,vi a),(1,vi b),(5,vb d)] [] ⟨KAt.CC (cmp_isNaN_int_spec n) Try.call46 [],⟨⟩⟩ ?_
 refine AW.seq ?_
 obtain ⟨c,o,h⟩:=bS h
 refine AW.G Fm [.s,.k (cE [] [] (vb c) [] []),.s] (fun K=>K 1∧True) [(0,vi a),(1,vi b),(5,vb d),(6,vb c)] [] ⟨KAt.CC (cmp_isNaN_int_spec o) Try.call46 [],⟨⟩⟩ ?_
 refine AW.seq (AW.SG0 Fm 1 [(0,vi a),(1,vi b),(6,vb c),(11,vb d)] [] ?_)
 refine AW.cN h (fun e h=>?_) (fun e h=>?_)
 ·refine AW.seq (AW.SG0 Fm 1 [(12,vb c)] [] ?_)
  refine AW.cN h (fun i h=>?_) (fun i h=>?_)
  ·refine AW.SG0 Fm 1 [(4,vi 0)] [] ?_
   refine AW.ret ?_
   obtain rfl:=Option.some.inj h
   exact Kn.D Fm
  ·refine AW.skip (AW.SG0 Fm 1 [(4,vi (-1:Int))] [] ?_)
   refine AW.ret ?_
   obtain rfl:=Option.some.inj h
   exact Kn.D Fm
 ·refine AW.skip (AW.seq (AW.SG0 Fm 1 [(0,vi a),(1,vi b),(13,vb c)] [] ?_))
  refine AW.cN h (fun j h=>?_) (fun j h=>?_)
  ·refine AW.SG0 Fm 1 [(4,vi 1)] [] ?_
   refine AW.ret ?_
   obtain rfl:=Option.some.inj h
   exact Kn.D Fm
  ·refine AW.skip (AW.seq (AW.SG0 Fm 3 [(0,vi a),(1,vi b),(16,vb (decide (a<b)))] [] ?_))
   refine AW.cN h (fun l h=>?_) (fun l h=>?_)
   ·refine AW.SG0 Fm 1 [(4,vi (-1:Int))] [] ?_
    refine AW.ret ?_
    obtain rfl:=Option.some.inj h
    exact Kn.D Fm
   ·refine AW.skip (AW.seq (AW.SG0 Fm 3 [(19,vb (decide (b<a)))] [] ?_))
    refine AW.cN h (fun m h=>?_) (fun m h=>?_)
    ·refine AW.SG0 Fm 1 [(4,vi 1)] [] ?_
     refine AW.ret ?_
     obtain rfl:=Option.some.inj h
     exact Kn.D Fm
    ·refine AW.skip (AW.SG0 Fm 1 [(4,vi 0)] [] ?_)
     refine AW.ret ?_
     obtain rfl:=Option.some.inj h
     exact Kn.D Fm
theorem region_Row_1_spec {F:Nat} {a:Span} {b:Span} {r:Int} (h:region_Row_1 F a b=some r) :
  FSpec Try.prog 68 [gE a,gE b] [] (vi r) []:=by
 refine FI Try.func68 prog_mixed prog_lay fun C Fm=>?_
 unfold region_Row_1 at h
 refine AW.SG0 Fm 3 [(2,pt 2),(3,pt 3)] [(2,bx (gC a)),(3,bx (gC b))] ?_
 refine AW.seq ?_
 obtain ⟨c,d,h⟩:=bS h
 refine AW.G Fm [.s,.s,.s,.s,.k (cE [] [] (vi c) [] []),.s] (fun K=>K 4∧True) [(4,vi c)] [] ⟨KAt.CC (cmp_Compare_int_spec d) Try.call28 [],⟨⟩⟩ ?_
 refine AW.ret ?_
 obtain rfl:=Option.some.inj h
 exact Kn.D Fm
theorem region_Row_spec {F:Nat} {a:(List Rect)} {n:Int} {r:(List Span)} (h:region_Row F a n=some r) :
  FSpec Try.prog 56 [AL a,vi n] [] (AL (α:=Span) r) []:=by
 refine FI Try.func56 prog_mixed prog_lay fun C Fm=>?_
 unfold region_Row at h
 refine AW.SG0 Fm 1 [(0,AL a),(1,vi n)] [] ?_
 refine AW.SW Fm [.m] (fun K=>True) [(0,AL a),(1,vi n),(5,ow 5)] [(5,AO (α:=Span) ([]:List Span))] True.intro [(5,.arr 2 (0) (fun _=>[]))] ⟨OLe.is ((Is.nil (α:=Span))),⟨⟩⟩ ?_
 refine AW.join (r:=r) (fun z:(List Span)=>region_Row_k3 F z) (fun z=>[(5,ow 5)]) (fun z=>[(5,AO z)]) (fun p0 h=>?_) (fun u0 W=>?_)
 ·refine AW.seq ?_
  obtain ⟨b,o0,h⟩:=bS h
  refine AW.G Fm [.s,.k (cE [(0,5)] [] (.any) [(0,AO p0)] [(0,AO b)])] (fun K=>K 1∧True) [(5,ow 5)] [(5,AO b)] ⟨KAt.callX (sortF_spec o0) Try.call67 [(0,5)] [] [.tmp 37,.func 68] rfl (by kernel_rfl) (by kernel_rfl) (by kernel_rfl) ⟨.p,ArgT.cloX Try.call68 [] (fun args r hq=>by obtain ⟨y0,y1,y,hq,rfl,rfl⟩:=hq; exact Eq.mp (by kernel_rfl) (region_Row_1_spec hq)) (fun args r hq=>by obtain ⟨y0,y1,y,hq,rfl,rfl⟩:=hq; rfl) (by kernel_rfl) [] (by kernel_rfl) (by kernel_rfl) (True.intro) (by kernel_rfl),⟨⟩⟩,⟨⟩⟩ ?_
  refine AW.SW Fm [.m] (fun K=>True) [(5,ow 5),(8,ow 8)] [(5,AO b),(8,AO (α:=Span) ([]:List Span))] True.intro [(8,.arr 2 (0) (fun _=>[]))] ⟨OLe.is ((Is.nil (α:=Span))),⟨⟩⟩ ?_
  refine AW.join (r:=r) (fun z:(List Span)=>region_Row_k7 F z) (fun z=>[(8,ow 8)]) (fun z=>[(8,AO z)]) (fun A h=>?_) (fun D0 Y=>?_)
  ·refine AW.SG0 Fm 2 [(4,ow 8)] [(8,AO A)] ?_
   refine AW.ret ?_
   obtain rfl:=Option.some.inj h
   refine Kn.r Fm [(4,ow 8)] [(8,AO A)] (by kernel_rfl) ?_
   refine Kn.frz [(4,AL A)] [] (by kernel_rfl) (by kernel_rfl) (by kernel_rfl) ?_
   exact Kn.D Fm
  ·refine AW.SG0 Fm 3 [(8,ow 8),(39,ow 5),(40,vi (lI b)),(41,vi 0)] [(5,AO b),(8,AO (α:=Span) ([]:List Span))] ?_
   refine AW.block (Kn.r Fm [(8,ow 8),(39,ow 5),(40,vi (lI b)),(41,vi 0)] [(5,AO b),(8,AO ([]:List Span))] (by kernel_rfl) ?_)
   refine AW.loopF (E' := fun z=>[(8,ow 8),(39,ow 5),(40,vi (lI b)),(41,vi z.1)]) (S' := fun z=>[(5,AO b),(8,AO z.2)]) (fun E z w0 X h=>?_) h
   obtain ⟨l,i⟩:=z
   refine AW.SG0 Fm 1 [(8,ow 8),(39,ow 5),(40,vi (lI b)),(41,vi l),(42,vb (decide (l<(lI b))))] [(5,AO b),(8,AO i)] ?_
   refine AW.seq (AW.cN h (fun b0 h=>?_) (fun b0 h=>?_))
   ·refine AW.skip (AW.join (r:=r) (fun z:(List Span)=>region_Row_k6 F l E z) (fun z=>[(8,ow 8),(39,ow 5),(40,vi (lI b)),(41,vi l)]) (fun z=>[(5,AO b),(8,AO z)]) (fun U h=>?_) (fun B0 M=>?_))
    ·obtain ⟨n0,h⟩:=gS h
     refine AW.pN Fm [.s,.s] [(8,ow 8),(39,ow 5),(40,vi (lI b)),(41,vi (l+1))] [(5,AO b),(8,AO U)] (cT (cT n0)) ?_
     exact Kn.R Fm (X ((l+1),U) h)
    ·refine AW.block ?_
     obtain ⟨N,h⟩:=gS h
     refine AW.SP Fm [.s,.s,.s,.s] [(8,ow 8),(10,pt 10),(39,ow 5),(40,vi (lI b)),(41,vi l)] [(5,AO b),(8,AO i),(10,bx [ci ((gl b l.toNat).left_),ci ((gl b l.toNat).right_)])] (cA N (cT (toNat_lt N))) ?_
     refine AW.SG0 Fm 3 [(8,ow 8),(10,pt 10),(11,vi (lI i)),(39,ow 5),(40,vi (lI b)),(41,vi l)] [(5,AO b),(8,AO i),(10,bx [ci ((gl b l.toNat).left_),ci ((gl b l.toNat).right_)])] ?_
     refine AW.join (r:=r) (fun z:Bool=>region_Row_k5 F b l i E z) (fun z=>[(8,ow 8),(10,pt 10),(11,vi (lI i)),(39,ow 5),(40,vi (lI b)),(41,vi l),(59,vb z)]) (fun z=>[(5,AO b),(8,AO i),(10,bx [ci ((gl b l.toNat).left_),ci ((gl b l.toNat).right_)])]) (fun G0 h=>?_) (fun A0 L=>?_)
     ·refine AW.cN h (fun c0 h=>?_) (fun c0 h=>?_)
      ·obtain ⟨k0,l0,P,u,h⟩:=gS4 h
       refine AW.WP Fm [.s,.s,.s,.s,.s,.s,.s,.s,.s,.s,.s,.s,.s,.s,.s] [(8,ow 8),(39,ow 5),(40,vi (lI b)),(41,vi l)] [(5,AO b),(8,AO (α:=Span) (List.set i ((lI i)-1).toNat (⟨(gl i ((lI i)-1).toNat).left_,(gmax ((gl i ((lI i)-1).toNat).right_) ((gl b l.toNat).right_))⟩ : Span)))] (cA (cT k0) (cA (cT l0) (cA P (cA (toNat_lt P) (cA u (cT (toNat_lt u))))))) [(8,.arr 2 (List.length (α:=Span) i) (fun j=>if j=((lI i)-1).toNat then splice ((LF (α:=Span) i) ((lI i)-1).toNat) 1 [.int .i64 (gmax ((gl i ((lI i)-1).toNat).right_) ((gl b l.toNat).right_))] else (LF (α:=Span) i) j))] ⟨OLe.is (Is.set (Is.refl i) (toNat_lt u) (⟨(gl i ((lI i)-1).toNat).left_,(gmax ((gl i ((lI i)-1).toNat).right_) ((gl b l.toNat).right_))⟩ : Span) (by kernel_rfl)),⟨⟩⟩ ?_
       exact Kn.R Fm (M (List.set i ((lI i)-1).toNat (⟨(gl i ((lI i)-1).toNat).left_,(gmax ((gl i ((lI i)-1).toNat).right_) ((gl b l.toNat).right_))⟩ : Span)) h)
      ·obtain ⟨m0,h⟩:=gS h
       refine AW.WP Fm [.s,.s,.w (AL (α:=Span) ([(gl b l.toNat)]:List Span)),.s,.s] [(8,ow 77),(39,ow 5),(40,vi (lI b)),(41,vi l)] [(5,AO b),(77,AO (α:=Span) (i++([(gl b l.toNat)]:List Span)))] (cA (ALe.lst (.lit ([(gl b l.toNat)]:List Span) (by kernel_rfl)):ALe (.v (.c (.d (.lst 1 (litF 2 [.int .i64 (gl b l.toNat).left_,.int .i64 (gl b l.toNat).right_]))))) (AL (α:=Span) ([(gl b l.toNat)]:List Span))) (cT (cA m0 (cT (Is.refl ([(gl b l.toNat)]:List Span):Is (List.length (α:=Span) ([(gl b l.toNat)]:List Span)) (LF (α:=Span) ([(gl b l.toNat)]:List Span)) ([(gl b l.toNat)]:List Span)).len)))) [(77,.arr 2 ((List.length (α:=Span) i)+(List.length (α:=Span) ([(gl b l.toNat)]:List Span))) (appF (List.length (α:=Span) i) (LF (α:=Span) i) (LF (α:=Span) ([(gl b l.toNat)]:List Span))))] ⟨OLe.is (Is.app (Is.refl i) (Is.refl ([(gl b l.toNat)]:List Span))),⟨⟩⟩ ?_
       exact Kn.RE Fm [(8,77)] (M (i++([(gl b l.toNat)]:List Span)) h)
     ·rcases br_or h with ⟨t,h⟩|⟨t,h⟩
      ·obtain ⟨j0,O,h⟩:=gS2 h
       refine AW.pN Fm [.s,.s,.w (vb true),.s,.s,.s,.s,.s,.s,.s,.s,.s,.s] [(8,ow 8),(10,pt 10),(11,vi (lI i)),(39,ow 5),(40,vi (lI b)),(41,vi l),(50,pt 10),(51,vi (gl b l.toNat).left_),(52,ow 8),(53,vi (lI i)),(54,vi ((lI i)-1)),(55,.v (.c (.pte 8 2 (((lI i)-1).toNat) 0))),(56,.v (.c (.pte 8 2 (((lI i)-1).toNat) 1))),(57,vi (gl i ((lI i)-1).toNat).right_),(58,vb (decide (((gl b l.toNat).left_)≤((gl i ((lI i)-1).toNat).right_)))),(59,vb (decide (((gl b l.toNat).left_)≤((gl i ((lI i)-1).toNat).right_))))] [(5,AO b),(8,AO i),(10,bx [ci ((gl b l.toNat).left_),ci ((gl b l.toNat).right_)])] (cA (ALe.bool t) (cA (cT j0) (cA O (cT (toNat_lt O))))) ?_
       exact Kn.R Fm (L (decide (((gl b l.toNat).left_)≤((gl i ((lI i)-1).toNat).right_))) h)
      ·refine AW.pN Fm [.s,.s,.w (vb false),.s,.s,.s,.s,.s,.s,.s,.s,.s,.s] [(8,ow 8),(10,pt 10),(11,vi (lI i)),(39,ow 5),(40,vi (lI b)),(41,vi l),(59,vb false)] [(5,AO b),(8,AO i),(10,bx [ci ((gl b l.toNat).left_),ci ((gl b l.toNat).right_)])] (cT (ALe.bool t)) ?_
       exact Kn.R Fm (L false h)
   ·exact AW.exit (Kn.R Fm (Y i h))
 ·refine AW.SG0 Fm 3 [(1,vi n),(5,ow 5),(12,AL a),(13,vi (lI a)),(14,vi 0)] [(5,AO (α:=Span) ([]:List Span))] ?_
  refine AW.block (Kn.r Fm [(1,vi n),(5,ow 5),(12,AL a),(13,vi (lI a)),(14,vi 0)] [(5,AO ([]:List Span))] (by kernel_rfl) ?_)
  refine AW.loopF (E' := fun z=>[(1,vi n),(5,ow 5),(12,AL a),(13,vi (lI a)),(14,vi z.1)]) (S' := fun z=>[(5,AO z.2)]) (fun B z q0 V h=>?_) h
  obtain ⟨e,o⟩:=z
  refine AW.SG0 Fm 1 [(1,vi n),(5,ow 5),(12,AL a),(13,vi (lI a)),(14,vi e),(15,vb (decide (e<(lI a))))] [(5,AO o)] ?_
  refine AW.seq (AW.cN h (fun Z h=>?_) (fun Z h=>?_))
  ·refine AW.skip (AW.join (r:=r) (fun z:(List Span)=>region_Row_k2 F e B z) (fun z=>[(1,vi n),(5,ow 35),(12,AL a),(13,vi (lI a)),(14,vi e)]) (fun z=>[(35,AO z)]) (fun T h=>?_) (fun t0 I=>?_))
   ·obtain ⟨i0,h⟩:=gS h
    refine AW.pN Fm [.s,.s] [(1,vi n),(5,ow 35),(12,AL a),(13,vi (lI a)),(14,vi (e+1))] [(35,AO T)] (cT (cT i0)) ?_
    exact Kn.RE Fm [(5,35)] (V ((e+1),T) h)
   ·refine AW.block ?_
    obtain ⟨d0,h⟩:=gS h
    refine AW.SP Fm [.s,.s,.s,.s] [(1,vi n),(5,ow 5),(7,pt 7),(12,AL a),(13,vi (lI a)),(14,vi e)] [(5,AO o),(7,bx [ci ((gl a e.toNat).left_),ci ((gl a e.toNat).low_),ci ((gl a e.toNat).right_),ci ((gl a e.toNat).high_)])] (cT d0) ?_
    refine AW.join (r:=r) (fun z:Bool=>region_Row_k1 F a e o B z) (fun z=>[(1,vi n),(5,ow 5),(7,pt 7),(12,AL a),(13,vi (lI a)),(14,vi e),(27,vb z)]) (fun z=>[(5,AO o),(7,bx [ci ((gl a e.toNat).left_),ci ((gl a e.toNat).low_),ci ((gl a e.toNat).right_),ci ((gl a e.toNat).high_)])]) (fun E0 h=>?_) (fun s0 H=>?_)
    ·refine AW.cN h (fun a0 h=>?_) (fun a0 h=>?_)
     ·obtain ⟨e0,h⟩:=gS h
      refine AW.WP Fm [.s,.s,.s,.s,.s,.s,.w (AL (α:=Span) ([(⟨(gl a e.toNat).left_,(gl a e.toNat).right_⟩ : Span)]:List Span)),.s,.s] [(1,vi n),(5,ow 35),(12,AL a),(13,vi (lI a)),(14,vi e)] [(35,AO (α:=Span) (o++([(⟨(gl a e.toNat).left_,(gl a e.toNat).right_⟩ : Span)]:List Span)))] (cA (ALe.lst (.lit ([(⟨(gl a e.toNat).left_,(gl a e.toNat).right_⟩ : Span)]:List Span) (by kernel_rfl)):ALe (.v (.c (.d (.lst 1 (litF 2 [.int .i64 (gl a e.toNat).left_,.int .i64 (gl a e.toNat).right_]))))) (AL (α:=Span) ([(⟨(gl a e.toNat).left_,(gl a e.toNat).right_⟩ : Span)]:List Span))) (cT (cA e0 (cT (Is.refl ([(⟨(gl a e.toNat).left_,(gl a e.toNat).right_⟩ : Span)]:List Span):Is (List.length (α:=Span) ([(⟨(gl a e.toNat).left_,(gl a e.toNat).right_⟩ : Span)]:List Span)) (LF (α:=Span) ([(⟨(gl a e.toNat).left_,(gl a e.toNat).right_⟩ : Span)]:List Span)) ([(⟨(gl a e.toNat).left_,(gl a e.toNat).right_⟩ : Span)]:List Span)).len)))) [(35,.arr 2 ((List.length (α:=Span) o)+(List.length (α:=Span) ([(⟨(gl a e.toNat).left_,(gl a e.toNat).right_⟩ : Span)]:List Span))) (appF (List.length (α:=Span) o) (LF (α:=Span) o) (LF (α:=Span) ([(⟨(gl a e.toNat).left_,(gl a e.toNat).right_⟩ : Span)]:List Span))))] ⟨OLe.is (Is.app (Is.refl o) (Is.refl ([(⟨(gl a e.toNat).left_,(gl a e.toNat).right_⟩ : Span)]:List Span))),⟨⟩⟩ ?_
      exact Kn.R Fm (I (o++([(⟨(gl a e.toNat).left_,(gl a e.toNat).right_⟩ : Span)]:List Span)) h)
     ·exact AW.skip (Kn.RE Fm [(35,5)] (I o h))
    ·rcases br_or h with ⟨q,h⟩|⟨q,h⟩
     ·refine AW.pN Fm [.s,.s,.s,.s,.w (vb true),.s,.s,.s,.s,.s] [(1,vi n),(5,ow 5),(7,pt 7),(12,AL a),(13,vi (lI a)),(14,vi e),(23,vi n),(24,.v (.c (.ptr 7 3))),(25,vi (gl a e.toNat).high_),(26,vb (decide (n<((gl a e.toNat).high_)))),(27,vb (decide (n<((gl a e.toNat).high_))))] [(5,AO o),(7,bx [ci ((gl a e.toNat).left_),ci ((gl a e.toNat).low_),ci ((gl a e.toNat).right_),ci ((gl a e.toNat).high_)])] (cT (ALe.bool q)) ?_
      exact Kn.R Fm (H (decide (n<((gl a e.toNat).high_))) h)
     ·refine AW.pN Fm [.s,.s,.s,.s,.w (vb false),.s,.s,.s,.s,.s] [(1,vi n),(5,ow 5),(7,pt 7),(12,AL a),(13,vi (lI a)),(14,vi e),(27,vb false)] [(5,AO o),(7,bx [ci ((gl a e.toNat).left_),ci ((gl a e.toNat).low_),ci ((gl a e.toNat).right_),ci ((gl a e.toNat).high_)])] (cT (ALe.bool q)) ?_
      exact Kn.R Fm (H false h)
  ·exact AW.exit (Kn.R Fm (W o h))
theorem region_canonical_1_spec {F:Nat} {b:Int} {a:(List Rect)} {r:(List Span)} (h:region_canonical_1 F b a=some r) :
  FSpec Try.prog 55 [vi b,pt 0] [(0,.box true [.d (DL a)])] (AL (α:=Span) r) [(0,.box true [.d (DL a)])]:=by
 refine FI Try.func55 prog_mixed prog_lay fun C Fm=>?_
 unfold region_canonical_1 at h
 refine AW.SG0 Fm 1 [(0,vi b),(1,pt 0)] [(0,.box true [.d (DL a)])] ?_
 refine AW.seq ?_
 obtain ⟨c,e,h⟩:=bS h
 refine AW.G Fm [.s,.s,.k (cE [] [] (AL c) [] []),.s] (fun K=>K 2∧True) [(3,AL c)] [(0,.box true [.d (DL a)])] ⟨KAt.CC (region_Row_spec e) Try.call56 [],⟨⟩⟩ ?_
 refine AW.ret ?_
 obtain rfl:=Option.some.inj h
 exact Kn.D Fm
theorem slices_Equal_Span_spec {F:Nat} {a:(List Span)} {d:(List Span)} {r:Bool} (h:slices_Equal_Span F a d=some r) :
  FSpec Try.prog 63 [AL a,AL d] [] (vb r) []:=by
 refine FI Try.func63 prog_mixed prog_lay fun C Fm=>?_
 unfold slices_Equal_Span at h
 refine AW.SG0 Fm 1 [(0,AL a),(1,AL d)] [] ?_
 refine AW.seq (AW.SG0 Fm 5 [(0,AL a),(1,AL d),(10,vb ((lI a) != (lI d)))] [] ?_)
 refine AW.cN h (fun j h=>?_) (fun j h=>?_)
 ·refine AW.SG0 Fm 1 [(4,vb false)] [] ?_
  refine AW.ret ?_
  obtain rfl:=Option.some.inj h
  exact Kn.D Fm
 ·refine AW.skip (AW.join (r:=r) (fun z:Unit=>slices_Equal_Span_k1 F) (fun z=>[]) (fun z=>[]) (fun z h=>?_) (fun t i=>?_))
  ·refine AW.SG0 Fm 1 [(4,vb true)] [] ?_
   refine AW.ret ?_
   obtain rfl:=Option.some.inj h
   exact Kn.D Fm
  ·refine AW.SG0 Fm 3 [(0,AL a),(1,AL d),(12,vi (lI a)),(13,vi 0)] [] ?_
   refine AW.block (AW.loopF (E' := fun z=>[(0,AL a),(1,AL d),(12,vi (lI a)),(13,vi z)]) (S' := fun z=>[]) (fun u c q e h=>?_) h)
   refine AW.SG0 Fm 1 [(0,AL a),(1,AL d),(12,vi (lI a)),(13,vi c),(14,vb (decide (c<(lI a))))] [] ?_
   refine AW.seq (AW.cN h (fun l h=>?_) (fun l h=>?_))
   ·refine AW.skip (AW.seq (AW.block (AW.SG0 Fm 2 [(0,AL a),(1,AL d),(5,vi c),(12,vi (lI a)),(13,vi c)] [] ?_)))
    obtain ⟨n,o,h⟩:=gS2 h
    refine AW.SG Fm [.s,.s,.s,.s,.s,.s,.s,.s,.k (sE (vb (!((((gl a c.toNat).left_)==((gl d c.toNat).left_))&&((((gl a c.toNat).right_)==((gl d c.toNat).right_))&&true)))))] (fun K=>_∧_∧K 8∧True) [(0,AL a),(1,AL d),(12,vi (lI a)),(13,vi c),(24,vb (!((((gl a c.toNat).left_)==((gl d c.toNat).left_))&&((((gl a c.toNat).right_)==((gl d c.toNat).right_))&&true))))] [] ⟨n,o,KAt.eq (xs:=[ci ((gl a c.toNat).left_),ci ((gl a c.toNat).right_)]) (ys:=[ci ((gl d c.toNat).left_),ci ((gl d c.toNat).right_)]) eqT91 false (b:=((((gl a c.toNat).left_)==((gl d c.toNat).left_))&&((((gl a c.toNat).right_)==((gl d c.toNat).right_))&&true))) rfl rfl (by kernel_rfl) (by kernel_rfl) (by kernel_rfl) (by kernel_rfl),⟨⟩⟩ ?_
    refine AW.cN h (fun m h=>?_) (fun m h=>?_)
    ·refine AW.SG0 Fm 1 [(4,vb false)] [] ?_
     refine AW.ret ?_
     obtain rfl:=Option.some.inj h
     exact Kn.D Fm
    ·refine AW.skip ?_
     obtain ⟨p,h⟩:=gS h
     refine AW.pN Fm [.s,.s] [(0,AL a),(1,AL d),(12,vi (lI a)),(13,vi (c+1))] [] (cT (cT p)) ?_
     exact Kn.R Fm (e (c+1) h)
   ·exact AW.exit (Kn.R Fm (i () h))
theorem region_rects_spec {F:Nat} {a:(List Band)} {r:(List Rect)} (h:region_rects F a=some r) :
  FSpec Try.prog 64 [AL a] [] (AL (α:=Rect) r) []:=by
 refine FI Try.func64 prog_mixed prog_lay fun C Fm=>?_
 unfold region_rects at h
 refine AW.SG0 Fm 1 [(0,AL a)] [] ?_
 refine AW.SW Fm [.m] (fun K=>True) [(0,AL a),(3,ow 3)] [(3,AO (α:=Rect) ([]:List Rect))] True.intro [(3,.arr 4 (0) (fun _=>[]))] ⟨OLe.is ((Is.nil (α:=Rect))),⟨⟩⟩ ?_
 refine AW.join (r:=r) (fun z:(List Rect)=>region_rects_k3 F z) (fun z=>[(3,ow 3)]) (fun z=>[(3,AO z)]) (fun k h=>?_) (fun N t=>?_)
 ·refine AW.SG0 Fm 2 [(2,ow 3)] [(3,AO k)] ?_
  refine AW.ret ?_
  obtain rfl:=Option.some.inj h
  refine Kn.r Fm [(2,ow 3)] [(3,AO k)] (by kernel_rfl) ?_
  refine Kn.frz [(2,AL k)] [] (by kernel_rfl) (by kernel_rfl) (by kernel_rfl) ?_
  exact Kn.D Fm
 ·refine AW.SG0 Fm 3 [(3,ow 3),(8,AL a),(9,vi (lI a)),(10,vi 0)] [(3,AO (α:=Rect) ([]:List Rect))] ?_
  refine AW.block (Kn.r Fm [(3,ow 3),(8,AL a),(9,vi (lI a)),(10,vi 0)] [(3,AO ([]:List Rect))] (by kernel_rfl) ?_)
  refine AW.loopF (E' := fun z=>[(3,ow 3),(8,AL a),(9,vi (lI a)),(10,vi z.1)]) (S' := fun z=>[(3,AO z.2)]) (fun n z I o h=>?_) h
  obtain ⟨b,j⟩:=z
  refine AW.SG0 Fm 1 [(3,ow 3),(8,AL a),(9,vi (lI a)),(10,vi b),(11,vb (decide (b<(lI a))))] [(3,AO j)] ?_
  refine AW.seq (AW.cN h (fun u h=>?_) (fun u h=>?_))
  ·refine AW.skip (AW.join (r:=r) (fun z:(List Rect)=>region_rects_k2 F b n z) (fun z=>[(3,ow 3),(8,AL a),(9,vi (lI a)),(10,vi b)]) (fun z=>[(3,AO z)]) (fun l h=>?_) (fun M q=>?_))
   ·obtain ⟨H,h⟩:=gS h
    refine AW.pN Fm [.s,.s] [(3,ow 3),(8,AL a),(9,vi (lI a)),(10,vi (b+1))] [(3,AO l)] (cT (cT H)) ?_
    exact Kn.R Fm (o ((b+1),l) h)
   ·refine AW.block ?_
    obtain ⟨A,h⟩:=gS h
    refine AW.SP Fm [.s,.s,.s,.s] [(3,ow 3),(5,pt 5),(8,AL a),(9,vi (lI a)),(10,vi b)] [(3,AO j),(5,bx [ci ((gl a b.toNat).low_),ci ((gl a b.toNat).high_),.d (DL (α:=Span) (gl a b.toNat).spans_)])] (cT A) ?_
    refine AW.SG0 Fm 4 [(3,ow 3),(5,pt 5),(8,AL a),(9,vi (lI a)),(10,vi b),(15,AL (α:=Span) (gl a b.toNat).spans_),(16,vi (lI ((gl a b.toNat).spans_))),(17,vi 0)] [(3,AO j),(5,bx [ci ((gl a b.toNat).low_),ci ((gl a b.toNat).high_),.d (DL (α:=Span) (gl a b.toNat).spans_)])] ?_
    refine AW.block (AW.loopF (E' := fun z=>[(3,ow 3),(5,pt 5),(8,AL a),(9,vi (lI a)),(10,vi b),(15,AL (α:=Span) (gl a b.toNat).spans_),(16,vi (lI ((gl a b.toNat).spans_))),(17,vi z.1)]) (S' := fun z=>[(3,AO z.2),(5,bx [ci ((gl a b.toNat).low_),ci ((gl a b.toNat).high_),.d (DL (α:=Span) (gl a b.toNat).spans_)])]) (fun O z L p h=>?_) h)
    obtain ⟨e,i⟩:=z
    refine AW.SG0 Fm 1 [(3,ow 3),(5,pt 5),(8,AL a),(9,vi (lI a)),(10,vi b),(15,AL (α:=Span) (gl a b.toNat).spans_),(16,vi (lI ((gl a b.toNat).spans_))),(17,vi e),(18,vb (decide (e<(lI ((gl a b.toNat).spans_)))))] [(3,AO i),(5,bx [ci ((gl a b.toNat).low_),ci ((gl a b.toNat).high_),.d (DL (α:=Span) (gl a b.toNat).spans_)])] ?_
    refine AW.seq (AW.cN h (fun y h=>?_) (fun y h=>?_))
    ·refine AW.skip (AW.seq (AW.block ?_))
     obtain ⟨B,h⟩:=gS h
     refine AW.SP Fm [.s,.s,.s,.s] [(3,ow 3),(5,pt 5),(7,pt 7),(8,AL a),(9,vi (lI a)),(10,vi b),(15,AL (α:=Span) (gl a b.toNat).spans_),(16,vi (lI ((gl a b.toNat).spans_))),(17,vi e)] [(3,AO i),(5,bx [ci ((gl a b.toNat).low_),ci ((gl a b.toNat).high_),.d (DL (α:=Span) (gl a b.toNat).spans_)]),(7,bx [ci ((gl ((gl a b.toNat).spans_) e.toNat).left_),ci ((gl ((gl a b.toNat).spans_) e.toNat).right_)])] (cT B) ?_
     obtain ⟨E,h⟩:=gS h
     refine AW.WP Fm [.s,.s,.s,.s,.s,.s,.s,.s,.s,.s,.w (AL (α:=Rect) ([(⟨(gl ((gl a b.toNat).spans_) e.toNat).left_,(gl a b.toNat).low_,(gl ((gl a b.toNat).spans_) e.toNat).right_,(gl a b.toNat).high_⟩ : Rect)]:List Rect)),.s,.s] [(3,ow 32),(5,pt 5),(8,AL a),(9,vi (lI a)),(10,vi b),(15,AL (α:=Span) (gl a b.toNat).spans_),(16,vi (lI ((gl a b.toNat).spans_))),(17,vi e)] [(5,bx [ci ((gl a b.toNat).low_),ci ((gl a b.toNat).high_),.d (DL (α:=Span) (gl a b.toNat).spans_)]),(32,AO (α:=Rect) (i++([(⟨(gl ((gl a b.toNat).spans_) e.toNat).left_,(gl a b.toNat).low_,(gl ((gl a b.toNat).spans_) e.toNat).right_,(gl a b.toNat).high_⟩ : Rect)]:List Rect)))] (cA (ALe.lst (.lit ([(⟨(gl ((gl a b.toNat).spans_) e.toNat).left_,(gl a b.toNat).low_,(gl ((gl a b.toNat).spans_) e.toNat).right_,(gl a b.toNat).high_⟩ : Rect)]:List Rect) (by kernel_rfl)):ALe (.v (.c (.d (.lst 1 (litF 4 [.int .i64 (gl ((gl a b.toNat).spans_) e.toNat).left_,.int .i64 (gl a b.toNat).low_,.int .i64 (gl ((gl a b.toNat).spans_) e.toNat).right_,.int .i64 (gl a b.toNat).high_]))))) (AL (α:=Rect) ([(⟨(gl ((gl a b.toNat).spans_) e.toNat).left_,(gl a b.toNat).low_,(gl ((gl a b.toNat).spans_) e.toNat).right_,(gl a b.toNat).high_⟩ : Rect)]:List Rect))) (cT (cA E (cT (Is.refl ([(⟨(gl ((gl a b.toNat).spans_) e.toNat).left_,(gl a b.toNat).low_,(gl ((gl a b.toNat).spans_) e.toNat).right_,(gl a b.toNat).high_⟩ : Rect)]:List Rect):Is (List.length (α:=Rect) ([(⟨(gl ((gl a b.toNat).spans_) e.toNat).left_,(gl a b.toNat).low_,(gl ((gl a b.toNat).spans_) e.toNat).right_,(gl a b.toNat).high_⟩ : Rect)]:List Rect)) (LF (α:=Rect) ([(⟨(gl ((gl a b.toNat).spans_) e.toNat).left_,(gl a b.toNat).low_,(gl ((gl a b.toNat).spans_) e.toNat).right_,(gl a b.toNat).high_⟩ : Rect)]:List Rect)) ([(⟨(gl ((gl a b.toNat).spans_) e.toNat).left_,(gl a b.toNat).low_,(gl ((gl a b.toNat).spans_) e.toNat).right_,(gl a b.toNat).high_⟩ : Rect)]:List Rect)).len)))) [(32,.arr 4 ((List.length (α:=Rect) i)+(List.length (α:=Rect) ([(⟨(gl ((gl a b.toNat).spans_) e.toNat).left_,(gl a b.toNat).low_,(gl ((gl a b.toNat).spans_) e.toNat).right_,(gl a b.toNat).high_⟩ : Rect)]:List Rect))) (appF (List.length (α:=Rect) i) (LF (α:=Rect) i) (LF (α:=Rect) ([(⟨(gl ((gl a b.toNat).spans_) e.toNat).left_,(gl a b.toNat).low_,(gl ((gl a b.toNat).spans_) e.toNat).right_,(gl a b.toNat).high_⟩ : Rect)]:List Rect))))] ⟨OLe.is (Is.app (Is.refl i) (Is.refl ([(⟨(gl ((gl a b.toNat).spans_) e.toNat).left_,(gl a b.toNat).low_,(gl ((gl a b.toNat).spans_) e.toNat).right_,(gl a b.toNat).high_⟩ : Rect)]:List Rect))),⟨⟩⟩ ?_
     obtain ⟨G,h⟩:=gS h
     refine AW.pN Fm [.s,.s] [(3,ow 32),(5,pt 5),(8,AL a),(9,vi (lI a)),(10,vi b),(15,AL (α:=Span) (gl a b.toNat).spans_),(16,vi (lI ((gl a b.toNat).spans_))),(17,vi (e+1))] [(5,bx [ci ((gl a b.toNat).low_),ci ((gl a b.toNat).high_),.d (DL (α:=Span) (gl a b.toNat).spans_)]),(32,AO (α:=Rect) (i++([(⟨(gl ((gl a b.toNat).spans_) e.toNat).left_,(gl a b.toNat).low_,(gl ((gl a b.toNat).spans_) e.toNat).right_,(gl a b.toNat).high_⟩ : Rect)]:List Rect)))] (cT (cT G)) ?_
     exact Kn.RE Fm [(3,32)] (p ((e+1),(i++([(⟨(gl ((gl a b.toNat).spans_) e.toNat).left_,(gl a b.toNat).low_,(gl ((gl a b.toNat).spans_) e.toNat).right_,(gl a b.toNat).high_⟩ : Rect)]:List Rect))) h)
    ·exact AW.exit (Kn.R Fm (q i h))
  ·exact AW.exit (Kn.R Fm (t j h))
theorem region_Build_spec {F:Nat} {a:(List Int)} {l:Int→Option (List Span)} {r:(List Rect)} (h:region_Build F a l=some r) :
  FSpec Try.prog 53 [AL a,.v (.c (.sem (CloOK Try.prog (FR_Int_ListSpan l))))] [] (AL (α:=Rect) r) []:=by
 refine FI Try.func53 prog_mixed prog_lay fun C Fm=>?_
 unfold region_Build at h
 refine AW.SG0 Fm 1 [(0,AL a),(1,.v (.c (.sem (CloOK Try.prog (FR_Int_ListSpan l)))))] [] ?_
 refine AW.SW Fm [.m] (fun K=>True) [(0,AL a),(1,.v (.c (.sem (CloOK Try.prog (FR_Int_ListSpan l))))),(5,ow 5)] [(5,AO (α:=Band) ([]:List Band))] True.intro [(5,.arr 3 (0) (fun _=>[]))] ⟨OLe.is ((Is.nil (α:=Band))),⟨⟩⟩ ?_
 refine AW.join (r:=r) (fun z:(List Band)=>region_Build_k3 F z) (fun z=>[(5,ow 5)]) (fun z=>[(5,AO z)]) (fun I h=>?_) (fun l0 N=>?_)
 ·refine AW.seq (Kn.r Fm [(5,ow 5)] [(5,AO I)] (by kernel_rfl) ?_)
  refine Kn.frz [(5,AL I)] [] (by kernel_rfl) (by kernel_rfl) (by kernel_rfl) ?_
  obtain ⟨L,e0,h⟩:=bS h
  refine AW.G Fm [.s,.k (cE [] [] (AL L) [] []),.s] (fun K=>K 1∧True) [(4,AL L)] [] ⟨KAt.CC (region_rects_spec e0) Try.call64 [],⟨⟩⟩ ?_
  refine AW.ret ?_
  obtain rfl:=Option.some.inj h
  exact Kn.D Fm
 ·refine AW.SG0 Fm 1 [(0,AL a),(1,.v (.c (.sem (CloOK Try.prog (FR_Int_ListSpan l))))),(5,ow 5),(6,vi 1)] [(5,AO (α:=Band) ([]:List Band))] ?_
  refine AW.block (Kn.r Fm [(0,AL a),(1,.v (.c (.sem (CloOK Try.prog (FR_Int_ListSpan l))))),(5,ow 5),(6,vi 1)] [(5,AO ([]:List Band))] (by kernel_rfl) ?_)
  refine AW.loopF (E' := fun z=>[(0,AL a),(1,.v (.c (.sem (CloOK Try.prog (FR_Int_ListSpan l))))),(5,ow 5),(6,vi z.1)]) (S' := fun z=>[(5,AO z.2)]) (fun y z i0 M h=>?_) h
  obtain ⟨e,b⟩:=z
  refine AW.seq (AW.SG0 Fm 4 [(0,AL a),(1,.v (.c (.sem (CloOK Try.prog (FR_Int_ListSpan l))))),(5,ow 5),(6,vi e),(12,vb (decide (e<(lI a))))] [(5,AO b)] ?_)
  refine AW.cN h (fun O h=>?_) (fun O h=>?_)
  ·refine AW.skip (AW.join (r:=r) (fun z:(List Band)=>region_Build_k2 F e y z) (fun z=>[(0,AL a),(1,.v (.c (.sem (CloOK Try.prog (FR_Int_ListSpan l))))),(5,ow 5),(6,vi e)]) (fun z=>[(5,AO z)]) (fun H h=>?_) (fun k0 A=>?_))
   ·obtain ⟨b0,h⟩:=gS h
    refine AW.pN Fm [.s,.s,.s] [(0,AL a),(1,.v (.c (.sem (CloOK Try.prog (FR_Int_ListSpan l))))),(5,ow 5),(6,vi (e+1))] [(5,AO H)] (cT (cT b0)) ?_
    exact Kn.R Fm (M ((e+1),H) h)
   ·refine AW.block (AW.seq ?_)
    obtain ⟨T,U,V,W,h⟩:=gS4 h
    obtain ⟨X,h⟩:=gS h
    obtain ⟨i,c0,h⟩:=bS h
    refine AW.G Fm [.s,.s,.s,.s,.s,.s,.s,.s,.s,.s,.s,.s,.s,.s,.s,.k (sE (AL i)),.s,.s,.s] (fun K=>(_∧True)∧_∧_∧(_∧True)∧_∧K 15∧True) [(0,AL a),(1,.v (.c (.sem (CloOK Try.prog (FR_Int_ListSpan l))))),(5,ow 5),(6,vi e),(7,pt 7)] [(5,AO b),(7,bx [ci (gl a (e-1).toNat),ci (gl a e.toNat),.d (DL i)])] ⟨⟨T,⟨⟩⟩,U,V,⟨W,⟨⟩⟩,X,KAt.sem (F:=(FR_Int_ListSpan l)) (args:=[vi (gl a (e-1).toNat)]) ⟨(gl a (e-1).toNat),i,c0,rfl,rfl⟩ rfl (by kernel_rfl) (by kernel_rfl) (by kernel_rfl),⟨⟩⟩ ?_
    refine AW.SG0 Fm 3 [(0,AL a),(1,.v (.c (.sem (CloOK Try.prog (FR_Int_ListSpan l))))),(5,ow 5),(6,vi e),(7,pt 7),(8,vi (lI b))] [(5,AO b),(7,bx [ci (gl a (e-1).toNat),ci (gl a e.toNat),.d (DL i)])] ?_
    refine AW.join (r:=r) (fun z:Bool=>region_Build_k1 F a e b i y z) (fun z=>[(0,AL a),(1,.v (.c (.sem (CloOK Try.prog (FR_Int_ListSpan l))))),(5,ow 5),(6,vi e),(7,pt 7),(8,vi (lI b)),(57,vb z)]) (fun z=>[(5,AO b),(7,bx [ci (gl a (e-1).toNat),ci (gl a e.toNat),.d (DL i)])]) (fun m0 h=>?_) (fun j0 q=>?_)
    ·refine AW.cN h (fun P h=>?_) (fun P h=>?_)
     ·obtain ⟨Z,u,h⟩:=gS2 h
      refine AW.WP Fm [.s,.s,.s,.s,.s,.s,.s,.s] [(0,AL a),(1,.v (.c (.sem (CloOK Try.prog (FR_Int_ListSpan l))))),(5,ow 5),(6,vi e)] [(5,AO (α:=Band) (List.set b ((lI b)-1).toNat (⟨(gl b ((lI b)-1).toNat).low_,(gl a e.toNat),(gl b ((lI b)-1).toNat).spans_⟩ : Band)))] (cA (cT Z) (cA u (cT (toNat_lt u)))) [(5,.arr 3 (List.length (α:=Band) b) (fun j=>if j=((lI b)-1).toNat then splice ((LF (α:=Band) b) ((lI b)-1).toNat) 1 [.int .i64 (gl a e.toNat)] else (LF (α:=Band) b) j))] ⟨OLe.is (Is.set (Is.refl b) (toNat_lt u) (⟨(gl b ((lI b)-1).toNat).low_,(gl a e.toNat),(gl b ((lI b)-1).toNat).spans_⟩ : Band) (by kernel_rfl)),⟨⟩⟩ ?_
      exact Kn.R Fm (A (List.set b ((lI b)-1).toNat (⟨(gl b ((lI b)-1).toNat).low_,(gl a e.toNat),(gl b ((lI b)-1).toNat).spans_⟩ : Band)) h)
     ·obtain ⟨a0,h⟩:=gS h
      refine AW.WP Fm [.s,.s,.w (AL (α:=Band) ([(⟨(gl a (e-1).toNat),(gl a e.toNat),i⟩ : Band)]:List Band)),.s,.s] [(0,AL a),(1,.v (.c (.sem (CloOK Try.prog (FR_Int_ListSpan l))))),(5,ow 68),(6,vi e)] [(68,AO (α:=Band) (b++([(⟨(gl a (e-1).toNat),(gl a e.toNat),i⟩ : Band)]:List Band)))] (cA (ALe.lst (.lit ([(⟨(gl a (e-1).toNat),(gl a e.toNat),i⟩ : Band)]:List Band) (by kernel_rfl)):ALe (.v (.c (.d (.lst 1 (litF 3 [.int .i64 (gl a (e-1).toNat),.int .i64 (gl a e.toNat),DL i]))))) (AL (α:=Band) ([(⟨(gl a (e-1).toNat),(gl a e.toNat),i⟩ : Band)]:List Band))) (cT (cA a0 (cT (Is.refl ([(⟨(gl a (e-1).toNat),(gl a e.toNat),i⟩ : Band)]:List Band):Is (List.length (α:=Band) ([(⟨(gl a (e-1).toNat),(gl a e.toNat),i⟩ : Band)]:List Band)) (LF (α:=Band) ([(⟨(gl a (e-1).toNat),(gl a e.toNat),i⟩ : Band)]:List Band)) ([(⟨(gl a (e-1).toNat),(gl a e.toNat),i⟩ : Band)]:List Band)).len)))) [(68,.arr 3 ((List.length (α:=Band) b)+(List.length (α:=Band) ([(⟨(gl a (e-1).toNat),(gl a e.toNat),i⟩ : Band)]:List Band))) (appF (List.length (α:=Band) b) (LF (α:=Band) b) (LF (α:=Band) ([(⟨(gl a (e-1).toNat),(gl a e.toNat),i⟩ : Band)]:List Band))))] ⟨OLe.is (Is.app (Is.refl b) (Is.refl ([(⟨(gl a (e-1).toNat),(gl a e.toNat),i⟩ : Band)]:List Band))),⟨⟩⟩ ?_
      exact Kn.RE Fm [(5,68)] (A (b++([(⟨(gl a (e-1).toNat),(gl a e.toNat),i⟩ : Band)]:List Band)) h)
    ·rcases br_or h with ⟨n,h⟩|⟨n,h⟩
     ·obtain ⟨B,o,h⟩:=gS2 h
      rcases br_or h with ⟨t,h⟩|⟨t,h⟩
      ·obtain ⟨Y,E,h⟩:=gS2 h
       obtain ⟨p,d0,h⟩:=bS h
       refine AW.G Fm [.s,.s,.w (vb true),.s,.s,.s,.s,.s,.s,.s,.s,.s,.s,.w (vb true),.s,.s,.s,.s,.s,.s,.s,.s,.k (cE [] [] (vb p) [] []),.s] (fun K=>_∧(_∧True)∧_∧_∧_∧(_∧True)∧_∧_∧K 22∧True) [(0,AL a),(1,.v (.c (.sem (CloOK Try.prog (FR_Int_ListSpan l))))),(5,ow 5),(6,vi e),(7,pt 7),(8,vi (lI b)),(37,ow 5),(38,vi (lI b)),(39,vi ((lI b)-1)),(40,.v (.c (.pte 5 3 (((lI b)-1).toNat) 0))),(41,.v (.c (.pte 5 3 (((lI b)-1).toNat) 1))),(42,vi (gl b ((lI b)-1).toNat).high_),(43,pt 7),(44,vi (gl a (e-1).toNat)),(45,vb (((gl b ((lI b)-1).toNat).high_)==(gl a (e-1).toNat))),(48,ow 5),(49,vi (lI b)),(50,vi ((lI b)-1)),(51,.v (.c (.pte 5 3 (((lI b)-1).toNat) 0))),(52,.v (.c (.pte 5 3 (((lI b)-1).toNat) 2))),(53,AL (α:=Span) (gl b ((lI b)-1).toNat).spans_),(54,.v (.c (.ptr 7 2))),(55,AL i),(56,vb p),(57,vb p)] [(5,AO b),(7,bx [ci (gl a (e-1).toNat),ci (gl a e.toNat),.d (DL i)])] ⟨ALe.bool n,⟨B,⟨⟩⟩,o,(toNat_lt o),ALe.bool t,⟨Y,⟨⟩⟩,E,(toNat_lt E),KAt.CC (slices_Equal_Span_spec d0) Try.call63 [],⟨⟩⟩ ?_
       exact Kn.R Fm (q p h)
      ·refine AW.pN Fm [.s,.s,.w (vb true),.s,.s,.s,.s,.s,.s,.s,.s,.s,.s,.w (vb false),.s,.s,.s,.s,.s,.s,.s,.s,.s,.s] [(0,AL a),(1,.v (.c (.sem (CloOK Try.prog (FR_Int_ListSpan l))))),(5,ow 5),(6,vi e),(7,pt 7),(8,vi (lI b)),(37,ow 5),(38,vi (lI b)),(39,vi ((lI b)-1)),(40,.v (.c (.pte 5 3 (((lI b)-1).toNat) 0))),(41,.v (.c (.pte 5 3 (((lI b)-1).toNat) 1))),(42,vi (gl b ((lI b)-1).toNat).high_),(43,pt 7),(44,vi (gl a (e-1).toNat)),(45,vb (((gl b ((lI b)-1).toNat).high_)==(gl a (e-1).toNat))),(57,vb false)] [(5,AO b),(7,bx [ci (gl a (e-1).toNat),ci (gl a e.toNat),.d (DL i)])] (cA (ALe.bool n) (cA (cT B) (cA o (cA (toNat_lt o) (cT (ALe.bool t)))))) ?_
       exact Kn.R Fm (q false h)
     ·refine AW.pN Fm [.s,.s,.w (vb false),.s,.s,.s,.s,.s,.s,.s,.s,.s,.s,.s,.s,.s,.s,.s,.s,.s,.s,.s,.s,.s] [(0,AL a),(1,.v (.c (.sem (CloOK Try.prog (FR_Int_ListSpan l))))),(5,ow 5),(6,vi e),(7,pt 7),(8,vi (lI b)),(57,vb false)] [(5,AO b),(7,bx [ci (gl a (e-1).toNat),ci (gl a e.toNat),.d (DL i)])] (cT (ALe.bool n)) ?_
      exact Kn.R Fm (q false h)
  ·exact AW.exit (Kn.R Fm (N b h))
theorem region_canonical_spec {F:Nat} {a:(List Rect)} {r:(List Rect)} (h:region_canonical F a=some r) :
  FSpec Try.prog 45 [AL a] [] (AL (α:=Rect) r) []:=by
 refine FI Try.func45 prog_mixed prog_lay fun C Fm=>?_
 unfold region_canonical at h
 refine AW.SG0 Fm 2 [(1,pt 1)] [(1,bx [.d (DL a)])] ?_
 refine AW.seq ?_
 obtain ⟨j,e,h⟩:=bS h
 obtain ⟨b,i,h⟩:=bS h
 refine AW.G Fm [.s,.w (AL (α:=(List Rect)) ([a]:List (List Rect))),.k (cE [] [] (AL j) [] []),.s,.k (cE [] [1] (AL b) [] []),.s] (fun K=>(ALe (.v (.c (.d (.lst 1 (litF 1 [DL a]))))) (AL (α:=(List Rect)) ([a]:List (List Rect))))∧K 2∧K 4∧True) [(2,AL b)] [] ⟨ALe.lst (.lit ([a]:List (List Rect)) (by kernel_rfl)),KAt.CC (region_Cuts_spec e) Try.call54 [],KAt.callX (region_Build_spec i) Try.call53 [] [1] [.tmp 5,.tmp 6] rfl (by kernel_rfl) (by kernel_rfl) (by kernel_rfl) ⟨.p,ArgT.cloX Try.call55 [[.d (DL a)]] (fun args r hq=>by obtain ⟨y0,y,hq,rfl,rfl⟩:=hq; exact Eq.mp (by kernel_rfl) (region_canonical_1_spec hq)) (fun args r hq=>by obtain ⟨y0,y,hq,rfl,rfl⟩:=hq; rfl) (by kernel_rfl) [1] (by kernel_rfl) (by kernel_rfl) (⟨⟨false,(by kernel_rfl)⟩,⟨⟩⟩) (by kernel_rfl),⟨⟩⟩,⟨⟩⟩ ?_
 refine AW.ret ?_
 obtain rfl:=Option.some.inj h
 exact Kn.D Fm
theorem slices_Equal_Rect_spec {F:Nat} {c:(List Rect)} {d:(List Rect)} {r:Bool} (h:slices_Equal_Rect F c d=some r) :
  FSpec Try.prog 44 [AL c,AL d] [] (vb r) []:=by
 refine FI Try.func44 prog_mixed prog_lay fun C Fm=>?_
 unfold slices_Equal_Rect at h
 refine AW.SG0 Fm 1 [(0,AL c),(1,AL d)] [] ?_
 refine AW.seq (AW.SG0 Fm 5 [(0,AL c),(1,AL d),(10,vb ((lI c) != (lI d)))] [] ?_)
 refine AW.cN h (fun j h=>?_) (fun j h=>?_)
 ·refine AW.SG0 Fm 1 [(4,vb false)] [] ?_
  refine AW.ret ?_
  obtain rfl:=Option.some.inj h
  exact Kn.D Fm
 ·refine AW.skip (AW.join (r:=r) (fun z:Unit=>slices_Equal_Rect_k1 F) (fun z=>[]) (fun z=>[]) (fun z h=>?_) (fun t i=>?_))
  ·refine AW.SG0 Fm 1 [(4,vb true)] [] ?_
   refine AW.ret ?_
   obtain rfl:=Option.some.inj h
   exact Kn.D Fm
  ·refine AW.SG0 Fm 3 [(0,AL c),(1,AL d),(12,vi (lI c)),(13,vi 0)] [] ?_
   refine AW.block (AW.loopF (E' := fun z=>[(0,AL c),(1,AL d),(12,vi (lI c)),(13,vi z)]) (S' := fun z=>[]) (fun u a q e h=>?_) h)
   refine AW.SG0 Fm 1 [(0,AL c),(1,AL d),(12,vi (lI c)),(13,vi a),(14,vb (decide (a<(lI c))))] [] ?_
   refine AW.seq (AW.cN h (fun l h=>?_) (fun l h=>?_))
   ·refine AW.skip (AW.seq (AW.block (AW.SG0 Fm 2 [(0,AL c),(1,AL d),(5,vi a),(12,vi (lI c)),(13,vi a)] [] ?_)))
    obtain ⟨n,o,h⟩:=gS2 h
    refine AW.SG Fm [.s,.s,.s,.s,.s,.s,.s,.s,.k (sE (vb (!((((gl c a.toNat).left_)==((gl d a.toNat).left_))&&((((gl c a.toNat).low_)==((gl d a.toNat).low_))&&((((gl c a.toNat).right_)==((gl d a.toNat).right_))&&((((gl c a.toNat).high_)==((gl d a.toNat).high_))&&true)))))))] (fun K=>_∧_∧K 8∧True) [(0,AL c),(1,AL d),(12,vi (lI c)),(13,vi a),(24,vb (!((((gl c a.toNat).left_)==((gl d a.toNat).left_))&&((((gl c a.toNat).low_)==((gl d a.toNat).low_))&&((((gl c a.toNat).right_)==((gl d a.toNat).right_))&&((((gl c a.toNat).high_)==((gl d a.toNat).high_))&&true))))))] [] ⟨n,o,KAt.eq (xs:=[ci ((gl c a.toNat).left_),ci ((gl c a.toNat).low_),ci ((gl c a.toNat).right_),ci ((gl c a.toNat).high_)]) (ys:=[ci ((gl d a.toNat).left_),ci ((gl d a.toNat).low_),ci ((gl d a.toNat).right_),ci ((gl d a.toNat).high_)]) eqT53 false (b:=((((gl c a.toNat).left_)==((gl d a.toNat).left_))&&((((gl c a.toNat).low_)==((gl d a.toNat).low_))&&((((gl c a.toNat).right_)==((gl d a.toNat).right_))&&((((gl c a.toNat).high_)==((gl d a.toNat).high_))&&true))))) rfl rfl (by kernel_rfl) (by kernel_rfl) (by kernel_rfl) (by kernel_rfl),⟨⟩⟩ ?_
    refine AW.cN h (fun m h=>?_) (fun m h=>?_)
    ·refine AW.SG0 Fm 1 [(4,vb false)] [] ?_
     refine AW.ret ?_
     obtain rfl:=Option.some.inj h
     exact Kn.D Fm
    ·refine AW.skip ?_
     obtain ⟨p,h⟩:=gS h
     refine AW.pN Fm [.s,.s] [(0,AL c),(1,AL d),(12,vi (lI c)),(13,vi (a+1))] [] (cT (cT p)) ?_
     exact Kn.R Fm (e (a+1) h)
   ·exact AW.exit (Kn.R Fm (i () h))
theorem region_Valid_spec {F:Nat} {a:Region} {r:Bool} (h:region_Valid F a=some r) :
  FSpec Try.prog 27 [.v (.g [.d (DL a.rects_)])] [] (vb r) []:=by
 refine FI Try.func27 prog_mixed prog_lay fun C Fm=>?_
 unfold region_Valid at h
 refine AW.SG0 Fm 2 [(1,pt 1)] [(1,bx [.d (DL a.rects_)])] ?_
 refine AW.seq (AW.join (r:=r) (fun z:Bool=>region_Valid_k0 F a z) (fun z=>[(1,pt 1),(11,vb z)]) (fun z=>[(1,bx [.d (DL a.rects_)])]) (fun t h=>?_) (fun q e=>?_))
 ·refine AW.cN h (fun j h=>?_) (fun j h=>?_)
  ·refine AW.SG0 Fm 1 [(2,vb false)] [] ?_
   refine AW.ret ?_
   obtain rfl:=Option.some.inj h
   exact Kn.D Fm
  ·refine AW.skip (AW.seq ?_)
   obtain ⟨o,m,h⟩:=bS h
   obtain ⟨i,n,h⟩:=bS h
   refine AW.G Fm [.s,.s,.k (cE [] [] (AL o) [] []),.s,.s,.k (cE [] [] (vb i) [] []),.s] (fun K=>K 2∧K 5∧True) [(2,vb i)] [] ⟨KAt.CC (region_canonical_spec m) Try.call45 [],KAt.CC (slices_Equal_Rect_spec n) Try.call44 [],⟨⟩⟩ ?_
   refine AW.ret ?_
   obtain rfl:=Option.some.inj h
   exact Kn.D Fm
 ·rcases br_or h with ⟨b,h⟩|⟨b,h⟩
  ·refine AW.pN Fm [.s,.s,.s,.s,.w (vb true),.s,.s,.s,.s] [(1,pt 1),(11,vb true)] [(1,bx [.d (DL a.rects_)])] (cT (ALe.bool b)) ?_
   exact Kn.R Fm (e true h)
  ·obtain ⟨c,l,h⟩:=bS h
   refine AW.G Fm [.s,.s,.s,.s,.w (vb false),.s,.s,.k (cE [] [] (vb c) [] []),.s] (fun K=>_∧K 7∧True) [(1,pt 1),(11,vb c)] [(1,bx [.d (DL a.rects_)])] ⟨ALe.bool b,KAt.callX (slices_ContainsFunc_Rect_spec l) Try.call41 [] [] [.tmp 9,.func 42] rfl (by kernel_rfl) (by kernel_rfl) (by kernel_rfl) ⟨.p,ArgT.cloX Try.call42 [] (fun args r hq=>by obtain ⟨y0,y,hq,rfl,rfl⟩:=hq; exact Eq.mp (by kernel_rfl) (region_Valid_1_spec hq)) (fun args r hq=>by obtain ⟨y0,y,hq,rfl,rfl⟩:=hq; rfl) (by kernel_rfl) [] (by kernel_rfl) (by kernel_rfl) (True.intro) (by kernel_rfl),⟨⟩⟩,⟨⟩⟩ ?_
   exact Kn.R Fm (e c h)
theorem feature_single_spec {F:Nat} {a:Feature} {r:Int} (h:feature_single F a=some r) :
  FSpec Try.prog 14 [gE a] [] (vi r) []:=by
 refine FI Try.func14 prog_mixed prog_lay fun C Fm=>?_
 unfold feature_single at h
 refine AW.SG0 Fm 2 [(1,pt 1)] [(1,bx (gC a))] ?_
 refine AW.seq (AW.block (AW.join (r:=r) (fun z:Bool=>feature_single_k0 F a z) (fun z=>[(1,pt 1),(3,vb z)]) (fun z=>[(1,bx (gC a))]) (fun I h=>?_) (fun A m=>?_)))
 ·refine AW.cN h (fun p h=>?_) (fun p h=>?_)
  ·refine AW.SG0 Fm 1 [(2,vi 2)] [] ?_
   refine AW.ret ?_
   obtain rfl:=Option.some.inj h
   exact Kn.D Fm
  ·refine AW.join (r:=r) (fun z:Bool=>feature_single_k1 F a z) (fun z=>[(1,pt 1),(12,vb z)]) (fun z=>[(1,bx (gC a))]) (fun L h=>?_) (fun B n=>?_)
   ·refine AW.cN h (fun q h=>?_) (fun q h=>?_)
    ·refine AW.SG0 Fm 1 [(2,vi 14)] [] ?_
     refine AW.ret ?_
     obtain rfl:=Option.some.inj h
     exact Kn.D Fm
    ·refine AW.join (r:=r) (fun z:Bool=>feature_single_k2 F a z) (fun z=>[(1,pt 1),(21,vb z)]) (fun z=>[(1,bx (gC a))]) (fun M h=>?_) (fun E c=>?_)
     ·refine AW.cN h (fun t h=>?_) (fun t h=>?_)
      ·refine AW.SG0 Fm 1 [(2,vi 9)] [] ?_
       refine AW.ret ?_
       obtain rfl:=Option.some.inj h
       exact Kn.D Fm
      ·refine AW.join (r:=r) (fun z:Bool=>feature_single_k3 F z) (fun z=>[(37,vb z)]) (fun z=>[]) (fun N h=>?_) (fun H o=>?_)
       ·refine AW.cN h (fun u h=>?_) (fun u h=>?_)
        ·refine AW.SG0 Fm 1 [(2,vi 7)] [] ?_
         refine AW.ret ?_
         obtain rfl:=Option.some.inj h
         exact Kn.D Fm
        ·refine AW.skip (AW.SG0 Fm 1 [(2,vi 0)] [] ?_)
         refine AW.ret ?_
         obtain rfl:=Option.some.inj h
         exact Kn.D Fm
       ·rcases br_or h with ⟨j,h⟩|⟨j,h⟩
        ·refine AW.pN Fm [.s,.s,.s,.s,.s,.w (vb true),.s,.s,.s,.s,.s,.s] [(37,vb true)] [] (cT (ALe.bool j)) ?_
         exact Kn.R Fm (o true h)
        ·obtain ⟨l,y,h⟩:=bS h
         refine AW.G Fm [.s,.s,.s,.s,.s,.w (vb false),.s,.s,.k (cE [] [] (vb l) [] []),.s,.s,.s] (fun K=>_∧K 8∧True) [(37,vb (!l))] [] ⟨ALe.bool j,KAt.CC (region_Valid_spec y) Try.call27 [],⟨⟩⟩ ?_
         exact Kn.R Fm (o (!l) h)
     ·rcases br_or h with ⟨b,h⟩|⟨b,h⟩
      ·refine AW.pN Fm [.s,.s,.s,.w (vb true),.s,.s,.s,.s,.s,.s,.s,.s,.s,.s,.s,.s] [(1,pt 1),(21,vb true)] [(1,bx (gC a))] (cT (ALe.bool b)) ?_
       exact Kn.R Fm (c true h)
      ·rcases br_or h with ⟨i,h⟩|⟨i,h⟩
       ·refine AW.pN Fm [.s,.s,.s,.w (vb false),.s,.s,.s,.s,.s,.s,.w (vb true),.s,.s,.s,.s,.s] [(1,pt 1),(21,vb true)] [(1,bx (gC a))] (cA (ALe.bool b) (cT (ALe.bool i))) ?_
        exact Kn.R Fm (c true h)
       ·refine AW.pN Fm [.s,.s,.s,.w (vb false),.s,.s,.s,.s,.s,.s,.w (vb false),.s,.s,.s,.s,.s] [(1,pt 1),(21,vb (decide ((36865:Int)<a.until_)))] [(1,bx (gC a))] (cA (ALe.bool b) (cT (ALe.bool i))) ?_
        exact Kn.R Fm (c (decide ((36865:Int)<a.until_)) h)
   ·rcases br_or h with ⟨e,h⟩|⟨e,h⟩
    ·refine AW.pN Fm [.s,.s,.s,.w (vb true),.s,.s,.s,.s,.s] [(1,pt 1),(12,vb true)] [(1,bx (gC a))] (cT (ALe.bool e)) ?_
     exact Kn.R Fm (n true h)
    ·refine AW.pN Fm [.s,.s,.s,.w (vb false),.s,.s,.s,.s,.s] [(1,pt 1),(12,vb (decide ((15:Int)<a.kind_)))] [(1,bx (gC a))] (cT (ALe.bool e)) ?_
     exact Kn.R Fm (n (decide ((15:Int)<a.kind_)) h)
 ·rcases br_or h with ⟨d,h⟩|⟨d,h⟩
  ·refine AW.pN Fm [.s,.s,.s,.w (vb true),.s,.s,.s,.s,.s] [(1,pt 1),(3,vb true)] [(1,bx (gC a))] (cT (ALe.bool d)) ?_
   exact Kn.R Fm (m true h)
  ·refine AW.pN Fm [.s,.s,.s,.w (vb false),.s,.s,.s,.s,.s] [(1,pt 1),(3,vb (decide ((1073741824:Int)<a.number_)))] [(1,bx (gC a))] (cT (ALe.bool d)) ?_
   exact Kn.R Fm (m (decide ((1073741824:Int)<a.number_)) h)
theorem feature_Check_spec {F:Nat} {a:(List Feature)} {r:Int} (h:feature_Check F a=some r) :
  FSpec Try.prog 13 [AL a] [] (vi r) []:=by
 refine FI Try.func13 prog_mixed prog_lay fun C Fm=>?_
 unfold feature_Check at h
 refine AW.SG0 Fm 1 [(0,AL a)] [] ?_
 refine AW.seq (AW.SG0 Fm 3 [(0,AL a),(8,vb (decide ((60:Int)<(lI a))))] [] ?_)
 refine AW.cN h (fun o h=>?_) (fun o h=>?_)
 ·refine AW.SG0 Fm 1 [(2,vi 1)] [] ?_
  refine AW.ret ?_
  obtain rfl:=Option.some.inj h
  exact Kn.D Fm
 ·refine AW.skip (AW.join (r:=r) (fun z:Unit=>feature_Check_k2 F) (fun z=>[]) (fun z=>[]) (fun z h=>?_) (fun L n=>?_))
  ·refine AW.SG0 Fm 1 [(2,vi 0)] [] ?_
   refine AW.ret ?_
   obtain rfl:=Option.some.inj h
   exact Kn.D Fm
  ·refine AW.SG0 Fm 3 [(0,AL a),(9,AL a),(10,vi (lI a)),(11,vi 0)] [] ?_
   refine AW.block (AW.loopF (E' := fun z=>[(0,AL a),(9,AL a),(10,vi (lI a)),(11,vi z)]) (S' := fun z=>[]) (fun l b H m h=>?_) h)
   refine AW.SG0 Fm 1 [(0,AL a),(9,AL a),(10,vi (lI a)),(11,vi b),(12,vb (decide (b<(lI a))))] [] ?_
   refine AW.seq (AW.cN h (fun p h=>?_) (fun p h=>?_))
   ·refine AW.skip (AW.seq (AW.block ?_))
    obtain ⟨u,h⟩:=gS h
    refine AW.SP Fm [.s,.s,.s,.s,.s,.s] [(0,AL a),(3,vi b),(4,pt 4),(9,AL a),(10,vi (lI a)),(11,vi b)] [(4,bx [ci ((gl a b.toNat).number_),ci ((gl a b.toNat).kind_),ci ((gl a b.toNat).from_),ci ((gl a b.toNat).until_),.d (DL (α:=Rect) (gl a b.toNat).region_.rects_)])] (cT u) ?_
    refine AW.seq (AW.seq ?_)
    obtain ⟨e,E,h⟩:=bS h
    refine AW.G Fm [.s,.k (cE [] [] (vi e) [] []),.s] (fun K=>K 1∧True) [(0,AL a),(3,vi b),(4,pt 4),(5,vi e),(9,AL a),(10,vi (lI a)),(11,vi b)] [(4,bx [ci ((gl a b.toNat).number_),ci ((gl a b.toNat).kind_),ci ((gl a b.toNat).from_),ci ((gl a b.toNat).until_),.d (DL (α:=Rect) (gl a b.toNat).region_.rects_)])] ⟨KAt.CC (feature_single_spec E) Try.call14 [],⟨⟩⟩ ?_
    refine AW.SG0 Fm 2 [(0,AL a),(3,vi b),(4,pt 4),(5,vi e),(9,AL a),(10,vi (lI a)),(11,vi b),(19,vb (e != (0:Int)))] [(4,bx [ci ((gl a b.toNat).number_),ci ((gl a b.toNat).kind_),ci ((gl a b.toNat).from_),ci ((gl a b.toNat).until_),.d (DL (α:=Rect) (gl a b.toNat).region_.rects_)])] ?_
    refine AW.cN h (fun q h=>?_) (fun q h=>?_)
    ·refine AW.SG0 Fm 2 [(2,vi e)] [] ?_
     refine AW.ret ?_
     obtain rfl:=Option.some.inj h
     exact Kn.D Fm
    ·refine AW.skip (AW.join (r:=r) (fun z:Bool=>feature_Check_k1 F b l z) (fun z=>[(0,AL a),(9,AL a),(10,vi (lI a)),(11,vi b),(33,vb z)]) (fun z=>[]) (fun M h=>?_) (fun I j=>?_))
     ·refine AW.cN h (fun t h=>?_) (fun t h=>?_)
      ·refine AW.SG0 Fm 1 [(2,vi 3)] [] ?_
       refine AW.ret ?_
       obtain rfl:=Option.some.inj h
       exact Kn.D Fm
      ·refine AW.skip ?_
       obtain ⟨B,h⟩:=gS h
       refine AW.pN Fm [.s,.s] [(0,AL a),(9,AL a),(10,vi (lI a)),(11,vi (b+1))] [] (cT (cT B)) ?_
       exact Kn.R Fm (m (b+1) h)
     ·rcases br_or h with ⟨i,h⟩|⟨i,h⟩
      ·obtain ⟨y,A,h⟩:=gS2 h
       refine AW.pN Fm [.s,.s,.w (vb true),.s,.s,.s,.s,.s,.s,.s,.s,.s,.s] [(0,AL a),(9,AL a),(10,vi (lI a)),(11,vi b),(24,pt 4),(25,vi (gl a b.toNat).number_),(26,AL a),(27,vi b),(28,vi (b-1)),(29,.v (.c (.elm [.int .i64 (gl a (b-1).toNat).number_,.int .i64 (gl a (b-1).toNat).kind_,.int .i64 (gl a (b-1).toNat).from_,.int .i64 (gl a (b-1).toNat).until_,DL (α:=Rect) (gl a (b-1).toNat).region_.rects_]))),(30,.v (.c (.elm [.int .i64 (gl a (b-1).toNat).number_,.int .i64 (gl a (b-1).toNat).kind_,.int .i64 (gl a (b-1).toNat).from_,.int .i64 (gl a (b-1).toNat).until_,DL (α:=Rect) (gl a (b-1).toNat).region_.rects_]))),(31,vi (gl a (b-1).toNat).number_),(32,vb (decide (((gl a b.toNat).number_)≤((gl a (b-1).toNat).number_)))),(33,vb (decide (((gl a b.toNat).number_)≤((gl a (b-1).toNat).number_))))] [(4,bx [ci ((gl a b.toNat).number_),ci ((gl a b.toNat).kind_),ci ((gl a b.toNat).from_),ci ((gl a b.toNat).until_),.d (DL (α:=Rect) (gl a b.toNat).region_.rects_)])] (cA (ALe.bool i) (cA (cT y) (cT A))) ?_
       exact Kn.R Fm (j (decide (((gl a b.toNat).number_)≤((gl a (b-1).toNat).number_))) h)
      ·refine AW.pN Fm [.s,.s,.w (vb false),.s,.s,.s,.s,.s,.s,.s,.s,.s,.s] [(0,AL a),(9,AL a),(10,vi (lI a)),(11,vi b),(33,vb false)] [] (cT (ALe.bool i)) ?_
       exact Kn.R Fm (j false h)
   ·exact AW.exit (Kn.R Fm (n () h))
theorem slices_BinarySearchFunc_Feature_spec {F:Nat} {a:(List Feature)} {i:Feature} {j:Feature→Feature→Option Int} {r:Int×Bool} (h:slices_BinarySearchFunc_Feature F a i j=some r) :
  FSpec Try.prog 15 [AL a,gE i,.v (.c (.sem (CloOK Try.prog (FR_Feature_Feature_Int j))))] [] (.t [.c (ci r.1),.c (.d (.bool r.2))]) []:=by
 refine FI Try.func15 prog_mixed prog_lay fun C Fm=>?_
 unfold slices_BinarySearchFunc_Feature at h
 refine AW.SG0 Fm 3 [(0,AL a),(2,.v (.c (.sem (CloOK Try.prog (FR_Feature_Feature_Int j))))),(4,pt 4)] [(4,bx (gC i))] ?_
 refine AW.SG0 Fm 3 [(0,AL a),(2,.v (.c (.sem (CloOK Try.prog (FR_Feature_Feature_Int j))))),(4,pt 4),(8,vi (lI a))] [(4,bx (gC i))] ?_
 refine AW.SG0 Fm 3 [(0,AL a),(2,.v (.c (.sem (CloOK Try.prog (FR_Feature_Feature_Int j))))),(4,pt 4),(8,vi (lI a)),(9,vi 0),(10,vi (lI a))] [(4,bx (gC i))] ?_
 refine AW.join (r:=r) (fun z:Int=>slices_BinarySearchFunc_Feature_k1 F a i j z) (fun z=>[(0,AL a),(2,.v (.c (.sem (CloOK Try.prog (FR_Feature_Feature_Int j))))),(4,pt 4),(8,vi (lI a)),(9,vi z)]) (fun z=>[(4,bx (gC i))]) (fun l h=>?_) (fun T u=>?_)
 ·refine AW.join (r:=r) (fun z:Bool=>slices_BinarySearchFunc_Feature_k2 F l z) (fun z=>[(6,vi l),(7,vb z)]) (fun z=>[]) (fun W h=>?_) (fun U q=>?_)
  ·refine AW.ret ?_
   obtain rfl:=Option.some.inj h
   exact Kn.D Fm
  ·rcases br_or h with ⟨n,h⟩|⟨n,h⟩
   ·obtain ⟨M,h⟩:=gS h
    obtain ⟨m,O,h⟩:=bS h
    refine AW.G Fm [.s,.s,.s,.s,.w (vb true),.s,.s,.s,.s,.s,.s,.k (sE (vi m)),.s,.s,.s,.s] (fun K=>_∧_∧K 11∧True) [(6,vi l),(7,vb (m==(0:Int)))] [] ⟨ALe.bool n,M,KAt.sem (F:=(FR_Feature_Feature_Int j)) (args:=[.v (.g [ci ((gl a l.toNat).number_),ci ((gl a l.toNat).kind_),ci ((gl a l.toNat).from_),ci ((gl a l.toNat).until_),.d (DL (α:=Rect) (gl a l.toNat).region_.rects_)]),gE i]) ⟨(gl a l.toNat),i,m,O,rfl,rfl⟩ rfl (by kernel_rfl) (by kernel_rfl) (by kernel_rfl),⟨⟩⟩ ?_
    exact Kn.R Fm (q (m==(0:Int)) h)
   ·refine AW.pN Fm [.s,.s,.s,.s,.w (vb false),.s,.s,.s,.s,.s,.s,.s,.s,.s,.s,.s] [(6,vi l),(7,vb false)] [] (cT (ALe.bool n)) ?_
    exact Kn.R Fm (q false h)
 ·refine AW.block (AW.loopF (E' := fun z=>[(0,AL a),(2,.v (.c (.sem (CloOK Try.prog (FR_Feature_Feature_Int j))))),(4,pt 4),(8,vi (lI a)),(9,vi z.1),(10,vi z.2)]) (S' := fun z=>[(4,bx (gC i))]) (fun V z P p h=>?_) h)
  obtain ⟨b,e⟩:=z
  refine AW.seq (AW.SG0 Fm 3 [(0,AL a),(2,.v (.c (.sem (CloOK Try.prog (FR_Feature_Feature_Int j))))),(4,pt 4),(8,vi (lI a)),(9,vi b),(10,vi e),(17,vb (decide (b<e)))] [(4,bx (gC i))] ?_)
  refine AW.cN h (fun y h=>?_) (fun y h=>?_)
  ·refine AW.skip (AW.block ?_)
   obtain ⟨B,E,H,h⟩:=gS3 h
   refine AW.SP Fm [.s,.s,.s,.s,.s,.s,.s] [(0,AL a),(2,.v (.c (.sem (CloOK Try.prog (FR_Feature_Feature_Int j))))),(4,pt 4),(8,vi (lI a)),(9,vi b),(10,vi e),(11,vi ((IntKind.wrap .u64 (b+e)).fdiv (2 ^ (min ((1:Int)).toNat (IntKind.bits .u64)))))] [(4,bx (gC i))] (cA (cT B) (cA (True.intro:True) (cA E (cT (cT H))))) ?_
   refine AW.seq ?_
   obtain ⟨I,h⟩:=gS h
   obtain ⟨o,N,h⟩:=bS h
   refine AW.G Fm [.s,.s,.s,.s,.s,.s,.k (sE (vi o)),.s] (fun K=>_∧K 6∧True) [(0,AL a),(2,.v (.c (.sem (CloOK Try.prog (FR_Feature_Feature_Int j))))),(4,pt 4),(8,vi (lI a)),(9,vi b),(10,vi e),(11,vi ((IntKind.wrap .u64 (b+e)).fdiv (2 ^ (min ((1:Int)).toNat (IntKind.bits .u64))))),(31,vb (decide (o<(0:Int))))] [(4,bx (gC i))] ⟨I,KAt.sem (F:=(FR_Feature_Feature_Int j)) (args:=[.v (.g [ci ((gl a ((IntKind.wrap .u64 (b+e)).fdiv (2 ^ (min ((1:Int)).toNat (IntKind.bits .u64)))).toNat).number_),ci ((gl a ((IntKind.wrap .u64 (b+e)).fdiv (2 ^ (min ((1:Int)).toNat (IntKind.bits .u64)))).toNat).kind_),ci ((gl a ((IntKind.wrap .u64 (b+e)).fdiv (2 ^ (min ((1:Int)).toNat (IntKind.bits .u64)))).toNat).from_),ci ((gl a ((IntKind.wrap .u64 (b+e)).fdiv (2 ^ (min ((1:Int)).toNat (IntKind.bits .u64)))).toNat).until_),.d (DL (α:=Rect) (gl a ((IntKind.wrap .u64 (b+e)).fdiv (2 ^ (min ((1:Int)).toNat (IntKind.bits .u64)))).toNat).region_.rects_)]),gE i]) ⟨(gl a ((IntKind.wrap .u64 (b+e)).fdiv (2 ^ (min ((1:Int)).toNat (IntKind.bits .u64)))).toNat),i,o,N,rfl,rfl⟩ rfl (by kernel_rfl) (by kernel_rfl) (by kernel_rfl),⟨⟩⟩ ?_
   refine AW.cN h (fun A h=>?_) (fun A h=>?_)
   ·obtain ⟨L,h⟩:=gS h
    refine AW.pN Fm [.s,.s,.s] [(0,AL a),(2,.v (.c (.sem (CloOK Try.prog (FR_Feature_Feature_Int j))))),(4,pt 4),(8,vi (lI a)),(9,vi (((IntKind.wrap .u64 (b+e)).fdiv (2 ^ (min ((1:Int)).toNat (IntKind.bits .u64))))+1)),(10,vi e)] [(4,bx (gC i))] (cT (cT L)) ?_
    exact Kn.R Fm (p ((((IntKind.wrap .u64 (b+e)).fdiv (2 ^ (min ((1:Int)).toNat (IntKind.bits .u64))))+1),e) h)
   ·refine AW.G0 Fm 2 [(0,AL a),(2,.v (.c (.sem (CloOK Try.prog (FR_Feature_Feature_Int j))))),(4,pt 4),(8,vi (lI a)),(9,vi b),(10,vi ((IntKind.wrap .u64 (b+e)).fdiv (2 ^ (min ((1:Int)).toNat (IntKind.bits .u64)))))] [(4,bx (gC i))] ?_
    exact Kn.R Fm (p (b,((IntKind.wrap .u64 (b+e)).fdiv (2 ^ (min ((1:Int)).toNat (IntKind.bits .u64))))) h)
  ·exact AW.exit (Kn.R Fm (u b h))
theorem feature_compare_spec {F:Nat} {a:Feature} {b:Feature} {r:Int} (h:feature_compare F a b=some r) :
  FSpec Try.prog 16 [gE a,gE b] [] (vi r) []:=by
 refine FI Try.func16 prog_mixed prog_lay fun C Fm=>?_
 unfold feature_compare at h
 refine AW.SG0 Fm 3 [(2,pt 2),(3,pt 3)] [(2,bx (gC a)),(3,bx (gC b))] ?_
 refine AW.seq ?_
 obtain ⟨c,d,h⟩:=bS h
 refine AW.G Fm [.s,.s,.s,.s,.k (cE [] [] (vi c) [] []),.s] (fun K=>K 4∧True) [(4,vi c)] [] ⟨KAt.CC (cmp_Compare_int_spec d) Try.call28 [],⟨⟩⟩ ?_
 refine AW.ret ?_
 obtain rfl:=Option.some.inj h
 exact Kn.D Fm
theorem slices_Clone_Rect_spec {F:Nat} {a:(List Rect)} {r:(List Rect)} (h:slices_Clone_Rect F a=some r) :
  FSpec Try.prog 31 [AL a] [] (AL (α:=Rect) r) []:=by
 refine FI Try.func31 prog_mixed prog_lay fun C Fm=>?_
 unfold slices_Clone_Rect at h
 refine AW.SG0 Fm 1 [(0,AL a)] [] ?_
 refine AW.seq (AW.SG Fm [.s,.k (sE (nb (List.length a)))] (fun K=>K 1∧True) [(0,AL a),(4,.v (.c (.sem (nbP (List.length a)))))] [] ⟨KAt.nil (t:=30) (el:=53) (n:=List.length a) (by kernel_rfl) rfl rfl (by kernel_rfl) (by kernel_rfl) (by kernel_rfl),⟨⟩⟩ ?_)
 refine AW.condNil (n:=List.length a) (by kernel_rfl) (fun d=>?_) ?_
 ·have h:=brN_t h d
  refine AW.SG0 Fm 1 [(2,.v (.c (.fl 0 fun _=>[])))] [] ?_
  refine AW.ret ?_
  obtain rfl:=Option.some.inj h
  refine Kn.r Fm [(2,.v (.c (.fl 0 fun _=>[])))] [] (by kernel_rfl) ?_
  refine Kn.wk [(2,AL (α:=Rect) [])] [] ⟨rfl,ALe.c (CLe.fl .nil),⟨⟩⟩ True.intro ?_
  exact Kn.D Fm
 ·have h:=brN_f h
  refine AW.skip ?_
  obtain ⟨b,h⟩:=gS h
  refine AW.SV Fm [.m,.s,.s,.s] [(2,ow 7)] [(7,AO (α:=Rect) (([]:List Rect)++a))] (cT (cA b (cT (Is.refl a:Is (List.length (α:=Rect) a) (LF (α:=Rect) a) a).len))) [(7,.arr 4 ((0)+(List.length (α:=Rect) a)) (appF (0) (litF 4 []) (LF (α:=Rect) a)))] ⟨OLe.is (Is.app (Is.lit ([]:List Rect) (by kernel_rfl)) (Is.refl a)),⟨⟩⟩ ?_
  refine AW.ret ?_
  obtain rfl:=Option.some.inj h
  refine Kn.r Fm [(2,ow 7)] [(7,AO (α:=Rect) (([]:List Rect)++a))] (by kernel_rfl) ?_
  refine Kn.frz [(2,AL (α:=Rect) (([]:List Rect)++a))] [] (by kernel_rfl) (by kernel_rfl) (by kernel_rfl) ?_
  exact Kn.D Fm
theorem feature_copied_spec {F:Nat} {a:Feature} {r:Feature} (h:feature_copied F a=some r) :
  FSpec Try.prog 19 [gE a] [] (gE r) []:=by
 refine FI Try.func19 prog_mixed prog_lay fun C Fm=>?_
 unfold feature_copied at h
 refine AW.SG0 Fm 2 [(1,pt 1),(2,pt 2)] [(1,bx (gC a)),(2,bx [ci 0,ci 0,ci 0,ci 0,.fl 0 fun _=>[]])] ?_
 refine AW.seq ?_
 obtain ⟨b,c,h⟩:=bS h
 refine AW.G Fm [.s,.s,.s,.k (cE [] [] (AL b) [] []),.s,.s,.s] (fun K=>K 3∧True) [(1,pt 1),(2,pt 2)] [(1,bx [ci a.number_,ci a.kind_,ci a.from_,ci a.until_,.d (DL b)]),(2,bx [ci 0,ci 0,ci 0,ci 0,.fl 0 fun _=>[]])] ⟨KAt.CC (slices_Clone_Rect_spec c) Try.call31 [],⟨⟩⟩ ?_
 refine AW.SG0 Fm 2 [(2,pt 2)] [(2,bx [ci a.number_,ci a.kind_,ci a.from_,ci a.until_,.d (DL b)])] ?_
 refine AW.ret ?_
 obtain rfl:=Option.some.inj h
 exact Kn.D Fm
theorem feature_all_spec {F:Nat} {a:(List Feature)} {r:(List Feature)} (h:feature_all F a=some r) :
  FSpec Try.prog 18 [AL a] [] (ow 100) [(100,AO (α:=Feature) r)]:=by
 refine FI Try.func18 prog_mixed prog_lay fun C Fm=>?_
 unfold feature_all at h
 refine AW.SG Fm [.m] (fun K=>True) [(0,AL a)] [] True.intro ?_
 refine AW.SW Fm [.m] (fun K=>True) [(0,AL a),(3,ow 3)] [(3,AO (α:=Feature) ([]:List Feature))] True.intro [(3,.arr 5 (0) (fun _=>[]))] ⟨OLe.is ((Is.nil (α:=Feature))),⟨⟩⟩ ?_
 refine AW.join (r:=r) (fun z:(List Feature)=>feature_all_k1 F z) (fun z=>[(3,ow 3)]) (fun z=>[(3,AO z)]) (fun j h=>?_) (fun A n=>?_)
 ·refine AW.SG0 Fm 2 [(2,ow 3)] [(3,AO j)] ?_
  refine AW.ret ?_
  obtain rfl:=Option.some.inj h
  exact Kn.re Fm [(100,3)] [(2,ow 100)] [(100,AO j)] (by kernel_rfl) (by kernel_rfl) (by kernel_rfl) (by kernel_rfl) (Kn.dn Fm (by kernel_rfl))
 ·refine AW.SG0 Fm 3 [(3,ow 3),(6,AL a),(7,vi (lI a)),(8,vi 0)] [(3,AO (α:=Feature) ([]:List Feature))] ?_
  refine AW.block (Kn.r Fm [(3,ow 3),(6,AL a),(7,vi (lI a)),(8,vi 0)] [(3,AO ([]:List Feature))] (by kernel_rfl) ?_)
  refine AW.loopF (E' := fun z=>[(3,ow 3),(6,AL a),(7,vi (lI a)),(8,vi z.1)]) (S' := fun z=>[(3,AO z.2)]) (fun B z y l h=>?_) h
  obtain ⟨e,i⟩:=z
  refine AW.SG0 Fm 1 [(3,ow 3),(6,AL a),(7,vi (lI a)),(8,vi e),(9,vb (decide (e<(lI a))))] [(3,AO i)] ?_
  refine AW.seq (AW.cN h (fun o h=>?_) (fun o h=>?_))
  ·refine AW.skip (AW.seq (AW.block ?_))
   obtain ⟨p,h⟩:=gS h
   refine AW.SP Fm [.s,.s,.s,.s] [(3,ow 3),(5,pt 5),(6,AL a),(7,vi (lI a)),(8,vi e)] [(3,AO i),(5,bx [ci ((gl a e.toNat).number_),ci ((gl a e.toNat).kind_),ci ((gl a e.toNat).from_),ci ((gl a e.toNat).until_),.d (DL (α:=Rect) (gl a e.toNat).region_.rects_)])] (cT p) ?_
   obtain ⟨b,u,h⟩:=bS h
   obtain ⟨q,h⟩:=gS h
   refine AW.GW Fm [.s,.s,.k (cE [] [] (gE b) [] []),.w (AL (α:=Feature) ([b]:List Feature)),.s,.s] (fun K=>K 2∧(ALe (.v (.c (.d (.lst 1 (litF 5 [.int .i64 b.number_,.int .i64 b.kind_,.int .i64 b.from_,.int .i64 b.until_,DL b.region_.rects_]))))) (AL (α:=Feature) ([b]:List Feature)))∧(_∧_∧True)∧True) [(3,ow 16),(6,AL a),(7,vi (lI a)),(8,vi e)] [(16,AO (α:=Feature) (i++([b]:List Feature)))] ⟨KAt.CC (feature_copied_spec u) Try.call19 [],ALe.lst (.lit ([b]:List Feature) (by kernel_rfl)),⟨q,(Is.refl ([b]:List Feature):Is (List.length (α:=Feature) ([b]:List Feature)) (LF (α:=Feature) ([b]:List Feature)) ([b]:List Feature)).len,⟨⟩⟩,⟨⟩⟩ [(16,.arr 5 ((List.length (α:=Feature) i)+(List.length (α:=Feature) ([b]:List Feature))) (appF (List.length (α:=Feature) i) (LF (α:=Feature) i) (LF (α:=Feature) ([b]:List Feature))))] ⟨OLe.is (Is.app (Is.refl i) (Is.refl ([b]:List Feature))),⟨⟩⟩ ?_
   obtain ⟨t,h⟩:=gS h
   refine AW.pN Fm [.s,.s] [(3,ow 16),(6,AL a),(7,vi (lI a)),(8,vi (e+1))] [(16,AO (α:=Feature) (i++([b]:List Feature)))] (cT (cT t)) ?_
   exact Kn.RE Fm [(3,16)] (l ((e+1),(i++([b]:List Feature))) h)
  ·exact AW.exit (Kn.R Fm (n i h))
theorem feature_Add_spec {F:Nat} {a:(List Feature)} {b:Feature} {r:(List Feature)×Int} (h:feature_Add F a b=some r) :
  FSpec Try.prog 6 [AL a,gE b] [] (.t [.c (.d (DL (α:=Feature) r.1)),.c (ci r.2)]) []:=by
 refine FI Try.func6 prog_mixed prog_lay fun C Fm=>?_
 unfold feature_Add at h
 refine AW.SG0 Fm 3 [(0,AL a),(3,pt 3)] [(3,bx (gC b))] ?_
 refine AW.seq (AW.seq ?_)
 obtain ⟨e,B,h⟩:=bS h
 refine AW.G Fm [.s,.k (cE [] [] (vi e) [] []),.s] (fun K=>K 1∧True) [(0,AL a),(3,pt 3),(6,vi e)] [(3,bx (gC b))] ⟨KAt.CC (feature_Check_spec B) Try.call13 [],⟨⟩⟩ ?_
 refine AW.SG0 Fm 2 [(0,AL a),(3,pt 3),(6,vi e),(13,vb (e != (0:Int)))] [(3,bx (gC b))] ?_
 refine AW.cN h (fun q h=>?_) (fun q h=>?_)
 ·refine AW.SG0 Fm 3 [(4,.v (.c (.fl 0 fun _=>[]))),(5,vi e)] [] ?_
  refine AW.ret ?_
  obtain rfl:=Option.some.inj h
  refine Kn.r Fm [(4,.v (.c (.fl 0 fun _=>[]))),(5,vi e)] [] (by kernel_rfl) ?_
  refine Kn.wk [(4,AL (α:=Feature) []),(5,vi e)] [] ⟨rfl,ALe.c (CLe.fl .nil),⟨rfl,ALe.c (CLe.refl _),⟨⟩⟩⟩ True.intro ?_
  exact Kn.D Fm
 ·refine AW.skip (AW.seq (AW.seq ?_))
  obtain ⟨i,E,h⟩:=bS h
  refine AW.G Fm [.s,.k (cE [] [] (vi i) [] []),.s] (fun K=>K 1∧True) [(0,AL a),(3,pt 3),(7,vi i)] [(3,bx (gC b))] ⟨KAt.CC (feature_single_spec E) Try.call14 [],⟨⟩⟩ ?_
  refine AW.SG0 Fm 2 [(0,AL a),(3,pt 3),(7,vi i),(18,vb (i != (0:Int)))] [(3,bx (gC b))] ?_
  refine AW.cN h (fun u h=>?_) (fun u h=>?_)
  ·refine AW.SG0 Fm 3 [(4,.v (.c (.fl 0 fun _=>[]))),(5,vi i)] [] ?_
   refine AW.ret ?_
   obtain rfl:=Option.some.inj h
   refine Kn.r Fm [(4,.v (.c (.fl 0 fun _=>[]))),(5,vi i)] [] (by kernel_rfl) ?_
   refine Kn.wk [(4,AL (α:=Feature) []),(5,vi i)] [] ⟨rfl,ALe.c (CLe.fl .nil),⟨rfl,ALe.c (CLe.refl _),⟨⟩⟩⟩ True.intro ?_
   exact Kn.D Fm
  ·refine AW.skip (AW.seq ?_)
   obtain ⟨j,H,h⟩:=bS h
   refine AW.G Fm [.s,.s,.k (cE [] [] (.t [.c (ci j.1),.c (.d (.bool j.2))]) [] []),.s,.s,.s,.s,.s] (fun K=>K 2∧True) [(0,AL a),(3,pt 3),(8,vi j.1),(9,vb j.2)] [(3,bx (gC b))] ⟨KAt.callX (slices_BinarySearchFunc_Feature_spec H) Try.call15 [] [] [.tmp 21,.tmp 22,.func 16] rfl (by kernel_rfl) (by kernel_rfl) (by kernel_rfl) ⟨.p,.p,ArgT.cloX Try.call16 [] (fun args r hq=>by obtain ⟨y0,y1,y,hq,rfl,rfl⟩:=hq; exact Eq.mp (by kernel_rfl) (feature_compare_spec hq)) (fun args r hq=>by obtain ⟨y0,y1,y,hq,rfl,rfl⟩:=hq; rfl) (by kernel_rfl) [] (by kernel_rfl) (by kernel_rfl) (True.intro) (by kernel_rfl),⟨⟩⟩,⟨⟩⟩ ?_
   refine AW.seq (AW.block (AW.SG0 Fm 2 [(0,AL a),(3,pt 3),(8,vi j.1),(26,vb j.2)] [(3,bx (gC b))] ?_))
   refine AW.cN h (fun w h=>?_) (fun w h=>?_)
   ·refine AW.SG0 Fm 2 [(4,.v (.c (.fl 0 fun _=>[]))),(5,vi 6)] [] ?_
    refine AW.ret ?_
    obtain rfl:=Option.some.inj h
    refine Kn.r Fm [(4,.v (.c (.fl 0 fun _=>[]))),(5,vi 6)] [] (by kernel_rfl) ?_
    refine Kn.wk [(4,AL (α:=Feature) []),(5,vi 6)] [] ⟨rfl,ALe.c (CLe.fl .nil),⟨rfl,ALe.c (CLe.refl _),⟨⟩⟩⟩ True.intro ?_
    exact Kn.D Fm
   ·refine AW.SG0 Fm 4 [(0,AL a),(3,pt 3),(8,vi j.1),(28,vb ((lI a)==(60:Int)))] [(3,bx (gC b))] ?_
    refine AW.cN h (fun A h=>?_) (fun A h=>?_)
    ·refine AW.SG0 Fm 2 [(4,.v (.c (.fl 0 fun _=>[]))),(5,vi 1)] [] ?_
     refine AW.ret ?_
     obtain rfl:=Option.some.inj h
     refine Kn.r Fm [(4,.v (.c (.fl 0 fun _=>[]))),(5,vi 1)] [] (by kernel_rfl) ?_
     refine Kn.wk [(4,AL (α:=Feature) []),(5,vi 1)] [] ⟨rfl,ALe.c (CLe.fl .nil),⟨rfl,ALe.c (CLe.refl _),⟨⟩⟩⟩ True.intro ?_
     exact Kn.D Fm
    ·refine AW.skip (AW.seq ?_)
     obtain ⟨o,I,h⟩:=bS h
     obtain ⟨l,L,h⟩:=bS h
     obtain ⟨n,M,h⟩:=bS h
     refine AW.G Fm [.s,.k (cE [(100,33)] [] (ow 100) [] [(100,AO o)]),.s,.s,.k (cE [] [] (gE l) [] []),.m,.k (cE [(0,33),(2,37),(100,38)] [] (ow 100) [(0,AO o),(2,.arr 5 (1) (litF 5 [.int .i64 l.number_,.int .i64 l.kind_,.int .i64 l.from_,.int .i64 l.until_,DL l.region_.rects_]))] [(100,AO n)]),.s,.s] (fun K=>K 1∧K 4∧K 6∧True) [(4,ow 38),(5,vi 0)] [(38,AO n)] ⟨KAt.CC (feature_all_spec I) Try.call18 [(100,33)],KAt.CC (feature_copied_spec L) Try.call19 [],KAt.CC (FSpec.raw2 (insP_spec M) (OLe.is (Is.lit ([l]:List Feature) (by kernel_rfl)))) Try.call17 [(0,33),(2,37),(100,38)],⟨⟩⟩ ?_
     refine AW.ret ?_
     obtain rfl:=Option.some.inj h
     refine Kn.r Fm [(4,ow 38),(5,vi 0)] [(38,AO n)] (by kernel_rfl) ?_
     refine Kn.frz [(4,AL n),(5,vi 0)] [] (by kernel_rfl) (by kernel_rfl) (by kernel_rfl) ?_
     exact Kn.D Fm
theorem ref04_Same_spec {F:Nat} {a:Region} {b:Region} {r:Bool} (h:ref04_Same F a b=some r) :
  FSpec Try.prog 20 [.v (.g [.d (DL a.rects_)]),.v (.g [.d (DL b.rects_)])] [] (vb r) []:=by
 refine FI Try.func20 prog_mixed prog_lay fun C Fm=>?_
 unfold ref04_Same at h
 refine AW.SG0 Fm 3 [(2,pt 2),(3,pt 3)] [(2,bx [.d (DL a.rects_)]),(3,bx [.d (DL b.rects_)])] ?_
 refine AW.seq ?_
 obtain ⟨c,e,h⟩:=bS h
 refine AW.G Fm [.s,.s,.s,.s,.k (cE [] [] (vb c) [] []),.s] (fun K=>K 4∧True) [(4,vb c)] [] ⟨KAt.CC (ref04_Rects_spec e) Try.call32 [],⟨⟩⟩ ?_
 refine AW.ret ?_
 obtain rfl:=Option.some.inj h
 exact Kn.D Fm
theorem ref09_Same_spec {F:Nat} {b:(List Feature)} {e:(List Feature)} {r:Bool} (h:ref09_Same F b e=some r) :
  FSpec Try.prog 7 [AL b,AL e] [] (vb r) []:=by
 refine FI Try.func7 prog_mixed prog_lay fun C Fm=>?_
 unfold ref09_Same at h
 refine AW.SG0 Fm 1 [(0,AL b),(1,AL e)] [] ?_
 refine AW.seq (AW.SG0 Fm 5 [(0,AL b),(1,AL e),(10,vb ((lI b) != (lI e)))] [] ?_)
 refine AW.cN h (fun M h=>?_) (fun M h=>?_)
 ·refine AW.SG0 Fm 1 [(4,vb false)] [] ?_
  refine AW.ret ?_
  obtain rfl:=Option.some.inj h
  exact Kn.D Fm
 ·refine AW.skip (AW.join (r:=r) (fun z:Unit=>ref09_Same_k2 F) (fun z=>[]) (fun z=>[]) (fun z h=>?_) (fun Y L=>?_))
  ·refine AW.SG0 Fm 1 [(4,vb true)] [] ?_
   refine AW.ret ?_
   obtain rfl:=Option.some.inj h
   exact Kn.D Fm
  ·refine AW.SG0 Fm 3 [(0,AL b),(1,AL e),(12,vi (lI b)),(13,vi 0)] [] ?_
   refine AW.block (AW.loopF (E' := fun z=>[(0,AL b),(1,AL e),(12,vi (lI b)),(13,vi z)]) (S' := fun z=>[]) (fun H a W I h=>?_) h)
   refine AW.SG0 Fm 1 [(0,AL b),(1,AL e),(12,vi (lI b)),(13,vi a),(14,vb (decide (a<(lI b))))] [] ?_
   refine AW.seq (AW.cN h (fun N h=>?_) (fun N h=>?_))
   ·refine AW.skip (AW.seq (AW.block (AW.SG0 Fm 2 [(0,AL b),(1,AL e),(5,vi a),(12,vi (lI b)),(13,vi a)] [] ?_)))
    refine AW.join (r:=r) (fun z:Bool=>ref09_Same_k1 F a H z) (fun z=>[(0,AL b),(1,AL e),(12,vi (lI b)),(13,vi a),(79,vb z)]) (fun z=>[]) (fun Z h=>?_) (fun X j=>?_)
    ·refine AW.cN h (fun O h=>?_) (fun O h=>?_)
     ·refine AW.SG0 Fm 1 [(4,vb false)] [] ?_
      refine AW.ret ?_
      obtain rfl:=Option.some.inj h
      exact Kn.D Fm
     ·refine AW.skip ?_
      obtain ⟨U,h⟩:=gS h
      refine AW.pN Fm [.s,.s] [(0,AL b),(1,AL e),(12,vi (lI b)),(13,vi (a+1))] [] (cT (cT U)) ?_
      exact Kn.R Fm (I (a+1) h)
    ·obtain ⟨m,n,h⟩:=gS2 h
     rcases br_or h with ⟨i,h⟩|⟨i,h⟩
     ·refine AW.pN Fm [.s,.s,.s,.s,.s,.s,.s,.s,.s,.s,.s,.w (vb true),.s,.s,.s,.s,.s,.s,.s,.s,.s,.s,.s,.s,.s,.s,.s,.s,.s,.s,.s,.s,.s,.s,.s,.s,.s,.s,.s,.s,.s,.s,.s,.s,.s,.s,.s,.s,.s,.s,.s,.s,.s,.s,.s,.s,.s,.s,.s,.s,.s,.s,.s,.s] [(0,AL b),(1,AL e),(12,vi (lI b)),(13,vi a),(79,vb true)] [] (cA m (cA n (cT (ALe.bool i)))) ?_
      exact Kn.R Fm (j true h)
     ·obtain ⟨q,t,h⟩:=gS2 h
      rcases br_or h with ⟨l,h⟩|⟨l,h⟩
      ·refine AW.pN Fm [.s,.s,.s,.s,.s,.s,.s,.s,.s,.s,.s,.w (vb false),.s,.s,.s,.s,.s,.s,.s,.s,.s,.s,.s,.s,.w (vb true),.s,.s,.s,.s,.s,.s,.s,.s,.s,.s,.s,.s,.s,.s,.s,.s,.s,.s,.s,.s,.s,.s,.s,.s,.s,.s,.s,.s,.s,.s,.s,.s,.s,.s,.s,.s,.s,.s,.s] [(0,AL b),(1,AL e),(12,vi (lI b)),(13,vi a),(28,AL b),(29,vi a),(30,.v (.c (.elm [.int .i64 (gl b a.toNat).number_,.int .i64 (gl b a.toNat).kind_,.int .i64 (gl b a.toNat).from_,.int .i64 (gl b a.toNat).until_,DL (α:=Rect) (gl b a.toNat).region_.rects_]))),(31,.v (.c (.elm [.int .i64 (gl b a.toNat).kind_,.int .i64 (gl b a.toNat).from_,.int .i64 (gl b a.toNat).until_,DL (α:=Rect) (gl b a.toNat).region_.rects_]))),(32,vi (gl b a.toNat).kind_),(33,AL e),(34,vi a),(35,.v (.c (.elm [.int .i64 (gl e a.toNat).number_,.int .i64 (gl e a.toNat).kind_,.int .i64 (gl e a.toNat).from_,.int .i64 (gl e a.toNat).until_,DL (α:=Rect) (gl e a.toNat).region_.rects_]))),(36,.v (.c (.elm [.int .i64 (gl e a.toNat).kind_,.int .i64 (gl e a.toNat).from_,.int .i64 (gl e a.toNat).until_,DL (α:=Rect) (gl e a.toNat).region_.rects_]))),(37,vi (gl e a.toNat).kind_),(38,vb (((gl b a.toNat).kind_) != ((gl e a.toNat).kind_))),(79,vb true)] [] (cA m (cA n (cA (ALe.bool i) (cA q (cA t (cT (ALe.bool l))))))) ?_
       exact Kn.R Fm (j true h)
      ·obtain ⟨y,A,h⟩:=gS2 h
       rcases br_or h with ⟨p,h⟩|⟨p,h⟩
       ·refine AW.pN Fm [.s,.s,.s,.s,.s,.s,.s,.s,.s,.s,.s,.w (vb false),.s,.s,.s,.s,.s,.s,.s,.s,.s,.s,.s,.s,.w (vb false),.s,.s,.s,.s,.s,.s,.s,.s,.s,.s,.s,.s,.w (vb true),.s,.s,.s,.s,.s,.s,.s,.s,.s,.s,.s,.s,.s,.s,.s,.s,.s,.s,.s,.s,.s,.s,.s,.s,.s,.s] [(0,AL b),(1,AL e),(12,vi (lI b)),(13,vi a),(28,AL b),(29,vi a),(30,.v (.c (.elm [.int .i64 (gl b a.toNat).number_,.int .i64 (gl b a.toNat).kind_,.int .i64 (gl b a.toNat).from_,.int .i64 (gl b a.toNat).until_,DL (α:=Rect) (gl b a.toNat).region_.rects_]))),(31,.v (.c (.elm [.int .i64 (gl b a.toNat).kind_,.int .i64 (gl b a.toNat).from_,.int .i64 (gl b a.toNat).until_,DL (α:=Rect) (gl b a.toNat).region_.rects_]))),(32,vi (gl b a.toNat).kind_),(33,AL e),(34,vi a),(35,.v (.c (.elm [.int .i64 (gl e a.toNat).number_,.int .i64 (gl e a.toNat).kind_,.int .i64 (gl e a.toNat).from_,.int .i64 (gl e a.toNat).until_,DL (α:=Rect) (gl e a.toNat).region_.rects_]))),(36,.v (.c (.elm [.int .i64 (gl e a.toNat).kind_,.int .i64 (gl e a.toNat).from_,.int .i64 (gl e a.toNat).until_,DL (α:=Rect) (gl e a.toNat).region_.rects_]))),(37,vi (gl e a.toNat).kind_),(38,vb (((gl b a.toNat).kind_) != ((gl e a.toNat).kind_))),(41,AL b),(42,vi a),(43,.v (.c (.elm [.int .i64 (gl b a.toNat).number_,.int .i64 (gl b a.toNat).kind_,.int .i64 (gl b a.toNat).from_,.int .i64 (gl b a.toNat).until_,DL (α:=Rect) (gl b a.toNat).region_.rects_]))),(44,.v (.c (.elm [.int .i64 (gl b a.toNat).from_,.int .i64 (gl b a.toNat).until_,DL (α:=Rect) (gl b a.toNat).region_.rects_]))),(45,vi (gl b a.toNat).from_),(46,AL e),(47,vi a),(48,.v (.c (.elm [.int .i64 (gl e a.toNat).number_,.int .i64 (gl e a.toNat).kind_,.int .i64 (gl e a.toNat).from_,.int .i64 (gl e a.toNat).until_,DL (α:=Rect) (gl e a.toNat).region_.rects_]))),(49,.v (.c (.elm [.int .i64 (gl e a.toNat).from_,.int .i64 (gl e a.toNat).until_,DL (α:=Rect) (gl e a.toNat).region_.rects_]))),(50,vi (gl e a.toNat).from_),(51,vb (((gl b a.toNat).from_) != ((gl e a.toNat).from_))),(79,vb true)] [] (cA m (cA n (cA (ALe.bool i) (cA q (cA t (cA (ALe.bool l) (cA y (cA A (cT (ALe.bool p)))))))))) ?_
        exact Kn.R Fm (j true h)
       ·obtain ⟨B,E,h⟩:=gS2 h
        rcases br_or h with ⟨u,h⟩|⟨u,h⟩
        ·refine AW.pN Fm [.s,.s,.s,.s,.s,.s,.s,.s,.s,.s,.s,.w (vb false),.s,.s,.s,.s,.s,.s,.s,.s,.s,.s,.s,.s,.w (vb false),.s,.s,.s,.s,.s,.s,.s,.s,.s,.s,.s,.s,.w (vb false),.s,.s,.s,.s,.s,.s,.s,.s,.s,.s,.s,.s,.w (vb true),.s,.s,.s,.s,.s,.s,.s,.s,.s,.s,.s,.s,.s] [(0,AL b),(1,AL e),(12,vi (lI b)),(13,vi a),(28,AL b),(29,vi a),(30,.v (.c (.elm [.int .i64 (gl b a.toNat).number_,.int .i64 (gl b a.toNat).kind_,.int .i64 (gl b a.toNat).from_,.int .i64 (gl b a.toNat).until_,DL (α:=Rect) (gl b a.toNat).region_.rects_]))),(31,.v (.c (.elm [.int .i64 (gl b a.toNat).kind_,.int .i64 (gl b a.toNat).from_,.int .i64 (gl b a.toNat).until_,DL (α:=Rect) (gl b a.toNat).region_.rects_]))),(32,vi (gl b a.toNat).kind_),(33,AL e),(34,vi a),(35,.v (.c (.elm [.int .i64 (gl e a.toNat).number_,.int .i64 (gl e a.toNat).kind_,.int .i64 (gl e a.toNat).from_,.int .i64 (gl e a.toNat).until_,DL (α:=Rect) (gl e a.toNat).region_.rects_]))),(36,.v (.c (.elm [.int .i64 (gl e a.toNat).kind_,.int .i64 (gl e a.toNat).from_,.int .i64 (gl e a.toNat).until_,DL (α:=Rect) (gl e a.toNat).region_.rects_]))),(37,vi (gl e a.toNat).kind_),(38,vb (((gl b a.toNat).kind_) != ((gl e a.toNat).kind_))),(41,AL b),(42,vi a),(43,.v (.c (.elm [.int .i64 (gl b a.toNat).number_,.int .i64 (gl b a.toNat).kind_,.int .i64 (gl b a.toNat).from_,.int .i64 (gl b a.toNat).until_,DL (α:=Rect) (gl b a.toNat).region_.rects_]))),(44,.v (.c (.elm [.int .i64 (gl b a.toNat).from_,.int .i64 (gl b a.toNat).until_,DL (α:=Rect) (gl b a.toNat).region_.rects_]))),(45,vi (gl b a.toNat).from_),(46,AL e),(47,vi a),(48,.v (.c (.elm [.int .i64 (gl e a.toNat).number_,.int .i64 (gl e a.toNat).kind_,.int .i64 (gl e a.toNat).from_,.int .i64 (gl e a.toNat).until_,DL (α:=Rect) (gl e a.toNat).region_.rects_]))),(49,.v (.c (.elm [.int .i64 (gl e a.toNat).from_,.int .i64 (gl e a.toNat).until_,DL (α:=Rect) (gl e a.toNat).region_.rects_]))),(50,vi (gl e a.toNat).from_),(51,vb (((gl b a.toNat).from_) != ((gl e a.toNat).from_))),(54,AL b),(55,vi a),(56,.v (.c (.elm [.int .i64 (gl b a.toNat).number_,.int .i64 (gl b a.toNat).kind_,.int .i64 (gl b a.toNat).from_,.int .i64 (gl b a.toNat).until_,DL (α:=Rect) (gl b a.toNat).region_.rects_]))),(57,.v (.c (.elm [.int .i64 (gl b a.toNat).until_,DL (α:=Rect) (gl b a.toNat).region_.rects_]))),(58,vi (gl b a.toNat).until_),(59,AL e),(60,vi a),(61,.v (.c (.elm [.int .i64 (gl e a.toNat).number_,.int .i64 (gl e a.toNat).kind_,.int .i64 (gl e a.toNat).from_,.int .i64 (gl e a.toNat).until_,DL (α:=Rect) (gl e a.toNat).region_.rects_]))),(62,.v (.c (.elm [.int .i64 (gl e a.toNat).until_,DL (α:=Rect) (gl e a.toNat).region_.rects_]))),(63,vi (gl e a.toNat).until_),(64,vb (((gl b a.toNat).until_) != ((gl e a.toNat).until_))),(79,vb true)] [] (cA m (cA n (cA (ALe.bool i) (cA q (cA t (cA (ALe.bool l) (cA y (cA A (cA (ALe.bool p) (cA B (cA E (cT (ALe.bool u))))))))))))) ?_
         exact Kn.R Fm (j true h)
        ·obtain ⟨P,T,h⟩:=gS2 h
         obtain ⟨o,V,h⟩:=bS h
         refine AW.G Fm [.s,.s,.s,.s,.s,.s,.s,.s,.s,.s,.s,.w (vb false),.s,.s,.s,.s,.s,.s,.s,.s,.s,.s,.s,.s,.w (vb false),.s,.s,.s,.s,.s,.s,.s,.s,.s,.s,.s,.s,.w (vb false),.s,.s,.s,.s,.s,.s,.s,.s,.s,.s,.s,.s,.w (vb false),.s,.s,.s,.s,.s,.s,.s,.s,.s,.s,.k (cE [] [] (vb o) [] []),.s,.s] (fun K=>_∧_∧_∧_∧_∧_∧_∧_∧_∧_∧_∧_∧_∧_∧K 61∧True) [(0,AL b),(1,AL e),(12,vi (lI b)),(13,vi a),(28,AL b),(29,vi a),(30,.v (.c (.elm [.int .i64 (gl b a.toNat).number_,.int .i64 (gl b a.toNat).kind_,.int .i64 (gl b a.toNat).from_,.int .i64 (gl b a.toNat).until_,DL (α:=Rect) (gl b a.toNat).region_.rects_]))),(31,.v (.c (.elm [.int .i64 (gl b a.toNat).kind_,.int .i64 (gl b a.toNat).from_,.int .i64 (gl b a.toNat).until_,DL (α:=Rect) (gl b a.toNat).region_.rects_]))),(32,vi (gl b a.toNat).kind_),(33,AL e),(34,vi a),(35,.v (.c (.elm [.int .i64 (gl e a.toNat).number_,.int .i64 (gl e a.toNat).kind_,.int .i64 (gl e a.toNat).from_,.int .i64 (gl e a.toNat).until_,DL (α:=Rect) (gl e a.toNat).region_.rects_]))),(36,.v (.c (.elm [.int .i64 (gl e a.toNat).kind_,.int .i64 (gl e a.toNat).from_,.int .i64 (gl e a.toNat).until_,DL (α:=Rect) (gl e a.toNat).region_.rects_]))),(37,vi (gl e a.toNat).kind_),(38,vb (((gl b a.toNat).kind_) != ((gl e a.toNat).kind_))),(41,AL b),(42,vi a),(43,.v (.c (.elm [.int .i64 (gl b a.toNat).number_,.int .i64 (gl b a.toNat).kind_,.int .i64 (gl b a.toNat).from_,.int .i64 (gl b a.toNat).until_,DL (α:=Rect) (gl b a.toNat).region_.rects_]))),(44,.v (.c (.elm [.int .i64 (gl b a.toNat).from_,.int .i64 (gl b a.toNat).until_,DL (α:=Rect) (gl b a.toNat).region_.rects_]))),(45,vi (gl b a.toNat).from_),(46,AL e),(47,vi a),(48,.v (.c (.elm [.int .i64 (gl e a.toNat).number_,.int .i64 (gl e a.toNat).kind_,.int .i64 (gl e a.toNat).from_,.int .i64 (gl e a.toNat).until_,DL (α:=Rect) (gl e a.toNat).region_.rects_]))),(49,.v (.c (.elm [.int .i64 (gl e a.toNat).from_,.int .i64 (gl e a.toNat).until_,DL (α:=Rect) (gl e a.toNat).region_.rects_]))),(50,vi (gl e a.toNat).from_),(51,vb (((gl b a.toNat).from_) != ((gl e a.toNat).from_))),(54,AL b),(55,vi a),(56,.v (.c (.elm [.int .i64 (gl b a.toNat).number_,.int .i64 (gl b a.toNat).kind_,.int .i64 (gl b a.toNat).from_,.int .i64 (gl b a.toNat).until_,DL (α:=Rect) (gl b a.toNat).region_.rects_]))),(57,.v (.c (.elm [.int .i64 (gl b a.toNat).until_,DL (α:=Rect) (gl b a.toNat).region_.rects_]))),(58,vi (gl b a.toNat).until_),(59,AL e),(60,vi a),(61,.v (.c (.elm [.int .i64 (gl e a.toNat).number_,.int .i64 (gl e a.toNat).kind_,.int .i64 (gl e a.toNat).from_,.int .i64 (gl e a.toNat).until_,DL (α:=Rect) (gl e a.toNat).region_.rects_]))),(62,.v (.c (.elm [.int .i64 (gl e a.toNat).until_,DL (α:=Rect) (gl e a.toNat).region_.rects_]))),(63,vi (gl e a.toNat).until_),(64,vb (((gl b a.toNat).until_) != ((gl e a.toNat).until_))),(67,AL b),(68,vi a),(69,.v (.c (.elm [.int .i64 (gl b a.toNat).number_,.int .i64 (gl b a.toNat).kind_,.int .i64 (gl b a.toNat).from_,.int .i64 (gl b a.toNat).until_,DL (α:=Rect) (gl b a.toNat).region_.rects_]))),(70,.v (.c (.elm [DL (α:=Rect) (gl b a.toNat).region_.rects_]))),(71,.v (.g [.d (DL (α:=Rect) (gl b a.toNat).region_.rects_)])),(72,AL e),(73,vi a),(74,.v (.c (.elm [.int .i64 (gl e a.toNat).number_,.int .i64 (gl e a.toNat).kind_,.int .i64 (gl e a.toNat).from_,.int .i64 (gl e a.toNat).until_,DL (α:=Rect) (gl e a.toNat).region_.rects_]))),(75,.v (.c (.elm [DL (α:=Rect) (gl e a.toNat).region_.rects_]))),(76,.v (.g [.d (DL (α:=Rect) (gl e a.toNat).region_.rects_)])),(77,vb o),(78,vb (!o)),(79,vb (!o))] [] ⟨m,n,ALe.bool i,q,t,ALe.bool l,y,A,ALe.bool p,B,E,ALe.bool u,P,T,KAt.CC (ref04_Same_spec V) Try.call20 [],⟨⟩⟩ ?_
         exact Kn.R Fm (j (!o) h)
   ·exact AW.exit (Kn.R Fm (L () h))
theorem feature_right_spec {F:Nat} {d:(List Feature)} {a:Int} {r:Int} (h:feature_right F d a=some r) :
  FSpec Try.prog 33 [AL d,vi a] [] (vi r) []:=by
 refine FI Try.func33 prog_mixed prog_lay fun C Fm=>?_
 unfold feature_right at h
 refine AW.SG0 Fm 1 [(0,AL d),(1,vi a)] [] ?_
 refine AW.seq (AW.seq ?_)
 obtain ⟨b,l,h⟩:=bS h
 refine AW.G Fm [.s,.k (cE [] [] (vi b) [] []),.s] (fun K=>K 1∧True) [(1,vi a),(5,vi b)] [] ⟨KAt.CC (feature_Check_spec l) Try.call13 [],⟨⟩⟩ ?_
 refine AW.SG0 Fm 2 [(1,vi a),(5,vi b),(9,vb (b != (0:Int)))] [] ?_
 refine AW.cN h (fun i h=>?_) (fun i h=>?_)
 ·refine AW.SG0 Fm 2 [(4,vi b)] [] ?_
  refine AW.ret ?_
  obtain rfl:=Option.some.inj h
  exact Kn.D Fm
 ·refine AW.skip (AW.seq (AW.join (r:=r) (fun z:Bool=>feature_right_k0 F z) (fun z=>[(16,vb z)]) (fun z=>[]) (fun n h=>?_) (fun m e=>?_)))
  ·refine AW.cN h (fun j h=>?_) (fun j h=>?_)
   ·refine AW.SG0 Fm 1 [(4,vi 9)] [] ?_
    refine AW.ret ?_
    obtain rfl:=Option.some.inj h
    exact Kn.D Fm
   ·refine AW.skip (AW.SG0 Fm 1 [(4,vi 0)] [] ?_)
    refine AW.ret ?_
    obtain rfl:=Option.some.inj h
    exact Kn.D Fm
  ·rcases br_or h with ⟨c,h⟩|⟨c,h⟩
   ·refine AW.pN Fm [.s,.s,.w (vb true),.s,.s,.s] [(16,vb true)] [] (cT (ALe.bool c)) ?_
    exact Kn.R Fm (e true h)
   ·refine AW.pN Fm [.s,.s,.w (vb false),.s,.s,.s] [(16,vb (decide ((36864:Int)<a)))] [] (cT (ALe.bool c)) ?_
    exact Kn.R Fm (e (decide ((36864:Int)<a)) h)
theorem feature_there_spec {F:Nat} {a:Feature} {b:Int} {r:Bool} (h:feature_there F a b=some r) :
  FSpec Try.prog 36 [gE a,vi b] [] (vb r) []:=by
 refine FI Try.func36 prog_mixed prog_lay fun C Fm=>?_
 unfold feature_there at h
 refine AW.SG0 Fm 2 [(1,vi b),(2,pt 2)] [(2,bx (gC a))] ?_
 refine AW.join (r:=r) (fun z:Bool=>feature_there_k0 F z) (fun z=>[(4,vb z)]) (fun z=>[]) (fun i h=>?_) (fun e d=>?_)
 ·refine AW.ret ?_
  obtain rfl:=Option.some.inj h
  exact Kn.D Fm
 ·rcases br_or h with ⟨c,h⟩|⟨c,h⟩
  ·refine AW.pN Fm [.s,.s,.s,.s,.w (vb true),.s,.s,.s,.s,.s,.s] [(4,vb (decide (b<a.until_)))] [] (cT (ALe.bool c)) ?_
   exact Kn.R Fm (d (decide (b<a.until_)) h)
  ·refine AW.pN Fm [.s,.s,.s,.s,.w (vb false),.s,.s,.s,.s,.s,.s] [(4,vb false)] [] (cT (ALe.bool c)) ?_
   exact Kn.R Fm (d false h)
theorem feature_On_1_spec {F:Nat} {b:Feature} {a:Int} {r:Bool} (h:feature_On_1 F b a=some r) :
  FSpec Try.prog 35 [gE b,pt 0] [(0,.box true [ci a])] (vb r) [(0,.box true [ci a])]:=by
 refine FI Try.func35 prog_mixed prog_lay fun C Fm=>?_
 unfold feature_On_1 at h
 refine AW.SG0 Fm 2 [(1,pt 0),(2,pt 2)] [(0,.box true [ci a]),(2,bx (gC b))] ?_
 refine AW.seq ?_
 obtain ⟨c,d,h⟩:=bS h
 refine AW.G Fm [.s,.s,.k (cE [] [] (vb c) [] []),.s,.s] (fun K=>K 2∧True) [(3,vb (!c))] [(0,.box true [ci a])] ⟨KAt.CC (feature_there_spec d) Try.call36 [],⟨⟩⟩ ?_
 refine AW.ret ?_
 obtain rfl:=Option.some.inj h
 exact Kn.D Fm
theorem slices_IndexFunc_Feature_spec {F:Nat} {a:(List Feature)} {e:Feature→Option Bool} {r:Int} (h:slices_IndexFunc_Feature F a e=some r) :
  FSpec Try.prog 48 [AL a,.v (.c (.sem (CloOK Try.prog (FR_Feature_Bool e))))] [] (vi r) []:=by
 refine FI Try.func48 prog_mixed prog_lay fun C Fm=>?_
 unfold slices_IndexFunc_Feature at h
 refine AW.SG0 Fm 1 [(0,AL a),(1,.v (.c (.sem (CloOK Try.prog (FR_Feature_Bool e)))))] [] ?_
 refine AW.join (r:=r) (fun z:Unit=>slices_IndexFunc_Feature_k1 F) (fun z=>[]) (fun z=>[]) (fun z h=>?_) (fun u l=>?_)
 ·refine AW.SG0 Fm 1 [(4,vi (-1:Int))] [] ?_
  refine AW.ret ?_
  obtain rfl:=Option.some.inj h
  exact Kn.D Fm
 ·refine AW.SG0 Fm 3 [(0,AL a),(1,.v (.c (.sem (CloOK Try.prog (FR_Feature_Bool e))))),(7,vi (lI a)),(8,vi 0)] [] ?_
  refine AW.block (AW.loopF (E' := fun z=>[(0,AL a),(1,.v (.c (.sem (CloOK Try.prog (FR_Feature_Bool e))))),(7,vi (lI a)),(8,vi z)]) (S' := fun z=>[]) (fun w b t j h=>?_) h)
  refine AW.SG0 Fm 1 [(0,AL a),(1,.v (.c (.sem (CloOK Try.prog (FR_Feature_Bool e))))),(7,vi (lI a)),(8,vi b),(9,vb (decide (b<(lI a))))] [] ?_
  refine AW.seq (AW.cN h (fun m h=>?_) (fun m h=>?_))
  ·refine AW.skip (AW.seq (AW.block (AW.SG0 Fm 2 [(0,AL a),(1,.v (.c (.sem (CloOK Try.prog (FR_Feature_Bool e))))),(5,vi b),(7,vi (lI a)),(8,vi b)] [] ?_)))
   refine AW.seq ?_
   obtain ⟨o,h⟩:=gS h
   obtain ⟨i,q,h⟩:=bS h
   refine AW.G Fm [.s,.s,.s,.s,.s,.k (sE (vb i))] (fun K=>_∧K 5∧True) [(0,AL a),(1,.v (.c (.sem (CloOK Try.prog (FR_Feature_Bool e))))),(5,vi b),(7,vi (lI a)),(8,vi b),(16,vb i)] [] ⟨o,KAt.sem (F:=(FR_Feature_Bool e)) (args:=[.v (.g [ci ((gl a b.toNat).number_),ci ((gl a b.toNat).kind_),ci ((gl a b.toNat).from_),ci ((gl a b.toNat).until_),.d (DL (α:=Rect) (gl a b.toNat).region_.rects_)])]) ⟨(gl a b.toNat),i,q,rfl,rfl⟩ rfl (by kernel_rfl) (by kernel_rfl) (by kernel_rfl),⟨⟩⟩ ?_
   refine AW.cN h (fun n h=>?_) (fun n h=>?_)
   ·refine AW.SG0 Fm 2 [(4,vi b)] [] ?_
    refine AW.ret ?_
    obtain rfl:=Option.some.inj h
    exact Kn.D Fm
   ·refine AW.skip ?_
    obtain ⟨p,h⟩:=gS h
    refine AW.pN Fm [.s,.s] [(0,AL a),(1,.v (.c (.sem (CloOK Try.prog (FR_Feature_Bool e))))),(7,vi (lI a)),(8,vi (b+1))] [] (cT (cT p)) ?_
    exact Kn.R Fm (j (b+1) h)
  ·exact AW.exit (Kn.R Fm (l () h))
theorem slices_DeleteFunc_Feature_spec {F:Nat} {t:(List Feature)} {p:Feature→Option Bool} {r:(List Feature)} (h:slices_DeleteFunc_Feature F t p=some r) :
  FSpec Try.prog 34 [ow 0,.v (.c (.sem (CloOK Try.prog (FR_Feature_Bool p))))] [(0,AO t)] (ow 100) [(100,AO (α:=Feature) r)]:=by
 refine FI Try.func34 prog_mixed prog_lay fun C Fm=>?_
 unfold slices_DeleteFunc_Feature at h
 refine AW.SG Fm [.m] (fun K=>True) [(0,ow 0),(1,.v (.c (.sem (CloOK Try.prog (FR_Feature_Bool p)))))] [(0,AO t)] True.intro ?_
 refine AW.seq ?_
 obtain ⟨w,Z,h⟩:=bS h
 refine AW.G Fm [.s,.s,.k (sE (vi w)),.s] (fun K=>K 2∧True) [(0,ow 0),(1,.v (.c (.sem (CloOK Try.prog (FR_Feature_Bool p))))),(5,vi w)] [(0,AO t)] ⟨KAt.callBX (slices_IndexFunc_Feature_spec Z) Try.call48 [0] [.tmp 8,.tmp 9] rfl (by kernel_rfl) (by kernel_rfl) ⟨ArgB.own 0 (es:=5) (n:=List.length t) (f:=LF t) (by kernel_rfl) (by kernel_rfl) (by kernel_rfl) (by kernel_rfl),ArgB.sem (by kernel_rfl) (by kernel_rfl),⟨⟩⟩,⟨⟩⟩ ?_
 refine AW.seq (AW.SG0 Fm 2 [(0,ow 0),(1,.v (.c (.sem (CloOK Try.prog (FR_Feature_Bool p))))),(5,vi w),(12,vb (w==(-1:Int)))] [(0,AO t)] ?_)
 refine AW.cN h (fun P h=>?_) (fun P h=>?_)
 ·refine AW.SG0 Fm 2 [(4,ow 0)] [(0,AO t)] ?_
  refine AW.ret ?_
  obtain rfl:=Option.some.inj h
  exact Kn.re Fm [(100,0)] [(4,ow 100)] [(100,AO t)] (by kernel_rfl) (by kernel_rfl) (by kernel_rfl) (by kernel_rfl) (Kn.dn Fm (by kernel_rfl))
 ·refine AW.skip (AW.join (r:=r) (fun z:Int×(List Feature)=>slices_DeleteFunc_Feature_k2 F z.1 z.2) (fun z=>[(0,ow 0),(5,vi z.1)]) (fun z=>[(0,AO z.2)]) (fun z h=>?_) (fun d0 O=>?_))
  ·obtain ⟨e,o⟩:=z
   obtain ⟨Y,h⟩:=gS h
   refine AW.SW Fm [.s,.s,.k (rE { v:=.v (.c (.sub 0 5 (0+(e).toNat) ((List.length (α:=Feature) o)-(e).toNat))) }),.k (rE { v:=.any,upd:=some (0,.arr 5 (List.length (α:=Feature) o) (fun i=>if (0+(e).toNat)≤i∧i<(0+(e).toNat)+((List.length (α:=Feature) o)-(e).toNat) then (fun _=>[.int .i64 0,.int .i64 0,.int .i64 0,.int .i64 0,DL (α:=Rect) []]) (i-(0+(e).toNat)) else (LF (α:=Feature) o) i)) })] (fun K=>K 2∧K 3∧True) [(0,ow 0),(5,vi e)] [(0,AO (α:=Feature) (clr o (0+(e).toNat) ((List.length (α:=Feature) o)-(e).toNat)))] ⟨KAt.vslice (l:=(some e)) (u:=none) (id:=0) (lo0:=0) (n:=(List.length (α:=Feature) o)) (N:=List.length (α:=Feature) o) (f:=LF (α:=Feature) o) prog_lay slT23 rfl rfl (by kernel_rfl) (by kernel_rfl) (by kernel_rfl) (by kernel_rfl) (by kernel_rfl) Y (by kernel_rfl),KAt.vclear (id:=0) (lo0:=(0+(e).toNat)) (n:=((List.length (α:=Feature) o)-(e).toNat)) (N:=List.length (α:=Feature) o) (f:=(LF (α:=Feature) o)) prog_lay slT23 [.int .i64 0,.int .i64 0,.int .i64 0,.int .i64 0,.lst 0 fun _=>[]] [.int .i64 0,.int .i64 0,.int .i64 0,.int .i64 0,DL (α:=Rect) []] ⟨DLe.refl _,DLe.refl _,DLe.refl _,DLe.refl _,DLe.nil _ _,⟨⟩⟩ rfl rfl (by kernel_rfl) (Nat.succ_pos _) (by kernel_rfl) (by kernel_rfl) (by kernel_rfl) (by kernel_rfl) rfl,⟨⟩⟩ [(0,.arr 5 (List.length (α:=Feature) o) (fun i=>if (0+(e).toNat)≤i∧i<(0+(e).toNat)+((List.length (α:=Feature) o)-(e).toNat) then (fun _=>[.int .i64 0,.int .i64 0,.int .i64 0,.int .i64 0,DL (α:=Rect) []]) (i-(0+(e).toNat)) else (LF (α:=Feature) o) i))] ⟨OLe.is (Is.clr (l:=o) (0+(e).toNat) ((List.length (α:=Feature) o)-(e).toNat) (zd:=[.int .i64 0,.int .i64 0,.int .i64 0,.int .i64 0,DL (α:=Rect) []]) (by kernel_rfl)),⟨⟩⟩ ?_
   obtain ⟨E,h⟩:=gS h
   refine AW.SV Fm [.s,.s,.m,.s] [(4,ow 41)] [(41,AO (α:=Feature) ((clr o (0+(e).toNat) ((List.length (α:=Feature) o)-(e).toNat)).take (e).toNat))] (cT E) [(41,.arr 5 ((e).toNat) (LF (α:=Feature) (clr o (0+(e).toNat) ((List.length (α:=Feature) o)-(e).toNat))))] ⟨OLe.is (Is.take (Is.refl (clr o (0+(e).toNat) ((List.length (α:=Feature) o)-(e).toNat))) E.2),⟨⟩⟩ ?_
   refine AW.ret ?_
   obtain rfl:=Option.some.inj h
   exact Kn.re Fm [(100,41)] [(4,ow 100)] [(100,AO (α:=Feature) ((clr o (0+(e).toNat) ((List.length (α:=Feature) o)-(e).toNat)).take (e).toNat))] (by kernel_rfl) (by kernel_rfl) (by kernel_rfl) (by kernel_rfl) (Kn.dn Fm (by kernel_rfl))
  ·obtain ⟨V,h⟩:=gS h
   refine AW.SP Fm [.s,.s,.s] [(0,ow 0),(1,.v (.c (.sem (CloOK Try.prog (FR_Feature_Bool p))))),(5,vi w),(6,vi (w+1))] [(0,AO t)] (cT (cT V)) ?_
   refine AW.block (AW.loopF (E' := fun z=>[(0,ow 0),(1,.v (.c (.sem (CloOK Try.prog (FR_Feature_Bool p))))),(5,vi z.1),(6,vi z.2.1)]) (S' := fun z=>[(0,AO z.2.2)]) (fun L z b0 M h=>?_) h)
   obtain ⟨q,b,a⟩:=z
   refine AW.seq (AW.SG0 Fm 4 [(0,ow 0),(1,.v (.c (.sem (CloOK Try.prog (FR_Feature_Bool p))))),(5,vi q),(6,vi b),(19,vb (decide (b<(lI a))))] [(0,AO a)] ?_)
   refine AW.cN h (fun T h=>?_) (fun T h=>?_)
   ·refine AW.skip (AW.join (r:=r) (fun z:Int×(List Feature)=>slices_DeleteFunc_Feature_k1 F b L z.1 z.2) (fun z=>[(0,ow 0),(1,.v (.c (.sem (CloOK Try.prog (FR_Feature_Bool p))))),(5,vi z.1),(6,vi b)]) (fun z=>[(0,AO z.2)]) (fun z h=>?_) (fun c0 B=>?_))
    ·obtain ⟨H,I⟩:=z
     obtain ⟨X,h⟩:=gS h
     refine AW.pN Fm [.s,.s,.s] [(0,ow 0),(1,.v (.c (.sem (CloOK Try.prog (FR_Feature_Bool p))))),(5,vi H),(6,vi (b+1))] [(0,AO I)] (cT (cT X)) ?_
     exact Kn.R Fm (M (H,(b+1),I) h)
    ·refine AW.block ?_
     obtain ⟨D,h⟩:=gS h
     refine AW.SP Fm [.s,.s,.s,.s,.s,.s] [(0,ow 0),(1,.v (.c (.sem (CloOK Try.prog (FR_Feature_Bool p))))),(5,vi q),(6,vi b),(7,pt 7)] [(0,AO a),(7,bx [ci ((gl a b.toNat).number_),ci ((gl a b.toNat).kind_),ci ((gl a b.toNat).from_),ci ((gl a b.toNat).until_),.d (DL (α:=Rect) (gl a b.toNat).region_.rects_)])] (cA D (cT (toNat_lt D))) ?_
     refine AW.seq ?_
     obtain ⟨A,a0,h⟩:=bS h
     refine AW.G Fm [.s,.s,.k (sE (vb A)),.s] (fun K=>K 2∧True) [(0,ow 0),(1,.v (.c (.sem (CloOK Try.prog (FR_Feature_Bool p))))),(5,vi q),(6,vi b),(7,pt 7),(29,vb (!A))] [(0,AO a),(7,bx [ci ((gl a b.toNat).number_),ci ((gl a b.toNat).kind_),ci ((gl a b.toNat).from_),ci ((gl a b.toNat).until_),.d (DL (α:=Rect) (gl a b.toNat).region_.rects_)])] ⟨KAt.sem (F:=(FR_Feature_Bool p)) (args:=[.v (.g [ci ((gl a b.toNat).number_),ci ((gl a b.toNat).kind_),ci ((gl a b.toNat).from_),ci ((gl a b.toNat).until_),.d (DL (α:=Rect) (gl a b.toNat).region_.rects_)])]) ⟨(gl a b.toNat),A,a0,rfl,rfl⟩ rfl (by kernel_rfl) (by kernel_rfl) (by kernel_rfl),⟨⟩⟩ ?_
     refine AW.cN h (fun U h=>?_) (fun U h=>?_)
     ·obtain ⟨y,h⟩:=gS h
      refine AW.SV Fm [.s,.s,.s,.s,.s] [(0,ow 0),(1,.v (.c (.sem (CloOK Try.prog (FR_Feature_Bool p))))),(5,vi q),(6,vi b)] [(0,AO (α:=Feature) (List.set a q.toNat (gl a b.toNat)))] (cA y (cT (toNat_lt y))) [(0,.arr 5 (List.length (α:=Feature) a) (fun j=>if j=q.toNat then splice ((LF (α:=Feature) a) q.toNat) 0 [.int .i64 (gl a b.toNat).number_,.int .i64 (gl a b.toNat).kind_,.int .i64 (gl a b.toNat).from_,.int .i64 (gl a b.toNat).until_,DL (α:=Rect) (gl a b.toNat).region_.rects_] else (LF (α:=Feature) a) j))] ⟨OLe.is (Is.set (Is.refl a) (toNat_lt y) (gl a b.toNat) (by kernel_rfl)),⟨⟩⟩ ?_
      obtain ⟨W,h⟩:=gS h
      refine AW.pN Fm [.s,.s,.s] [(0,ow 0),(1,.v (.c (.sem (CloOK Try.prog (FR_Feature_Bool p))))),(5,vi (q+1)),(6,vi b)] [(0,AO (α:=Feature) (List.set a q.toNat (gl a b.toNat)))] (cT (cT W)) ?_
      exact Kn.R Fm (B ((q+1),(List.set a q.toNat (gl a b.toNat))) h)
     ·exact AW.skip (Kn.R Fm (B (q,a) h))
   ·exact AW.exit (Kn.R Fm (O (q,a) h))
theorem feature_On_spec {F:Nat} {e:(List Feature)} {b:Int} {r:(List Feature)×Int} (h:feature_On F e b=some r) :
  FSpec Try.prog 21 [AL e,vi b] [] (.t [.c (.d (DL (α:=Feature) r.1)),.c (ci r.2)]) []:=by
 refine FI Try.func21 prog_mixed prog_lay fun C Fm=>?_
 unfold feature_On at h
 refine AW.SG0 Fm 3 [(0,AL e),(3,pt 3)] [(3,bx [ci b])] ?_
 refine AW.seq (AW.seq ?_)
 obtain ⟨a,m,h⟩:=bS h
 refine AW.G Fm [.s,.s,.k (cE [] [] (vi a) [] []),.s] (fun K=>K 2∧True) [(0,AL e),(3,pt 3),(6,vi a)] [(3,bx [ci b])] ⟨KAt.CC (feature_right_spec m) Try.call33 [],⟨⟩⟩ ?_
 refine AW.SG0 Fm 2 [(0,AL e),(3,pt 3),(6,vi a),(11,vb (a != (0:Int)))] [(3,bx [ci b])] ?_
 refine AW.cN h (fun l h=>?_) (fun l h=>?_)
 ·refine AW.SG0 Fm 3 [(4,.v (.c (.fl 0 fun _=>[]))),(5,vi a)] [] ?_
  refine AW.ret ?_
  obtain rfl:=Option.some.inj h
  refine Kn.r Fm [(4,.v (.c (.fl 0 fun _=>[]))),(5,vi a)] [] (by kernel_rfl) ?_
  refine Kn.wk [(4,AL (α:=Feature) []),(5,vi a)] [] ⟨rfl,ALe.c (CLe.fl .nil),⟨rfl,ALe.c (CLe.refl _),⟨⟩⟩⟩ True.intro ?_
  exact Kn.D Fm
 ·refine AW.skip (AW.seq ?_)
  obtain ⟨j,n,h⟩:=bS h
  obtain ⟨i,o,h⟩:=bS h
  refine AW.G Fm [.s,.k (cE [(100,14)] [] (ow 100) [] [(100,AO j)]),.s,.k (cE [(0,14),(100,16)] [3] (ow 100) [(0,AO j)] [(100,AO i)]),.s,.s] (fun K=>K 1∧K 3∧True) [(4,ow 16),(5,vi 0)] [(16,AO i)] ⟨KAt.CC (feature_all_spec n) Try.call18 [(100,14)],KAt.callX (slices_DeleteFunc_Feature_spec o) Try.call34 [(0,14),(100,16)] [3] [.tmp 14,.tmp 15] rfl (by kernel_rfl) (by kernel_rfl) (by kernel_rfl) ⟨.p,ArgT.cloX Try.call35 [[ci b]] (fun args r hq=>by obtain ⟨y0,y,hq,rfl,rfl⟩:=hq; exact Eq.mp (by kernel_rfl) (feature_On_1_spec hq)) (fun args r hq=>by obtain ⟨y0,y,hq,rfl,rfl⟩:=hq; rfl) (by kernel_rfl) [3] (by kernel_rfl) (by kernel_rfl) (⟨⟨false,(by kernel_rfl)⟩,⟨⟩⟩) (by kernel_rfl),⟨⟩⟩,⟨⟩⟩ ?_
  refine AW.ret ?_
  obtain rfl:=Option.some.inj h
  refine Kn.r Fm [(4,ow 16),(5,vi 0)] [(16,AO i)] (by kernel_rfl) ?_
  refine Kn.frz [(4,AL i),(5,vi 0)] [] (by kernel_rfl) (by kernel_rfl) (by kernel_rfl) ?_
  exact Kn.D Fm
theorem slices_Delete_Feature_spec {F:Nat} {a:(List Feature)} {d:Int} {b:Int} {r:(List Feature)} (h:slices_Delete_Feature F a d b=some r) :
  FSpec Try.prog 37 [ow 0,vi d,vi b] [(0,AO a)] (ow 100) [(100,AO (α:=Feature) r)]:=by
 refine FI Try.func37 prog_mixed prog_lay fun C Fm=>?_
 unfold slices_Delete_Feature at h
 refine AW.SG Fm [.m] (fun K=>True) [(0,ow 0),(1,vi d),(2,vi b)] [(0,AO a)] True.intro ?_
 obtain ⟨p,h⟩:=gS h
 refine AW.SG Fm [.s,.s,.s,.s,.s,.k (rE { v:=.any })] (fun K=>K 5∧True) [(0,ow 0),(1,vi d),(2,vi b)] [(0,AO a)] ⟨KAt.vslice3 (l:=d) (u:=b) (m:=(lI a)) (id:=0) (lo0:=0) (n:=(List.length (α:=Feature) a)) (N:=List.length (α:=Feature) a) (f:=LF (α:=Feature) a) prog_lay slT23 rfl rfl (by kernel_rfl) (by kernel_rfl) (by kernel_rfl) (by kernel_rfl) (by kernel_rfl) (by kernel_rfl) p,⟨⟩⟩ ?_
 refine AW.seq (AW.SG0 Fm 3 [(0,ow 0),(1,vi d),(2,vi b),(16,vb (d==b))] [(0,AO a)] ?_)
 refine AW.cN h (fun o h=>?_) (fun o h=>?_)
 ·refine AW.SG0 Fm 2 [(6,ow 0)] [(0,AO a)] ?_
  refine AW.ret ?_
  obtain rfl:=Option.some.inj h
  exact Kn.re Fm [(100,0)] [(6,ow 100)] [(100,AO a)] (by kernel_rfl) (by kernel_rfl) (by kernel_rfl) (by kernel_rfl) (Kn.dn Fm (by kernel_rfl))
 ·refine AW.skip (AW.SG0 Fm 3 [(0,ow 0),(1,vi d),(2,vi b),(7,vi (lI a))] [(0,AO a)] ?_)
  obtain ⟨q,t,e,h⟩:=gS3 h
  refine AW.SW Fm [.s,.s,.k (rE { v:=.v (.c (.sub 0 5 0 ((d).toNat))) }),.s,.s,.k (rE { v:=.v (.c (.sub 0 5 (0+(b).toNat) ((List.length (α:=Feature) a)-(b).toNat))) }),.k (rE { v:=.v (.c (.sub 0 5 0 (((d).toNat)+((List.length (α:=Feature) a)-(b).toNat)))),upd:=some (0,.arr 5 (List.length (α:=Feature) a) (fun i=>if 0+((d).toNat)≤i∧i<0+((d).toNat)+((List.length (α:=Feature) a)-(b).toNat) then (fun j=>(LF (α:=Feature) a) ((0+(b).toNat)+j)) (i-(0+((d).toNat))) else (LF (α:=Feature) a) i)) }),.s] (fun K=>K 2∧K 5∧K 6∧True) [(0,.v (.c (.sub 0 5 0 (((d).toNat)+((List.length (α:=Feature) a)-(b).toNat))))),(7,vi (lI a))] [(0,AO (α:=Feature) (mvl a (0+((d).toNat)) (0+(b).toNat) ((List.length (α:=Feature) a)-(b).toNat)))] ⟨KAt.vslice (l:=none) (u:=(some d)) (id:=0) (lo0:=0) (n:=(List.length (α:=Feature) a)) (N:=List.length (α:=Feature) a) (f:=LF (α:=Feature) a) prog_lay slT23 rfl rfl (by kernel_rfl) (by kernel_rfl) (by kernel_rfl) (by kernel_rfl) (by kernel_rfl) q (by kernel_rfl),KAt.vslice (l:=(some b)) (u:=none) (id:=0) (lo0:=0) (n:=(List.length (α:=Feature) a)) (N:=List.length (α:=Feature) a) (f:=LF (α:=Feature) a) prog_lay slT23 rfl rfl (by kernel_rfl) (by kernel_rfl) (by kernel_rfl) (by kernel_rfl) (by kernel_rfl) t (by kernel_rfl),KAt.vappend (id:=0) (lo0:=0) (n:=((d).toNat)) (lo2:=(0+(b).toNat)) (m:=((List.length (α:=Feature) a)-(b).toNat)) (N:=List.length (α:=Feature) a) (f:=(LF (α:=Feature) a)) prog_lay slT23 rfl rfl (by kernel_rfl) (by kernel_rfl) (by kernel_rfl) (by kernel_rfl) e.1 rfl rfl,⟨⟩⟩ [(0,.arr 5 (List.length (α:=Feature) a) (fun i=>if 0+((d).toNat)≤i∧i<0+((d).toNat)+((List.length (α:=Feature) a)-(b).toNat) then (fun j=>(LF (α:=Feature) a) ((0+(b).toNat)+j)) (i-(0+((d).toNat))) else (LF (α:=Feature) a) i))] ⟨OLe.is (Is.mvl (l:=a) (m:=0+((d).toNat)) (lo:=(0+(b).toNat)) (k:=((List.length (α:=Feature) a)-(b).toNat)) e.2),⟨⟩⟩ ?_
  obtain ⟨w,h⟩:=gS h
  refine AW.SW Fm [.s,.s,.k (rE { v:=vi (((((d).toNat)+((List.length (α:=Feature) a)-(b).toNat)):Nat):Int) }),.s,.k (rE { v:=.v (.c (.sub 0 5 (0+((((((d).toNat)+((List.length (α:=Feature) a)-(b).toNat)):Nat):Int)).toNat) (((lI a)).toNat-((((((d).toNat)+((List.length (α:=Feature) a)-(b).toNat)):Nat):Int)).toNat))) }),.k (rE { v:=.any,upd:=some (0,.arr 5 (List.length (α:=Feature) (mvl a (0+((d).toNat)) (0+(b).toNat) ((List.length (α:=Feature) a)-(b).toNat))) (fun i=>if (0+((((((d).toNat)+((List.length (α:=Feature) a)-(b).toNat)):Nat):Int)).toNat)≤i∧i<(0+((((((d).toNat)+((List.length (α:=Feature) a)-(b).toNat)):Nat):Int)).toNat)+(((lI a)).toNat-((((((d).toNat)+((List.length (α:=Feature) a)-(b).toNat)):Nat):Int)).toNat) then (fun _=>[.int .i64 0,.int .i64 0,.int .i64 0,.int .i64 0,DL (α:=Rect) []]) (i-(0+((((((d).toNat)+((List.length (α:=Feature) a)-(b).toNat)):Nat):Int)).toNat)) else (LF (α:=Feature) (mvl a (0+((d).toNat)) (0+(b).toNat) ((List.length (α:=Feature) a)-(b).toNat))) i)) })] (fun K=>K 2∧K 4∧K 5∧True) [(0,.v (.c (.sub 0 5 0 (((d).toNat)+((List.length (α:=Feature) a)-(b).toNat)))))] [(0,AO (α:=Feature) (clr (mvl a (0+((d).toNat)) (0+(b).toNat) ((List.length (α:=Feature) a)-(b).toNat)) (0+((((((d).toNat)+((List.length (α:=Feature) a)-(b).toNat)):Nat):Int)).toNat) (((lI a)).toNat-((((((d).toNat)+((List.length (α:=Feature) a)-(b).toNat)):Nat):Int)).toNat)))] ⟨KAt.vlen (es:=5) (id:=0) (lo0:=0) (n:=(((d).toNat)+((List.length (α:=Feature) a)-(b).toNat))) (N:=List.length (α:=Feature) (mvl a (0+((d).toNat)) (0+(b).toNat) ((List.length (α:=Feature) a)-(b).toNat))) (f:=LF (α:=Feature) (mvl a (0+((d).toNat)) (0+(b).toNat) ((List.length (α:=Feature) a)-(b).toNat))) prog_lay slT23 rfl rfl (by kernel_rfl) (by kernel_rfl) (by kernel_rfl),KAt.vslice (l:=(some (((((d).toNat)+((List.length (α:=Feature) a)-(b).toNat)):Nat):Int))) (u:=(some (lI a))) (id:=0) (lo0:=0) (n:=(((d).toNat)+((List.length (α:=Feature) a)-(b).toNat))) (N:=List.length (α:=Feature) (mvl a (0+((d).toNat)) (0+(b).toNat) ((List.length (α:=Feature) a)-(b).toNat))) (f:=LF (α:=Feature) (mvl a (0+((d).toNat)) (0+(b).toNat) ((List.length (α:=Feature) a)-(b).toNat))) prog_lay slT23 rfl rfl (by kernel_rfl) (by kernel_rfl) (by kernel_rfl) (by kernel_rfl) (by kernel_rfl) w (by kernel_rfl),KAt.vclear (id:=0) (lo0:=(0+((((((d).toNat)+((List.length (α:=Feature) a)-(b).toNat)):Nat):Int)).toNat)) (n:=(((lI a)).toNat-((((((d).toNat)+((List.length (α:=Feature) a)-(b).toNat)):Nat):Int)).toNat)) (N:=List.length (α:=Feature) (mvl a (0+((d).toNat)) (0+(b).toNat) ((List.length (α:=Feature) a)-(b).toNat))) (f:=(LF (α:=Feature) (mvl a (0+((d).toNat)) (0+(b).toNat) ((List.length (α:=Feature) a)-(b).toNat)))) prog_lay slT23 [.int .i64 0,.int .i64 0,.int .i64 0,.int .i64 0,.lst 0 fun _=>[]] [.int .i64 0,.int .i64 0,.int .i64 0,.int .i64 0,DL (α:=Rect) []] ⟨DLe.refl _,DLe.refl _,DLe.refl _,DLe.refl _,DLe.nil _ _,⟨⟩⟩ rfl rfl (by kernel_rfl) (Nat.succ_pos _) (by kernel_rfl) (by kernel_rfl) (by kernel_rfl) (by kernel_rfl) rfl,⟨⟩⟩ [(0,.arr 5 (List.length (α:=Feature) (mvl a (0+((d).toNat)) (0+(b).toNat) ((List.length (α:=Feature) a)-(b).toNat))) (fun i=>if (0+((((((d).toNat)+((List.length (α:=Feature) a)-(b).toNat)):Nat):Int)).toNat)≤i∧i<(0+((((((d).toNat)+((List.length (α:=Feature) a)-(b).toNat)):Nat):Int)).toNat)+(((lI a)).toNat-((((((d).toNat)+((List.length (α:=Feature) a)-(b).toNat)):Nat):Int)).toNat) then (fun _=>[.int .i64 0,.int .i64 0,.int .i64 0,.int .i64 0,DL (α:=Rect) []]) (i-(0+((((((d).toNat)+((List.length (α:=Feature) a)-(b).toNat)):Nat):Int)).toNat)) else (LF (α:=Feature) (mvl a (0+((d).toNat)) (0+(b).toNat) ((List.length (α:=Feature) a)-(b).toNat))) i))] ⟨OLe.is (Is.clr (l:=(mvl a (0+((d).toNat)) (0+(b).toNat) ((List.length (α:=Feature) a)-(b).toNat))) (0+((((((d).toNat)+((List.length (α:=Feature) a)-(b).toNat)):Nat):Int)).toNat) (((lI a)).toNat-((((((d).toNat)+((List.length (α:=Feature) a)-(b).toNat)):Nat):Int)).toNat) (zd:=[.int .i64 0,.int .i64 0,.int .i64 0,.int .i64 0,DL (α:=Rect) []]) (by kernel_rfl)),⟨⟩⟩ ?_
  refine AW.SG0 Fm 2 [(6,.v (.c (.sub 0 5 0 (((d).toNat)+((List.length (α:=Feature) a)-(b).toNat)))))] [(0,AO (α:=Feature) (clr (mvl a (0+((d).toNat)) (0+(b).toNat) ((List.length (α:=Feature) a)-(b).toNat)) (0+((((((d).toNat)+((List.length (α:=Feature) a)-(b).toNat)):Nat):Int)).toNat) (((lI a)).toNat-((((((d).toNat)+((List.length (α:=Feature) a)-(b).toNat)):Nat):Int)).toNat)))] ?_
  refine AW.ret ?_
  obtain ⟨y,h⟩:=gS h
  refine Kn.r Fm ((6,.v (.c (.sub 0 5 0 (((d).toNat)+((List.length (α:=Feature) a)-(b).toNat)))))::[]) ((0,AO (α:=Feature) (clr (mvl a (0+((d).toNat)) (0+(b).toNat) ((List.length (α:=Feature) a)-(b).toNat)) (0+((((((d).toNat)+((List.length (α:=Feature) a)-(b).toNat)):Nat):Int)).toNat) (((lI a)).toNat-((((((d).toNat)+((List.length (α:=Feature) a)-(b).toNat)):Nat):Int)).toNat)))::[]) (by kernel_rfl) ?_
  refine Kn.shrink Fm (k:=1000) (n:=(((d).toNat)+((List.length (α:=Feature) a)-(b).toNat))) (by kernel_rfl) (by kernel_rfl) (by kernel_rfl) ?_
  refine Kn.obj (OLe.is (Is.takeN (Is.refl (clr (mvl a (0+((d).toNat)) (0+(b).toNat) ((List.length (α:=Feature) a)-(b).toNat)) (0+((((((d).toNat)+((List.length (α:=Feature) a)-(b).toNat)):Nat):Int)).toNat) (((lI a)).toNat-((((((d).toNat)+((List.length (α:=Feature) a)-(b).toNat)):Nat):Int)).toNat))) y)) ?_
  obtain rfl:=Option.some.inj h
  exact Kn.re Fm [(100,1000)] [(6,ow 100)] [(100,AO (α:=Feature) ((clr (mvl a (0+((d).toNat)) (0+(b).toNat) ((List.length (α:=Feature) a)-(b).toNat)) (0+((((((d).toNat)+((List.length (α:=Feature) a)-(b).toNat)):Nat):Int)).toNat) (((lI a)).toNat-((((((d).toNat)+((List.length (α:=Feature) a)-(b).toNat)):Nat):Int)).toNat)).take (((d).toNat)+((List.length (α:=Feature) a)-(b).toNat))))] (by kernel_rfl) (by kernel_rfl) (by kernel_rfl) (by kernel_rfl) (Kn.dn Fm (by kernel_rfl))
theorem feature_End_spec {F:Nat} {i:(List Feature)} {l:Int} {e:Int} {r:(List Feature)×Int} (h:feature_End F i l e=some r) :
  FSpec Try.prog 22 [AL i,vi l,vi e] [] (.t [.c (.d (DL (α:=Feature) r.1)),.c (ci r.2)]) []:=by
 refine FI Try.func22 prog_mixed prog_lay fun C Fm=>?_
 unfold feature_End at h
 refine AW.SG0 Fm 2 [(0,AL i),(1,vi l),(2,vi e)] [] ?_
 refine AW.seq (AW.seq ?_)
 obtain ⟨m,M,h⟩:=bS h
 refine AW.G Fm [.s,.k (cE [] [] (vi m) [] []),.s] (fun K=>K 1∧True) [(0,AL i),(1,vi l),(2,vi e),(8,vi m)] [] ⟨KAt.CC (feature_Check_spec M) Try.call13 [],⟨⟩⟩ ?_
 refine AW.SG0 Fm 2 [(0,AL i),(1,vi l),(2,vi e),(8,vi m),(15,vb (m != (0:Int)))] [] ?_
 refine AW.cN h (fun A h=>?_) (fun A h=>?_)
 ·refine AW.SG0 Fm 3 [(6,.v (.c (.fl 0 fun _=>[]))),(7,vi m)] [] ?_
  refine AW.ret ?_
  obtain rfl:=Option.some.inj h
  refine Kn.r Fm [(6,.v (.c (.fl 0 fun _=>[]))),(7,vi m)] [] (by kernel_rfl) ?_
  refine Kn.wk [(6,AL (α:=Feature) []),(7,vi m)] [] ⟨rfl,ALe.c (CLe.fl .nil),⟨rfl,ALe.c (CLe.refl _),⟨⟩⟩⟩ True.intro ?_
  exact Kn.D Fm
 ·refine AW.skip (AW.seq ?_)
  obtain ⟨a,N,h⟩:=bS h
  refine AW.G Fm [.s,.s,.w (.v (.g [ci l,ci 0,ci 0,ci 0,.d (DL (α:=Rect) [])])),.k (cE [] [] (.t [.c (ci a.1),.c (.d (.bool a.2))]) [] []),.s,.s,.s,.s,.s] (fun K=>(ALe (.v (.g [ci l,ci 0,ci 0,ci 0,.fl 0 fun _=>[]])) (.v (.g [ci l,ci 0,ci 0,ci 0,.d (DL (α:=Rect) [])])))∧K 3∧True) [(0,AL i),(2,vi e),(9,vi a.1),(10,vb a.2)] [] ⟨ALe.g ⟨CLe.refl _,CLe.refl _,CLe.refl _,CLe.refl _,CLe.fl .nil,⟨⟩⟩,KAt.callX (slices_BinarySearchFunc_Feature_spec N) Try.call15 [] [] [.tmp 18,.tmp 20,.func 16] rfl (by kernel_rfl) (by kernel_rfl) (by kernel_rfl) ⟨.p,.p,ArgT.cloX Try.call16 [] (fun args r hq=>by obtain ⟨y0,y1,y,hq,rfl,rfl⟩:=hq; exact Eq.mp (by kernel_rfl) (feature_compare_spec hq)) (fun args r hq=>by obtain ⟨y0,y1,y,hq,rfl,rfl⟩:=hq; rfl) (by kernel_rfl) [] (by kernel_rfl) (by kernel_rfl) (True.intro) (by kernel_rfl),⟨⟩⟩,⟨⟩⟩ ?_
  refine AW.seq (AW.block (AW.SG0 Fm 3 [(0,AL i),(2,vi e),(9,vi a.1),(24,vb (!a.2))] [] ?_))
  refine AW.cN h (fun B h=>?_) (fun B h=>?_)
  ·refine AW.SG0 Fm 2 [(6,.v (.c (.fl 0 fun _=>[]))),(7,vi 10)] [] ?_
   refine AW.ret ?_
   obtain rfl:=Option.some.inj h
   refine Kn.r Fm [(6,.v (.c (.fl 0 fun _=>[]))),(7,vi 10)] [] (by kernel_rfl) ?_
   refine Kn.wk [(6,AL (α:=Feature) []),(7,vi 10)] [] ⟨rfl,ALe.c (CLe.fl .nil),⟨rfl,ALe.c (CLe.refl _),⟨⟩⟩⟩ True.intro ?_
   exact Kn.D Fm
  ·refine AW.seq ?_
   obtain ⟨I,h⟩:=gS h
   obtain ⟨u,O,h⟩:=bS h
   refine AW.G Fm [.s,.s,.s,.s,.s,.k (cE [] [] (vb u) [] []),.s,.s] (fun K=>_∧K 5∧True) [(0,AL i),(2,vi e),(9,vi a.1),(27,vb (!u))] [] ⟨I,KAt.CC (feature_there_spec O) Try.call36 [],⟨⟩⟩ ?_
   refine AW.cN h (fun E h=>?_) (fun E h=>?_)
   ·refine AW.SG0 Fm 2 [(6,.v (.c (.fl 0 fun _=>[]))),(7,vi 9)] [] ?_
    refine AW.ret ?_
    obtain rfl:=Option.some.inj h
    refine Kn.r Fm [(6,.v (.c (.fl 0 fun _=>[]))),(7,vi 9)] [] (by kernel_rfl) ?_
    refine Kn.wk [(6,AL (α:=Feature) []),(7,vi 9)] [] ⟨rfl,ALe.c (CLe.fl .nil),⟨rfl,ALe.c (CLe.refl _),⟨⟩⟩⟩ True.intro ?_
    exact Kn.D Fm
   ·refine AW.skip (AW.seq ?_)
    obtain ⟨b,P,h⟩:=bS h
    refine AW.G Fm [.s,.k (cE [(100,36)] [] (ow 100) [] [(100,AO b)]),.s] (fun K=>K 1∧True) [(2,vi e),(9,vi a.1),(11,ow 36)] [(36,AO b)] ⟨KAt.CC (feature_all_spec P) Try.call18 [(100,36)],⟨⟩⟩ ?_
    refine AW.seq ?_
    obtain ⟨q,h⟩:=gS h
    refine AW.SP Fm [.s,.s,.s,.s,.s,.s,.s] [(2,vi e),(9,vi a.1),(11,ow 36),(43,vb (((gl b a.1.toNat).from_)==e))] [(36,AO b)] (cA q (cT (toNat_lt q))) ?_
    refine AW.cN h (fun H h=>?_) (fun H h=>?_)
    ·refine AW.seq ?_
     obtain ⟨L,h⟩:=gS h
     obtain ⟨n,R,h⟩:=bS h
     refine AW.G Fm [.s,.s,.s,.s,.k (cE [(0,36),(100,48)] [] (ow 100) [(0,AO b)] [(100,AO n)]),.s,.s] (fun K=>(_∧True)∧K 4∧True) [(6,ow 48),(7,vi 0)] [(48,AO n)] ⟨⟨L,⟨⟩⟩,KAt.CC (slices_Delete_Feature_spec R) Try.call37 [(0,36),(100,48)],⟨⟩⟩ ?_
     refine AW.ret ?_
     obtain rfl:=Option.some.inj h
     refine Kn.r Fm [(6,ow 48),(7,vi 0)] [(48,AO n)] (by kernel_rfl) ?_
     refine Kn.frz [(6,AL n),(7,vi 0)] [] (by kernel_rfl) (by kernel_rfl) (by kernel_rfl) ?_
     exact Kn.D Fm
    ·refine AW.skip ?_
     obtain ⟨o,h⟩:=gS h
     refine AW.SV Fm [.s,.s,.s,.s,.s,.s] [(11,ow 36)] [(36,AO (α:=Feature) (List.set b a.1.toNat (⟨(gl b a.1.toNat).number_,(gl b a.1.toNat).kind_,(gl b a.1.toNat).from_,e,(gl b a.1.toNat).region_⟩ : Feature)))] (cA o (cT (toNat_lt o))) [(36,.arr 5 (List.length (α:=Feature) b) (fun j=>if j=a.1.toNat then splice ((LF (α:=Feature) b) a.1.toNat) 3 [.int .i64 e] else (LF (α:=Feature) b) j))] ⟨OLe.is (Is.set (Is.refl b) (toNat_lt o) (⟨(gl b a.1.toNat).number_,(gl b a.1.toNat).kind_,(gl b a.1.toNat).from_,e,(gl b a.1.toNat).region_⟩ : Feature) (by kernel_rfl)),⟨⟩⟩ ?_
     refine AW.SG0 Fm 3 [(6,ow 36),(7,vi 0)] [(36,AO (α:=Feature) (List.set b a.1.toNat (⟨(gl b a.1.toNat).number_,(gl b a.1.toNat).kind_,(gl b a.1.toNat).from_,e,(gl b a.1.toNat).region_⟩ : Feature)))] ?_
     refine AW.ret ?_
     obtain rfl:=Option.some.inj h
     refine Kn.r Fm [(6,ow 36),(7,vi 0)] [(36,AO (α:=Feature) (List.set b a.1.toNat (⟨(gl b a.1.toNat).number_,(gl b a.1.toNat).kind_,(gl b a.1.toNat).from_,e,(gl b a.1.toNat).region_⟩ : Feature)))] (by kernel_rfl) ?_
     refine Kn.frz [(6,AL (α:=Feature) (List.set b a.1.toNat (⟨(gl b a.1.toNat).number_,(gl b a.1.toNat).kind_,(gl b a.1.toNat).from_,e,(gl b a.1.toNat).region_⟩ : Feature))),(7,vi 0)] [] (by kernel_rfl) (by kernel_rfl) (by kernel_rfl) ?_
     exact Kn.D Fm
theorem law09_awake_spec {F:Nat} {r:Bool} (h:law09_awake F=some r) :
  FSpec Try.prog 8 [] [] (vb r) []:=by
 refine FI Try.func8 prog_mixed prog_lay fun C Fm=>?_
 unfold law09_awake at h
 refine AW.SG0 Fm 1 [] [] ?_
 refine AW.SP Fm [.s,.w (AL (α:=Rect) ([(⟨0,0,(1:Int),(1:Int)⟩ : Rect)]:List Rect)),.s,.s,.w (AL (α:=Feature) ([(⟨(1:Int),0,(5:Int),(10:Int),(⟨([(⟨0,0,(1:Int),(1:Int)⟩ : Rect)]:List Rect)⟩ : Region)⟩ : Feature)]:List Feature)),.s] [(1,AL (α:=Feature) ([(⟨(1:Int),0,(5:Int),(10:Int),(⟨([(⟨0,0,(1:Int),(1:Int)⟩ : Rect)]:List Rect)⟩ : Region)⟩ : Feature)]:List Feature))] [] (cA (ALe.lst (.lit ([(⟨0,0,(1:Int),(1:Int)⟩ : Rect)]:List Rect) (by kernel_rfl)):ALe (.v (.c (.d (.lst 1 (litF 4 [.int .i64 0,.int .i64 0,.int .i64 (1:Int),.int .i64 (1:Int)]))))) (AL (α:=Rect) ([(⟨0,0,(1:Int),(1:Int)⟩ : Rect)]:List Rect))) (cT (ALe.lst (.lit ([(⟨(1:Int),0,(5:Int),(10:Int),(⟨([(⟨0,0,(1:Int),(1:Int)⟩ : Rect)]:List Rect)⟩ : Region)⟩ : Feature)]:List Feature) (by kernel_rfl)):ALe (.v (.c (.d (.lst 1 (litF 5 [.int .i64 (1:Int),.int .i64 0,.int .i64 (5:Int),.int .i64 (10:Int),DL (α:=Rect) ([(⟨0,0,(1:Int),(1:Int)⟩ : Rect)]:List Rect)]))))) (AL (α:=Feature) ([(⟨(1:Int),0,(5:Int),(10:Int),(⟨([(⟨0,0,(1:Int),(1:Int)⟩ : Rect)]:List Rect)⟩ : Region)⟩ : Feature)]:List Feature))))) ?_
 refine AW.seq ?_
 obtain ⟨b,B,h⟩:=bS h
 refine AW.G Fm [.s,.k (cE [] [] (.t [.c (.d (DL b.1)),.c (ci b.2)]) [] []),.s,.s,.s,.s,.s] (fun K=>K 1∧True) [(1,AL (α:=Feature) ([(⟨(1:Int),0,(5:Int),(10:Int),(⟨([(⟨0,0,(1:Int),(1:Int)⟩ : Rect)]:List Rect)⟩ : Region)⟩ : Feature)]:List Feature)),(2,AL b.1),(3,vi b.2)] [] ⟨KAt.CC (feature_On_spec B) Try.call21 [],⟨⟩⟩ ?_
 refine AW.seq ?_
 obtain ⟨l,E,h⟩:=bS h
 refine AW.G Fm [.s,.k (cE [] [] (.t [.c (.d (DL l.1)),.c (ci l.2)]) [] []),.s,.s,.s,.s,.s] (fun K=>K 1∧True) [(1,AL (α:=Feature) ([(⟨(1:Int),0,(5:Int),(10:Int),(⟨([(⟨0,0,(1:Int),(1:Int)⟩ : Rect)]:List Rect)⟩ : Region)⟩ : Feature)]:List Feature)),(2,AL b.1),(3,vi b.2),(4,AL l.1),(5,vi l.2)] [] ⟨KAt.CC (feature_On_spec E) Try.call21 [],⟨⟩⟩ ?_
 refine AW.seq ?_
 obtain ⟨m,H,h⟩:=bS h
 refine AW.G Fm [.s,.k (cE [] [] (.t [.c (.d (DL m.1)),.c (ci m.2)]) [] []),.s,.s,.s,.s,.s] (fun K=>K 1∧True) [(2,AL b.1),(3,vi b.2),(4,AL l.1),(5,vi l.2),(6,AL m.1),(7,vi m.2)] [] ⟨KAt.CC (feature_End_spec H) Try.call22 [],⟨⟩⟩ ?_
 refine AW.seq ?_
 obtain ⟨u,I,h⟩:=bS h
 refine AW.G Fm [.s,.k (cE [] [] (.t [.c (.d (DL u.1)),.c (ci u.2)]) [] []),.s,.s,.s,.s,.s] (fun K=>K 1∧True) [(2,AL b.1),(3,vi b.2),(4,AL l.1),(5,vi l.2),(6,AL m.1),(7,vi m.2),(8,AL u.1),(9,vi u.2)] [] ⟨KAt.CC (feature_On_spec I) Try.call21 [],⟨⟩⟩ ?_
 refine AW.join (r:=r) (fun z:Bool=>law09_awake_k0 F z) (fun z=>[(0,vb z)]) (fun z=>[]) (fun M h=>?_) (fun L e=>?_)
 ·refine AW.ret ?_
  obtain rfl:=Option.some.inj h
  exact Kn.D Fm
 ·rcases br_or h with ⟨a,h⟩|⟨a,h⟩
  ·rcases br_or h with ⟨i,h⟩|⟨i,h⟩
   ·rcases br_or h with ⟨j,h⟩|⟨j,h⟩
    ·rcases br_or h with ⟨n,h⟩|⟨n,h⟩
     ·rcases br_or h with ⟨o,h⟩|⟨o,h⟩
      ·rcases br_or h with ⟨p,h⟩|⟨p,h⟩
       ·rcases br_or h with ⟨q,h⟩|⟨q,h⟩
        ·rcases br_or h with ⟨y,h⟩|⟨y,h⟩
         ·obtain ⟨A,h⟩:=gS h
          refine AW.pN Fm [.s,.s,.w (vb true),.s,.s,.s,.s,.w (vb true),.s,.s,.s,.w (vb true),.s,.s,.s,.s,.w (vb true),.s,.s,.s,.w (vb true),.s,.s,.s,.w (vb true),.s,.s,.s,.s,.w (vb true),.s,.s,.s,.s,.w (vb true),.s,.s,.s,.s,.s,.s,.s] [(0,vb (((gl m.1 (0:Int).toNat).until_)==(7:Int)))] [] (cA (ALe.bool a) (cA (ALe.bool i) (cA (ALe.bool j) (cA (ALe.bool n) (cA (ALe.bool o) (cA (ALe.bool p) (cA (ALe.bool q) (cA (ALe.bool y) (cT A))))))))) ?_
          exact Kn.R Fm (e (((gl m.1 (0:Int).toNat).until_)==(7:Int)) h)
         ·refine AW.pN Fm [.s,.s,.w (vb true),.s,.s,.s,.s,.w (vb true),.s,.s,.s,.w (vb true),.s,.s,.s,.s,.w (vb true),.s,.s,.s,.w (vb true),.s,.s,.s,.w (vb true),.s,.s,.s,.s,.w (vb true),.s,.s,.s,.s,.w (vb false),.s,.s,.s,.s,.s,.s,.s] [(0,vb false)] [] (cA (ALe.bool a) (cA (ALe.bool i) (cA (ALe.bool j) (cA (ALe.bool n) (cA (ALe.bool o) (cA (ALe.bool p) (cA (ALe.bool q) (cT (ALe.bool y))))))))) ?_
          exact Kn.R Fm (e false h)
        ·refine AW.pN Fm [.s,.s,.w (vb true),.s,.s,.s,.s,.w (vb true),.s,.s,.s,.w (vb true),.s,.s,.s,.s,.w (vb true),.s,.s,.s,.w (vb true),.s,.s,.s,.w (vb true),.s,.s,.s,.s,.w (vb false),.s,.s,.s,.s,.s,.s,.s,.s,.s,.s,.s,.s] [(0,vb false)] [] (cA (ALe.bool a) (cA (ALe.bool i) (cA (ALe.bool j) (cA (ALe.bool n) (cA (ALe.bool o) (cA (ALe.bool p) (cT (ALe.bool q)))))))) ?_
         exact Kn.R Fm (e false h)
       ·refine AW.pN Fm [.s,.s,.w (vb true),.s,.s,.s,.s,.w (vb true),.s,.s,.s,.w (vb true),.s,.s,.s,.s,.w (vb true),.s,.s,.s,.w (vb true),.s,.s,.s,.w (vb false),.s,.s,.s,.s,.s,.s,.s,.s,.s,.s,.s,.s,.s,.s,.s,.s,.s] [(0,vb false)] [] (cA (ALe.bool a) (cA (ALe.bool i) (cA (ALe.bool j) (cA (ALe.bool n) (cA (ALe.bool o) (cT (ALe.bool p))))))) ?_
        exact Kn.R Fm (e false h)
      ·refine AW.pN Fm [.s,.s,.w (vb true),.s,.s,.s,.s,.w (vb true),.s,.s,.s,.w (vb true),.s,.s,.s,.s,.w (vb true),.s,.s,.s,.w (vb false),.s,.s,.s,.s,.s,.s,.s,.s,.s,.s,.s,.s,.s,.s,.s,.s,.s,.s,.s,.s,.s] [(0,vb false)] [] (cA (ALe.bool a) (cA (ALe.bool i) (cA (ALe.bool j) (cA (ALe.bool n) (cT (ALe.bool o)))))) ?_
       exact Kn.R Fm (e false h)
     ·refine AW.pN Fm [.s,.s,.w (vb true),.s,.s,.s,.s,.w (vb true),.s,.s,.s,.w (vb true),.s,.s,.s,.s,.w (vb false),.s,.s,.s,.s,.s,.s,.s,.s,.s,.s,.s,.s,.s,.s,.s,.s,.s,.s,.s,.s,.s,.s,.s,.s,.s] [(0,vb false)] [] (cA (ALe.bool a) (cA (ALe.bool i) (cA (ALe.bool j) (cT (ALe.bool n))))) ?_
      exact Kn.R Fm (e false h)
    ·refine AW.pN Fm [.s,.s,.w (vb true),.s,.s,.s,.s,.w (vb true),.s,.s,.s,.w (vb false),.s,.s,.s,.s,.s,.s,.s,.s,.s,.s,.s,.s,.s,.s,.s,.s,.s,.s,.s,.s,.s,.s,.s,.s,.s,.s,.s,.s,.s,.s] [(0,vb false)] [] (cA (ALe.bool a) (cA (ALe.bool i) (cT (ALe.bool j)))) ?_
     exact Kn.R Fm (e false h)
   ·refine AW.pN Fm [.s,.s,.w (vb true),.s,.s,.s,.s,.w (vb false),.s,.s,.s,.s,.s,.s,.s,.s,.s,.s,.s,.s,.s,.s,.s,.s,.s,.s,.s,.s,.s,.s,.s,.s,.s,.s,.s,.s,.s,.s,.s,.s,.s,.s] [(0,vb false)] [] (cA (ALe.bool a) (cT (ALe.bool i))) ?_
    exact Kn.R Fm (e false h)
  ·refine AW.pN Fm [.s,.s,.w (vb false),.s,.s,.s,.s,.s,.s,.s,.s,.s,.s,.s,.s,.s,.s,.s,.s,.s,.s,.s,.s,.s,.s,.s,.s,.s,.s,.s,.s,.s,.s,.s,.s,.s,.s,.s,.s,.s,.s,.s] [(0,vb false)] [] (cT (ALe.bool a)) ?_
   exact Kn.R Fm (e false h)
theorem law09_FeatureAdds_spec {F:Nat} {l:(List Int)} {r:Bool} (h:law09_FeatureAdds F l=some r) :
  FSpec Try.prog 3 [AL l] [] (vb r) []:=by
 refine FI Try.func3 prog_mixed prog_lay fun C Fm=>?_
 unfold law09_FeatureAdds at h
 refine AW.SG0 Fm 1 [(0,AL l)] [] ?_
 refine AW.seq ?_
 obtain ⟨q,M,h⟩:=bS h
 obtain ⟨a,N,h⟩:=bS h
 refine AW.G Fm [.s,.k (cE [(100,8)] [] (pt 100) [] [(100,bx (gC q))]),.k (cE [(0,8)] [] (AL a.2) [(0,bx (gC q))] [(0,bx (gC a.1))]),.s] (fun K=>K 1∧K 2∧True) [(3,AL a.2)] [] ⟨KAt.CC (keep_New_spec M) Try.call4 [(100,8)],KAt.CC (keep_Tape_Layer_spec N) Try.call5 [(0,8)],⟨⟩⟩ ?_
 refine AW.SW Fm [.m] (fun K=>True) [(3,AL a.2),(4,ow 4)] [(4,AO (α:=Feature) ([]:List Feature))] True.intro [(4,.arr 5 (0) (fun _=>[]))] ⟨OLe.is ((Is.nil (α:=Feature))),⟨⟩⟩ ?_
 refine AW.join (r:=r) (fun z:(List Feature)=>law09_FeatureAdds_k1 F a z) (fun z=>[(3,AL a.2),(4,AL z)]) (fun z=>[]) (fun X h=>?_) (fun U A=>?_)
 ·refine AW.join (r:=r) (fun z:Bool=>law09_FeatureAdds_k2 F z) (fun z=>[(2,vb z)]) (fun z=>[]) (fun Y h=>?_) (fun V o=>?_)
  ·refine AW.ret ?_
   obtain rfl:=Option.some.inj h
   exact Kn.D Fm
  ·obtain ⟨u,p,h⟩:=bS h
   rcases br_or h with ⟨i,h⟩|⟨i,h⟩
   ·obtain ⟨n,P,h⟩:=bS h
    refine AW.G Fm [.s,.s,.k (cE [] [] (vb u) [] []),.w (vb true),.k (cE [] [] (vb n) [] []),.s,.s] (fun K=>K 2∧_∧K 4∧True) [(2,vb n)] [] ⟨KAt.CC (ref09_Same_spec p) Try.call7 [],ALe.bool i,KAt.CC (law09_awake_spec P) Try.call8 [],⟨⟩⟩ ?_
    exact Kn.R Fm (o n h)
   ·refine AW.G Fm [.s,.s,.k (cE [] [] (vb u) [] []),.w (vb false),.s,.s,.s] (fun K=>K 2∧_∧True) [(2,vb false)] [] ⟨KAt.CC (ref09_Same_spec p) Try.call7 [],ALe.bool i,⟨⟩⟩ ?_
    exact Kn.R Fm (o false h)
 ·obtain ⟨H,h⟩:=gS h
  refine AW.SP Fm [.s,.s,.s,.s] [(3,AL a.2),(4,ow 4),(5,vi ((lI a.2)-1))] [(4,AO (α:=Feature) ([]:List Feature))] (cT (cT H)) ?_
  refine AW.block (Kn.r Fm [(3,AL a.2),(4,ow 4),(5,vi ((lI a.2)-1))] [(4,AO (α:=Feature) ([]:List Feature))] (by kernel_rfl) ?_)
  refine Kn.frz [(3,AL a.2),(4,AL (α:=Feature) ([]:List Feature)),(5,vi ((lI a.2)-1))] [] (by kernel_rfl) (by kernel_rfl) (by kernel_rfl) ?_
  refine Kn.r Fm [(3,AL a.2),(4,AL ([]:List Feature)),(5,vi ((lI a.2)-1))] [] (by kernel_rfl) ?_
  refine AW.loopF (E' := fun z=>[(3,AL a.2),(4,AL z.1),(5,vi z.2)]) (S' := fun z=>[]) (fun W z T y h=>?_) h
  obtain ⟨j,e⟩:=z
  refine AW.seq (AW.SG0 Fm 2 [(3,AL a.2),(4,AL j),(5,vi e),(14,vb (decide ((0:Int)≤e)))] [] ?_)
  refine AW.cN h (fun B h=>?_) (fun B h=>?_)
  ·refine AW.skip (AW.seq (AW.block (AW.SG0 Fm 1 [(3,AL a.2),(4,AL j),(5,vi e)] [] ?_)))
   refine AW.seq ?_
   obtain ⟨I,h⟩:=gS h
   obtain ⟨b,O,h⟩:=bS h
   refine AW.G Fm [.s,.s,.s,.s,.s,.k (cE [] [] (.t [.c (.d (DL b.1)),.c (ci b.2)]) [] []),.s,.s,.s,.s,.s] (fun K=>_∧K 5∧True) [(3,AL a.2),(4,AL b.1),(5,vi e),(6,vi b.2)] [] ⟨I,KAt.CC (feature_Add_spec O) Try.call6 [],⟨⟩⟩ ?_
   refine AW.SG0 Fm 2 [(3,AL a.2),(4,AL b.1),(5,vi e),(27,vb (b.2 != (0:Int)))] [] ?_
   refine AW.cN h (fun E h=>?_) (fun E h=>?_)
   ·refine AW.SG0 Fm 1 [(2,vb false)] [] ?_
    refine AW.ret ?_
    obtain rfl:=Option.some.inj h
    exact Kn.D Fm
   ·refine AW.skip ?_
    obtain ⟨L,h⟩:=gS h
    refine AW.pN Fm [.s,.s,.s] [(3,AL a.2),(4,AL b.1),(5,vi (e-1))] [] (cT (cT L)) ?_
    exact Kn.R Fm (y (b.1,(e-1)) h)
  ·exact AW.exit (Kn.R Fm (A j h))
end Go.Ab
end
