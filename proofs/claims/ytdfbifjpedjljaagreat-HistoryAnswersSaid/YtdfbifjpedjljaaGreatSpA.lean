/- The code follows the plain programs: whenever the plain program has a result. -/
import Derived.Test.YtdfbifjpedjljaaGreatBaA
set_option linter.unusedVariables false
set_option linter.unusedSimpArgs false
section
namespace Go.Ab
open Go.Proofs
set_option linter.unusedVariables false
set_option maxRecDepth 100000
theorem keep_New_spec {F:Nat} {x1:(List Int)} {r:Tape} (h:keep_New F x1=some r) :
  FSpec Tryz.prog 13 [AL x1] [] (pt 100) [(100,bx (gC r))]:=by
 refine FI Tryz.func13 prog_mixed prog_lay fun C Fm=>?_
 unfold keep_New at h
 refine AW.SG0 Fm 1 [(0,AL x1)] [] ?_
 obtain ⟨hg2,h⟩:=gS h
 refine AW.SP Fm [.s,.s,.s,.s,.w (AL (α:=Int) (x1.take (gmin (lI x1) (400:Int)).toNat)),.s,.s,.s] [(2,pt 9)] [(9,bx [.d (DL (α:=Int) (x1.take (gmin (lI x1) (400:Int)).toNat)),ci 0])] (cA (⟨hg2,(Is.refl x1).len⟩ : ((sl (List.length x1) (LF x1) none (some (gmin (lI x1) (400:Int)))).2∧∀ j,j<List.length x1→(LF x1 j).length=1)) (cT (ALe.lst (sl_is x1 none (some (gmin (lI x1) (400:Int))) hg2):ALe (.v (.c (.d (.lst (sl (List.length x1) (LF x1) none (some (gmin (lI x1) (400:Int)))).1.1 (sl (List.length x1) (LF x1) none (some (gmin (lI x1) (400:Int)))).1.2)))) (AL (α:=Int) (x1.take (gmin (lI x1) (400:Int)).toNat))))) ?_
 refine AW.ret ?_
 obtain rfl:=Option.some.inj h
 exact Kn.re Fm [(100,9)] [(2,pt 100)] [(100,bx [.d (DL (α:=Int) (x1.take (gmin (lI x1) (400:Int)).toNat)),ci 0])] (by kernel_rfl) (by kernel_rfl) (by kernel_rfl) (by kernel_rfl) (Kn.dn Fm (by kernel_rfl))
theorem keep_Mod_spec {F:Nat} {x3:Int} {x4:Int} {r:Int} (h:keep_Mod F x3 x4=some r) :
  FSpec Tryz.prog 27 [vi x3,vi x4] [] (vi r) []:=by
 refine FI Tryz.func27 prog_mixed prog_lay fun C Fm=>?_
 unfold keep_Mod at h
 refine AW.SG0 Fm 1 [(0,vi x3),(1,vi x4)] [] ?_
 refine AW.seq (AW.SG0 Fm 2 [(0,vi x3),(1,vi x4),(6,vb (decide (x4<(1:Int))))] [] ?_)
 refine AW.cN h (fun hb5 h=>?_) (fun hb5 h=>?_)
 ·refine AW.SG0 Fm 1 [(4,vi 0)] [] ?_
  refine AW.ret ?_
  obtain rfl:=Option.some.inj h
  exact Kn.D Fm
 ·refine AW.skip ?_
  obtain ⟨hg6,h⟩:=gS h
  refine AW.SP Fm [.s,.s,.s,.s] [(0,vi (x3.tmod x4)),(1,vi x4)] [] (cT hg6) ?_
  refine AW.join (r:=r) (fun z:Int=>keep_Mod_k0 F z) (fun z=>[(0,vi z)]) (fun z=>[]) (fun v9 h=>?_) (fun b a=>?_)
  ·refine AW.SG0 Fm 2 [(4,vi v9)] [] ?_
   refine AW.ret ?_
   obtain rfl:=Option.some.inj h
   exact Kn.D Fm
  ·refine AW.SG0 Fm 2 [(0,vi (x3.tmod x4)),(1,vi x4),(11,vb (decide ((x3.tmod x4)<(0:Int))))] [] ?_
   refine AW.cN h (fun hb7 h=>?_) (fun hb7 h=>?_)
   ·obtain ⟨hg8,h⟩:=gS h
    refine AW.pN Fm [.s,.s,.s,.s] [(0,vi ((x3.tmod x4)+x4))] [] (cT (cT hg8)) ?_
    exact Kn.R Fm (a ((x3.tmod x4)+x4) h)
   ·exact AW.skip (Kn.R Fm (a (x3.tmod x4) h))
theorem keep_Tape_Next_spec {F:Nat} {a:Tape} {b:Int} {r:Tape×Int} (h:keep_Tape_Next F a b=some r) :
  FSpec Tryz.prog 15 [pt 0,vi b] [(0,bx (gC a))] (vi r.2) [(0,bx (gC r.1))]:=by
 refine FI Tryz.func15 prog_mixed prog_lay fun C Fm=>?_
 unfold keep_Tape_Next at h
 refine AW.SG0 Fm 1 [(0,pt 0),(1,vi b)] [(0,bx (gC a))] ?_
 refine AW.seq (AW.SG0 Fm 10 [(0,pt 0),(1,vi b),(14,vb (decide ((lI a.l_)≤a.at_)))] [(0,bx (gC a))] ?_)
 refine AW.cN h (fun e h=>?_) (fun e h=>?_)
 ·refine AW.SG0 Fm 1 [(4,vi 0)] [(0,bx (gC a))] ?_
  refine AW.ret ?_
  obtain rfl:=Option.some.inj h
  exact Kn.D Fm
 ·refine AW.skip ?_
  obtain ⟨i,h⟩:=gS h
  refine AW.SP Fm [.s,.s,.s,.s,.s,.s,.s,.s] [(0,pt 0),(1,vi b)] [(0,bx [.d (DL a.l_),ci (a.at_+1)])] (cT (cT i)) ?_
  refine AW.seq ?_
  obtain ⟨j,l,h⟩:=gS2 h
  obtain ⟨c,m,h⟩:=bS h
  refine AW.G Fm [.s,.s,.s,.s,.s,.s,.s,.s,.s,.s,.s,.s,.k (cE [] [] (vi c) [] []),.s] (fun K=>(_∧True)∧_∧K 12∧True) [(4,vi c)] [(0,bx [.d (DL a.l_),ci (a.at_+1)])] ⟨⟨j,⟨⟩⟩,l,KAt.CC (keep_Mod_spec m) Tryz.call27 [],⟨⟩⟩ ?_
  refine AW.ret ?_
  obtain rfl:=Option.some.inj h
  exact Kn.D Fm
theorem keep_Tape_Range_spec {F:Nat} {a:Tape} {b:Int} {d:Int} {r:Tape×Int} (h:keep_Tape_Range F a b d=some r) :
  FSpec Tryz.prog 45 [pt 0,vi b,vi d] [(0,bx (gC a))] (vi r.2) [(0,bx (gC r.1))]:=by
 refine FI Tryz.func45 prog_mixed prog_lay fun C Fm=>?_
 unfold keep_Tape_Range at h
 refine AW.SG0 Fm 1 [(0,pt 0),(1,vi b),(2,vi d)] [(0,bx (gC a))] ?_
 refine AW.seq ?_
 obtain ⟨e,i,h⟩:=gS2 h
 obtain ⟨c,l,h⟩:=bS h
 obtain ⟨j,h⟩:=gS h
 refine AW.G Fm [.s,.s,.s,.s,.s,.s,.k (cE [(0,0)] [] (vi c.2) [(0,bx (gC a))] [(0,bx (gC c.1))]),.s,.s] (fun K=>(_∧True)∧(_∧True)∧K 6∧(_∧True)∧True) [(6,vi (b+c.2))] [(0,bx (gC c.1))] ⟨⟨e,⟨⟩⟩,⟨i,⟨⟩⟩,KAt.CC (keep_Tape_Next_spec l) Tryz.call15 [(0,0)],⟨j,⟨⟩⟩,⟨⟩⟩ ?_
 refine AW.ret ?_
 obtain rfl:=Option.some.inj h
 exact Kn.D Fm
theorem keep_Tape_Rect_spec {F:Nat} {c:Tape} {d:Int} {r:Tape×Rect} (h:keep_Tape_Rect F c d=some r) :
  FSpec Tryz.prog 92 [pt 0,vi d] [(0,bx (gC c))] (gE r.2) [(0,bx (gC r.1))]:=by
 refine FI Tryz.func92 prog_mixed prog_lay fun C Fm=>?_
 unfold keep_Tape_Rect at h
 refine AW.SG0 Fm 1 [(0,pt 0),(1,vi d),(4,pt 4)] [(0,bx (gC c)),(4,bx [ci 0,ci 0,ci 0,ci 0])] ?_
 refine AW.seq ?_
 obtain ⟨b,q,h⟩:=bS h
 obtain ⟨a,t,h⟩:=bS h
 refine AW.G Fm [.s,.s,.k (cE [(0,0)] [] (vi b.2) [(0,bx (gC c))] [(0,bx (gC b.1))]),.s,.s,.k (cE [(0,0)] [] (vi a.2) [(0,bx (gC b.1))] [(0,bx (gC a.1))]),.s,.s] (fun K=>K 2∧K 5∧True) [(0,pt 0),(1,vi d),(4,pt 4),(5,vi b.2),(6,vi a.2)] [(0,bx (gC a.1)),(4,bx [ci 0,ci 0,ci 0,ci 0])] ⟨KAt.CC (keep_Tape_Next_spec q) Tryz.call15 [(0,0)],KAt.CC (keep_Tape_Next_spec t) Tryz.call15 [(0,0)],⟨⟩⟩ ?_
 refine AW.seq ?_
 obtain ⟨j,l,h⟩:=gS2 h
 obtain ⟨e,u,h⟩:=bS h
 obtain ⟨m,n,o,h⟩:=gS3 h
 obtain ⟨i,w,h⟩:=bS h
 obtain ⟨p,h⟩:=gS h
 refine AW.G Fm [.s,.s,.s,.s,.s,.s,.s,.s,.k (cE [(0,0)] [] (vi e.2) [(0,bx (gC a.1))] [(0,bx (gC e.1))]),.s,.s,.s,.s,.s,.s,.s,.k (cE [(0,0)] [] (vi i.2) [(0,bx (gC e.1))] [(0,bx (gC i.1))]),.s,.s,.s] (fun K=>(_∧True)∧(_∧True)∧K 8∧(_∧True)∧(_∧True)∧(_∧True)∧K 16∧(_∧True)∧True) [(4,pt 4)] [(0,bx (gC i.1)),(4,bx [ci b.2,ci a.2,ci ((b.2+1)+e.2),ci ((a.2+1)+i.2)])] ⟨⟨j,⟨⟩⟩,⟨l,⟨⟩⟩,KAt.CC (keep_Tape_Next_spec u) Tryz.call15 [(0,0)],⟨m,⟨⟩⟩,⟨n,⟨⟩⟩,⟨o,⟨⟩⟩,KAt.CC (keep_Tape_Next_spec w) Tryz.call15 [(0,0)],⟨p,⟨⟩⟩,⟨⟩⟩ ?_
 refine AW.ret ?_
 obtain rfl:=Option.some.inj h
 exact Kn.D Fm
theorem ref04_proper_spec {F:Nat} {e:Rect} {r:Bool} (h:ref04_proper F e=some r) :
  FSpec Tryz.prog 181 [gE e] [] (vb r) []:=by
 refine FI Tryz.func181 prog_mixed prog_lay fun C Fm=>?_
 unfold ref04_proper at h
 refine AW.SG0 Fm 2 [(1,pt 1)] [(1,bx (gC e))] ?_
 refine AW.join (r:=r) (fun z:Bool=>ref04_proper_k0 F z) (fun z=>[(2,vb z)]) (fun z=>[]) (fun l h=>?_) (fun k b=>?_)
 ·refine AW.ret ?_
  obtain rfl:=Option.some.inj h
  exact Kn.D Fm
 ·rcases br_or h with ⟨a,h⟩|⟨a,h⟩
  ·rcases br_or h with ⟨c,h⟩|⟨c,h⟩
   ·rcases br_or h with ⟨d,h⟩|⟨d,h⟩
    ·rcases br_or h with ⟨i,h⟩|⟨i,h⟩
     ·rcases br_or h with ⟨j,h⟩|⟨j,h⟩
      ·refine AW.pN Fm [.s,.s,.s,.w (vb true),.s,.s,.s,.s,.s,.s,.w (vb true),.s,.s,.s,.s,.w (vb true),.s,.s,.s,.s,.w (vb true),.s,.s,.s,.s,.s,.s,.w (vb true),.s,.s,.s,.s,.s] [(2,vb (decide (e.high_≤(16384:Int))))] [] (cA (ALe.bool a) (cA (ALe.bool c) (cA (ALe.bool d) (cA (ALe.bool i) (cT (ALe.bool j)))))) ?_
       exact Kn.R Fm (b (decide (e.high_≤(16384:Int))) h)
      ·refine AW.pN Fm [.s,.s,.s,.w (vb true),.s,.s,.s,.s,.s,.s,.w (vb true),.s,.s,.s,.s,.w (vb true),.s,.s,.s,.s,.w (vb true),.s,.s,.s,.s,.s,.s,.w (vb false),.s,.s,.s,.s,.s] [(2,vb false)] [] (cA (ALe.bool a) (cA (ALe.bool c) (cA (ALe.bool d) (cA (ALe.bool i) (cT (ALe.bool j)))))) ?_
       exact Kn.R Fm (b false h)
     ·refine AW.pN Fm [.s,.s,.s,.w (vb true),.s,.s,.s,.s,.s,.s,.w (vb true),.s,.s,.s,.s,.w (vb true),.s,.s,.s,.s,.w (vb false),.s,.s,.s,.s,.s,.s,.s,.s,.s,.s,.s,.s] [(2,vb false)] [] (cA (ALe.bool a) (cA (ALe.bool c) (cA (ALe.bool d) (cT (ALe.bool i))))) ?_
      exact Kn.R Fm (b false h)
    ·refine AW.pN Fm [.s,.s,.s,.w (vb true),.s,.s,.s,.s,.s,.s,.w (vb true),.s,.s,.s,.s,.w (vb false),.s,.s,.s,.s,.s,.s,.s,.s,.s,.s,.s,.s,.s,.s,.s,.s,.s] [(2,vb false)] [] (cA (ALe.bool a) (cA (ALe.bool c) (cT (ALe.bool d)))) ?_
     exact Kn.R Fm (b false h)
   ·refine AW.pN Fm [.s,.s,.s,.w (vb true),.s,.s,.s,.s,.s,.s,.w (vb false),.s,.s,.s,.s,.s,.s,.s,.s,.s,.s,.s,.s,.s,.s,.s,.s,.s,.s,.s,.s,.s,.s] [(2,vb false)] [] (cA (ALe.bool a) (cT (ALe.bool c))) ?_
    exact Kn.R Fm (b false h)
  ·refine AW.pN Fm [.s,.s,.s,.w (vb false),.s,.s,.s,.s,.s,.s,.s,.s,.s,.s,.s,.s,.s,.s,.s,.s,.s,.s,.s,.s,.s,.s,.s,.s,.s,.s,.s,.s,.s] [(2,vb false)] [] (cT (ALe.bool a)) ?_
   exact Kn.R Fm (b false h)
theorem ref01_Put_spec {F:Nat} {a:(List Int)} {e:Int} {r:(List Int)} (h:ref01_Put F a e=some r) :
  FSpec Tryz.prog 127 [AL a,vi e] [] (AL (α:=Int) r) []:=by
 refine FI Tryz.func127 prog_mixed prog_lay fun C Fm=>?_
 unfold ref01_Put at h
 refine AW.SG0 Fm 1 [(0,AL a),(1,vi e)] [] ?_
 refine AW.SG0 Fm 1 [(0,AL a),(1,vi e),(5,vi 0)] [] ?_
 refine AW.join (r:=r) (fun z:Int=>ref01_Put_k2 F a e z) (fun z=>[(0,AL a),(1,vi e),(5,vi z)]) (fun z=>[]) (fun b h=>?_) (fun M u=>?_)
 ·refine AW.seq (AW.join (r:=r) (fun z:Bool=>ref01_Put_k3 F a e b z) (fun z=>[(0,AL a),(1,vi e),(5,vi b),(31,vb z)]) (fun z=>[]) (fun T h=>?_) (fun N n=>?_))
  ·refine AW.cN h (fun A h=>?_) (fun A h=>?_)
   ·refine AW.SG0 Fm 2 [(4,AL a)] [] ?_
    refine AW.ret ?_
    obtain rfl:=Option.some.inj h
    exact Kn.D Fm
   ·refine AW.skip ?_
    obtain ⟨p,G,H,q,h⟩:=gS4 h
    obtain ⟨I,h⟩:=gS h
    refine AW.SV Fm [.m,.s,.s,.w (AL (α:=Int) (a.take b.toNat)),.s,.s,.w (AL (α:=Int) ([e]:List Int)),.s,.s,.s,.w (AL (α:=Int) (a.drop b.toNat)),.s,.s] [(4,ow 44)] [(44,AO (α:=Int) (((([]:List Int)++(a.take b.toNat))++([e]:List Int))++(a.drop b.toNat)))] (cA (⟨p,(Is.refl a).len⟩ : ((sl (List.length a) (LF a) none (some b)).2∧∀ j,j<List.length a→(LF a j).length=1)) (cA (ALe.lst (sl_is a none (some b) p):ALe (.v (.c (.d (.lst (sl (List.length a) (LF a) none (some b)).1.1 (sl (List.length a) (LF a) none (some b)).1.2)))) (AL (α:=Int) (a.take b.toNat))) (cA (cA G (cT (Is.refl (a.take b.toNat):Is (List.length (α:=Int) (a.take b.toNat)) (LF (α:=Int) (a.take b.toNat)) (a.take b.toNat)).len)) (cA (ALe.lst (.lit ([e]:List Int) (by kernel_rfl)):ALe (.v (.c (.d (.lst 1 (litF 1 [.int .i64 e]))))) (AL (α:=Int) ([e]:List Int))) (cA (cA H (cT (Is.refl ([e]:List Int):Is (List.length (α:=Int) ([e]:List Int)) (LF (α:=Int) ([e]:List Int)) ([e]:List Int)).len)) (cA (⟨q,(Is.refl a).len⟩ : ((sl (List.length a) (LF a) (some b) none).2∧∀ j,j<List.length a→(LF a j).length=1)) (cA (ALe.lst (sl_is a (some b) none q):ALe (.v (.c (.d (.lst (sl (List.length a) (LF a) (some b) none).1.1 (sl (List.length a) (LF a) (some b) none).1.2)))) (AL (α:=Int) (a.drop b.toNat))) (cT (cA I (cT (Is.refl (a.drop b.toNat):Is (List.length (α:=Int) (a.drop b.toNat)) (LF (α:=Int) (a.drop b.toNat)) (a.drop b.toNat)).len)))))))))) [(44,.arr 1 ((((0)+(List.length (α:=Int) (a.take b.toNat)))+(List.length (α:=Int) ([e]:List Int)))+(List.length (α:=Int) (a.drop b.toNat))) (appF (((0)+(List.length (α:=Int) (a.take b.toNat)))+(List.length (α:=Int) ([e]:List Int))) (appF ((0)+(List.length (α:=Int) (a.take b.toNat))) (appF (0) (litF 1 []) (LF (α:=Int) (a.take b.toNat))) (LF (α:=Int) ([e]:List Int))) (LF (α:=Int) (a.drop b.toNat))))] ⟨OLe.is (Is.app (Is.app (Is.app (Is.lit ([]:List Int) (by kernel_rfl)) (Is.refl (a.take b.toNat))) (Is.refl ([e]:List Int))) (Is.refl (a.drop b.toNat))),⟨⟩⟩ ?_
    refine AW.ret ?_
    obtain rfl:=Option.some.inj h
    refine Kn.r Fm [(4,ow 44)] [(44,AO (α:=Int) (((([]:List Int)++(a.take b.toNat))++([e]:List Int))++(a.drop b.toNat)))] (by kernel_rfl) ?_
    refine Kn.frz [(4,AL (α:=Int) (((([]:List Int)++(a.take b.toNat))++([e]:List Int))++(a.drop b.toNat)))] [] (by kernel_rfl) (by kernel_rfl) (by kernel_rfl) ?_
    exact Kn.D Fm
  ·rcases br_or h with ⟨k,h⟩|⟨k,h⟩
   ·obtain ⟨E,h⟩:=gS h
    refine AW.pN Fm [.s,.s,.s,.s,.w (vb true),.s,.s,.s,.s,.s,.s,.s] [(0,AL a),(1,vi e),(5,vi b),(31,vb ((gl a b.toNat)==e))] [] (cA (ALe.bool k) (cT E)) ?_
    exact Kn.R Fm (n ((gl a b.toNat)==e) h)
   ·refine AW.pN Fm [.s,.s,.s,.s,.w (vb false),.s,.s,.s,.s,.s,.s,.s] [(0,AL a),(1,vi e),(5,vi b),(31,vb false)] [] (cT (ALe.bool k)) ?_
    exact Kn.R Fm (n false h)
 ·refine AW.block (AW.loopF (E' := fun z=>[(0,AL a),(1,vi e),(5,vi z)]) (S' := fun z=>[]) (fun t i O y h=>?_) h)
  refine AW.seq (AW.join (r:=r) (fun z:Bool=>ref01_Put_k1 F a e i t z) (fun z=>[(0,AL a),(1,vi e),(5,vi i),(17,vb z)]) (fun z=>[]) (fun U h=>?_) (fun P o=>?_))
  ·refine AW.cN h (fun B h=>?_) (fun B h=>?_)
   ·refine AW.skip (AW.block ?_)
    obtain ⟨L,h⟩:=gS h
    refine AW.pN Fm [.s,.s,.s] [(0,AL a),(1,vi e),(5,vi (i+1))] [] (cT (cT L)) ?_
    exact Kn.R Fm (y (i+1) h)
   ·exact AW.exit (Kn.R Fm (u i h))
  ·rcases br_or h with ⟨l,h⟩|⟨l,h⟩
   ·obtain ⟨K,h⟩:=gS h
    refine AW.pN Fm [.s,.s,.s,.s,.w (vb true),.s,.s,.s,.s,.s,.s,.s] [(0,AL a),(1,vi e),(5,vi i),(11,AL a),(12,vi i),(13,.v (.c (.elm [.int .i64 (gl a i.toNat)]))),(14,vi (gl a i.toNat)),(15,vi e),(16,vb (decide ((gl a i.toNat)<e))),(17,vb (decide ((gl a i.toNat)<e)))] [] (cA (ALe.bool l) (cT K)) ?_
    exact Kn.R Fm (o (decide ((gl a i.toNat)<e)) h)
   ·refine AW.pN Fm [.s,.s,.s,.s,.w (vb false),.s,.s,.s,.s,.s,.s,.s] [(0,AL a),(1,vi e),(5,vi i),(17,vb false)] [] (cT (ALe.bool l)) ?_
    exact Kn.R Fm (o false h)
theorem ref04_inside_spec {F:Nat} {a:(List Rect)} {e:Int} {d:Int} {r:Bool} (h:ref04_inside F a e d=some r) :
  FSpec Tryz.prog 110 [AL a,vi e,vi d] [] (vb r) []:=by
 refine FI Tryz.func110 prog_mixed prog_lay fun C Fm=>?_
 unfold ref04_inside at h
 refine AW.SG0 Fm 1 [(0,AL a),(1,vi e),(2,vi d)] [] ?_
 refine AW.join (r:=r) (fun z:Unit=>ref04_inside_k2 F) (fun z=>[]) (fun z=>[]) (fun z h=>?_) (fun B o=>?_)
 ·refine AW.SG0 Fm 1 [(6,vb false)] [] ?_
  refine AW.ret ?_
  obtain rfl:=Option.some.inj h
  exact Kn.D Fm
 ·refine AW.SG0 Fm 3 [(1,vi e),(2,vi d),(9,AL a),(10,vi (lI a)),(11,vi 0)] [] ?_
  refine AW.block (AW.loopF (E' := fun z=>[(1,vi e),(2,vi d),(9,AL a),(10,vi (lI a)),(11,vi z)]) (S' := fun z=>[]) (fun m b y n h=>?_) h)
  refine AW.SG0 Fm 1 [(1,vi e),(2,vi d),(9,AL a),(10,vi (lI a)),(11,vi b),(12,vb (decide (b<(lI a))))] [] ?_
  refine AW.seq (AW.cN h (fun p h=>?_) (fun p h=>?_))
  ·refine AW.skip (AW.seq (AW.block ?_))
   obtain ⟨t,h⟩:=gS h
   refine AW.SP Fm [.s,.s,.s,.s] [(1,vi e),(2,vi d),(8,pt 8),(9,AL a),(10,vi (lI a)),(11,vi b)] [(8,bx [ci ((gl a b.toNat).left_),ci ((gl a b.toNat).low_),ci ((gl a b.toNat).right_),ci ((gl a b.toNat).high_)])] (cT t) ?_
   refine AW.join (r:=r) (fun z:Bool=>ref04_inside_k1 F b m z) (fun z=>[(1,vi e),(2,vi d),(9,AL a),(10,vi (lI a)),(11,vi b),(36,vb z)]) (fun z=>[]) (fun E h=>?_) (fun A j=>?_)
   ·refine AW.cN h (fun q h=>?_) (fun q h=>?_)
    ·refine AW.SG0 Fm 1 [(6,vb true)] [] ?_
     refine AW.ret ?_
     obtain rfl:=Option.some.inj h
     exact Kn.D Fm
    ·refine AW.skip ?_
     obtain ⟨u,h⟩:=gS h
     refine AW.pN Fm [.s,.s] [(1,vi e),(2,vi d),(9,AL a),(10,vi (lI a)),(11,vi (b+1))] [] (cT (cT u)) ?_
     exact Kn.R Fm (n (b+1) h)
   ·rcases br_or h with ⟨i,h⟩|⟨i,h⟩
    ·rcases br_or h with ⟨k,h⟩|⟨k,h⟩
     ·rcases br_or h with ⟨l,h⟩|⟨l,h⟩
      ·refine AW.pN Fm [.s,.s,.s,.s,.w (vb true),.s,.s,.s,.s,.s,.w (vb true),.s,.s,.s,.s,.s,.w (vb true),.s,.s,.s,.s,.s] [(1,vi e),(2,vi d),(9,AL a),(10,vi (lI a)),(11,vi b),(20,vi e),(21,.v (.c (.ptr 8 2))),(22,vi (gl a b.toNat).right_),(23,vb (decide (e<((gl a b.toNat).right_)))),(26,.v (.c (.ptr 8 1))),(27,vi (gl a b.toNat).low_),(28,vi d),(29,vb (decide (((gl a b.toNat).low_)≤d))),(32,vi d),(33,.v (.c (.ptr 8 3))),(34,vi (gl a b.toNat).high_),(35,vb (decide (d<((gl a b.toNat).high_)))),(36,vb (decide (d<((gl a b.toNat).high_))))] [(8,bx [ci ((gl a b.toNat).left_),ci ((gl a b.toNat).low_),ci ((gl a b.toNat).right_),ci ((gl a b.toNat).high_)])] (cA (ALe.bool i) (cA (ALe.bool k) (cT (ALe.bool l)))) ?_
       exact Kn.R Fm (j (decide (d<((gl a b.toNat).high_))) h)
      ·refine AW.pN Fm [.s,.s,.s,.s,.w (vb true),.s,.s,.s,.s,.s,.w (vb true),.s,.s,.s,.s,.s,.w (vb false),.s,.s,.s,.s,.s] [(1,vi e),(2,vi d),(9,AL a),(10,vi (lI a)),(11,vi b),(20,vi e),(21,.v (.c (.ptr 8 2))),(22,vi (gl a b.toNat).right_),(23,vb (decide (e<((gl a b.toNat).right_)))),(26,.v (.c (.ptr 8 1))),(27,vi (gl a b.toNat).low_),(28,vi d),(29,vb (decide (((gl a b.toNat).low_)≤d))),(36,vb false)] [(8,bx [ci ((gl a b.toNat).left_),ci ((gl a b.toNat).low_),ci ((gl a b.toNat).right_),ci ((gl a b.toNat).high_)])] (cA (ALe.bool i) (cA (ALe.bool k) (cT (ALe.bool l)))) ?_
       exact Kn.R Fm (j false h)
     ·refine AW.pN Fm [.s,.s,.s,.s,.w (vb true),.s,.s,.s,.s,.s,.w (vb false),.s,.s,.s,.s,.s,.s,.s,.s,.s,.s,.s] [(1,vi e),(2,vi d),(9,AL a),(10,vi (lI a)),(11,vi b),(20,vi e),(21,.v (.c (.ptr 8 2))),(22,vi (gl a b.toNat).right_),(23,vb (decide (e<((gl a b.toNat).right_)))),(36,vb false)] [(8,bx [ci ((gl a b.toNat).left_),ci ((gl a b.toNat).low_),ci ((gl a b.toNat).right_),ci ((gl a b.toNat).high_)])] (cA (ALe.bool i) (cT (ALe.bool k))) ?_
      exact Kn.R Fm (j false h)
    ·refine AW.pN Fm [.s,.s,.s,.s,.w (vb false),.s,.s,.s,.s,.s,.s,.s,.s,.s,.s,.s,.s,.s,.s,.s,.s,.s] [(1,vi e),(2,vi d),(9,AL a),(10,vi (lI a)),(11,vi b),(36,vb false)] [] (cT (ALe.bool i)) ?_
     exact Kn.R Fm (j false h)
  ·exact AW.exit (Kn.R Fm (o () h))
theorem ref04_keep_spec {F:Nat} {c:Bool} {a:Bool} {b:Int} {r:Bool} (h:ref04_keep F c a b=some r) :
  FSpec Tryz.prog 202 [vb c,vb a,vi b] [] (vb r) []:=by
 refine FI Tryz.func202 prog_mixed prog_lay fun C Fm=>?_
 unfold ref04_keep at h
 refine AW.SG0 Fm 1 [(0,vb c),(1,vb a),(2,vi b)] [] ?_
 refine AW.seq (AW.SG0 Fm 1 [(0,vb c),(1,vb a),(7,vi b)] [] ?_)
 refine AW.block (AW.SG0 Fm 2 [(0,vb c),(1,vb a),(7,vi b),(8,vb (b==(1:Int)))] [] ?_)
 refine AW.cN h (fun m h=>?_) (fun m h=>?_)
 ·refine AW.join (r:=r) (fun z:Bool=>ref04_keep_k0 F z) (fun z=>[(6,vb z)]) (fun z=>[]) (fun t h=>?_) (fun o j=>?_)
  ·refine AW.ret ?_
   obtain rfl:=Option.some.inj h
   exact Kn.D Fm
  ·rcases br_or h with ⟨d,h⟩|⟨d,h⟩
   ·refine AW.pN Fm [.s,.w (vb true),.s,.s,.s] [(6,vb true)] [] (cT (ALe.bool d)) ?_
    exact Kn.R Fm (j true h)
   ·refine AW.pN Fm [.s,.w (vb false),.s,.s,.s] [(6,vb a)] [] (cT (ALe.bool d)) ?_
    exact Kn.R Fm (j a h)
 ·refine AW.SG0 Fm 2 [(0,vb c),(1,vb a),(14,vb (b==(2:Int)))] [] ?_
  refine AW.cN h (fun n h=>?_) (fun n h=>?_)
  ·refine AW.join (r:=r) (fun z:Bool=>ref04_keep_k1 F z) (fun z=>[(6,vb z)]) (fun z=>[]) (fun u h=>?_) (fun p k=>?_)
   ·refine AW.ret ?_
    obtain rfl:=Option.some.inj h
    exact Kn.D Fm
   ·rcases br_or h with ⟨e,h⟩|⟨e,h⟩
    ·refine AW.pN Fm [.s,.w (vb true),.s,.s,.s] [(6,vb a)] [] (cT (ALe.bool e)) ?_
     exact Kn.R Fm (k a h)
    ·refine AW.pN Fm [.s,.w (vb false),.s,.s,.s] [(6,vb false)] [] (cT (ALe.bool e)) ?_
     exact Kn.R Fm (k false h)
  ·refine AW.skip (AW.join (r:=r) (fun z:Bool=>ref04_keep_k2 F z) (fun z=>[(6,vb z)]) (fun z=>[]) (fun y h=>?_) (fun q l=>?_))
   ·refine AW.ret ?_
    obtain rfl:=Option.some.inj h
    exact Kn.D Fm
   ·rcases br_or h with ⟨i,h⟩|⟨i,h⟩
    ·refine AW.pN Fm [.s,.w (vb true),.s,.s,.s,.s] [(6,vb (!a))] [] (cT (ALe.bool i)) ?_
     exact Kn.R Fm (l (!a) h)
    ·refine AW.pN Fm [.s,.w (vb false),.s,.s,.s,.s] [(6,vb false)] [] (cT (ALe.bool i)) ?_
     exact Kn.R Fm (l false h)
theorem ref04_same_spec {F:Nat} {a:(List Rect)} {d:(List Rect)} {r:Bool} (h:ref04_same F a d=some r) :
  FSpec Tryz.prog 203 [AL a,AL d] [] (vb r) []:=by
 refine FI Tryz.func203 prog_mixed prog_lay fun C Fm=>?_
 unfold ref04_same at h
 refine AW.SG0 Fm 1 [(0,AL a),(1,AL d)] [] ?_
 refine AW.seq (AW.SG0 Fm 5 [(0,AL a),(1,AL d),(10,vb ((lI a) != (lI d)))] [] ?_)
 refine AW.cN h (fun o h=>?_) (fun o h=>?_)
 ·refine AW.SG0 Fm 1 [(4,vb false)] [] ?_
  refine AW.ret ?_
  obtain rfl:=Option.some.inj h
  exact Kn.D Fm
 ·refine AW.skip (AW.join (r:=r) (fun z:Unit=>ref04_same_k2 F) (fun z=>[]) (fun z=>[]) (fun z h=>?_) (fun E n=>?_))
  ·refine AW.SG0 Fm 1 [(4,vb true)] [] ?_
   refine AW.ret ?_
   obtain rfl:=Option.some.inj h
   exact Kn.D Fm
  ·refine AW.SG0 Fm 3 [(0,AL a),(1,AL d),(12,vi (lI a)),(13,vi 0)] [] ?_
   refine AW.block (AW.loopF (E' := fun z=>[(0,AL a),(1,AL d),(12,vi (lI a)),(13,vi z)]) (S' := fun z=>[]) (fun l b A m h=>?_) h)
   refine AW.SG0 Fm 1 [(0,AL a),(1,AL d),(12,vi (lI a)),(13,vi b),(14,vb (decide (b<(lI a))))] [] ?_
   refine AW.seq (AW.cN h (fun p h=>?_) (fun p h=>?_))
   ·refine AW.skip (AW.seq (AW.block (AW.SG0 Fm 2 [(0,AL a),(1,AL d),(5,vi b),(12,vi (lI a)),(13,vi b)] [] ?_)))
    refine AW.join (r:=r) (fun z:Bool=>ref04_same_k1 F b l z) (fun z=>[(0,AL a),(1,AL d),(12,vi (lI a)),(13,vi b),(39,vb z)]) (fun z=>[]) (fun G h=>?_) (fun B i=>?_)
    ·refine AW.cN h (fun q h=>?_) (fun q h=>?_)
     ·refine AW.SG0 Fm 1 [(4,vb false)] [] ?_
      refine AW.ret ?_
      obtain rfl:=Option.some.inj h
      exact Kn.D Fm
     ·refine AW.skip ?_
      obtain ⟨y,h⟩:=gS h
      refine AW.pN Fm [.s,.s] [(0,AL a),(1,AL d),(12,vi (lI a)),(13,vi (b+1))] [] (cT (cT y)) ?_
      exact Kn.R Fm (m (b+1) h)
    ·obtain ⟨j,k,h⟩:=gS2 h
     rcases br_or h with ⟨e,h⟩|⟨e,h⟩
     ·refine AW.pN Fm [.s,.s,.s,.s,.s,.s,.s,.s,.s,.s,.s,.w (vb true),.s,.s,.s,.s,.s,.s,.s,.s,.s,.s,.s,.s] [(0,AL a),(1,AL d),(12,vi (lI a)),(13,vi b),(39,vb true)] [] (cA j (cA k (cT (ALe.bool e)))) ?_
      exact Kn.R Fm (i true h)
     ·obtain ⟨t,u,h⟩:=gS2 h
      refine AW.pN Fm [.s,.s,.s,.s,.s,.s,.s,.s,.s,.s,.s,.w (vb false),.s,.s,.s,.s,.s,.s,.s,.s,.s,.s,.s,.s] [(0,AL a),(1,AL d),(12,vi (lI a)),(13,vi b),(28,AL a),(29,vi b),(30,.v (.c (.elm [.int .i64 (gl a b.toNat).left_,.int .i64 (gl a b.toNat).low_,.int .i64 (gl a b.toNat).right_,.int .i64 (gl a b.toNat).high_]))),(31,.v (.c (.elm [.int .i64 (gl a b.toNat).right_,.int .i64 (gl a b.toNat).high_]))),(32,vi (gl a b.toNat).right_),(33,AL d),(34,vi b),(35,.v (.c (.elm [.int .i64 (gl d b.toNat).left_,.int .i64 (gl d b.toNat).low_,.int .i64 (gl d b.toNat).right_,.int .i64 (gl d b.toNat).high_]))),(36,.v (.c (.elm [.int .i64 (gl d b.toNat).right_,.int .i64 (gl d b.toNat).high_]))),(37,vi (gl d b.toNat).right_),(38,vb (((gl a b.toNat).right_) != ((gl d b.toNat).right_))),(39,vb (((gl a b.toNat).right_) != ((gl d b.toNat).right_)))] [] (cA j (cA k (cA (ALe.bool e) (cA t (cT u))))) ?_
      exact Kn.R Fm (i (((gl a b.toNat).right_) != ((gl d b.toNat).right_)) h)
   ·exact AW.exit (Kn.R Fm (n () h))
theorem ref04_Combine_spec {F:Nat} {a:(List Rect)} {b:(List Rect)} {p:Int} {r:(List Rect)} (h:ref04_Combine F a b p=some r) :
  FSpec Tryz.prog 112 [AL a,AL b,vi p] [] (AL (α:=Rect) r) []:=by
 refine FI Tryz.func112 prog_mixed prog_lay fun C Fm=>?_
 unfold ref04_Combine at h
 refine AW.SG0 Fm 1 [(0,AL a),(1,AL b),(2,vi p)] [] ?_
 refine AW.SW Fm [.m,.m] (fun K=>True) [(0,AL a),(1,AL b),(2,vi p),(7,ow 7),(8,ow 8)] [(7,AO (α:=Int) ([]:List Int)),(8,AO (α:=Int) ([]:List Int))] True.intro [(7,.arr 1 (0) (fun _=>[])),(8,.arr 1 (0) (fun _=>[]))] ⟨OLe.is ((Is.nil (α:=Int))),OLe.is ((Is.nil (α:=Int))),⟨⟩⟩ ?_
 refine AW.join (r:=r) (fun z:(List Int)×(List Int)=>ref04_Combine_k3 F a b p z.1 z.2) (fun z=>[(0,AL a),(1,AL b),(2,vi p),(7,AL z.1),(8,AL z.2)]) (fun z=>[]) (fun z h=>?_) (fun c2 B0=>?_)
 ·obtain ⟨l,e⟩:=z
  refine AW.SW Fm [.m,.m] (fun K=>True) [(0,AL a),(1,AL b),(2,vi p),(7,AL l),(8,AL e),(13,ow 13),(14,ow 14)] [(13,AO (α:=Rect) ([]:List Rect)),(14,AO (α:=Rect) ([]:List Rect))] True.intro [(13,.arr 4 (0) (fun _=>[])),(14,.arr 4 (0) (fun _=>[]))] ⟨OLe.is ((Is.nil (α:=Rect))),OLe.is ((Is.nil (α:=Rect))),⟨⟩⟩ ?_
  refine AW.join (r:=r) (fun z:(List Rect)×(List Rect)=>ref04_Combine_k14 F z.1 z.2) (fun z=>[(13,ow 13),(14,ow 14)]) (fun z=>[(13,AO z.1),(14,AO z.2)]) (fun z h=>?_) (fun q2 M0=>?_)
  ·obtain ⟨L,I⟩:=z
   obtain ⟨K1,h⟩:=gS h
   refine AW.SV Fm [.s,.s,.s,.s] [(6,ow 176)] [(176,AO (α:=Rect) (L++I))] (cT (cA K1 (cT (Is.refl I:Is (List.length (α:=Rect) I) (LF (α:=Rect) I) I).len))) [(176,.arr 4 ((List.length (α:=Rect) L)+(List.length (α:=Rect) I)) (appF (List.length (α:=Rect) L) (LF (α:=Rect) L) (LF (α:=Rect) I)))] ⟨OLe.is (Is.app (Is.refl L) (Is.refl I)),⟨⟩⟩ ?_
   refine AW.ret ?_
   obtain rfl:=Option.some.inj h
   refine Kn.r Fm [(6,ow 176)] [(176,AO (α:=Rect) (L++I))] (by kernel_rfl) ?_
   refine Kn.frz [(6,AL (α:=Rect) (L++I))] [] (by kernel_rfl) (by kernel_rfl) (by kernel_rfl) ?_
   exact Kn.D Fm
  ·refine AW.SG0 Fm 1 [(0,AL a),(1,AL b),(2,vi p),(7,AL l),(8,AL e),(13,ow 13),(14,ow 14),(15,vi 0)] [(13,AO (α:=Rect) ([]:List Rect)),(14,AO (α:=Rect) ([]:List Rect))] ?_
   refine AW.block (Kn.r Fm [(0,AL a),(1,AL b),(2,vi p),(7,AL l),(8,AL e),(13,ow 13),(14,ow 14),(15,vi 0)] [(13,AO ([]:List Rect)),(14,AO ([]:List Rect))] (by kernel_rfl) ?_)
   refine AW.loopF (E' := fun z=>[(0,AL a),(1,AL b),(2,vi p),(7,AL l),(8,AL e),(13,ow 13),(14,ow 14),(15,vi z.1)]) (S' := fun z=>[(13,AO z.2.1),(14,AO z.2.2)]) (fun M z d2 D0 h=>?_) h
   obtain ⟨i,u,q⟩:=z
   refine AW.seq ?_
   obtain ⟨b1,h⟩:=gS h
   refine AW.SP Fm [.s,.s,.s,.s,.s] [(0,AL a),(1,AL b),(2,vi p),(7,AL l),(8,AL e),(13,ow 13),(14,ow 14),(15,vi i),(54,vb (decide ((i+1)<(lI e))))] [(13,AO u),(14,AO q)] (cT (cT b1)) ?_
   refine AW.cN h (fun P0 h=>?_) (fun P0 h=>?_)
   ·refine AW.skip (AW.join (r:=r) (fun z:(List Rect)×(List Rect)=>ref04_Combine_k13 F i M z.1 z.2) (fun z=>[(0,AL a),(1,AL b),(2,vi p),(7,AL l),(8,AL e),(13,ow 13),(14,ow 14),(15,vi i)]) (fun z=>[(13,AO z.1),(14,AO z.2)]) (fun z h=>?_) (fun p2 j0=>?_))
    ·obtain ⟨q0,s0⟩:=z
     obtain ⟨I1,h⟩:=gS h
     refine AW.pN Fm [.s,.s,.s] [(0,AL a),(1,AL b),(2,vi p),(7,AL l),(8,AL e),(13,ow 13),(14,ow 14),(15,vi (i+1))] [(13,AO q0),(14,AO s0)] (cT (cT I1)) ?_
     exact Kn.R Fm (D0 ((i+1),q0,s0) h)
    ·refine AW.block (AW.SW Fm [.m] (fun K=>True) [(0,AL a),(1,AL b),(2,vi p),(7,AL l),(8,AL e),(13,ow 13),(14,ow 14),(15,vi i),(16,ow 16)] [(13,AO u),(14,AO q),(16,AO (α:=Rect) ([]:List Rect))] True.intro [(16,.arr 4 (0) (fun _=>[]))] ⟨OLe.is ((Is.nil (α:=Rect))),⟨⟩⟩ ?_)
     refine AW.join (r:=r) (fun z:(List Rect)=>ref04_Combine_k8 F e i u q M z) (fun z=>[(0,AL a),(1,AL b),(2,vi p),(7,AL l),(8,AL e),(13,ow 13),(14,ow 14),(15,vi i),(16,ow 16)]) (fun z=>[(13,AO u),(14,AO q),(16,AO z)]) (fun E h=>?_) (fun k2 H0=>?_)
     ·refine AW.join (r:=r) (fun z:Unit=>ref04_Combine_k12 F i u q E M) (fun z=>[(0,AL a),(1,AL b),(2,vi p),(7,AL l),(8,AL e),(13,ow 13),(14,ow 14),(15,vi i),(16,ow 16)]) (fun z=>[(13,AO u),(14,AO q),(16,AO E)]) (fun z h=>?_) (fun o2 L0=>?_)
      ·obtain ⟨H1,h⟩:=gS h
       refine AW.SV Fm [.s,.s,.s,.s] [(0,AL a),(1,AL b),(2,vi p),(7,AL l),(8,AL e),(13,ow 172),(15,vi i),(16,ow 16)] [(16,AO E),(172,AO (α:=Rect) (u++q))] (cT (cA H1 (cT (Is.refl q:Is (List.length (α:=Rect) q) (LF (α:=Rect) q) q).len))) [(172,.arr 4 ((List.length (α:=Rect) u)+(List.length (α:=Rect) q)) (appF (List.length (α:=Rect) u) (LF (α:=Rect) u) (LF (α:=Rect) q)))] ⟨OLe.is (Is.app (Is.refl u) (Is.refl q)),⟨⟩⟩ ?_
       refine AW.G0 Fm 2 [(0,AL a),(1,AL b),(2,vi p),(7,AL l),(8,AL e),(13,ow 172),(14,ow 16),(15,vi i)] [(16,AO E),(172,AO (α:=Rect) (u++q))] ?_
       exact Kn.RE Fm [(13,172),(14,16)] (j0 ((u++q),E) h)
      ·refine AW.join (r:=r) (fun z:Bool=>ref04_Combine_k9 F e i u q E M z) (fun z=>[(0,AL a),(1,AL b),(2,vi p),(7,AL l),(8,AL e),(13,ow 13),(14,ow 14),(15,vi i),(16,ow 16),(154,vb z)]) (fun z=>[(13,AO u),(14,AO q),(16,AO E)]) (fun w2 h=>?_) (fun l2 X=>?_)
       ·refine AW.cN h (fun V0 h=>?_) (fun V0 h=>?_)
        ·refine AW.join (r:=r) (fun z:(List Rect)=>ref04_Combine_k11 F i u M z) (fun z=>[(0,AL a),(1,AL b),(2,vi p),(7,AL l),(8,AL e),(13,ow 13),(14,ow 14),(15,vi i)]) (fun z=>[(13,AO u),(14,AO z)]) (fun U1 h=>?_) (fun n2 K0=>?_)
         ·exact AW.exit (Kn.R Fm (j0 (u,U1) h))
         ·refine AW.SG0 Fm 3 [(0,AL a),(1,AL b),(2,vi p),(7,AL l),(8,AL e),(13,ow 13),(14,ow 14),(15,vi i),(156,vi (lI q)),(157,vi 0)] [(13,AO u),(14,AO q)] ?_
          refine AW.block (AW.loopF (E' := fun z=>[(0,AL a),(1,AL b),(2,vi p),(7,AL l),(8,AL e),(13,ow 13),(14,ow 14),(15,vi i),(156,vi (lI q)),(157,vi z.1)]) (S' := fun z=>[(13,AO u),(14,AO z.2)]) (fun t2 z m2 I0 h=>?_) h)
          obtain ⟨A,B⟩:=z
          refine AW.SG0 Fm 1 [(0,AL a),(1,AL b),(2,vi p),(7,AL l),(8,AL e),(13,ow 13),(14,ow 14),(15,vi i),(156,vi (lI q)),(157,vi A),(158,vb (decide (A<(lI q))))] [(13,AO u),(14,AO B)] ?_
          refine AW.seq (AW.cN h (fun W0 h=>?_) (fun W0 h=>?_))
          ·refine AW.skip (AW.seq (AW.block (AW.SG0 Fm 2 [(0,AL a),(1,AL b),(2,vi p),(7,AL l),(8,AL e),(13,ow 13),(14,ow 14),(15,vi i),(19,vi A),(156,vi (lI q)),(157,vi A)] [(13,AO u),(14,AO B)] ?_)))
           obtain ⟨D1,E1,b0,h⟩:=gS3 h
           refine AW.WP Fm [.s,.s,.s,.s,.s,.s,.s,.s,.s,.s] [(0,AL a),(1,AL b),(2,vi p),(7,AL l),(8,AL e),(13,ow 13),(14,ow 14),(15,vi i),(156,vi (lI q)),(157,vi A)] [(13,AO u),(14,AO (α:=Rect) (List.set B A.toNat (⟨(gl B A.toNat).left_,(gl B A.toNat).low_,(gl B A.toNat).right_,(gl e (i+1).toNat)⟩ : Rect)))] (cA (cT D1) (cA E1 (cA b0 (cT (toNat_lt b0))))) [(14,.arr 4 (List.length (α:=Rect) B) (fun j=>if j=A.toNat then splice ((LF (α:=Rect) B) A.toNat) 3 [.int .i64 (gl e (i+1).toNat)] else (LF (α:=Rect) B) j))] ⟨OLe.is (Is.set (Is.refl B) (toNat_lt b0) (⟨(gl B A.toNat).left_,(gl B A.toNat).low_,(gl B A.toNat).right_,(gl e (i+1).toNat)⟩ : Rect) (by kernel_rfl)),⟨⟩⟩ ?_
           obtain ⟨G1,h⟩:=gS h
           refine AW.pN Fm [.s,.s] [(0,AL a),(1,AL b),(2,vi p),(7,AL l),(8,AL e),(13,ow 13),(14,ow 14),(15,vi i),(156,vi (lI q)),(157,vi (A+1))] [(13,AO u),(14,AO (α:=Rect) (List.set B A.toNat (⟨(gl B A.toNat).left_,(gl B A.toNat).low_,(gl B A.toNat).right_,(gl e (i+1).toNat)⟩ : Rect)))] (cT (cT G1)) ?_
           exact Kn.R Fm (I0 ((A+1),(List.set B A.toNat (⟨(gl B A.toNat).left_,(gl B A.toNat).low_,(gl B A.toNat).right_,(gl e (i+1).toNat)⟩ : Rect))) h)
          ·exact AW.exit (Kn.R Fm (K0 B h))
        ·exact AW.skip (Kn.R Fm (L0 () h))
       ·rcases br_or h with ⟨N,h⟩|⟨N,h⟩
        ·obtain ⟨V,m0,h⟩:=bS h
         rcases br_or h with ⟨Z,h⟩|⟨Z,h⟩
         ·obtain ⟨l0,B1,h⟩:=gS2 h
          refine AW.G Fm [.s,.s,.s,.w (vb true),.s,.s,.k (sE (vb V)),.s,.w (vb true),.s,.s,.s,.s,.s,.s,.s,.s,.s,.s] (fun K=>_∧K 6∧_∧_∧_∧_∧True) [(0,AL a),(1,AL b),(2,vi p),(7,AL l),(8,AL e),(13,ow 13),(14,ow 14),(15,vi i),(16,ow 16),(140,ow 14),(141,ow 16),(142,vb V),(145,ow 14),(146,.v (.c (.pte 14 4 ((0:Int).toNat) 0))),(147,.v (.c (.pte 14 4 ((0:Int).toNat) 3))),(148,vi (gl q (0:Int).toNat).high_),(149,AL e),(150,vi i),(151,.v (.c (.elm [.int .i64 (gl e i.toNat)]))),(152,vi (gl e i.toNat)),(153,vb (((gl q (0:Int).toNat).high_)==(gl e i.toNat))),(154,vb (((gl q (0:Int).toNat).high_)==(gl e i.toNat)))] [(13,AO u),(14,AO q),(16,AO E)] ⟨ALe.bool N,KAt.callBX (ref04_same_spec m0) Tryz.call203 [14,16] [.tmp 140,.tmp 141] rfl (by kernel_rfl) (by kernel_rfl) ⟨ArgB.own 14 (es:=4) (n:=List.length q) (f:=LF q) (by kernel_rfl) (by kernel_rfl) (by kernel_rfl) (by kernel_rfl),ArgB.own 16 (es:=4) (n:=List.length E) (f:=LF E) (by kernel_rfl) (by kernel_rfl) (by kernel_rfl) (by kernel_rfl),⟨⟩⟩,ALe.bool Z,l0,(toNat_lt l0),B1,⟨⟩⟩ ?_
          exact Kn.R Fm (X (((gl q (0:Int).toNat).high_)==(gl e i.toNat)) h)
         ·refine AW.G Fm [.s,.s,.s,.w (vb true),.s,.s,.k (sE (vb V)),.s,.w (vb false),.s,.s,.s,.s,.s,.s,.s,.s,.s,.s] (fun K=>_∧K 6∧_∧True) [(0,AL a),(1,AL b),(2,vi p),(7,AL l),(8,AL e),(13,ow 13),(14,ow 14),(15,vi i),(16,ow 16),(140,ow 14),(141,ow 16),(142,vb V),(154,vb false)] [(13,AO u),(14,AO q),(16,AO E)] ⟨ALe.bool N,KAt.callBX (ref04_same_spec m0) Tryz.call203 [14,16] [.tmp 140,.tmp 141] rfl (by kernel_rfl) (by kernel_rfl) ⟨ArgB.own 14 (es:=4) (n:=List.length q) (f:=LF q) (by kernel_rfl) (by kernel_rfl) (by kernel_rfl) (by kernel_rfl),ArgB.own 16 (es:=4) (n:=List.length E) (f:=LF E) (by kernel_rfl) (by kernel_rfl) (by kernel_rfl) (by kernel_rfl),⟨⟩⟩,ALe.bool Z,⟨⟩⟩ ?_
          exact Kn.R Fm (X false h)
        ·refine AW.pN Fm [.s,.s,.s,.w (vb false),.s,.s,.s,.s,.s,.s,.s,.s,.s,.s,.s,.s,.s,.s,.s] [(0,AL a),(1,AL b),(2,vi p),(7,AL l),(8,AL e),(13,ow 13),(14,ow 14),(15,vi i),(16,ow 16),(154,vb false)] [(13,AO u),(14,AO q),(16,AO E)] (cT (ALe.bool N)) ?_
         exact Kn.R Fm (X false h)
     ·refine AW.SG0 Fm 1 [(0,AL a),(1,AL b),(2,vi p),(7,AL l),(8,AL e),(13,ow 13),(14,ow 14),(15,vi i),(16,ow 16),(17,vi 0)] [(13,AO u),(14,AO q),(16,AO (α:=Rect) ([]:List Rect))] ?_
      refine AW.block (Kn.r Fm [(0,AL a),(1,AL b),(2,vi p),(7,AL l),(8,AL e),(13,ow 13),(14,ow 14),(15,vi i),(16,ow 16),(17,vi 0)] [(13,AO u),(14,AO q),(16,AO ([]:List Rect))] (by kernel_rfl) ?_)
      refine AW.loopF (E' := fun z=>[(0,AL a),(1,AL b),(2,vi p),(7,AL l),(8,AL e),(13,ow 13),(14,ow 14),(15,vi i),(16,ow 16),(17,vi z.1)]) (S' := fun z=>[(13,AO u),(14,AO q),(16,AO z.2)]) (fun e0 z e2 E0 h=>?_) h
      obtain ⟨t,o⟩:=z
      refine AW.seq ?_
      obtain ⟨c1,h⟩:=gS h
      refine AW.SP Fm [.s,.s,.s,.s,.s] [(0,AL a),(1,AL b),(2,vi p),(7,AL l),(8,AL e),(13,ow 13),(14,ow 14),(15,vi i),(16,ow 16),(17,vi t),(61,vb (decide ((t+1)<(lI l))))] [(13,AO u),(14,AO q),(16,AO o)] (cT (cT c1)) ?_
      refine AW.cN h (fun R0 h=>?_) (fun R0 h=>?_)
      ·refine AW.skip (AW.join (r:=r) (fun z:(List Rect)=>ref04_Combine_k7 F t e0 z) (fun z=>[(0,AL a),(1,AL b),(2,vi p),(7,AL l),(8,AL e),(13,ow 13),(14,ow 14),(15,vi i),(16,ow 16),(17,vi t)]) (fun z=>[(13,AO u),(14,AO q),(16,AO z)]) (fun p0 h=>?_) (fun j2 W=>?_))
       ·obtain ⟨A1,h⟩:=gS h
        refine AW.pN Fm [.s,.s,.s] [(0,AL a),(1,AL b),(2,vi p),(7,AL l),(8,AL e),(13,ow 13),(14,ow 14),(15,vi i),(16,ow 16),(17,vi (t+1))] [(13,AO u),(14,AO q),(16,AO p0)] (cT (cT A1)) ?_
        exact Kn.R Fm (E0 ((t+1),p0) h)
       ·refine AW.block (AW.seq (AW.seq ?_))
        obtain ⟨d1,e1,h⟩:=gS2 h
        obtain ⟨X1,P1,h⟩:=bS h
        obtain ⟨i1,j1,h⟩:=gS2 h
        obtain ⟨Y1,R1,h⟩:=bS h
        obtain ⟨t0,T1,h⟩:=bS h
        refine AW.G Fm [.s,.s,.s,.s,.s,.s,.s,.s,.s,.k (cE [] [] (vb X1) [] []),.s,.s,.s,.s,.s,.s,.s,.s,.s,.k (cE [] [] (vb Y1) [] []),.s,.k (cE [] [] (vb t0) [] []),.s] (fun K=>_∧_∧K 9∧_∧_∧K 19∧K 21∧True) [(0,AL a),(1,AL b),(2,vi p),(7,AL l),(8,AL e),(13,ow 13),(14,ow 14),(15,vi i),(16,ow 16),(17,vi t),(86,vb (!t0))] [(13,AO u),(14,AO q),(16,AO o)] ⟨d1,e1,KAt.CC (ref04_inside_spec P1) Tryz.call110 [],i1,j1,KAt.CC (ref04_inside_spec R1) Tryz.call110 [],KAt.CC (ref04_keep_spec T1) Tryz.call202 [],⟨⟩⟩ ?_
        refine AW.cN h (fun T0 h=>?_) (fun T0 h=>?_)
        ·exact AW.exit (Kn.R Fm (W o h))
        ·refine AW.skip (AW.SG0 Fm 3 [(0,AL a),(1,AL b),(2,vi p),(7,AL l),(8,AL e),(13,ow 13),(14,ow 14),(15,vi i),(16,ow 16),(17,vi t),(18,vi (lI o))] [(13,AO u),(14,AO q),(16,AO o)] ?_)
         refine AW.join (r:=r) (fun z:Bool=>ref04_Combine_k6 F l e i t o e0 z) (fun z=>[(0,AL a),(1,AL b),(2,vi p),(7,AL l),(8,AL e),(13,ow 13),(14,ow 14),(15,vi i),(16,ow 16),(17,vi t),(18,vi (lI o)),(103,vb z)]) (fun z=>[(13,AO u),(14,AO q),(16,AO o)]) (fun u2 h=>?_) (fun i2 i0=>?_)
         ·refine AW.cN h (fun U0 h=>?_) (fun U0 h=>?_)
          ·obtain ⟨m1,n1,o1,a0,h⟩:=gS4 h
           refine AW.WP Fm [.s,.s,.s,.s,.s,.s,.s,.s,.s,.s,.s] [(0,AL a),(1,AL b),(2,vi p),(7,AL l),(8,AL e),(13,ow 13),(14,ow 14),(15,vi i),(16,ow 16),(17,vi t)] [(13,AO u),(14,AO q),(16,AO (α:=Rect) (List.set o ((lI o)-1).toNat (⟨(gl o ((lI o)-1).toNat).left_,(gl o ((lI o)-1).toNat).low_,(gl l (t+1).toNat),(gl o ((lI o)-1).toNat).high_⟩ : Rect)))] (cA (cT m1) (cA (cT n1) (cA o1 (cA a0 (cT (toNat_lt a0)))))) [(16,.arr 4 (List.length (α:=Rect) o) (fun j=>if j=((lI o)-1).toNat then splice ((LF (α:=Rect) o) ((lI o)-1).toNat) 2 [.int .i64 (gl l (t+1).toNat)] else (LF (α:=Rect) o) j))] ⟨OLe.is (Is.set (Is.refl o) (toNat_lt a0) (⟨(gl o ((lI o)-1).toNat).left_,(gl o ((lI o)-1).toNat).low_,(gl l (t+1).toNat),(gl o ((lI o)-1).toNat).high_⟩ : Rect) (by kernel_rfl)),⟨⟩⟩ ?_
           exact Kn.R Fm (W (List.set o ((lI o)-1).toNat (⟨(gl o ((lI o)-1).toNat).left_,(gl o ((lI o)-1).toNat).low_,(gl l (t+1).toNat),(gl o ((lI o)-1).toNat).high_⟩ : Rect)) h)
          ·obtain ⟨p1,q1,s1,t1,h⟩:=gS4 h
           obtain ⟨u1,w1,y1,h⟩:=gS3 h
           refine AW.WP Fm [.s,.s,.s,.s,.s,.s,.s,.s,.s,.s,.s,.s,.s,.s,.s,.s,.s,.s,.s,.s,.w (AL (α:=Rect) ([(⟨(gl l t.toNat),(gl e i.toNat),(gl l (t+1).toNat),(gl e (i+1).toNat)⟩ : Rect)]:List Rect)),.s,.s] [(0,AL a),(1,AL b),(2,vi p),(7,AL l),(8,AL e),(13,ow 13),(14,ow 14),(15,vi i),(16,ow 135),(17,vi t)] [(13,AO u),(14,AO q),(135,AO (α:=Rect) (o++([(⟨(gl l t.toNat),(gl e i.toNat),(gl l (t+1).toNat),(gl e (i+1).toNat)⟩ : Rect)]:List Rect)))] (cA p1 (cA q1 (cA (cT s1) (cA t1 (cA (cT u1) (cA w1 (cA (ALe.lst (.lit ([(⟨(gl l t.toNat),(gl e i.toNat),(gl l (t+1).toNat),(gl e (i+1).toNat)⟩ : Rect)]:List Rect) (by kernel_rfl)):ALe (.v (.c (.d (.lst 1 (litF 4 [.int .i64 (gl l t.toNat),.int .i64 (gl e i.toNat),.int .i64 (gl l (t+1).toNat),.int .i64 (gl e (i+1).toNat)]))))) (AL (α:=Rect) ([(⟨(gl l t.toNat),(gl e i.toNat),(gl l (t+1).toNat),(gl e (i+1).toNat)⟩ : Rect)]:List Rect))) (cT (cA y1 (cT (Is.refl ([(⟨(gl l t.toNat),(gl e i.toNat),(gl l (t+1).toNat),(gl e (i+1).toNat)⟩ : Rect)]:List Rect):Is (List.length (α:=Rect) ([(⟨(gl l t.toNat),(gl e i.toNat),(gl l (t+1).toNat),(gl e (i+1).toNat)⟩ : Rect)]:List Rect)) (LF (α:=Rect) ([(⟨(gl l t.toNat),(gl e i.toNat),(gl l (t+1).toNat),(gl e (i+1).toNat)⟩ : Rect)]:List Rect)) ([(⟨(gl l t.toNat),(gl e i.toNat),(gl l (t+1).toNat),(gl e (i+1).toNat)⟩ : Rect)]:List Rect)).len)))))))))) [(135,.arr 4 ((List.length (α:=Rect) o)+(List.length (α:=Rect) ([(⟨(gl l t.toNat),(gl e i.toNat),(gl l (t+1).toNat),(gl e (i+1).toNat)⟩ : Rect)]:List Rect))) (appF (List.length (α:=Rect) o) (LF (α:=Rect) o) (LF (α:=Rect) ([(⟨(gl l t.toNat),(gl e i.toNat),(gl l (t+1).toNat),(gl e (i+1).toNat)⟩ : Rect)]:List Rect))))] ⟨OLe.is (Is.app (Is.refl o) (Is.refl ([(⟨(gl l t.toNat),(gl e i.toNat),(gl l (t+1).toNat),(gl e (i+1).toNat)⟩ : Rect)]:List Rect))),⟨⟩⟩ ?_
           exact Kn.RE Fm [(16,135)] (W (o++([(⟨(gl l t.toNat),(gl e i.toNat),(gl l (t+1).toNat),(gl e (i+1).toNat)⟩ : Rect)]:List Rect)) h)
         ·rcases br_or h with ⟨Y,h⟩|⟨Y,h⟩
          ·obtain ⟨k1,k0,l1,h⟩:=gS3 h
           refine AW.pN Fm [.s,.s,.w (vb true),.s,.s,.s,.s,.s,.s,.s,.s,.s,.s,.s,.s] [(0,AL a),(1,AL b),(2,vi p),(7,AL l),(8,AL e),(13,ow 13),(14,ow 14),(15,vi i),(16,ow 16),(17,vi t),(18,vi (lI o)),(92,ow 16),(93,vi (lI o)),(94,vi ((lI o)-1)),(95,.v (.c (.pte 16 4 (((lI o)-1).toNat) 0))),(96,.v (.c (.pte 16 4 (((lI o)-1).toNat) 2))),(97,vi (gl o ((lI o)-1).toNat).right_),(98,AL l),(99,vi t),(100,.v (.c (.elm [.int .i64 (gl l t.toNat)]))),(101,vi (gl l t.toNat)),(102,vb (((gl o ((lI o)-1).toNat).right_)==(gl l t.toNat))),(103,vb (((gl o ((lI o)-1).toNat).right_)==(gl l t.toNat)))] [(13,AO u),(14,AO q),(16,AO o)] (cA (ALe.bool Y) (cA (cT k1) (cA k0 (cA (toNat_lt k0) (cT l1))))) ?_
           exact Kn.R Fm (i0 (((gl o ((lI o)-1).toNat).right_)==(gl l t.toNat)) h)
          ·refine AW.pN Fm [.s,.s,.w (vb false),.s,.s,.s,.s,.s,.s,.s,.s,.s,.s,.s,.s] [(0,AL a),(1,AL b),(2,vi p),(7,AL l),(8,AL e),(13,ow 13),(14,ow 14),(15,vi i),(16,ow 16),(17,vi t),(18,vi (lI o)),(103,vb false)] [(13,AO u),(14,AO q),(16,AO o)] (cT (ALe.bool Y)) ?_
           exact Kn.R Fm (i0 false h)
      ·exact AW.exit (Kn.R Fm (H0 o h))
   ·exact AW.exit (Kn.R Fm (M0 (u,q) h))
 ·refine AW.SP Fm [.s,.s,.w (AL (α:=(List Rect)) ([a,b]:List (List Rect))),.s,.s] [(0,AL a),(1,AL b),(2,vi p),(7,ow 7),(8,ow 8),(22,AL (α:=(List Rect)) ([a,b]:List (List Rect))),(23,vi ((List.length ([a,b]:List (List Rect)):Nat):Int)),(24,vi 0)] [(7,AO (α:=Int) ([]:List Int)),(8,AO (α:=Int) ([]:List Int))] (cT (ALe.lst (.lit ([a,b]:List (List Rect)) (by kernel_rfl)):ALe (.v (.c (.d (.lst 2 (litF 1 [DL a,DL b]))))) (AL (α:=(List Rect)) ([a,b]:List (List Rect))))) ?_
  refine AW.block (Kn.r Fm [(0,AL a),(1,AL b),(2,vi p),(7,ow 7),(8,ow 8),(22,AL (α:=(List Rect)) ([a,b]:List (List Rect))),(23,vi ((List.length ([a,b]:List (List Rect)):Nat):Int)),(24,vi 0)] [(7,AO (α:=Int) ([]:List Int)),(8,AO (α:=Int) ([]:List Int))] (by kernel_rfl) ?_)
  refine Kn.frz [(0,AL a),(1,AL b),(2,vi p),(7,AL (α:=Int) ([]:List Int)),(8,ow 8),(22,AL (α:=(List Rect)) ([a,b]:List (List Rect))),(23,vi ((List.length ([a,b]:List (List Rect)):Nat):Int)),(24,vi 0)] [(8,AO (α:=Int) ([]:List Int))] (by kernel_rfl) (by kernel_rfl) (by kernel_rfl) ?_
  refine Kn.r Fm [(0,AL a),(1,AL b),(2,vi p),(7,AL (α:=Int) ([]:List Int)),(8,ow 8),(22,AL (α:=(List Rect)) ([a,b]:List (List Rect))),(23,vi ((List.length ([a,b]:List (List Rect)):Nat):Int)),(24,vi 0)] [(8,AO (α:=Int) ([]:List Int))] (by kernel_rfl) ?_
  refine Kn.frz [(0,AL a),(1,AL b),(2,vi p),(7,AL (α:=Int) ([]:List Int)),(8,AL (α:=Int) ([]:List Int)),(22,AL (α:=(List Rect)) ([a,b]:List (List Rect))),(23,vi ((List.length ([a,b]:List (List Rect)):Nat):Int)),(24,vi 0)] [] (by kernel_rfl) (by kernel_rfl) (by kernel_rfl) ?_
  refine Kn.r Fm [(0,AL a),(1,AL b),(2,vi p),(7,AL ([]:List Int)),(8,AL ([]:List Int)),(22,AL (α:=(List Rect)) ([a,b]:List (List Rect))),(23,vi ((List.length ([a,b]:List (List Rect)):Nat):Int)),(24,vi 0)] [] (by kernel_rfl) ?_
  refine AW.loopF (E' := fun z=>[(0,AL a),(1,AL b),(2,vi p),(7,AL z.1),(8,AL z.2.1),(22,AL (α:=(List Rect)) ([a,b]:List (List Rect))),(23,vi ((List.length ([a,b]:List (List Rect)):Nat):Int)),(24,vi z.2.2)]) (S' := fun z=>[]) (fun u0 z Z1 w0 h=>?_) h
  obtain ⟨O,P,y⟩:=z
  refine AW.SG0 Fm 1 [(0,AL a),(1,AL b),(2,vi p),(7,AL O),(8,AL P),(22,AL (α:=(List Rect)) ([a,b]:List (List Rect))),(23,vi ((List.length ([a,b]:List (List Rect)):Nat):Int)),(24,vi y),(25,vb (decide (y<((List.length ([a,b]:List (List Rect)):Nat):Int))))] [] ?_
  refine AW.seq (AW.cN h (fun N0 h=>?_) (fun N0 h=>?_))
  ·refine AW.skip (AW.join (r:=r) (fun z:(List Int)×(List Int)=>ref04_Combine_k2 F y u0 z.1 z.2) (fun z=>[(0,AL a),(1,AL b),(2,vi p),(7,AL z.1),(8,AL z.2),(22,AL (α:=(List Rect)) ([a,b]:List (List Rect))),(23,vi ((List.length ([a,b]:List (List Rect)):Nat):Int)),(24,vi y)]) (fun z=>[]) (fun z h=>?_) (fun b2 A0=>?_))
   ·obtain ⟨n0,o0⟩:=z
    obtain ⟨a1,h⟩:=gS h
    refine AW.pN Fm [.s,.s] [(0,AL a),(1,AL b),(2,vi p),(7,AL n0),(8,AL o0),(22,AL (α:=(List Rect)) ([a,b]:List (List Rect))),(23,vi ((List.length ([a,b]:List (List Rect)):Nat):Int)),(24,vi (y+1))] [] (cT (cT a1)) ?_
    exact Kn.R Fm (w0 (n0,o0,(y+1)) h)
   ·refine AW.block ?_
    obtain ⟨X0,h⟩:=gS h
    refine AW.SP Fm [.s,.s,.s] [(0,AL a),(1,AL b),(2,vi p),(7,AL O),(8,AL P),(10,AL (α:=Rect) (gl ([a,b]:List (List Rect)) y.toNat)),(22,AL (α:=(List Rect)) ([a,b]:List (List Rect))),(23,vi ((List.length ([a,b]:List (List Rect)):Nat):Int)),(24,vi y)] [] (cT X0) ?_
    refine AW.SG0 Fm 3 [(0,AL a),(1,AL b),(2,vi p),(7,AL O),(8,AL P),(22,AL (α:=(List Rect)) ([a,b]:List (List Rect))),(23,vi ((List.length ([a,b]:List (List Rect)):Nat):Int)),(24,vi y),(28,AL (α:=Rect) (gl ([a,b]:List (List Rect)) y.toNat)),(29,vi ((List.length (gl ([a,b]:List (List Rect)) y.toNat):Nat):Int)),(30,vi 0)] [] ?_
    refine AW.block (AW.loopF (E' := fun z=>[(0,AL a),(1,AL b),(2,vi p),(7,AL z.1),(8,AL z.2.1),(22,AL (α:=(List Rect)) ([a,b]:List (List Rect))),(23,vi ((List.length ([a,b]:List (List Rect)):Nat):Int)),(24,vi y),(28,AL (α:=Rect) (gl ([a,b]:List (List Rect)) y.toNat)),(29,vi ((List.length (gl ([a,b]:List (List Rect)) y.toNat):Nat):Int)),(30,vi z.2.2)]) (S' := fun z=>[]) (fun s2 z a2 y0 h=>?_) h)
    obtain ⟨c0,d0,H⟩:=z
    refine AW.SG0 Fm 1 [(0,AL a),(1,AL b),(2,vi p),(7,AL c0),(8,AL d0),(22,AL (α:=(List Rect)) ([a,b]:List (List Rect))),(23,vi ((List.length ([a,b]:List (List Rect)):Nat):Int)),(24,vi y),(28,AL (α:=Rect) (gl ([a,b]:List (List Rect)) y.toNat)),(29,vi ((List.length (gl ([a,b]:List (List Rect)) y.toNat):Nat):Int)),(30,vi H),(31,vb (decide (H<((List.length (gl ([a,b]:List (List Rect)) y.toNat):Nat):Int))))] [] ?_
    refine AW.seq (AW.cN h (fun O0 h=>?_) (fun O0 h=>?_))
    ·refine AW.skip (AW.seq (AW.block ?_))
     obtain ⟨Y0,h⟩:=gS h
     refine AW.SP Fm [.s,.s,.s,.s] [(0,AL a),(1,AL b),(2,vi p),(7,AL c0),(8,AL d0),(12,pt 12),(22,AL (α:=(List Rect)) ([a,b]:List (List Rect))),(23,vi ((List.length ([a,b]:List (List Rect)):Nat):Int)),(24,vi y),(28,AL (α:=Rect) (gl ([a,b]:List (List Rect)) y.toNat)),(29,vi ((List.length (gl ([a,b]:List (List Rect)) y.toNat):Nat):Int)),(30,vi H)] [(12,bx [ci ((gl (gl ([a,b]:List (List Rect)) y.toNat) H.toNat).left_),ci ((gl (gl ([a,b]:List (List Rect)) y.toNat) H.toNat).low_),ci ((gl (gl ([a,b]:List (List Rect)) y.toNat) H.toNat).right_),ci ((gl (gl ([a,b]:List (List Rect)) y.toNat) H.toNat).high_)])] (cT Y0) ?_
     obtain ⟨V1,L1,h⟩:=bS h
     obtain ⟨T,M1,h⟩:=bS h
     obtain ⟨W1,N1,h⟩:=bS h
     obtain ⟨U,O1,h⟩:=bS h
     refine AW.G Fm [.s,.s,.s,.k (cE [] [] (AL V1) [] []),.s,.s,.k (cE [] [] (AL T) [] []),.s,.s,.s,.k (cE [] [] (AL W1) [] []),.s,.s,.k (cE [] [] (AL U) [] []),.s,.s] (fun K=>K 3∧K 6∧K 10∧K 13∧True) [(0,AL a),(1,AL b),(2,vi p),(7,AL T),(8,AL U),(22,AL (α:=(List Rect)) ([a,b]:List (List Rect))),(23,vi ((List.length ([a,b]:List (List Rect)):Nat):Int)),(24,vi y),(28,AL (α:=Rect) (gl ([a,b]:List (List Rect)) y.toNat)),(29,vi ((List.length (gl ([a,b]:List (List Rect)) y.toNat):Nat):Int)),(30,vi H)] [] ⟨KAt.CC (ref01_Put_spec L1) Tryz.call127 [],KAt.CC (ref01_Put_spec M1) Tryz.call127 [],KAt.CC (ref01_Put_spec N1) Tryz.call127 [],KAt.CC (ref01_Put_spec O1) Tryz.call127 [],⟨⟩⟩ ?_
     obtain ⟨Z0,h⟩:=gS h
     refine AW.pN Fm [.s,.s] [(0,AL a),(1,AL b),(2,vi p),(7,AL T),(8,AL U),(22,AL (α:=(List Rect)) ([a,b]:List (List Rect))),(23,vi ((List.length ([a,b]:List (List Rect)):Nat):Int)),(24,vi y),(28,AL (α:=Rect) (gl ([a,b]:List (List Rect)) y.toNat)),(29,vi ((List.length (gl ([a,b]:List (List Rect)) y.toNat):Nat):Int)),(30,vi (H+1))] [] (cT (cT Z0)) ?_
     exact Kn.R Fm (y0 (T,U,(H+1)) h)
    ·exact AW.exit (Kn.R Fm (A0 (c0,d0) h))
  ·exact AW.exit (Kn.R Fm (B0 (O,P) h))
theorem ref04_Bound_spec {F:Nat} {a:(List Rect)} {r:Region×Int} (h:ref04_Bound F a=some r) :
  FSpec Tryz.prog 118 [AL a] [] (.t [.g [.d (DL (α:=Rect) r.1.rects_)],.c (ci r.2)]) []:=by
 refine FI Tryz.func118 prog_mixed prog_lay fun C Fm=>?_
 unfold ref04_Bound at h
 refine AW.SG0 Fm 2 [(0,AL a),(2,pt 2)] [(2,bx [.fl 0 fun _=>[]])] ?_
 refine AW.seq (AW.SG0 Fm 3 [(0,AL a),(2,pt 2),(6,vb (decide ((120:Int)<(lI a))))] [(2,bx [.fl 0 fun _=>[]])] ?_)
 refine AW.cN h (fun b h=>?_) (fun b h=>?_)
 ·refine AW.SP Fm [.w (.v (.g [.d (DL (α:=Rect) [])])),.s,.s] [(2,pt 2),(3,vi 1)] [(2,bx [.d (DL (α:=Rect) [])])] (cT (ALe.g ⟨CLe.fl .nil,⟨⟩⟩ : ALe (.v (.g [.fl 0 fun _=>[]])) (.v (.g [.d (DL (α:=Rect) [])])))) ?_
  refine AW.ret ?_
  obtain rfl:=Option.some.inj h
  exact Kn.D Fm
 ·refine AW.skip (AW.SG0 Fm 4 [(2,pt 2),(3,vi 0)] [(2,bx [.d (DL a)])] ?_)
  refine AW.ret ?_
  obtain rfl:=Option.some.inj h
  exact Kn.D Fm
theorem ref04_Of_spec {F:Nat} {a:(List Rect)} {r:Region×Int} (h:ref04_Of F a=some r) :
  FSpec Tryz.prog 93 [AL a] [] (.t [.g [.d (DL (α:=Rect) r.1.rects_)],.c (ci r.2)]) []:=by
 refine FI Tryz.func93 prog_mixed prog_lay fun C Fm=>?_
 unfold ref04_Of at h
 refine AW.SG0 Fm 2 [(0,AL a),(2,pt 2)] [(2,bx [.fl 0 fun _=>[]])] ?_
 refine AW.seq (AW.SG0 Fm 3 [(0,AL a),(2,pt 2),(8,vb (decide ((120:Int)<(lI a))))] [(2,bx [.fl 0 fun _=>[]])] ?_)
 refine AW.cN h (fun m h=>?_) (fun m h=>?_)
 ·refine AW.SP Fm [.w (.v (.g [.d (DL (α:=Rect) [])])),.s,.s] [(2,pt 2),(3,vi 1)] [(2,bx [.d (DL (α:=Rect) [])])] (cT (ALe.g ⟨CLe.fl .nil,⟨⟩⟩ : ALe (.v (.g [.fl 0 fun _=>[]])) (.v (.g [.d (DL (α:=Rect) [])])))) ?_
  refine AW.ret ?_
  obtain rfl:=Option.some.inj h
  exact Kn.D Fm
 ·refine AW.skip (AW.join (r:=r) (fun z:Unit=>ref04_Of_k1 F a) (fun z=>[(0,AL a),(2,pt 2)]) (fun z=>[(2,bx [.fl 0 fun _=>[]])]) (fun z h=>?_) (fun I l=>?_))
  ·refine AW.seq ?_
   obtain ⟨E,A,h⟩:=bS h
   obtain ⟨e,B,h⟩:=bS h
   refine AW.G Fm [.s,.k (cE [] [] (AL E) [] []),.k (cE [] [] (.t [.g [.d (DL e.1.rects_)],.c (ci e.2)]) [] []),.s,.s,.s,.s] (fun K=>K 1∧K 2∧True) [(2,pt 2),(3,vi e.2)] [(2,bx [.d (DL e.1.rects_)])] ⟨KAt.callX (ref04_Combine_spec A) Tryz.call112 [] [] [.tmp 21,.const (.slice none 0 0),.const (.int .i64 1)] rfl (by kernel_rfl) (by kernel_rfl) (by kernel_rfl) ⟨.p,ArgT.plain (by kernel_rfl) (ALe.c (CLe.fl .nil)) (by kernel_rfl),.p,⟨⟩⟩,KAt.CC (ref04_Bound_spec B) Tryz.call118 [],⟨⟩⟩ ?_
   refine AW.ret ?_
   obtain rfl:=Option.some.inj h
   exact Kn.D Fm
  ·refine AW.SG0 Fm 3 [(0,AL a),(2,pt 2),(10,AL a),(11,vi (lI a)),(12,vi 0)] [(2,bx [.fl 0 fun _=>[]])] ?_
   refine AW.block (AW.loopF (E' := fun z=>[(0,AL a),(2,pt 2),(10,AL a),(11,vi (lI a)),(12,vi z)]) (S' := fun z=>[(2,bx [.fl 0 fun _=>[]])]) (fun L b H j h=>?_) h)
   refine AW.SG0 Fm 1 [(0,AL a),(2,pt 2),(10,AL a),(11,vi (lI a)),(12,vi b),(13,vb (decide (b<(lI a))))] [(2,bx [.fl 0 fun _=>[]])] ?_
   refine AW.seq (AW.cN h (fun n h=>?_) (fun n h=>?_))
   ·refine AW.skip (AW.seq (AW.block ?_))
    obtain ⟨q,h⟩:=gS h
    refine AW.SP Fm [.s,.s,.s,.s] [(0,AL a),(2,pt 2),(5,pt 5),(10,AL a),(11,vi (lI a)),(12,vi b)] [(2,bx [.fl 0 fun _=>[]]),(5,bx [ci ((gl a b.toNat).left_),ci ((gl a b.toNat).low_),ci ((gl a b.toNat).right_),ci ((gl a b.toNat).high_)])] (cT q) ?_
    refine AW.seq ?_
    obtain ⟨i,y,h⟩:=bS h
    refine AW.G Fm [.s,.k (cE [] [] (vb i) [] []),.s] (fun K=>K 1∧True) [(0,AL a),(2,pt 2),(10,AL a),(11,vi (lI a)),(12,vi b),(18,vb (!i))] [(2,bx [.fl 0 fun _=>[]])] ⟨KAt.CC (ref04_proper_spec y) Tryz.call181 [],⟨⟩⟩ ?_
    refine AW.cN h (fun o h=>?_) (fun o h=>?_)
    ·refine AW.SP Fm [.w (.v (.g [.d (DL (α:=Rect) [])])),.s,.s] [(2,pt 2),(3,vi 2)] [(2,bx [.d (DL (α:=Rect) [])])] (cT (ALe.g ⟨CLe.fl .nil,⟨⟩⟩ : ALe (.v (.g [.fl 0 fun _=>[]])) (.v (.g [.d (DL (α:=Rect) [])])))) ?_
     refine AW.ret ?_
     obtain rfl:=Option.some.inj h
     exact Kn.D Fm
    ·refine AW.skip ?_
     obtain ⟨u,h⟩:=gS h
     refine AW.pN Fm [.s,.s] [(0,AL a),(2,pt 2),(10,AL a),(11,vi (lI a)),(12,vi (b+1))] [(2,bx [.fl 0 fun _=>[]])] (cT (cT u)) ?_
     exact Kn.R Fm (j (b+1) h)
   ·exact AW.exit (Kn.R Fm (l () h))
theorem keep_Tape_Region_spec {F:Nat} {l:Tape} {b:Int} {u:Int} {r:Tape×Region} (h:keep_Tape_Region F l b u=some r) :
  FSpec Tryz.prog 16 [pt 0,vi b,vi u] [(0,bx (gC l))] (.v (.g [.d (DL (α:=Rect) r.2.rects_)])) [(0,bx (gC r.1))]:=by
 refine FI Tryz.func16 prog_mixed prog_lay fun C Fm=>?_
 unfold keep_Tape_Region at h
 refine AW.SG0 Fm 1 [(0,pt 0),(1,vi b),(2,vi u),(6,pt 6)] [(0,bx (gC l)),(6,bx [.fl 0 fun _=>[]])] ?_
 refine AW.SW Fm [.m] (fun K=>True) [(0,pt 0),(1,vi b),(2,vi u),(6,pt 6),(7,ow 7)] [(0,bx (gC l)),(6,bx [.fl 0 fun _=>[]]),(7,AO (α:=Rect) ([]:List Rect))] True.intro [(7,.arr 4 (0) (fun _=>[]))] ⟨OLe.is ((Is.nil (α:=Rect))),⟨⟩⟩ ?_
 refine AW.join (r:=r) (fun z:(List Rect)×(List Int)×Int=>keep_Tape_Region_k1 F z.1 z.2.1 z.2.2) (fun z=>[(6,pt 6),(7,ow 7)]) (fun z=>[(0,bx [.d (DL z.2.1),ci z.2.2]),(6,bx [.fl 0 fun _=>[]]),(7,AO z.1)]) (fun z h=>?_) (fun U E=>?_)
 ·obtain ⟨A,p,q⟩:=z
  refine AW.seq (Kn.r Fm [(6,pt 6),(7,ow 7)] [(7,AO A),(0,bx [.d (DL p),ci q]),(6,bx [.fl 0 fun _=>[]])] (by kernel_rfl) ?_)
  refine Kn.frz [(6,pt 6),(7,AL A)] [(0,bx [.d (DL p),ci q]),(6,bx [.fl 0 fun _=>[]])] (by kernel_rfl) (by kernel_rfl) (by kernel_rfl) ?_
  obtain ⟨y,P,h⟩:=bS h
  refine AW.G Fm [.s,.k (cE [] [] (.t [.g [.d (DL y.1.rects_)],.c (ci y.2)]) [] []),.s,.s,.s,.s,.s,.s] (fun K=>K 1∧True) [(6,pt 6),(9,pt 9)] [(0,bx [.d (DL p),ci q]),(6,bx [.fl 0 fun _=>[]]),(9,bx [.d (DL y.1.rects_)])] ⟨KAt.CC (ref04_Of_spec P) Tryz.call93 [],⟨⟩⟩ ?_
  refine AW.SG0 Fm 2 [(6,pt 6)] [(0,bx [.d (DL p),ci q]),(6,bx [.d (DL y.1.rects_)])] ?_
  refine AW.ret ?_
  obtain rfl:=Option.some.inj h
  exact Kn.D Fm
 ·refine AW.seq ?_
  obtain ⟨I,h⟩:=gS h
  obtain ⟨i,N,h⟩:=bS h
  refine AW.G Fm [.s,.s,.s,.k (cE [(0,0)] [] (vi i.2) [(0,bx (gC l))] [(0,bx (gC i.1))]),.s] (fun K=>(_∧True)∧K 3∧True) [(0,pt 0),(1,vi b),(6,pt 6),(7,ow 7),(8,vi i.2)] [(0,bx (gC i.1)),(6,bx [.fl 0 fun _=>[]]),(7,AO (α:=Rect) ([]:List Rect))] ⟨⟨I,⟨⟩⟩,KAt.CC (keep_Tape_Next_spec N) Tryz.call15 [(0,0)],⟨⟩⟩ ?_
  refine AW.block (Kn.r Fm [(0,pt 0),(1,vi b),(6,pt 6),(7,ow 7),(8,vi i.2)] [(0,bx [.d (DL i.1.l_),ci i.1.at_]),(6,bx [.fl 0 fun _=>[]]),(7,AO ([]:List Rect))] (by kernel_rfl) ?_)
  refine AW.loopF (E' := fun z=>[(0,pt 0),(1,vi b),(6,pt 6),(7,ow 7),(8,vi z.1)]) (S' := fun z=>[(0,bx [.d (DL z.2.1),ci z.2.2.1]),(6,bx [.fl 0 fun _=>[]]),(7,AO z.2.2.2)]) (fun V z T B h=>?_) h
  obtain ⟨j,n,o,e⟩:=z
  refine AW.seq (AW.SG0 Fm 2 [(0,pt 0),(1,vi b),(6,pt 6),(7,ow 7),(8,vi j),(16,vb (decide ((0:Int)<j)))] [(0,bx [.d (DL n),ci o]),(6,bx [.fl 0 fun _=>[]]),(7,AO e)] ?_)
  refine AW.cN h (fun H h=>?_) (fun H h=>?_)
  ·refine AW.skip (AW.seq (AW.block ?_))
   obtain ⟨a,O,h⟩:=bS h
   obtain ⟨L,h⟩:=gS h
   refine AW.GW Fm [.s,.s,.s,.k (cE [(0,0)] [] (gE a.2) [(0,bx [.d (DL (α:=Int) (⟨n,o⟩ : Tape).l_),ci ((⟨n,o⟩ : Tape).at_)])] [(0,bx (gC a.1))]),.w (AL (α:=Rect) ([a.2]:List Rect)),.s,.s] (fun K=>K 3∧(ALe (.v (.c (.d (.lst 1 (litF 4 [.int .i64 a.2.left_,.int .i64 a.2.low_,.int .i64 a.2.right_,.int .i64 a.2.high_]))))) (AL (α:=Rect) ([a.2]:List Rect)))∧(_∧_∧True)∧True) [(0,pt 0),(1,vi b),(6,pt 6),(7,ow 24),(8,vi j)] [(0,bx (gC a.1)),(6,bx [.fl 0 fun _=>[]]),(24,AO (α:=Rect) (e++([a.2]:List Rect)))] ⟨KAt.CC (keep_Tape_Rect_spec O) Tryz.call92 [(0,0)],ALe.lst (.lit ([a.2]:List Rect) (by kernel_rfl)),⟨L,(Is.refl ([a.2]:List Rect):Is (List.length (α:=Rect) ([a.2]:List Rect)) (LF (α:=Rect) ([a.2]:List Rect)) ([a.2]:List Rect)).len,⟨⟩⟩,⟨⟩⟩ [(24,.arr 4 ((List.length (α:=Rect) e)+(List.length (α:=Rect) ([a.2]:List Rect))) (appF (List.length (α:=Rect) e) (LF (α:=Rect) e) (LF (α:=Rect) ([a.2]:List Rect))))] ⟨OLe.is (Is.app (Is.refl e) (Is.refl ([a.2]:List Rect))),⟨⟩⟩ ?_
   obtain ⟨M,h⟩:=gS h
   refine AW.pN Fm [.s,.s,.s] [(0,pt 0),(1,vi b),(6,pt 6),(7,ow 24),(8,vi (j-1))] [(0,bx (gC a.1)),(6,bx [.fl 0 fun _=>[]]),(24,AO (α:=Rect) (e++([a.2]:List Rect)))] (cT (cT M)) ?_
   exact Kn.RE Fm [(7,24)] (B ((j-1),a.1.l_,a.1.at_,(e++([a.2]:List Rect))) h)
  ·exact AW.exit (Kn.R Fm (E (e,n,o) h))
theorem slices_IndexFunc_Rect_spec {F:Nat} {a:(List Rect)} {d:Rect→Option Bool} {r:Int} (h:slices_IndexFunc_Rect F a d=some r) :
  FSpec Tryz.prog 237 [AL a,.v (.c (.sem (CloOK Tryz.prog (FR_Rect_Bool d))))] [] (vi r) []:=by
 refine FI Tryz.func237 prog_mixed prog_lay fun C Fm=>?_
 unfold slices_IndexFunc_Rect at h
 refine AW.SG0 Fm 1 [(0,AL a),(1,.v (.c (.sem (CloOK Tryz.prog (FR_Rect_Bool d)))))] [] ?_
 refine AW.join (r:=r) (fun z:Unit=>slices_IndexFunc_Rect_k1 F) (fun z=>[]) (fun z=>[]) (fun z h=>?_) (fun t j=>?_)
 ·refine AW.SG0 Fm 1 [(4,vi (-1:Int))] [] ?_
  refine AW.ret ?_
  obtain rfl:=Option.some.inj h
  exact Kn.D Fm
 ·refine AW.SG0 Fm 3 [(0,AL a),(1,.v (.c (.sem (CloOK Tryz.prog (FR_Rect_Bool d))))),(7,vi (lI a)),(8,vi 0)] [] ?_
  refine AW.block (AW.loopF (E' := fun z=>[(0,AL a),(1,.v (.c (.sem (CloOK Tryz.prog (FR_Rect_Bool d))))),(7,vi (lI a)),(8,vi z)]) (S' := fun z=>[]) (fun u b q i h=>?_) h)
  refine AW.SG0 Fm 1 [(0,AL a),(1,.v (.c (.sem (CloOK Tryz.prog (FR_Rect_Bool d))))),(7,vi (lI a)),(8,vi b),(9,vb (decide (b<(lI a))))] [] ?_
  refine AW.seq (AW.cN h (fun l h=>?_) (fun l h=>?_))
  ·refine AW.skip (AW.seq (AW.block (AW.SG0 Fm 2 [(0,AL a),(1,.v (.c (.sem (CloOK Tryz.prog (FR_Rect_Bool d))))),(5,vi b),(7,vi (lI a)),(8,vi b)] [] ?_)))
   refine AW.seq ?_
   obtain ⟨n,h⟩:=gS h
   obtain ⟨e,p,h⟩:=bS h
   refine AW.G Fm [.s,.s,.s,.s,.s,.k (sE (vb e))] (fun K=>_∧K 5∧True) [(0,AL a),(1,.v (.c (.sem (CloOK Tryz.prog (FR_Rect_Bool d))))),(5,vi b),(7,vi (lI a)),(8,vi b),(16,vb e)] [] ⟨n,KAt.sem (F:=(FR_Rect_Bool d)) (args:=[.v (.g [ci ((gl a b.toNat).left_),ci ((gl a b.toNat).low_),ci ((gl a b.toNat).right_),ci ((gl a b.toNat).high_)])]) ⟨(gl a b.toNat),e,p,rfl,rfl⟩ rfl (by kernel_rfl) (by kernel_rfl) (by kernel_rfl),⟨⟩⟩ ?_
   refine AW.cN h (fun m h=>?_) (fun m h=>?_)
   ·refine AW.SG0 Fm 2 [(4,vi b)] [] ?_
    refine AW.ret ?_
    obtain rfl:=Option.some.inj h
    exact Kn.D Fm
   ·refine AW.skip ?_
    obtain ⟨o,h⟩:=gS h
    refine AW.pN Fm [.s,.s] [(0,AL a),(1,.v (.c (.sem (CloOK Tryz.prog (FR_Rect_Bool d))))),(7,vi (lI a)),(8,vi (b+1))] [] (cT (cT o)) ?_
    exact Kn.R Fm (i (b+1) h)
  ·exact AW.exit (Kn.R Fm (j () h))
theorem slices_ContainsFunc_Rect_spec {F:Nat} {a:(List Rect)} {b:Rect→Option Bool} {r:Bool} (h:slices_ContainsFunc_Rect F a b=some r) :
  FSpec Tryz.prog 182 [AL a,.v (.c (.sem (CloOK Tryz.prog (FR_Rect_Bool b))))] [] (vb r) []:=by
 refine FI Tryz.func182 prog_mixed prog_lay fun C Fm=>?_
 unfold slices_ContainsFunc_Rect at h
 refine AW.SG0 Fm 1 [(0,AL a),(1,.v (.c (.sem (CloOK Tryz.prog (FR_Rect_Bool b)))))] [] ?_
 refine AW.seq ?_
 obtain ⟨d,e,h⟩:=bS h
 refine AW.G Fm [.s,.s,.k (cE [] [] (vi d) [] []),.s,.s] (fun K=>K 2∧True) [(4,vb (decide ((0:Int)≤d)))] [] ⟨KAt.callX (slices_IndexFunc_Rect_spec e) Tryz.call237 [] [] [.tmp 5,.tmp 6] rfl (by kernel_rfl) (by kernel_rfl) (by kernel_rfl) ⟨.p,ArgT.semX (by kernel_rfl) (by kernel_rfl) (by kernel_rfl),⟨⟩⟩,⟨⟩⟩ ?_
 refine AW.ret ?_
 obtain rfl:=Option.some.inj h
 exact Kn.D Fm
theorem region_proper_spec {F:Nat} {e:Rect} {r:Bool} (h:region_proper F e=some r) :
  FSpec Tryz.prog 184 [gE e] [] (vb r) []:=by
 refine FI Tryz.func184 prog_mixed prog_lay fun C Fm=>?_
 unfold region_proper at h
 refine AW.SG0 Fm 2 [(1,pt 1)] [(1,bx (gC e))] ?_
 refine AW.join (r:=r) (fun z:Bool=>region_proper_k0 F z) (fun z=>[(2,vb z)]) (fun z=>[]) (fun l h=>?_) (fun k b=>?_)
 ·refine AW.ret ?_
  obtain rfl:=Option.some.inj h
  exact Kn.D Fm
 ·rcases br_or h with ⟨a,h⟩|⟨a,h⟩
  ·rcases br_or h with ⟨c,h⟩|⟨c,h⟩
   ·rcases br_or h with ⟨d,h⟩|⟨d,h⟩
    ·rcases br_or h with ⟨i,h⟩|⟨i,h⟩
     ·rcases br_or h with ⟨j,h⟩|⟨j,h⟩
      ·refine AW.pN Fm [.s,.s,.s,.w (vb true),.s,.s,.s,.s,.s,.s,.w (vb true),.s,.s,.s,.s,.w (vb true),.s,.s,.s,.s,.w (vb true),.s,.s,.s,.s,.s,.s,.w (vb true),.s,.s,.s,.s,.s] [(2,vb (decide (e.high_≤(16384:Int))))] [] (cA (ALe.bool a) (cA (ALe.bool c) (cA (ALe.bool d) (cA (ALe.bool i) (cT (ALe.bool j)))))) ?_
       exact Kn.R Fm (b (decide (e.high_≤(16384:Int))) h)
      ·refine AW.pN Fm [.s,.s,.s,.w (vb true),.s,.s,.s,.s,.s,.s,.w (vb true),.s,.s,.s,.s,.w (vb true),.s,.s,.s,.s,.w (vb true),.s,.s,.s,.s,.s,.s,.w (vb false),.s,.s,.s,.s,.s] [(2,vb false)] [] (cA (ALe.bool a) (cA (ALe.bool c) (cA (ALe.bool d) (cA (ALe.bool i) (cT (ALe.bool j)))))) ?_
       exact Kn.R Fm (b false h)
     ·refine AW.pN Fm [.s,.s,.s,.w (vb true),.s,.s,.s,.s,.s,.s,.w (vb true),.s,.s,.s,.s,.w (vb true),.s,.s,.s,.s,.w (vb false),.s,.s,.s,.s,.s,.s,.s,.s,.s,.s,.s,.s] [(2,vb false)] [] (cA (ALe.bool a) (cA (ALe.bool c) (cA (ALe.bool d) (cT (ALe.bool i))))) ?_
      exact Kn.R Fm (b false h)
    ·refine AW.pN Fm [.s,.s,.s,.w (vb true),.s,.s,.s,.s,.s,.s,.w (vb true),.s,.s,.s,.s,.w (vb false),.s,.s,.s,.s,.s,.s,.s,.s,.s,.s,.s,.s,.s,.s,.s,.s,.s] [(2,vb false)] [] (cA (ALe.bool a) (cA (ALe.bool c) (cT (ALe.bool d)))) ?_
     exact Kn.R Fm (b false h)
   ·refine AW.pN Fm [.s,.s,.s,.w (vb true),.s,.s,.s,.s,.s,.s,.w (vb false),.s,.s,.s,.s,.s,.s,.s,.s,.s,.s,.s,.s,.s,.s,.s,.s,.s,.s,.s,.s,.s,.s] [(2,vb false)] [] (cA (ALe.bool a) (cT (ALe.bool c))) ?_
    exact Kn.R Fm (b false h)
  ·refine AW.pN Fm [.s,.s,.s,.w (vb false),.s,.s,.s,.s,.s,.s,.s,.s,.s,.s,.s,.s,.s,.s,.s,.s,.s,.s,.s,.s,.s,.s,.s,.s,.s,.s,.s,.s,.s] [(2,vb false)] [] (cT (ALe.bool a)) ?_
   exact Kn.R Fm (b false h)
theorem region_Valid_1_spec {F:Nat} {a:Rect} {r:Bool} (h:region_Valid_1 F a=some r) :
  FSpec Tryz.prog 183 [gE a] [] (vb r) []:=by
 refine FI Tryz.func183 prog_mixed prog_lay fun C Fm=>?_
 unfold region_Valid_1 at h
 refine AW.SG0 Fm 2 [(1,pt 1)] [(1,bx (gC a))] ?_
 refine AW.seq ?_
 obtain ⟨b,c,h⟩:=bS h
 refine AW.G Fm [.s,.k (cE [] [] (vb b) [] []),.s,.s] (fun K=>K 1∧True) [(2,vb (!b))] [] ⟨KAt.CC (region_proper_spec c) Tryz.call184 [],⟨⟩⟩ ?_
 refine AW.ret ?_
 obtain rfl:=Option.some.inj h
 exact Kn.D Fm
theorem slices_Compact_int_spec {F:Nat} {b:(List Int)} {r:(List Int)} (h:slices_Compact_int F b=some r) :
  FSpec Tryz.prog 241 [ow 0] [(0,AO b)] (ow 100) [(100,AO (α:=Int) r)]:=by
 refine FI Tryz.func241 prog_mixed prog_lay fun C Fm=>?_
 unfold slices_Compact_int at h
 refine AW.SG Fm [.m] (fun K=>True) [(0,ow 0)] [(0,AO b)] True.intro ?_
 refine AW.seq (AW.SG0 Fm 3 [(0,ow 0),(8,vb (decide ((lI b)<(2:Int))))] [(0,AO b)] ?_)
 refine AW.cN h (fun T h=>?_) (fun T h=>?_)
 ·refine AW.SG0 Fm 2 [(2,ow 0)] [(0,AO b)] ?_
  refine AW.ret ?_
  obtain rfl:=Option.some.inj h
  exact Kn.re Fm [(100,0)] [(2,ow 100)] [(100,AO b)] (by kernel_rfl) (by kernel_rfl) (by kernel_rfl) (by kernel_rfl) (Kn.dn Fm (by kernel_rfl))
 ·refine AW.skip (AW.join (r:=r) (fun z:Unit=>slices_Compact_int_k5 F b) (fun z=>[(0,ow 0)]) (fun z=>[(0,AO b)]) (fun z h=>?_) (fun u0 P=>?_))
  ·refine AW.SG0 Fm 2 [(2,ow 0)] [(0,AO b)] ?_
   refine AW.ret ?_
   obtain rfl:=Option.some.inj h
   exact Kn.re Fm [(100,0)] [(2,ow 100)] [(100,AO b)] (by kernel_rfl) (by kernel_rfl) (by kernel_rfl) (by kernel_rfl) (Kn.dn Fm (by kernel_rfl))
  ·refine AW.SG0 Fm 1 [(0,ow 0),(3,vi 1)] [(0,AO b)] ?_
   refine AW.block (AW.loopF (E' := fun z=>[(0,ow 0),(3,vi z)]) (S' := fun z=>[(0,AO b)]) (fun G a o0 I h=>?_) h)
   refine AW.seq (AW.SG0 Fm 4 [(0,ow 0),(3,vi a),(13,vb (decide (a<(lI b))))] [(0,AO b)] ?_)
   refine AW.cN h (fun U h=>?_) (fun U h=>?_)
   ·refine AW.skip (AW.join (r:=r) (fun z:Unit=>slices_Compact_int_k4 F a G) (fun z=>[(0,ow 0),(3,vi a)]) (fun z=>[(0,AO b)]) (fun z h=>?_) (fun t0 O=>?_))
    ·obtain ⟨n0,h⟩:=gS h
     refine AW.pN Fm [.s,.s,.s] [(0,ow 0),(3,vi (a+1))] [(0,AO b)] (cT (cT n0)) ?_
     exact Kn.R Fm (I (a+1) h)
    ·refine AW.block ?_
     obtain ⟨y,Y,A,h⟩:=gS3 h
     refine AW.SP Fm [.s,.s,.s,.s,.s,.s,.s,.s,.s,.s] [(0,ow 0),(3,vi a),(25,vb ((gl b a.toNat)==(gl b (a-1).toNat)))] [(0,AO b)] (cA y (cA (toNat_lt y) (cA (cT Y) (cA A (cT (toNat_lt A)))))) ?_
     refine AW.cN h (fun V h=>?_) (fun V h=>?_)
     ·obtain ⟨Z,h⟩:=gS h
      refine AW.SG Fm [.s,.s,.k (rE { v:=.v (.c (.sub 0 1 (0+(a).toNat) ((List.length (α:=Int) b)-(a).toNat))) }),.s] (fun K=>K 2∧True) [(0,ow 0),(3,vi a),(4,.v (.c (.sub 0 1 (0+(a).toNat) ((List.length (α:=Int) b)-(a).toNat))))] [(0,AO b)] ⟨KAt.vslice (l:=(some a)) (u:=none) (id:=0) (lo0:=0) (n:=(List.length (α:=Int) b)) (N:=List.length (α:=Int) b) (f:=LF (α:=Int) b) prog_lay slT22 rfl rfl (by kernel_rfl) (by kernel_rfl) (by kernel_rfl) (by kernel_rfl) (by kernel_rfl) Z (by kernel_rfl),⟨⟩⟩ ?_
      refine AW.join (r:=r) (fun z:Int×(List Int)=>slices_Compact_int_k3 F z.1 z.2) (fun z=>[(0,ow 0),(3,vi z.1)]) (fun z=>[(0,AO z.2)]) (fun z h=>?_) (fun s0 M=>?_)
      ·obtain ⟨d,o⟩:=z
       obtain ⟨m0,h⟩:=gS h
       refine AW.SW Fm [.s,.s,.k (rE { v:=.v (.c (.sub 0 1 (0+(d).toNat) ((List.length (α:=Int) o)-(d).toNat))) }),.k (rE { v:=.any,upd:=some (0,.arr 1 (List.length (α:=Int) o) (fun i=>if (0+(d).toNat)≤i∧i<(0+(d).toNat)+((List.length (α:=Int) o)-(d).toNat) then (fun _=>[.int .i64 0]) (i-(0+(d).toNat)) else (LF (α:=Int) o) i)) })] (fun K=>K 2∧K 3∧True) [(0,ow 0),(3,vi d)] [(0,AO (α:=Int) (clr o (0+(d).toNat) ((List.length (α:=Int) o)-(d).toNat)))] ⟨KAt.vslice (l:=(some d)) (u:=none) (id:=0) (lo0:=0) (n:=(List.length (α:=Int) o)) (N:=List.length (α:=Int) o) (f:=LF (α:=Int) o) prog_lay slT22 rfl rfl (by kernel_rfl) (by kernel_rfl) (by kernel_rfl) (by kernel_rfl) (by kernel_rfl) m0 (by kernel_rfl),KAt.vclear (id:=0) (lo0:=(0+(d).toNat)) (n:=((List.length (α:=Int) o)-(d).toNat)) (N:=List.length (α:=Int) o) (f:=(LF (α:=Int) o)) prog_lay slT22 [.int .i64 0] [.int .i64 0] ⟨DLe.refl _,⟨⟩⟩ rfl rfl (by kernel_rfl) (Nat.succ_pos _) (by kernel_rfl) (by kernel_rfl) (by kernel_rfl) (by kernel_rfl) rfl,⟨⟩⟩ [(0,.arr 1 (List.length (α:=Int) o) (fun i=>if (0+(d).toNat)≤i∧i<(0+(d).toNat)+((List.length (α:=Int) o)-(d).toNat) then (fun _=>[.int .i64 0]) (i-(0+(d).toNat)) else (LF (α:=Int) o) i))] ⟨OLe.is (Is.clr (l:=o) (0+(d).toNat) ((List.length (α:=Int) o)-(d).toNat) (zd:=[.int .i64 0]) (by kernel_rfl)),⟨⟩⟩ ?_
       obtain ⟨B,h⟩:=gS h
       refine AW.SV Fm [.s,.s,.m,.s] [(2,ow 59)] [(59,AO (α:=Int) ((clr o (0+(d).toNat) ((List.length (α:=Int) o)-(d).toNat)).take (d).toNat))] (cT B) [(59,.arr 1 ((d).toNat) (LF (α:=Int) (clr o (0+(d).toNat) ((List.length (α:=Int) o)-(d).toNat))))] ⟨OLe.is (Is.take (Is.refl (clr o (0+(d).toNat) ((List.length (α:=Int) o)-(d).toNat))) B.2),⟨⟩⟩ ?_
       refine AW.ret ?_
       obtain rfl:=Option.some.inj h
       exact Kn.re Fm [(100,59)] [(2,ow 100)] [(100,AO (α:=Int) ((clr o (0+(d).toNat) ((List.length (α:=Int) o)-(d).toNat)).take (d).toNat))] (by kernel_rfl) (by kernel_rfl) (by kernel_rfl) (by kernel_rfl) (Kn.dn Fm (by kernel_rfl))
      ·refine AW.SG0 Fm 1 [(0,ow 0),(3,vi a),(4,.v (.c (.sub 0 1 (0+(a).toNat) ((List.length (α:=Int) b)-(a).toNat)))),(5,vi 1)] [(0,AO b)] ?_
       refine AW.block (AW.loopF (E' := fun z=>[(0,ow 0),(3,vi z.1),(4,.v (.c (.sub 0 1 (0+(a).toNat) ((List.length (α:=Int) b)-(a).toNat)))),(5,vi z.2.1)]) (S' := fun z=>[(0,AO z.2.2)]) (fun H z p0 L h=>?_) h)
       obtain ⟨q,p,e⟩:=z
       refine AW.seq (AW.SG Fm [.s,.s,.k (rE { v:=vi ((((List.length (α:=Int) b)-(a).toNat):Nat):Int) }),.s] (fun K=>K 2∧True) [(0,ow 0),(3,vi q),(4,.v (.c (.sub 0 1 (0+(a).toNat) ((List.length (α:=Int) b)-(a).toNat)))),(5,vi p),(32,vb (decide (p<((((List.length (α:=Int) b)-(a).toNat):Nat):Int))))] [(0,AO e)] ⟨KAt.vlen (es:=1) (id:=0) (lo0:=(0+(a).toNat)) (n:=((List.length (α:=Int) b)-(a).toNat)) (N:=List.length (α:=Int) e) (f:=LF (α:=Int) e) prog_lay slT22 rfl rfl (by kernel_rfl) (by kernel_rfl) (by kernel_rfl),⟨⟩⟩ ?_)
       refine AW.cN h (fun W h=>?_) (fun W h=>?_)
       ·refine AW.skip (AW.join (r:=r) (fun z:Int×(List Int)=>slices_Compact_int_k2 F p H z.1 z.2) (fun z=>[(0,ow 0),(3,vi z.1),(4,.v (.c (.sub 0 1 (0+(a).toNat) ((List.length (α:=Int) b)-(a).toNat)))),(5,vi p)]) (fun z=>[(0,AO z.2)]) (fun z h=>?_) (fun q0 w=>?_))
        ·obtain ⟨D,E⟩:=z
         obtain ⟨l0,h⟩:=gS h
         refine AW.pN Fm [.s,.s,.s] [(0,ow 0),(3,vi D),(4,.v (.c (.sub 0 1 (0+(a).toNat) ((List.length (α:=Int) b)-(a).toNat)))),(5,vi (p+1))] [(0,AO E)] (cT (cT l0)) ?_
         exact Kn.R Fm (L (D,(p+1),E) h)
        ·refine AW.block ?_
         obtain ⟨a0,b0,c0,d0,h⟩:=gS4 h
         obtain ⟨e0,h⟩:=gS h
         refine AW.SG Fm [.s,.s,.k (rE { v:=.v (.c (.pte 0 1 ((0+(a).toNat)+(p).toNat) 0)) }),.s,.s,.s,.s,.k (rE { v:=.v (.c (.pte 0 1 ((0+(a).toNat)+((p-1)).toNat) 0)) }),.s,.s] (fun K=>K 2∧_∧(_∧True)∧K 7∧_∧True) [(0,ow 0),(3,vi q),(4,.v (.c (.sub 0 1 (0+(a).toNat) ((List.length (α:=Int) b)-(a).toNat)))),(5,vi p),(44,vb ((gl e ((0+(a).toNat)+(p).toNat)) != (gl e ((0+(a).toNat)+((p-1)).toNat))))] [(0,AO e)] ⟨KAt.vindex (m:=p) (id:=0) (lo0:=(0+(a).toNat)) (n:=((List.length (α:=Int) b)-(a).toNat)) (N:=List.length (α:=Int) e) (f:=LF (α:=Int) e) prog_lay slT22 rfl rfl (by kernel_rfl) (by kernel_rfl) (by kernel_rfl) (by kernel_rfl) a0 (by kernel_rfl),b0,⟨c0,⟨⟩⟩,KAt.vindex (m:=(p-1)) (id:=0) (lo0:=(0+(a).toNat)) (n:=((List.length (α:=Int) b)-(a).toNat)) (N:=List.length (α:=Int) e) (f:=LF (α:=Int) e) prog_lay slT22 rfl rfl (by kernel_rfl) (by kernel_rfl) (by kernel_rfl) (by kernel_rfl) d0 (by kernel_rfl),e0,⟨⟩⟩ ?_
         refine AW.cN h (fun X h=>?_) (fun X h=>?_)
         ·obtain ⟨i0,j0,t,h⟩:=gS3 h
          refine AW.SW Fm [.s,.s,.s,.s,.k (rE { v:=.v (.c (.pte 0 1 ((0+(a).toNat)+(p).toNat) 0)) }),.s,.s,.s] (fun K=>K 4∧_∧_∧_∧True) [(0,ow 0),(3,vi q),(4,.v (.c (.sub 0 1 (0+(a).toNat) ((List.length (α:=Int) b)-(a).toNat)))),(5,vi p)] [(0,AO (α:=Int) (List.set e q.toNat (gl e ((0+(a).toNat)+(p).toNat))))] ⟨KAt.vindex (m:=p) (id:=0) (lo0:=(0+(a).toNat)) (n:=((List.length (α:=Int) b)-(a).toNat)) (N:=List.length (α:=Int) e) (f:=LF (α:=Int) e) prog_lay slT22 rfl rfl (by kernel_rfl) (by kernel_rfl) (by kernel_rfl) (by kernel_rfl) i0 (by kernel_rfl),j0,t,(toNat_lt t),⟨⟩⟩ [(0,.arr 1 (List.length (α:=Int) e) (fun j=>if j=q.toNat then splice ((LF (α:=Int) e) q.toNat) 0 [.int .i64 (gl e ((0+(a).toNat)+(p).toNat))] else (LF (α:=Int) e) j))] ⟨OLe.is (Is.set (Is.refl e) (toNat_lt t) (gl e ((0+(a).toNat)+(p).toNat)) (by kernel_rfl)),⟨⟩⟩ ?_
          obtain ⟨k0,h⟩:=gS h
          refine AW.pN Fm [.s,.s,.s] [(0,ow 0),(3,vi (q+1)),(4,.v (.c (.sub 0 1 (0+(a).toNat) ((List.length (α:=Int) b)-(a).toNat)))),(5,vi p)] [(0,AO (α:=Int) (List.set e q.toNat (gl e ((0+(a).toNat)+(p).toNat))))] (cT (cT k0)) ?_
          exact Kn.R Fm (w ((q+1),(List.set e q.toNat (gl e ((0+(a).toNat)+(p).toNat)))) h)
         ·exact AW.skip (Kn.R Fm (w (q,e) h))
       ·exact AW.exit (Kn.R Fm (M (q,e) h))
     ·exact AW.skip (Kn.R Fm (O () h))
   ·exact AW.exit (Kn.R Fm (P () h))
theorem region_Cuts_spec {F:Nat} {a:(List (List Rect))} {r:(List Int)} (h:region_Cuts F a=some r) :
  FSpec Tryz.prog 188 [AL a] [] (AL (α:=Int) r) []:=by
 refine FI Tryz.func188 prog_mixed prog_lay fun C Fm=>?_
 unfold region_Cuts at h
 refine AW.SG0 Fm 1 [(0,AL a)] [] ?_
 refine AW.SW Fm [.m] (fun K=>True) [(0,AL a),(3,ow 3)] [(3,AO (α:=Int) ([]:List Int))] True.intro [(3,.arr 1 (0) (fun _=>[]))] ⟨OLe.is ((Is.nil (α:=Int))),⟨⟩⟩ ?_
 refine AW.join (r:=r) (fun z:(List Int)=>region_Cuts_k3 F z) (fun z=>[(3,ow 3)]) (fun z=>[(3,AO z)]) (fun P h=>?_) (fun W y=>?_)
 ·refine AW.seq ?_
  obtain ⟨n,N,h⟩:=bS h
  refine AW.G Fm [.s,.k (cE [(0,3)] [] (.any) [(0,AO P)] [(0,AO n)])] (fun K=>K 1∧True) [(3,ow 3)] [(3,AO n)] ⟨KAt.CC (sortI_spec N) Tryz.call214 [(0,3)],⟨⟩⟩ ?_
  refine AW.seq ?_
  obtain ⟨l,O,h⟩:=bS h
  refine AW.G Fm [.s,.k (cE [(0,3),(100,32)] [] (ow 100) [(0,AO n)] [(100,AO l)]),.s] (fun K=>K 1∧True) [(2,ow 32)] [(32,AO l)] ⟨KAt.CC (slices_Compact_int_spec O) Tryz.call241 [(0,3),(100,32)],⟨⟩⟩ ?_
  refine AW.ret ?_
  obtain rfl:=Option.some.inj h
  refine Kn.r Fm [(2,ow 32)] [(32,AO l)] (by kernel_rfl) ?_
  refine Kn.frz [(2,AL l)] [] (by kernel_rfl) (by kernel_rfl) (by kernel_rfl) ?_
  exact Kn.D Fm
 ·refine AW.SG0 Fm 3 [(3,ow 3),(8,AL a),(9,vi (lI a)),(10,vi 0)] [(3,AO (α:=Int) ([]:List Int))] ?_
  refine AW.block (Kn.r Fm [(3,ow 3),(8,AL a),(9,vi (lI a)),(10,vi 0)] [(3,AO ([]:List Int))] (by kernel_rfl) ?_)
  refine AW.loopF (E' := fun z=>[(3,ow 3),(8,AL a),(9,vi (lI a)),(10,vi z.1)]) (S' := fun z=>[(3,AO z.2)]) (fun p z T q h=>?_) h
  obtain ⟨b,j⟩:=z
  refine AW.SG0 Fm 1 [(3,ow 3),(8,AL a),(9,vi (lI a)),(10,vi b),(11,vb (decide (b<(lI a))))] [(3,AO j)] ?_
  refine AW.seq (AW.cN h (fun A h=>?_) (fun A h=>?_))
  ·refine AW.skip (AW.join (r:=r) (fun z:(List Int)=>region_Cuts_k2 F b p z) (fun z=>[(3,ow 3),(8,AL a),(9,vi (lI a)),(10,vi b)]) (fun z=>[(3,AO z)]) (fun o h=>?_) (fun V u=>?_))
   ·obtain ⟨M,h⟩:=gS h
    refine AW.pN Fm [.s,.s] [(3,ow 3),(8,AL a),(9,vi (lI a)),(10,vi (b+1))] [(3,AO o)] (cT (cT M)) ?_
    exact Kn.R Fm (q ((b+1),o) h)
   ·refine AW.block ?_
    obtain ⟨E,h⟩:=gS h
    refine AW.SP Fm [.s,.s,.s] [(3,ow 3),(5,AL (α:=Rect) (gl a b.toNat)),(8,AL a),(9,vi (lI a)),(10,vi b)] [(3,AO j)] (cT E) ?_
    refine AW.SG0 Fm 3 [(3,ow 3),(8,AL a),(9,vi (lI a)),(10,vi b),(14,AL (α:=Rect) (gl a b.toNat)),(15,vi (lI (gl a b.toNat))),(16,vi 0)] [(3,AO j)] ?_
    refine AW.block (AW.loopF (E' := fun z=>[(3,ow 3),(8,AL a),(9,vi (lI a)),(10,vi b),(14,AL (α:=Rect) (gl a b.toNat)),(15,vi (lI (gl a b.toNat))),(16,vi z.1)]) (S' := fun z=>[(3,AO z.2)]) (fun X z U t h=>?_) h)
    obtain ⟨e,i⟩:=z
    refine AW.SG0 Fm 1 [(3,ow 3),(8,AL a),(9,vi (lI a)),(10,vi b),(14,AL (α:=Rect) (gl a b.toNat)),(15,vi (lI (gl a b.toNat))),(16,vi e),(17,vb (decide (e<(lI (gl a b.toNat)))))] [(3,AO i)] ?_
    refine AW.seq (AW.cN h (fun B h=>?_) (fun B h=>?_))
    ·refine AW.skip (AW.seq (AW.block ?_))
     obtain ⟨H,h⟩:=gS h
     refine AW.SP Fm [.s,.s,.s,.s] [(3,ow 3),(7,pt 7),(8,AL a),(9,vi (lI a)),(10,vi b),(14,AL (α:=Rect) (gl a b.toNat)),(15,vi (lI (gl a b.toNat))),(16,vi e)] [(3,AO i),(7,bx [ci ((gl (gl a b.toNat) e.toNat).left_),ci ((gl (gl a b.toNat) e.toNat).low_),ci ((gl (gl a b.toNat) e.toNat).right_),ci ((gl (gl a b.toNat) e.toNat).high_)])] (cT H) ?_
     obtain ⟨I,h⟩:=gS h
     refine AW.WP Fm [.s,.s,.s,.s,.s,.w (AL (α:=Int) ([(gl (gl a b.toNat) e.toNat).low_,(gl (gl a b.toNat) e.toNat).high_]:List Int)),.s,.s] [(3,ow 26),(8,AL a),(9,vi (lI a)),(10,vi b),(14,AL (α:=Rect) (gl a b.toNat)),(15,vi (lI (gl a b.toNat))),(16,vi e)] [(26,AO (α:=Int) (i++([(gl (gl a b.toNat) e.toNat).low_,(gl (gl a b.toNat) e.toNat).high_]:List Int)))] (cA (ALe.lst (.lit ([(gl (gl a b.toNat) e.toNat).low_,(gl (gl a b.toNat) e.toNat).high_]:List Int) (by kernel_rfl)):ALe (.v (.c (.d (.lst 2 (litF 1 [.int .i64 (gl (gl a b.toNat) e.toNat).low_,.int .i64 (gl (gl a b.toNat) e.toNat).high_]))))) (AL (α:=Int) ([(gl (gl a b.toNat) e.toNat).low_,(gl (gl a b.toNat) e.toNat).high_]:List Int))) (cT (cA I (cT (Is.refl ([(gl (gl a b.toNat) e.toNat).low_,(gl (gl a b.toNat) e.toNat).high_]:List Int):Is (List.length (α:=Int) ([(gl (gl a b.toNat) e.toNat).low_,(gl (gl a b.toNat) e.toNat).high_]:List Int)) (LF (α:=Int) ([(gl (gl a b.toNat) e.toNat).low_,(gl (gl a b.toNat) e.toNat).high_]:List Int)) ([(gl (gl a b.toNat) e.toNat).low_,(gl (gl a b.toNat) e.toNat).high_]:List Int)).len)))) [(26,.arr 1 ((List.length (α:=Int) i)+(List.length (α:=Int) ([(gl (gl a b.toNat) e.toNat).low_,(gl (gl a b.toNat) e.toNat).high_]:List Int))) (appF (List.length (α:=Int) i) (LF (α:=Int) i) (LF (α:=Int) ([(gl (gl a b.toNat) e.toNat).low_,(gl (gl a b.toNat) e.toNat).high_]:List Int))))] ⟨OLe.is (Is.app (Is.refl i) (Is.refl ([(gl (gl a b.toNat) e.toNat).low_,(gl (gl a b.toNat) e.toNat).high_]:List Int))),⟨⟩⟩ ?_
     obtain ⟨L,h⟩:=gS h
     refine AW.pN Fm [.s,.s] [(3,ow 26),(8,AL a),(9,vi (lI a)),(10,vi b),(14,AL (α:=Rect) (gl a b.toNat)),(15,vi (lI (gl a b.toNat))),(16,vi (e+1))] [(26,AO (α:=Int) (i++([(gl (gl a b.toNat) e.toNat).low_,(gl (gl a b.toNat) e.toNat).high_]:List Int)))] (cT (cT L)) ?_
     exact Kn.RE Fm [(3,26)] (t ((e+1),(i++([(gl (gl a b.toNat) e.toNat).low_,(gl (gl a b.toNat) e.toNat).high_]:List Int))) h)
    ·exact AW.exit (Kn.R Fm (u i h))
  ·exact AW.exit (Kn.R Fm (y j h))
theorem cmp_isNaN_int_spec {F:Nat} {a:Int} {r:Bool} (h:cmp_isNaN_int F a=some r) :
  FSpec Tryz.prog 256 [vi a] [] (vb r) []:=by
 refine FI Tryz.func256 prog_mixed prog_lay fun C Fm=>?_
 unfold cmp_isNaN_int at h
 refine AW.SG0 Fm 1 [(0,vi a)] [] ?_
 refine AW.SG0 Fm 4 [(2,vb (a != a))] [] ?_
 refine AW.ret ?_
 obtain rfl:=Option.some.inj h
 exact Kn.D Fm
theorem cmp_Compare_int_spec {F:Nat} {a:Int} {b:Int} {r:Int} (h:cmp_Compare_int F a b=some r) :
  FSpec Tryz.prog 197 [vi a,vi b] [] (vi r) []:=by
 refine FI Tryz.func197 prog_mixed prog_lay fun C Fm=>?_
 unfold cmp_Compare_int at h
 refine AW.SG0 Fm 1 [(0,vi a),(1,vi b)] [] ?_
 refine AW.seq ?_
 obtain ⟨d,n,h⟩:=bS h
 refine AW.G Fm [.s,.k (cE [] [] (vb d) [] []),.s] (fun K=>K 1∧True) [(0,vi a),(1,vi b),(5,vb d)] [] ⟨KAt.CC (cmp_isNaN_int_spec n) Tryz.call256 [],⟨⟩⟩ ?_
 refine AW.seq ?_
 obtain ⟨c,o,h⟩:=bS h
 refine AW.G Fm [.s,.k (cE [] [] (vb c) [] []),.s] (fun K=>K 1∧True) [(0,vi a),(1,vi b),(5,vb d),(6,vb c)] [] ⟨KAt.CC (cmp_isNaN_int_spec o) Tryz.call256 [],⟨⟩⟩ ?_
 refine AW.seq (AW.SG0 Fm 1 [(0,vi a),(1,vi b),(6,vb c),(11,vb d)] [] ?_)
 refine AW.cN h (fun e h=>?_) (fun e h=>?_)
 ·refine AW.seq (AW.SG0 Fm 1 [(12,vb c)] [] ?_)
  refine AW.cN h (fun i h=>?_) (fun i h=>?_)
  ·refine AW.SG0 Fm 1 [(4,vi 0)] [] ?_
   refine AW.ret ?_
   obtain rfl:=Option.some.inj h
   exact Kn.D Fm
  ·refine AW.skip (AW.SG0 Fm 1 [(4,vi (-1:Int))] [] ?_)
   refine AW.ret ?_
   obtain rfl:=Option.some.inj h
   exact Kn.D Fm
 ·refine AW.skip (AW.seq (AW.SG0 Fm 1 [(0,vi a),(1,vi b),(13,vb c)] [] ?_))
  refine AW.cN h (fun j h=>?_) (fun j h=>?_)
  ·refine AW.SG0 Fm 1 [(4,vi 1)] [] ?_
   refine AW.ret ?_
   obtain rfl:=Option.some.inj h
   exact Kn.D Fm
  ·refine AW.skip (AW.seq (AW.SG0 Fm 3 [(0,vi a),(1,vi b),(16,vb (decide (a<b)))] [] ?_))
   refine AW.cN h (fun l h=>?_) (fun l h=>?_)
   ·refine AW.SG0 Fm 1 [(4,vi (-1:Int))] [] ?_
    refine AW.ret ?_
    obtain rfl:=Option.some.inj h
    exact Kn.D Fm
   ·refine AW.skip (AW.seq (AW.SG0 Fm 3 [(19,vb (decide (b<a)))] [] ?_))
    refine AW.cN h (fun m h=>?_) (fun m h=>?_)
    ·refine AW.SG0 Fm 1 [(4,vi 1)] [] ?_
     refine AW.ret ?_
     obtain rfl:=Option.some.inj h
     exact Kn.D Fm
    ·refine AW.skip (AW.SG0 Fm 1 [(4,vi 0)] [] ?_)
     refine AW.ret ?_
     obtain rfl:=Option.some.inj h
     exact Kn.D Fm
theorem region_Row_1_spec {F:Nat} {a:Span} {b:Span} {r:Int} (h:region_Row_1 F a b=some r) :
  FSpec Tryz.prog 245 [gE a,gE b] [] (vi r) []:=by
 refine FI Tryz.func245 prog_mixed prog_lay fun C Fm=>?_
 unfold region_Row_1 at h
 refine AW.SG0 Fm 3 [(2,pt 2),(3,pt 3)] [(2,bx (gC a)),(3,bx (gC b))] ?_
 refine AW.seq ?_
 obtain ⟨c,d,h⟩:=bS h
 refine AW.G Fm [.s,.s,.s,.s,.k (cE [] [] (vi c) [] []),.s] (fun K=>K 4∧True) [(4,vi c)] [] ⟨KAt.CC (cmp_Compare_int_spec d) Tryz.call197 [],⟨⟩⟩ ?_
 refine AW.ret ?_
 obtain rfl:=Option.some.inj h
 exact Kn.D Fm
theorem region_Row_spec {F:Nat} {a:(List Rect)} {n:Int} {r:(List Span)} (h:region_Row F a n=some r) :
  FSpec Tryz.prog 191 [AL a,vi n] [] (AL (α:=Span) r) []:=by
 refine FI Tryz.func191 prog_mixed prog_lay fun C Fm=>?_
 unfold region_Row at h
 refine AW.SG0 Fm 1 [(0,AL a),(1,vi n)] [] ?_
 refine AW.SW Fm [.m] (fun K=>True) [(0,AL a),(1,vi n),(5,ow 5)] [(5,AO (α:=Span) ([]:List Span))] True.intro [(5,.arr 2 (0) (fun _=>[]))] ⟨OLe.is ((Is.nil (α:=Span))),⟨⟩⟩ ?_
 refine AW.join (r:=r) (fun z:(List Span)=>region_Row_k3 F z) (fun z=>[(5,ow 5)]) (fun z=>[(5,AO z)]) (fun p0 h=>?_) (fun u0 W=>?_)
 ·refine AW.seq ?_
  obtain ⟨b,o0,h⟩:=bS h
  refine AW.G Fm [.s,.k (cE [(0,5)] [] (.any) [(0,AO p0)] [(0,AO b)])] (fun K=>K 1∧True) [(5,ow 5)] [(5,AO b)] ⟨KAt.callX (sortF_spec o0) Tryz.call244 [(0,5)] [] [.tmp 37,.func 245] rfl (by kernel_rfl) (by kernel_rfl) (by kernel_rfl) ⟨.p,ArgT.cloX Tryz.call245 [] (fun args r hq=>by obtain ⟨y0,y1,y,hq,rfl,rfl⟩:=hq; exact Eq.mp (by kernel_rfl) (region_Row_1_spec hq)) (fun args r hq=>by obtain ⟨y0,y1,y,hq,rfl,rfl⟩:=hq; rfl) (by kernel_rfl) [] (by kernel_rfl) (by kernel_rfl) (True.intro) (by kernel_rfl),⟨⟩⟩,⟨⟩⟩ ?_
  refine AW.SW Fm [.m] (fun K=>True) [(5,ow 5),(8,ow 8)] [(5,AO b),(8,AO (α:=Span) ([]:List Span))] True.intro [(8,.arr 2 (0) (fun _=>[]))] ⟨OLe.is ((Is.nil (α:=Span))),⟨⟩⟩ ?_
  refine AW.join (r:=r) (fun z:(List Span)=>region_Row_k7 F z) (fun z=>[(8,ow 8)]) (fun z=>[(8,AO z)]) (fun A h=>?_) (fun D0 Y=>?_)
  ·refine AW.SG0 Fm 2 [(4,ow 8)] [(8,AO A)] ?_
   refine AW.ret ?_
   obtain rfl:=Option.some.inj h
   refine Kn.r Fm [(4,ow 8)] [(8,AO A)] (by kernel_rfl) ?_
   refine Kn.frz [(4,AL A)] [] (by kernel_rfl) (by kernel_rfl) (by kernel_rfl) ?_
   exact Kn.D Fm
  ·refine AW.SG0 Fm 3 [(8,ow 8),(39,ow 5),(40,vi (lI b)),(41,vi 0)] [(5,AO b),(8,AO (α:=Span) ([]:List Span))] ?_
   refine AW.block (Kn.r Fm [(8,ow 8),(39,ow 5),(40,vi (lI b)),(41,vi 0)] [(5,AO b),(8,AO ([]:List Span))] (by kernel_rfl) ?_)
   refine AW.loopF (E' := fun z=>[(8,ow 8),(39,ow 5),(40,vi (lI b)),(41,vi z.1)]) (S' := fun z=>[(5,AO b),(8,AO z.2)]) (fun E z w0 X h=>?_) h
   obtain ⟨l,i⟩:=z
   refine AW.SG0 Fm 1 [(8,ow 8),(39,ow 5),(40,vi (lI b)),(41,vi l),(42,vb (decide (l<(lI b))))] [(5,AO b),(8,AO i)] ?_
   refine AW.seq (AW.cN h (fun b0 h=>?_) (fun b0 h=>?_))
   ·refine AW.skip (AW.join (r:=r) (fun z:(List Span)=>region_Row_k6 F l E z) (fun z=>[(8,ow 8),(39,ow 5),(40,vi (lI b)),(41,vi l)]) (fun z=>[(5,AO b),(8,AO z)]) (fun U h=>?_) (fun B0 M=>?_))
    ·obtain ⟨n0,h⟩:=gS h
     refine AW.pN Fm [.s,.s] [(8,ow 8),(39,ow 5),(40,vi (lI b)),(41,vi (l+1))] [(5,AO b),(8,AO U)] (cT (cT n0)) ?_
     exact Kn.R Fm (X ((l+1),U) h)
    ·refine AW.block ?_
     obtain ⟨N,h⟩:=gS h
     refine AW.SP Fm [.s,.s,.s,.s] [(8,ow 8),(10,pt 10),(39,ow 5),(40,vi (lI b)),(41,vi l)] [(5,AO b),(8,AO i),(10,bx [ci ((gl b l.toNat).left_),ci ((gl b l.toNat).right_)])] (cA N (cT (toNat_lt N))) ?_
     refine AW.SG0 Fm 3 [(8,ow 8),(10,pt 10),(11,vi (lI i)),(39,ow 5),(40,vi (lI b)),(41,vi l)] [(5,AO b),(8,AO i),(10,bx [ci ((gl b l.toNat).left_),ci ((gl b l.toNat).right_)])] ?_
     refine AW.join (r:=r) (fun z:Bool=>region_Row_k5 F b l i E z) (fun z=>[(8,ow 8),(10,pt 10),(11,vi (lI i)),(39,ow 5),(40,vi (lI b)),(41,vi l),(59,vb z)]) (fun z=>[(5,AO b),(8,AO i),(10,bx [ci ((gl b l.toNat).left_),ci ((gl b l.toNat).right_)])]) (fun G0 h=>?_) (fun A0 L=>?_)
     ·refine AW.cN h (fun c0 h=>?_) (fun c0 h=>?_)
      ·obtain ⟨k0,l0,P,u,h⟩:=gS4 h
       refine AW.WP Fm [.s,.s,.s,.s,.s,.s,.s,.s,.s,.s,.s,.s,.s,.s,.s] [(8,ow 8),(39,ow 5),(40,vi (lI b)),(41,vi l)] [(5,AO b),(8,AO (α:=Span) (List.set i ((lI i)-1).toNat (⟨(gl i ((lI i)-1).toNat).left_,(gmax ((gl i ((lI i)-1).toNat).right_) ((gl b l.toNat).right_))⟩ : Span)))] (cA (cT k0) (cA (cT l0) (cA P (cA (toNat_lt P) (cA u (cT (toNat_lt u))))))) [(8,.arr 2 (List.length (α:=Span) i) (fun j=>if j=((lI i)-1).toNat then splice ((LF (α:=Span) i) ((lI i)-1).toNat) 1 [.int .i64 (gmax ((gl i ((lI i)-1).toNat).right_) ((gl b l.toNat).right_))] else (LF (α:=Span) i) j))] ⟨OLe.is (Is.set (Is.refl i) (toNat_lt u) (⟨(gl i ((lI i)-1).toNat).left_,(gmax ((gl i ((lI i)-1).toNat).right_) ((gl b l.toNat).right_))⟩ : Span) (by kernel_rfl)),⟨⟩⟩ ?_
       exact Kn.R Fm (M (List.set i ((lI i)-1).toNat (⟨(gl i ((lI i)-1).toNat).left_,(gmax ((gl i ((lI i)-1).toNat).right_) ((gl b l.toNat).right_))⟩ : Span)) h)
      ·obtain ⟨m0,h⟩:=gS h
       refine AW.WP Fm [.s,.s,.w (AL (α:=Span) ([(gl b l.toNat)]:List Span)),.s,.s] [(8,ow 77),(39,ow 5),(40,vi (lI b)),(41,vi l)] [(5,AO b),(77,AO (α:=Span) (i++([(gl b l.toNat)]:List Span)))] (cA (ALe.lst (.lit ([(gl b l.toNat)]:List Span) (by kernel_rfl)):ALe (.v (.c (.d (.lst 1 (litF 2 [.int .i64 (gl b l.toNat).left_,.int .i64 (gl b l.toNat).right_]))))) (AL (α:=Span) ([(gl b l.toNat)]:List Span))) (cT (cA m0 (cT (Is.refl ([(gl b l.toNat)]:List Span):Is (List.length (α:=Span) ([(gl b l.toNat)]:List Span)) (LF (α:=Span) ([(gl b l.toNat)]:List Span)) ([(gl b l.toNat)]:List Span)).len)))) [(77,.arr 2 ((List.length (α:=Span) i)+(List.length (α:=Span) ([(gl b l.toNat)]:List Span))) (appF (List.length (α:=Span) i) (LF (α:=Span) i) (LF (α:=Span) ([(gl b l.toNat)]:List Span))))] ⟨OLe.is (Is.app (Is.refl i) (Is.refl ([(gl b l.toNat)]:List Span))),⟨⟩⟩ ?_
       exact Kn.RE Fm [(8,77)] (M (i++([(gl b l.toNat)]:List Span)) h)
     ·rcases br_or h with ⟨t,h⟩|⟨t,h⟩
      ·obtain ⟨j0,O,h⟩:=gS2 h
       refine AW.pN Fm [.s,.s,.w (vb true),.s,.s,.s,.s,.s,.s,.s,.s,.s,.s] [(8,ow 8),(10,pt 10),(11,vi (lI i)),(39,ow 5),(40,vi (lI b)),(41,vi l),(50,pt 10),(51,vi (gl b l.toNat).left_),(52,ow 8),(53,vi (lI i)),(54,vi ((lI i)-1)),(55,.v (.c (.pte 8 2 (((lI i)-1).toNat) 0))),(56,.v (.c (.pte 8 2 (((lI i)-1).toNat) 1))),(57,vi (gl i ((lI i)-1).toNat).right_),(58,vb (decide (((gl b l.toNat).left_)≤((gl i ((lI i)-1).toNat).right_)))),(59,vb (decide (((gl b l.toNat).left_)≤((gl i ((lI i)-1).toNat).right_))))] [(5,AO b),(8,AO i),(10,bx [ci ((gl b l.toNat).left_),ci ((gl b l.toNat).right_)])] (cA (ALe.bool t) (cA (cT j0) (cA O (cT (toNat_lt O))))) ?_
       exact Kn.R Fm (L (decide (((gl b l.toNat).left_)≤((gl i ((lI i)-1).toNat).right_))) h)
      ·refine AW.pN Fm [.s,.s,.w (vb false),.s,.s,.s,.s,.s,.s,.s,.s,.s,.s] [(8,ow 8),(10,pt 10),(11,vi (lI i)),(39,ow 5),(40,vi (lI b)),(41,vi l),(59,vb false)] [(5,AO b),(8,AO i),(10,bx [ci ((gl b l.toNat).left_),ci ((gl b l.toNat).right_)])] (cT (ALe.bool t)) ?_
       exact Kn.R Fm (L false h)
   ·exact AW.exit (Kn.R Fm (Y i h))
 ·refine AW.SG0 Fm 3 [(1,vi n),(5,ow 5),(12,AL a),(13,vi (lI a)),(14,vi 0)] [(5,AO (α:=Span) ([]:List Span))] ?_
  refine AW.block (Kn.r Fm [(1,vi n),(5,ow 5),(12,AL a),(13,vi (lI a)),(14,vi 0)] [(5,AO ([]:List Span))] (by kernel_rfl) ?_)
  refine AW.loopF (E' := fun z=>[(1,vi n),(5,ow 5),(12,AL a),(13,vi (lI a)),(14,vi z.1)]) (S' := fun z=>[(5,AO z.2)]) (fun B z q0 V h=>?_) h
  obtain ⟨e,o⟩:=z
  refine AW.SG0 Fm 1 [(1,vi n),(5,ow 5),(12,AL a),(13,vi (lI a)),(14,vi e),(15,vb (decide (e<(lI a))))] [(5,AO o)] ?_
  refine AW.seq (AW.cN h (fun Z h=>?_) (fun Z h=>?_))
  ·refine AW.skip (AW.join (r:=r) (fun z:(List Span)=>region_Row_k2 F e B z) (fun z=>[(1,vi n),(5,ow 35),(12,AL a),(13,vi (lI a)),(14,vi e)]) (fun z=>[(35,AO z)]) (fun T h=>?_) (fun t0 I=>?_))
   ·obtain ⟨i0,h⟩:=gS h
    refine AW.pN Fm [.s,.s] [(1,vi n),(5,ow 35),(12,AL a),(13,vi (lI a)),(14,vi (e+1))] [(35,AO T)] (cT (cT i0)) ?_
    exact Kn.RE Fm [(5,35)] (V ((e+1),T) h)
   ·refine AW.block ?_
    obtain ⟨d0,h⟩:=gS h
    refine AW.SP Fm [.s,.s,.s,.s] [(1,vi n),(5,ow 5),(7,pt 7),(12,AL a),(13,vi (lI a)),(14,vi e)] [(5,AO o),(7,bx [ci ((gl a e.toNat).left_),ci ((gl a e.toNat).low_),ci ((gl a e.toNat).right_),ci ((gl a e.toNat).high_)])] (cT d0) ?_
    refine AW.join (r:=r) (fun z:Bool=>region_Row_k1 F a e o B z) (fun z=>[(1,vi n),(5,ow 5),(7,pt 7),(12,AL a),(13,vi (lI a)),(14,vi e),(27,vb z)]) (fun z=>[(5,AO o),(7,bx [ci ((gl a e.toNat).left_),ci ((gl a e.toNat).low_),ci ((gl a e.toNat).right_),ci ((gl a e.toNat).high_)])]) (fun E0 h=>?_) (fun s0 H=>?_)
    ·refine AW.cN h (fun a0 h=>?_) (fun a0 h=>?_)
     ·obtain ⟨e0,h⟩:=gS h
      refine AW.WP Fm [.s,.s,.s,.s,.s,.s,.w (AL (α:=Span) ([(⟨(gl a e.toNat).left_,(gl a e.toNat).right_⟩ : Span)]:List Span)),.s,.s] [(1,vi n),(5,ow 35),(12,AL a),(13,vi (lI a)),(14,vi e)] [(35,AO (α:=Span) (o++([(⟨(gl a e.toNat).left_,(gl a e.toNat).right_⟩ : Span)]:List Span)))] (cA (ALe.lst (.lit ([(⟨(gl a e.toNat).left_,(gl a e.toNat).right_⟩ : Span)]:List Span) (by kernel_rfl)):ALe (.v (.c (.d (.lst 1 (litF 2 [.int .i64 (gl a e.toNat).left_,.int .i64 (gl a e.toNat).right_]))))) (AL (α:=Span) ([(⟨(gl a e.toNat).left_,(gl a e.toNat).right_⟩ : Span)]:List Span))) (cT (cA e0 (cT (Is.refl ([(⟨(gl a e.toNat).left_,(gl a e.toNat).right_⟩ : Span)]:List Span):Is (List.length (α:=Span) ([(⟨(gl a e.toNat).left_,(gl a e.toNat).right_⟩ : Span)]:List Span)) (LF (α:=Span) ([(⟨(gl a e.toNat).left_,(gl a e.toNat).right_⟩ : Span)]:List Span)) ([(⟨(gl a e.toNat).left_,(gl a e.toNat).right_⟩ : Span)]:List Span)).len)))) [(35,.arr 2 ((List.length (α:=Span) o)+(List.length (α:=Span) ([(⟨(gl a e.toNat).left_,(gl a e.toNat).right_⟩ : Span)]:List Span))) (appF (List.length (α:=Span) o) (LF (α:=Span) o) (LF (α:=Span) ([(⟨(gl a e.toNat).left_,(gl a e.toNat).right_⟩ : Span)]:List Span))))] ⟨OLe.is (Is.app (Is.refl o) (Is.refl ([(⟨(gl a e.toNat).left_,(gl a e.toNat).right_⟩ : Span)]:List Span))),⟨⟩⟩ ?_
      exact Kn.R Fm (I (o++([(⟨(gl a e.toNat).left_,(gl a e.toNat).right_⟩ : Span)]:List Span)) h)
     ·exact AW.skip (Kn.RE Fm [(35,5)] (I o h))
    ·rcases br_or h with ⟨q,h⟩|⟨q,h⟩
     ·refine AW.pN Fm [.s,.s,.s,.s,.w (vb true),.s,.s,.s,.s,.s] [(1,vi n),(5,ow 5),(7,pt 7),(12,AL a),(13,vi (lI a)),(14,vi e),(23,vi n),(24,.v (.c (.ptr 7 3))),(25,vi (gl a e.toNat).high_),(26,vb (decide (n<((gl a e.toNat).high_)))),(27,vb (decide (n<((gl a e.toNat).high_))))] [(5,AO o),(7,bx [ci ((gl a e.toNat).left_),ci ((gl a e.toNat).low_),ci ((gl a e.toNat).right_),ci ((gl a e.toNat).high_)])] (cT (ALe.bool q)) ?_
      exact Kn.R Fm (H (decide (n<((gl a e.toNat).high_))) h)
     ·refine AW.pN Fm [.s,.s,.s,.s,.w (vb false),.s,.s,.s,.s,.s] [(1,vi n),(5,ow 5),(7,pt 7),(12,AL a),(13,vi (lI a)),(14,vi e),(27,vb false)] [(5,AO o),(7,bx [ci ((gl a e.toNat).left_),ci ((gl a e.toNat).low_),ci ((gl a e.toNat).right_),ci ((gl a e.toNat).high_)])] (cT (ALe.bool q)) ?_
      exact Kn.R Fm (H false h)
  ·exact AW.exit (Kn.R Fm (W o h))
theorem region_canonical_1_spec {F:Nat} {b:Int} {a:(List Rect)} {r:(List Span)} (h:region_canonical_1 F b a=some r) :
  FSpec Tryz.prog 238 [vi b,pt 0] [(0,.box true [.d (DL a)])] (AL (α:=Span) r) [(0,.box true [.d (DL a)])]:=by
 refine FI Tryz.func238 prog_mixed prog_lay fun C Fm=>?_
 unfold region_canonical_1 at h
 refine AW.SG0 Fm 1 [(0,vi b),(1,pt 0)] [(0,.box true [.d (DL a)])] ?_
 refine AW.seq ?_
 obtain ⟨c,e,h⟩:=bS h
 refine AW.G Fm [.s,.s,.k (cE [] [] (AL c) [] []),.s] (fun K=>K 2∧True) [(3,AL c)] [(0,.box true [.d (DL a)])] ⟨KAt.CC (region_Row_spec e) Tryz.call191 [],⟨⟩⟩ ?_
 refine AW.ret ?_
 obtain rfl:=Option.some.inj h
 exact Kn.D Fm
theorem slices_Equal_Span_spec {F:Nat} {a:(List Span)} {d:(List Span)} {r:Bool} (h:slices_Equal_Span F a d=some r) :
  FSpec Tryz.prog 239 [AL a,AL d] [] (vb r) []:=by
 refine FI Tryz.func239 prog_mixed prog_lay fun C Fm=>?_
 unfold slices_Equal_Span at h
 refine AW.SG0 Fm 1 [(0,AL a),(1,AL d)] [] ?_
 refine AW.seq (AW.SG0 Fm 5 [(0,AL a),(1,AL d),(10,vb ((lI a) != (lI d)))] [] ?_)
 refine AW.cN h (fun j h=>?_) (fun j h=>?_)
 ·refine AW.SG0 Fm 1 [(4,vb false)] [] ?_
  refine AW.ret ?_
  obtain rfl:=Option.some.inj h
  exact Kn.D Fm
 ·refine AW.skip (AW.join (r:=r) (fun z:Unit=>slices_Equal_Span_k1 F) (fun z=>[]) (fun z=>[]) (fun z h=>?_) (fun t i=>?_))
  ·refine AW.SG0 Fm 1 [(4,vb true)] [] ?_
   refine AW.ret ?_
   obtain rfl:=Option.some.inj h
   exact Kn.D Fm
  ·refine AW.SG0 Fm 3 [(0,AL a),(1,AL d),(12,vi (lI a)),(13,vi 0)] [] ?_
   refine AW.block (AW.loopF (E' := fun z=>[(0,AL a),(1,AL d),(12,vi (lI a)),(13,vi z)]) (S' := fun z=>[]) (fun u c q e h=>?_) h)
   refine AW.SG0 Fm 1 [(0,AL a),(1,AL d),(12,vi (lI a)),(13,vi c),(14,vb (decide (c<(lI a))))] [] ?_
   refine AW.seq (AW.cN h (fun l h=>?_) (fun l h=>?_))
   ·refine AW.skip (AW.seq (AW.block (AW.SG0 Fm 2 [(0,AL a),(1,AL d),(5,vi c),(12,vi (lI a)),(13,vi c)] [] ?_)))
    obtain ⟨n,o,h⟩:=gS2 h
    refine AW.SG Fm [.s,.s,.s,.s,.s,.s,.s,.s,.k (sE (vb (!((((gl a c.toNat).left_)==((gl d c.toNat).left_))&&((((gl a c.toNat).right_)==((gl d c.toNat).right_))&&true)))))] (fun K=>_∧_∧K 8∧True) [(0,AL a),(1,AL d),(12,vi (lI a)),(13,vi c),(24,vb (!((((gl a c.toNat).left_)==((gl d c.toNat).left_))&&((((gl a c.toNat).right_)==((gl d c.toNat).right_))&&true))))] [] ⟨n,o,KAt.eq (xs:=[ci ((gl a c.toNat).left_),ci ((gl a c.toNat).right_)]) (ys:=[ci ((gl d c.toNat).left_),ci ((gl d c.toNat).right_)]) eqT237 false (b:=((((gl a c.toNat).left_)==((gl d c.toNat).left_))&&((((gl a c.toNat).right_)==((gl d c.toNat).right_))&&true))) rfl rfl (by kernel_rfl) (by kernel_rfl) (by kernel_rfl) (by kernel_rfl),⟨⟩⟩ ?_
    refine AW.cN h (fun m h=>?_) (fun m h=>?_)
    ·refine AW.SG0 Fm 1 [(4,vb false)] [] ?_
     refine AW.ret ?_
     obtain rfl:=Option.some.inj h
     exact Kn.D Fm
    ·refine AW.skip ?_
     obtain ⟨p,h⟩:=gS h
     refine AW.pN Fm [.s,.s] [(0,AL a),(1,AL d),(12,vi (lI a)),(13,vi (c+1))] [] (cT (cT p)) ?_
     exact Kn.R Fm (e (c+1) h)
   ·exact AW.exit (Kn.R Fm (i () h))
theorem region_rects_spec {F:Nat} {a:(List Band)} {r:(List Rect)} (h:region_rects F a=some r) :
  FSpec Tryz.prog 240 [AL a] [] (AL (α:=Rect) r) []:=by
 refine FI Tryz.func240 prog_mixed prog_lay fun C Fm=>?_
 unfold region_rects at h
 refine AW.SG0 Fm 1 [(0,AL a)] [] ?_
 refine AW.SW Fm [.m] (fun K=>True) [(0,AL a),(3,ow 3)] [(3,AO (α:=Rect) ([]:List Rect))] True.intro [(3,.arr 4 (0) (fun _=>[]))] ⟨OLe.is ((Is.nil (α:=Rect))),⟨⟩⟩ ?_
 refine AW.join (r:=r) (fun z:(List Rect)=>region_rects_k3 F z) (fun z=>[(3,ow 3)]) (fun z=>[(3,AO z)]) (fun k h=>?_) (fun N t=>?_)
 ·refine AW.SG0 Fm 2 [(2,ow 3)] [(3,AO k)] ?_
  refine AW.ret ?_
  obtain rfl:=Option.some.inj h
  refine Kn.r Fm [(2,ow 3)] [(3,AO k)] (by kernel_rfl) ?_
  refine Kn.frz [(2,AL k)] [] (by kernel_rfl) (by kernel_rfl) (by kernel_rfl) ?_
  exact Kn.D Fm
 ·refine AW.SG0 Fm 3 [(3,ow 3),(8,AL a),(9,vi (lI a)),(10,vi 0)] [(3,AO (α:=Rect) ([]:List Rect))] ?_
  refine AW.block (Kn.r Fm [(3,ow 3),(8,AL a),(9,vi (lI a)),(10,vi 0)] [(3,AO ([]:List Rect))] (by kernel_rfl) ?_)
  refine AW.loopF (E' := fun z=>[(3,ow 3),(8,AL a),(9,vi (lI a)),(10,vi z.1)]) (S' := fun z=>[(3,AO z.2)]) (fun n z I o h=>?_) h
  obtain ⟨b,j⟩:=z
  refine AW.SG0 Fm 1 [(3,ow 3),(8,AL a),(9,vi (lI a)),(10,vi b),(11,vb (decide (b<(lI a))))] [(3,AO j)] ?_
  refine AW.seq (AW.cN h (fun u h=>?_) (fun u h=>?_))
  ·refine AW.skip (AW.join (r:=r) (fun z:(List Rect)=>region_rects_k2 F b n z) (fun z=>[(3,ow 3),(8,AL a),(9,vi (lI a)),(10,vi b)]) (fun z=>[(3,AO z)]) (fun l h=>?_) (fun M q=>?_))
   ·obtain ⟨H,h⟩:=gS h
    refine AW.pN Fm [.s,.s] [(3,ow 3),(8,AL a),(9,vi (lI a)),(10,vi (b+1))] [(3,AO l)] (cT (cT H)) ?_
    exact Kn.R Fm (o ((b+1),l) h)
   ·refine AW.block ?_
    obtain ⟨A,h⟩:=gS h
    refine AW.SP Fm [.s,.s,.s,.s] [(3,ow 3),(5,pt 5),(8,AL a),(9,vi (lI a)),(10,vi b)] [(3,AO j),(5,bx [ci ((gl a b.toNat).low_),ci ((gl a b.toNat).high_),.d (DL (α:=Span) (gl a b.toNat).spans_)])] (cT A) ?_
    refine AW.SG0 Fm 4 [(3,ow 3),(5,pt 5),(8,AL a),(9,vi (lI a)),(10,vi b),(15,AL (α:=Span) (gl a b.toNat).spans_),(16,vi (lI ((gl a b.toNat).spans_))),(17,vi 0)] [(3,AO j),(5,bx [ci ((gl a b.toNat).low_),ci ((gl a b.toNat).high_),.d (DL (α:=Span) (gl a b.toNat).spans_)])] ?_
    refine AW.block (AW.loopF (E' := fun z=>[(3,ow 3),(5,pt 5),(8,AL a),(9,vi (lI a)),(10,vi b),(15,AL (α:=Span) (gl a b.toNat).spans_),(16,vi (lI ((gl a b.toNat).spans_))),(17,vi z.1)]) (S' := fun z=>[(3,AO z.2),(5,bx [ci ((gl a b.toNat).low_),ci ((gl a b.toNat).high_),.d (DL (α:=Span) (gl a b.toNat).spans_)])]) (fun O z L p h=>?_) h)
    obtain ⟨e,i⟩:=z
    refine AW.SG0 Fm 1 [(3,ow 3),(5,pt 5),(8,AL a),(9,vi (lI a)),(10,vi b),(15,AL (α:=Span) (gl a b.toNat).spans_),(16,vi (lI ((gl a b.toNat).spans_))),(17,vi e),(18,vb (decide (e<(lI ((gl a b.toNat).spans_)))))] [(3,AO i),(5,bx [ci ((gl a b.toNat).low_),ci ((gl a b.toNat).high_),.d (DL (α:=Span) (gl a b.toNat).spans_)])] ?_
    refine AW.seq (AW.cN h (fun y h=>?_) (fun y h=>?_))
    ·refine AW.skip (AW.seq (AW.block ?_))
     obtain ⟨B,h⟩:=gS h
     refine AW.SP Fm [.s,.s,.s,.s] [(3,ow 3),(5,pt 5),(7,pt 7),(8,AL a),(9,vi (lI a)),(10,vi b),(15,AL (α:=Span) (gl a b.toNat).spans_),(16,vi (lI ((gl a b.toNat).spans_))),(17,vi e)] [(3,AO i),(5,bx [ci ((gl a b.toNat).low_),ci ((gl a b.toNat).high_),.d (DL (α:=Span) (gl a b.toNat).spans_)]),(7,bx [ci ((gl ((gl a b.toNat).spans_) e.toNat).left_),ci ((gl ((gl a b.toNat).spans_) e.toNat).right_)])] (cT B) ?_
     obtain ⟨E,h⟩:=gS h
     refine AW.WP Fm [.s,.s,.s,.s,.s,.s,.s,.s,.s,.s,.w (AL (α:=Rect) ([(⟨(gl ((gl a b.toNat).spans_) e.toNat).left_,(gl a b.toNat).low_,(gl ((gl a b.toNat).spans_) e.toNat).right_,(gl a b.toNat).high_⟩ : Rect)]:List Rect)),.s,.s] [(3,ow 32),(5,pt 5),(8,AL a),(9,vi (lI a)),(10,vi b),(15,AL (α:=Span) (gl a b.toNat).spans_),(16,vi (lI ((gl a b.toNat).spans_))),(17,vi e)] [(5,bx [ci ((gl a b.toNat).low_),ci ((gl a b.toNat).high_),.d (DL (α:=Span) (gl a b.toNat).spans_)]),(32,AO (α:=Rect) (i++([(⟨(gl ((gl a b.toNat).spans_) e.toNat).left_,(gl a b.toNat).low_,(gl ((gl a b.toNat).spans_) e.toNat).right_,(gl a b.toNat).high_⟩ : Rect)]:List Rect)))] (cA (ALe.lst (.lit ([(⟨(gl ((gl a b.toNat).spans_) e.toNat).left_,(gl a b.toNat).low_,(gl ((gl a b.toNat).spans_) e.toNat).right_,(gl a b.toNat).high_⟩ : Rect)]:List Rect) (by kernel_rfl)):ALe (.v (.c (.d (.lst 1 (litF 4 [.int .i64 (gl ((gl a b.toNat).spans_) e.toNat).left_,.int .i64 (gl a b.toNat).low_,.int .i64 (gl ((gl a b.toNat).spans_) e.toNat).right_,.int .i64 (gl a b.toNat).high_]))))) (AL (α:=Rect) ([(⟨(gl ((gl a b.toNat).spans_) e.toNat).left_,(gl a b.toNat).low_,(gl ((gl a b.toNat).spans_) e.toNat).right_,(gl a b.toNat).high_⟩ : Rect)]:List Rect))) (cT (cA E (cT (Is.refl ([(⟨(gl ((gl a b.toNat).spans_) e.toNat).left_,(gl a b.toNat).low_,(gl ((gl a b.toNat).spans_) e.toNat).right_,(gl a b.toNat).high_⟩ : Rect)]:List Rect):Is (List.length (α:=Rect) ([(⟨(gl ((gl a b.toNat).spans_) e.toNat).left_,(gl a b.toNat).low_,(gl ((gl a b.toNat).spans_) e.toNat).right_,(gl a b.toNat).high_⟩ : Rect)]:List Rect)) (LF (α:=Rect) ([(⟨(gl ((gl a b.toNat).spans_) e.toNat).left_,(gl a b.toNat).low_,(gl ((gl a b.toNat).spans_) e.toNat).right_,(gl a b.toNat).high_⟩ : Rect)]:List Rect)) ([(⟨(gl ((gl a b.toNat).spans_) e.toNat).left_,(gl a b.toNat).low_,(gl ((gl a b.toNat).spans_) e.toNat).right_,(gl a b.toNat).high_⟩ : Rect)]:List Rect)).len)))) [(32,.arr 4 ((List.length (α:=Rect) i)+(List.length (α:=Rect) ([(⟨(gl ((gl a b.toNat).spans_) e.toNat).left_,(gl a b.toNat).low_,(gl ((gl a b.toNat).spans_) e.toNat).right_,(gl a b.toNat).high_⟩ : Rect)]:List Rect))) (appF (List.length (α:=Rect) i) (LF (α:=Rect) i) (LF (α:=Rect) ([(⟨(gl ((gl a b.toNat).spans_) e.toNat).left_,(gl a b.toNat).low_,(gl ((gl a b.toNat).spans_) e.toNat).right_,(gl a b.toNat).high_⟩ : Rect)]:List Rect))))] ⟨OLe.is (Is.app (Is.refl i) (Is.refl ([(⟨(gl ((gl a b.toNat).spans_) e.toNat).left_,(gl a b.toNat).low_,(gl ((gl a b.toNat).spans_) e.toNat).right_,(gl a b.toNat).high_⟩ : Rect)]:List Rect))),⟨⟩⟩ ?_
     obtain ⟨G,h⟩:=gS h
     refine AW.pN Fm [.s,.s] [(3,ow 32),(5,pt 5),(8,AL a),(9,vi (lI a)),(10,vi b),(15,AL (α:=Span) (gl a b.toNat).spans_),(16,vi (lI ((gl a b.toNat).spans_))),(17,vi (e+1))] [(5,bx [ci ((gl a b.toNat).low_),ci ((gl a b.toNat).high_),.d (DL (α:=Span) (gl a b.toNat).spans_)]),(32,AO (α:=Rect) (i++([(⟨(gl ((gl a b.toNat).spans_) e.toNat).left_,(gl a b.toNat).low_,(gl ((gl a b.toNat).spans_) e.toNat).right_,(gl a b.toNat).high_⟩ : Rect)]:List Rect)))] (cT (cT G)) ?_
     exact Kn.RE Fm [(3,32)] (p ((e+1),(i++([(⟨(gl ((gl a b.toNat).spans_) e.toNat).left_,(gl a b.toNat).low_,(gl ((gl a b.toNat).spans_) e.toNat).right_,(gl a b.toNat).high_⟩ : Rect)]:List Rect))) h)
    ·exact AW.exit (Kn.R Fm (q i h))
  ·exact AW.exit (Kn.R Fm (t j h))
theorem region_Build_spec {F:Nat} {a:(List Int)} {l:Int→Option (List Span)} {r:(List Rect)} (h:region_Build F a l=some r) :
  FSpec Tryz.prog 187 [AL a,.v (.c (.sem (CloOK Tryz.prog (FR_Int_ListSpan l))))] [] (AL (α:=Rect) r) []:=by
 refine FI Tryz.func187 prog_mixed prog_lay fun C Fm=>?_
 unfold region_Build at h
 refine AW.SG0 Fm 1 [(0,AL a),(1,.v (.c (.sem (CloOK Tryz.prog (FR_Int_ListSpan l)))))] [] ?_
 refine AW.SW Fm [.m] (fun K=>True) [(0,AL a),(1,.v (.c (.sem (CloOK Tryz.prog (FR_Int_ListSpan l))))),(5,ow 5)] [(5,AO (α:=Band) ([]:List Band))] True.intro [(5,.arr 3 (0) (fun _=>[]))] ⟨OLe.is ((Is.nil (α:=Band))),⟨⟩⟩ ?_
 refine AW.join (r:=r) (fun z:(List Band)=>region_Build_k3 F z) (fun z=>[(5,ow 5)]) (fun z=>[(5,AO z)]) (fun I h=>?_) (fun l0 N=>?_)
 ·refine AW.seq (Kn.r Fm [(5,ow 5)] [(5,AO I)] (by kernel_rfl) ?_)
  refine Kn.frz [(5,AL I)] [] (by kernel_rfl) (by kernel_rfl) (by kernel_rfl) ?_
  obtain ⟨L,e0,h⟩:=bS h
  refine AW.G Fm [.s,.k (cE [] [] (AL L) [] []),.s] (fun K=>K 1∧True) [(4,AL L)] [] ⟨KAt.CC (region_rects_spec e0) Tryz.call240 [],⟨⟩⟩ ?_
  refine AW.ret ?_
  obtain rfl:=Option.some.inj h
  exact Kn.D Fm
 ·refine AW.SG0 Fm 1 [(0,AL a),(1,.v (.c (.sem (CloOK Tryz.prog (FR_Int_ListSpan l))))),(5,ow 5),(6,vi 1)] [(5,AO (α:=Band) ([]:List Band))] ?_
  refine AW.block (Kn.r Fm [(0,AL a),(1,.v (.c (.sem (CloOK Tryz.prog (FR_Int_ListSpan l))))),(5,ow 5),(6,vi 1)] [(5,AO ([]:List Band))] (by kernel_rfl) ?_)
  refine AW.loopF (E' := fun z=>[(0,AL a),(1,.v (.c (.sem (CloOK Tryz.prog (FR_Int_ListSpan l))))),(5,ow 5),(6,vi z.1)]) (S' := fun z=>[(5,AO z.2)]) (fun y z i0 M h=>?_) h
  obtain ⟨e,b⟩:=z
  refine AW.seq (AW.SG0 Fm 4 [(0,AL a),(1,.v (.c (.sem (CloOK Tryz.prog (FR_Int_ListSpan l))))),(5,ow 5),(6,vi e),(12,vb (decide (e<(lI a))))] [(5,AO b)] ?_)
  refine AW.cN h (fun O h=>?_) (fun O h=>?_)
  ·refine AW.skip (AW.join (r:=r) (fun z:(List Band)=>region_Build_k2 F e y z) (fun z=>[(0,AL a),(1,.v (.c (.sem (CloOK Tryz.prog (FR_Int_ListSpan l))))),(5,ow 5),(6,vi e)]) (fun z=>[(5,AO z)]) (fun H h=>?_) (fun k0 A=>?_))
   ·obtain ⟨b0,h⟩:=gS h
    refine AW.pN Fm [.s,.s,.s] [(0,AL a),(1,.v (.c (.sem (CloOK Tryz.prog (FR_Int_ListSpan l))))),(5,ow 5),(6,vi (e+1))] [(5,AO H)] (cT (cT b0)) ?_
    exact Kn.R Fm (M ((e+1),H) h)
   ·refine AW.block (AW.seq ?_)
    obtain ⟨T,U,V,W,h⟩:=gS4 h
    obtain ⟨X,h⟩:=gS h
    obtain ⟨i,c0,h⟩:=bS h
    refine AW.G Fm [.s,.s,.s,.s,.s,.s,.s,.s,.s,.s,.s,.s,.s,.s,.s,.k (sE (AL i)),.s,.s,.s] (fun K=>(_∧True)∧_∧_∧(_∧True)∧_∧K 15∧True) [(0,AL a),(1,.v (.c (.sem (CloOK Tryz.prog (FR_Int_ListSpan l))))),(5,ow 5),(6,vi e),(7,pt 7)] [(5,AO b),(7,bx [ci (gl a (e-1).toNat),ci (gl a e.toNat),.d (DL i)])] ⟨⟨T,⟨⟩⟩,U,V,⟨W,⟨⟩⟩,X,KAt.sem (F:=(FR_Int_ListSpan l)) (args:=[vi (gl a (e-1).toNat)]) ⟨(gl a (e-1).toNat),i,c0,rfl,rfl⟩ rfl (by kernel_rfl) (by kernel_rfl) (by kernel_rfl),⟨⟩⟩ ?_
    refine AW.SG0 Fm 3 [(0,AL a),(1,.v (.c (.sem (CloOK Tryz.prog (FR_Int_ListSpan l))))),(5,ow 5),(6,vi e),(7,pt 7),(8,vi (lI b))] [(5,AO b),(7,bx [ci (gl a (e-1).toNat),ci (gl a e.toNat),.d (DL i)])] ?_
    refine AW.join (r:=r) (fun z:Bool=>region_Build_k1 F a e b i y z) (fun z=>[(0,AL a),(1,.v (.c (.sem (CloOK Tryz.prog (FR_Int_ListSpan l))))),(5,ow 5),(6,vi e),(7,pt 7),(8,vi (lI b)),(57,vb z)]) (fun z=>[(5,AO b),(7,bx [ci (gl a (e-1).toNat),ci (gl a e.toNat),.d (DL i)])]) (fun m0 h=>?_) (fun j0 q=>?_)
    ·refine AW.cN h (fun P h=>?_) (fun P h=>?_)
     ·obtain ⟨Z,u,h⟩:=gS2 h
      refine AW.WP Fm [.s,.s,.s,.s,.s,.s,.s,.s] [(0,AL a),(1,.v (.c (.sem (CloOK Tryz.prog (FR_Int_ListSpan l))))),(5,ow 5),(6,vi e)] [(5,AO (α:=Band) (List.set b ((lI b)-1).toNat (⟨(gl b ((lI b)-1).toNat).low_,(gl a e.toNat),(gl b ((lI b)-1).toNat).spans_⟩ : Band)))] (cA (cT Z) (cA u (cT (toNat_lt u)))) [(5,.arr 3 (List.length (α:=Band) b) (fun j=>if j=((lI b)-1).toNat then splice ((LF (α:=Band) b) ((lI b)-1).toNat) 1 [.int .i64 (gl a e.toNat)] else (LF (α:=Band) b) j))] ⟨OLe.is (Is.set (Is.refl b) (toNat_lt u) (⟨(gl b ((lI b)-1).toNat).low_,(gl a e.toNat),(gl b ((lI b)-1).toNat).spans_⟩ : Band) (by kernel_rfl)),⟨⟩⟩ ?_
      exact Kn.R Fm (A (List.set b ((lI b)-1).toNat (⟨(gl b ((lI b)-1).toNat).low_,(gl a e.toNat),(gl b ((lI b)-1).toNat).spans_⟩ : Band)) h)
     ·obtain ⟨a0,h⟩:=gS h
      refine AW.WP Fm [.s,.s,.w (AL (α:=Band) ([(⟨(gl a (e-1).toNat),(gl a e.toNat),i⟩ : Band)]:List Band)),.s,.s] [(0,AL a),(1,.v (.c (.sem (CloOK Tryz.prog (FR_Int_ListSpan l))))),(5,ow 68),(6,vi e)] [(68,AO (α:=Band) (b++([(⟨(gl a (e-1).toNat),(gl a e.toNat),i⟩ : Band)]:List Band)))] (cA (ALe.lst (.lit ([(⟨(gl a (e-1).toNat),(gl a e.toNat),i⟩ : Band)]:List Band) (by kernel_rfl)):ALe (.v (.c (.d (.lst 1 (litF 3 [.int .i64 (gl a (e-1).toNat),.int .i64 (gl a e.toNat),DL i]))))) (AL (α:=Band) ([(⟨(gl a (e-1).toNat),(gl a e.toNat),i⟩ : Band)]:List Band))) (cT (cA a0 (cT (Is.refl ([(⟨(gl a (e-1).toNat),(gl a e.toNat),i⟩ : Band)]:List Band):Is (List.length (α:=Band) ([(⟨(gl a (e-1).toNat),(gl a e.toNat),i⟩ : Band)]:List Band)) (LF (α:=Band) ([(⟨(gl a (e-1).toNat),(gl a e.toNat),i⟩ : Band)]:List Band)) ([(⟨(gl a (e-1).toNat),(gl a e.toNat),i⟩ : Band)]:List Band)).len)))) [(68,.arr 3 ((List.length (α:=Band) b)+(List.length (α:=Band) ([(⟨(gl a (e-1).toNat),(gl a e.toNat),i⟩ : Band)]:List Band))) (appF (List.length (α:=Band) b) (LF (α:=Band) b) (LF (α:=Band) ([(⟨(gl a (e-1).toNat),(gl a e.toNat),i⟩ : Band)]:List Band))))] ⟨OLe.is (Is.app (Is.refl b) (Is.refl ([(⟨(gl a (e-1).toNat),(gl a e.toNat),i⟩ : Band)]:List Band))),⟨⟩⟩ ?_
      exact Kn.RE Fm [(5,68)] (A (b++([(⟨(gl a (e-1).toNat),(gl a e.toNat),i⟩ : Band)]:List Band)) h)
    ·rcases br_or h with ⟨n,h⟩|⟨n,h⟩
     ·obtain ⟨B,o,h⟩:=gS2 h
      rcases br_or h with ⟨t,h⟩|⟨t,h⟩
      ·obtain ⟨Y,E,h⟩:=gS2 h
       obtain ⟨p,d0,h⟩:=bS h
       refine AW.G Fm [.s,.s,.w (vb true),.s,.s,.s,.s,.s,.s,.s,.s,.s,.s,.w (vb true),.s,.s,.s,.s,.s,.s,.s,.s,.k (cE [] [] (vb p) [] []),.s] (fun K=>_∧(_∧True)∧_∧_∧_∧(_∧True)∧_∧_∧K 22∧True) [(0,AL a),(1,.v (.c (.sem (CloOK Tryz.prog (FR_Int_ListSpan l))))),(5,ow 5),(6,vi e),(7,pt 7),(8,vi (lI b)),(37,ow 5),(38,vi (lI b)),(39,vi ((lI b)-1)),(40,.v (.c (.pte 5 3 (((lI b)-1).toNat) 0))),(41,.v (.c (.pte 5 3 (((lI b)-1).toNat) 1))),(42,vi (gl b ((lI b)-1).toNat).high_),(43,pt 7),(44,vi (gl a (e-1).toNat)),(45,vb (((gl b ((lI b)-1).toNat).high_)==(gl a (e-1).toNat))),(48,ow 5),(49,vi (lI b)),(50,vi ((lI b)-1)),(51,.v (.c (.pte 5 3 (((lI b)-1).toNat) 0))),(52,.v (.c (.pte 5 3 (((lI b)-1).toNat) 2))),(53,AL (α:=Span) (gl b ((lI b)-1).toNat).spans_),(54,.v (.c (.ptr 7 2))),(55,AL i),(56,vb p),(57,vb p)] [(5,AO b),(7,bx [ci (gl a (e-1).toNat),ci (gl a e.toNat),.d (DL i)])] ⟨ALe.bool n,⟨B,⟨⟩⟩,o,(toNat_lt o),ALe.bool t,⟨Y,⟨⟩⟩,E,(toNat_lt E),KAt.CC (slices_Equal_Span_spec d0) Tryz.call239 [],⟨⟩⟩ ?_
       exact Kn.R Fm (q p h)
      ·refine AW.pN Fm [.s,.s,.w (vb true),.s,.s,.s,.s,.s,.s,.s,.s,.s,.s,.w (vb false),.s,.s,.s,.s,.s,.s,.s,.s,.s,.s] [(0,AL a),(1,.v (.c (.sem (CloOK Tryz.prog (FR_Int_ListSpan l))))),(5,ow 5),(6,vi e),(7,pt 7),(8,vi (lI b)),(37,ow 5),(38,vi (lI b)),(39,vi ((lI b)-1)),(40,.v (.c (.pte 5 3 (((lI b)-1).toNat) 0))),(41,.v (.c (.pte 5 3 (((lI b)-1).toNat) 1))),(42,vi (gl b ((lI b)-1).toNat).high_),(43,pt 7),(44,vi (gl a (e-1).toNat)),(45,vb (((gl b ((lI b)-1).toNat).high_)==(gl a (e-1).toNat))),(57,vb false)] [(5,AO b),(7,bx [ci (gl a (e-1).toNat),ci (gl a e.toNat),.d (DL i)])] (cA (ALe.bool n) (cA (cT B) (cA o (cA (toNat_lt o) (cT (ALe.bool t)))))) ?_
       exact Kn.R Fm (q false h)
     ·refine AW.pN Fm [.s,.s,.w (vb false),.s,.s,.s,.s,.s,.s,.s,.s,.s,.s,.s,.s,.s,.s,.s,.s,.s,.s,.s,.s,.s] [(0,AL a),(1,.v (.c (.sem (CloOK Tryz.prog (FR_Int_ListSpan l))))),(5,ow 5),(6,vi e),(7,pt 7),(8,vi (lI b)),(57,vb false)] [(5,AO b),(7,bx [ci (gl a (e-1).toNat),ci (gl a e.toNat),.d (DL i)])] (cT (ALe.bool n)) ?_
      exact Kn.R Fm (q false h)
  ·exact AW.exit (Kn.R Fm (N b h))
theorem region_canonical_spec {F:Nat} {a:(List Rect)} {r:(List Rect)} (h:region_canonical F a=some r) :
  FSpec Tryz.prog 186 [AL a] [] (AL (α:=Rect) r) []:=by
 refine FI Tryz.func186 prog_mixed prog_lay fun C Fm=>?_
 unfold region_canonical at h
 refine AW.SG0 Fm 2 [(1,pt 1)] [(1,bx [.d (DL a)])] ?_
 refine AW.seq ?_
 obtain ⟨j,e,h⟩:=bS h
 obtain ⟨b,i,h⟩:=bS h
 refine AW.G Fm [.s,.w (AL (α:=(List Rect)) ([a]:List (List Rect))),.k (cE [] [] (AL j) [] []),.s,.k (cE [] [1] (AL b) [] []),.s] (fun K=>(ALe (.v (.c (.d (.lst 1 (litF 1 [DL a]))))) (AL (α:=(List Rect)) ([a]:List (List Rect))))∧K 2∧K 4∧True) [(2,AL b)] [] ⟨ALe.lst (.lit ([a]:List (List Rect)) (by kernel_rfl)),KAt.CC (region_Cuts_spec e) Tryz.call188 [],KAt.callX (region_Build_spec i) Tryz.call187 [] [1] [.tmp 5,.tmp 6] rfl (by kernel_rfl) (by kernel_rfl) (by kernel_rfl) ⟨.p,ArgT.cloX Tryz.call238 [[.d (DL a)]] (fun args r hq=>by obtain ⟨y0,y,hq,rfl,rfl⟩:=hq; exact Eq.mp (by kernel_rfl) (region_canonical_1_spec hq)) (fun args r hq=>by obtain ⟨y0,y,hq,rfl,rfl⟩:=hq; rfl) (by kernel_rfl) [1] (by kernel_rfl) (by kernel_rfl) (⟨⟨false,(by kernel_rfl)⟩,⟨⟩⟩) (by kernel_rfl),⟨⟩⟩,⟨⟩⟩ ?_
 refine AW.ret ?_
 obtain rfl:=Option.some.inj h
 exact Kn.D Fm
theorem slices_Equal_Rect_spec {F:Nat} {c:(List Rect)} {d:(List Rect)} {r:Bool} (h:slices_Equal_Rect F c d=some r) :
  FSpec Tryz.prog 185 [AL c,AL d] [] (vb r) []:=by
 refine FI Tryz.func185 prog_mixed prog_lay fun C Fm=>?_
 unfold slices_Equal_Rect at h
 refine AW.SG0 Fm 1 [(0,AL c),(1,AL d)] [] ?_
 refine AW.seq (AW.SG0 Fm 5 [(0,AL c),(1,AL d),(10,vb ((lI c) != (lI d)))] [] ?_)
 refine AW.cN h (fun j h=>?_) (fun j h=>?_)
 ·refine AW.SG0 Fm 1 [(4,vb false)] [] ?_
  refine AW.ret ?_
  obtain rfl:=Option.some.inj h
  exact Kn.D Fm
 ·refine AW.skip (AW.join (r:=r) (fun z:Unit=>slices_Equal_Rect_k1 F) (fun z=>[]) (fun z=>[]) (fun z h=>?_) (fun t i=>?_))
  ·refine AW.SG0 Fm 1 [(4,vb true)] [] ?_
   refine AW.ret ?_
   obtain rfl:=Option.some.inj h
   exact Kn.D Fm
  ·refine AW.SG0 Fm 3 [(0,AL c),(1,AL d),(12,vi (lI c)),(13,vi 0)] [] ?_
   refine AW.block (AW.loopF (E' := fun z=>[(0,AL c),(1,AL d),(12,vi (lI c)),(13,vi z)]) (S' := fun z=>[]) (fun u a q e h=>?_) h)
   refine AW.SG0 Fm 1 [(0,AL c),(1,AL d),(12,vi (lI c)),(13,vi a),(14,vb (decide (a<(lI c))))] [] ?_
   refine AW.seq (AW.cN h (fun l h=>?_) (fun l h=>?_))
   ·refine AW.skip (AW.seq (AW.block (AW.SG0 Fm 2 [(0,AL c),(1,AL d),(5,vi a),(12,vi (lI c)),(13,vi a)] [] ?_)))
    obtain ⟨n,o,h⟩:=gS2 h
    refine AW.SG Fm [.s,.s,.s,.s,.s,.s,.s,.s,.k (sE (vb (!((((gl c a.toNat).left_)==((gl d a.toNat).left_))&&((((gl c a.toNat).low_)==((gl d a.toNat).low_))&&((((gl c a.toNat).right_)==((gl d a.toNat).right_))&&((((gl c a.toNat).high_)==((gl d a.toNat).high_))&&true)))))))] (fun K=>_∧_∧K 8∧True) [(0,AL c),(1,AL d),(12,vi (lI c)),(13,vi a),(24,vb (!((((gl c a.toNat).left_)==((gl d a.toNat).left_))&&((((gl c a.toNat).low_)==((gl d a.toNat).low_))&&((((gl c a.toNat).right_)==((gl d a.toNat).right_))&&((((gl c a.toNat).high_)==((gl d a.toNat).high_))&&true))))))] [] ⟨n,o,KAt.eq (xs:=[ci ((gl c a.toNat).left_),ci ((gl c a.toNat).low_),ci ((gl c a.toNat).right_),ci ((gl c a.toNat).high_)]) (ys:=[ci ((gl d a.toNat).left_),ci ((gl d a.toNat).low_),ci ((gl d a.toNat).right_),ci ((gl d a.toNat).high_)]) eqT103 false (b:=((((gl c a.toNat).left_)==((gl d a.toNat).left_))&&((((gl c a.toNat).low_)==((gl d a.toNat).low_))&&((((gl c a.toNat).right_)==((gl d a.toNat).right_))&&((((gl c a.toNat).high_)==((gl d a.toNat).high_))&&true))))) rfl rfl (by kernel_rfl) (by kernel_rfl) (by kernel_rfl) (by kernel_rfl),⟨⟩⟩ ?_
    refine AW.cN h (fun m h=>?_) (fun m h=>?_)
    ·refine AW.SG0 Fm 1 [(4,vb false)] [] ?_
     refine AW.ret ?_
     obtain rfl:=Option.some.inj h
     exact Kn.D Fm
    ·refine AW.skip ?_
     obtain ⟨p,h⟩:=gS h
     refine AW.pN Fm [.s,.s] [(0,AL c),(1,AL d),(12,vi (lI c)),(13,vi (a+1))] [] (cT (cT p)) ?_
     exact Kn.R Fm (e (a+1) h)
   ·exact AW.exit (Kn.R Fm (i () h))
theorem region_Valid_spec {F:Nat} {a:Region} {r:Bool} (h:region_Valid F a=some r) :
  FSpec Tryz.prog 94 [.v (.g [.d (DL a.rects_)])] [] (vb r) []:=by
 refine FI Tryz.func94 prog_mixed prog_lay fun C Fm=>?_
 unfold region_Valid at h
 refine AW.SG0 Fm 2 [(1,pt 1)] [(1,bx [.d (DL a.rects_)])] ?_
 refine AW.seq (AW.join (r:=r) (fun z:Bool=>region_Valid_k0 F a z) (fun z=>[(1,pt 1),(11,vb z)]) (fun z=>[(1,bx [.d (DL a.rects_)])]) (fun t h=>?_) (fun q e=>?_))
 ·refine AW.cN h (fun j h=>?_) (fun j h=>?_)
  ·refine AW.SG0 Fm 1 [(2,vb false)] [] ?_
   refine AW.ret ?_
   obtain rfl:=Option.some.inj h
   exact Kn.D Fm
  ·refine AW.skip (AW.seq ?_)
   obtain ⟨o,m,h⟩:=bS h
   obtain ⟨i,n,h⟩:=bS h
   refine AW.G Fm [.s,.s,.k (cE [] [] (AL o) [] []),.s,.s,.k (cE [] [] (vb i) [] []),.s] (fun K=>K 2∧K 5∧True) [(2,vb i)] [] ⟨KAt.CC (region_canonical_spec m) Tryz.call186 [],KAt.CC (slices_Equal_Rect_spec n) Tryz.call185 [],⟨⟩⟩ ?_
   refine AW.ret ?_
   obtain rfl:=Option.some.inj h
   exact Kn.D Fm
 ·rcases br_or h with ⟨b,h⟩|⟨b,h⟩
  ·refine AW.pN Fm [.s,.s,.s,.s,.w (vb true),.s,.s,.s,.s] [(1,pt 1),(11,vb true)] [(1,bx [.d (DL a.rects_)])] (cT (ALe.bool b)) ?_
   exact Kn.R Fm (e true h)
  ·obtain ⟨c,l,h⟩:=bS h
   refine AW.G Fm [.s,.s,.s,.s,.w (vb false),.s,.s,.k (cE [] [] (vb c) [] []),.s] (fun K=>_∧K 7∧True) [(1,pt 1),(11,vb c)] [(1,bx [.d (DL a.rects_)])] ⟨ALe.bool b,KAt.callX (slices_ContainsFunc_Rect_spec l) Tryz.call182 [] [] [.tmp 9,.func 183] rfl (by kernel_rfl) (by kernel_rfl) (by kernel_rfl) ⟨.p,ArgT.cloX Tryz.call183 [] (fun args r hq=>by obtain ⟨y0,y,hq,rfl,rfl⟩:=hq; exact Eq.mp (by kernel_rfl) (region_Valid_1_spec hq)) (fun args r hq=>by obtain ⟨y0,y,hq,rfl,rfl⟩:=hq; rfl) (by kernel_rfl) [] (by kernel_rfl) (by kernel_rfl) (True.intro) (by kernel_rfl),⟨⟩⟩,⟨⟩⟩ ?_
   exact Kn.R Fm (e c h)
theorem history_single_spec {F:Nat} {a:Record} {r:Int} (h:history_single F a=some r) :
  FSpec Tryz.prog 105 [gE a] [] (vi r) []:=by
 refine FI Tryz.func105 prog_mixed prog_lay fun C Fm=>?_
 unfold history_single at h
 refine AW.SG0 Fm 2 [(1,pt 1)] [(1,bx (gC a))] ?_
 refine AW.seq (AW.block (AW.join (r:=r) (fun z:Bool=>history_single_k0 F a z) (fun z=>[(1,pt 1),(3,vb z)]) (fun z=>[(1,bx (gC a))]) (fun y h=>?_) (fun q i=>?_)))
 ·refine AW.cN h (fun m h=>?_) (fun m h=>?_)
  ·refine AW.SG0 Fm 1 [(2,vi 18)] [] ?_
   refine AW.ret ?_
   obtain rfl:=Option.some.inj h
   exact Kn.D Fm
  ·refine AW.join (r:=r) (fun z:Bool=>history_single_k1 F a z) (fun z=>[(1,pt 1),(12,vb z)]) (fun z=>[(1,bx (gC a))]) (fun A h=>?_) (fun t j=>?_)
   ·refine AW.cN h (fun n h=>?_) (fun n h=>?_)
    ·refine AW.SG0 Fm 1 [(2,vi 13)] [] ?_
     refine AW.ret ?_
     obtain rfl:=Option.some.inj h
     exact Kn.D Fm
    ·refine AW.join (r:=r) (fun z:Bool=>history_single_k2 F z) (fun z=>[(21,vb z)]) (fun z=>[]) (fun B h=>?_) (fun u l=>?_)
     ·refine AW.cN h (fun o h=>?_) (fun o h=>?_)
      ·refine AW.SG0 Fm 1 [(2,vi 7)] [] ?_
       refine AW.ret ?_
       obtain rfl:=Option.some.inj h
       exact Kn.D Fm
      ·refine AW.skip (AW.SG0 Fm 1 [(2,vi 0)] [] ?_)
       refine AW.ret ?_
       obtain rfl:=Option.some.inj h
       exact Kn.D Fm
     ·rcases br_or h with ⟨d,h⟩|⟨d,h⟩
      ·refine AW.pN Fm [.s,.s,.s,.s,.s,.w (vb true),.s,.s,.s,.s,.s,.s] [(21,vb true)] [] (cT (ALe.bool d)) ?_
       exact Kn.R Fm (l true h)
      ·obtain ⟨e,p,h⟩:=bS h
       refine AW.G Fm [.s,.s,.s,.s,.s,.w (vb false),.s,.s,.k (cE [] [] (vb e) [] []),.s,.s,.s] (fun K=>_∧K 8∧True) [(21,vb (!e))] [] ⟨ALe.bool d,KAt.CC (region_Valid_spec p) Tryz.call94 [],⟨⟩⟩ ?_
       exact Kn.R Fm (l (!e) h)
   ·rcases br_or h with ⟨c,h⟩|⟨c,h⟩
    ·refine AW.pN Fm [.s,.s,.s,.w (vb true),.s,.s,.s,.s,.s] [(1,pt 1),(12,vb true)] [(1,bx (gC a))] (cT (ALe.bool c)) ?_
     exact Kn.R Fm (j true h)
    ·refine AW.pN Fm [.s,.s,.s,.w (vb false),.s,.s,.s,.s,.s] [(1,pt 1),(12,vb (decide ((40:Int)≤a.crop_)))] [(1,bx (gC a))] (cT (ALe.bool c)) ?_
     exact Kn.R Fm (j (decide ((40:Int)≤a.crop_)) h)
 ·rcases br_or h with ⟨b,h⟩|⟨b,h⟩
  ·refine AW.pN Fm [.s,.s,.s,.w (vb true),.s,.s,.s,.s,.s] [(1,pt 1),(3,vb true)] [(1,bx (gC a))] (cT (ALe.bool b)) ?_
   exact Kn.R Fm (i true h)
  ·refine AW.pN Fm [.s,.s,.s,.w (vb false),.s,.s,.s,.s,.s] [(1,pt 1),(3,vb (decide ((100:Int)<a.year_)))] [(1,bx (gC a))] (cT (ALe.bool b)) ?_
   exact Kn.R Fm (i (decide ((100:Int)<a.year_)) h)
theorem cmp_Or_int_spec {F:Nat} {a:(List Int)} {r:Int} (h:cmp_Or_int F a=some r) :
  FSpec Tryz.prog 196 [AL a] [] (vi r) []:=by
 refine FI Tryz.func196 prog_mixed prog_lay fun C Fm=>?_
 unfold cmp_Or_int at h
 refine AW.SG0 Fm 1 [(0,AL a)] [] ?_
 refine AW.SG0 Fm 1 [(0,AL a),(3,vi 0)] [] ?_
 refine AW.join (r:=r) (fun z:Unit=>cmp_Or_int_k1 F) (fun z=>[(3,vi 0)]) (fun z=>[]) (fun z h=>?_) (fun m d=>?_)
 ·refine AW.SG0 Fm 2 [(2,vi 0)] [] ?_
  refine AW.ret ?_
  obtain rfl:=Option.some.inj h
  exact Kn.D Fm
 ·refine AW.SG0 Fm 3 [(3,vi 0),(6,AL a),(7,vi (lI a)),(8,vi 0)] [] ?_
  refine AW.block (AW.loopF (E' := fun z=>[(3,vi 0),(6,AL a),(7,vi (lI a)),(8,vi z)]) (S' := fun z=>[]) (fun n b l c h=>?_) h)
  refine AW.SG0 Fm 1 [(3,vi 0),(6,AL a),(7,vi (lI a)),(8,vi b),(9,vb (decide (b<(lI a))))] [] ?_
  refine AW.seq (AW.cN h (fun e h=>?_) (fun e h=>?_))
  ·refine AW.skip (AW.seq (AW.block ?_))
   obtain ⟨j,h⟩:=gS h
   refine AW.SP Fm [.s,.s,.s] [(3,vi 0),(5,vi (gl a b.toNat)),(6,AL a),(7,vi (lI a)),(8,vi b)] [] (cT j) ?_
   refine AW.SG0 Fm 3 [(3,vi 0),(5,vi (gl a b.toNat)),(6,AL a),(7,vi (lI a)),(8,vi b),(14,vb ((gl a b.toNat) != (0:Int)))] [] ?_
   refine AW.cN h (fun i h=>?_) (fun i h=>?_)
   ·refine AW.SG0 Fm 2 [(2,vi (gl a b.toNat))] [] ?_
    refine AW.ret ?_
    obtain rfl:=Option.some.inj h
    exact Kn.D Fm
   ·refine AW.skip ?_
    obtain ⟨k,h⟩:=gS h
    refine AW.pN Fm [.s,.s] [(3,vi 0),(6,AL a),(7,vi (lI a)),(8,vi (b+1))] [] (cT (cT k)) ?_
    exact Kn.R Fm (c (b+1) h)
  ·exact AW.exit (Kn.R Fm (d () h))
theorem history_compare_spec {F:Nat} {e:Record} {i:Record} {r:Int} (h:history_compare F e i=some r) :
  FSpec Tryz.prog 104 [gE e,gE i] [] (vi r) []:=by
 refine FI Tryz.func104 prog_mixed prog_lay fun C Fm=>?_
 unfold history_compare at h
 refine AW.SG0 Fm 3 [(2,pt 2),(3,pt 3)] [(2,bx (gC e)),(3,bx (gC i))] ?_
 refine AW.seq ?_
 obtain ⟨a,l,h⟩:=bS h
 obtain ⟨b,m,h⟩:=bS h
 obtain ⟨j,n,h⟩:=bS h
 refine AW.G Fm [.s,.s,.s,.s,.k (cE [] [] (vi a) [] []),.s,.s,.s,.s,.k (cE [] [] (vi b) [] []),.w (AL (α:=Int) ([a,b]:List Int)),.k (cE [] [] (vi j) [] []),.s] (fun K=>K 4∧K 9∧(ALe (.v (.c (.d (.lst 2 (litF 1 [.int .i64 a,.int .i64 b]))))) (AL (α:=Int) ([a,b]:List Int)))∧K 11∧True) [(4,vi j)] [] ⟨KAt.CC (cmp_Compare_int_spec l) Tryz.call197 [],KAt.CC (cmp_Compare_int_spec m) Tryz.call197 [],ALe.lst (.lit ([a,b]:List Int) (by kernel_rfl)),KAt.CC (cmp_Or_int_spec n) Tryz.call196 [],⟨⟩⟩ ?_
 refine AW.ret ?_
 obtain rfl:=Option.some.inj h
 exact Kn.D Fm
theorem history_years_spec {F:Nat} {a:(List Record)} {r:(List (Int×(List Record)))} (h:history_years F a=some r) :
  FSpec Tryz.prog 106 [AL a] [] (.v (.c (.d (MP (α:=Record) r)))) []:=by
 refine FI Tryz.func106 prog_mixed prog_lay fun C Fm=>?_
 unfold history_years at h
 refine AW.SG0 Fm 1 [(0,AL a)] [] ?_
 refine AW.SG Fm [.k (rE { v:=.v (.c (.own 6)),new:=some (.ext (mapP Tryz.prog 3 27 [])) }),.s] (fun K=>K 0∧True) [(0,AL a),(3,ow 6)] [(6,.ext (mapP Tryz.prog 3 27 ([]:List Int)))] ⟨KAt.mkMap (kT:=3) (eT:=27) rfl rfl (by kernel_rfl),⟨⟩⟩ ?_
 refine AW.join (r:=r) (fun z:(List (Int×(List Record)))=>history_years_k1 F z) (fun z=>[(3,ow 6)]) (fun z=>[(956,.exr [6] (grpP (α:=Record) z none))]) (fun i h=>?_) (fun B l=>?_)
 ·refine AW.SG0 Fm 2 [(2,ow 6)] [(956,.exr [6] (grpP (α:=Record) i none))] ?_
  refine AW.ret (Kn.r Fm [(2,ow 6)] [(956,.exr [6] (grpP (α:=Record) i none))] (by kernel_rfl) ?_)
  refine Kn.mpz (by kernel_rfl) ?_
  obtain rfl:=Option.some.inj h
  exact Kn.D Fm
 ·refine AW.SG0 Fm 3 [(3,ow 6),(7,AL a),(8,vi (lI a)),(9,vi 0)] [(6,.ext (mapP Tryz.prog 3 27 ([]:List Int)))] ?_
  refine AW.block (Kn.r Fm [(3,ow 6),(7,AL a),(8,vi (lI a)),(9,vi 0)] [(6,.ext (mapP Tryz.prog 3 27 ([]:List Int)))] (by kernel_rfl) ?_)
  refine Kn.grp0 Fm Record (g:=956) (by kernel_rfl) (by kernel_rfl) (by kernel_rfl) ?_
  refine Kn.r Fm [(3,ow 6),(7,AL a),(8,vi (lI a)),(9,vi 0)] [(956,.exr [6] (grpP (α:=Record) ([]:List (Int×(List Record))) none))] (by kernel_rfl) ?_
  refine AW.loopF (E' := fun z=>[(3,ow 6),(7,AL a),(8,vi (lI a)),(9,vi z.1)]) (S' := fun z=>[(956,.exr [6] (grpP (α:=Record) z.2 none))]) (fun H z E n h=>?_) h
  obtain ⟨b,e⟩:=z
  refine AW.SG0 Fm 1 [(3,ow 6),(7,AL a),(8,vi (lI a)),(9,vi b),(10,vb (decide (b<(lI a))))] [(956,.exr [6] (grpP (α:=Record) e none))] ?_
  refine AW.seq (AW.cN h (fun o h=>?_) (fun o h=>?_))
  ·refine AW.skip (AW.seq (AW.block ?_))
   obtain ⟨A,h⟩:=gS h
   refine AW.SP Fm [.s,.s,.s,.s] [(3,ow 6),(5,pt 5),(7,AL a),(8,vi (lI a)),(9,vi b)] [(5,bx [ci ((gl a b.toNat).year_),ci ((gl a b.toNat).crop_),.d (DL (α:=Rect) (gl a b.toNat).region_.rects_)]),(956,.exr [6] (grpP (α:=Record) e none))] (cT A) ?_
   obtain ⟨p,h⟩:=gS h
   refine AW.G Fm [.s,.s,.s,.s,.s,.s,.k (xE [956] { v:=.v (.c (.cp 956 (1+gIdx ((gl a b.toNat).year_) e))) }),.s,.w (AL (α:=Record) ([(gl a b.toNat)]:List Record)),.k (xE [956] { v:=.v (.c (.cp 22 (1+gIdx ((gl a b.toNat).year_) e))),del:=[956],new:=some (.exr [6] (grpP (α:=Record) (gApp ((gl a b.toNat).year_) ([(gl a b.toNat)]:List Record) e) (some (gIdx ((gl a b.toNat).year_) e)))) }),.k (xE [] { upd:=some (22,.exr [6] (grpP (α:=Record) (gApp ((gl a b.toNat).year_) ([(gl a b.toNat)]:List Record) e) none)) })] (fun K=>K 6∧(ALe (.v (.c (.d (.lst 1 (litF 3 [.int .i64 (gl a b.toNat).year_,.int .i64 (gl a b.toNat).crop_,DL (α:=Rect) (gl a b.toNat).region_.rects_]))))) (AL (α:=Record) ([(gl a b.toNat)]:List Record)))∧K 9∧K 10∧True) [(3,ow 6),(7,AL a),(8,vi (lI a)),(9,vi b)] [(22,.exr [6] (grpP (α:=Record) (gApp ((gl a b.toNat).year_) ([(gl a b.toNat)]:List Record) e) none))] ⟨KAt.gLook (α:=Record) (gs:=e) (base:=6) (g:=956) (t:=128) (kT:=3) (eT:=27) (y:=(gl a b.toNat).year_) (by kernel_rfl) (by kernel_rfl) Go.Proofs.Tryz.zeroValue27 rfl rfl (by kernel_rfl) (by kernel_rfl) (by kernel_rfl) (by kernel_rfl),ALe.lst (.lit ([(gl a b.toNat)]:List Record) (by kernel_rfl)),KAt.gApp (α:=Record) (gs:=e) (m:=([(gl a b.toNat)]:List Record)) (base:=6) (g:=956) (d:=22) (y:=(gl a b.toNat).year_) prog_lay slT27 rfl rfl rfl (by kernel_rfl) (by kernel_rfl) (by kernel_rfl) (by kernel_rfl) (by decide) (by kernel_rfl) p,(by obtain ⟨q,hq1,hq2⟩:=gApp_at (y:=(gl a b.toNat).year_) (gs:=e) (m:=_); exact KAt.gPut (α:=Record) (gs:=(gApp ((gl a b.toNat).year_) ([(gl a b.toNat)]:List Record) e)) (base:=6) (g:=22) (j:=gIdx ((gl a b.toNat).year_) e) (t:=128) (kT:=3) (eT:=27) (y:=(gl a b.toNat).year_) (by kernel_rfl) (by kernel_rfl) rfl rfl (by kernel_rfl) (by kernel_rfl) (by kernel_rfl) (by kernel_rfl) (by kernel_rfl) hq1 hq2),⟨⟩⟩ ?_
   obtain ⟨u,h⟩:=gS h
   refine AW.pN Fm [.s,.s] [(3,ow 6),(7,AL a),(8,vi (lI a)),(9,vi (b+1))] [(22,.exr [6] (grpP (α:=Record) (gApp ((gl a b.toNat).year_) ([(gl a b.toNat)]:List Record) e) none))] (cT (cT u)) ?_
   exact Kn.RE Fm [(956,22)] (n ((b+1),(gApp ((gl a b.toNat).year_) ([(gl a b.toNat)]:List Record) e)) h)
  ·exact AW.exit (Kn.R Fm (l e h))
theorem region_overlap_spec {F:Nat} {b:Rect} {c:Rect} {r:Bool} (h:region_overlap F b c=some r) :
  FSpec Tryz.prog 200 [gE b,gE c] [] (vb r) []:=by
 refine FI Tryz.func200 prog_mixed prog_lay fun C Fm=>?_
 unfold region_overlap at h
 refine AW.SG0 Fm 3 [(2,pt 2),(3,pt 3)] [(2,bx (gC b)),(3,bx (gC c))] ?_
 refine AW.join (r:=r) (fun z:Bool=>region_overlap_k0 F z) (fun z=>[(4,vb z)]) (fun z=>[]) (fun k h=>?_) (fun j d=>?_)
 ·refine AW.ret ?_
  obtain rfl:=Option.some.inj h
  exact Kn.D Fm
 ·rcases br_or h with ⟨a,h⟩|⟨a,h⟩
  ·rcases br_or h with ⟨e,h⟩|⟨e,h⟩
   ·rcases br_or h with ⟨i,h⟩|⟨i,h⟩
    ·refine AW.pN Fm [.s,.s,.s,.s,.s,.w (vb true),.s,.s,.s,.s,.s,.s,.w (vb true),.s,.s,.s,.s,.s,.s,.w (vb true),.s,.s,.s,.s,.s,.s,.s] [(4,vb (decide (c.low_<b.high_)))] [] (cA (ALe.bool a) (cA (ALe.bool e) (cT (ALe.bool i)))) ?_
     exact Kn.R Fm (d (decide (c.low_<b.high_)) h)
    ·refine AW.pN Fm [.s,.s,.s,.s,.s,.w (vb true),.s,.s,.s,.s,.s,.s,.w (vb true),.s,.s,.s,.s,.s,.s,.w (vb false),.s,.s,.s,.s,.s,.s,.s] [(4,vb false)] [] (cA (ALe.bool a) (cA (ALe.bool e) (cT (ALe.bool i)))) ?_
     exact Kn.R Fm (d false h)
   ·refine AW.pN Fm [.s,.s,.s,.s,.s,.w (vb true),.s,.s,.s,.s,.s,.s,.w (vb false),.s,.s,.s,.s,.s,.s,.s,.s,.s,.s,.s,.s,.s,.s] [(4,vb false)] [] (cA (ALe.bool a) (cT (ALe.bool e))) ?_
    exact Kn.R Fm (d false h)
  ·refine AW.pN Fm [.s,.s,.s,.s,.s,.w (vb false),.s,.s,.s,.s,.s,.s,.s,.s,.s,.s,.s,.s,.s,.s,.s,.s,.s,.s,.s,.s,.s] [(4,vb false)] [] (cT (ALe.bool a)) ?_
   exact Kn.R Fm (d false h)
theorem region_Meets_1_1_spec {F:Nat} {b:Rect} {a:Rect} {r:Bool} (h:region_Meets_1_1 F b a=some r) :
  FSpec Tryz.prog 199 [gE b,pt 0] [(0,.box true (gC a))] (vb r) [(0,.box true (gC a))]:=by
 refine FI Tryz.func199 prog_mixed prog_lay fun C Fm=>?_
 unfold region_Meets_1_1 at h
 refine AW.SG0 Fm 2 [(1,pt 0),(2,pt 2)] [(0,.box true (gC a)),(2,bx (gC b))] ?_
 refine AW.seq ?_
 obtain ⟨c,d,h⟩:=bS h
 refine AW.G Fm [.s,.s,.k (cE [] [] (vb c) [] []),.s] (fun K=>K 2∧True) [(3,vb c)] [(0,.box true (gC a))] ⟨KAt.CC (region_overlap_spec d) Tryz.call200 [],⟨⟩⟩ ?_
 refine AW.ret ?_
 obtain rfl:=Option.some.inj h
 exact Kn.D Fm
theorem region_Meets_1_spec {F:Nat} {a:Rect} {b:Region} {r:Bool} (h:region_Meets_1 F a b=some r) :
  FSpec Tryz.prog 198 [gE a,pt 0] [(0,.box true [.d (DL b.rects_)])] (vb r) [(0,.box true [.d (DL b.rects_)])]:=by
 refine FI Tryz.func198 prog_mixed prog_lay fun C Fm=>?_
 unfold region_Meets_1 at h
 refine AW.SG0 Fm 2 [(1,pt 0),(2,pt 2)] [(0,.box true [.d (DL b.rects_)]),(2,bx (gC a))] ?_
 refine AW.seq ?_
 obtain ⟨c,e,h⟩:=bS h
 refine AW.G Fm [.s,.s,.s,.k (cE [] [2] (vb c) [] []),.s] (fun K=>K 3∧True) [(3,vb c)] [(0,.box true [.d (DL b.rects_)])] ⟨KAt.callX (slices_ContainsFunc_Rect_spec e) Tryz.call182 [] [2] [.tmp 5,.tmp 6] rfl (by kernel_rfl) (by kernel_rfl) (by kernel_rfl) ⟨.p,ArgT.cloX Tryz.call199 [[ci a.left_,ci a.low_,ci a.right_,ci a.high_]] (fun args r hq=>by obtain ⟨y0,y,hq,rfl,rfl⟩:=hq; exact Eq.mp (by kernel_rfl) (region_Meets_1_1_spec hq)) (fun args r hq=>by obtain ⟨y0,y,hq,rfl,rfl⟩:=hq; rfl) (by kernel_rfl) [2] (by kernel_rfl) (by kernel_rfl) (⟨⟨false,(by kernel_rfl)⟩,⟨⟩⟩) (by kernel_rfl),⟨⟩⟩,⟨⟩⟩ ?_
 refine AW.ret ?_
 obtain rfl:=Option.some.inj h
 exact Kn.D Fm
theorem region_Meets_spec {F:Nat} {j:Region} {b:Region} {r:Bool} (h:region_Meets F j b=some r) :
  FSpec Tryz.prog 108 [.v (.g [.d (DL j.rects_)]),.v (.g [.d (DL b.rects_)])] [] (vb r) []:=by
 refine FI Tryz.func108 prog_mixed prog_lay fun C Fm=>?_
 unfold region_Meets at h
 refine AW.SG0 Fm 3 [(2,pt 2),(3,pt 3)] [(2,bx [.d (DL j.rects_)]),(3,bx [.d (DL b.rects_)])] ?_
 refine AW.join (r:=r) (fun z:Bool=>region_Meets_k0 F z) (fun z=>[(4,vb z)]) (fun z=>[]) (fun u h=>?_) (fun t c=>?_)
 ·refine AW.ret ?_
  obtain rfl:=Option.some.inj h
  exact Kn.D Fm
 ·obtain ⟨l,i,h⟩:=bS h
  rcases br_or h with ⟨a,h⟩|⟨a,h⟩
  ·obtain ⟨o,n,h⟩:=bS h
   rcases br_or h with ⟨e,h⟩|⟨e,h⟩
   ·obtain ⟨m,q,h⟩:=bS h
    refine AW.G Fm [.s,.k (cE [] [] (vb l) [] []),.w (vb true),.s,.k (cE [] [] (vb o) [] []),.s,.w (vb true),.s,.s,.s,.k (cE [] [3] (vb m) [] []),.s,.s] (fun K=>K 1∧_∧K 4∧_∧K 10∧True) [(4,vb m)] [] ⟨KAt.CC (region_Valid_spec i) Tryz.call94 [],ALe.bool a,KAt.CC (region_Valid_spec n) Tryz.call94 [],ALe.bool e,KAt.callX (slices_ContainsFunc_Rect_spec q) Tryz.call182 [] [3] [.tmp 13,.tmp 14] rfl (by kernel_rfl) (by kernel_rfl) (by kernel_rfl) ⟨.p,ArgT.cloX Tryz.call198 [[.d (DL b.rects_)]] (fun args r hq=>by obtain ⟨y0,y,hq,rfl,rfl⟩:=hq; exact Eq.mp (by kernel_rfl) (region_Meets_1_spec hq)) (fun args r hq=>by obtain ⟨y0,y,hq,rfl,rfl⟩:=hq; rfl) (by kernel_rfl) [3] (by kernel_rfl) (by kernel_rfl) (⟨⟨false,(by kernel_rfl)⟩,⟨⟩⟩) (by kernel_rfl),⟨⟩⟩,⟨⟩⟩ ?_
    exact Kn.R Fm (c m h)
   ·refine AW.G Fm [.s,.k (cE [] [] (vb l) [] []),.w (vb true),.s,.k (cE [] [] (vb o) [] []),.s,.w (vb false),.s,.s,.s,.s,.s,.s] (fun K=>K 1∧_∧K 4∧_∧True) [(4,vb false)] [] ⟨KAt.CC (region_Valid_spec i) Tryz.call94 [],ALe.bool a,KAt.CC (region_Valid_spec n) Tryz.call94 [],ALe.bool e,⟨⟩⟩ ?_
    exact Kn.R Fm (c false h)
  ·refine AW.G Fm [.s,.k (cE [] [] (vb l) [] []),.w (vb false),.s,.s,.s,.s,.s,.s,.s,.s,.s,.s] (fun K=>K 1∧_∧True) [(4,vb false)] [] ⟨KAt.CC (region_Valid_spec i) Tryz.call94 [],ALe.bool a,⟨⟩⟩ ?_
   exact Kn.R Fm (c false h)
theorem history_Check_1_spec {F:Nat} {b:Record} {a:Record} {r:Bool} (h:history_Check_1 F b a=some r) :
  FSpec Tryz.prog 107 [gE b,pt 0] [(0,.box true (gC a))] (vb r) [(0,.box true (gC a))]:=by
 refine FI Tryz.func107 prog_mixed prog_lay fun C Fm=>?_
 unfold history_Check_1 at h
 refine AW.SG0 Fm 2 [(1,pt 0),(2,pt 2)] [(0,.box true (gC a)),(2,bx (gC b))] ?_
 refine AW.seq ?_
 obtain ⟨c,d,h⟩:=bS h
 refine AW.G Fm [.s,.s,.s,.s,.k (cE [] [] (vb c) [] []),.s] (fun K=>K 4∧True) [(3,vb c)] [(0,.box true (gC a))] ⟨KAt.CC (region_Meets_spec d) Tryz.call108 [],⟨⟩⟩ ?_
 refine AW.ret ?_
 obtain rfl:=Option.some.inj h
 exact Kn.D Fm
theorem slices_IndexFunc_Record_spec {F:Nat} {a:(List Record)} {e:Record→Option Bool} {r:Int} (h:slices_IndexFunc_Record F a e=some r) :
  FSpec Tryz.prog 193 [AL a,.v (.c (.sem (CloOK Tryz.prog (FR_Record_Bool e))))] [] (vi r) []:=by
 refine FI Tryz.func193 prog_mixed prog_lay fun C Fm=>?_
 unfold slices_IndexFunc_Record at h
 refine AW.SG0 Fm 1 [(0,AL a),(1,.v (.c (.sem (CloOK Tryz.prog (FR_Record_Bool e)))))] [] ?_
 refine AW.join (r:=r) (fun z:Unit=>slices_IndexFunc_Record_k1 F) (fun z=>[]) (fun z=>[]) (fun z h=>?_) (fun u l=>?_)
 ·refine AW.SG0 Fm 1 [(4,vi (-1:Int))] [] ?_
  refine AW.ret ?_
  obtain rfl:=Option.some.inj h
  exact Kn.D Fm
 ·refine AW.SG0 Fm 3 [(0,AL a),(1,.v (.c (.sem (CloOK Tryz.prog (FR_Record_Bool e))))),(7,vi (lI a)),(8,vi 0)] [] ?_
  refine AW.block (AW.loopF (E' := fun z=>[(0,AL a),(1,.v (.c (.sem (CloOK Tryz.prog (FR_Record_Bool e))))),(7,vi (lI a)),(8,vi z)]) (S' := fun z=>[]) (fun w b t j h=>?_) h)
  refine AW.SG0 Fm 1 [(0,AL a),(1,.v (.c (.sem (CloOK Tryz.prog (FR_Record_Bool e))))),(7,vi (lI a)),(8,vi b),(9,vb (decide (b<(lI a))))] [] ?_
  refine AW.seq (AW.cN h (fun m h=>?_) (fun m h=>?_))
  ·refine AW.skip (AW.seq (AW.block (AW.SG0 Fm 2 [(0,AL a),(1,.v (.c (.sem (CloOK Tryz.prog (FR_Record_Bool e))))),(5,vi b),(7,vi (lI a)),(8,vi b)] [] ?_)))
   refine AW.seq ?_
   obtain ⟨o,h⟩:=gS h
   obtain ⟨i,q,h⟩:=bS h
   refine AW.G Fm [.s,.s,.s,.s,.s,.k (sE (vb i))] (fun K=>_∧K 5∧True) [(0,AL a),(1,.v (.c (.sem (CloOK Tryz.prog (FR_Record_Bool e))))),(5,vi b),(7,vi (lI a)),(8,vi b),(16,vb i)] [] ⟨o,KAt.sem (F:=(FR_Record_Bool e)) (args:=[.v (.g [ci ((gl a b.toNat).year_),ci ((gl a b.toNat).crop_),.d (DL (α:=Rect) (gl a b.toNat).region_.rects_)])]) ⟨(gl a b.toNat),i,q,rfl,rfl⟩ rfl (by kernel_rfl) (by kernel_rfl) (by kernel_rfl),⟨⟩⟩ ?_
   refine AW.cN h (fun n h=>?_) (fun n h=>?_)
   ·refine AW.SG0 Fm 2 [(4,vi b)] [] ?_
    refine AW.ret ?_
    obtain rfl:=Option.some.inj h
    exact Kn.D Fm
   ·refine AW.skip ?_
    obtain ⟨p,h⟩:=gS h
    refine AW.pN Fm [.s,.s] [(0,AL a),(1,.v (.c (.sem (CloOK Tryz.prog (FR_Record_Bool e))))),(7,vi (lI a)),(8,vi (b+1))] [] (cT (cT p)) ?_
    exact Kn.R Fm (j (b+1) h)
  ·exact AW.exit (Kn.R Fm (l () h))
theorem slices_ContainsFunc_Record_spec {F:Nat} {a:(List Record)} {b:Record→Option Bool} {r:Bool} (h:slices_ContainsFunc_Record F a b=some r) :
  FSpec Tryz.prog 101 [AL a,.v (.c (.sem (CloOK Tryz.prog (FR_Record_Bool b))))] [] (vb r) []:=by
 refine FI Tryz.func101 prog_mixed prog_lay fun C Fm=>?_
 unfold slices_ContainsFunc_Record at h
 refine AW.SG0 Fm 1 [(0,AL a),(1,.v (.c (.sem (CloOK Tryz.prog (FR_Record_Bool b)))))] [] ?_
 refine AW.seq ?_
 obtain ⟨d,e,h⟩:=bS h
 refine AW.G Fm [.s,.s,.k (cE [] [] (vi d) [] []),.s,.s] (fun K=>K 2∧True) [(4,vb (decide ((0:Int)≤d)))] [] ⟨KAt.callX (slices_IndexFunc_Record_spec e) Tryz.call193 [] [] [.tmp 5,.tmp 6] rfl (by kernel_rfl) (by kernel_rfl) (by kernel_rfl) ⟨.p,ArgT.semX (by kernel_rfl) (by kernel_rfl) (by kernel_rfl),⟨⟩⟩,⟨⟩⟩ ?_
 refine AW.ret ?_
 obtain rfl:=Option.some.inj h
 exact Kn.D Fm
theorem history_Check_spec {F:Nat} {a:(List Record)} {r:Int} (h:history_Check F a=some r) :
  FSpec Tryz.prog 18 [AL a] [] (vi r) []:=by
 refine FI Tryz.func18 prog_mixed prog_lay fun C Fm=>?_
 unfold history_Check at h
 refine AW.SG0 Fm 1 [(0,AL a)] [] ?_
 refine AW.seq (AW.SG0 Fm 3 [(0,AL a),(12,vb (decide ((200:Int)<(lI a))))] [] ?_)
 refine AW.cN h (fun U h=>?_) (fun U h=>?_)
 ·refine AW.SG0 Fm 1 [(2,vi 1)] [] ?_
  refine AW.ret ?_
  obtain rfl:=Option.some.inj h
  exact Kn.D Fm
 ·refine AW.skip (AW.join (r:=r) (fun z:Unit=>history_Check_k2 F a) (fun z=>[(0,AL a)]) (fun z=>[]) (fun z h=>?_) (fun s0 N=>?_))
  ·refine AW.join (r:=r) (fun z:Unit=>history_Check_k5 F) (fun z=>[]) (fun z=>[]) (fun z h=>?_) (fun w0 T=>?_)
   ·refine AW.SG0 Fm 1 [(2,vi 0)] [] ?_
    refine AW.ret ?_
    obtain rfl:=Option.some.inj h
    exact Kn.D Fm
   ·refine AW.seq ?_
    obtain ⟨u,n0,h⟩:=bS h
    refine AW.G Fm [.s,.k (cE [] [] (.v (.c (.d (MP (α:=Record) u)))) [] []),.k (rE { v:=.v (.c (.own 40)),new:=some (.ext (itP (α:=Record) u none)) })] (fun K=>K 1∧K 2∧True) [(40,ow 40)] [(40,.ext (itP (α:=Record) u none))] ⟨KAt.CC (history_years_spec n0) Tryz.call106 [],KAt.range (α:=Record) (gs:=u) (t:=128) (kT:=3) (eT:=27) (d:=40) (by kernel_rfl) rfl rfl (by kernel_rfl) (by kernel_rfl),⟨⟩⟩ ?_
    refine AW.block (AW.loopF (E' := fun z=>[(40,ow 40)]) (S' := fun z=>[(40,.ext (itP (α:=Record) z none))]) (fun A0 H t0 O h=>?_) h)
    refine AW.seq (Kn.r Fm [(40,ow 40)] [(40,.ext (itP (α:=Record) H none))] (by kernel_rfl) ?_)
    refine AW.nextM (by kernel_rfl) (by kernel_rfl) (by kernel_rfl) (fun e0=>?_) (fun e m i0=>?_)
    ·have h:=nextM_stop h e0
     refine Kn.r Fm [(40,ow 40),(42,vb false)] [(40,.ext (itP (α:=Record) H none))] (by kernel_rfl) ?_
     refine AW.seq (AW.cond (b:=false) (by kernel_rfl) (fun hb=>by cases hb) (fun _=>?_))
     exact AW.exit (Kn.R Fm (T () h))
    ·have h:=nextM_go h i0
     refine Kn.r Fm [(40,ow 40),(42,vb true)] [(40,.ext (itP (α:=Record) m (some e)))] (by kernel_rfl) ?_
     refine AW.seq (AW.cond (b:=true) (by kernel_rfl) (fun _=>?_) (fun hb=>by cases hb))
     refine AW.skip (AW.block (AW.SG Fm [.k (rE { v:=.t [.c (ci e.1),.c (.d (DL e.2))] }),.s,.s] (fun K=>K 0∧True) [(7,AL e.2),(40,ow 40)] [(40,.ext (itP (α:=Record) m (some e)))] ⟨KAt.entry (α:=Record) (gs:=m) (q:=e) (id:=40) rfl rfl (by kernel_rfl) (by kernel_rfl) (by kernel_rfl),⟨⟩⟩ ?_))
     refine AW.SG0 Fm 3 [(7,AL e.2),(40,ow 40),(45,AL e.2),(46,vi (lI e.2)),(47,vi 0)] [(40,.ext (itP (α:=Record) m (some e)))] ?_
     refine AW.block (Kn.r Fm [(7,AL e.2),(40,ow 40),(45,AL e.2),(46,vi (lI e.2)),(47,vi 0)] [(40,.ext (itP (α:=Record) m (some e)))] (by kernel_rfl) ?_)
     refine Kn.wk [(7,AL e.2),(40,ow 40),(45,AL e.2),(46,vi (lI e.2)),(47,vi 0)] [(40,.ext (itP (α:=Record) m none))] ⟨rfl,ALe.c (CLe.refl _),⟨rfl,ALe.c (CLe.refl _),⟨rfl,ALe.c (CLe.refl _),⟨rfl,ALe.c (CLe.refl _),⟨rfl,ALe.c (CLe.refl _),⟨⟩⟩⟩⟩⟩⟩ ⟨rfl,itP_none _ _,⟨⟩⟩ ?_
     refine AW.loopF (E' := fun z=>[(7,AL e.2),(40,ow 40),(45,AL e.2),(46,vi (lI e.2)),(47,vi z)]) (S' := fun z=>[(40,.ext (itP (α:=Record) m none))]) (fun B0 l u0 P h=>?_) h
     refine AW.SG0 Fm 1 [(7,AL e.2),(40,ow 40),(45,AL e.2),(46,vi (lI e.2)),(47,vi l),(48,vb (decide (l<(lI e.2))))] [(40,.ext (itP (α:=Record) m none))] ?_
     refine AW.seq (AW.cN h (fun Y h=>?_) (fun Y h=>?_))
     ·refine AW.skip (AW.seq (AW.block ?_))
      obtain ⟨j0,h⟩:=gS h
      refine AW.SP Fm [.s,.s,.s,.s,.s,.s] [(7,AL e.2),(8,vi l),(9,pt 9),(40,ow 40),(45,AL e.2),(46,vi (lI e.2)),(47,vi l)] [(9,bx [ci ((gl e.2 l.toNat).year_),ci ((gl e.2 l.toNat).crop_),.d (DL (α:=Rect) (gl e.2 l.toNat).region_.rects_)]),(40,.ext (itP (α:=Record) m none))] (cT j0) ?_
      refine AW.seq ?_
      obtain ⟨E,h⟩:=gS h
      obtain ⟨I,o0,h⟩:=bS h
      refine AW.G Fm [.s,.s,.w (AL (α:=Record) (e.2.take l.toNat)),.s,.k (cE [] [9] (vb I) [] [])] (fun K=>(((sl (List.length e.2) (LF e.2) none (some l)).2∧∀ j,j<List.length e.2→(LF e.2 j).length=3))∧(ALe (.v (.c (.d (.lst (sl (List.length e.2) (LF e.2) none (some l)).1.1 (sl (List.length e.2) (LF e.2) none (some l)).1.2)))) (AL (α:=Record) (e.2.take l.toNat)))∧K 4∧True) [(7,AL e.2),(40,ow 40),(45,AL e.2),(46,vi (lI e.2)),(47,vi l),(56,vb I)] [(40,.ext (itP (α:=Record) m none))] ⟨⟨E,(Is.refl e.2).len⟩,ALe.lst (sl_is e.2 none (some l) E),KAt.callX (slices_ContainsFunc_Record_spec o0) Tryz.call101 [] [9] [.tmp 54,.tmp 55] rfl (by kernel_rfl) (by kernel_rfl) (by kernel_rfl) ⟨.p,ArgT.cloX Tryz.call107 [[ci ((gl e.2 l.toNat).year_),ci ((gl e.2 l.toNat).crop_),.d (DL (α:=Rect) (gl e.2 l.toNat).region_.rects_)]] (fun args r hq=>by obtain ⟨y0,y,hq,rfl,rfl⟩:=hq; exact Eq.mp (by kernel_rfl) (history_Check_1_spec hq)) (fun args r hq=>by obtain ⟨y0,y,hq,rfl,rfl⟩:=hq; rfl) (by kernel_rfl) [9] (by kernel_rfl) (by kernel_rfl) (⟨⟨false,(by kernel_rfl)⟩,⟨⟩⟩) (by kernel_rfl),⟨⟩⟩,⟨⟩⟩ ?_
      refine AW.cN h (fun Z h=>?_) (fun Z h=>?_)
      ·refine AW.SG0 Fm 1 [(2,vi 11)] [] ?_
       refine AW.ret ?_
       obtain rfl:=Option.some.inj h
       exact Kn.D Fm
      ·refine AW.skip ?_
       obtain ⟨k0,h⟩:=gS h
       refine AW.pN Fm [.s,.s] [(7,AL e.2),(40,ow 40),(45,AL e.2),(46,vi (lI e.2)),(47,vi (l+1))] [(40,.ext (itP (α:=Record) m none))] (cT (cT k0)) ?_
       exact Kn.R Fm (P (l+1) h)
     ·exact AW.exit (Kn.R Fm (O m h))
  ·refine AW.SG0 Fm 3 [(0,AL a),(13,AL a),(14,vi (lI a)),(15,vi 0)] [] ?_
   refine AW.block (AW.loopF (E' := fun z=>[(0,AL a),(13,AL a),(14,vi (lI a)),(15,vi z)]) (S' := fun z=>[]) (fun L i p0 M h=>?_) h)
   refine AW.SG0 Fm 1 [(0,AL a),(13,AL a),(14,vi (lI a)),(15,vi i),(16,vb (decide (i<(lI a))))] [] ?_
   refine AW.seq (AW.cN h (fun V h=>?_) (fun V h=>?_))
   ·refine AW.skip (AW.seq (AW.block ?_))
    obtain ⟨a0,h⟩:=gS h
    refine AW.SP Fm [.s,.s,.s,.s,.s,.s] [(0,AL a),(3,vi i),(4,pt 4),(13,AL a),(14,vi (lI a)),(15,vi i)] [(4,bx [ci ((gl a i.toNat).year_),ci ((gl a i.toNat).crop_),.d (DL (α:=Rect) (gl a i.toNat).region_.rects_)])] (cT a0) ?_
    refine AW.seq (AW.seq ?_)
    obtain ⟨n,l0,h⟩:=bS h
    refine AW.G Fm [.s,.k (cE [] [] (vi n) [] []),.s] (fun K=>K 1∧True) [(0,AL a),(3,vi i),(4,pt 4),(5,vi n),(13,AL a),(14,vi (lI a)),(15,vi i)] [(4,bx [ci ((gl a i.toNat).year_),ci ((gl a i.toNat).crop_),.d (DL (α:=Rect) (gl a i.toNat).region_.rects_)])] ⟨KAt.CC (history_single_spec l0) Tryz.call105 [],⟨⟩⟩ ?_
    refine AW.SG0 Fm 2 [(0,AL a),(3,vi i),(4,pt 4),(5,vi n),(13,AL a),(14,vi (lI a)),(15,vi i),(23,vb (n != (0:Int)))] [(4,bx [ci ((gl a i.toNat).year_),ci ((gl a i.toNat).crop_),.d (DL (α:=Rect) (gl a i.toNat).region_.rects_)])] ?_
    refine AW.cN h (fun W h=>?_) (fun W h=>?_)
    ·refine AW.SG0 Fm 2 [(2,vi n)] [] ?_
     refine AW.ret ?_
     obtain rfl:=Option.some.inj h
     exact Kn.D Fm
    ·refine AW.skip (AW.join (r:=r) (fun z:Bool=>history_Check_k1 F i L z) (fun z=>[(0,AL a),(13,AL a),(14,vi (lI a)),(15,vi i),(36,vb z)]) (fun z=>[]) (fun D0 h=>?_) (fun q0 B=>?_))
     ·refine AW.cN h (fun X h=>?_) (fun X h=>?_)
      ·refine AW.SG0 Fm 1 [(2,vi 3)] [] ?_
       refine AW.ret ?_
       obtain rfl:=Option.some.inj h
       exact Kn.D Fm
      ·refine AW.skip ?_
       obtain ⟨d0,h⟩:=gS h
       refine AW.pN Fm [.s,.s] [(0,AL a),(13,AL a),(14,vi (lI a)),(15,vi (i+1))] [] (cT (cT d0)) ?_
       exact Kn.R Fm (M (i+1) h)
     ·rcases br_or h with ⟨A,h⟩|⟨A,h⟩
      ·obtain ⟨b0,c0,h⟩:=gS2 h
       obtain ⟨o,m0,h⟩:=bS h
       refine AW.G Fm [.s,.s,.w (vb true),.s,.s,.s,.s,.s,.s,.k (cE [] [] (vi o) [] []),.s,.s] (fun K=>_∧(_∧True)∧_∧K 9∧True) [(0,AL a),(13,AL a),(14,vi (lI a)),(15,vi i),(28,AL a),(29,vi i),(30,vi (i-1)),(31,.v (.c (.elm [.int .i64 (gl a (i-1).toNat).year_,.int .i64 (gl a (i-1).toNat).crop_,DL (α:=Rect) (gl a (i-1).toNat).region_.rects_]))),(32,.v (.g [ci ((gl a (i-1).toNat).year_),ci ((gl a (i-1).toNat).crop_),.d (DL (α:=Rect) (gl a (i-1).toNat).region_.rects_)])),(33,.v (.g [ci ((gl a i.toNat).year_),ci ((gl a i.toNat).crop_),.d (DL (α:=Rect) (gl a i.toNat).region_.rects_)])),(34,vi o),(35,vb (decide ((0:Int)≤o))),(36,vb (decide ((0:Int)≤o)))] [] ⟨ALe.bool A,⟨b0,⟨⟩⟩,c0,KAt.CC (history_compare_spec m0) Tryz.call104 [],⟨⟩⟩ ?_
       exact Kn.R Fm (B (decide ((0:Int)≤o)) h)
      ·refine AW.pN Fm [.s,.s,.w (vb false),.s,.s,.s,.s,.s,.s,.s,.s,.s] [(0,AL a),(13,AL a),(14,vi (lI a)),(15,vi i),(36,vb false)] [] (cT (ALe.bool A)) ?_
       exact Kn.R Fm (B false h)
   ·exact AW.exit (Kn.R Fm (N () h))
theorem slices_Concat_Span_spec {F:Nat} {a:(List (List Span))} {r:(List Span)} (h:slices_Concat_Span F a=some r) :
  FSpec Tryz.prog 242 [AL a] [] (ow 100) [(100,AO (α:=Span) r)]:=by
 refine FI Tryz.func242 prog_mixed prog_lay fun C Fm=>?_
 unfold slices_Concat_Span at h
 refine AW.SG Fm [.m] (fun K=>True) [(0,AL a)] [] True.intro ?_
 refine AW.SG0 Fm 1 [(0,AL a),(3,vi 0)] [] ?_
 refine AW.join (r:=r) (fun z:Int=>slices_Concat_Span_k1 F a z) (fun z=>[(0,AL a),(3,vi z)]) (fun z=>[]) (fun T h=>?_) (fun L n=>?_)
 ·refine AW.seq ?_
  obtain ⟨i,H,h⟩:=bS h
  refine AW.G Fm [.s,.k (cE [(100,24)] [] (ow 100) [] [(100,AO i)]),.s] (fun K=>K 1∧True) [(0,AL a),(6,ow 24)] [(24,AO i)] ⟨KAt.CC (growN_spec H) Tryz.call284 [(100,24)],⟨⟩⟩ ?_
  refine AW.join (r:=r) (fun z:(List Span)=>slices_Concat_Span_k3 F z) (fun z=>[(6,ow 24)]) (fun z=>[(24,AO z)]) (fun j h=>?_) (fun N p=>?_)
  ·refine AW.SG0 Fm 2 [(2,ow 24)] [(24,AO j)] ?_
   refine AW.ret ?_
   obtain rfl:=Option.some.inj h
   exact Kn.re Fm [(100,24)] [(2,ow 100)] [(100,AO j)] (by kernel_rfl) (by kernel_rfl) (by kernel_rfl) (by kernel_rfl) (Kn.dn Fm (by kernel_rfl))
  ·refine AW.SG0 Fm 3 [(6,ow 24),(25,AL a),(26,vi (lI a)),(27,vi 0)] [(24,AO i)] ?_
   refine AW.block (AW.loopF (E' := fun z=>[(6,ow 24),(25,AL a),(26,vi (lI a)),(27,vi z.1)]) (S' := fun z=>[(24,AO z.2)]) (fun P z M o h=>?_) h)
   obtain ⟨b,d⟩:=z
   refine AW.SG0 Fm 1 [(6,ow 24),(25,AL a),(26,vi (lI a)),(27,vi b),(28,vb (decide (b<(lI a))))] [(24,AO d)] ?_
   refine AW.seq (AW.cN h (fun u h=>?_) (fun u h=>?_))
   ·refine AW.skip (AW.seq (AW.block ?_))
    obtain ⟨B,h⟩:=gS h
    refine AW.SP Fm [.s,.s,.s] [(6,ow 24),(8,AL (α:=Span) (gl a b.toNat)),(25,AL a),(26,vi (lI a)),(27,vi b)] [(24,AO d)] (cT B) ?_
    obtain ⟨D,h⟩:=gS h
    refine AW.WP Fm [.s,.s,.s,.s] [(6,ow 33),(25,AL a),(26,vi (lI a)),(27,vi b)] [(33,AO (α:=Span) (d++(gl a b.toNat)))] (cT (cA D (cT (Is.refl (gl a b.toNat):Is (List.length (α:=Span) (gl a b.toNat)) (LF (α:=Span) (gl a b.toNat)) (gl a b.toNat)).len))) [(33,.arr 2 ((List.length (α:=Span) d)+(List.length (α:=Span) (gl a b.toNat))) (appF (List.length (α:=Span) d) (LF (α:=Span) d) (LF (α:=Span) (gl a b.toNat))))] ⟨OLe.is (Is.app (Is.refl d) (Is.refl (gl a b.toNat))),⟨⟩⟩ ?_
    obtain ⟨E,h⟩:=gS h
    refine AW.pN Fm [.s,.s] [(6,ow 33),(25,AL a),(26,vi (lI a)),(27,vi (b+1))] [(33,AO (α:=Span) (d++(gl a b.toNat)))] (cT (cT E)) ?_
    exact Kn.RE Fm [(24,33)] (o ((b+1),(d++(gl a b.toNat))) h)
   ·exact AW.exit (Kn.R Fm (p d h))
 ·refine AW.SG0 Fm 3 [(0,AL a),(3,vi 0),(9,AL a),(10,vi (lI a)),(11,vi 0)] [] ?_
  refine AW.block (AW.loopF (E' := fun z=>[(0,AL a),(3,vi z.1),(9,AL a),(10,vi (lI a)),(11,vi z.2)]) (S' := fun z=>[]) (fun O z I l h=>?_) h)
  obtain ⟨e,c⟩:=z
  refine AW.SG0 Fm 1 [(0,AL a),(3,vi e),(9,AL a),(10,vi (lI a)),(11,vi c),(12,vb (decide (c<(lI a))))] [] ?_
  refine AW.seq (AW.cN h (fun q h=>?_) (fun q h=>?_))
  ·refine AW.skip (AW.seq (AW.block ?_))
   obtain ⟨w,h⟩:=gS h
   refine AW.SP Fm [.s,.s,.s] [(0,AL a),(3,vi e),(5,AL (α:=Span) (gl a c.toNat)),(9,AL a),(10,vi (lI a)),(11,vi c)] [] (cT w) ?_
   obtain ⟨y,h⟩:=gS h
   refine AW.SP Fm [.s,.s,.s,.s,.s] [(0,AL a),(3,vi (e+(lI (gl a c.toNat)))),(9,AL a),(10,vi (lI a)),(11,vi c)] [] (cT (cT y)) ?_
   refine AW.SG0 Fm 2 [(0,AL a),(3,vi (e+(lI (gl a c.toNat)))),(9,AL a),(10,vi (lI a)),(11,vi c),(20,vb (decide ((e+(lI (gl a c.toNat)))<(0:Int))))] [] ?_
   refine AW.cN h (fun t h=>?_) (fun t h=>?_)
   ·cases h
   ·refine AW.skip ?_
    obtain ⟨A,h⟩:=gS h
    refine AW.pN Fm [.s,.s] [(0,AL a),(3,vi (e+(lI (gl a c.toNat)))),(9,AL a),(10,vi (lI a)),(11,vi (c+1))] [] (cT (cT A)) ?_
    exact Kn.R Fm (l ((e+(lI (gl a c.toNat))),(c+1)) h)
  ·exact AW.exit (Kn.R Fm (n e h))
theorem region_inside_1_spec {F:Nat} {b:Span} {a:Int} {r:Bool} (h:region_inside_1 F b a=some r) :
  FSpec Tryz.prog 286 [gE b,pt 0] [(0,.box true [ci a])] (vb r) [(0,.box true [ci a])]:=by
 refine FI Tryz.func286 prog_mixed prog_lay fun C Fm=>?_
 unfold region_inside_1 at h
 refine AW.SG0 Fm 2 [(1,pt 0),(2,pt 2)] [(0,.box true [ci a]),(2,bx (gC b))] ?_
 refine AW.join (r:=r) (fun z:Bool=>region_inside_1_k0 F z) (fun z=>[(3,vb z)]) (fun z=>[(0,.box true [ci a])]) (fun i h=>?_) (fun e d=>?_)
 ·refine AW.ret ?_
  obtain rfl:=Option.some.inj h
  exact Kn.D Fm
 ·rcases br_or h with ⟨c,h⟩|⟨c,h⟩
  ·refine AW.pN Fm [.s,.s,.s,.s,.w (vb true),.s,.s,.s,.s,.s,.s] [(3,vb (decide (a<b.right_)))] [(0,.box true [ci a])] (cT (ALe.bool c)) ?_
   exact Kn.R Fm (d (decide (a<b.right_)) h)
  ·refine AW.pN Fm [.s,.s,.s,.s,.w (vb false),.s,.s,.s,.s,.s,.s] [(3,vb false)] [(0,.box true [ci a])] (cT (ALe.bool c)) ?_
   exact Kn.R Fm (d false h)
theorem slices_IndexFunc_Span_spec {F:Nat} {a:(List Span)} {d:Span→Option Bool} {r:Int} (h:slices_IndexFunc_Span F a d=some r) :
  FSpec Tryz.prog 318 [AL a,.v (.c (.sem (CloOK Tryz.prog (FR_Span_Bool d))))] [] (vi r) []:=by
 refine FI Tryz.func318 prog_mixed prog_lay fun C Fm=>?_
 unfold slices_IndexFunc_Span at h
 refine AW.SG0 Fm 1 [(0,AL a),(1,.v (.c (.sem (CloOK Tryz.prog (FR_Span_Bool d)))))] [] ?_
 refine AW.join (r:=r) (fun z:Unit=>slices_IndexFunc_Span_k1 F) (fun z=>[]) (fun z=>[]) (fun z h=>?_) (fun t j=>?_)
 ·refine AW.SG0 Fm 1 [(4,vi (-1:Int))] [] ?_
  refine AW.ret ?_
  obtain rfl:=Option.some.inj h
  exact Kn.D Fm
 ·refine AW.SG0 Fm 3 [(0,AL a),(1,.v (.c (.sem (CloOK Tryz.prog (FR_Span_Bool d))))),(7,vi (lI a)),(8,vi 0)] [] ?_
  refine AW.block (AW.loopF (E' := fun z=>[(0,AL a),(1,.v (.c (.sem (CloOK Tryz.prog (FR_Span_Bool d))))),(7,vi (lI a)),(8,vi z)]) (S' := fun z=>[]) (fun u b q i h=>?_) h)
  refine AW.SG0 Fm 1 [(0,AL a),(1,.v (.c (.sem (CloOK Tryz.prog (FR_Span_Bool d))))),(7,vi (lI a)),(8,vi b),(9,vb (decide (b<(lI a))))] [] ?_
  refine AW.seq (AW.cN h (fun l h=>?_) (fun l h=>?_))
  ·refine AW.skip (AW.seq (AW.block (AW.SG0 Fm 2 [(0,AL a),(1,.v (.c (.sem (CloOK Tryz.prog (FR_Span_Bool d))))),(5,vi b),(7,vi (lI a)),(8,vi b)] [] ?_)))
   refine AW.seq ?_
   obtain ⟨n,h⟩:=gS h
   obtain ⟨e,p,h⟩:=bS h
   refine AW.G Fm [.s,.s,.s,.s,.s,.k (sE (vb e))] (fun K=>_∧K 5∧True) [(0,AL a),(1,.v (.c (.sem (CloOK Tryz.prog (FR_Span_Bool d))))),(5,vi b),(7,vi (lI a)),(8,vi b),(16,vb e)] [] ⟨n,KAt.sem (F:=(FR_Span_Bool d)) (args:=[.v (.g [ci ((gl a b.toNat).left_),ci ((gl a b.toNat).right_)])]) ⟨(gl a b.toNat),e,p,rfl,rfl⟩ rfl (by kernel_rfl) (by kernel_rfl) (by kernel_rfl),⟨⟩⟩ ?_
   refine AW.cN h (fun m h=>?_) (fun m h=>?_)
   ·refine AW.SG0 Fm 2 [(4,vi b)] [] ?_
    refine AW.ret ?_
    obtain rfl:=Option.some.inj h
    exact Kn.D Fm
   ·refine AW.skip ?_
    obtain ⟨o,h⟩:=gS h
    refine AW.pN Fm [.s,.s] [(0,AL a),(1,.v (.c (.sem (CloOK Tryz.prog (FR_Span_Bool d))))),(7,vi (lI a)),(8,vi (b+1))] [] (cT (cT o)) ?_
    exact Kn.R Fm (i (b+1) h)
  ·exact AW.exit (Kn.R Fm (j () h))
theorem slices_ContainsFunc_Span_spec {F:Nat} {a:(List Span)} {b:Span→Option Bool} {r:Bool} (h:slices_ContainsFunc_Span F a b=some r) :
  FSpec Tryz.prog 285 [AL a,.v (.c (.sem (CloOK Tryz.prog (FR_Span_Bool b))))] [] (vb r) []:=by
 refine FI Tryz.func285 prog_mixed prog_lay fun C Fm=>?_
 unfold slices_ContainsFunc_Span at h
 refine AW.SG0 Fm 1 [(0,AL a),(1,.v (.c (.sem (CloOK Tryz.prog (FR_Span_Bool b)))))] [] ?_
 refine AW.seq ?_
 obtain ⟨d,e,h⟩:=bS h
 refine AW.G Fm [.s,.s,.k (cE [] [] (vi d) [] []),.s,.s] (fun K=>K 2∧True) [(4,vb (decide ((0:Int)≤d)))] [] ⟨KAt.callX (slices_IndexFunc_Span_spec e) Tryz.call318 [] [] [.tmp 5,.tmp 6] rfl (by kernel_rfl) (by kernel_rfl) (by kernel_rfl) ⟨.p,ArgT.semX (by kernel_rfl) (by kernel_rfl) (by kernel_rfl),⟨⟩⟩,⟨⟩⟩ ?_
 refine AW.ret ?_
 obtain rfl:=Option.some.inj h
 exact Kn.D Fm
theorem region_inside_spec {F:Nat} {b:(List Span)} {a:Int} {r:Bool} (h:region_inside F b a=some r) :
  FSpec Tryz.prog 243 [AL b,vi a] [] (vb r) []:=by
 refine FI Tryz.func243 prog_mixed prog_lay fun C Fm=>?_
 unfold region_inside at h
 refine AW.SG0 Fm 2 [(0,AL b),(3,pt 3)] [(3,bx [ci a])] ?_
 refine AW.seq ?_
 obtain ⟨c,d,h⟩:=bS h
 refine AW.G Fm [.s,.s,.k (cE [] [3] (vb c) [] []),.s] (fun K=>K 2∧True) [(4,vb c)] [] ⟨KAt.callX (slices_ContainsFunc_Span_spec d) Tryz.call285 [] [3] [.tmp 5,.tmp 6] rfl (by kernel_rfl) (by kernel_rfl) (by kernel_rfl) ⟨.p,ArgT.cloX Tryz.call286 [[ci a]] (fun args r hq=>by obtain ⟨y0,y,hq,rfl,rfl⟩:=hq; exact Eq.mp (by kernel_rfl) (region_inside_1_spec hq)) (fun args r hq=>by obtain ⟨y0,y,hq,rfl,rfl⟩:=hq; rfl) (by kernel_rfl) [3] (by kernel_rfl) (by kernel_rfl) (⟨⟨false,(by kernel_rfl)⟩,⟨⟩⟩) (by kernel_rfl),⟨⟩⟩,⟨⟩⟩ ?_
 refine AW.ret ?_
 obtain rfl:=Option.some.inj h
 exact Kn.D Fm
theorem region_merge_spec {F:Nat} {n:(List Span)} {o:(List Span)} {p:Bool→Bool→Option Bool} {r:(List Span)} (h:region_merge F n o p=some r) :
  FSpec Tryz.prog 190 [AL n,AL o,.v (.c (.sem (CloOK Tryz.prog (FR_Bool_Bool_Bool p))))] [] (AL (α:=Span) r) []:=by
 refine FI Tryz.func190 prog_mixed prog_lay fun C Fm=>?_
 unfold region_merge at h
 refine AW.SG0 Fm 1 [(0,AL n),(1,AL o),(2,.v (.c (.sem (CloOK Tryz.prog (FR_Bool_Bool_Bool p)))))] [] ?_
 refine AW.SW Fm [.m] (fun K=>True) [(0,AL n),(1,AL o),(2,.v (.c (.sem (CloOK Tryz.prog (FR_Bool_Bool_Bool p))))),(7,ow 7)] [(7,AO (α:=Int) ([]:List Int))] True.intro [(7,.arr 1 (0) (fun _=>[]))] ⟨OLe.is ((Is.nil (α:=Int))),⟨⟩⟩ ?_
 refine AW.join (r:=r) (fun z:(List Int)=>region_merge_k1 F n o p z) (fun z=>[(0,AL n),(1,AL o),(2,.v (.c (.sem (CloOK Tryz.prog (FR_Bool_Bool_Bool p))))),(7,ow 7)]) (fun z=>[(7,AO z)]) (fun w0 h=>?_) (fun A0 X=>?_)
 ·refine AW.seq ?_
  obtain ⟨B,p0,h⟩:=bS h
  refine AW.G Fm [.s,.k (cE [(0,7)] [] (.any) [(0,AO w0)] [(0,AO B)])] (fun K=>K 1∧True) [(0,AL n),(1,AL o),(2,.v (.c (.sem (CloOK Tryz.prog (FR_Bool_Bool_Bool p))))),(7,ow 7)] [(7,AO B)] ⟨KAt.CC (sortI_spec p0) Tryz.call214 [(0,7)],⟨⟩⟩ ?_
  refine AW.seq ?_
  obtain ⟨a,q0,h⟩:=bS h
  refine AW.G Fm [.s,.k (cE [(0,7),(100,34)] [] (ow 100) [(0,AO B)] [(100,AO a)]),.s] (fun K=>K 1∧True) [(0,AL n),(1,AL o),(2,.v (.c (.sem (CloOK Tryz.prog (FR_Bool_Bool_Bool p))))),(7,ow 34)] [(34,AO a)] ⟨KAt.CC (slices_Compact_int_spec q0) Tryz.call241 [(0,7),(100,34)],⟨⟩⟩ ?_
  refine AW.SW Fm [.m] (fun K=>True) [(0,AL n),(1,AL o),(2,.v (.c (.sem (CloOK Tryz.prog (FR_Bool_Bool_Bool p))))),(7,ow 34),(10,ow 10)] [(10,AO (α:=Span) ([]:List Span)),(34,AO a)] True.intro [(10,.arr 2 (0) (fun _=>[]))] ⟨OLe.is ((Is.nil (α:=Span))),⟨⟩⟩ ?_
  refine AW.join (r:=r) (fun z:(List Span)=>region_merge_k5 F z) (fun z=>[(10,ow 10)]) (fun z=>[(10,AO z)]) (fun A h=>?_) (fun G0 Z=>?_)
  ·refine AW.SG0 Fm 2 [(6,ow 10)] [(10,AO A)] ?_
   refine AW.ret ?_
   obtain rfl:=Option.some.inj h
   refine Kn.r Fm [(6,ow 10)] [(10,AO A)] (by kernel_rfl) ?_
   refine Kn.frz [(6,AL A)] [] (by kernel_rfl) (by kernel_rfl) (by kernel_rfl) ?_
   exact Kn.D Fm
  ·refine AW.SG0 Fm 1 [(0,AL n),(1,AL o),(2,.v (.c (.sem (CloOK Tryz.prog (FR_Bool_Bool_Bool p))))),(7,ow 34),(10,ow 10),(11,vi 1)] [(10,AO (α:=Span) ([]:List Span)),(34,AO a)] ?_
   refine AW.block (Kn.r Fm [(0,AL n),(1,AL o),(2,.v (.c (.sem (CloOK Tryz.prog (FR_Bool_Bool_Bool p))))),(7,ow 34),(10,ow 10),(11,vi 1)] [(10,AO ([]:List Span)),(34,AO a)] (by kernel_rfl) ?_)
   refine AW.loopF (E' := fun z=>[(0,AL n),(1,AL o),(2,.v (.c (.sem (CloOK Tryz.prog (FR_Bool_Bool_Bool p))))),(7,ow 34),(10,ow 10),(11,vi z.1)]) (S' := fun z=>[(10,AO z.2),(34,AO a)]) (fun L z B0 Y h=>?_) h
   obtain ⟨b,e⟩:=z
   refine AW.seq (AW.SG0 Fm 4 [(0,AL n),(1,AL o),(2,.v (.c (.sem (CloOK Tryz.prog (FR_Bool_Bool_Bool p))))),(7,ow 34),(10,ow 10),(11,vi b),(38,vb (decide (b<(lI a))))] [(10,AO e),(34,AO a)] ?_)
   refine AW.cN h (fun b0 h=>?_) (fun b0 h=>?_)
   ·refine AW.skip (AW.join (r:=r) (fun z:(List Span)=>region_merge_k4 F b L z) (fun z=>[(0,AL n),(1,AL o),(2,.v (.c (.sem (CloOK Tryz.prog (FR_Bool_Bool_Bool p))))),(7,ow 34),(10,ow 10),(11,vi b)]) (fun z=>[(10,AO z),(34,AO a)]) (fun V h=>?_) (fun E0 t=>?_))
    ·obtain ⟨n0,h⟩:=gS h
     refine AW.pN Fm [.s,.s,.s] [(0,AL n),(1,AL o),(2,.v (.c (.sem (CloOK Tryz.prog (FR_Bool_Bool_Bool p))))),(7,ow 34),(10,ow 10),(11,vi (b+1))] [(10,AO V),(34,AO a)] (cT (cT n0)) ?_
     exact Kn.R Fm (Y ((b+1),V) h)
    ·refine AW.block ?_
     obtain ⟨j0,O,h⟩:=gS2 h
     refine AW.SP Fm [.s,.s,.s,.s,.s,.s] [(0,AL n),(1,AL o),(2,.v (.c (.sem (CloOK Tryz.prog (FR_Bool_Bool_Bool p))))),(7,ow 34),(10,ow 10),(11,vi b),(12,vi (gl a (b-1).toNat))] [(10,AO e),(34,AO a)] (cA (cT j0) (cA O (cT (toNat_lt O)))) ?_
     refine AW.seq (AW.seq ?_)
     obtain ⟨E,s0,h⟩:=bS h
     obtain ⟨H,t0,h⟩:=bS h
     obtain ⟨I,u0,h⟩:=bS h
     refine AW.G Fm [.s,.s,.s,.k (cE [] [] (vb E) [] []),.s,.s,.k (cE [] [] (vb H) [] []),.k (sE (vb I)),.s] (fun K=>K 3∧K 6∧K 7∧True) [(0,AL n),(1,AL o),(2,.v (.c (.sem (CloOK Tryz.prog (FR_Bool_Bool_Bool p))))),(7,ow 34),(10,ow 10),(11,vi b),(12,vi (gl a (b-1).toNat)),(54,vb (!I))] [(10,AO e),(34,AO a)] ⟨KAt.CC (region_inside_spec s0) Tryz.call243 [],KAt.CC (region_inside_spec t0) Tryz.call243 [],KAt.sem (F:=(FR_Bool_Bool_Bool p)) (args:=[vb E,vb H]) ⟨E,H,I,u0,rfl,rfl⟩ rfl (by kernel_rfl) (by kernel_rfl) (by kernel_rfl),⟨⟩⟩ ?_
     refine AW.cN h (fun c0 h=>?_) (fun c0 h=>?_)
     ·exact AW.exit (Kn.R Fm (t e h))
     ·refine AW.skip (AW.SG0 Fm 3 [(0,AL n),(1,AL o),(2,.v (.c (.sem (CloOK Tryz.prog (FR_Bool_Bool_Bool p))))),(7,ow 34),(10,ow 10),(11,vi b),(12,vi (gl a (b-1).toNat)),(13,vi (lI e))] [(10,AO e),(34,AO a)] ?_)
      refine AW.join (r:=r) (fun z:Bool=>region_merge_k3 F a b e L z) (fun z=>[(0,AL n),(1,AL o),(2,.v (.c (.sem (CloOK Tryz.prog (FR_Bool_Bool_Bool p))))),(7,ow 34),(10,ow 10),(11,vi b),(12,vi (gl a (b-1).toNat)),(13,vi (lI e)),(68,vb z)]) (fun z=>[(10,AO e),(34,AO a)]) (fun I0 h=>?_) (fun D0 M=>?_)
      ·refine AW.cN h (fun d0 h=>?_) (fun d0 h=>?_)
       ·obtain ⟨l0,T,y,h⟩:=gS3 h
        refine AW.WP Fm [.s,.s,.s,.s,.s,.s,.s,.s,.s,.s] [(0,AL n),(1,AL o),(2,.v (.c (.sem (CloOK Tryz.prog (FR_Bool_Bool_Bool p))))),(7,ow 34),(10,ow 10),(11,vi b)] [(10,AO (α:=Span) (List.set e ((lI e)-1).toNat (⟨(gl e ((lI e)-1).toNat).left_,(gl a b.toNat)⟩ : Span))),(34,AO a)] (cA (cT l0) (cA T (cA (toNat_lt T) (cA y (cT (toNat_lt y)))))) [(10,.arr 2 (List.length (α:=Span) e) (fun j=>if j=((lI e)-1).toNat then splice ((LF (α:=Span) e) ((lI e)-1).toNat) 1 [.int .i64 (gl a b.toNat)] else (LF (α:=Span) e) j))] ⟨OLe.is (Is.set (Is.refl e) (toNat_lt y) (⟨(gl e ((lI e)-1).toNat).left_,(gl a b.toNat)⟩ : Span) (by kernel_rfl)),⟨⟩⟩ ?_
        exact Kn.R Fm (t (List.set e ((lI e)-1).toNat (⟨(gl e ((lI e)-1).toNat).left_,(gl a b.toNat)⟩ : Span)) h)
       ·obtain ⟨U,m0,h⟩:=gS2 h
        refine AW.WP Fm [.s,.s,.s,.s,.s,.s,.s,.w (AL (α:=Span) ([(⟨(gl a (b-1).toNat),(gl a b.toNat)⟩ : Span)]:List Span)),.s,.s] [(0,AL n),(1,AL o),(2,.v (.c (.sem (CloOK Tryz.prog (FR_Bool_Bool_Bool p))))),(7,ow 34),(10,ow 86),(11,vi b)] [(34,AO a),(86,AO (α:=Span) (e++([(⟨(gl a (b-1).toNat),(gl a b.toNat)⟩ : Span)]:List Span)))] (cA U (cA (toNat_lt U) (cA (ALe.lst (.lit ([(⟨(gl a (b-1).toNat),(gl a b.toNat)⟩ : Span)]:List Span) (by kernel_rfl)):ALe (.v (.c (.d (.lst 1 (litF 2 [.int .i64 (gl a (b-1).toNat),.int .i64 (gl a b.toNat)]))))) (AL (α:=Span) ([(⟨(gl a (b-1).toNat),(gl a b.toNat)⟩ : Span)]:List Span))) (cT (cA m0 (cT (Is.refl ([(⟨(gl a (b-1).toNat),(gl a b.toNat)⟩ : Span)]:List Span):Is (List.length (α:=Span) ([(⟨(gl a (b-1).toNat),(gl a b.toNat)⟩ : Span)]:List Span)) (LF (α:=Span) ([(⟨(gl a (b-1).toNat),(gl a b.toNat)⟩ : Span)]:List Span)) ([(⟨(gl a (b-1).toNat),(gl a b.toNat)⟩ : Span)]:List Span)).len)))))) [(86,.arr 2 ((List.length (α:=Span) e)+(List.length (α:=Span) ([(⟨(gl a (b-1).toNat),(gl a b.toNat)⟩ : Span)]:List Span))) (appF (List.length (α:=Span) e) (LF (α:=Span) e) (LF (α:=Span) ([(⟨(gl a (b-1).toNat),(gl a b.toNat)⟩ : Span)]:List Span))))] ⟨OLe.is (Is.app (Is.refl e) (Is.refl ([(⟨(gl a (b-1).toNat),(gl a b.toNat)⟩ : Span)]:List Span))),⟨⟩⟩ ?_
        exact Kn.RE Fm [(10,86)] (t (e++([(⟨(gl a (b-1).toNat),(gl a b.toNat)⟩ : Span)]:List Span)) h)
      ·rcases br_or h with ⟨u,h⟩|⟨u,h⟩
       ·obtain ⟨k0,P,h⟩:=gS2 h
        refine AW.pN Fm [.s,.s,.w (vb true),.s,.s,.s,.s,.s,.s,.s,.s,.s] [(0,AL n),(1,AL o),(2,.v (.c (.sem (CloOK Tryz.prog (FR_Bool_Bool_Bool p))))),(7,ow 34),(10,ow 10),(11,vi b),(12,vi (gl a (b-1).toNat)),(13,vi (lI e)),(60,ow 10),(61,vi (lI e)),(62,vi ((lI e)-1)),(63,.v (.c (.pte 10 2 (((lI e)-1).toNat) 0))),(64,.v (.c (.pte 10 2 (((lI e)-1).toNat) 1))),(65,vi (gl e ((lI e)-1).toNat).right_),(66,vi (gl a (b-1).toNat)),(67,vb (((gl e ((lI e)-1).toNat).right_)==(gl a (b-1).toNat))),(68,vb (((gl e ((lI e)-1).toNat).right_)==(gl a (b-1).toNat)))] [(10,AO e),(34,AO a)] (cA (ALe.bool u) (cA (cT k0) (cA P (cT (toNat_lt P))))) ?_
        exact Kn.R Fm (M (((gl e ((lI e)-1).toNat).right_)==(gl a (b-1).toNat)) h)
       ·refine AW.pN Fm [.s,.s,.w (vb false),.s,.s,.s,.s,.s,.s,.s,.s,.s] [(0,AL n),(1,AL o),(2,.v (.c (.sem (CloOK Tryz.prog (FR_Bool_Bool_Bool p))))),(7,ow 34),(10,ow 10),(11,vi b),(12,vi (gl a (b-1).toNat)),(13,vi (lI e)),(68,vb false)] [(10,AO e),(34,AO a)] (cT (ALe.bool u)) ?_
        exact Kn.R Fm (M false h)
   ·exact AW.exit (Kn.R Fm (Z e h))
 ·refine AW.seq ?_
  obtain ⟨i,o0,h⟩:=bS h
  refine AW.G Fm [.s,.s,.w (AL (α:=(List Span)) ([n,o]:List (List Span))),.k (cE [(100,17)] [] (ow 100) [] [(100,AO i)]),.s,.s] (fun K=>(ALe (.v (.c (.d (.lst 2 (litF 1 [DL n,DL o]))))) (AL (α:=(List Span)) ([n,o]:List (List Span))))∧K 3∧True) [(0,AL n),(1,AL o),(2,.v (.c (.sem (CloOK Tryz.prog (FR_Bool_Bool_Bool p))))),(7,ow 7),(17,ow 17),(18,vi (lI i)),(19,vi 0)] [(7,AO (α:=Int) ([]:List Int)),(17,AO i)] ⟨ALe.lst (.lit ([n,o]:List (List Span)) (by kernel_rfl)),KAt.CC (slices_Concat_Span_spec o0) Tryz.call242 [(100,17)],⟨⟩⟩ ?_
  refine AW.block (Kn.r Fm [(0,AL n),(1,AL o),(2,.v (.c (.sem (CloOK Tryz.prog (FR_Bool_Bool_Bool p))))),(7,ow 7),(17,ow 17),(18,vi (lI i)),(19,vi 0)] [(7,AO ([]:List Int)),(17,AO i)] (by kernel_rfl) ?_)
  refine AW.loopF (E' := fun z=>[(0,AL n),(1,AL o),(2,.v (.c (.sem (CloOK Tryz.prog (FR_Bool_Bool_Bool p))))),(7,ow 7),(17,ow 17),(18,vi (lI i)),(19,vi z.1)]) (S' := fun z=>[(7,AO z.2),(17,AO i)]) (fun H0 z y0 W h=>?_) h
  obtain ⟨l,q⟩:=z
  refine AW.SG0 Fm 1 [(0,AL n),(1,AL o),(2,.v (.c (.sem (CloOK Tryz.prog (FR_Bool_Bool_Bool p))))),(7,ow 7),(17,ow 17),(18,vi (lI i)),(19,vi l),(20,vb (decide (l<(lI i))))] [(7,AO q),(17,AO i)] ?_
  refine AW.seq (AW.cN h (fun a0 h=>?_) (fun a0 h=>?_))
  ·refine AW.skip (AW.seq (AW.block ?_))
   obtain ⟨N,h⟩:=gS h
   refine AW.SP Fm [.s,.s,.s,.s] [(0,AL n),(1,AL o),(2,.v (.c (.sem (CloOK Tryz.prog (FR_Bool_Bool_Bool p))))),(7,ow 7),(9,pt 9),(17,ow 17),(18,vi (lI i)),(19,vi l)] [(7,AO q),(9,bx [ci ((gl i l.toNat).left_),ci ((gl i l.toNat).right_)]),(17,AO i)] (cA N (cT (toNat_lt N))) ?_
   obtain ⟨e0,h⟩:=gS h
   refine AW.WP Fm [.s,.s,.s,.s,.s,.w (AL (α:=Int) ([(gl i l.toNat).left_,(gl i l.toNat).right_]:List Int)),.s,.s] [(0,AL n),(1,AL o),(2,.v (.c (.sem (CloOK Tryz.prog (FR_Bool_Bool_Bool p))))),(7,ow 29),(17,ow 17),(18,vi (lI i)),(19,vi l)] [(17,AO i),(29,AO (α:=Int) (q++([(gl i l.toNat).left_,(gl i l.toNat).right_]:List Int)))] (cA (ALe.lst (.lit ([(gl i l.toNat).left_,(gl i l.toNat).right_]:List Int) (by kernel_rfl)):ALe (.v (.c (.d (.lst 2 (litF 1 [.int .i64 (gl i l.toNat).left_,.int .i64 (gl i l.toNat).right_]))))) (AL (α:=Int) ([(gl i l.toNat).left_,(gl i l.toNat).right_]:List Int))) (cT (cA e0 (cT (Is.refl ([(gl i l.toNat).left_,(gl i l.toNat).right_]:List Int):Is (List.length (α:=Int) ([(gl i l.toNat).left_,(gl i l.toNat).right_]:List Int)) (LF (α:=Int) ([(gl i l.toNat).left_,(gl i l.toNat).right_]:List Int)) ([(gl i l.toNat).left_,(gl i l.toNat).right_]:List Int)).len)))) [(29,.arr 1 ((List.length (α:=Int) q)+(List.length (α:=Int) ([(gl i l.toNat).left_,(gl i l.toNat).right_]:List Int))) (appF (List.length (α:=Int) q) (LF (α:=Int) q) (LF (α:=Int) ([(gl i l.toNat).left_,(gl i l.toNat).right_]:List Int))))] ⟨OLe.is (Is.app (Is.refl q) (Is.refl ([(gl i l.toNat).left_,(gl i l.toNat).right_]:List Int))),⟨⟩⟩ ?_
   obtain ⟨i0,h⟩:=gS h
   refine AW.pN Fm [.s,.s] [(0,AL n),(1,AL o),(2,.v (.c (.sem (CloOK Tryz.prog (FR_Bool_Bool_Bool p))))),(7,ow 29),(17,ow 17),(18,vi (lI i)),(19,vi (l+1))] [(17,AO i),(29,AO (α:=Int) (q++([(gl i l.toNat).left_,(gl i l.toNat).right_]:List Int)))] (cT (cT i0)) ?_
   exact Kn.RE Fm [(7,29)] (W ((l+1),(q++([(gl i l.toNat).left_,(gl i l.toNat).right_]:List Int))) h)
  ·exact AW.exit (Kn.R Fm (X q h))
theorem region_Choose_1_spec {F:Nat} {e:Int} {a:(List Rect)} {b:(List Rect)} {c:Bool→Bool→Option Bool} {r:(List Span)} (h:region_Choose_1 F e a b c=some r) :
  FSpec Tryz.prog 189 [vi e,pt 0,pt 1,pt 2] [(0,.box true [.d (DL a)]),(1,.box true [.d (DL b)]),(2,.box true [.sem (CloOK Tryz.prog (FR_Bool_Bool_Bool c))])] (AL (α:=Span) r) [(0,.box true [.d (DL a)]),(1,.box true [.d (DL b)]),(2,.box true [.sem (CloOK Tryz.prog (FR_Bool_Bool_Bool c))])]:=by
 refine FI Tryz.func189 prog_mixed prog_lay fun C Fm=>?_
 unfold region_Choose_1 at h
 refine AW.SG0 Fm 1 [(0,vi e),(1,pt 0),(2,pt 1),(3,pt 2)] [(0,.box true [.d (DL a)]),(1,.box true [.d (DL b)]),(2,.box true [.sem (CloOK Tryz.prog (FR_Bool_Bool_Bool c))])] ?_
 refine AW.seq ?_
 obtain ⟨n,j,h⟩:=bS h
 obtain ⟨o,l,h⟩:=bS h
 obtain ⟨i,m,h⟩:=bS h
 refine AW.G Fm [.s,.s,.k (cE [] [] (AL n) [] []),.s,.s,.k (cE [] [] (AL o) [] []),.s,.k (cE [] [] (AL i) [] []),.s] (fun K=>K 2∧K 5∧K 7∧True) [(5,AL i)] [(0,.box true [.d (DL a)]),(1,.box true [.d (DL b)]),(2,.box true [.sem (CloOK Tryz.prog (FR_Bool_Bool_Bool c))])] ⟨KAt.CC (region_Row_spec j) Tryz.call191 [],KAt.CC (region_Row_spec l) Tryz.call191 [],KAt.callX (region_merge_spec m) Tryz.call190 [] [] [.tmp 8,.tmp 11,.tmp 12] rfl (by kernel_rfl) (by kernel_rfl) (by kernel_rfl) ⟨.p,.p,ArgT.semX (by kernel_rfl) (by kernel_rfl) (by kernel_rfl),⟨⟩⟩,⟨⟩⟩ ?_
 refine AW.ret ?_
 obtain rfl:=Option.some.inj h
 exact Kn.D Fm
theorem region_Choose_spec {F:Nat} {a:(List Rect)} {b:(List Rect)} {e:Bool→Bool→Option Bool} {r:(List Rect)} (h:region_Choose F a b e=some r) :
  FSpec Tryz.prog 95 [AL a,AL b,.v (.c (.sem (CloOK Tryz.prog (FR_Bool_Bool_Bool e))))] [] (AL (α:=Rect) r) []:=by
 refine FI Tryz.func95 prog_mixed prog_lay fun C Fm=>?_
 unfold region_Choose at h
 refine AW.SG0 Fm 4 [(3,pt 3),(4,pt 4),(5,pt 5)] [(3,bx [.d (DL a)]),(4,bx [.d (DL b)]),(5,bx [.sem (CloOK Tryz.prog (FR_Bool_Bool_Bool e))])] ?_
 refine AW.seq ?_
 obtain ⟨m,j,h⟩:=bS h
 obtain ⟨i,l,h⟩:=bS h
 refine AW.G Fm [.s,.s,.w (AL (α:=(List Rect)) ([a,b]:List (List Rect))),.k (cE [] [] (AL m) [] []),.s,.k (cE [] [3,4,5] (AL i) [] []),.s] (fun K=>(ALe (.v (.c (.d (.lst 2 (litF 1 [DL a,DL b]))))) (AL (α:=(List Rect)) ([a,b]:List (List Rect))))∧K 3∧K 5∧True) [(6,AL i)] [] ⟨ALe.lst (.lit ([a,b]:List (List Rect)) (by kernel_rfl)),KAt.CC (region_Cuts_spec j) Tryz.call188 [],KAt.callX (region_Build_spec l) Tryz.call187 [] [3,4,5] [.tmp 10,.tmp 11] rfl (by kernel_rfl) (by kernel_rfl) (by kernel_rfl) ⟨.p,ArgT.cloXP Tryz.call189 [[.d (DL a)],[.d (DL b)],[.sem (CloOK Tryz.prog (FR_Bool_Bool_Bool e))]] (fun args r hq=>by obtain ⟨y0,y,hq,rfl,rfl⟩:=hq; exact Eq.mp (by kernel_rfl) (region_Choose_1_spec hq)) (fun args r hq=>by obtain ⟨y0,y,hq,rfl,rfl⟩:=hq; rfl) (by kernel_rfl) [3,4,5] (by kernel_rfl) (by kernel_rfl) ⟨⟨.inl (by kernel_rfl),⟨⟩⟩,⟨.inl (by kernel_rfl),⟨⟩⟩,⟨.inr ⟨_,rfl⟩,⟨⟩⟩,⟨⟩⟩ (⟨⟨false,(by kernel_rfl)⟩,⟨⟨false,(by kernel_rfl)⟩,⟨⟨false,(by kernel_rfl)⟩,⟨⟩⟩⟩⟩) (by kernel_rfl),⟨⟩⟩,⟨⟩⟩ ?_
 refine AW.ret ?_
 obtain rfl:=Option.some.inj h
 exact Kn.D Fm
theorem history_Add_1_spec {F:Nat} {c:Bool} {a:Bool} {r:Bool} (h:history_Add_1 F c a=some r) :
  FSpec Tryz.prog 96 [vb c,vb a] [] (vb r) []:=by
 refine FI Tryz.func96 prog_mixed prog_lay fun C Fm=>?_
 unfold history_Add_1 at h
 refine AW.SG0 Fm 1 [(0,vb c),(1,vb a)] [] ?_
 refine AW.join (r:=r) (fun z:Bool=>history_Add_1_k0 F z) (fun z=>[(4,vb z)]) (fun z=>[]) (fun i h=>?_) (fun e d=>?_)
 ·refine AW.ret ?_
  obtain rfl:=Option.some.inj h
  exact Kn.D Fm
 ·rcases br_or h with ⟨b,h⟩|⟨b,h⟩
  ·refine AW.pN Fm [.s,.w (vb true),.s,.s,.s] [(4,vb true)] [] (cT (ALe.bool b)) ?_
   exact Kn.R Fm (d true h)
  ·refine AW.pN Fm [.s,.w (vb false),.s,.s,.s] [(4,vb a)] [] (cT (ALe.bool b)) ?_
   exact Kn.R Fm (d a h)
theorem history_Add_2_spec {F:Nat} {c:Bool} {a:Bool} {r:Bool} (h:history_Add_2 F c a=some r) :
  FSpec Tryz.prog 97 [vb c,vb a] [] (vb r) []:=by
 refine FI Tryz.func97 prog_mixed prog_lay fun C Fm=>?_
 unfold history_Add_2 at h
 refine AW.SG0 Fm 1 [(0,vb c),(1,vb a)] [] ?_
 refine AW.join (r:=r) (fun z:Bool=>history_Add_2_k0 F z) (fun z=>[(4,vb z)]) (fun z=>[]) (fun i h=>?_) (fun e d=>?_)
 ·refine AW.ret ?_
  obtain rfl:=Option.some.inj h
  exact Kn.D Fm
 ·rcases br_or h with ⟨b,h⟩|⟨b,h⟩
  ·refine AW.pN Fm [.s,.w (vb true),.s,.s,.s,.s] [(4,vb (!a))] [] (cT (ALe.bool b)) ?_
   exact Kn.R Fm (d (!a) h)
  ·refine AW.pN Fm [.s,.w (vb false),.s,.s,.s,.s] [(4,vb false)] [] (cT (ALe.bool b)) ?_
   exact Kn.R Fm (d false h)
theorem slices_Clone_Rect_spec {F:Nat} {a:(List Rect)} {r:(List Rect)} (h:slices_Clone_Rect F a=some r) :
  FSpec Tryz.prog 192 [AL a] [] (AL (α:=Rect) r) []:=by
 refine FI Tryz.func192 prog_mixed prog_lay fun C Fm=>?_
 unfold slices_Clone_Rect at h
 refine AW.SG0 Fm 1 [(0,AL a)] [] ?_
 refine AW.seq (AW.SG Fm [.s,.k (sE (nb (List.length a)))] (fun K=>K 1∧True) [(0,AL a),(4,.v (.c (.sem (nbP (List.length a)))))] [] ⟨KAt.nil (t:=31) (el:=103) (n:=List.length a) (by kernel_rfl) rfl rfl (by kernel_rfl) (by kernel_rfl) (by kernel_rfl),⟨⟩⟩ ?_)
 refine AW.condNil (n:=List.length a) (by kernel_rfl) (fun d=>?_) ?_
 ·have h:=brN_t h d
  refine AW.SG0 Fm 1 [(2,.v (.c (.fl 0 fun _=>[])))] [] ?_
  refine AW.ret ?_
  obtain rfl:=Option.some.inj h
  refine Kn.r Fm [(2,.v (.c (.fl 0 fun _=>[])))] [] (by kernel_rfl) ?_
  refine Kn.wk [(2,AL (α:=Rect) [])] [] ⟨rfl,ALe.c (CLe.fl .nil),⟨⟩⟩ True.intro ?_
  exact Kn.D Fm
 ·have h:=brN_f h
  refine AW.skip ?_
  obtain ⟨b,h⟩:=gS h
  refine AW.SV Fm [.m,.s,.s,.s] [(2,ow 7)] [(7,AO (α:=Rect) (([]:List Rect)++a))] (cT (cA b (cT (Is.refl a:Is (List.length (α:=Rect) a) (LF (α:=Rect) a) a).len))) [(7,.arr 4 ((0)+(List.length (α:=Rect) a)) (appF (0) (litF 4 []) (LF (α:=Rect) a)))] ⟨OLe.is (Is.app (Is.lit ([]:List Rect) (by kernel_rfl)) (Is.refl a)),⟨⟩⟩ ?_
  refine AW.ret ?_
  obtain rfl:=Option.some.inj h
  refine Kn.r Fm [(2,ow 7)] [(7,AO (α:=Rect) (([]:List Rect)++a))] (by kernel_rfl) ?_
  refine Kn.frz [(2,AL (α:=Rect) (([]:List Rect)++a))] [] (by kernel_rfl) (by kernel_rfl) (by kernel_rfl) ?_
  exact Kn.D Fm
theorem history_copied_spec {F:Nat} {a:Record} {b:(List Rect)} {r:Record} (h:history_copied F a b=some r) :
  FSpec Tryz.prog 98 [gE a,AL b] [] (gE r) []:=by
 refine FI Tryz.func98 prog_mixed prog_lay fun C Fm=>?_
 unfold history_copied at h
 refine AW.SG0 Fm 2 [(1,AL b),(2,pt 2),(4,pt 4)] [(2,bx (gC a)),(4,bx [ci 0,ci 0,.fl 0 fun _=>[]])] ?_
 refine AW.seq ?_
 obtain ⟨c,e,h⟩:=bS h
 refine AW.G Fm [.s,.k (cE [] [] (AL c) [] []),.s,.s,.s] (fun K=>K 1∧True) [(2,pt 2),(4,pt 4)] [(2,bx [ci a.year_,ci a.crop_,.d (DL c)]),(4,bx [ci 0,ci 0,.fl 0 fun _=>[]])] ⟨KAt.CC (slices_Clone_Rect_spec e) Tryz.call192 [],⟨⟩⟩ ?_
 refine AW.SG0 Fm 2 [(4,pt 4)] [(4,bx [ci a.year_,ci a.crop_,.d (DL c)])] ?_
 refine AW.ret ?_
 obtain rfl:=Option.some.inj h
 exact Kn.D Fm
theorem slices_DeleteFunc_Record_spec {F:Nat} {t:(List Record)} {p:Record→Option Bool} {r:(List Record)} (h:slices_DeleteFunc_Record F t p=some r) :
  FSpec Tryz.prog 99 [ow 0,.v (.c (.sem (CloOK Tryz.prog (FR_Record_Bool p))))] [(0,AO t)] (ow 100) [(100,AO (α:=Record) r)]:=by
 refine FI Tryz.func99 prog_mixed prog_lay fun C Fm=>?_
 unfold slices_DeleteFunc_Record at h
 refine AW.SG Fm [.m] (fun K=>True) [(0,ow 0),(1,.v (.c (.sem (CloOK Tryz.prog (FR_Record_Bool p)))))] [(0,AO t)] True.intro ?_
 refine AW.seq ?_
 obtain ⟨w,Z,h⟩:=bS h
 refine AW.G Fm [.s,.s,.k (sE (vi w)),.s] (fun K=>K 2∧True) [(0,ow 0),(1,.v (.c (.sem (CloOK Tryz.prog (FR_Record_Bool p))))),(5,vi w)] [(0,AO t)] ⟨KAt.callBX (slices_IndexFunc_Record_spec Z) Tryz.call193 [0] [.tmp 8,.tmp 9] rfl (by kernel_rfl) (by kernel_rfl) ⟨ArgB.own 0 (es:=3) (n:=List.length t) (f:=LF t) (by kernel_rfl) (by kernel_rfl) (by kernel_rfl) (by kernel_rfl),ArgB.sem (by kernel_rfl) (by kernel_rfl),⟨⟩⟩,⟨⟩⟩ ?_
 refine AW.seq (AW.SG0 Fm 2 [(0,ow 0),(1,.v (.c (.sem (CloOK Tryz.prog (FR_Record_Bool p))))),(5,vi w),(12,vb (w==(-1:Int)))] [(0,AO t)] ?_)
 refine AW.cN h (fun P h=>?_) (fun P h=>?_)
 ·refine AW.SG0 Fm 2 [(4,ow 0)] [(0,AO t)] ?_
  refine AW.ret ?_
  obtain rfl:=Option.some.inj h
  exact Kn.re Fm [(100,0)] [(4,ow 100)] [(100,AO t)] (by kernel_rfl) (by kernel_rfl) (by kernel_rfl) (by kernel_rfl) (Kn.dn Fm (by kernel_rfl))
 ·refine AW.skip (AW.join (r:=r) (fun z:Int×(List Record)=>slices_DeleteFunc_Record_k2 F z.1 z.2) (fun z=>[(0,ow 0),(5,vi z.1)]) (fun z=>[(0,AO z.2)]) (fun z h=>?_) (fun d0 O=>?_))
  ·obtain ⟨b,o⟩:=z
   obtain ⟨Y,h⟩:=gS h
   refine AW.SW Fm [.s,.s,.k (rE { v:=.v (.c (.sub 0 3 (0+(b).toNat) ((List.length (α:=Record) o)-(b).toNat))) }),.k (rE { v:=.any,upd:=some (0,.arr 3 (List.length (α:=Record) o) (fun i=>if (0+(b).toNat)≤i∧i<(0+(b).toNat)+((List.length (α:=Record) o)-(b).toNat) then (fun _=>[.int .i64 0,.int .i64 0,DL (α:=Rect) []]) (i-(0+(b).toNat)) else (LF (α:=Record) o) i)) })] (fun K=>K 2∧K 3∧True) [(0,ow 0),(5,vi b)] [(0,AO (α:=Record) (clr o (0+(b).toNat) ((List.length (α:=Record) o)-(b).toNat)))] ⟨KAt.vslice (l:=(some b)) (u:=none) (id:=0) (lo0:=0) (n:=(List.length (α:=Record) o)) (N:=List.length (α:=Record) o) (f:=LF (α:=Record) o) prog_lay slT27 rfl rfl (by kernel_rfl) (by kernel_rfl) (by kernel_rfl) (by kernel_rfl) (by kernel_rfl) Y (by kernel_rfl),KAt.vclear (id:=0) (lo0:=(0+(b).toNat)) (n:=((List.length (α:=Record) o)-(b).toNat)) (N:=List.length (α:=Record) o) (f:=(LF (α:=Record) o)) prog_lay slT27 [.int .i64 0,.int .i64 0,.lst 0 fun _=>[]] [.int .i64 0,.int .i64 0,DL (α:=Rect) []] ⟨DLe.refl _,DLe.refl _,DLe.nil _ _,⟨⟩⟩ rfl rfl (by kernel_rfl) (Nat.succ_pos _) (by kernel_rfl) (by kernel_rfl) (by kernel_rfl) (by kernel_rfl) rfl,⟨⟩⟩ [(0,.arr 3 (List.length (α:=Record) o) (fun i=>if (0+(b).toNat)≤i∧i<(0+(b).toNat)+((List.length (α:=Record) o)-(b).toNat) then (fun _=>[.int .i64 0,.int .i64 0,DL (α:=Rect) []]) (i-(0+(b).toNat)) else (LF (α:=Record) o) i))] ⟨OLe.is (Is.clr (l:=o) (0+(b).toNat) ((List.length (α:=Record) o)-(b).toNat) (zd:=[.int .i64 0,.int .i64 0,DL (α:=Rect) []]) (by kernel_rfl)),⟨⟩⟩ ?_
   obtain ⟨E,h⟩:=gS h
   refine AW.SV Fm [.s,.s,.m,.s] [(4,ow 41)] [(41,AO (α:=Record) ((clr o (0+(b).toNat) ((List.length (α:=Record) o)-(b).toNat)).take (b).toNat))] (cT E) [(41,.arr 3 ((b).toNat) (LF (α:=Record) (clr o (0+(b).toNat) ((List.length (α:=Record) o)-(b).toNat))))] ⟨OLe.is (Is.take (Is.refl (clr o (0+(b).toNat) ((List.length (α:=Record) o)-(b).toNat))) E.2),⟨⟩⟩ ?_
   refine AW.ret ?_
   obtain rfl:=Option.some.inj h
   exact Kn.re Fm [(100,41)] [(4,ow 100)] [(100,AO (α:=Record) ((clr o (0+(b).toNat) ((List.length (α:=Record) o)-(b).toNat)).take (b).toNat))] (by kernel_rfl) (by kernel_rfl) (by kernel_rfl) (by kernel_rfl) (Kn.dn Fm (by kernel_rfl))
  ·obtain ⟨V,h⟩:=gS h
   refine AW.SP Fm [.s,.s,.s] [(0,ow 0),(1,.v (.c (.sem (CloOK Tryz.prog (FR_Record_Bool p))))),(5,vi w),(6,vi (w+1))] [(0,AO t)] (cT (cT V)) ?_
   refine AW.block (AW.loopF (E' := fun z=>[(0,ow 0),(1,.v (.c (.sem (CloOK Tryz.prog (FR_Record_Bool p))))),(5,vi z.1),(6,vi z.2.1)]) (S' := fun z=>[(0,AO z.2.2)]) (fun L z b0 M h=>?_) h)
   obtain ⟨q,e,a⟩:=z
   refine AW.seq (AW.SG0 Fm 4 [(0,ow 0),(1,.v (.c (.sem (CloOK Tryz.prog (FR_Record_Bool p))))),(5,vi q),(6,vi e),(19,vb (decide (e<(lI a))))] [(0,AO a)] ?_)
   refine AW.cN h (fun T h=>?_) (fun T h=>?_)
   ·refine AW.skip (AW.join (r:=r) (fun z:Int×(List Record)=>slices_DeleteFunc_Record_k1 F e L z.1 z.2) (fun z=>[(0,ow 0),(1,.v (.c (.sem (CloOK Tryz.prog (FR_Record_Bool p))))),(5,vi z.1),(6,vi e)]) (fun z=>[(0,AO z.2)]) (fun z h=>?_) (fun c0 B=>?_))
    ·obtain ⟨H,I⟩:=z
     obtain ⟨X,h⟩:=gS h
     refine AW.pN Fm [.s,.s,.s] [(0,ow 0),(1,.v (.c (.sem (CloOK Tryz.prog (FR_Record_Bool p))))),(5,vi H),(6,vi (e+1))] [(0,AO I)] (cT (cT X)) ?_
     exact Kn.R Fm (M (H,(e+1),I) h)
    ·refine AW.block ?_
     obtain ⟨D,h⟩:=gS h
     refine AW.SP Fm [.s,.s,.s,.s,.s,.s] [(0,ow 0),(1,.v (.c (.sem (CloOK Tryz.prog (FR_Record_Bool p))))),(5,vi q),(6,vi e),(7,pt 7)] [(0,AO a),(7,bx [ci ((gl a e.toNat).year_),ci ((gl a e.toNat).crop_),.d (DL (α:=Rect) (gl a e.toNat).region_.rects_)])] (cA D (cT (toNat_lt D))) ?_
     refine AW.seq ?_
     obtain ⟨A,a0,h⟩:=bS h
     refine AW.G Fm [.s,.s,.k (sE (vb A)),.s] (fun K=>K 2∧True) [(0,ow 0),(1,.v (.c (.sem (CloOK Tryz.prog (FR_Record_Bool p))))),(5,vi q),(6,vi e),(7,pt 7),(29,vb (!A))] [(0,AO a),(7,bx [ci ((gl a e.toNat).year_),ci ((gl a e.toNat).crop_),.d (DL (α:=Rect) (gl a e.toNat).region_.rects_)])] ⟨KAt.sem (F:=(FR_Record_Bool p)) (args:=[.v (.g [ci ((gl a e.toNat).year_),ci ((gl a e.toNat).crop_),.d (DL (α:=Rect) (gl a e.toNat).region_.rects_)])]) ⟨(gl a e.toNat),A,a0,rfl,rfl⟩ rfl (by kernel_rfl) (by kernel_rfl) (by kernel_rfl),⟨⟩⟩ ?_
     refine AW.cN h (fun U h=>?_) (fun U h=>?_)
     ·obtain ⟨y,h⟩:=gS h
      refine AW.SV Fm [.s,.s,.s,.s,.s] [(0,ow 0),(1,.v (.c (.sem (CloOK Tryz.prog (FR_Record_Bool p))))),(5,vi q),(6,vi e)] [(0,AO (α:=Record) (List.set a q.toNat (gl a e.toNat)))] (cA y (cT (toNat_lt y))) [(0,.arr 3 (List.length (α:=Record) a) (fun j=>if j=q.toNat then splice ((LF (α:=Record) a) q.toNat) 0 [.int .i64 (gl a e.toNat).year_,.int .i64 (gl a e.toNat).crop_,DL (α:=Rect) (gl a e.toNat).region_.rects_] else (LF (α:=Record) a) j))] ⟨OLe.is (Is.set (Is.refl a) (toNat_lt y) (gl a e.toNat) (by kernel_rfl)),⟨⟩⟩ ?_
      obtain ⟨W,h⟩:=gS h
      refine AW.pN Fm [.s,.s,.s] [(0,ow 0),(1,.v (.c (.sem (CloOK Tryz.prog (FR_Record_Bool p))))),(5,vi (q+1)),(6,vi e)] [(0,AO (α:=Record) (List.set a q.toNat (gl a e.toNat)))] (cT (cT W)) ?_
      exact Kn.R Fm (B ((q+1),(List.set a q.toNat (gl a e.toNat))) h)
     ·exact AW.skip (Kn.R Fm (B (q,a) h))
   ·exact AW.exit (Kn.R Fm (O (q,a) h))
theorem history_Add_3_spec {F:Nat} {a:Record} {r:Bool} (h:history_Add_3 F a=some r) :
  FSpec Tryz.prog 100 [gE a] [] (vb r) []:=by
 refine FI Tryz.func100 prog_mixed prog_lay fun C Fm=>?_
 unfold history_Add_3 at h
 refine AW.SG0 Fm 2 [(1,pt 1)] [(1,bx (gC a))] ?_
 refine AW.SG0 Fm 6 [(2,vb ((lI a.region_.rects_)==(0:Int)))] [] ?_
 refine AW.ret ?_
 obtain rfl:=Option.some.inj h
 exact Kn.D Fm
theorem history_Add_4_spec {F:Nat} {a:Record} {r:Bool} (h:history_Add_4 F a=some r) :
  FSpec Tryz.prog 102 [gE a] [] (vb r) []:=by
 refine FI Tryz.func102 prog_mixed prog_lay fun C Fm=>?_
 unfold history_Add_4 at h
 refine AW.SG0 Fm 2 [(1,pt 1)] [(1,bx (gC a))] ?_
 refine AW.SG0 Fm 6 [(2,vb (decide ((120:Int)<(lI a.region_.rects_))))] [] ?_
 refine AW.ret ?_
 obtain rfl:=Option.some.inj h
 exact Kn.D Fm
theorem slices_IndexFunc_Record_O_spec {F:Nat} {a:(List Record)} {e:Record→Option Bool} {r:(List Record)×Int} (h:slices_IndexFunc_Record_O F a e=some r) :
  FSpec Tryz.prog 193 [ow 0,.v (.c (.sem (CloOK Tryz.prog (FR_Record_Bool e))))] [(0,AO a)] (vi r.2) [(0,AO (α:=Record) r.1)]:=by
 refine FI Tryz.func193 prog_mixed prog_lay fun C Fm=>?_
 unfold slices_IndexFunc_Record_O at h
 refine AW.SG0 Fm 1 [(0,ow 0),(1,.v (.c (.sem (CloOK Tryz.prog (FR_Record_Bool e)))))] [(0,AO a)] ?_
 refine AW.join (r:=r) (fun z:Unit=>slices_IndexFunc_Record_O_k1 F a) (fun z=>[]) (fun z=>[(0,AO a)]) (fun z h=>?_) (fun u m=>?_)
 ·refine AW.SG0 Fm 1 [(4,vi (-1:Int))] [(0,AO a)] ?_
  refine AW.ret ?_
  obtain rfl:=Option.some.inj h
  exact Kn.D Fm
 ·refine AW.SG0 Fm 3 [(0,ow 0),(1,.v (.c (.sem (CloOK Tryz.prog (FR_Record_Bool e))))),(7,vi (lI a)),(8,vi 0)] [(0,AO a)] ?_
  refine AW.block (AW.loopF (E' := fun z=>[(0,ow 0),(1,.v (.c (.sem (CloOK Tryz.prog (FR_Record_Bool e))))),(7,vi (lI a)),(8,vi z)]) (S' := fun z=>[(0,AO a)]) (fun w b t l h=>?_) h)
  refine AW.SG0 Fm 1 [(0,ow 0),(1,.v (.c (.sem (CloOK Tryz.prog (FR_Record_Bool e))))),(7,vi (lI a)),(8,vi b),(9,vb (decide (b<(lI a))))] [(0,AO a)] ?_
  refine AW.seq (AW.cN h (fun n h=>?_) (fun n h=>?_))
  ·refine AW.skip (AW.seq (AW.block (AW.SG0 Fm 2 [(0,ow 0),(1,.v (.c (.sem (CloOK Tryz.prog (FR_Record_Bool e))))),(5,vi b),(7,vi (lI a)),(8,vi b)] [(0,AO a)] ?_)))
   refine AW.seq ?_
   obtain ⟨j,h⟩:=gS h
   obtain ⟨i,q,h⟩:=bS h
   refine AW.G Fm [.s,.s,.s,.s,.s,.k (sE (vb i))] (fun K=>_∧_∧K 5∧True) [(0,ow 0),(1,.v (.c (.sem (CloOK Tryz.prog (FR_Record_Bool e))))),(5,vi b),(7,vi (lI a)),(8,vi b),(16,vb i)] [(0,AO a)] ⟨j,(toNat_lt j),KAt.sem (F:=(FR_Record_Bool e)) (args:=[.v (.g [ci ((gl a b.toNat).year_),ci ((gl a b.toNat).crop_),.d (DL (α:=Rect) (gl a b.toNat).region_.rects_)])]) ⟨(gl a b.toNat),i,q,rfl,rfl⟩ rfl (by kernel_rfl) (by kernel_rfl) (by kernel_rfl),⟨⟩⟩ ?_
   refine AW.cN h (fun o h=>?_) (fun o h=>?_)
   ·refine AW.SG0 Fm 2 [(4,vi b)] [(0,AO a)] ?_
    refine AW.ret ?_
    obtain rfl:=Option.some.inj h
    exact Kn.D Fm
   ·refine AW.skip ?_
    obtain ⟨p,h⟩:=gS h
    refine AW.pN Fm [.s,.s] [(0,ow 0),(1,.v (.c (.sem (CloOK Tryz.prog (FR_Record_Bool e))))),(7,vi (lI a)),(8,vi (b+1))] [(0,AO a)] (cT (cT p)) ?_
    exact Kn.R Fm (l (b+1) h)
  ·exact AW.exit (Kn.R Fm (m () h))
theorem slices_ContainsFunc_Record_O_spec {F:Nat} {a:(List Record)} {d:Record→Option Bool} {r:(List Record)×Bool} (h:slices_ContainsFunc_Record_O F a d=some r) :
  FSpec Tryz.prog 101 [ow 0,.v (.c (.sem (CloOK Tryz.prog (FR_Record_Bool d))))] [(0,AO a)] (vb r.2) [(0,AO (α:=Record) r.1)]:=by
 refine FI Tryz.func101 prog_mixed prog_lay fun C Fm=>?_
 unfold slices_ContainsFunc_Record_O at h
 refine AW.SG0 Fm 1 [(0,ow 0),(1,.v (.c (.sem (CloOK Tryz.prog (FR_Record_Bool d)))))] [(0,AO a)] ?_
 refine AW.seq ?_
 obtain ⟨b,e,h⟩:=bS h
 refine AW.G Fm [.s,.s,.k (cE [(0,0)] [] (vi b.2) [(0,AO a)] [(0,AO b.1)]),.s,.s] (fun K=>K 2∧True) [(4,vb (decide ((0:Int)≤b.2)))] [(0,AO b.1)] ⟨KAt.callX (slices_IndexFunc_Record_O_spec e) Tryz.call193 [(0,0)] [] [.tmp 5,.tmp 6] rfl (by kernel_rfl) (by kernel_rfl) (by kernel_rfl) ⟨.p,ArgT.semX (by kernel_rfl) (by kernel_rfl) (by kernel_rfl),⟨⟩⟩,⟨⟩⟩ ?_
 refine AW.ret ?_
 obtain rfl:=Option.some.inj h
 exact Kn.D Fm
theorem history_Add_spec {F:Nat} {a:(List Record)} {e:Int} {b:Int} {j:Region} {r:(List Record)×Int} (h:history_Add F a e b j=some r) :
  FSpec Tryz.prog 17 [AL a,vi e,vi b,.v (.g [.d (DL j.rects_)])] [] (.t [.c (.d (DL (α:=Record) r.1)),.c (ci r.2)]) []:=by
 refine FI Tryz.func17 prog_mixed prog_lay fun C Fm=>?_
 unfold history_Add at h
 refine AW.SG0 Fm 3 [(0,AL a),(1,vi e),(2,vi b),(7,pt 7)] [(7,bx [.d (DL j.rects_)])] ?_
 refine AW.seq (AW.seq ?_)
 obtain ⟨u,w0,h⟩:=bS h
 refine AW.G Fm [.s,.k (cE [] [] (vi u) [] []),.s] (fun K=>K 1∧True) [(0,AL a),(1,vi e),(2,vi b),(7,pt 7),(10,vi u)] [(7,bx [.d (DL j.rects_)])] ⟨KAt.CC (history_Check_spec w0) Tryz.call18 [],⟨⟩⟩ ?_
 refine AW.SG0 Fm 2 [(0,AL a),(1,vi e),(2,vi b),(7,pt 7),(10,vi u),(19,vb (u != (0:Int)))] [(7,bx [.d (DL j.rects_)])] ?_
 refine AW.cN h (fun i0 h=>?_) (fun i0 h=>?_)
 ·refine AW.SG0 Fm 3 [(8,.v (.c (.fl 0 fun _=>[]))),(9,vi u)] [] ?_
  refine AW.ret ?_
  obtain rfl:=Option.some.inj h
  refine Kn.r Fm [(8,.v (.c (.fl 0 fun _=>[]))),(9,vi u)] [] (by kernel_rfl) ?_
  refine Kn.wk [(8,AL (α:=Record) []),(9,vi u)] [] ⟨rfl,ALe.c (CLe.fl .nil),⟨rfl,ALe.c (CLe.refl _),⟨⟩⟩⟩ True.intro ?_
  exact Kn.D Fm
 ·refine AW.skip (AW.seq (AW.block (AW.join (r:=r) (fun z:Bool=>history_Add_k0 F a e b j z) (fun z=>[(0,AL a),(1,vi e),(2,vi b),(7,pt 7),(21,vb z)]) (fun z=>[(7,bx [.d (DL j.rects_)])]) (fun W0 h=>?_) (fun M0 U=>?_))))
  ·refine AW.cN h (fun j0 h=>?_) (fun j0 h=>?_)
   ·refine AW.SG0 Fm 2 [(8,.v (.c (.fl 0 fun _=>[]))),(9,vi 18)] [] ?_
    refine AW.ret ?_
    obtain rfl:=Option.some.inj h
    refine Kn.r Fm [(8,.v (.c (.fl 0 fun _=>[]))),(9,vi 18)] [] (by kernel_rfl) ?_
    refine Kn.wk [(8,AL (α:=Record) []),(9,vi 18)] [] ⟨rfl,ALe.c (CLe.fl .nil),⟨rfl,ALe.c (CLe.refl _),⟨⟩⟩⟩ True.intro ?_
    exact Kn.D Fm
   ·refine AW.join (r:=r) (fun z:Bool=>history_Add_k1 F a e b j z) (fun z=>[(0,AL a),(1,vi e),(2,vi b),(7,pt 7),(28,vb z)]) (fun z=>[(7,bx [.d (DL j.rects_)])]) (fun X0 h=>?_) (fun N0 V=>?_)
    ·refine AW.cN h (fun k0 h=>?_) (fun k0 h=>?_)
     ·refine AW.SG0 Fm 2 [(8,.v (.c (.fl 0 fun _=>[]))),(9,vi 13)] [] ?_
      refine AW.ret ?_
      obtain rfl:=Option.some.inj h
      refine Kn.r Fm [(8,.v (.c (.fl 0 fun _=>[]))),(9,vi 13)] [] (by kernel_rfl) ?_
      refine Kn.wk [(8,AL (α:=Record) []),(9,vi 13)] [] ⟨rfl,ALe.c (CLe.fl .nil),⟨rfl,ALe.c (CLe.refl _),⟨⟩⟩⟩ True.intro ?_
      exact Kn.D Fm
     ·refine AW.seq ?_
      obtain ⟨c0,A0,h⟩:=bS h
      refine AW.G Fm [.s,.k (cE [] [] (vb c0) [] []),.s,.s] (fun K=>K 1∧True) [(0,AL a),(1,vi e),(2,vi b),(7,pt 7),(35,vb (!c0))] [(7,bx [.d (DL j.rects_)])] ⟨KAt.CC (region_Valid_spec A0) Tryz.call94 [],⟨⟩⟩ ?_
      refine AW.cN h (fun l0 h=>?_) (fun l0 h=>?_)
      ·refine AW.SG0 Fm 2 [(8,.v (.c (.fl 0 fun _=>[]))),(9,vi 7)] [] ?_
       refine AW.ret ?_
       obtain rfl:=Option.some.inj h
       refine Kn.r Fm [(8,.v (.c (.fl 0 fun _=>[]))),(9,vi 7)] [] (by kernel_rfl) ?_
       refine Kn.wk [(8,AL (α:=Record) []),(9,vi 7)] [] ⟨rfl,ALe.c (CLe.fl .nil),⟨rfl,ALe.c (CLe.refl _),⟨⟩⟩⟩ True.intro ?_
       exact Kn.D Fm
      ·refine AW.skip (AW.SG0 Fm 6 [(0,AL a),(1,vi e),(2,vi b),(7,pt 7),(11,pt 11)] [(7,bx [.d (DL j.rects_)]),(11,bx [ci e,ci b,.d (DL j.rects_)])] ?_)
       refine AW.SW Fm [.m] (fun K=>True) [(0,AL a),(1,vi e),(2,vi b),(7,pt 7),(11,pt 11),(12,ow 12)] [(7,bx [.d (DL j.rects_)]),(11,bx [ci e,ci b,.d (DL j.rects_)]),(12,AO (α:=Record) ([]:List Record))] True.intro [(12,.arr 3 (0) (fun _=>[]))] ⟨OLe.is ((Is.nil (α:=Record))),⟨⟩⟩ ?_
       refine AW.join (r:=r) (fun z:(List Rect)×(List Record)=>history_Add_k6 F e b z.1 z.2) (fun z=>[(11,pt 11),(12,ow 12)]) (fun z=>[(11,bx [ci e,ci b,.d (DL z.1)]),(12,AO z.2)]) (fun z h=>?_) (fun U0 e0=>?_)
       ·obtain ⟨a1,A⟩:=z
        refine AW.seq ?_
        obtain ⟨o,G0,h⟩:=bS h
        obtain ⟨u0,h⟩:=gS h
        refine AW.GW Fm [.s,.s,.s,.s,.s,.k (cE [] [] (gE o) [] []),.w (AL (α:=Record) ([o]:List Record)),.s,.s] (fun K=>K 5∧(ALe (.v (.c (.d (.lst 1 (litF 3 [.int .i64 o.year_,.int .i64 o.crop_,DL o.region_.rects_]))))) (AL (α:=Record) ([o]:List Record)))∧(_∧_∧True)∧True) [(12,ow 92)] [(92,AO (α:=Record) (A++([o]:List Record)))] ⟨KAt.CC (history_copied_spec G0) Tryz.call98 [],ALe.lst (.lit ([o]:List Record) (by kernel_rfl)),⟨u0,(Is.refl ([o]:List Record):Is (List.length (α:=Record) ([o]:List Record)) (LF (α:=Record) ([o]:List Record)) ([o]:List Record)).len,⟨⟩⟩,⟨⟩⟩ [(92,.arr 3 ((List.length (α:=Record) A)+(List.length (α:=Record) ([o]:List Record))) (appF (List.length (α:=Record) A) (LF (α:=Record) A) (LF (α:=Record) ([o]:List Record))))] ⟨OLe.is (Is.app (Is.refl A) (Is.refl ([o]:List Record))),⟨⟩⟩ ?_
        refine AW.seq ?_
        obtain ⟨E,H0,h⟩:=bS h
        refine AW.G Fm [.s,.k (cE [(0,92),(100,94)] [] (ow 100) [(0,AO (α:=Record) (A++([o]:List Record)))] [(100,AO E)]),.s] (fun K=>K 1∧True) [(12,ow 94)] [(94,AO E)] ⟨KAt.callX (slices_DeleteFunc_Record_spec H0) Tryz.call99 [(0,92),(100,94)] [] [.tmp 93,.func 100] rfl (by kernel_rfl) (by kernel_rfl) (by kernel_rfl) ⟨.p,ArgT.cloX Tryz.call100 [] (fun args r hq=>by obtain ⟨y0,y,hq,rfl,rfl⟩:=hq; exact Eq.mp (by kernel_rfl) (history_Add_3_spec hq)) (fun args r hq=>by obtain ⟨y0,y,hq,rfl,rfl⟩:=hq; rfl) (by kernel_rfl) [] (by kernel_rfl) (by kernel_rfl) (True.intro) (by kernel_rfl),⟨⟩⟩,⟨⟩⟩ ?_
        refine AW.seq (AW.join (r:=r) (fun z:Bool×(List Record)=>history_Add_k7 F z.1 z.2) (fun z=>[(12,ow 94),(101,vb z.1)]) (fun z=>[(94,AO z.2)]) (fun z h=>?_) (fun V0 Z=>?_))
        ·obtain ⟨b1,L0⟩:=z
         refine AW.cN h (fun p0 h=>?_) (fun p0 h=>?_)
         ·refine AW.SG0 Fm 2 [(8,.v (.c (.fl 0 fun _=>[]))),(9,vi 1)] [] ?_
          refine AW.ret ?_
          obtain rfl:=Option.some.inj h
          refine Kn.r Fm [(8,.v (.c (.fl 0 fun _=>[]))),(9,vi 1)] [] (by kernel_rfl) ?_
          refine Kn.wk [(8,AL (α:=Record) []),(9,vi 1)] [] ⟨rfl,ALe.c (CLe.fl .nil),⟨rfl,ALe.c (CLe.refl _),⟨⟩⟩⟩ True.intro ?_
          exact Kn.D Fm
         ·refine AW.skip (AW.seq ?_)
          obtain ⟨H,K0,h⟩:=bS h
          refine AW.G Fm [.s,.k (cE [(0,94)] [] (.any) [(0,AO L0)] [(0,AO H)])] (fun K=>K 1∧True) [(12,ow 94)] [(94,AO H)] ⟨KAt.callX (sortG_Record_spec K0) Tryz.call103 [(0,94)] [] [.tmp 102,.func 104] rfl (by kernel_rfl) (by kernel_rfl) (by kernel_rfl) ⟨.p,ArgT.cloX Tryz.call104 [] (fun args r hq=>by obtain ⟨y0,y1,y,hq,rfl,rfl⟩:=hq; exact Eq.mp (by kernel_rfl) (history_compare_spec hq)) (fun args r hq=>by obtain ⟨y0,y1,y,hq,rfl,rfl⟩:=hq; rfl) (by kernel_rfl) [] (by kernel_rfl) (by kernel_rfl) (True.intro) (by kernel_rfl),⟨⟩⟩,⟨⟩⟩ ?_
          refine AW.SG0 Fm 3 [(8,ow 94),(9,vi 0)] [(94,AO H)] ?_
          refine AW.ret ?_
          obtain rfl:=Option.some.inj h
          refine Kn.r Fm [(8,ow 94),(9,vi 0)] [(94,AO H)] (by kernel_rfl) ?_
          refine Kn.frz [(8,AL H),(9,vi 0)] [] (by kernel_rfl) (by kernel_rfl) (by kernel_rfl) ?_
          exact Kn.D Fm
        ·rcases br_or h with ⟨O,h⟩|⟨O,h⟩
         ·refine AW.pN Fm [.s,.s,.s,.w (vb true),.s,.s,.s] [(12,ow 94),(101,vb true)] [(94,AO E)] (cT (ALe.bool O)) ?_
          exact Kn.R Fm (Z (true,E) h)
         ·obtain ⟨B,I0,h⟩:=bS h
          refine AW.G Fm [.s,.s,.s,.w (vb false),.s,.k (cE [(0,94)] [] (vb B.2) [(0,AO E)] [(0,AO B.1)]),.s] (fun K=>_∧K 5∧True) [(12,ow 94),(101,vb B.2)] [(94,AO B.1)] ⟨ALe.bool O,KAt.callX (slices_ContainsFunc_Record_O_spec I0) Tryz.call101 [(0,94)] [] [.tmp 99,.func 102] rfl (by kernel_rfl) (by kernel_rfl) (by kernel_rfl) ⟨.p,ArgT.cloX Tryz.call102 [] (fun args r hq=>by obtain ⟨y0,y,hq,rfl,rfl⟩:=hq; exact Eq.mp (by kernel_rfl) (history_Add_4_spec hq)) (fun args r hq=>by obtain ⟨y0,y,hq,rfl,rfl⟩:=hq; rfl) (by kernel_rfl) [] (by kernel_rfl) (by kernel_rfl) (True.intro) (by kernel_rfl),⟨⟩⟩,⟨⟩⟩ ?_
          exact Kn.R Fm (Z (B.2,B.1) h)
       ·refine AW.SG0 Fm 3 [(1,vi e),(2,vi b),(7,pt 7),(11,pt 11),(12,ow 12),(43,AL a),(44,vi (lI a)),(45,vi 0)] [(7,bx [.d (DL j.rects_)]),(11,bx [ci e,ci b,.d (DL j.rects_)]),(12,AO (α:=Record) ([]:List Record))] ?_
        refine AW.block (Kn.r Fm [(1,vi e),(2,vi b),(7,pt 7),(11,pt 11),(12,ow 12),(43,AL a),(44,vi (lI a)),(45,vi 0)] [(7,bx [.d (DL j.rects_)]),(11,bx [ci e,ci b,.d (DL j.rects_)]),(12,AO ([]:List Record))] (by kernel_rfl) ?_)
        refine AW.loopF (E' := fun z=>[(1,vi e),(2,vi b),(7,pt 7),(11,pt 11),(12,ow 12),(43,AL a),(44,vi (lI a)),(45,vi z.1)]) (S' := fun z=>[(7,bx [.d (DL j.rects_)]),(11,bx [ci e,ci b,.d (DL z.2.1)]),(12,AO z.2.2)]) (fun I z O0 d0 h=>?_) h
        obtain ⟨i,q,l⟩:=z
        refine AW.SG0 Fm 1 [(1,vi e),(2,vi b),(7,pt 7),(11,pt 11),(12,ow 12),(43,AL a),(44,vi (lI a)),(45,vi i),(46,vb (decide (i<(lI a))))] [(7,bx [.d (DL j.rects_)]),(11,bx [ci e,ci b,.d (DL q)]),(12,AO l)] ?_
        refine AW.seq (AW.cN h (fun m0 h=>?_) (fun m0 h=>?_))
        ·refine AW.skip (AW.join (r:=r) (fun z:(List Rect)×(List Record)=>history_Add_k5 F i I z.1 z.2) (fun z=>[(1,vi e),(2,vi b),(7,pt 7),(11,pt 11),(12,ow 12),(43,AL a),(44,vi (lI a)),(45,vi i)]) (fun z=>[(7,bx [.d (DL j.rects_)]),(11,bx [ci e,ci b,.d (DL z.1)]),(12,AO z.2)]) (fun z h=>?_) (fun T0 Y=>?_))
         ·obtain ⟨a0,b0⟩:=z
          obtain ⟨t0,h⟩:=gS h
          refine AW.pN Fm [.s,.s] [(1,vi e),(2,vi b),(7,pt 7),(11,pt 11),(12,ow 12),(43,AL a),(44,vi (lI a)),(45,vi (i+1))] [(7,bx [.d (DL j.rects_)]),(11,bx [ci e,ci b,.d (DL a0)]),(12,AO b0)] (cT (cT t0)) ?_
          exact Kn.R Fm (d0 ((i+1),a0,b0) h)
         ·refine AW.block ?_
          obtain ⟨q0,h⟩:=gS h
          refine AW.SP Fm [.s,.s,.s,.s] [(1,vi e),(2,vi b),(7,pt 7),(11,pt 11),(12,ow 12),(14,pt 14),(43,AL a),(44,vi (lI a)),(45,vi i)] [(7,bx [.d (DL j.rects_)]),(11,bx [ci e,ci b,.d (DL q)]),(12,AO l),(14,bx [ci ((gl a i.toNat).year_),ci ((gl a i.toNat).crop_),.d (DL (α:=Rect) (gl a i.toNat).region_.rects_)])] (cT q0) ?_
          refine AW.SG0 Fm 4 [(1,vi e),(2,vi b),(7,pt 7),(11,pt 11),(12,ow 12),(14,pt 14),(15,AL (α:=Rect) (gl a i.toNat).region_.rects_),(43,AL a),(44,vi (lI a)),(45,vi i)] [(7,bx [.d (DL j.rects_)]),(11,bx [ci e,ci b,.d (DL q)]),(12,AO l),(14,bx [ci ((gl a i.toNat).year_),ci ((gl a i.toNat).crop_),.d (DL (α:=Rect) (gl a i.toNat).region_.rects_)])] ?_
          refine AW.join (r:=r) (fun z:(List Rect)=>history_Add_k4 F a i q l I z) (fun z=>[(1,vi e),(2,vi b),(7,pt 7),(11,pt 11),(12,ow 12),(14,pt 14),(15,AL z),(43,AL a),(44,vi (lI a)),(45,vi i)]) (fun z=>[(7,bx [.d (DL j.rects_)]),(11,bx [ci e,ci b,.d (DL q)]),(12,AO l),(14,bx [ci ((gl a i.toNat).year_),ci ((gl a i.toNat).crop_),.d (DL (α:=Rect) (gl a i.toNat).region_.rects_)])]) (fun Z0 h=>?_) (fun R0 X=>?_)
          ·obtain ⟨n,E0,h⟩:=bS h
           obtain ⟨s0,h⟩:=gS h
           refine AW.GW Fm [.s,.s,.s,.k (cE [] [] (gE n) [] []),.w (AL (α:=Record) ([n]:List Record)),.s,.s] (fun K=>K 3∧(ALe (.v (.c (.d (.lst 1 (litF 3 [.int .i64 n.year_,.int .i64 n.crop_,DL n.region_.rects_]))))) (AL (α:=Record) ([n]:List Record)))∧(_∧_∧True)∧True) [(1,vi e),(2,vi b),(7,pt 7),(11,pt 11),(12,ow 83),(43,AL a),(44,vi (lI a)),(45,vi i)] [(7,bx [.d (DL j.rects_)]),(11,bx [ci e,ci b,.d (DL q)]),(83,AO (α:=Record) (l++([n]:List Record)))] ⟨KAt.CC (history_copied_spec E0) Tryz.call98 [],ALe.lst (.lit ([n]:List Record) (by kernel_rfl)),⟨s0,(Is.refl ([n]:List Record):Is (List.length (α:=Record) ([n]:List Record)) (LF (α:=Record) ([n]:List Record)) ([n]:List Record)).len,⟨⟩⟩,⟨⟩⟩ [(83,.arr 3 ((List.length (α:=Record) l)+(List.length (α:=Record) ([n]:List Record))) (appF (List.length (α:=Record) l) (LF (α:=Record) l) (LF (α:=Record) ([n]:List Record))))] ⟨OLe.is (Is.app (Is.refl l) (Is.refl ([n]:List Record))),⟨⟩⟩ ?_
           exact Kn.RE Fm [(12,83)] (Y (q,(l++([n]:List Record))) h)
          ·refine AW.block (AW.join (r:=r) (fun z:Bool=>history_Add_k3 F a e j i q l I z) (fun z=>[(1,vi e),(2,vi b),(7,pt 7),(11,pt 11),(12,ow 12),(14,pt 14),(15,AL (α:=Rect) (gl a i.toNat).region_.rects_),(43,AL a),(44,vi (lI a)),(45,vi i),(52,vb z)]) (fun z=>[(7,bx [.d (DL j.rects_)]),(11,bx [ci e,ci b,.d (DL q)]),(12,AO l),(14,bx [ci ((gl a i.toNat).year_),ci ((gl a i.toNat).crop_),.d (DL (α:=Rect) (gl a i.toNat).region_.rects_)])]) (fun Y0 h=>?_) (fun P0 W=>?_))
           ·refine AW.cN h (fun n0 h=>?_) (fun n0 h=>?_)
            ·refine AW.seq ?_
             obtain ⟨P,B0,h⟩:=bS h
             refine AW.G Fm [.s,.s,.s,.k (cE [] [] (AL P) [] []),.s,.s,.s] (fun K=>K 3∧True) [(1,vi e),(2,vi b),(7,pt 7),(11,pt 11),(12,ow 12),(43,AL a),(44,vi (lI a)),(45,vi i)] [(7,bx [.d (DL j.rects_)]),(11,bx [ci e,ci b,.d (DL P)]),(12,AO l)] ⟨KAt.callX (region_Choose_spec B0) Tryz.call95 [] [] [.tmp 63,.tmp 65,.func 96] rfl (by kernel_rfl) (by kernel_rfl) (by kernel_rfl) ⟨.p,.p,ArgT.cloX Tryz.call96 [] (fun args r hq=>by obtain ⟨y0,y1,y,hq,rfl,rfl⟩:=hq; exact Eq.mp (by kernel_rfl) (history_Add_1_spec hq)) (fun args r hq=>by obtain ⟨y0,y1,y,hq,rfl,rfl⟩:=hq; rfl) (by kernel_rfl) [] (by kernel_rfl) (by kernel_rfl) (True.intro) (by kernel_rfl),⟨⟩⟩,⟨⟩⟩ ?_
             exact AW.exit (Kn.R Fm (Y (P,l) h))
            ·refine AW.SG0 Fm 5 [(1,vi e),(2,vi b),(7,pt 7),(11,pt 11),(12,ow 12),(14,pt 14),(15,AL (α:=Rect) (gl a i.toNat).region_.rects_),(43,AL a),(44,vi (lI a)),(45,vi i),(69,vb (((gl a i.toNat).year_)==e))] [(7,bx [.d (DL j.rects_)]),(11,bx [ci e,ci b,.d (DL q)]),(12,AO l),(14,bx [ci ((gl a i.toNat).year_),ci ((gl a i.toNat).crop_),.d (DL (α:=Rect) (gl a i.toNat).region_.rects_)])] ?_
             refine AW.cN h (fun o0 h=>?_) (fun o0 h=>?_)
             ·obtain ⟨T,D0,h⟩:=bS h
              refine AW.G Fm [.s,.s,.s,.k (cE [] [] (AL T) [] []),.s] (fun K=>K 3∧True) [(1,vi e),(2,vi b),(7,pt 7),(11,pt 11),(12,ow 12),(14,pt 14),(15,AL T),(43,AL a),(44,vi (lI a)),(45,vi i)] [(7,bx [.d (DL j.rects_)]),(11,bx [ci e,ci b,.d (DL q)]),(12,AO l),(14,bx [ci ((gl a i.toNat).year_),ci ((gl a i.toNat).crop_),.d (DL (α:=Rect) (gl a i.toNat).region_.rects_)])] ⟨KAt.callX (region_Choose_spec D0) Tryz.call95 [] [] [.tmp 74,.tmp 76,.func 97] rfl (by kernel_rfl) (by kernel_rfl) (by kernel_rfl) ⟨.p,.p,ArgT.cloX Tryz.call97 [] (fun args r hq=>by obtain ⟨y0,y1,y,hq,rfl,rfl⟩:=hq; exact Eq.mp (by kernel_rfl) (history_Add_2_spec hq)) (fun args r hq=>by obtain ⟨y0,y1,y,hq,rfl,rfl⟩:=hq; rfl) (by kernel_rfl) [] (by kernel_rfl) (by kernel_rfl) (True.intro) (by kernel_rfl),⟨⟩⟩,⟨⟩⟩ ?_
              exact Kn.R Fm (X T h)
             ·exact AW.skip (Kn.R Fm (X ((gl a i.toNat).region_.rects_) h))
           ·rcases br_or h with ⟨N,h⟩|⟨N,h⟩
            ·refine AW.pN Fm [.s,.s,.s,.s,.w (vb true),.s,.s,.s,.s,.s,.s] [(1,vi e),(2,vi b),(7,pt 7),(11,pt 11),(12,ow 12),(14,pt 14),(15,AL (α:=Rect) (gl a i.toNat).region_.rects_),(43,AL a),(44,vi (lI a)),(45,vi i),(52,vb (((gl a i.toNat).crop_)==b)),(58,.v (.c (.ptr 14 1))),(59,vi (gl a i.toNat).crop_),(60,vi b),(61,vb (((gl a i.toNat).crop_)==b))] [(7,bx [.d (DL j.rects_)]),(11,bx [ci e,ci b,.d (DL q)]),(12,AO l),(14,bx [ci ((gl a i.toNat).year_),ci ((gl a i.toNat).crop_),.d (DL (α:=Rect) (gl a i.toNat).region_.rects_)])] (cT (ALe.bool N)) ?_
             exact Kn.R Fm (W (((gl a i.toNat).crop_)==b) h)
            ·refine AW.pN Fm [.s,.s,.s,.s,.w (vb false),.s,.s,.s,.s,.s,.s] [(1,vi e),(2,vi b),(7,pt 7),(11,pt 11),(12,ow 12),(14,pt 14),(15,AL (α:=Rect) (gl a i.toNat).region_.rects_),(43,AL a),(44,vi (lI a)),(45,vi i),(52,vb false)] [(7,bx [.d (DL j.rects_)]),(11,bx [ci e,ci b,.d (DL q)]),(12,AO l),(14,bx [ci ((gl a i.toNat).year_),ci ((gl a i.toNat).crop_),.d (DL (α:=Rect) (gl a i.toNat).region_.rects_)])] (cT (ALe.bool N)) ?_
             exact Kn.R Fm (W false h)
        ·exact AW.exit (Kn.R Fm (e0 (q,l) h))
    ·rcases br_or h with ⟨M,h⟩|⟨M,h⟩
     ·refine AW.pN Fm [.s,.s,.w (vb true),.s,.s,.s,.s] [(0,AL a),(1,vi e),(2,vi b),(7,pt 7),(28,vb true)] [(7,bx [.d (DL j.rects_)])] (cT (ALe.bool M)) ?_
      exact Kn.R Fm (V true h)
     ·refine AW.pN Fm [.s,.s,.w (vb false),.s,.s,.s,.s] [(0,AL a),(1,vi e),(2,vi b),(7,pt 7),(28,vb (decide ((40:Int)≤b)))] [(7,bx [.d (DL j.rects_)])] (cT (ALe.bool M)) ?_
      exact Kn.R Fm (V (decide ((40:Int)≤b)) h)
  ·rcases br_or h with ⟨L,h⟩|⟨L,h⟩
   ·refine AW.pN Fm [.s,.s,.w (vb true),.s,.s,.s,.s] [(0,AL a),(1,vi e),(2,vi b),(7,pt 7),(21,vb true)] [(7,bx [.d (DL j.rects_)])] (cT (ALe.bool L)) ?_
    exact Kn.R Fm (U true h)
   ·refine AW.pN Fm [.s,.s,.w (vb false),.s,.s,.s,.s] [(0,AL a),(1,vi e),(2,vi b),(7,pt 7),(21,vb (decide ((100:Int)<e)))] [(7,bx [.d (DL j.rects_)])] (cT (ALe.bool L)) ?_
    exact Kn.R Fm (U (decide ((100:Int)<e)) h)
theorem ref04_Rects_spec {F:Nat} {c:(List Rect)} {d:(List Rect)} {r:Bool} (h:ref04_Rects F c d=some r) :
  FSpec Tryz.prog 120 [AL c,AL d] [] (vb r) []:=by
 refine FI Tryz.func120 prog_mixed prog_lay fun C Fm=>?_
 unfold ref04_Rects at h
 refine AW.SG0 Fm 1 [(0,AL c),(1,AL d)] [] ?_
 refine AW.seq (AW.SG0 Fm 5 [(0,AL c),(1,AL d),(10,vb ((lI c) != (lI d)))] [] ?_)
 refine AW.cN h (fun j h=>?_) (fun j h=>?_)
 ·refine AW.SG0 Fm 1 [(4,vb false)] [] ?_
  refine AW.ret ?_
  obtain rfl:=Option.some.inj h
  exact Kn.D Fm
 ·refine AW.skip (AW.join (r:=r) (fun z:Unit=>ref04_Rects_k1 F) (fun z=>[]) (fun z=>[]) (fun z h=>?_) (fun t i=>?_))
  ·refine AW.SG0 Fm 1 [(4,vb true)] [] ?_
   refine AW.ret ?_
   obtain rfl:=Option.some.inj h
   exact Kn.D Fm
  ·refine AW.SG0 Fm 3 [(0,AL c),(1,AL d),(12,vi (lI c)),(13,vi 0)] [] ?_
   refine AW.block (AW.loopF (E' := fun z=>[(0,AL c),(1,AL d),(12,vi (lI c)),(13,vi z)]) (S' := fun z=>[]) (fun u a q e h=>?_) h)
   refine AW.SG0 Fm 1 [(0,AL c),(1,AL d),(12,vi (lI c)),(13,vi a),(14,vb (decide (a<(lI c))))] [] ?_
   refine AW.seq (AW.cN h (fun l h=>?_) (fun l h=>?_))
   ·refine AW.skip (AW.seq (AW.block (AW.SG0 Fm 2 [(0,AL c),(1,AL d),(5,vi a),(12,vi (lI c)),(13,vi a)] [] ?_)))
    obtain ⟨n,o,h⟩:=gS2 h
    refine AW.SG Fm [.s,.s,.s,.s,.s,.s,.s,.s,.k (sE (vb (!((((gl c a.toNat).left_)==((gl d a.toNat).left_))&&((((gl c a.toNat).low_)==((gl d a.toNat).low_))&&((((gl c a.toNat).right_)==((gl d a.toNat).right_))&&((((gl c a.toNat).high_)==((gl d a.toNat).high_))&&true)))))))] (fun K=>_∧_∧K 8∧True) [(0,AL c),(1,AL d),(12,vi (lI c)),(13,vi a),(24,vb (!((((gl c a.toNat).left_)==((gl d a.toNat).left_))&&((((gl c a.toNat).low_)==((gl d a.toNat).low_))&&((((gl c a.toNat).right_)==((gl d a.toNat).right_))&&((((gl c a.toNat).high_)==((gl d a.toNat).high_))&&true))))))] [] ⟨n,o,KAt.eq (xs:=[ci ((gl c a.toNat).left_),ci ((gl c a.toNat).low_),ci ((gl c a.toNat).right_),ci ((gl c a.toNat).high_)]) (ys:=[ci ((gl d a.toNat).left_),ci ((gl d a.toNat).low_),ci ((gl d a.toNat).right_),ci ((gl d a.toNat).high_)]) eqT103 false (b:=((((gl c a.toNat).left_)==((gl d a.toNat).left_))&&((((gl c a.toNat).low_)==((gl d a.toNat).low_))&&((((gl c a.toNat).right_)==((gl d a.toNat).right_))&&((((gl c a.toNat).high_)==((gl d a.toNat).high_))&&true))))) rfl rfl (by kernel_rfl) (by kernel_rfl) (by kernel_rfl) (by kernel_rfl),⟨⟩⟩ ?_
    refine AW.cN h (fun m h=>?_) (fun m h=>?_)
    ·refine AW.SG0 Fm 1 [(4,vb false)] [] ?_
     refine AW.ret ?_
     obtain rfl:=Option.some.inj h
     exact Kn.D Fm
    ·refine AW.skip ?_
     obtain ⟨p,h⟩:=gS h
     refine AW.pN Fm [.s,.s] [(0,AL c),(1,AL d),(12,vi (lI c)),(13,vi (a+1))] [] (cT (cT p)) ?_
     exact Kn.R Fm (e (a+1) h)
   ·exact AW.exit (Kn.R Fm (i () h))
theorem ref04_Valid_spec {F:Nat} {a:Region} {r:Bool} (h:ref04_Valid F a=some r) :
  FSpec Tryz.prog 109 [.v (.g [.d (DL a.rects_)])] [] (vb r) []:=by
 refine FI Tryz.func109 prog_mixed prog_lay fun C Fm=>?_
 unfold ref04_Valid at h
 refine AW.SG0 Fm 2 [(1,pt 1)] [(1,bx [.d (DL a.rects_)])] ?_
 refine AW.seq (AW.SG0 Fm 4 [(1,pt 1),(8,vb (decide ((120:Int)<(lI a.rects_))))] [(1,bx [.d (DL a.rects_)])] ?_)
 refine AW.cN h (fun m h=>?_) (fun m h=>?_)
 ·refine AW.SG0 Fm 1 [(2,vb false)] [] ?_
  refine AW.ret ?_
  obtain rfl:=Option.some.inj h
  exact Kn.D Fm
 ·refine AW.skip (AW.join (r:=r) (fun z:Unit=>ref04_Valid_k1 F a) (fun z=>[(1,pt 1)]) (fun z=>[(1,bx [.d (DL a.rects_)])]) (fun z h=>?_) (fun E l=>?_))
  ·refine AW.seq ?_
   obtain ⟨A,w,h⟩:=bS h
   obtain ⟨i,y,h⟩:=bS h
   refine AW.G Fm [.s,.s,.k (cE [] [] (AL A) [] []),.s,.s,.k (cE [] [] (vb i) [] []),.s] (fun K=>K 2∧K 5∧True) [(2,vb i)] [] ⟨KAt.callX (ref04_Combine_spec w) Tryz.call112 [] [] [.tmp 21,.const (.slice none 0 0),.const (.int .i64 1)] rfl (by kernel_rfl) (by kernel_rfl) (by kernel_rfl) ⟨.p,ArgT.plain (by kernel_rfl) (ALe.c (CLe.fl .nil)) (by kernel_rfl),.p,⟨⟩⟩,KAt.CC (ref04_Rects_spec y) Tryz.call120 [],⟨⟩⟩ ?_
   refine AW.ret ?_
   obtain rfl:=Option.some.inj h
   exact Kn.D Fm
  ·refine AW.SG0 Fm 4 [(1,pt 1),(10,AL a.rects_),(11,vi (lI a.rects_)),(12,vi 0)] [(1,bx [.d (DL a.rects_)])] ?_
   refine AW.block (AW.loopF (E' := fun z=>[(1,pt 1),(10,AL a.rects_),(11,vi (lI a.rects_)),(12,vi z)]) (S' := fun z=>[(1,bx [.d (DL a.rects_)])]) (fun H b B j h=>?_) h)
   refine AW.SG0 Fm 1 [(1,pt 1),(10,AL a.rects_),(11,vi (lI a.rects_)),(12,vi b),(13,vb (decide (b<(lI a.rects_))))] [(1,bx [.d (DL a.rects_)])] ?_
   refine AW.seq (AW.cN h (fun n h=>?_) (fun n h=>?_))
   ·refine AW.skip (AW.seq (AW.block ?_))
    obtain ⟨q,h⟩:=gS h
    refine AW.SP Fm [.s,.s,.s,.s] [(1,pt 1),(4,pt 4),(10,AL a.rects_),(11,vi (lI a.rects_)),(12,vi b)] [(1,bx [.d (DL a.rects_)]),(4,bx [ci ((gl a.rects_ b.toNat).left_),ci ((gl a.rects_ b.toNat).low_),ci ((gl a.rects_ b.toNat).right_),ci ((gl a.rects_ b.toNat).high_)])] (cT q) ?_
    refine AW.seq ?_
    obtain ⟨e,u,h⟩:=bS h
    refine AW.G Fm [.s,.k (cE [] [] (vb e) [] []),.s] (fun K=>K 1∧True) [(1,pt 1),(10,AL a.rects_),(11,vi (lI a.rects_)),(12,vi b),(18,vb (!e))] [(1,bx [.d (DL a.rects_)])] ⟨KAt.CC (ref04_proper_spec u) Tryz.call181 [],⟨⟩⟩ ?_
    refine AW.cN h (fun o h=>?_) (fun o h=>?_)
    ·refine AW.SG0 Fm 1 [(2,vb false)] [] ?_
     refine AW.ret ?_
     obtain rfl:=Option.some.inj h
     exact Kn.D Fm
    ·refine AW.skip ?_
     obtain ⟨t,h⟩:=gS h
     refine AW.pN Fm [.s,.s] [(1,pt 1),(10,AL a.rects_),(11,vi (lI a.rects_)),(12,vi (b+1))] [(1,bx [.d (DL a.rects_)])] (cT (cT t)) ?_
     exact Kn.R Fm (j (b+1) h)
   ·exact AW.exit (Kn.R Fm (l () h))
theorem ref04_Has_spec {F:Nat} {b:Region} {c:Int} {e:Int} {r:Bool} (h:ref04_Has F b c e=some r) :
  FSpec Tryz.prog 19 [.v (.g [.d (DL b.rects_)]),vi c,vi e] [] (vb r) []:=by
 refine FI Tryz.func19 prog_mixed prog_lay fun C Fm=>?_
 unfold ref04_Has at h
 refine AW.SG0 Fm 2 [(1,vi c),(2,vi e),(3,pt 3)] [(3,bx [.d (DL b.rects_)])] ?_
 refine AW.join (r:=r) (fun z:Bool=>ref04_Has_k0 F z) (fun z=>[(6,vb z)]) (fun z=>[]) (fun p h=>?_) (fun o j=>?_)
 ·refine AW.ret ?_
  obtain rfl:=Option.some.inj h
  exact Kn.D Fm
 ·obtain ⟨m,l,h⟩:=bS h
  rcases br_or h with ⟨a,h⟩|⟨a,h⟩
  ·obtain ⟨i,n,h⟩:=bS h
   refine AW.G Fm [.s,.k (cE [] [] (vb m) [] []),.w (vb true),.s,.s,.s,.s,.k (cE [] [] (vb i) [] []),.s,.s] (fun K=>K 1∧_∧K 7∧True) [(6,vb i)] [] ⟨KAt.CC (ref04_Valid_spec l) Tryz.call109 [],ALe.bool a,KAt.CC (ref04_inside_spec n) Tryz.call110 [],⟨⟩⟩ ?_
   exact Kn.R Fm (j i h)
  ·refine AW.G Fm [.s,.k (cE [] [] (vb m) [] []),.w (vb false),.s,.s,.s,.s,.s,.s,.s] (fun K=>K 1∧_∧True) [(6,vb false)] [] ⟨KAt.CC (ref04_Valid_spec l) Tryz.call109 [],ALe.bool a,⟨⟩⟩ ?_
   exact Kn.R Fm (j false h)
theorem region_Has_1_spec {F:Nat} {d:Rect} {b:Int} {a:Int} {r:Bool} (h:region_Has_1 F d b a=some r) :
  FSpec Tryz.prog 201 [gE d,pt 0,pt 1] [(0,.box true [ci b]),(1,.box true [ci a])] (vb r) [(0,.box true [ci b]),(1,.box true [ci a])]:=by
 refine FI Tryz.func201 prog_mixed prog_lay fun C Fm=>?_
 unfold region_Has_1 at h
 refine AW.SG0 Fm 2 [(1,pt 0),(2,pt 1),(3,pt 3)] [(0,.box true [ci b]),(1,.box true [ci a]),(3,bx (gC d))] ?_
 refine AW.join (r:=r) (fun z:Bool=>region_Has_1_k0 F z) (fun z=>[(4,vb z)]) (fun z=>[(0,.box true [ci b]),(1,.box true [ci a])]) (fun l h=>?_) (fun k e=>?_)
 ·refine AW.ret ?_
  obtain rfl:=Option.some.inj h
  exact Kn.D Fm
 ·rcases br_or h with ⟨c,h⟩|⟨c,h⟩
  ·rcases br_or h with ⟨i,h⟩|⟨i,h⟩
   ·rcases br_or h with ⟨j,h⟩|⟨j,h⟩
    ·refine AW.pN Fm [.s,.s,.s,.s,.w (vb true),.s,.s,.s,.s,.s,.w (vb true),.s,.s,.s,.s,.s,.w (vb true),.s,.s,.s,.s,.s,.s] [(4,vb (decide (a<d.high_)))] [(0,.box true [ci b]),(1,.box true [ci a])] (cA (ALe.bool c) (cA (ALe.bool i) (cT (ALe.bool j)))) ?_
     exact Kn.R Fm (e (decide (a<d.high_)) h)
    ·refine AW.pN Fm [.s,.s,.s,.s,.w (vb true),.s,.s,.s,.s,.s,.w (vb true),.s,.s,.s,.s,.s,.w (vb false),.s,.s,.s,.s,.s,.s] [(4,vb false)] [(0,.box true [ci b]),(1,.box true [ci a])] (cA (ALe.bool c) (cA (ALe.bool i) (cT (ALe.bool j)))) ?_
     exact Kn.R Fm (e false h)
   ·refine AW.pN Fm [.s,.s,.s,.s,.w (vb true),.s,.s,.s,.s,.s,.w (vb false),.s,.s,.s,.s,.s,.s,.s,.s,.s,.s,.s,.s] [(4,vb false)] [(0,.box true [ci b]),(1,.box true [ci a])] (cA (ALe.bool c) (cT (ALe.bool i))) ?_
    exact Kn.R Fm (e false h)
  ·refine AW.pN Fm [.s,.s,.s,.s,.w (vb false),.s,.s,.s,.s,.s,.s,.s,.s,.s,.s,.s,.s,.s,.s,.s,.s,.s,.s] [(4,vb false)] [(0,.box true [ci b]),(1,.box true [ci a])] (cT (ALe.bool c)) ?_
   exact Kn.R Fm (e false h)
theorem region_Has_spec {F:Nat} {e:Region} {a:Int} {b:Int} {r:Bool} (h:region_Has F e a b=some r) :
  FSpec Tryz.prog 111 [.v (.g [.d (DL e.rects_)]),vi a,vi b] [] (vb r) []:=by
 refine FI Tryz.func111 prog_mixed prog_lay fun C Fm=>?_
 unfold region_Has at h
 refine AW.SG0 Fm 4 [(3,pt 3),(4,pt 4),(5,pt 5)] [(3,bx [.d (DL e.rects_)]),(4,bx [ci a]),(5,bx [ci b])] ?_
 refine AW.join (r:=r) (fun z:Bool=>region_Has_k0 F z) (fun z=>[(6,vb z)]) (fun z=>[]) (fun q h=>?_) (fun o j=>?_)
 ·refine AW.ret ?_
  obtain rfl:=Option.some.inj h
  exact Kn.D Fm
 ·obtain ⟨m,l,h⟩:=bS h
  rcases br_or h with ⟨c,h⟩|⟨c,h⟩
  ·obtain ⟨i,n,h⟩:=bS h
   refine AW.G Fm [.s,.k (cE [] [] (vb m) [] []),.w (vb true),.s,.s,.s,.k (cE [] [4,5] (vb i) [] []),.s,.s] (fun K=>K 1∧_∧K 6∧True) [(6,vb i)] [] ⟨KAt.CC (region_Valid_spec l) Tryz.call94 [],ALe.bool c,KAt.callX (slices_ContainsFunc_Rect_spec n) Tryz.call182 [] [4,5] [.tmp 11,.tmp 12] rfl (by kernel_rfl) (by kernel_rfl) (by kernel_rfl) ⟨.p,ArgT.cloX Tryz.call201 [[ci a],[ci b]] (fun args r hq=>by obtain ⟨y0,y,hq,rfl,rfl⟩:=hq; exact Eq.mp (by kernel_rfl) (region_Has_1_spec hq)) (fun args r hq=>by obtain ⟨y0,y,hq,rfl,rfl⟩:=hq; rfl) (by kernel_rfl) [4,5] (by kernel_rfl) (by kernel_rfl) (⟨⟨false,(by kernel_rfl)⟩,⟨⟨false,(by kernel_rfl)⟩,⟨⟩⟩⟩) (by kernel_rfl),⟨⟩⟩,⟨⟩⟩ ?_
   exact Kn.R Fm (j i h)
  ·refine AW.G Fm [.s,.k (cE [] [] (vb m) [] []),.w (vb false),.s,.s,.s,.s,.s,.s] (fun K=>K 1∧_∧True) [(6,vb false)] [] ⟨KAt.CC (region_Valid_spec l) Tryz.call94 [],ALe.bool c,⟨⟩⟩ ?_
   exact Kn.R Fm (j false h)
theorem history_At_spec {F:Nat} {a:(List Record)} {j:Int} {e:Int} {i:Int} {r:Int} (h:history_At F a j e i=some r) :
  FSpec Tryz.prog 20 [AL a,vi j,vi e,vi i] [] (vi r) []:=by
 refine FI Tryz.func20 prog_mixed prog_lay fun C Fm=>?_
 unfold history_At at h
 refine AW.SG0 Fm 1 [(0,AL a),(1,vi j),(2,vi e),(3,vi i)] [] ?_
 refine AW.seq (AW.seq ?_)
 obtain ⟨o,H,h⟩:=bS h
 refine AW.G Fm [.s,.k (cE [] [] (vi o) [] []),.s] (fun K=>K 1∧True) [(0,AL a),(1,vi j),(2,vi e),(3,vi i),(13,vb (o != (0:Int)))] [] ⟨KAt.CC (history_Check_spec H) Tryz.call18 [],⟨⟩⟩ ?_
 refine AW.cN h (fun u h=>?_) (fun u h=>?_)
 ·refine AW.SG0 Fm 1 [(8,vi (-1:Int))] [] ?_
  refine AW.ret ?_
  obtain rfl:=Option.some.inj h
  exact Kn.D Fm
 ·refine AW.skip (AW.join (r:=r) (fun z:Unit=>history_At_k2 F) (fun z=>[]) (fun z=>[]) (fun z h=>?_) (fun N t=>?_))
  ·refine AW.SG0 Fm 1 [(8,vi (-1:Int))] [] ?_
   refine AW.ret ?_
   obtain rfl:=Option.some.inj h
   exact Kn.D Fm
  ·refine AW.SG0 Fm 3 [(1,vi j),(2,vi e),(3,vi i),(14,AL a),(15,vi (lI a)),(16,vi 0)] [] ?_
   refine AW.block (AW.loopF (E' := fun z=>[(1,vi j),(2,vi e),(3,vi i),(14,AL a),(15,vi (lI a)),(16,vi z)]) (S' := fun z=>[]) (fun p b L q h=>?_) h)
   refine AW.SG0 Fm 1 [(1,vi j),(2,vi e),(3,vi i),(14,AL a),(15,vi (lI a)),(16,vi b),(17,vb (decide (b<(lI a))))] [] ?_
   refine AW.seq (AW.cN h (fun y h=>?_) (fun y h=>?_))
   ·refine AW.skip (AW.seq (AW.block ?_))
    obtain ⟨B,h⟩:=gS h
    refine AW.SP Fm [.s,.s,.s,.s] [(1,vi j),(2,vi e),(3,vi i),(10,pt 10),(14,AL a),(15,vi (lI a)),(16,vi b)] [(10,bx [ci ((gl a b.toNat).year_),ci ((gl a b.toNat).crop_),.d (DL (α:=Rect) (gl a b.toNat).region_.rects_)])] (cT B) ?_
    refine AW.join (r:=r) (fun z:Bool=>history_At_k1 F a b p z) (fun z=>[(1,vi j),(2,vi e),(3,vi i),(10,pt 10),(14,AL a),(15,vi (lI a)),(16,vi b),(30,vb z)]) (fun z=>[(10,bx [ci ((gl a b.toNat).year_),ci ((gl a b.toNat).crop_),.d (DL (α:=Rect) (gl a b.toNat).region_.rects_)])]) (fun O h=>?_) (fun M n=>?_)
    ·refine AW.cN h (fun A h=>?_) (fun A h=>?_)
     ·refine AW.SG0 Fm 3 [(8,vi (gl a b.toNat).crop_)] [] ?_
      refine AW.ret ?_
      obtain rfl:=Option.some.inj h
      exact Kn.D Fm
     ·refine AW.skip ?_
      obtain ⟨E,h⟩:=gS h
      refine AW.pN Fm [.s,.s] [(1,vi j),(2,vi e),(3,vi i),(14,AL a),(15,vi (lI a)),(16,vi (b+1))] [] (cT (cT E)) ?_
      exact Kn.R Fm (q (b+1) h)
    ·rcases br_or h with ⟨m,h⟩|⟨m,h⟩
     ·obtain ⟨l,I,h⟩:=bS h
      refine AW.G Fm [.s,.s,.s,.s,.w (vb true),.s,.s,.s,.s,.k (cE [] [] (vb l) [] []),.s] (fun K=>_∧K 9∧True) [(1,vi j),(2,vi e),(3,vi i),(10,pt 10),(14,AL a),(15,vi (lI a)),(16,vi b),(25,.v (.c (.ptr 10 2))),(26,.v (.g [.d (DL (α:=Rect) (gl a b.toNat).region_.rects_)])),(27,vi e),(28,vi i),(29,vb l),(30,vb l)] [(10,bx [ci ((gl a b.toNat).year_),ci ((gl a b.toNat).crop_),.d (DL (α:=Rect) (gl a b.toNat).region_.rects_)])] ⟨ALe.bool m,KAt.CC (region_Has_spec I) Tryz.call111 [],⟨⟩⟩ ?_
      exact Kn.R Fm (n l h)
     ·refine AW.pN Fm [.s,.s,.s,.s,.w (vb false),.s,.s,.s,.s,.s,.s] [(1,vi j),(2,vi e),(3,vi i),(10,pt 10),(14,AL a),(15,vi (lI a)),(16,vi b),(30,vb false)] [(10,bx [ci ((gl a b.toNat).year_),ci ((gl a b.toNat).crop_),.d (DL (α:=Rect) (gl a b.toNat).region_.rects_)])] (cT (ALe.bool m)) ?_
      exact Kn.R Fm (n false h)
   ·exact AW.exit (Kn.R Fm (t () h))
theorem law15_awake_spec {F:Nat} {r:Bool} (h:law15_awake F=some r) :
  FSpec Tryz.prog 21 [] [] (vb r) []:=by
 refine FI Tryz.func21 prog_mixed prog_lay fun C Fm=>?_
 unfold law15_awake at h
 refine AW.SG0 Fm 1 [] [] ?_
 refine AW.seq ?_
 obtain ⟨i,A,h⟩:=bS h
 refine AW.G Fm [.s,.w (AL (α:=Rect) ([(⟨0,0,(2:Int),(1:Int)⟩ : Rect)]:List Rect)),.s,.k (cE [] [] (.t [.c (.d (DL i.1)),.c (ci i.2)]) [] []),.s,.s,.s,.s,.s] (fun K=>(ALe (.v (.c (.d (.lst 1 (litF 4 [.int .i64 0,.int .i64 0,.int .i64 (2:Int),.int .i64 (1:Int)]))))) (AL (α:=Rect) ([(⟨0,0,(2:Int),(1:Int)⟩ : Rect)]:List Rect)))∧K 3∧True) [(1,AL i.1),(2,vi i.2)] [] ⟨ALe.lst (.lit ([(⟨0,0,(2:Int),(1:Int)⟩ : Rect)]:List Rect) (by kernel_rfl)),KAt.callX (history_Add_spec A) Tryz.call17 [] [] [.const (.slice none 0 0),.const (.int .i64 3),.const (.int .i64 2),.tmp 7] rfl (by kernel_rfl) (by kernel_rfl) (by kernel_rfl) ⟨ArgT.plain (by kernel_rfl) (ALe.c (CLe.fl .nil)) (by kernel_rfl),.p,.p,.p,⟨⟩⟩,⟨⟩⟩ ?_
 refine AW.seq ?_
 obtain ⟨l,B,h⟩:=bS h
 refine AW.G Fm [.s,.s,.w (AL (α:=Rect) ([(⟨(1:Int),0,(2:Int),(1:Int)⟩ : Rect)]:List Rect)),.s,.k (cE [] [] (.t [.c (.d (DL l.1)),.c (ci l.2)]) [] []),.s,.s,.s,.s,.s] (fun K=>(ALe (.v (.c (.d (.lst 1 (litF 4 [.int .i64 (1:Int),.int .i64 0,.int .i64 (2:Int),.int .i64 (1:Int)]))))) (AL (α:=Rect) ([(⟨(1:Int),0,(2:Int),(1:Int)⟩ : Rect)]:List Rect)))∧K 4∧True) [(1,AL l.1),(2,vi i.2),(3,vi l.2)] [] ⟨ALe.lst (.lit ([(⟨(1:Int),0,(2:Int),(1:Int)⟩ : Rect)]:List Rect) (by kernel_rfl)),KAt.CC (history_Add_spec B) Tryz.call17 [],⟨⟩⟩ ?_
 refine AW.join (r:=r) (fun z:Bool=>law15_awake_k0 F z) (fun z=>[(0,vb z)]) (fun z=>[]) (fun I h=>?_) (fun H b=>?_)
 ·refine AW.ret ?_
  obtain rfl:=Option.some.inj h
  exact Kn.D Fm
 ·rcases br_or h with ⟨a,h⟩|⟨a,h⟩
  ·rcases br_or h with ⟨e,h⟩|⟨e,h⟩
   ·obtain ⟨o,n,h⟩:=bS h
    rcases br_or h with ⟨j,h⟩|⟨j,h⟩
    ·obtain ⟨y,u,h⟩:=bS h
     rcases br_or h with ⟨m,h⟩|⟨m,h⟩
     ·obtain ⟨q,E,h⟩:=bS h
      refine AW.G Fm [.s,.s,.w (vb true),.s,.s,.s,.w (vb true),.s,.k (cE [] [] (vi o) [] []),.s,.s,.w (vb true),.s,.k (cE [] [] (vi y) [] []),.s,.s,.w (vb true),.s,.k (cE [] [] (vi q) [] []),.s,.s,.s] (fun K=>_∧_∧K 8∧_∧K 13∧_∧K 18∧True) [(0,vb (q==(-1:Int)))] [] ⟨ALe.bool a,ALe.bool e,KAt.CC (history_At_spec n) Tryz.call20 [],ALe.bool j,KAt.CC (history_At_spec u) Tryz.call20 [],ALe.bool m,KAt.CC (history_At_spec E) Tryz.call20 [],⟨⟩⟩ ?_
      exact Kn.R Fm (b (q==(-1:Int)) h)
     ·refine AW.G Fm [.s,.s,.w (vb true),.s,.s,.s,.w (vb true),.s,.k (cE [] [] (vi o) [] []),.s,.s,.w (vb true),.s,.k (cE [] [] (vi y) [] []),.s,.s,.w (vb false),.s,.s,.s,.s,.s] (fun K=>_∧_∧K 8∧_∧K 13∧_∧True) [(0,vb false)] [] ⟨ALe.bool a,ALe.bool e,KAt.CC (history_At_spec n) Tryz.call20 [],ALe.bool j,KAt.CC (history_At_spec u) Tryz.call20 [],ALe.bool m,⟨⟩⟩ ?_
      exact Kn.R Fm (b false h)
    ·refine AW.G Fm [.s,.s,.w (vb true),.s,.s,.s,.w (vb true),.s,.k (cE [] [] (vi o) [] []),.s,.s,.w (vb false),.s,.s,.s,.s,.s,.s,.s,.s,.s,.s] (fun K=>_∧_∧K 8∧_∧True) [(0,vb false)] [] ⟨ALe.bool a,ALe.bool e,KAt.CC (history_At_spec n) Tryz.call20 [],ALe.bool j,⟨⟩⟩ ?_
     exact Kn.R Fm (b false h)
   ·refine AW.pN Fm [.s,.s,.w (vb true),.s,.s,.s,.w (vb false),.s,.s,.s,.s,.s,.s,.s,.s,.s,.s,.s,.s,.s,.s,.s] [(0,vb false)] [] (cA (ALe.bool a) (cT (ALe.bool e))) ?_
    exact Kn.R Fm (b false h)
  ·refine AW.pN Fm [.s,.s,.w (vb false),.s,.s,.s,.s,.s,.s,.s,.s,.s,.s,.s,.s,.s,.s,.s,.s,.s,.s,.s] [(0,vb false)] [] (cT (ALe.bool a)) ?_
   exact Kn.R Fm (b false h)
theorem ref04_Meets_spec {F:Nat} {i:Region} {j:Region} {r:Bool} (h:ref04_Meets F i j=some r) :
  FSpec Tryz.prog 70 [.v (.g [.d (DL i.rects_)]),.v (.g [.d (DL j.rects_)])] [] (vb r) []:=by
 refine FI Tryz.func70 prog_mixed prog_lay fun C Fm=>?_
 unfold ref04_Meets at h
 refine AW.SG0 Fm 3 [(2,pt 2),(3,pt 3)] [(2,bx [.d (DL i.rects_)]),(3,bx [.d (DL j.rects_)])] ?_
 refine AW.join (r:=r) (fun z:Bool=>ref04_Meets_k0 F z) (fun z=>[(4,vb z)]) (fun z=>[]) (fun t h=>?_) (fun q b=>?_)
 ·refine AW.ret ?_
  obtain rfl:=Option.some.inj h
  exact Kn.D Fm
 ·obtain ⟨l,e,h⟩:=bS h
  rcases br_or h with ⟨a,h⟩|⟨a,h⟩
  ·obtain ⟨o,n,h⟩:=bS h
   rcases br_or h with ⟨c,h⟩|⟨c,h⟩
   ·obtain ⟨m,p,h⟩:=bS h
    refine AW.G Fm [.s,.k (cE [] [] (vb l) [] []),.w (vb true),.s,.k (cE [] [] (vb o) [] []),.s,.w (vb true),.s,.s,.s,.s,.k (cE [] [] (AL m) [] []),.s,.s,.s,.s] (fun K=>K 1∧_∧K 4∧_∧K 11∧True) [(4,vb (decide ((0:Int)<(lI m))))] [] ⟨KAt.CC (ref04_Valid_spec e) Tryz.call109 [],ALe.bool a,KAt.CC (ref04_Valid_spec n) Tryz.call109 [],ALe.bool c,KAt.CC (ref04_Combine_spec p) Tryz.call112 [],⟨⟩⟩ ?_
    exact Kn.R Fm (b (decide ((0:Int)<(lI m))) h)
   ·refine AW.G Fm [.s,.k (cE [] [] (vb l) [] []),.w (vb true),.s,.k (cE [] [] (vb o) [] []),.s,.w (vb false),.s,.s,.s,.s,.s,.s,.s,.s,.s] (fun K=>K 1∧_∧K 4∧_∧True) [(4,vb false)] [] ⟨KAt.CC (ref04_Valid_spec e) Tryz.call109 [],ALe.bool a,KAt.CC (ref04_Valid_spec n) Tryz.call109 [],ALe.bool c,⟨⟩⟩ ?_
    exact Kn.R Fm (b false h)
  ·refine AW.G Fm [.s,.k (cE [] [] (vb l) [] []),.w (vb false),.s,.s,.s,.s,.s,.s,.s,.s,.s,.s,.s,.s,.s] (fun K=>K 1∧_∧True) [(4,vb false)] [] ⟨KAt.CC (ref04_Valid_spec e) Tryz.call109 [],ALe.bool a,⟨⟩⟩ ?_
   exact Kn.R Fm (b false h)
end Go.Ab
end
