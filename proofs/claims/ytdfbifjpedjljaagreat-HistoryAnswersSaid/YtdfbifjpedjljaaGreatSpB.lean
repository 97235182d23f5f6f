/- The code follows the plain programs: whenever the plain program has a result. -/
import Derived.Test.YtdfbifjpedjljaaGreatSpA
import Derived.Test.YtdfbifjpedjljaaGreatBaA
set_option linter.unusedVariables false
set_option linter.unusedSimpArgs false
section
namespace Go.Ab
open Go.Proofs
set_option linter.unusedVariables false
set_option maxRecDepth 100000
theorem ref15_Check_spec {F:Nat} {a:(List Record)} {r:Int} (h:ref15_Check F a=some r) :
  FSpec Tryz.prog 25 [AL a] [] (vi r) []:=by
 refine FI Tryz.func25 prog_mixed prog_lay fun C Fm=>?_
 unfold ref15_Check at h
 refine AW.SG0 Fm 1 [(0,AL a)] [] ?_
 refine AW.seq (AW.SG0 Fm 3 [(0,AL a),(11,vb (decide ((200:Int)<(lI a))))] [] ?_)
 refine AW.cN h (fun d0 h=>?_) (fun d0 h=>?_)
 ·refine AW.SG0 Fm 1 [(2,vi 1)] [] ?_
  refine AW.ret ?_
  obtain rfl:=Option.some.inj h
  exact Kn.D Fm
 ·refine AW.skip (AW.join (r:=r) (fun z:Unit=>ref15_Check_k5 F a) (fun z=>[(0,AL a)]) (fun z=>[]) (fun z h=>?_) (fun K0 Y=>?_))
  ·refine AW.join (r:=r) (fun z:Unit=>ref15_Check_k10 F) (fun z=>[]) (fun z=>[]) (fun z h=>?_) (fun P0 c0=>?_)
   ·refine AW.SG0 Fm 1 [(2,vi 0)] [] ?_
    refine AW.ret ?_
    obtain rfl:=Option.some.inj h
    exact Kn.D Fm
   ·refine AW.SG0 Fm 3 [(0,AL a),(85,AL a),(86,vi (lI a)),(87,vi 0)] [] ?_
    refine AW.block (AW.loopF (E' := fun z=>[(0,AL a),(85,AL a),(86,vi (lI a)),(87,vi z)]) (S' := fun z=>[]) (fun V e L0 Z h=>?_) h)
    refine AW.SG0 Fm 1 [(0,AL a),(85,AL a),(86,vi (lI a)),(87,vi e),(88,vb (decide (e<(lI a))))] [] ?_
    refine AW.seq (AW.cN h (fun m0 h=>?_) (fun m0 h=>?_))
    ·refine AW.skip (AW.join (r:=r) (fun z:Unit=>ref15_Check_k9 F e V) (fun z=>[(0,AL a),(85,AL a),(86,vi (lI a)),(87,vi e)]) (fun z=>[]) (fun z h=>?_) (fun O0 b0=>?_))
     ·obtain ⟨A0,h⟩:=gS h
      refine AW.pN Fm [.s,.s] [(0,AL a),(85,AL a),(86,vi (lI a)),(87,vi (e+1))] [] (cT (cT A0)) ?_
      exact Kn.R Fm (Z (e+1) h)
     ·refine AW.block ?_
      obtain ⟨u0,h⟩:=gS h
      refine AW.SP Fm [.s,.s,.s,.s,.s,.s] [(0,AL a),(5,vi e),(6,pt 6),(85,AL a),(86,vi (lI a)),(87,vi e)] [(6,bx [ci ((gl a e.toNat).year_),ci ((gl a e.toNat).crop_),.d (DL (α:=Rect) (gl a e.toNat).region_.rects_)])] (cT u0) ?_
      obtain ⟨P,h⟩:=gS h
      refine AW.SP Fm [.s,.s,.w (AL (α:=Record) (a.take e.toNat)),.s,.s] [(0,AL a),(6,pt 6),(85,AL a),(86,vi (lI a)),(87,vi e),(94,AL (α:=Record) (a.take e.toNat)),(95,vi (lI (a.take e.toNat))),(96,vi 0)] [(6,bx [ci ((gl a e.toNat).year_),ci ((gl a e.toNat).crop_),.d (DL (α:=Rect) (gl a e.toNat).region_.rects_)])] (cA (⟨P,(Is.refl a).len⟩ : ((sl (List.length a) (LF a) none (some e)).2∧∀ j,j<List.length a→(LF a j).length=3)) (cT (ALe.lst (sl_is a none (some e) P):ALe (.v (.c (.d (.lst (sl (List.length a) (LF a) none (some e)).1.1 (sl (List.length a) (LF a) none (some e)).1.2)))) (AL (α:=Record) (a.take e.toNat))))) ?_
      refine AW.block (AW.loopF (E' := fun z=>[(0,AL a),(6,pt 6),(85,AL a),(86,vi (lI a)),(87,vi e),(94,AL (α:=Record) (a.take e.toNat)),(95,vi (lI (a.take e.toNat))),(96,vi z)]) (S' := fun z=>[(6,bx [ci ((gl a e.toNat).year_),ci ((gl a e.toNat).crop_),.d (DL (α:=Rect) (gl a e.toNat).region_.rects_)])]) (fun W i M0 a0 h=>?_) h)
      refine AW.SG0 Fm 1 [(0,AL a),(6,pt 6),(85,AL a),(86,vi (lI a)),(87,vi e),(94,AL (α:=Record) (a.take e.toNat)),(95,vi (lI (a.take e.toNat))),(96,vi i),(97,vb (decide (i<(lI (a.take e.toNat)))))] [(6,bx [ci ((gl a e.toNat).year_),ci ((gl a e.toNat).crop_),.d (DL (α:=Rect) (gl a e.toNat).region_.rects_)])] ?_
      refine AW.seq (AW.cN h (fun n0 h=>?_) (fun n0 h=>?_))
      ·refine AW.skip (AW.seq (AW.block ?_))
       obtain ⟨w0,h⟩:=gS h
       refine AW.SP Fm [.s,.s,.s,.s] [(0,AL a),(6,pt 6),(8,pt 8),(85,AL a),(86,vi (lI a)),(87,vi e),(94,AL (α:=Record) (a.take e.toNat)),(95,vi (lI (a.take e.toNat))),(96,vi i)] [(6,bx [ci ((gl a e.toNat).year_),ci ((gl a e.toNat).crop_),.d (DL (α:=Rect) (gl a e.toNat).region_.rects_)]),(8,bx [ci ((gl (a.take e.toNat) i.toNat).year_),ci ((gl (a.take e.toNat) i.toNat).crop_),.d (DL (α:=Rect) (gl (a.take e.toNat) i.toNat).region_.rects_)])] (cT w0) ?_
       refine AW.join (r:=r) (fun z:Bool=>ref15_Check_k8 F i W z) (fun z=>[(0,AL a),(6,pt 6),(85,AL a),(86,vi (lI a)),(87,vi e),(94,AL (α:=Record) (a.take e.toNat)),(95,vi (lI (a.take e.toNat))),(96,vi i),(111,vb z)]) (fun z=>[(6,bx [ci ((gl a e.toNat).year_),ci ((gl a e.toNat).crop_),.d (DL (α:=Rect) (gl a e.toNat).region_.rects_)])]) (fun W0 h=>?_) (fun N0 M=>?_)
       ·refine AW.cN h (fun o0 h=>?_) (fun o0 h=>?_)
        ·refine AW.SG0 Fm 1 [(2,vi 11)] [] ?_
         refine AW.ret ?_
         obtain rfl:=Option.some.inj h
         exact Kn.D Fm
        ·refine AW.skip ?_
         obtain ⟨y0,h⟩:=gS h
         refine AW.pN Fm [.s,.s] [(0,AL a),(6,pt 6),(85,AL a),(86,vi (lI a)),(87,vi e),(94,AL (α:=Record) (a.take e.toNat)),(95,vi (lI (a.take e.toNat))),(96,vi (i+1))] [(6,bx [ci ((gl a e.toNat).year_),ci ((gl a e.toNat).crop_),.d (DL (α:=Rect) (gl a e.toNat).region_.rects_)])] (cT (cT y0)) ?_
         exact Kn.R Fm (a0 (i+1) h)
       ·rcases br_or h with ⟨A,h⟩|⟨A,h⟩
        ·obtain ⟨p,B0,h⟩:=bS h
         refine AW.G Fm [.s,.s,.s,.s,.s,.w (vb true),.s,.s,.s,.s,.k (cE [] [] (vb p) [] []),.s] (fun K=>_∧K 10∧True) [(0,AL a),(6,pt 6),(85,AL a),(86,vi (lI a)),(87,vi e),(94,AL (α:=Record) (a.take e.toNat)),(95,vi (lI (a.take e.toNat))),(96,vi i),(106,.v (.c (.ptr 8 2))),(107,.v (.g [.d (DL (α:=Rect) (gl (a.take e.toNat) i.toNat).region_.rects_)])),(108,.v (.c (.ptr 6 2))),(109,.v (.g [.d (DL (α:=Rect) (gl a e.toNat).region_.rects_)])),(110,vb p),(111,vb p)] [(6,bx [ci ((gl a e.toNat).year_),ci ((gl a e.toNat).crop_),.d (DL (α:=Rect) (gl a e.toNat).region_.rects_)]),(8,bx [ci ((gl (a.take e.toNat) i.toNat).year_),ci ((gl (a.take e.toNat) i.toNat).crop_),.d (DL (α:=Rect) (gl (a.take e.toNat) i.toNat).region_.rects_)])] ⟨ALe.bool A,KAt.CC (ref04_Meets_spec B0) Tryz.call70 [],⟨⟩⟩ ?_
         exact Kn.R Fm (M p h)
        ·refine AW.pN Fm [.s,.s,.s,.s,.s,.w (vb false),.s,.s,.s,.s,.s,.s] [(0,AL a),(6,pt 6),(85,AL a),(86,vi (lI a)),(87,vi e),(94,AL (α:=Record) (a.take e.toNat)),(95,vi (lI (a.take e.toNat))),(96,vi i),(111,vb false)] [(6,bx [ci ((gl a e.toNat).year_),ci ((gl a e.toNat).crop_),.d (DL (α:=Rect) (gl a e.toNat).region_.rects_)])] (cT (ALe.bool A)) ?_
         exact Kn.R Fm (M false h)
      ·exact AW.exit (Kn.R Fm (b0 () h))
    ·exact AW.exit (Kn.R Fm (c0 () h))
  ·refine AW.SG0 Fm 3 [(0,AL a),(12,AL a),(13,vi (lI a)),(14,vi 0)] [] ?_
   refine AW.block (AW.loopF (E' := fun z=>[(0,AL a),(12,AL a),(13,vi (lI a)),(14,vi z)]) (S' := fun z=>[]) (fun m b D0 X h=>?_) h)
   refine AW.SG0 Fm 1 [(0,AL a),(12,AL a),(13,vi (lI a)),(14,vi b),(15,vb (decide (b<(lI a))))] [] ?_
   refine AW.seq (AW.cN h (fun e0 h=>?_) (fun e0 h=>?_))
   ·refine AW.skip (AW.seq (AW.block ?_))
    obtain ⟨p0,h⟩:=gS h
    refine AW.SP Fm [.s,.s,.s,.s,.s,.s] [(0,AL a),(3,vi b),(4,pt 4),(12,AL a),(13,vi (lI a)),(14,vi b)] [(4,bx [ci ((gl a b.toNat).year_),ci ((gl a b.toNat).crop_),.d (DL (α:=Rect) (gl a b.toNat).region_.rects_)])] (cT p0) ?_
    refine AW.seq (AW.block (AW.join (r:=r) (fun z:Bool=>ref15_Check_k1 F a b m z) (fun z=>[(0,AL a),(3,vi b),(4,pt 4),(12,AL a),(13,vi (lI a)),(14,vi b),(19,vb z)]) (fun z=>[(4,bx [ci ((gl a b.toNat).year_),ci ((gl a b.toNat).crop_),.d (DL (α:=Rect) (gl a b.toNat).region_.rects_)])]) (fun R0 h=>?_) (fun E0 H=>?_)))
    ·refine AW.cN h (fun i0 h=>?_) (fun i0 h=>?_)
     ·refine AW.SG0 Fm 1 [(2,vi 18)] [] ?_
      refine AW.ret ?_
      obtain rfl:=Option.some.inj h
      exact Kn.D Fm
     ·refine AW.join (r:=r) (fun z:Bool=>ref15_Check_k2 F a b m z) (fun z=>[(0,AL a),(3,vi b),(4,pt 4),(12,AL a),(13,vi (lI a)),(14,vi b),(28,vb z)]) (fun z=>[(4,bx [ci ((gl a b.toNat).year_),ci ((gl a b.toNat).crop_),.d (DL (α:=Rect) (gl a b.toNat).region_.rects_)])]) (fun T0 h=>?_) (fun G0 I=>?_)
      ·refine AW.cN h (fun j0 h=>?_) (fun j0 h=>?_)
       ·refine AW.SG0 Fm 1 [(2,vi 13)] [] ?_
        refine AW.ret ?_
        obtain rfl:=Option.some.inj h
        exact Kn.D Fm
       ·refine AW.join (r:=r) (fun z:Bool=>ref15_Check_k3 F a b m z) (fun z=>[(0,AL a),(3,vi b),(4,pt 4),(12,AL a),(13,vi (lI a)),(14,vi b),(37,vb z)]) (fun z=>[(4,bx [ci ((gl a b.toNat).year_),ci ((gl a b.toNat).crop_),.d (DL (α:=Rect) (gl a b.toNat).region_.rects_)])]) (fun U0 h=>?_) (fun H0 L=>?_)
        ·refine AW.cN h (fun k0 h=>?_) (fun k0 h=>?_)
         ·refine AW.SG0 Fm 1 [(2,vi 7)] [] ?_
          refine AW.ret ?_
          obtain rfl:=Option.some.inj h
          exact Kn.D Fm
         ·refine AW.skip (AW.join (r:=r) (fun z:Bool=>ref15_Check_k4 F b m z) (fun z=>[(0,AL a),(12,AL a),(13,vi (lI a)),(14,vi b),(83,vb z)]) (fun z=>[]) (fun V0 h=>?_) (fun I0 n=>?_))
          ·refine AW.cN h (fun l0 h=>?_) (fun l0 h=>?_)
           ·refine AW.SG0 Fm 1 [(2,vi 3)] [] ?_
            refine AW.ret ?_
            obtain rfl:=Option.some.inj h
            exact Kn.D Fm
           ·refine AW.skip ?_
            obtain ⟨t0,h⟩:=gS h
            refine AW.pN Fm [.s,.s] [(0,AL a),(12,AL a),(13,vi (lI a)),(14,vi (b+1))] [] (cT (cT t0)) ?_
            exact Kn.R Fm (X (b+1) h)
          ·rcases br_or h with ⟨l,h⟩|⟨l,h⟩
           ·obtain ⟨B,E,h⟩:=gS2 h
            rcases br_or h with ⟨o,h⟩|⟨o,h⟩
            ·refine AW.pN Fm [.s,.s,.w (vb true),.s,.s,.s,.s,.s,.s,.s,.s,.s,.w (vb true),.s,.s,.s,.s,.s,.s,.s,.s,.s,.s,.s,.s,.s,.s,.s,.s,.s,.s,.s,.s,.s,.s] [(0,AL a),(12,AL a),(13,vi (lI a)),(14,vi b),(52,pt 4),(53,vi (gl a b.toNat).year_),(54,AL a),(55,vi b),(56,vi (b-1)),(57,.v (.c (.elm [.int .i64 (gl a (b-1).toNat).year_,.int .i64 (gl a (b-1).toNat).crop_,DL (α:=Rect) (gl a (b-1).toNat).region_.rects_]))),(58,.v (.c (.elm [.int .i64 (gl a (b-1).toNat).year_,.int .i64 (gl a (b-1).toNat).crop_,DL (α:=Rect) (gl a (b-1).toNat).region_.rects_]))),(59,vi (gl a (b-1).toNat).year_),(60,vb (decide (((gl a b.toNat).year_)<((gl a (b-1).toNat).year_)))),(61,vb true),(82,vb true),(83,vb true)] [(4,bx [ci ((gl a b.toNat).year_),ci ((gl a b.toNat).crop_),.d (DL (α:=Rect) (gl a b.toNat).region_.rects_)])] (cA (ALe.bool l) (cA (cT B) (cA E (cT (ALe.bool o))))) ?_
             exact Kn.R Fm (n true h)
            ·obtain ⟨N,O,h⟩:=gS2 h
             rcases br_or h with ⟨y,h⟩|⟨y,h⟩
             ·obtain ⟨q0,s0,h⟩:=gS2 h
              refine AW.pN Fm [.s,.s,.w (vb true),.s,.s,.s,.s,.s,.s,.s,.s,.s,.w (vb false),.s,.s,.s,.s,.s,.s,.s,.s,.s,.w (vb true),.s,.s,.s,.s,.s,.s,.s,.s,.s,.s,.s,.s] [(0,AL a),(12,AL a),(13,vi (lI a)),(14,vi b),(52,pt 4),(53,vi (gl a b.toNat).year_),(54,AL a),(55,vi b),(56,vi (b-1)),(57,.v (.c (.elm [.int .i64 (gl a (b-1).toNat).year_,.int .i64 (gl a (b-1).toNat).crop_,DL (α:=Rect) (gl a (b-1).toNat).region_.rects_]))),(58,.v (.c (.elm [.int .i64 (gl a (b-1).toNat).year_,.int .i64 (gl a (b-1).toNat).crop_,DL (α:=Rect) (gl a (b-1).toNat).region_.rects_]))),(59,vi (gl a (b-1).toNat).year_),(60,vb (decide (((gl a b.toNat).year_)<((gl a (b-1).toNat).year_)))),(61,vb false),(62,pt 4),(63,vi (gl a b.toNat).year_),(64,AL a),(65,vi b),(66,vi (b-1)),(67,.v (.c (.elm [.int .i64 (gl a (b-1).toNat).year_,.int .i64 (gl a (b-1).toNat).crop_,DL (α:=Rect) (gl a (b-1).toNat).region_.rects_]))),(68,.v (.c (.elm [.int .i64 (gl a (b-1).toNat).year_,.int .i64 (gl a (b-1).toNat).crop_,DL (α:=Rect) (gl a (b-1).toNat).region_.rects_]))),(69,vi (gl a (b-1).toNat).year_),(70,vb (((gl a b.toNat).year_)==((gl a (b-1).toNat).year_))),(71,vb true),(72,.v (.c (.ptr 4 1))),(73,vi (gl a b.toNat).crop_),(74,AL a),(75,vi b),(76,vi (b-1)),(77,.v (.c (.elm [.int .i64 (gl a (b-1).toNat).year_,.int .i64 (gl a (b-1).toNat).crop_,DL (α:=Rect) (gl a (b-1).toNat).region_.rects_]))),(78,.v (.c (.elm [.int .i64 (gl a (b-1).toNat).crop_,DL (α:=Rect) (gl a (b-1).toNat).region_.rects_]))),(79,vi (gl a (b-1).toNat).crop_),(80,vb (decide (((gl a b.toNat).crop_)≤((gl a (b-1).toNat).crop_)))),(81,vb (decide (((gl a b.toNat).crop_)≤((gl a (b-1).toNat).crop_)))),(82,vb (decide (((gl a b.toNat).crop_)≤((gl a (b-1).toNat).crop_)))),(83,vb (decide (((gl a b.toNat).crop_)≤((gl a (b-1).toNat).crop_))))] [(4,bx [ci ((gl a b.toNat).year_),ci ((gl a b.toNat).crop_),.d (DL (α:=Rect) (gl a b.toNat).region_.rects_)])] (cA (ALe.bool l) (cA (cT B) (cA E (cA (ALe.bool o) (cA (cT N) (cA O (cA (ALe.bool y) (cA (cT q0) (cT s0))))))))) ?_
              exact Kn.R Fm (n (decide (((gl a b.toNat).crop_)≤((gl a (b-1).toNat).crop_))) h)
             ·refine AW.pN Fm [.s,.s,.w (vb true),.s,.s,.s,.s,.s,.s,.s,.s,.s,.w (vb false),.s,.s,.s,.s,.s,.s,.s,.s,.s,.w (vb false),.s,.s,.s,.s,.s,.s,.s,.s,.s,.s,.s,.s] [(0,AL a),(12,AL a),(13,vi (lI a)),(14,vi b),(52,pt 4),(53,vi (gl a b.toNat).year_),(54,AL a),(55,vi b),(56,vi (b-1)),(57,.v (.c (.elm [.int .i64 (gl a (b-1).toNat).year_,.int .i64 (gl a (b-1).toNat).crop_,DL (α:=Rect) (gl a (b-1).toNat).region_.rects_]))),(58,.v (.c (.elm [.int .i64 (gl a (b-1).toNat).year_,.int .i64 (gl a (b-1).toNat).crop_,DL (α:=Rect) (gl a (b-1).toNat).region_.rects_]))),(59,vi (gl a (b-1).toNat).year_),(60,vb (decide (((gl a b.toNat).year_)<((gl a (b-1).toNat).year_)))),(61,vb false),(62,pt 4),(63,vi (gl a b.toNat).year_),(64,AL a),(65,vi b),(66,vi (b-1)),(67,.v (.c (.elm [.int .i64 (gl a (b-1).toNat).year_,.int .i64 (gl a (b-1).toNat).crop_,DL (α:=Rect) (gl a (b-1).toNat).region_.rects_]))),(68,.v (.c (.elm [.int .i64 (gl a (b-1).toNat).year_,.int .i64 (gl a (b-1).toNat).crop_,DL (α:=Rect) (gl a (b-1).toNat).region_.rects_]))),(69,vi (gl a (b-1).toNat).year_),(70,vb (((gl a b.toNat).year_)==((gl a (b-1).toNat).year_))),(71,vb false),(81,vb false),(82,vb false),(83,vb false)] [(4,bx [ci ((gl a b.toNat).year_),ci ((gl a b.toNat).crop_),.d (DL (α:=Rect) (gl a b.toNat).region_.rects_)])] (cA (ALe.bool l) (cA (cT B) (cA E (cA (ALe.bool o) (cA (cT N) (cA O (cT (ALe.bool y)))))))) ?_
              exact Kn.R Fm (n false h)
           ·refine AW.pN Fm [.s,.s,.w (vb false),.s,.s,.s,.s,.s,.s,.s,.s,.s,.s,.s,.s,.s,.s,.s,.s,.s,.s,.s,.s,.s,.s,.s,.s,.s,.s,.s,.s,.s,.s,.s,.s] [(0,AL a),(12,AL a),(13,vi (lI a)),(14,vi b),(83,vb false)] [] (cT (ALe.bool l)) ?_
            exact Kn.R Fm (n false h)
        ·obtain ⟨U,T,h⟩:=bS h
         rcases br_or h with ⟨u,h⟩|⟨u,h⟩
         ·refine AW.G Fm [.s,.s,.k (cE [] [] (vb U) [] []),.s,.w (vb true),.s,.s,.s,.s,.s,.s,.s] (fun K=>K 2∧_∧True) [(0,AL a),(3,vi b),(4,pt 4),(12,AL a),(13,vi (lI a)),(14,vi b),(37,vb true)] [(4,bx [ci ((gl a b.toNat).year_),ci ((gl a b.toNat).crop_),.d (DL (α:=Rect) (gl a b.toNat).region_.rects_)])] ⟨KAt.CC (ref04_Valid_spec T) Tryz.call109 [],ALe.bool u,⟨⟩⟩ ?_
          exact Kn.R Fm (L true h)
         ·refine AW.G Fm [.s,.s,.k (cE [] [] (vb U) [] []),.s,.w (vb false),.s,.s,.s,.s,.s,.s,.s] (fun K=>K 2∧_∧True) [(0,AL a),(3,vi b),(4,pt 4),(12,AL a),(13,vi (lI a)),(14,vi b),(37,vb ((lI ((gl a b.toNat).region_.rects_))==(0:Int))),(43,.v (.c (.ptr 4 2))),(44,.v (.c (.ptr 4 2))),(45,AL (α:=Rect) (gl a b.toNat).region_.rects_),(46,vi (lI ((gl a b.toNat).region_.rects_))),(47,vb ((lI ((gl a b.toNat).region_.rects_))==(0:Int)))] [(4,bx [ci ((gl a b.toNat).year_),ci ((gl a b.toNat).crop_),.d (DL (α:=Rect) (gl a b.toNat).region_.rects_)])] ⟨KAt.CC (ref04_Valid_spec T) Tryz.call109 [],ALe.bool u,⟨⟩⟩ ?_
          exact Kn.R Fm (L ((lI ((gl a b.toNat).region_.rects_))==(0:Int)) h)
      ·rcases br_or h with ⟨t,h⟩|⟨t,h⟩
       ·refine AW.pN Fm [.s,.s,.s,.w (vb true),.s,.s,.s,.s,.s] [(0,AL a),(3,vi b),(4,pt 4),(12,AL a),(13,vi (lI a)),(14,vi b),(28,vb true)] [(4,bx [ci ((gl a b.toNat).year_),ci ((gl a b.toNat).crop_),.d (DL (α:=Rect) (gl a b.toNat).region_.rects_)])] (cT (ALe.bool t)) ?_
        exact Kn.R Fm (I true h)
       ·refine AW.pN Fm [.s,.s,.s,.w (vb false),.s,.s,.s,.s,.s] [(0,AL a),(3,vi b),(4,pt 4),(12,AL a),(13,vi (lI a)),(14,vi b),(28,vb (decide ((40:Int)≤((gl a b.toNat).crop_)))),(33,.v (.c (.ptr 4 1))),(34,vi (gl a b.toNat).crop_),(35,vb (decide ((40:Int)≤((gl a b.toNat).crop_))))] [(4,bx [ci ((gl a b.toNat).year_),ci ((gl a b.toNat).crop_),.d (DL (α:=Rect) (gl a b.toNat).region_.rects_)])] (cT (ALe.bool t)) ?_
        exact Kn.R Fm (I (decide ((40:Int)≤((gl a b.toNat).crop_))) h)
    ·rcases br_or h with ⟨q,h⟩|⟨q,h⟩
     ·refine AW.pN Fm [.s,.s,.s,.w (vb true),.s,.s,.s,.s,.s] [(0,AL a),(3,vi b),(4,pt 4),(12,AL a),(13,vi (lI a)),(14,vi b),(19,vb true)] [(4,bx [ci ((gl a b.toNat).year_),ci ((gl a b.toNat).crop_),.d (DL (α:=Rect) (gl a b.toNat).region_.rects_)])] (cT (ALe.bool q)) ?_
      exact Kn.R Fm (H true h)
     ·refine AW.pN Fm [.s,.s,.s,.w (vb false),.s,.s,.s,.s,.s] [(0,AL a),(3,vi b),(4,pt 4),(12,AL a),(13,vi (lI a)),(14,vi b),(19,vb (decide ((100:Int)<((gl a b.toNat).year_)))),(24,pt 4),(25,vi (gl a b.toNat).year_),(26,vb (decide ((100:Int)<((gl a b.toNat).year_))))] [(4,bx [ci ((gl a b.toNat).year_),ci ((gl a b.toNat).crop_),.d (DL (α:=Rect) (gl a b.toNat).region_.rects_)])] (cT (ALe.bool q)) ?_
      exact Kn.R Fm (H (decide ((100:Int)<((gl a b.toNat).year_))) h)
   ·exact AW.exit (Kn.R Fm (Y () h))
theorem ref15_Add_spec {F:Nat} {a:(List Record)} {b:Int} {e:Int} {q:Region} {r:(List Record)×Int} (h:ref15_Add F a b e q=some r) :
  FSpec Tryz.prog 28 [AL a,vi b,vi e,.v (.g [.d (DL q.rects_)])] [] (.t [.c (.d (DL (α:=Record) r.1)),.c (ci r.2)]) []:=by
 refine FI Tryz.func28 prog_mixed prog_lay fun C Fm=>?_
 unfold ref15_Add at h
 refine AW.SG0 Fm 3 [(0,AL a),(1,vi b),(2,vi e),(7,pt 7)] [(7,bx [.d (DL q.rects_)])] ?_
 refine AW.seq (AW.seq ?_)
 obtain ⟨M,j1,h⟩:=bS h
 refine AW.G Fm [.s,.k (cE [] [] (vi M) [] []),.s] (fun K=>K 1∧True) [(0,AL a),(1,vi b),(2,vi e),(7,pt 7),(10,vi M)] [(7,bx [.d (DL q.rects_)])] ⟨KAt.CC (ref15_Check_spec j1) Tryz.call25 [],⟨⟩⟩ ?_
 refine AW.SG0 Fm 2 [(0,AL a),(1,vi b),(2,vi e),(7,pt 7),(10,vi M),(21,vb (M != (0:Int)))] [(7,bx [.d (DL q.rects_)])] ?_
 refine AW.cN h (fun G0 h=>?_) (fun G0 h=>?_)
 ·refine AW.SG0 Fm 3 [(8,.v (.c (.fl 0 fun _=>[]))),(9,vi M)] [] ?_
  refine AW.ret ?_
  obtain rfl:=Option.some.inj h
  refine Kn.r Fm [(8,.v (.c (.fl 0 fun _=>[]))),(9,vi M)] [] (by kernel_rfl) ?_
  refine Kn.wk [(8,AL (α:=Record) []),(9,vi M)] [] ⟨rfl,ALe.c (CLe.fl .nil),⟨rfl,ALe.c (CLe.refl _),⟨⟩⟩⟩ True.intro ?_
  exact Kn.D Fm
 ·refine AW.skip (AW.seq (AW.block (AW.join (r:=r) (fun z:Bool=>ref15_Add_k0 F a b e q z) (fun z=>[(0,AL a),(1,vi b),(2,vi e),(7,pt 7),(23,vb z)]) (fun z=>[(7,bx [.d (DL q.rects_)])]) (fun H1 h=>?_) (fun n1 e0=>?_))))
  ·refine AW.cN h (fun H0 h=>?_) (fun H0 h=>?_)
   ·refine AW.SG0 Fm 2 [(8,.v (.c (.fl 0 fun _=>[]))),(9,vi 18)] [] ?_
    refine AW.ret ?_
    obtain rfl:=Option.some.inj h
    refine Kn.r Fm [(8,.v (.c (.fl 0 fun _=>[]))),(9,vi 18)] [] (by kernel_rfl) ?_
    refine Kn.wk [(8,AL (α:=Record) []),(9,vi 18)] [] ⟨rfl,ALe.c (CLe.fl .nil),⟨rfl,ALe.c (CLe.refl _),⟨⟩⟩⟩ True.intro ?_
    exact Kn.D Fm
   ·refine AW.join (r:=r) (fun z:Bool=>ref15_Add_k1 F a b e q z) (fun z=>[(0,AL a),(1,vi b),(2,vi e),(7,pt 7),(30,vb z)]) (fun z=>[(7,bx [.d (DL q.rects_)])]) (fun I1 h=>?_) (fun o1 i0=>?_)
    ·refine AW.cN h (fun I0 h=>?_) (fun I0 h=>?_)
     ·refine AW.SG0 Fm 2 [(8,.v (.c (.fl 0 fun _=>[]))),(9,vi 13)] [] ?_
      refine AW.ret ?_
      obtain rfl:=Option.some.inj h
      refine Kn.r Fm [(8,.v (.c (.fl 0 fun _=>[]))),(9,vi 13)] [] (by kernel_rfl) ?_
      refine Kn.wk [(8,AL (α:=Record) []),(9,vi 13)] [] ⟨rfl,ALe.c (CLe.fl .nil),⟨rfl,ALe.c (CLe.refl _),⟨⟩⟩⟩ True.intro ?_
      exact Kn.D Fm
     ·refine AW.seq ?_
      obtain ⟨t0,k1,h⟩:=bS h
      refine AW.G Fm [.s,.k (cE [] [] (vb t0) [] []),.s,.s] (fun K=>K 1∧True) [(0,AL a),(1,vi b),(2,vi e),(7,pt 7),(37,vb (!t0))] [(7,bx [.d (DL q.rects_)])] ⟨KAt.CC (ref04_Valid_spec k1) Tryz.call109 [],⟨⟩⟩ ?_
      refine AW.cN h (fun K0 h=>?_) (fun K0 h=>?_)
      ·refine AW.SG0 Fm 2 [(8,.v (.c (.fl 0 fun _=>[]))),(9,vi 7)] [] ?_
       refine AW.ret ?_
       obtain rfl:=Option.some.inj h
       refine Kn.r Fm [(8,.v (.c (.fl 0 fun _=>[]))),(9,vi 7)] [] (by kernel_rfl) ?_
       refine Kn.wk [(8,AL (α:=Record) []),(9,vi 7)] [] ⟨rfl,ALe.c (CLe.fl .nil),⟨rfl,ALe.c (CLe.refl _),⟨⟩⟩⟩ True.intro ?_
       exact Kn.D Fm
      ·refine AW.skip (AW.SG0 Fm 3 [(0,AL a),(1,vi b),(2,vi e),(7,pt 7),(11,AL q.rects_)] [(7,bx [.d (DL q.rects_)])] ?_)
       refine AW.SW Fm [.m] (fun K=>True) [(0,AL a),(1,vi b),(2,vi e),(7,pt 7),(11,AL q.rects_),(12,ow 12)] [(7,bx [.d (DL q.rects_)]),(12,AO (α:=Record) ([]:List Record))] True.intro [(12,.arr 3 (0) (fun _=>[]))] ⟨OLe.is ((Is.nil (α:=Record))),⟨⟩⟩ ?_
       refine AW.join (r:=r) (fun z:(List Rect)×(List Record)=>ref15_Add_k6 F b e z.1 z.2) (fun z=>[(1,vi b),(2,vi e),(11,AL z.1),(12,ow 12)]) (fun z=>[(12,AO z.2)]) (fun z h=>?_) (fun u1 y0=>?_)
       ·obtain ⟨A,o⟩:=z
        refine AW.join (r:=r) (fun z:(List Record)=>ref15_Add_k10 F z) (fun z=>[(12,ow 137)]) (fun z=>[(137,AO z)]) (fun B h=>?_) (fun B1 l0=>?_)
        ·refine AW.seq (AW.SG0 Fm 3 [(12,ow 137),(140,vb (decide ((200:Int)<(lI B))))] [(137,AO B)] ?_)
         refine AW.cN h (fun T0 h=>?_) (fun T0 h=>?_)
         ·refine AW.SG0 Fm 2 [(8,.v (.c (.fl 0 fun _=>[]))),(9,vi 1)] [] ?_
          refine AW.ret ?_
          obtain rfl:=Option.some.inj h
          refine Kn.r Fm [(8,.v (.c (.fl 0 fun _=>[]))),(9,vi 1)] [] (by kernel_rfl) ?_
          refine Kn.wk [(8,AL (α:=Record) []),(9,vi 1)] [] ⟨rfl,ALe.c (CLe.fl .nil),⟨rfl,ALe.c (CLe.refl _),⟨⟩⟩⟩ True.intro ?_
          exact Kn.D Fm
         ·refine AW.skip (AW.join (r:=r) (fun z:Unit=>ref15_Add_k12 F B) (fun z=>[(12,ow 137)]) (fun z=>[(137,AO B)]) (fun z h=>?_) (fun E1 E0=>?_))
          ·refine AW.SG0 Fm 3 [(8,ow 137),(9,vi 0)] [(137,AO B)] ?_
           refine AW.ret ?_
           obtain rfl:=Option.some.inj h
           refine Kn.r Fm [(8,ow 137),(9,vi 0)] [(137,AO B)] (by kernel_rfl) ?_
           refine Kn.frz [(8,AL B),(9,vi 0)] [] (by kernel_rfl) (by kernel_rfl) (by kernel_rfl) ?_
           exact Kn.D Fm
          ·refine AW.SG0 Fm 3 [(12,ow 137),(141,ow 137),(142,vi (lI B)),(143,vi 0)] [(137,AO B)] ?_
           refine AW.block (AW.loopF (E' := fun z=>[(12,ow 137),(141,ow 137),(142,vi (lI B)),(143,vi z)]) (S' := fun z=>[(137,AO B)]) (fun G1 L D1 D0 h=>?_) h)
           refine AW.SG0 Fm 1 [(12,ow 137),(141,ow 137),(142,vi (lI B)),(143,vi L),(144,vb (decide (L<(lI B))))] [(137,AO B)] ?_
           refine AW.seq (AW.cN h (fun U0 h=>?_) (fun U0 h=>?_))
           ·refine AW.skip (AW.seq (AW.block ?_))
            obtain ⟨p0,h⟩:=gS h
            refine AW.SP Fm [.s,.s,.s,.s] [(12,ow 137),(17,pt 17),(141,ow 137),(142,vi (lI B)),(143,vi L)] [(17,bx [ci ((gl B L.toNat).year_),ci ((gl B L.toNat).crop_),.d (DL (α:=Rect) (gl B L.toNat).region_.rects_)]),(137,AO B)] (cA p0 (cT (toNat_lt p0))) ?_
            refine AW.SG0 Fm 5 [(12,ow 137),(141,ow 137),(142,vi (lI B)),(143,vi L),(151,vb (decide ((120:Int)<(lI ((gl B L.toNat).region_.rects_)))))] [(137,AO B)] ?_
            refine AW.cN h (fun V0 h=>?_) (fun V0 h=>?_)
            ·refine AW.SG0 Fm 2 [(8,.v (.c (.fl 0 fun _=>[]))),(9,vi 1)] [] ?_
             refine AW.ret ?_
             obtain rfl:=Option.some.inj h
             refine Kn.r Fm [(8,.v (.c (.fl 0 fun _=>[]))),(9,vi 1)] [] (by kernel_rfl) ?_
             refine Kn.wk [(8,AL (α:=Record) []),(9,vi 1)] [] ⟨rfl,ALe.c (CLe.fl .nil),⟨rfl,ALe.c (CLe.refl _),⟨⟩⟩⟩ True.intro ?_
             exact Kn.D Fm
            ·refine AW.skip ?_
             obtain ⟨i1,h⟩:=gS h
             refine AW.pN Fm [.s,.s] [(12,ow 137),(141,ow 137),(142,vi (lI B)),(143,vi (L+1))] [(137,AO B)] (cT (cT i1)) ?_
             exact Kn.R Fm (D0 (L+1) h)
           ·exact AW.exit (Kn.R Fm (E0 () h))
        ·refine AW.SG0 Fm 3 [(1,vi b),(2,vi e),(11,AL A),(12,ow 12),(88,vb (decide ((0:Int)<(lI A))))] [(12,AO o)] ?_
         refine AW.cN h (fun P0 h=>?_) (fun P0 h=>?_)
         ·refine AW.SG0 Fm 1 [(1,vi b),(2,vi e),(11,AL A),(12,ow 12),(15,vi 0)] [(12,AO o)] ?_
          refine AW.join (r:=r) (fun z:Int=>ref15_Add_k9 F b e A o z) (fun z=>[(1,vi b),(2,vi e),(11,AL A),(12,ow 12),(15,vi z)]) (fun z=>[(12,AO o)]) (fun y h=>?_) (fun A1 B0=>?_)
          ·obtain ⟨a1,n0,b1,c1,h⟩:=gS4 h
           obtain ⟨d1,o0,e1,h⟩:=gS3 h
           refine AW.GW Fm [.m,.s,.s,.k (rE { v:=.v (.c (.sub 12 3 0 ((y).toNat))) }),.s,.s,.s,.s,.s,.s,.w (AL (α:=Record) ([(⟨b,e,(⟨A⟩ : Region)⟩ : Record)]:List Record)),.s,.s,.s,.k (rE { v:=.v (.c (.sub 12 3 (0+(y).toNat) ((List.length (α:=Record) o)-(y).toNat))) }),.s,.s] (fun K=>K 3∧(_∧_∧True)∧(ALe (.v (.c (.d (.lst 1 (litF 3 [.int .i64 b,.int .i64 e,DL A]))))) (AL (α:=Record) ([(⟨b,e,(⟨A⟩ : Region)⟩ : Record)]:List Record)))∧(_∧_∧True)∧K 14∧(_∧_∧True)∧True) [(12,ow 137)] [(137,AO (α:=Record) (((([]:List Record)++((o.drop 0).take ((y).toNat)))++([(⟨b,e,(⟨A⟩ : Region)⟩ : Record)]:List Record))++((o.drop (0+(y).toNat)).take ((List.length (α:=Record) o)-(y).toNat))))] ⟨KAt.vslice (l:=none) (u:=(some y)) (id:=12) (lo0:=0) (n:=(List.length (α:=Record) o)) (N:=List.length (α:=Record) o) (f:=LF (α:=Record) o) prog_lay slT27 rfl rfl (by kernel_rfl) (by kernel_rfl) (by kernel_rfl) (by kernel_rfl) (by kernel_rfl) a1 (by kernel_rfl),⟨b1,(Is.subv (l:=o) (lo:=0) (n:=((y).toNat)) n0:Is (((y).toNat)) (fun j=>LF (α:=Record) o (0+j)) ((o.drop 0).take ((y).toNat))).len,⟨⟩⟩,ALe.lst (.lit ([(⟨b,e,(⟨A⟩ : Region)⟩ : Record)]:List Record) (by kernel_rfl)),⟨c1,(Is.refl ([(⟨b,e,(⟨A⟩ : Region)⟩ : Record)]:List Record):Is (List.length (α:=Record) ([(⟨b,e,(⟨A⟩ : Region)⟩ : Record)]:List Record)) (LF (α:=Record) ([(⟨b,e,(⟨A⟩ : Region)⟩ : Record)]:List Record)) ([(⟨b,e,(⟨A⟩ : Region)⟩ : Record)]:List Record)).len,⟨⟩⟩,KAt.vslice (l:=(some y)) (u:=none) (id:=12) (lo0:=0) (n:=(List.length (α:=Record) o)) (N:=List.length (α:=Record) o) (f:=LF (α:=Record) o) prog_lay slT27 rfl rfl (by kernel_rfl) (by kernel_rfl) (by kernel_rfl) (by kernel_rfl) (by kernel_rfl) d1 (by kernel_rfl),⟨e1,(Is.subv (l:=o) (lo:=(0+(y).toNat)) (n:=((List.length (α:=Record) o)-(y).toNat)) o0:Is (((List.length (α:=Record) o)-(y).toNat)) (fun j=>LF (α:=Record) o ((0+(y).toNat)+j)) ((o.drop (0+(y).toNat)).take ((List.length (α:=Record) o)-(y).toNat))).len,⟨⟩⟩,⟨⟩⟩ [(137,.arr 3 ((((0)+(((y).toNat)))+(List.length (α:=Record) ([(⟨b,e,(⟨A⟩ : Region)⟩ : Record)]:List Record)))+(((List.length (α:=Record) o)-(y).toNat))) (appF (((0)+(((y).toNat)))+(List.length (α:=Record) ([(⟨b,e,(⟨A⟩ : Region)⟩ : Record)]:List Record))) (appF ((0)+(((y).toNat))) (appF (0) (litF 3 []) (fun j=>LF (α:=Record) o (0+j))) (LF (α:=Record) ([(⟨b,e,(⟨A⟩ : Region)⟩ : Record)]:List Record))) (fun j=>LF (α:=Record) o ((0+(y).toNat)+j))))] ⟨OLe.is (Is.app (Is.app (Is.app (Is.lit ([]:List Record) (by kernel_rfl)) (Is.subv (l:=o) (lo:=0) (n:=((y).toNat)) n0)) (Is.refl ([(⟨b,e,(⟨A⟩ : Region)⟩ : Record)]:List Record))) (Is.subv (l:=o) (lo:=(0+(y).toNat)) (n:=((List.length (α:=Record) o)-(y).toNat)) o0)),⟨⟩⟩ ?_
           exact Kn.R Fm (l0 (((([]:List Record)++((o.drop 0).take ((y).toNat)))++([(⟨b,e,(⟨A⟩ : Region)⟩ : Record)]:List Record))++((o.drop (0+(y).toNat)).take ((List.length (α:=Record) o)-(y).toNat))) h)
          ·refine AW.block (AW.loopF (E' := fun z=>[(1,vi b),(2,vi e),(11,AL A),(12,ow 12),(15,vi z)]) (S' := fun z=>[(12,AO o)]) (fun u0 p w1 A0 h=>?_) h)
           refine AW.seq (AW.join (r:=r) (fun z:Bool=>ref15_Add_k8 F b e A o p u0 z) (fun z=>[(1,vi b),(2,vi e),(11,AL A),(12,ow 12),(15,vi p),(119,vb z)]) (fun z=>[(12,AO o)]) (fun L1 h=>?_) (fun y1 T=>?_))
           ·refine AW.cN h (fun R0 h=>?_) (fun R0 h=>?_)
            ·refine AW.skip (AW.block ?_)
             obtain ⟨Z0,h⟩:=gS h
             refine AW.pN Fm [.s,.s,.s] [(1,vi b),(2,vi e),(11,AL A),(12,ow 12),(15,vi (p+1))] [(12,AO o)] (cT (cT Z0)) ?_
             exact Kn.R Fm (A0 (p+1) h)
            ·exact AW.exit (Kn.R Fm (B0 p h))
           ·rcases br_or h with ⟨P,h⟩|⟨P,h⟩
            ·obtain ⟨O,h⟩:=gS h
             rcases br_or h with ⟨U,h⟩|⟨U,h⟩
             ·refine AW.pN Fm [.s,.s,.s,.s,.w (vb true),.s,.s,.s,.s,.s,.s,.s,.w (vb true),.s,.s,.s,.s,.s,.s,.s,.s,.s,.s,.s,.s,.s,.s,.s,.s,.s,.s] [(1,vi b),(2,vi e),(11,AL A),(12,ow 12),(15,vi p),(94,ow 12),(95,vi p),(96,.v (.c (.pte 12 3 p.toNat 0))),(97,.v (.c (.pte 12 3 p.toNat 0))),(98,vi (gl o p.toNat).year_),(99,vi b),(100,vb (decide (((gl o p.toNat).year_)<b))),(101,vb true),(118,vb true),(119,vb true)] [(12,AO o)] (cA (ALe.bool P) (cA O (cA (toNat_lt O) (cT (ALe.bool U))))) ?_
              exact Kn.R Fm (T true h)
             ·obtain ⟨V,h⟩:=gS h
              rcases br_or h with ⟨b0,h⟩|⟨b0,h⟩
              ·obtain ⟨m0,h⟩:=gS h
               refine AW.pN Fm [.s,.s,.s,.s,.w (vb true),.s,.s,.s,.s,.s,.s,.s,.w (vb false),.s,.s,.s,.s,.s,.s,.s,.w (vb true),.s,.s,.s,.s,.s,.s,.s,.s,.s,.s] [(1,vi b),(2,vi e),(11,AL A),(12,ow 12),(15,vi p),(94,ow 12),(95,vi p),(96,.v (.c (.pte 12 3 p.toNat 0))),(97,.v (.c (.pte 12 3 p.toNat 0))),(98,vi (gl o p.toNat).year_),(99,vi b),(100,vb (decide (((gl o p.toNat).year_)<b))),(101,vb false),(102,ow 12),(103,vi p),(104,.v (.c (.pte 12 3 p.toNat 0))),(105,.v (.c (.pte 12 3 p.toNat 0))),(106,vi (gl o p.toNat).year_),(107,vi b),(108,vb (((gl o p.toNat).year_)==b)),(109,vb true),(110,ow 12),(111,vi p),(112,.v (.c (.pte 12 3 p.toNat 0))),(113,.v (.c (.pte 12 3 p.toNat 1))),(114,vi (gl o p.toNat).crop_),(115,vi e),(116,vb (decide (((gl o p.toNat).crop_)<e))),(117,vb (decide (((gl o p.toNat).crop_)<e))),(118,vb (decide (((gl o p.toNat).crop_)<e))),(119,vb (decide (((gl o p.toNat).crop_)<e)))] [(12,AO o)] (cA (ALe.bool P) (cA O (cA (toNat_lt O) (cA (ALe.bool U) (cA V (cA (toNat_lt V) (cA (ALe.bool b0) (cA m0 (cT (toNat_lt m0)))))))))) ?_
               exact Kn.R Fm (T (decide (((gl o p.toNat).crop_)<e)) h)
              ·refine AW.pN Fm [.s,.s,.s,.s,.w (vb true),.s,.s,.s,.s,.s,.s,.s,.w (vb false),.s,.s,.s,.s,.s,.s,.s,.w (vb false),.s,.s,.s,.s,.s,.s,.s,.s,.s,.s] [(1,vi b),(2,vi e),(11,AL A),(12,ow 12),(15,vi p),(94,ow 12),(95,vi p),(96,.v (.c (.pte 12 3 p.toNat 0))),(97,.v (.c (.pte 12 3 p.toNat 0))),(98,vi (gl o p.toNat).year_),(99,vi b),(100,vb (decide (((gl o p.toNat).year_)<b))),(101,vb false),(102,ow 12),(103,vi p),(104,.v (.c (.pte 12 3 p.toNat 0))),(105,.v (.c (.pte 12 3 p.toNat 0))),(106,vi (gl o p.toNat).year_),(107,vi b),(108,vb (((gl o p.toNat).year_)==b)),(109,vb false),(117,vb false),(118,vb false),(119,vb false)] [(12,AO o)] (cA (ALe.bool P) (cA O (cA (toNat_lt O) (cA (ALe.bool U) (cA V (cA (toNat_lt V) (cT (ALe.bool b0)))))))) ?_
               exact Kn.R Fm (T false h)
            ·refine AW.pN Fm [.s,.s,.s,.s,.w (vb false),.s,.s,.s,.s,.s,.s,.s,.s,.s,.s,.s,.s,.s,.s,.s,.s,.s,.s,.s,.s,.s,.s,.s,.s,.s,.s] [(1,vi b),(2,vi e),(11,AL A),(12,ow 12),(15,vi p),(119,vb false)] [(12,AO o)] (cT (ALe.bool P)) ?_
             exact Kn.R Fm (T false h)
         ·exact AW.skip (Kn.RE Fm [(137,12)] (l0 o h))
       ·refine AW.SG0 Fm 3 [(1,vi b),(2,vi e),(7,pt 7),(11,AL q.rects_),(12,ow 12),(43,AL a),(44,vi (lI a)),(45,vi 0)] [(7,bx [.d (DL q.rects_)]),(12,AO (α:=Record) ([]:List Record))] ?_
        refine AW.block (Kn.r Fm [(1,vi b),(2,vi e),(7,pt 7),(11,AL q.rects_),(12,ow 12),(43,AL a),(44,vi (lI a)),(45,vi 0)] [(7,bx [.d (DL q.rects_)]),(12,AO ([]:List Record))] (by kernel_rfl) ?_)
        refine AW.loopF (E' := fun z=>[(1,vi b),(2,vi e),(7,pt 7),(11,AL z.1),(12,ow 12),(43,AL a),(44,vi (lI a)),(45,vi z.2.1)]) (S' := fun z=>[(7,bx [.d (DL q.rects_)]),(12,AO z.2.2)]) (fun W z p1 w0 h=>?_) h
        obtain ⟨H,i,E⟩:=z
        refine AW.SG0 Fm 1 [(1,vi b),(2,vi e),(7,pt 7),(11,AL H),(12,ow 12),(43,AL a),(44,vi (lI a)),(45,vi i),(46,vb (decide (i<(lI a))))] [(7,bx [.d (DL q.rects_)]),(12,AO E)] ?_
        refine AW.seq (AW.cN h (fun L0 h=>?_) (fun L0 h=>?_))
        ·refine AW.skip (AW.join (r:=r) (fun z:(List Rect)×(List Record)=>ref15_Add_k5 F i W z.1 z.2) (fun z=>[(1,vi b),(2,vi e),(7,pt 7),(11,AL z.1),(12,ow 12),(43,AL a),(44,vi (lI a)),(45,vi i)]) (fun z=>[(7,bx [.d (DL q.rects_)]),(12,AO z.2)]) (fun z h=>?_) (fun t1 X=>?_))
         ·obtain ⟨q0,s0⟩:=z
          obtain ⟨Y0,h⟩:=gS h
          refine AW.pN Fm [.s,.s] [(1,vi b),(2,vi e),(7,pt 7),(11,AL q0),(12,ow 12),(43,AL a),(44,vi (lI a)),(45,vi (i+1))] [(7,bx [.d (DL q.rects_)]),(12,AO s0)] (cT (cT Y0)) ?_
          exact Kn.R Fm (w0 (q0,(i+1),s0) h)
         ·refine AW.block ?_
          obtain ⟨W0,h⟩:=gS h
          refine AW.SP Fm [.s,.s,.s,.s] [(1,vi b),(2,vi e),(7,pt 7),(11,AL H),(12,ow 12),(14,pt 14),(43,AL a),(44,vi (lI a)),(45,vi i)] [(7,bx [.d (DL q.rects_)]),(12,AO E),(14,bx [ci ((gl a i.toNat).year_),ci ((gl a i.toNat).crop_),.d (DL (α:=Rect) (gl a i.toNat).region_.rects_)])] (cT W0) ?_
          refine AW.seq (AW.join (r:=r) (fun z:Bool=>ref15_Add_k3 F a b q H i E W z) (fun z=>[(1,vi b),(2,vi e),(7,pt 7),(11,AL H),(12,ow 12),(14,pt 14),(43,AL a),(44,vi (lI a)),(45,vi i),(58,vb z)]) (fun z=>[(7,bx [.d (DL q.rects_)]),(12,AO E),(14,bx [ci ((gl a i.toNat).year_),ci ((gl a i.toNat).crop_),.d (DL (α:=Rect) (gl a i.toNat).region_.rects_)])]) (fun K1 h=>?_) (fun q1 j0=>?_))
          ·refine AW.cN h (fun M0 h=>?_) (fun M0 h=>?_)
           ·refine AW.seq ?_
            obtain ⟨c0,l1,h⟩:=bS h
            refine AW.G Fm [.s,.s,.s,.s,.k (cE [] [] (AL c0) [] []),.s] (fun K=>K 4∧True) [(1,vi b),(2,vi e),(7,pt 7),(11,AL c0),(12,ow 12),(43,AL a),(44,vi (lI a)),(45,vi i)] [(7,bx [.d (DL q.rects_)]),(12,AO E)] ⟨KAt.CC (ref04_Combine_spec l1) Tryz.call112 [],⟨⟩⟩ ?_
            exact AW.exit (Kn.R Fm (X (c0,E) h))
           ·refine AW.skip (AW.join (r:=r) (fun z:(List Rect)=>ref15_Add_k4 F a H i E W z) (fun z=>[(1,vi b),(2,vi e),(7,pt 7),(11,AL H),(12,ow 12),(14,pt 14),(43,AL a),(44,vi (lI a)),(45,vi i)]) (fun z=>[(7,bx [.d (DL q.rects_)]),(12,AO E),(14,bx [ci ((gl a i.toNat).year_),ci ((gl a i.toNat).crop_),.d (DL z)])]) (fun I h=>?_) (fun s1 k0=>?_))
            ·refine AW.SG0 Fm 5 [(1,vi b),(2,vi e),(7,pt 7),(11,AL H),(12,ow 12),(14,pt 14),(43,AL a),(44,vi (lI a)),(45,vi i),(80,vb (decide ((0:Int)<(lI I))))] [(7,bx [.d (DL q.rects_)]),(12,AO E),(14,bx [ci ((gl a i.toNat).year_),ci ((gl a i.toNat).crop_),.d (DL I)])] ?_
             refine AW.cN h (fun O0 h=>?_) (fun O0 h=>?_)
             ·obtain ⟨X0,h⟩:=gS h
              refine AW.WP Fm [.s,.s,.w (AL (α:=Record) ([(⟨(gl a i.toNat).year_,(gl a i.toNat).crop_,(⟨I⟩ : Region)⟩ : Record)]:List Record)),.s,.s] [(1,vi b),(2,vi e),(7,pt 7),(11,AL H),(12,ow 84),(43,AL a),(44,vi (lI a)),(45,vi i)] [(7,bx [.d (DL q.rects_)]),(84,AO (α:=Record) (E++([(⟨(gl a i.toNat).year_,(gl a i.toNat).crop_,(⟨I⟩ : Region)⟩ : Record)]:List Record)))] (cA (ALe.lst (.lit ([(⟨(gl a i.toNat).year_,(gl a i.toNat).crop_,(⟨I⟩ : Region)⟩ : Record)]:List Record) (by kernel_rfl)):ALe (.v (.c (.d (.lst 1 (litF 3 [.int .i64 (gl a i.toNat).year_,.int .i64 (gl a i.toNat).crop_,DL I]))))) (AL (α:=Record) ([(⟨(gl a i.toNat).year_,(gl a i.toNat).crop_,(⟨I⟩ : Region)⟩ : Record)]:List Record))) (cT (cA X0 (cT (Is.refl ([(⟨(gl a i.toNat).year_,(gl a i.toNat).crop_,(⟨I⟩ : Region)⟩ : Record)]:List Record):Is (List.length (α:=Record) ([(⟨(gl a i.toNat).year_,(gl a i.toNat).crop_,(⟨I⟩ : Region)⟩ : Record)]:List Record)) (LF (α:=Record) ([(⟨(gl a i.toNat).year_,(gl a i.toNat).crop_,(⟨I⟩ : Region)⟩ : Record)]:List Record)) ([(⟨(gl a i.toNat).year_,(gl a i.toNat).crop_,(⟨I⟩ : Region)⟩ : Record)]:List Record)).len)))) [(84,.arr 3 ((List.length (α:=Record) E)+(List.length (α:=Record) ([(⟨(gl a i.toNat).year_,(gl a i.toNat).crop_,(⟨I⟩ : Region)⟩ : Record)]:List Record))) (appF (List.length (α:=Record) E) (LF (α:=Record) E) (LF (α:=Record) ([(⟨(gl a i.toNat).year_,(gl a i.toNat).crop_,(⟨I⟩ : Region)⟩ : Record)]:List Record))))] ⟨OLe.is (Is.app (Is.refl E) (Is.refl ([(⟨(gl a i.toNat).year_,(gl a i.toNat).crop_,(⟨I⟩ : Region)⟩ : Record)]:List Record))),⟨⟩⟩ ?_
              exact Kn.RE Fm [(12,84)] (X (H,(E++([(⟨(gl a i.toNat).year_,(gl a i.toNat).crop_,(⟨I⟩ : Region)⟩ : Record)]:List Record))) h)
             ·exact AW.skip (Kn.R Fm (X (H,E) h))
            ·refine AW.SG0 Fm 4 [(1,vi b),(2,vi e),(7,pt 7),(11,AL H),(12,ow 12),(14,pt 14),(43,AL a),(44,vi (lI a)),(45,vi i),(67,vb (((gl a i.toNat).year_)==b))] [(7,bx [.d (DL q.rects_)]),(12,AO E),(14,bx [ci ((gl a i.toNat).year_),ci ((gl a i.toNat).crop_),.d (DL (α:=Rect) (gl a i.toNat).region_.rects_)])] ?_
             refine AW.cN h (fun N0 h=>?_) (fun N0 h=>?_)
             ·obtain ⟨d0,m1,h⟩:=bS h
              refine AW.G Fm [.s,.s,.s,.s,.s,.k (cE [] [] (AL d0) [] []),.s,.s,.s] (fun K=>K 5∧True) [(1,vi b),(2,vi e),(7,pt 7),(11,AL H),(12,ow 12),(14,pt 14),(43,AL a),(44,vi (lI a)),(45,vi i)] [(7,bx [.d (DL q.rects_)]),(12,AO E),(14,bx [ci ((gl a i.toNat).year_),ci ((gl a i.toNat).crop_),.d (DL d0)])] ⟨KAt.CC (ref04_Combine_spec m1) Tryz.call112 [],⟨⟩⟩ ?_
              exact Kn.R Fm (k0 d0 h)
             ·exact AW.skip (Kn.R Fm (k0 ((gl a i.toNat).region_.rects_) h))
          ·rcases br_or h with ⟨a0,h⟩|⟨a0,h⟩
           ·refine AW.pN Fm [.s,.s,.s,.s,.w (vb true),.s,.s,.s,.s,.s] [(1,vi b),(2,vi e),(7,pt 7),(11,AL H),(12,ow 12),(14,pt 14),(43,AL a),(44,vi (lI a)),(45,vi i),(54,.v (.c (.ptr 14 1))),(55,vi (gl a i.toNat).crop_),(56,vi e),(57,vb (((gl a i.toNat).crop_)==e)),(58,vb (((gl a i.toNat).crop_)==e))] [(7,bx [.d (DL q.rects_)]),(12,AO E),(14,bx [ci ((gl a i.toNat).year_),ci ((gl a i.toNat).crop_),.d (DL (α:=Rect) (gl a i.toNat).region_.rects_)])] (cT (ALe.bool a0)) ?_
            exact Kn.R Fm (j0 (((gl a i.toNat).crop_)==e) h)
           ·refine AW.pN Fm [.s,.s,.s,.s,.w (vb false),.s,.s,.s,.s,.s] [(1,vi b),(2,vi e),(7,pt 7),(11,AL H),(12,ow 12),(14,pt 14),(43,AL a),(44,vi (lI a)),(45,vi i),(58,vb false)] [(7,bx [.d (DL q.rects_)]),(12,AO E),(14,bx [ci ((gl a i.toNat).year_),ci ((gl a i.toNat).crop_),.d (DL (α:=Rect) (gl a i.toNat).region_.rects_)])] (cT (ALe.bool a0)) ?_
            exact Kn.R Fm (j0 false h)
        ·exact AW.exit (Kn.R Fm (y0 (H,E) h))
    ·rcases br_or h with ⟨Z,h⟩|⟨Z,h⟩
     ·refine AW.pN Fm [.s,.s,.w (vb true),.s,.s,.s,.s] [(0,AL a),(1,vi b),(2,vi e),(7,pt 7),(30,vb true)] [(7,bx [.d (DL q.rects_)])] (cT (ALe.bool Z)) ?_
      exact Kn.R Fm (i0 true h)
     ·refine AW.pN Fm [.s,.s,.w (vb false),.s,.s,.s,.s] [(0,AL a),(1,vi b),(2,vi e),(7,pt 7),(30,vb (decide ((40:Int)≤e)))] [(7,bx [.d (DL q.rects_)])] (cT (ALe.bool Z)) ?_
      exact Kn.R Fm (i0 (decide ((40:Int)≤e)) h)
  ·rcases br_or h with ⟨Y,h⟩|⟨Y,h⟩
   ·refine AW.pN Fm [.s,.s,.w (vb true),.s,.s,.s,.s] [(0,AL a),(1,vi b),(2,vi e),(7,pt 7),(23,vb true)] [(7,bx [.d (DL q.rects_)])] (cT (ALe.bool Y)) ?_
    exact Kn.R Fm (e0 true h)
   ·refine AW.pN Fm [.s,.s,.w (vb false),.s,.s,.s,.s] [(0,AL a),(1,vi b),(2,vi e),(7,pt 7),(23,vb (decide ((100:Int)<b)))] [(7,bx [.d (DL q.rects_)])] (cT (ALe.bool Y)) ?_
    exact Kn.R Fm (e0 (decide ((100:Int)<b)) h)
theorem keep_Tape_One_spec {F:Nat} {a:Tape} {b:Int} {r:Tape×Bool} (h:keep_Tape_One F a b=some r) :
  FSpec Tryz.prog 24 [pt 0,vi b] [(0,bx (gC a))] (vb r.2) [(0,bx (gC r.1))]:=by
 refine FI Tryz.func24 prog_mixed prog_lay fun C Fm=>?_
 unfold keep_Tape_One at h
 refine AW.SG0 Fm 1 [(0,pt 0),(1,vi b)] [(0,bx (gC a))] ?_
 refine AW.seq ?_
 obtain ⟨c,e,h⟩:=bS h
 obtain ⟨d,h⟩:=gS h
 refine AW.G Fm [.s,.s,.k (cE [(0,0)] [] (vi c.2) [(0,bx (gC a))] [(0,bx (gC c.1))]),.s,.s,.s,.s] (fun K=>K 2∧(_∧True)∧True) [(4,vb (c.2==(b-1)))] [(0,bx (gC c.1))] ⟨KAt.CC (keep_Tape_Next_spec e) Tryz.call15 [(0,0)],⟨d,⟨⟩⟩,⟨⟩⟩ ?_
 refine AW.ret ?_
 obtain rfl:=Option.some.inj h
 exact Kn.D Fm
theorem keep_Tape_Broken_spec {F:Nat} {p:Tape} {L:Int} {M:Int} {r:Tape×Region} (h:keep_Tape_Broken F p L M=some r) :
  FSpec Tryz.prog 26 [pt 0,vi L,vi M] [(0,bx (gC p))] (.v (.g [.d (DL (α:=Rect) r.2.rects_)])) [(0,bx (gC r.1))]:=by
 refine FI Tryz.func26 prog_mixed prog_lay fun C Fm=>?_
 unfold keep_Tape_Broken at h
 refine AW.SG0 Fm 1 [(0,pt 0),(1,vi L),(2,vi M),(6,pt 6)] [(0,bx (gC p)),(6,bx [.fl 0 fun _=>[]])] ?_
 refine AW.seq ?_
 obtain ⟨a,e0,h⟩:=bS h
 refine AW.G Fm [.s,.s,.s,.k (cE [(0,0)] [] (.v (.g [.d (DL a.2.rects_)])) [(0,bx (gC p))] [(0,bx (gC a.1))]),.s,.s] (fun K=>K 3∧True) [(0,pt 0),(6,pt 6),(7,pt 7)] [(0,bx (gC a.1)),(6,bx [.fl 0 fun _=>[]]),(7,bx [.d (DL a.2.rects_)])] ⟨KAt.CC (keep_Tape_Region_spec e0) Tryz.call16 [(0,0)],⟨⟩⟩ ?_
 refine AW.seq (AW.join (r:=r) (fun z:Bool×(List Int)×Int=>keep_Tape_Broken_k0 F a z.1 z.2.1 z.2.2) (fun z=>[(0,pt 0),(6,pt 6),(7,pt 7),(22,vb z.1)]) (fun z=>[(0,bx [.d (DL z.2.1),ci z.2.2]),(6,bx [.fl 0 fun _=>[]]),(7,bx [.d (DL a.2.rects_)])]) (fun z h=>?_) (fun l0 N=>?_))
 ·obtain ⟨n0,n,o⟩:=z
  refine AW.cN h (fun W h=>?_) (fun W h=>?_)
  ·refine AW.SG0 Fm 2 [(6,pt 6)] [(0,bx [.d (DL n),ci o]),(6,bx [.d (DL a.2.rects_)])] ?_
   refine AW.ret ?_
   obtain rfl:=Option.some.inj h
   exact Kn.D Fm
  ·refine AW.skip ?_
   obtain ⟨b0,h⟩:=gS h
   refine AW.SV Fm [.m,.s,.s,.s,.s] [(0,pt 0),(6,pt 6),(8,ow 27)] [(0,bx [.d (DL n),ci o]),(6,bx [.fl 0 fun _=>[]]),(27,AO (α:=Rect) (([]:List Rect)++a.2.rects_))] (cT (cA b0 (cT (Is.refl a.2.rects_:Is (List.length (α:=Rect) a.2.rects_) (LF (α:=Rect) a.2.rects_) a.2.rects_).len))) [(27,.arr 4 ((0)+(List.length (α:=Rect) a.2.rects_)) (appF (0) (litF 4 []) (LF (α:=Rect) a.2.rects_)))] ⟨OLe.is (Is.app (Is.lit ([]:List Rect) (by kernel_rfl)) (Is.refl a.2.rects_)),⟨⟩⟩ ?_
   refine AW.seq ?_
   obtain ⟨b,j0,h⟩:=bS h
   refine AW.G Fm [.s,.s,.s,.k (cE [(0,0)] [] (vi b.2) [(0,bx [.d (DL (α:=Int) (⟨n,o⟩ : Tape).l_),ci ((⟨n,o⟩ : Tape).at_)])] [(0,bx (gC b.1))]),.s] (fun K=>K 3∧True) [(0,pt 0),(6,pt 6),(8,ow 27),(9,vi b.2)] [(0,bx (gC b.1)),(6,bx [.fl 0 fun _=>[]]),(27,AO (α:=Rect) (([]:List Rect)++a.2.rects_))] ⟨KAt.CC (keep_Tape_Next_spec j0) Tryz.call15 [(0,0)],⟨⟩⟩ ?_
   refine AW.join (r:=r) (fun z:(List Rect)×(List Int)×Int=>keep_Tape_Broken_k1 F z.1 z.2.1 z.2.2) (fun z=>[(6,pt 6),(8,ow 27)]) (fun z=>[(0,bx [.d (DL z.2.1),ci z.2.2]),(6,bx [.fl 0 fun _=>[]]),(27,AO z.1)]) (fun z h=>?_) (fun m0 l=>?_)
   ·obtain ⟨E,H,I⟩:=z
    refine AW.SG0 Fm 3 [(6,pt 6)] [(0,bx [.d (DL H),ci I]),(6,bx [.own 27]),(27,AO E)] ?_
    refine AW.ret ?_
    obtain rfl:=Option.some.inj h
    refine Kn.r Fm [(6,pt 6)] [(27,AO E),(0,bx [.d (DL H),ci I]),(6,bx [.own 27])] (by kernel_rfl) ?_
    refine Kn.frz [(6,pt 6)] [(0,bx [.d (DL H),ci I]),(6,bx [.d (DL E)])] (by kernel_rfl) (by kernel_rfl) (by kernel_rfl) ?_
    exact Kn.D Fm
   ·refine AW.seq ?_
    obtain ⟨e,k0,h⟩:=bS h
    refine AW.G Fm [.s,.k (cE [(0,0)] [] (vi e.2) [(0,bx (gC b.1))] [(0,bx (gC e.1))])] (fun K=>K 1∧True) [(6,pt 6),(8,ow 27),(9,vi b.2),(33,vi e.2)] [(0,bx (gC e.1)),(6,bx [.fl 0 fun _=>[]]),(27,AO (α:=Rect) (([]:List Rect)++a.2.rects_))] ⟨KAt.CC (keep_Tape_Next_spec k0) Tryz.call15 [(0,0)],⟨⟩⟩ ?_
    refine AW.block (AW.SG0 Fm 2 [(6,pt 6),(8,ow 27),(9,vi b.2),(33,vi e.2),(43,vb (e.2==(0:Int)))] [(0,bx (gC e.1)),(6,bx [.fl 0 fun _=>[]]),(27,AO (α:=Rect) (([]:List Rect)++a.2.rects_))] ?_)
    refine AW.cN h (fun X h=>?_) (fun X h=>?_)
    ·obtain ⟨O,c0,t,h⟩:=gS3 h
     refine AW.WP Fm [.s,.s,.s,.s,.s,.s,.s,.s,.s] [(6,pt 6),(8,ow 27)] [(0,bx (gC e.1)),(6,bx [.fl 0 fun _=>[]]),(27,AO (α:=Rect) (List.set (([]:List Rect)++a.2.rects_) b.2.toNat (⟨(gl (([]:List Rect)++a.2.rects_) b.2.toNat).left_,(gl (([]:List Rect)++a.2.rects_) b.2.toNat).low_,(((gl (([]:List Rect)++a.2.rects_) b.2.toNat).right_)+1),(gl (([]:List Rect)++a.2.rects_) b.2.toNat).high_⟩ : Rect)))] (cA O (cA (toNat_lt O) (cA (cT c0) (cA t (cT (toNat_lt t)))))) [(27,.arr 4 (List.length (α:=Rect) (([]:List Rect)++a.2.rects_)) (fun j=>if j=b.2.toNat then splice ((LF (α:=Rect) (([]:List Rect)++a.2.rects_)) b.2.toNat) 2 [.int .i64 (((gl (([]:List Rect)++a.2.rects_) b.2.toNat).right_)+1)] else (LF (α:=Rect) (([]:List Rect)++a.2.rects_)) j))] ⟨OLe.is (Is.set (Is.refl (([]:List Rect)++a.2.rects_)) (toNat_lt t) (⟨(gl (([]:List Rect)++a.2.rects_) b.2.toNat).left_,(gl (([]:List Rect)++a.2.rects_) b.2.toNat).low_,(((gl (([]:List Rect)++a.2.rects_) b.2.toNat).right_)+1),(gl (([]:List Rect)++a.2.rects_) b.2.toNat).high_⟩ : Rect) (by kernel_rfl)),⟨⟩⟩ ?_
     exact Kn.R Fm (l ((List.set (([]:List Rect)++a.2.rects_) b.2.toNat (⟨(gl (([]:List Rect)++a.2.rects_) b.2.toNat).left_,(gl (([]:List Rect)++a.2.rects_) b.2.toNat).low_,(((gl (([]:List Rect)++a.2.rects_) b.2.toNat).right_)+1),(gl (([]:List Rect)++a.2.rects_) b.2.toNat).high_⟩ : Rect)),e.1.l_,e.1.at_) h)
    ·refine AW.SG0 Fm 2 [(6,pt 6),(8,ow 27),(9,vi b.2),(33,vi e.2),(53,vb (e.2==(1:Int)))] [(0,bx (gC e.1)),(6,bx [.fl 0 fun _=>[]]),(27,AO (α:=Rect) (([]:List Rect)++a.2.rects_))] ?_
     refine AW.cN h (fun Y h=>?_) (fun Y h=>?_)
     ·obtain ⟨u,h⟩:=gS h
      refine AW.WP Fm [.s,.s,.s,.s,.s] [(6,pt 6),(8,ow 27)] [(0,bx (gC e.1)),(6,bx [.fl 0 fun _=>[]]),(27,AO (α:=Rect) (List.set (([]:List Rect)++a.2.rects_) b.2.toNat (⟨(-1:Int),(gl (([]:List Rect)++a.2.rects_) b.2.toNat).low_,(gl (([]:List Rect)++a.2.rects_) b.2.toNat).right_,(gl (([]:List Rect)++a.2.rects_) b.2.toNat).high_⟩ : Rect)))] (cA u (cT (toNat_lt u))) [(27,.arr 4 (List.length (α:=Rect) (([]:List Rect)++a.2.rects_)) (fun j=>if j=b.2.toNat then splice ((LF (α:=Rect) (([]:List Rect)++a.2.rects_)) b.2.toNat) 0 [.int .i64 (-1:Int)] else (LF (α:=Rect) (([]:List Rect)++a.2.rects_)) j))] ⟨OLe.is (Is.set (Is.refl (([]:List Rect)++a.2.rects_)) (toNat_lt u) (⟨(-1:Int),(gl (([]:List Rect)++a.2.rects_) b.2.toNat).low_,(gl (([]:List Rect)++a.2.rects_) b.2.toNat).right_,(gl (([]:List Rect)++a.2.rects_) b.2.toNat).high_⟩ : Rect) (by kernel_rfl)),⟨⟩⟩ ?_
      exact Kn.R Fm (l ((List.set (([]:List Rect)++a.2.rects_) b.2.toNat (⟨(-1:Int),(gl (([]:List Rect)++a.2.rects_) b.2.toNat).low_,(gl (([]:List Rect)++a.2.rects_) b.2.toNat).right_,(gl (([]:List Rect)++a.2.rects_) b.2.toNat).high_⟩ : Rect)),e.1.l_,e.1.at_) h)
     ·refine AW.SG0 Fm 2 [(6,pt 6),(8,ow 27),(9,vi b.2),(33,vi e.2),(59,vb (e.2==(2:Int)))] [(0,bx (gC e.1)),(6,bx [.fl 0 fun _=>[]]),(27,AO (α:=Rect) (([]:List Rect)++a.2.rects_))] ?_
      refine AW.cN h (fun Z h=>?_) (fun Z h=>?_)
      ·obtain ⟨P,d0,h⟩:=gS2 h
       refine AW.WP Fm [.s,.s,.s,.s,.s,.w (AL (α:=Rect) ([(gl (([]:List Rect)++a.2.rects_) b.2.toNat)]:List Rect)),.s,.s] [(6,pt 6),(8,ow 67)] [(0,bx (gC e.1)),(6,bx [.fl 0 fun _=>[]]),(67,AO (α:=Rect) ((([]:List Rect)++a.2.rects_)++([(gl (([]:List Rect)++a.2.rects_) b.2.toNat)]:List Rect)))] (cA P (cA (toNat_lt P) (cA (ALe.lst (.lit ([(gl (([]:List Rect)++a.2.rects_) b.2.toNat)]:List Rect) (by kernel_rfl)):ALe (.v (.c (.d (.lst 1 (litF 4 [.int .i64 (gl (([]:List Rect)++a.2.rects_) b.2.toNat).left_,.int .i64 (gl (([]:List Rect)++a.2.rects_) b.2.toNat).low_,.int .i64 (gl (([]:List Rect)++a.2.rects_) b.2.toNat).right_,.int .i64 (gl (([]:List Rect)++a.2.rects_) b.2.toNat).high_]))))) (AL (α:=Rect) ([(gl (([]:List Rect)++a.2.rects_) b.2.toNat)]:List Rect))) (cT (cA d0 (cT (Is.refl ([(gl (([]:List Rect)++a.2.rects_) b.2.toNat)]:List Rect):Is (List.length (α:=Rect) ([(gl (([]:List Rect)++a.2.rects_) b.2.toNat)]:List Rect)) (LF (α:=Rect) ([(gl (([]:List Rect)++a.2.rects_) b.2.toNat)]:List Rect)) ([(gl (([]:List Rect)++a.2.rects_) b.2.toNat)]:List Rect)).len)))))) [(67,.arr 4 ((List.length (α:=Rect) (([]:List Rect)++a.2.rects_))+(List.length (α:=Rect) ([(gl (([]:List Rect)++a.2.rects_) b.2.toNat)]:List Rect))) (appF (List.length (α:=Rect) (([]:List Rect)++a.2.rects_)) (LF (α:=Rect) (([]:List Rect)++a.2.rects_)) (LF (α:=Rect) ([(gl (([]:List Rect)++a.2.rects_) b.2.toNat)]:List Rect))))] ⟨OLe.is (Is.app (Is.refl (([]:List Rect)++a.2.rects_)) (Is.refl ([(gl (([]:List Rect)++a.2.rects_) b.2.toNat)]:List Rect))),⟨⟩⟩ ?_
       exact Kn.RE Fm [(27,67)] (l (((([]:List Rect)++a.2.rects_)++([(gl (([]:List Rect)++a.2.rects_) b.2.toNat)]:List Rect)),e.1.l_,e.1.at_) h)
      ·refine AW.SG0 Fm 2 [(6,pt 6),(8,ow 27),(9,vi b.2),(68,vb (e.2==(3:Int)))] [(0,bx (gC e.1)),(6,bx [.fl 0 fun _=>[]]),(27,AO (α:=Rect) (([]:List Rect)++a.2.rects_))] ?_
       refine AW.cN h (fun a0 h=>?_) (fun a0 h=>?_)
       ·obtain ⟨T,U,y,A,h⟩:=gS4 h
        refine AW.GW Fm [.s,.s,.s,.s,.s,.s,.s,.s,.s,.s,.s,.k (rE { v:=.any,upd:=some (27,AO (α:=Rect) (List.set (([]:List Rect)++a.2.rects_) (0:Int).toNat (gl (([]:List Rect)++a.2.rects_) b.2.toNat))) }),.s,.s] (fun K=>_∧_∧_∧_∧_∧K 11∧_∧_∧True) [(6,pt 6),(8,ow 27)] [(0,bx (gC e.1)),(6,bx [.fl 0 fun _=>[]]),(27,AO (α:=Rect) (List.set (List.set (([]:List Rect)++a.2.rects_) (0:Int).toNat (gl (([]:List Rect)++a.2.rects_) b.2.toNat)) b.2.toNat (gl (([]:List Rect)++a.2.rects_) (0:Int).toNat)))] ⟨T,(toNat_lt T),U,(toNat_lt U),y,KAt.upd prog_lay (ob:=.arr 4 (List.length (α:=Rect) (([]:List Rect)++a.2.rects_)) (fun j=>if j=(0:Int).toNat then splice ((LF (α:=Rect) (([]:List Rect)++a.2.rects_)) (0:Int).toNat) 0 [.int .i64 (gl (([]:List Rect)++a.2.rects_) b.2.toNat).left_,.int .i64 (gl (([]:List Rect)++a.2.rects_) b.2.toNat).low_,.int .i64 (gl (([]:List Rect)++a.2.rects_) b.2.toNat).right_,.int .i64 (gl (([]:List Rect)++a.2.rects_) b.2.toNat).high_] else (LF (α:=Rect) (([]:List Rect)++a.2.rects_)) j)) (c:=(0:Int).toNat<List.length (([]:List Rect)++a.2.rects_)) rfl (by kernel_rfl) (by kernel_rfl) (toNat_lt y) (OLe.is (Is.set (Is.refl (([]:List Rect)++a.2.rects_)) (toNat_lt y) (gl (([]:List Rect)++a.2.rects_) b.2.toNat) (by kernel_rfl))),A,(toNat_lt A),⟨⟩⟩ [(27,.arr 4 (List.length (α:=Rect) (List.set (([]:List Rect)++a.2.rects_) (0:Int).toNat (gl (([]:List Rect)++a.2.rects_) b.2.toNat))) (fun j=>if j=b.2.toNat then splice ((LF (α:=Rect) (List.set (([]:List Rect)++a.2.rects_) (0:Int).toNat (gl (([]:List Rect)++a.2.rects_) b.2.toNat))) b.2.toNat) 0 [.int .i64 (gl (([]:List Rect)++a.2.rects_) (0:Int).toNat).left_,.int .i64 (gl (([]:List Rect)++a.2.rects_) (0:Int).toNat).low_,.int .i64 (gl (([]:List Rect)++a.2.rects_) (0:Int).toNat).right_,.int .i64 (gl (([]:List Rect)++a.2.rects_) (0:Int).toNat).high_] else (LF (α:=Rect) (List.set (([]:List Rect)++a.2.rects_) (0:Int).toNat (gl (([]:List Rect)++a.2.rects_) b.2.toNat))) j))] ⟨OLe.is (Is.set (Is.refl (List.set (([]:List Rect)++a.2.rects_) (0:Int).toNat (gl (([]:List Rect)++a.2.rects_) b.2.toNat))) (toNat_lt A) (gl (([]:List Rect)++a.2.rects_) (0:Int).toNat) (by kernel_rfl)),⟨⟩⟩ ?_
        exact Kn.R Fm (l ((List.set (List.set (([]:List Rect)++a.2.rects_) (0:Int).toNat (gl (([]:List Rect)++a.2.rects_) b.2.toNat)) b.2.toNat (gl (([]:List Rect)++a.2.rects_) (0:Int).toNat)),e.1.l_,e.1.at_) h)
       ·obtain ⟨V,B,h⟩:=gS2 h
        refine AW.WP Fm [.s,.s,.s,.s,.s,.s,.s,.s,.s,.s] [(6,pt 6),(8,ow 27)] [(0,bx (gC e.1)),(6,bx [.fl 0 fun _=>[]]),(27,AO (α:=Rect) (List.set (([]:List Rect)++a.2.rects_) b.2.toNat (⟨(gl (([]:List Rect)++a.2.rects_) b.2.toNat).left_,(gl (([]:List Rect)++a.2.rects_) b.2.toNat).low_,(gl (([]:List Rect)++a.2.rects_) b.2.toNat).right_,(gl (([]:List Rect)++a.2.rects_) b.2.toNat).low_⟩ : Rect)))] (cA V (cA (toNat_lt V) (cA B (cT (toNat_lt B))))) [(27,.arr 4 (List.length (α:=Rect) (([]:List Rect)++a.2.rects_)) (fun j=>if j=b.2.toNat then splice ((LF (α:=Rect) (([]:List Rect)++a.2.rects_)) b.2.toNat) 3 [.int .i64 (gl (([]:List Rect)++a.2.rects_) b.2.toNat).low_] else (LF (α:=Rect) (([]:List Rect)++a.2.rects_)) j))] ⟨OLe.is (Is.set (Is.refl (([]:List Rect)++a.2.rects_)) (toNat_lt B) (⟨(gl (([]:List Rect)++a.2.rects_) b.2.toNat).left_,(gl (([]:List Rect)++a.2.rects_) b.2.toNat).low_,(gl (([]:List Rect)++a.2.rects_) b.2.toNat).right_,(gl (([]:List Rect)++a.2.rects_) b.2.toNat).low_⟩ : Rect) (by kernel_rfl)),⟨⟩⟩ ?_
        exact Kn.R Fm (l ((List.set (([]:List Rect)++a.2.rects_) b.2.toNat (⟨(gl (([]:List Rect)++a.2.rects_) b.2.toNat).left_,(gl (([]:List Rect)++a.2.rects_) b.2.toNat).low_,(gl (([]:List Rect)++a.2.rects_) b.2.toNat).right_,(gl (([]:List Rect)++a.2.rects_) b.2.toNat).low_⟩ : Rect)),e.1.l_,e.1.at_) h)
 ·rcases br_or h with ⟨q,h⟩|⟨q,h⟩
  ·refine AW.pN Fm [.s,.s,.s,.s,.w (vb true),.s,.s,.s,.s] [(0,pt 0),(6,pt 6),(7,pt 7),(22,vb true)] [(0,bx (gC a.1)),(6,bx [.fl 0 fun _=>[]]),(7,bx [.d (DL a.2.rects_)])] (cT (ALe.bool q)) ?_
   exact Kn.R Fm (N (true,a.1.l_,a.1.at_) h)
  ·obtain ⟨i,i0,h⟩:=bS h
   refine AW.G Fm [.s,.s,.s,.s,.w (vb false),.s,.k (cE [(0,0)] [] (vb i.2) [(0,bx (gC a.1))] [(0,bx (gC i.1))]),.s,.s] (fun K=>_∧K 6∧True) [(0,pt 0),(6,pt 6),(7,pt 7),(22,vb (!i.2))] [(0,bx (gC i.1)),(6,bx [.fl 0 fun _=>[]]),(7,bx [.d (DL a.2.rects_)])] ⟨ALe.bool q,KAt.CC (keep_Tape_One_spec i0) Tryz.call24 [(0,0)],⟨⟩⟩ ?_
   exact Kn.R Fm (N ((!i.2),i.1.l_,i.1.at_) h)
theorem law15_spoilt_spec {F:Nat} {l:Tape} {a:(List Record)} {i:Int} {r:Tape×(List Record)} (h:law15_spoilt F l a i=some r) :
  FSpec Tryz.prog 23 [pt 0,AL a,vi i] [(0,bx (gC l))] (AL (α:=Record) r.2) [(0,bx (gC r.1))]:=by
 refine FI Tryz.func23 prog_mixed prog_lay fun C Fm=>?_
 unfold law15_spoilt at h
 refine AW.SG0 Fm 1 [(0,pt 0),(1,AL a),(2,vi i)] [(0,bx (gC l))] ?_
 obtain ⟨O,h⟩:=gS h
 refine AW.SV Fm [.m,.s,.s,.s] [(0,pt 0),(2,vi i),(7,ow 11)] [(0,bx (gC l)),(11,AO (α:=Record) (([]:List Record)++a))] (cT (cA O (cT (Is.refl a:Is (List.length (α:=Record) a) (LF (α:=Record) a) a).len))) [(11,.arr 3 ((0)+(List.length (α:=Record) a)) (appF (0) (litF 3 []) (LF (α:=Record) a)))] ⟨OLe.is (Is.app (Is.lit ([]:List Record) (by kernel_rfl)) (Is.refl a)),⟨⟩⟩ ?_
 refine AW.seq (AW.SG0 Fm 3 [(0,pt 0),(2,vi i),(7,ow 11),(14,vb (((List.length (([]:List Record)++a):Nat):Int)==(0:Int)))] [(0,bx (gC l)),(11,AO (α:=Record) (([]:List Record)++a))] ?_)
 refine AW.cN h (fun H h=>?_) (fun H h=>?_)
 ·refine AW.SG0 Fm 2 [(6,ow 11)] [(0,bx (gC l)),(11,AO (α:=Record) (([]:List Record)++a))] ?_
  refine AW.ret ?_
  obtain rfl:=Option.some.inj h
  refine Kn.r Fm [(6,ow 11)] [(11,AO (α:=Record) (([]:List Record)++a)),(0,bx (gC l))] (by kernel_rfl) ?_
  refine Kn.frz [(6,AL (α:=Record) (([]:List Record)++a))] [(0,bx (gC l))] (by kernel_rfl) (by kernel_rfl) (by kernel_rfl) ?_
  exact Kn.D Fm
 ·refine AW.skip (AW.seq ?_)
  obtain ⟨b,U,h⟩:=bS h
  refine AW.G Fm [.s,.s,.s,.k (cE [(0,0)] [] (vi b.2) [(0,bx (gC l))] [(0,bx (gC b.1))]),.s] (fun K=>K 3∧True) [(0,pt 0),(2,vi i),(7,ow 11),(8,vi b.2)] [(0,bx (gC b.1)),(11,AO (α:=Record) (([]:List Record)++a))] ⟨KAt.CC (keep_Tape_Next_spec U) Tryz.call15 [(0,0)],⟨⟩⟩ ?_
  refine AW.join (r:=r) (fun z:(List Record)×(List Int)×Int=>law15_spoilt_k0 F z.1 z.2.1 z.2.2) (fun z=>[(7,ow 11)]) (fun z=>[(0,bx [.d (DL z.2.1),ci z.2.2]),(11,AO z.1)]) (fun z h=>?_) (fun Y o=>?_)
  ·obtain ⟨y,A,B⟩:=z
   refine AW.SG0 Fm 2 [(6,ow 11)] [(0,bx [.d (DL A),ci B]),(11,AO y)] ?_
   refine AW.ret ?_
   obtain rfl:=Option.some.inj h
   refine Kn.r Fm [(6,ow 11)] [(11,AO y),(0,bx [.d (DL A),ci B])] (by kernel_rfl) ?_
   refine Kn.frz [(6,AL y)] [(0,bx [.d (DL A),ci B])] (by kernel_rfl) (by kernel_rfl) (by kernel_rfl) ?_
   exact Kn.D Fm
  ·refine AW.seq ?_
   obtain ⟨e,V,h⟩:=bS h
   refine AW.G Fm [.s,.k (cE [(0,0)] [] (vi e.2) [(0,bx (gC b.1))] [(0,bx (gC e.1))])] (fun K=>K 1∧True) [(0,pt 0),(2,vi i),(7,ow 11),(8,vi b.2),(21,vi e.2)] [(0,bx (gC e.1)),(11,AO (α:=Record) (([]:List Record)++a))] ⟨KAt.CC (keep_Tape_Next_spec V) Tryz.call15 [(0,0)],⟨⟩⟩ ?_
   refine AW.block (AW.SG0 Fm 2 [(0,pt 0),(2,vi i),(7,ow 11),(8,vi b.2),(21,vi e.2),(22,vb (e.2==(0:Int)))] [(0,bx (gC e.1)),(11,AO (α:=Record) (([]:List Record)++a))] ?_)
   refine AW.cN h (fun I h=>?_) (fun I h=>?_)
   ·obtain ⟨q,h⟩:=gS h
    refine AW.WP Fm [.s,.s,.s,.s,.s,.s] [(7,ow 11)] [(0,bx (gC e.1)),(11,AO (α:=Record) (List.set (([]:List Record)++a) b.2.toNat (⟨i,(gl (([]:List Record)++a) b.2.toNat).crop_,(gl (([]:List Record)++a) b.2.toNat).region_⟩ : Record)))] (cA q (cT (toNat_lt q))) [(11,.arr 3 (List.length (α:=Record) (([]:List Record)++a)) (fun j=>if j=b.2.toNat then splice ((LF (α:=Record) (([]:List Record)++a)) b.2.toNat) 0 [.int .i64 i] else (LF (α:=Record) (([]:List Record)++a)) j))] ⟨OLe.is (Is.set (Is.refl (([]:List Record)++a)) (toNat_lt q) (⟨i,(gl (([]:List Record)++a) b.2.toNat).crop_,(gl (([]:List Record)++a) b.2.toNat).region_⟩ : Record) (by kernel_rfl)),⟨⟩⟩ ?_
    exact Kn.R Fm (o ((List.set (([]:List Record)++a) b.2.toNat (⟨i,(gl (([]:List Record)++a) b.2.toNat).crop_,(gl (([]:List Record)++a) b.2.toNat).region_⟩ : Record)),e.1.l_,e.1.at_) h)
   ·refine AW.SG0 Fm 2 [(0,pt 0),(2,vi i),(7,ow 11),(8,vi b.2),(21,vi e.2),(29,vb (e.2==(1:Int)))] [(0,bx (gC e.1)),(11,AO (α:=Record) (([]:List Record)++a))] ?_
    refine AW.cN h (fun L h=>?_) (fun L h=>?_)
    ·obtain ⟨p,W,h⟩:=bS h
     obtain ⟨P,t,h⟩:=gS2 h
     refine AW.GW Fm [.s,.s,.s,.k (cE [] [] (vi p) [] []),.s,.s,.s,.s] (fun K=>K 3∧(_∧True)∧_∧_∧True) [(7,ow 11)] [(0,bx (gC e.1)),(11,AO (α:=Record) (List.set (([]:List Record)++a) b.2.toNat (⟨(gl (([]:List Record)++a) b.2.toNat).year_,(p-(2:Int)),(gl (([]:List Record)++a) b.2.toNat).region_⟩ : Record)))] ⟨KAt.CC (keep_Mod_spec W) Tryz.call27 [],⟨P,⟨⟩⟩,t,(toNat_lt t),⟨⟩⟩ [(11,.arr 3 (List.length (α:=Record) (([]:List Record)++a)) (fun j=>if j=b.2.toNat then splice ((LF (α:=Record) (([]:List Record)++a)) b.2.toNat) 1 [.int .i64 (p-(2:Int))] else (LF (α:=Record) (([]:List Record)++a)) j))] ⟨OLe.is (Is.set (Is.refl (([]:List Record)++a)) (toNat_lt t) (⟨(gl (([]:List Record)++a) b.2.toNat).year_,(p-(2:Int)),(gl (([]:List Record)++a) b.2.toNat).region_⟩ : Record) (by kernel_rfl)),⟨⟩⟩ ?_
     exact Kn.R Fm (o ((List.set (([]:List Record)++a) b.2.toNat (⟨(gl (([]:List Record)++a) b.2.toNat).year_,(p-(2:Int)),(gl (([]:List Record)++a) b.2.toNat).region_⟩ : Record)),e.1.l_,e.1.at_) h)
    ·refine AW.SG0 Fm 2 [(0,pt 0),(7,ow 11),(8,vi b.2),(21,vi e.2),(38,vb (e.2==(2:Int)))] [(0,bx (gC e.1)),(11,AO (α:=Record) (([]:List Record)++a))] ?_
     refine AW.cN h (fun M h=>?_) (fun M h=>?_)
     ·obtain ⟨n,X,h⟩:=bS h
      obtain ⟨u,h⟩:=gS h
      refine AW.GW Fm [.s,.s,.s,.k (cE [(0,0)] [] (.v (.g [.d (DL n.2.rects_)])) [(0,bx (gC e.1))] [(0,bx (gC n.1))]),.s,.s,.s] (fun K=>K 3∧_∧_∧True) [(7,ow 11)] [(0,bx (gC n.1)),(11,AO (α:=Record) (List.set (([]:List Record)++a) b.2.toNat (⟨(gl (([]:List Record)++a) b.2.toNat).year_,(gl (([]:List Record)++a) b.2.toNat).crop_,n.2⟩ : Record)))] ⟨KAt.CC (keep_Tape_Broken_spec X) Tryz.call26 [(0,0)],u,(toNat_lt u),⟨⟩⟩ [(11,.arr 3 (List.length (α:=Record) (([]:List Record)++a)) (fun j=>if j=b.2.toNat then splice ((LF (α:=Record) (([]:List Record)++a)) b.2.toNat) 2 [DL n.2.rects_] else (LF (α:=Record) (([]:List Record)++a)) j))] ⟨OLe.is (Is.set (Is.refl (([]:List Record)++a)) (toNat_lt u) (⟨(gl (([]:List Record)++a) b.2.toNat).year_,(gl (([]:List Record)++a) b.2.toNat).crop_,n.2⟩ : Record) (by kernel_rfl)),⟨⟩⟩ ?_
      exact Kn.R Fm (o ((List.set (([]:List Record)++a) b.2.toNat (⟨(gl (([]:List Record)++a) b.2.toNat).year_,(gl (([]:List Record)++a) b.2.toNat).crop_,n.2⟩ : Record)),n.1.l_,n.1.at_) h)
     ·refine AW.SG0 Fm 2 [(7,ow 11),(8,vi b.2),(46,vb (e.2==(3:Int)))] [(0,bx (gC e.1)),(11,AO (α:=Record) (([]:List Record)++a))] ?_
      refine AW.cN h (fun N h=>?_) (fun N h=>?_)
      ·obtain ⟨E,T,h⟩:=gS2 h
       refine AW.WP Fm [.s,.s,.s,.s,.s,.w (AL (α:=Record) ([(gl (([]:List Record)++a) b.2.toNat)]:List Record)),.s,.s] [(7,ow 54)] [(0,bx (gC e.1)),(54,AO (α:=Record) ((([]:List Record)++a)++([(gl (([]:List Record)++a) b.2.toNat)]:List Record)))] (cA E (cA (toNat_lt E) (cA (ALe.lst (.lit ([(gl (([]:List Record)++a) b.2.toNat)]:List Record) (by kernel_rfl)):ALe (.v (.c (.d (.lst 1 (litF 3 [.int .i64 (gl (([]:List Record)++a) b.2.toNat).year_,.int .i64 (gl (([]:List Record)++a) b.2.toNat).crop_,DL (α:=Rect) (gl (([]:List Record)++a) b.2.toNat).region_.rects_]))))) (AL (α:=Record) ([(gl (([]:List Record)++a) b.2.toNat)]:List Record))) (cT (cA T (cT (Is.refl ([(gl (([]:List Record)++a) b.2.toNat)]:List Record):Is (List.length (α:=Record) ([(gl (([]:List Record)++a) b.2.toNat)]:List Record)) (LF (α:=Record) ([(gl (([]:List Record)++a) b.2.toNat)]:List Record)) ([(gl (([]:List Record)++a) b.2.toNat)]:List Record)).len)))))) [(54,.arr 3 ((List.length (α:=Record) (([]:List Record)++a))+(List.length (α:=Record) ([(gl (([]:List Record)++a) b.2.toNat)]:List Record))) (appF (List.length (α:=Record) (([]:List Record)++a)) (LF (α:=Record) (([]:List Record)++a)) (LF (α:=Record) ([(gl (([]:List Record)++a) b.2.toNat)]:List Record))))] ⟨OLe.is (Is.app (Is.refl (([]:List Record)++a)) (Is.refl ([(gl (([]:List Record)++a) b.2.toNat)]:List Record))),⟨⟩⟩ ?_
       exact Kn.RE Fm [(11,54)] (o (((([]:List Record)++a)++([(gl (([]:List Record)++a) b.2.toNat)]:List Record)),e.1.l_,e.1.at_) h)
      ·exact AW.skip (Kn.R Fm (o ((([]:List Record)++a),e.1.l_,e.1.at_) h))
theorem ref04_Same_spec {F:Nat} {a:Region} {b:Region} {r:Bool} (h:ref04_Same F a b=some r) :
  FSpec Tryz.prog 34 [.v (.g [.d (DL a.rects_)]),.v (.g [.d (DL b.rects_)])] [] (vb r) []:=by
 refine FI Tryz.func34 prog_mixed prog_lay fun C Fm=>?_
 unfold ref04_Same at h
 refine AW.SG0 Fm 3 [(2,pt 2),(3,pt 3)] [(2,bx [.d (DL a.rects_)]),(3,bx [.d (DL b.rects_)])] ?_
 refine AW.seq ?_
 obtain ⟨c,e,h⟩:=bS h
 refine AW.G Fm [.s,.s,.s,.s,.k (cE [] [] (vb c) [] []),.s] (fun K=>K 4∧True) [(4,vb c)] [] ⟨KAt.CC (ref04_Rects_spec e) Tryz.call120 [],⟨⟩⟩ ?_
 refine AW.ret ?_
 obtain rfl:=Option.some.inj h
 exact Kn.D Fm
theorem ref15_Records_spec {F:Nat} {b:(List Record)} {e:(List Record)} {r:Bool} (h:ref15_Records F b e=some r) :
  FSpec Tryz.prog 29 [AL b,AL e] [] (vb r) []:=by
 refine FI Tryz.func29 prog_mixed prog_lay fun C Fm=>?_
 unfold ref15_Records at h
 refine AW.SG0 Fm 1 [(0,AL b),(1,AL e)] [] ?_
 refine AW.seq (AW.SG0 Fm 5 [(0,AL b),(1,AL e),(10,vb ((lI b) != (lI e)))] [] ?_)
 refine AW.cN h (fun A h=>?_) (fun A h=>?_)
 ·refine AW.SG0 Fm 1 [(4,vb false)] [] ?_
  refine AW.ret ?_
  obtain rfl:=Option.some.inj h
  exact Kn.D Fm
 ·refine AW.skip (AW.join (r:=r) (fun z:Unit=>ref15_Records_k2 F) (fun z=>[]) (fun z=>[]) (fun z h=>?_) (fun P y=>?_))
  ·refine AW.SG0 Fm 1 [(4,vb true)] [] ?_
   refine AW.ret ?_
   obtain rfl:=Option.some.inj h
   exact Kn.D Fm
  ·refine AW.SG0 Fm 3 [(0,AL b),(1,AL e),(12,vi (lI b)),(13,vi 0)] [] ?_
   refine AW.block (AW.loopF (E' := fun z=>[(0,AL b),(1,AL e),(12,vi (lI b)),(13,vi z)]) (S' := fun z=>[]) (fun t a N u h=>?_) h)
   refine AW.SG0 Fm 1 [(0,AL b),(1,AL e),(12,vi (lI b)),(13,vi a),(14,vb (decide (a<(lI b))))] [] ?_
   refine AW.seq (AW.cN h (fun B h=>?_) (fun B h=>?_))
   ·refine AW.skip (AW.seq (AW.block (AW.SG0 Fm 2 [(0,AL b),(1,AL e),(5,vi a),(12,vi (lI b)),(13,vi a)] [] ?_)))
    refine AW.join (r:=r) (fun z:Bool=>ref15_Records_k1 F a t z) (fun z=>[(0,AL b),(1,AL e),(12,vi (lI b)),(13,vi a),(53,vb z)]) (fun z=>[]) (fun T h=>?_) (fun O l=>?_)
    ·refine AW.cN h (fun E h=>?_) (fun E h=>?_)
     ·refine AW.SG0 Fm 1 [(4,vb false)] [] ?_
      refine AW.ret ?_
      obtain rfl:=Option.some.inj h
      exact Kn.D Fm
     ·refine AW.skip ?_
      obtain ⟨L,h⟩:=gS h
      refine AW.pN Fm [.s,.s] [(0,AL b),(1,AL e),(12,vi (lI b)),(13,vi (a+1))] [] (cT (cT L)) ?_
      exact Kn.R Fm (u (a+1) h)
    ·obtain ⟨n,o,h⟩:=gS2 h
     rcases br_or h with ⟨j,h⟩|⟨j,h⟩
     ·refine AW.pN Fm [.s,.s,.s,.s,.s,.s,.s,.s,.s,.s,.s,.w (vb true),.s,.s,.s,.s,.s,.s,.s,.s,.s,.s,.s,.s,.s,.s,.s,.s,.s,.s,.s,.s,.s,.s,.s,.s,.s,.s] [(0,AL b),(1,AL e),(12,vi (lI b)),(13,vi a),(53,vb true)] [] (cA n (cA o (cT (ALe.bool j)))) ?_
      exact Kn.R Fm (l true h)
     ·obtain ⟨p,q,h⟩:=gS2 h
      rcases br_or h with ⟨m,h⟩|⟨m,h⟩
      ·refine AW.pN Fm [.s,.s,.s,.s,.s,.s,.s,.s,.s,.s,.s,.w (vb false),.s,.s,.s,.s,.s,.s,.s,.s,.s,.s,.s,.s,.w (vb true),.s,.s,.s,.s,.s,.s,.s,.s,.s,.s,.s,.s,.s] [(0,AL b),(1,AL e),(12,vi (lI b)),(13,vi a),(28,AL b),(29,vi a),(30,.v (.c (.elm [.int .i64 (gl b a.toNat).year_,.int .i64 (gl b a.toNat).crop_,DL (α:=Rect) (gl b a.toNat).region_.rects_]))),(31,.v (.c (.elm [.int .i64 (gl b a.toNat).crop_,DL (α:=Rect) (gl b a.toNat).region_.rects_]))),(32,vi (gl b a.toNat).crop_),(33,AL e),(34,vi a),(35,.v (.c (.elm [.int .i64 (gl e a.toNat).year_,.int .i64 (gl e a.toNat).crop_,DL (α:=Rect) (gl e a.toNat).region_.rects_]))),(36,.v (.c (.elm [.int .i64 (gl e a.toNat).crop_,DL (α:=Rect) (gl e a.toNat).region_.rects_]))),(37,vi (gl e a.toNat).crop_),(38,vb (((gl b a.toNat).crop_) != ((gl e a.toNat).crop_))),(53,vb true)] [] (cA n (cA o (cA (ALe.bool j) (cA p (cA q (cT (ALe.bool m))))))) ?_
       exact Kn.R Fm (l true h)
      ·obtain ⟨H,I,h⟩:=gS2 h
       obtain ⟨i,M,h⟩:=bS h
       refine AW.G Fm [.s,.s,.s,.s,.s,.s,.s,.s,.s,.s,.s,.w (vb false),.s,.s,.s,.s,.s,.s,.s,.s,.s,.s,.s,.s,.w (vb false),.s,.s,.s,.s,.s,.s,.s,.s,.s,.s,.k (cE [] [] (vb i) [] []),.s,.s] (fun K=>_∧_∧_∧_∧_∧_∧_∧_∧K 35∧True) [(0,AL b),(1,AL e),(12,vi (lI b)),(13,vi a),(28,AL b),(29,vi a),(30,.v (.c (.elm [.int .i64 (gl b a.toNat).year_,.int .i64 (gl b a.toNat).crop_,DL (α:=Rect) (gl b a.toNat).region_.rects_]))),(31,.v (.c (.elm [.int .i64 (gl b a.toNat).crop_,DL (α:=Rect) (gl b a.toNat).region_.rects_]))),(32,vi (gl b a.toNat).crop_),(33,AL e),(34,vi a),(35,.v (.c (.elm [.int .i64 (gl e a.toNat).year_,.int .i64 (gl e a.toNat).crop_,DL (α:=Rect) (gl e a.toNat).region_.rects_]))),(36,.v (.c (.elm [.int .i64 (gl e a.toNat).crop_,DL (α:=Rect) (gl e a.toNat).region_.rects_]))),(37,vi (gl e a.toNat).crop_),(38,vb (((gl b a.toNat).crop_) != ((gl e a.toNat).crop_))),(41,AL b),(42,vi a),(43,.v (.c (.elm [.int .i64 (gl b a.toNat).year_,.int .i64 (gl b a.toNat).crop_,DL (α:=Rect) (gl b a.toNat).region_.rects_]))),(44,.v (.c (.elm [DL (α:=Rect) (gl b a.toNat).region_.rects_]))),(45,.v (.g [.d (DL (α:=Rect) (gl b a.toNat).region_.rects_)])),(46,AL e),(47,vi a),(48,.v (.c (.elm [.int .i64 (gl e a.toNat).year_,.int .i64 (gl e a.toNat).crop_,DL (α:=Rect) (gl e a.toNat).region_.rects_]))),(49,.v (.c (.elm [DL (α:=Rect) (gl e a.toNat).region_.rects_]))),(50,.v (.g [.d (DL (α:=Rect) (gl e a.toNat).region_.rects_)])),(51,vb i),(52,vb (!i)),(53,vb (!i))] [] ⟨n,o,ALe.bool j,p,q,ALe.bool m,H,I,KAt.CC (ref04_Same_spec M) Tryz.call34 [],⟨⟩⟩ ?_
       exact Kn.R Fm (l (!i) h)
   ·exact AW.exit (Kn.R Fm (y () h))
theorem history_Where_1_spec {F:Nat} {b:Int} {a:Int} {r:Bool} (h:history_Where_1 F b a=some r) :
  FSpec Tryz.prog 115 [vi b,pt 0] [(0,.box true [ci a])] (vb r) [(0,.box true [ci a])]:=by
 refine FI Tryz.func115 prog_mixed prog_lay fun C Fm=>?_
 unfold history_Where_1 at h
 refine AW.SG0 Fm 1 [(0,vi b),(1,pt 0)] [(0,.box true [ci a])] ?_
 refine AW.SG0 Fm 4 [(3,vb (b==a))] [(0,.box true [ci a])] ?_
 refine AW.ret ?_
 obtain rfl:=Option.some.inj h
 exact Kn.D Fm
theorem history_Rects_spec {F:Nat} {a:(List Record)} {i:Int} {e:Int→Option Bool} {r:(List Rect)} (h:history_Rects F a i e=some r) :
  FSpec Tryz.prog 114 [AL a,vi i,.v (.c (.sem (CloOK Tryz.prog (FR_Int_Bool e))))] [] (AL (α:=Rect) r) []:=by
 refine FI Tryz.func114 prog_mixed prog_lay fun C Fm=>?_
 unfold history_Rects at h
 refine AW.SG0 Fm 1 [(0,AL a),(1,vi i),(2,.v (.c (.sem (CloOK Tryz.prog (FR_Int_Bool e)))))] [] ?_
 refine AW.SW Fm [.m] (fun K=>True) [(0,AL a),(1,vi i),(2,.v (.c (.sem (CloOK Tryz.prog (FR_Int_Bool e))))),(7,ow 7)] [(7,AO (α:=Rect) ([]:List Rect))] True.intro [(7,.arr 4 (0) (fun _=>[]))] ⟨OLe.is ((Is.nil (α:=Rect))),⟨⟩⟩ ?_
 refine AW.join (r:=r) (fun z:(List Rect)=>history_Rects_k3 F z) (fun z=>[(7,ow 7)]) (fun z=>[(7,AO z)]) (fun o h=>?_) (fun T A=>?_)
 ·refine AW.SG0 Fm 2 [(6,ow 7)] [(7,AO o)] ?_
  refine AW.ret ?_
  obtain rfl:=Option.some.inj h
  refine Kn.r Fm [(6,ow 7)] [(7,AO o)] (by kernel_rfl) ?_
  refine Kn.frz [(6,AL o)] [] (by kernel_rfl) (by kernel_rfl) (by kernel_rfl) ?_
  exact Kn.D Fm
 ·refine AW.SG0 Fm 3 [(1,vi i),(2,.v (.c (.sem (CloOK Tryz.prog (FR_Int_Bool e))))),(7,ow 7),(10,AL a),(11,vi (lI a)),(12,vi 0)] [(7,AO (α:=Rect) ([]:List Rect))] ?_
  refine AW.block (Kn.r Fm [(1,vi i),(2,.v (.c (.sem (CloOK Tryz.prog (FR_Int_Bool e))))),(7,ow 7),(10,AL a),(11,vi (lI a)),(12,vi 0)] [(7,AO ([]:List Rect))] (by kernel_rfl) ?_)
  refine AW.loopF (E' := fun z=>[(1,vi i),(2,.v (.c (.sem (CloOK Tryz.prog (FR_Int_Bool e))))),(7,ow 7),(10,AL a),(11,vi (lI a)),(12,vi z.1)]) (S' := fun z=>[(7,AO z.2)]) (fun p z N y h=>?_) h
  obtain ⟨b,j⟩:=z
  refine AW.SG0 Fm 1 [(1,vi i),(2,.v (.c (.sem (CloOK Tryz.prog (FR_Int_Bool e))))),(7,ow 7),(10,AL a),(11,vi (lI a)),(12,vi b),(13,vb (decide (b<(lI a))))] [(7,AO j)] ?_
  refine AW.seq (AW.cN h (fun B h=>?_) (fun B h=>?_))
  ·refine AW.skip (AW.join (r:=r) (fun z:(List Rect)=>history_Rects_k2 F b p z) (fun z=>[(1,vi i),(2,.v (.c (.sem (CloOK Tryz.prog (FR_Int_Bool e))))),(7,ow 30),(10,AL a),(11,vi (lI a)),(12,vi b)]) (fun z=>[(30,AO z)]) (fun u h=>?_) (fun P t=>?_))
   ·obtain ⟨L,h⟩:=gS h
    refine AW.pN Fm [.s,.s] [(1,vi i),(2,.v (.c (.sem (CloOK Tryz.prog (FR_Int_Bool e))))),(7,ow 30),(10,AL a),(11,vi (lI a)),(12,vi (b+1))] [(30,AO u)] (cT (cT L)) ?_
    exact Kn.RE Fm [(7,30)] (y ((b+1),u) h)
   ·refine AW.block ?_
    obtain ⟨H,h⟩:=gS h
    refine AW.SP Fm [.s,.s,.s,.s] [(1,vi i),(2,.v (.c (.sem (CloOK Tryz.prog (FR_Int_Bool e))))),(7,ow 7),(9,pt 9),(10,AL a),(11,vi (lI a)),(12,vi b)] [(7,AO j),(9,bx [ci ((gl a b.toNat).year_),ci ((gl a b.toNat).crop_),.d (DL (α:=Rect) (gl a b.toNat).region_.rects_)])] (cT H) ?_
    refine AW.join (r:=r) (fun z:Bool=>history_Rects_k1 F a b j p z) (fun z=>[(1,vi i),(2,.v (.c (.sem (CloOK Tryz.prog (FR_Int_Bool e))))),(7,ow 7),(9,pt 9),(10,AL a),(11,vi (lI a)),(12,vi b),(25,vb z)]) (fun z=>[(7,AO j),(9,bx [ci ((gl a b.toNat).year_),ci ((gl a b.toNat).crop_),.d (DL (α:=Rect) (gl a b.toNat).region_.rects_)])]) (fun U h=>?_) (fun O q=>?_)
    ·refine AW.cN h (fun E h=>?_) (fun E h=>?_)
     ·obtain ⟨I,h⟩:=gS h
      refine AW.WP Fm [.s,.s,.s,.s,.s,.s] [(1,vi i),(2,.v (.c (.sem (CloOK Tryz.prog (FR_Int_Bool e))))),(7,ow 30),(10,AL a),(11,vi (lI a)),(12,vi b)] [(30,AO (α:=Rect) (j++((gl a b.toNat).region_.rects_)))] (cT (cA I (cT (Is.refl ((gl a b.toNat).region_.rects_):Is (List.length (α:=Rect) ((gl a b.toNat).region_.rects_)) (LF (α:=Rect) ((gl a b.toNat).region_.rects_)) ((gl a b.toNat).region_.rects_)).len))) [(30,.arr 4 ((List.length (α:=Rect) j)+(List.length (α:=Rect) ((gl a b.toNat).region_.rects_))) (appF (List.length (α:=Rect) j) (LF (α:=Rect) j) (LF (α:=Rect) ((gl a b.toNat).region_.rects_))))] ⟨OLe.is (Is.app (Is.refl j) (Is.refl ((gl a b.toNat).region_.rects_))),⟨⟩⟩ ?_
      exact Kn.R Fm (t (j++((gl a b.toNat).region_.rects_)) h)
     ·exact AW.skip (Kn.RE Fm [(30,7)] (t j h))
    ·rcases br_or h with ⟨n,h⟩|⟨n,h⟩
     ·obtain ⟨l,M,h⟩:=bS h
      refine AW.G Fm [.s,.s,.s,.s,.w (vb true),.s,.s,.s,.k (sE (vb l)),.s] (fun K=>_∧K 8∧True) [(1,vi i),(2,.v (.c (.sem (CloOK Tryz.prog (FR_Int_Bool e))))),(7,ow 7),(9,pt 9),(10,AL a),(11,vi (lI a)),(12,vi b),(21,.v (.c (.sem (CloOK Tryz.prog (FR_Int_Bool e))))),(22,.v (.c (.ptr 9 1))),(23,vi (gl a b.toNat).crop_),(24,vb l),(25,vb l)] [(7,AO j),(9,bx [ci ((gl a b.toNat).year_),ci ((gl a b.toNat).crop_),.d (DL (α:=Rect) (gl a b.toNat).region_.rects_)])] ⟨ALe.bool n,KAt.sem (F:=(FR_Int_Bool e)) (args:=[vi (gl a b.toNat).crop_]) ⟨((gl a b.toNat).crop_),l,M,rfl,rfl⟩ rfl (by kernel_rfl) (by kernel_rfl) (by kernel_rfl),⟨⟩⟩ ?_
      exact Kn.R Fm (q l h)
     ·refine AW.pN Fm [.s,.s,.s,.s,.w (vb false),.s,.s,.s,.s,.s] [(1,vi i),(2,.v (.c (.sem (CloOK Tryz.prog (FR_Int_Bool e))))),(7,ow 7),(9,pt 9),(10,AL a),(11,vi (lI a)),(12,vi b),(25,vb false)] [(7,AO j),(9,bx [ci ((gl a b.toNat).year_),ci ((gl a b.toNat).crop_),.d (DL (α:=Rect) (gl a b.toNat).region_.rects_)])] (cT (ALe.bool n)) ?_
      exact Kn.R Fm (q false h)
  ·exact AW.exit (Kn.R Fm (A j h))
theorem region_Limited_spec {F:Nat} {a:(List Rect)} {r:Region×Int} (h:region_Limited F a=some r) :
  FSpec Tryz.prog 204 [AL a] [] (.t [.g [.d (DL (α:=Rect) r.1.rects_)],.c (ci r.2)]) []:=by
 refine FI Tryz.func204 prog_mixed prog_lay fun C Fm=>?_
 unfold region_Limited at h
 refine AW.SG0 Fm 2 [(0,AL a),(2,pt 2)] [(2,bx [.fl 0 fun _=>[]])] ?_
 refine AW.seq (AW.SG0 Fm 3 [(0,AL a),(2,pt 2),(6,vb (decide ((120:Int)<(lI a))))] [(2,bx [.fl 0 fun _=>[]])] ?_)
 refine AW.cN h (fun b h=>?_) (fun b h=>?_)
 ·refine AW.SP Fm [.w (.v (.g [.d (DL (α:=Rect) [])])),.s,.s] [(2,pt 2),(3,vi 1)] [(2,bx [.d (DL (α:=Rect) [])])] (cT (ALe.g ⟨CLe.fl .nil,⟨⟩⟩ : ALe (.v (.g [.fl 0 fun _=>[]])) (.v (.g [.d (DL (α:=Rect) [])])))) ?_
  refine AW.ret ?_
  obtain rfl:=Option.some.inj h
  exact Kn.D Fm
 ·refine AW.skip (AW.SG0 Fm 4 [(2,pt 2),(3,vi 0)] [(2,bx [.d (DL a)])] ?_)
  refine AW.ret ?_
  obtain rfl:=Option.some.inj h
  exact Kn.D Fm
theorem region_Joined_spec {F:Nat} {b:(List Rect)} {r:Region×Int} (h:region_Joined F b=some r) :
  FSpec Tryz.prog 113 [AL b] [] (.t [.g [.d (DL (α:=Rect) r.1.rects_)],.c (ci r.2)]) []:=by
 refine FI Tryz.func113 prog_mixed prog_lay fun C Fm=>?_
 unfold region_Joined at h
 refine AW.SG0 Fm 2 [(0,AL b),(2,pt 2)] [(2,bx [.fl 0 fun _=>[]])] ?_
 refine AW.seq ?_
 obtain ⟨j,e,h⟩:=bS h
 obtain ⟨a,i,h⟩:=bS h
 refine AW.G Fm [.s,.k (cE [] [] (AL j) [] []),.k (cE [] [] (.t [.g [.d (DL a.1.rects_)],.c (ci a.2)]) [] []),.s,.s,.s,.s] (fun K=>K 1∧K 2∧True) [(2,pt 2),(3,vi a.2)] [(2,bx [.d (DL a.1.rects_)])] ⟨KAt.CC (region_canonical_spec e) Tryz.call186 [],KAt.CC (region_Limited_spec i) Tryz.call204 [],⟨⟩⟩ ?_
 refine AW.ret ?_
 obtain rfl:=Option.some.inj h
 exact Kn.D Fm
theorem history_Where_spec {F:Nat} {b:(List Record)} {e:Int} {a:Int} {r:Region×Int} (h:history_Where F b e a=some r) :
  FSpec Tryz.prog 30 [AL b,vi e,vi a] [] (.t [.g [.d (DL (α:=Rect) r.1.rects_)],.c (ci r.2)]) []:=by
 refine FI Tryz.func30 prog_mixed prog_lay fun C Fm=>?_
 unfold history_Where at h
 refine AW.SG0 Fm 3 [(0,AL b),(1,vi e),(5,pt 5),(6,pt 6)] [(5,bx [ci a]),(6,bx [.fl 0 fun _=>[]])] ?_
 refine AW.seq (AW.seq ?_)
 obtain ⟨i,m,h⟩:=bS h
 refine AW.G Fm [.s,.k (cE [] [] (vi i) [] []),.s] (fun K=>K 1∧True) [(0,AL b),(1,vi e),(5,pt 5),(6,pt 6),(8,vi i)] [(5,bx [ci a]),(6,bx [.fl 0 fun _=>[]])] ⟨KAt.CC (history_Check_spec m) Tryz.call18 [],⟨⟩⟩ ?_
 refine AW.SG0 Fm 2 [(0,AL b),(1,vi e),(5,pt 5),(6,pt 6),(8,vi i),(12,vb (i != (0:Int)))] [(5,bx [ci a]),(6,bx [.fl 0 fun _=>[]])] ?_
 refine AW.cN h (fun l h=>?_) (fun l h=>?_)
 ·refine AW.SP Fm [.w (.v (.g [.d (DL (α:=Rect) [])])),.s,.s,.s] [(6,pt 6),(7,vi i)] [(6,bx [.d (DL (α:=Rect) [])])] (cT (ALe.g ⟨CLe.fl .nil,⟨⟩⟩ : ALe (.v (.g [.fl 0 fun _=>[]])) (.v (.g [.d (DL (α:=Rect) [])])))) ?_
  refine AW.ret ?_
  obtain rfl:=Option.some.inj h
  exact Kn.D Fm
 ·refine AW.skip (AW.seq ?_)
  obtain ⟨q,n,h⟩:=bS h
  obtain ⟨j,o,h⟩:=bS h
  refine AW.G Fm [.s,.s,.s,.k (cE [] [5] (AL q) [] []),.k (cE [] [] (.t [.g [.d (DL j.1.rects_)],.c (ci j.2)]) [] []),.s,.s,.s,.s] (fun K=>K 3∧K 4∧True) [(6,pt 6),(7,vi j.2)] [(6,bx [.d (DL j.1.rects_)])] ⟨KAt.callX (history_Rects_spec n) Tryz.call114 [] [5] [.tmp 15,.tmp 16,.tmp 17] rfl (by kernel_rfl) (by kernel_rfl) (by kernel_rfl) ⟨.p,.p,ArgT.cloX Tryz.call115 [[ci a]] (fun args r hq=>by obtain ⟨y0,y,hq,rfl,rfl⟩:=hq; exact Eq.mp (by kernel_rfl) (history_Where_1_spec hq)) (fun args r hq=>by obtain ⟨y0,y,hq,rfl,rfl⟩:=hq; rfl) (by kernel_rfl) [5] (by kernel_rfl) (by kernel_rfl) (⟨⟨false,(by kernel_rfl)⟩,⟨⟩⟩) (by kernel_rfl),⟨⟩⟩,KAt.CC (region_Joined_spec o) Tryz.call113 [],⟨⟩⟩ ?_
  refine AW.ret ?_
  obtain rfl:=Option.some.inj h
  exact Kn.D Fm
theorem ref15_Where_spec {F:Nat} {a:(List Record)} {i:Int} {e:Int} {r:Region×Int} (h:ref15_Where F a i e=some r) :
  FSpec Tryz.prog 31 [AL a,vi i,vi e] [] (.t [.g [.d (DL (α:=Rect) r.1.rects_)],.c (ci r.2)]) []:=by
 refine FI Tryz.func31 prog_mixed prog_lay fun C Fm=>?_
 unfold ref15_Where at h
 refine AW.SG0 Fm 2 [(0,AL a),(1,vi i),(2,vi e),(6,pt 6)] [(6,bx [.fl 0 fun _=>[]])] ?_
 refine AW.seq (AW.seq ?_)
 obtain ⟨j,E,h⟩:=bS h
 refine AW.G Fm [.s,.k (cE [] [] (vi j) [] []),.s] (fun K=>K 1∧True) [(0,AL a),(1,vi i),(2,vi e),(6,pt 6),(8,vi j)] [(6,bx [.fl 0 fun _=>[]])] ⟨KAt.CC (ref15_Check_spec E) Tryz.call25 [],⟨⟩⟩ ?_
 refine AW.SG0 Fm 2 [(0,AL a),(1,vi i),(2,vi e),(6,pt 6),(8,vi j),(14,vb (j != (0:Int)))] [(6,bx [.fl 0 fun _=>[]])] ?_
 refine AW.cN h (fun q h=>?_) (fun q h=>?_)
 ·refine AW.SP Fm [.w (.v (.g [.d (DL (α:=Rect) [])])),.s,.s,.s] [(6,pt 6),(7,vi j)] [(6,bx [.d (DL (α:=Rect) [])])] (cT (ALe.g ⟨CLe.fl .nil,⟨⟩⟩ : ALe (.v (.g [.fl 0 fun _=>[]])) (.v (.g [.d (DL (α:=Rect) [])])))) ?_
  refine AW.ret ?_
  obtain rfl:=Option.some.inj h
  exact Kn.D Fm
 ·refine AW.skip (AW.join (r:=r) (fun z:Unit=>ref15_Where_k2 F) (fun z=>[(6,pt 6)]) (fun z=>[(6,bx [.fl 0 fun _=>[]])]) (fun z h=>?_) (fun L p=>?_))
  ·refine AW.SP Fm [.w (.v (.g [.d (DL (α:=Rect) [])])),.s,.s] [(6,pt 6),(7,vi 0)] [(6,bx [.d (DL (α:=Rect) [])])] (cT (ALe.g ⟨CLe.fl .nil,⟨⟩⟩ : ALe (.v (.g [.fl 0 fun _=>[]])) (.v (.g [.d (DL (α:=Rect) [])])))) ?_
   refine AW.ret ?_
   obtain rfl:=Option.some.inj h
   exact Kn.D Fm
  ·refine AW.SG0 Fm 3 [(1,vi i),(2,vi e),(6,pt 6),(17,AL a),(18,vi (lI a)),(19,vi 0)] [(6,bx [.fl 0 fun _=>[]])] ?_
   refine AW.block (AW.loopF (E' := fun z=>[(1,vi i),(2,vi e),(6,pt 6),(17,AL a),(18,vi (lI a)),(19,vi z)]) (S' := fun z=>[(6,bx [.fl 0 fun _=>[]])]) (fun n b H o h=>?_) h)
   refine AW.SG0 Fm 1 [(1,vi i),(2,vi e),(6,pt 6),(17,AL a),(18,vi (lI a)),(19,vi b),(20,vb (decide (b<(lI a))))] [(6,bx [.fl 0 fun _=>[]])] ?_
   refine AW.seq (AW.cN h (fun u h=>?_) (fun u h=>?_))
   ·refine AW.skip (AW.seq (AW.block ?_))
    obtain ⟨A,h⟩:=gS h
    refine AW.SP Fm [.s,.s,.s,.s] [(1,vi i),(2,vi e),(6,pt 6),(10,pt 10),(17,AL a),(18,vi (lI a)),(19,vi b)] [(6,bx [.fl 0 fun _=>[]]),(10,bx [ci ((gl a b.toNat).year_),ci ((gl a b.toNat).crop_),.d (DL (α:=Rect) (gl a b.toNat).region_.rects_)])] (cT A) ?_
    refine AW.join (r:=r) (fun z:Bool=>ref15_Where_k1 F a b n z) (fun z=>[(1,vi i),(2,vi e),(6,pt 6),(10,pt 10),(17,AL a),(18,vi (lI a)),(19,vi b),(32,vb z)]) (fun z=>[(6,bx [.fl 0 fun _=>[]]),(10,bx [ci ((gl a b.toNat).year_),ci ((gl a b.toNat).crop_),.d (DL (α:=Rect) (gl a b.toNat).region_.rects_)])]) (fun M h=>?_) (fun I m=>?_)
    ·refine AW.cN h (fun y h=>?_) (fun y h=>?_)
     ·refine AW.SG0 Fm 4 [(6,pt 6),(7,vi 0)] [(6,bx [.d (DL (α:=Rect) (gl a b.toNat).region_.rects_)])] ?_
      refine AW.ret ?_
      obtain rfl:=Option.some.inj h
      exact Kn.D Fm
     ·refine AW.skip ?_
      obtain ⟨B,h⟩:=gS h
      refine AW.pN Fm [.s,.s] [(1,vi i),(2,vi e),(6,pt 6),(17,AL a),(18,vi (lI a)),(19,vi (b+1))] [(6,bx [.fl 0 fun _=>[]])] (cT (cT B)) ?_
      exact Kn.R Fm (o (b+1) h)
    ·rcases br_or h with ⟨l,h⟩|⟨l,h⟩
     ·refine AW.pN Fm [.s,.s,.s,.s,.w (vb true),.s,.s,.s,.s,.s] [(1,vi i),(2,vi e),(6,pt 6),(10,pt 10),(17,AL a),(18,vi (lI a)),(19,vi b),(28,.v (.c (.ptr 10 1))),(29,vi (gl a b.toNat).crop_),(30,vi e),(31,vb (((gl a b.toNat).crop_)==e)),(32,vb (((gl a b.toNat).crop_)==e))] [(6,bx [.fl 0 fun _=>[]]),(10,bx [ci ((gl a b.toNat).year_),ci ((gl a b.toNat).crop_),.d (DL (α:=Rect) (gl a b.toNat).region_.rects_)])] (cT (ALe.bool l)) ?_
      exact Kn.R Fm (m (((gl a b.toNat).crop_)==e) h)
     ·refine AW.pN Fm [.s,.s,.s,.s,.w (vb false),.s,.s,.s,.s,.s] [(1,vi i),(2,vi e),(6,pt 6),(10,pt 10),(17,AL a),(18,vi (lI a)),(19,vi b),(32,vb false)] [(6,bx [.fl 0 fun _=>[]]),(10,bx [ci ((gl a b.toNat).year_),ci ((gl a b.toNat).crop_),.d (DL (α:=Rect) (gl a b.toNat).region_.rects_)])] (cT (ALe.bool l)) ?_
      exact Kn.R Fm (m false h)
   ·exact AW.exit (Kn.R Fm (p () h))
theorem history_wrong_spec {F:Nat} {a:Int} {r:Bool} (h:history_wrong F a=some r) :
  FSpec Tryz.prog 116 [vi a] [] (vb r) []:=by
 refine FI Tryz.func116 prog_mixed prog_lay fun C Fm=>?_
 unfold history_wrong at h
 refine AW.SG0 Fm 1 [(0,vi a)] [] ?_
 refine AW.join (r:=r) (fun z:Bool=>history_wrong_k0 F z) (fun z=>[(2,vb z)]) (fun z=>[]) (fun e h=>?_) (fun d c=>?_)
 ·refine AW.ret ?_
  obtain rfl:=Option.some.inj h
  exact Kn.D Fm
 ·rcases br_or h with ⟨b,h⟩|⟨b,h⟩
  ·refine AW.pN Fm [.s,.s,.w (vb true),.s,.s,.s,.s] [(2,vb true)] [] (cT (ALe.bool b)) ?_
   exact Kn.R Fm (c true h)
  ·refine AW.pN Fm [.s,.s,.w (vb false),.s,.s,.s,.s] [(2,vb (decide ((100:Int)<a)))] [] (cT (ALe.bool b)) ?_
   exact Kn.R Fm (c (decide ((100:Int)<a)) h)
theorem history_Any_spec {F:Nat} {a:Int} {r:Bool} (h:history_Any F a=some r) :
  FSpec Tryz.prog 117 [vi a] [] (vb r) []:=by
 refine FI Tryz.func117 prog_mixed prog_lay fun C Fm=>?_
 unfold history_Any at h
 refine AW.SG0 Fm 1 [] [] ?_
 refine AW.SG0 Fm 1 [(2,vb true)] [] ?_
 refine AW.ret ?_
 obtain rfl:=Option.some.inj h
 exact Kn.D Fm
theorem history_Known_spec {F:Nat} {a:(List Record)} {b:Int} {r:Region×Int} (h:history_Known F a b=some r) :
  FSpec Tryz.prog 32 [AL a,vi b] [] (.t [.g [.d (DL (α:=Rect) r.1.rects_)],.c (ci r.2)]) []:=by
 refine FI Tryz.func32 prog_mixed prog_lay fun C Fm=>?_
 unfold history_Known at h
 refine AW.SG0 Fm 2 [(0,AL a),(1,vi b),(4,pt 4)] [(4,bx [.fl 0 fun _=>[]])] ?_
 refine AW.seq (AW.seq ?_)
 obtain ⟨e,n,h⟩:=bS h
 refine AW.G Fm [.s,.k (cE [] [] (vi e) [] []),.s] (fun K=>K 1∧True) [(0,AL a),(1,vi b),(4,pt 4),(6,vi e)] [(4,bx [.fl 0 fun _=>[]])] ⟨KAt.CC (history_Check_spec n) Tryz.call18 [],⟨⟩⟩ ?_
 refine AW.SG0 Fm 2 [(0,AL a),(1,vi b),(4,pt 4),(6,vi e),(10,vb (e != (0:Int)))] [(4,bx [.fl 0 fun _=>[]])] ?_
 refine AW.cN h (fun l h=>?_) (fun l h=>?_)
 ·refine AW.SP Fm [.w (.v (.g [.d (DL (α:=Rect) [])])),.s,.s,.s] [(4,pt 4),(5,vi e)] [(4,bx [.d (DL (α:=Rect) [])])] (cT (ALe.g ⟨CLe.fl .nil,⟨⟩⟩ : ALe (.v (.g [.fl 0 fun _=>[]])) (.v (.g [.d (DL (α:=Rect) [])])))) ?_
  refine AW.ret ?_
  obtain rfl:=Option.some.inj h
  exact Kn.D Fm
 ·refine AW.skip (AW.seq (AW.seq ?_))
  obtain ⟨j,o,h⟩:=bS h
  refine AW.G Fm [.s,.k (cE [] [] (vb j) [] [])] (fun K=>K 1∧True) [(0,AL a),(1,vi b),(4,pt 4),(14,vb j)] [(4,bx [.fl 0 fun _=>[]])] ⟨KAt.CC (history_wrong_spec o) Tryz.call116 [],⟨⟩⟩ ?_
  refine AW.cN h (fun m h=>?_) (fun m h=>?_)
  ·refine AW.SP Fm [.w (.v (.g [.d (DL (α:=Rect) [])])),.s,.s] [(4,pt 4),(5,vi 18)] [(4,bx [.d (DL (α:=Rect) [])])] (cT (ALe.g ⟨CLe.fl .nil,⟨⟩⟩ : ALe (.v (.g [.fl 0 fun _=>[]])) (.v (.g [.d (DL (α:=Rect) [])])))) ?_
   refine AW.ret ?_
   obtain rfl:=Option.some.inj h
   exact Kn.D Fm
  ·refine AW.skip (AW.seq ?_)
   obtain ⟨A,q,h⟩:=bS h
   obtain ⟨i,u,h⟩:=bS h
   refine AW.G Fm [.s,.s,.k (cE [] [] (AL A) [] []),.k (cE [] [] (.t [.g [.d (DL i.1.rects_)],.c (ci i.2)]) [] []),.s,.s,.s,.s] (fun K=>K 2∧K 3∧True) [(4,pt 4),(5,vi i.2)] [(4,bx [.d (DL i.1.rects_)])] ⟨KAt.callX (history_Rects_spec q) Tryz.call114 [] [] [.tmp 16,.tmp 17,.func 117] rfl (by kernel_rfl) (by kernel_rfl) (by kernel_rfl) ⟨.p,.p,ArgT.cloX Tryz.call117 [] (fun args r hq=>by obtain ⟨y0,y,hq,rfl,rfl⟩:=hq; exact Eq.mp (by kernel_rfl) (history_Any_spec hq)) (fun args r hq=>by obtain ⟨y0,y,hq,rfl,rfl⟩:=hq; rfl) (by kernel_rfl) [] (by kernel_rfl) (by kernel_rfl) (True.intro) (by kernel_rfl),⟨⟩⟩,KAt.CC (region_Joined_spec u) Tryz.call113 [],⟨⟩⟩ ?_
   refine AW.ret ?_
   obtain rfl:=Option.some.inj h
   exact Kn.D Fm
theorem ref15_Squares_spec {F:Nat} {a:(List Record)} {e:(List Crop)} {l:Int} {j:Int} {i:Int} {r:(List Rect)} (h:ref15_Squares F a e l j i=some r) :
  FSpec Tryz.prog 119 [AL a,AL e,vi l,vi j,vi i] [] (AL (α:=Rect) r) []:=by
 refine FI Tryz.func119 prog_mixed prog_lay fun C Fm=>?_
 unfold ref15_Squares at h
 refine AW.SG0 Fm 1 [(0,AL a),(1,AL e),(2,vi l),(3,vi j),(4,vi i)] [] ?_
 refine AW.SW Fm [.m] (fun K=>True) [(0,AL a),(1,AL e),(2,vi l),(3,vi j),(4,vi i),(11,ow 11)] [(11,AO (α:=Rect) ([]:List Rect))] True.intro [(11,.arr 4 (0) (fun _=>[]))] ⟨OLe.is ((Is.nil (α:=Rect))),⟨⟩⟩ ?_
 refine AW.join (r:=r) (fun z:(List Rect)=>ref15_Squares_k3 F z) (fun z=>[(11,AL z)]) (fun z=>[]) (fun X h=>?_) (fun b0 M=>?_)
 ·refine AW.SG0 Fm 2 [(10,AL X)] [] ?_
  refine AW.ret ?_
  obtain rfl:=Option.some.inj h
  exact Kn.D Fm
 ·refine AW.SG0 Fm 3 [(1,AL e),(2,vi l),(3,vi j),(4,vi i),(11,ow 11),(14,AL a),(15,vi (lI a)),(16,vi 0)] [(11,AO (α:=Rect) ([]:List Rect))] ?_
  refine AW.block (Kn.r Fm [(1,AL e),(2,vi l),(3,vi j),(4,vi i),(11,ow 11),(14,AL a),(15,vi (lI a)),(16,vi 0)] [(11,AO (α:=Rect) ([]:List Rect))] (by kernel_rfl) ?_)
  refine Kn.frz [(1,AL e),(2,vi l),(3,vi j),(4,vi i),(11,AL (α:=Rect) ([]:List Rect)),(14,AL a),(15,vi (lI a)),(16,vi 0)] [] (by kernel_rfl) (by kernel_rfl) (by kernel_rfl) ?_
  refine Kn.r Fm [(1,AL e),(2,vi l),(3,vi j),(4,vi i),(11,AL ([]:List Rect)),(14,AL a),(15,vi (lI a)),(16,vi 0)] [] (by kernel_rfl) ?_
  refine AW.loopF (E' := fun z=>[(1,AL e),(2,vi l),(3,vi j),(4,vi i),(11,AL z.1),(14,AL a),(15,vi (lI a)),(16,vi z.2)]) (S' := fun z=>[]) (fun E z Y L h=>?_) h
  obtain ⟨n,b⟩:=z
  refine AW.SG0 Fm 1 [(1,AL e),(2,vi l),(3,vi j),(4,vi i),(11,AL n),(14,AL a),(15,vi (lI a)),(16,vi b),(17,vb (decide (b<(lI a))))] [] ?_
  refine AW.seq (AW.cN h (fun N h=>?_) (fun N h=>?_))
  ·refine AW.skip (AW.join (r:=r) (fun z:(List Rect)=>ref15_Squares_k2 F b E z) (fun z=>[(1,AL e),(2,vi l),(3,vi j),(4,vi i),(11,AL z),(14,AL a),(15,vi (lI a)),(16,vi b)]) (fun z=>[]) (fun I h=>?_) (fun a0 H=>?_))
   ·obtain ⟨V,h⟩:=gS h
    refine AW.pN Fm [.s,.s] [(1,AL e),(2,vi l),(3,vi j),(4,vi i),(11,AL I),(14,AL a),(15,vi (lI a)),(16,vi (b+1))] [] (cT (cT V)) ?_
    exact Kn.R Fm (L (I,(b+1)) h)
   ·refine AW.block ?_
    obtain ⟨P,h⟩:=gS h
    refine AW.SP Fm [.s,.s,.s,.s] [(1,AL e),(2,vi l),(3,vi j),(4,vi i),(11,AL n),(13,pt 13),(14,AL a),(15,vi (lI a)),(16,vi b)] [(13,bx [ci ((gl a b.toNat).year_),ci ((gl a b.toNat).crop_),.d (DL (α:=Rect) (gl a b.toNat).region_.rects_)])] (cT P) ?_
    refine AW.join (r:=r) (fun z:Bool=>ref15_Squares_k1 F a n b E z) (fun z=>[(1,AL e),(2,vi l),(3,vi j),(4,vi i),(11,AL n),(13,pt 13),(14,AL a),(15,vi (lI a)),(16,vi b),(53,vb z)]) (fun z=>[(13,bx [ci ((gl a b.toNat).year_),ci ((gl a b.toNat).crop_),.d (DL (α:=Rect) (gl a b.toNat).region_.rects_)])]) (fun c0 h=>?_) (fun Z p=>?_)
    ·refine AW.cN h (fun O h=>?_) (fun O h=>?_)
     ·obtain ⟨B,W,h⟩:=bS h
      refine AW.G Fm [.s,.s,.s,.s,.k (cE [] [] (AL B) [] []),.s] (fun K=>K 4∧True) [(1,AL e),(2,vi l),(3,vi j),(4,vi i),(11,AL B),(14,AL a),(15,vi (lI a)),(16,vi b)] [] ⟨KAt.CC (ref04_Combine_spec W) Tryz.call112 [],⟨⟩⟩ ?_
      exact Kn.R Fm (H B h)
     ·exact AW.skip (Kn.R Fm (H n h))
    ·rcases br_or h with ⟨o,h⟩|⟨o,h⟩
     ·rcases br_or h with ⟨q,h⟩|⟨q,h⟩
      ·rcases br_or h with ⟨u,h⟩|⟨u,h⟩
       ·refine AW.pN Fm [.s,.s,.s,.s,.w (vb true),.s,.s,.w (vb true),.s,.s,.s,.s,.s,.s,.s,.s,.s,.s,.s,.s,.s,.w (vb true),.s,.s,.s,.s,.s,.s,.s,.s,.s,.s,.s,.s] [(1,AL e),(2,vi l),(3,vi j),(4,vi i),(11,AL n),(13,pt 13),(14,AL a),(15,vi (lI a)),(16,vi b),(25,vi j),(26,vb (decide (j<(0:Int)))),(27,vb true),(36,vb true),(39,vi i),(40,vb (i==(0:Int))),(41,vb true),(52,vb true),(53,vb true)] [(13,bx [ci ((gl a b.toNat).year_),ci ((gl a b.toNat).crop_),.d (DL (α:=Rect) (gl a b.toNat).region_.rects_)])] (cA (ALe.bool o) (cA (ALe.bool q) (cT (ALe.bool u)))) ?_
        exact Kn.R Fm (p true h)
       ·obtain ⟨T,h⟩:=gS h
        refine AW.pN Fm [.s,.s,.s,.s,.w (vb true),.s,.s,.w (vb true),.s,.s,.s,.s,.s,.s,.s,.s,.s,.s,.s,.s,.s,.w (vb false),.s,.s,.s,.s,.s,.s,.s,.s,.s,.s,.s,.s] [(1,AL e),(2,vi l),(3,vi j),(4,vi i),(11,AL n),(13,pt 13),(14,AL a),(15,vi (lI a)),(16,vi b),(25,vi j),(26,vb (decide (j<(0:Int)))),(27,vb true),(36,vb true),(39,vi i),(40,vb (i==(0:Int))),(41,vb false),(42,AL e),(43,.v (.c (.ptr 13 1))),(44,vi (gl a b.toNat).crop_),(45,.v (.c (.elm [.str (gl e ((gl a b.toNat).crop_).toNat).name_,.int .i64 (gl e ((gl a b.toNat).crop_).toNat).family_,.int .i64 (gl e ((gl a b.toNat).crop_).toNat).marks_]))),(46,.v (.c (.elm [.int .i64 (gl e ((gl a b.toNat).crop_).toNat).marks_]))),(47,vi (gl e ((gl a b.toNat).crop_).toNat).marks_),(48,vi i),(49,vi (band .i64 ((gl e ((gl a b.toNat).crop_).toNat).marks_) i)),(50,vi i),(51,vb ((band .i64 ((gl e ((gl a b.toNat).crop_).toNat).marks_) i)==i)),(52,vb ((band .i64 ((gl e ((gl a b.toNat).crop_).toNat).marks_) i)==i)),(53,vb ((band .i64 ((gl e ((gl a b.toNat).crop_).toNat).marks_) i)==i))] [(13,bx [ci ((gl a b.toNat).year_),ci ((gl a b.toNat).crop_),.d (DL (α:=Rect) (gl a b.toNat).region_.rects_)])] (cA (ALe.bool o) (cA (ALe.bool q) (cA (ALe.bool u) (cT T)))) ?_
        exact Kn.R Fm (p ((band .i64 ((gl e ((gl a b.toNat).crop_).toNat).marks_) i)==i) h)
      ·obtain ⟨A,h⟩:=gS h
       rcases br_or h with ⟨t,h⟩|⟨t,h⟩
       ·rcases br_or h with ⟨y,h⟩|⟨y,h⟩
        ·refine AW.pN Fm [.s,.s,.s,.s,.w (vb true),.s,.s,.w (vb false),.s,.s,.s,.s,.s,.s,.s,.s,.s,.s,.w (vb true),.s,.s,.w (vb true),.s,.s,.s,.s,.s,.s,.s,.s,.s,.s,.s,.s] [(1,AL e),(2,vi l),(3,vi j),(4,vi i),(11,AL n),(13,pt 13),(14,AL a),(15,vi (lI a)),(16,vi b),(25,vi j),(26,vb (decide (j<(0:Int)))),(27,vb false),(28,AL e),(29,.v (.c (.ptr 13 1))),(30,vi (gl a b.toNat).crop_),(31,.v (.c (.elm [.str (gl e ((gl a b.toNat).crop_).toNat).name_,.int .i64 (gl e ((gl a b.toNat).crop_).toNat).family_,.int .i64 (gl e ((gl a b.toNat).crop_).toNat).marks_]))),(32,.v (.c (.elm [.int .i64 (gl e ((gl a b.toNat).crop_).toNat).family_,.int .i64 (gl e ((gl a b.toNat).crop_).toNat).marks_]))),(33,vi (gl e ((gl a b.toNat).crop_).toNat).family_),(34,vi j),(35,vb (((gl e ((gl a b.toNat).crop_).toNat).family_)==j)),(36,vb (((gl e ((gl a b.toNat).crop_).toNat).family_)==j)),(39,vi i),(40,vb (i==(0:Int))),(41,vb true),(52,vb true),(53,vb true)] [(13,bx [ci ((gl a b.toNat).year_),ci ((gl a b.toNat).crop_),.d (DL (α:=Rect) (gl a b.toNat).region_.rects_)])] (cA (ALe.bool o) (cA (ALe.bool q) (cA A (cA (ALe.bool t) (cT (ALe.bool y)))))) ?_
         exact Kn.R Fm (p true h)
        ·obtain ⟨U,h⟩:=gS h
         refine AW.pN Fm [.s,.s,.s,.s,.w (vb true),.s,.s,.w (vb false),.s,.s,.s,.s,.s,.s,.s,.s,.s,.s,.w (vb true),.s,.s,.w (vb false),.s,.s,.s,.s,.s,.s,.s,.s,.s,.s,.s,.s] [(1,AL e),(2,vi l),(3,vi j),(4,vi i),(11,AL n),(13,pt 13),(14,AL a),(15,vi (lI a)),(16,vi b),(25,vi j),(26,vb (decide (j<(0:Int)))),(27,vb false),(28,AL e),(29,.v (.c (.ptr 13 1))),(30,vi (gl a b.toNat).crop_),(31,.v (.c (.elm [.str (gl e ((gl a b.toNat).crop_).toNat).name_,.int .i64 (gl e ((gl a b.toNat).crop_).toNat).family_,.int .i64 (gl e ((gl a b.toNat).crop_).toNat).marks_]))),(32,.v (.c (.elm [.int .i64 (gl e ((gl a b.toNat).crop_).toNat).family_,.int .i64 (gl e ((gl a b.toNat).crop_).toNat).marks_]))),(33,vi (gl e ((gl a b.toNat).crop_).toNat).family_),(34,vi j),(35,vb (((gl e ((gl a b.toNat).crop_).toNat).family_)==j)),(36,vb (((gl e ((gl a b.toNat).crop_).toNat).family_)==j)),(39,vi i),(40,vb (i==(0:Int))),(41,vb false),(42,AL e),(43,.v (.c (.ptr 13 1))),(44,vi (gl a b.toNat).crop_),(45,.v (.c (.elm [.str (gl e ((gl a b.toNat).crop_).toNat).name_,.int .i64 (gl e ((gl a b.toNat).crop_).toNat).family_,.int .i64 (gl e ((gl a b.toNat).crop_).toNat).marks_]))),(46,.v (.c (.elm [.int .i64 (gl e ((gl a b.toNat).crop_).toNat).marks_]))),(47,vi (gl e ((gl a b.toNat).crop_).toNat).marks_),(48,vi i),(49,vi (band .i64 ((gl e ((gl a b.toNat).crop_).toNat).marks_) i)),(50,vi i),(51,vb ((band .i64 ((gl e ((gl a b.toNat).crop_).toNat).marks_) i)==i)),(52,vb ((band .i64 ((gl e ((gl a b.toNat).crop_).toNat).marks_) i)==i)),(53,vb ((band .i64 ((gl e ((gl a b.toNat).crop_).toNat).marks_) i)==i))] [(13,bx [ci ((gl a b.toNat).year_),ci ((gl a b.toNat).crop_),.d (DL (α:=Rect) (gl a b.toNat).region_.rects_)])] (cA (ALe.bool o) (cA (ALe.bool q) (cA A (cA (ALe.bool t) (cA (ALe.bool y) (cT U)))))) ?_
         exact Kn.R Fm (p ((band .i64 ((gl e ((gl a b.toNat).crop_).toNat).marks_) i)==i) h)
       ·refine AW.pN Fm [.s,.s,.s,.s,.w (vb true),.s,.s,.w (vb false),.s,.s,.s,.s,.s,.s,.s,.s,.s,.s,.w (vb false),.s,.s,.s,.s,.s,.s,.s,.s,.s,.s,.s,.s,.s,.s,.s] [(1,AL e),(2,vi l),(3,vi j),(4,vi i),(11,AL n),(13,pt 13),(14,AL a),(15,vi (lI a)),(16,vi b),(25,vi j),(26,vb (decide (j<(0:Int)))),(27,vb false),(28,AL e),(29,.v (.c (.ptr 13 1))),(30,vi (gl a b.toNat).crop_),(31,.v (.c (.elm [.str (gl e ((gl a b.toNat).crop_).toNat).name_,.int .i64 (gl e ((gl a b.toNat).crop_).toNat).family_,.int .i64 (gl e ((gl a b.toNat).crop_).toNat).marks_]))),(32,.v (.c (.elm [.int .i64 (gl e ((gl a b.toNat).crop_).toNat).family_,.int .i64 (gl e ((gl a b.toNat).crop_).toNat).marks_]))),(33,vi (gl e ((gl a b.toNat).crop_).toNat).family_),(34,vi j),(35,vb (((gl e ((gl a b.toNat).crop_).toNat).family_)==j)),(36,vb (((gl e ((gl a b.toNat).crop_).toNat).family_)==j)),(53,vb false)] [(13,bx [ci ((gl a b.toNat).year_),ci ((gl a b.toNat).crop_),.d (DL (α:=Rect) (gl a b.toNat).region_.rects_)])] (cA (ALe.bool o) (cA (ALe.bool q) (cA A (cT (ALe.bool t))))) ?_
        exact Kn.R Fm (p false h)
     ·refine AW.pN Fm [.s,.s,.s,.s,.w (vb false),.s,.s,.s,.s,.s,.s,.s,.s,.s,.s,.s,.s,.s,.s,.s,.s,.s,.s,.s,.s,.s,.s,.s,.s,.s,.s,.s,.s,.s] [(1,AL e),(2,vi l),(3,vi j),(4,vi i),(11,AL n),(13,pt 13),(14,AL a),(15,vi (lI a)),(16,vi b),(53,vb false)] [(13,bx [ci ((gl a b.toNat).year_),ci ((gl a b.toNat).crop_),.d (DL (α:=Rect) (gl a b.toNat).region_.rects_)])] (cT (ALe.bool o)) ?_
      exact Kn.R Fm (p false h)
  ·exact AW.exit (Kn.R Fm (M n h))
theorem ref15_Known_spec {F:Nat} {b:(List Record)} {a:Int} {r:Region×Int} (h:ref15_Known F b a=some r) :
  FSpec Tryz.prog 33 [AL b,vi a] [] (.t [.g [.d (DL (α:=Rect) r.1.rects_)],.c (ci r.2)]) []:=by
 refine FI Tryz.func33 prog_mixed prog_lay fun C Fm=>?_
 unfold ref15_Known at h
 refine AW.SG0 Fm 2 [(0,AL b),(1,vi a),(4,pt 4)] [(4,bx [.fl 0 fun _=>[]])] ?_
 refine AW.seq (AW.seq ?_)
 obtain ⟨e,o,h⟩:=bS h
 refine AW.G Fm [.s,.k (cE [] [] (vi e) [] []),.s] (fun K=>K 1∧True) [(0,AL b),(1,vi a),(4,pt 4),(6,vi e)] [(4,bx [.fl 0 fun _=>[]])] ⟨KAt.CC (ref15_Check_spec o) Tryz.call25 [],⟨⟩⟩ ?_
 refine AW.SG0 Fm 2 [(0,AL b),(1,vi a),(4,pt 4),(6,vi e),(10,vb (e != (0:Int)))] [(4,bx [.fl 0 fun _=>[]])] ?_
 refine AW.cN h (fun m h=>?_) (fun m h=>?_)
 ·refine AW.SP Fm [.w (.v (.g [.d (DL (α:=Rect) [])])),.s,.s,.s] [(4,pt 4),(5,vi e)] [(4,bx [.d (DL (α:=Rect) [])])] (cT (ALe.g ⟨CLe.fl .nil,⟨⟩⟩ : ALe (.v (.g [.fl 0 fun _=>[]])) (.v (.g [.d (DL (α:=Rect) [])])))) ?_
  refine AW.ret ?_
  obtain rfl:=Option.some.inj h
  exact Kn.D Fm
 ·refine AW.skip (AW.seq (AW.join (r:=r) (fun z:Bool=>ref15_Known_k0 F b a z) (fun z=>[(0,AL b),(1,vi a),(4,pt 4),(18,vb z)]) (fun z=>[(4,bx [.fl 0 fun _=>[]])]) (fun B h=>?_) (fun A l=>?_)))
  ·refine AW.cN h (fun n h=>?_) (fun n h=>?_)
   ·refine AW.SP Fm [.w (.v (.g [.d (DL (α:=Rect) [])])),.s,.s] [(4,pt 4),(5,vi 18)] [(4,bx [.d (DL (α:=Rect) [])])] (cT (ALe.g ⟨CLe.fl .nil,⟨⟩⟩ : ALe (.v (.g [.fl 0 fun _=>[]])) (.v (.g [.d (DL (α:=Rect) [])])))) ?_
    refine AW.ret ?_
    obtain rfl:=Option.some.inj h
    exact Kn.D Fm
   ·refine AW.skip (AW.seq ?_)
    obtain ⟨y,q,h⟩:=bS h
    obtain ⟨i,u,h⟩:=bS h
    refine AW.G Fm [.s,.s,.k (cE [] [] (AL y) [] []),.k (cE [] [] (.t [.g [.d (DL i.1.rects_)],.c (ci i.2)]) [] []),.s,.s,.s,.s] (fun K=>K 2∧K 3∧True) [(4,pt 4),(5,vi i.2)] [(4,bx [.d (DL i.1.rects_)])] ⟨KAt.callX (ref15_Squares_spec q) Tryz.call119 [] [] [.tmp 20,.const (.slice none 0 0),.tmp 21,.const (.int .i64 (-1)),.const (.int .i64 0)] rfl (by kernel_rfl) (by kernel_rfl) (by kernel_rfl) ⟨.p,ArgT.plain (by kernel_rfl) (ALe.c (CLe.fl .nil)) (by kernel_rfl),.p,.p,.p,⟨⟩⟩,KAt.CC (ref04_Bound_spec u) Tryz.call118 [],⟨⟩⟩ ?_
    refine AW.ret ?_
    obtain rfl:=Option.some.inj h
    exact Kn.D Fm
  ·rcases br_or h with ⟨j,h⟩|⟨j,h⟩
   ·refine AW.pN Fm [.s,.s,.w (vb true),.s,.s,.s] [(0,AL b),(1,vi a),(4,pt 4),(18,vb true)] [(4,bx [.fl 0 fun _=>[]])] (cT (ALe.bool j)) ?_
    exact Kn.R Fm (l true h)
   ·refine AW.pN Fm [.s,.s,.w (vb false),.s,.s,.s] [(0,AL b),(1,vi a),(4,pt 4),(18,vb (decide ((100:Int)<a)))] [(4,bx [.fl 0 fun _=>[]])] (cT (ALe.bool j)) ?_
    exact Kn.R Fm (l (decide ((100:Int)<a)) h)
theorem ref15_At_spec {F:Nat} {a:(List Record)} {j:Int} {e:Int} {i:Int} {r:Int} (h:ref15_At F a j e i=some r) :
  FSpec Tryz.prog 35 [AL a,vi j,vi e,vi i] [] (vi r) []:=by
 refine FI Tryz.func35 prog_mixed prog_lay fun C Fm=>?_
 unfold ref15_At at h
 refine AW.SG0 Fm 1 [(0,AL a),(1,vi j),(2,vi e),(3,vi i)] [] ?_
 refine AW.seq (AW.seq ?_)
 obtain ⟨o,H,h⟩:=bS h
 refine AW.G Fm [.s,.k (cE [] [] (vi o) [] []),.s] (fun K=>K 1∧True) [(0,AL a),(1,vi j),(2,vi e),(3,vi i),(13,vb (o != (0:Int)))] [] ⟨KAt.CC (ref15_Check_spec H) Tryz.call25 [],⟨⟩⟩ ?_
 refine AW.cN h (fun u h=>?_) (fun u h=>?_)
 ·refine AW.SG0 Fm 1 [(8,vi (-1:Int))] [] ?_
  refine AW.ret ?_
  obtain rfl:=Option.some.inj h
  exact Kn.D Fm
 ·refine AW.skip (AW.join (r:=r) (fun z:Unit=>ref15_At_k2 F) (fun z=>[]) (fun z=>[]) (fun z h=>?_) (fun N t=>?_))
  ·refine AW.SG0 Fm 1 [(8,vi (-1:Int))] [] ?_
   refine AW.ret ?_
   obtain rfl:=Option.some.inj h
   exact Kn.D Fm
  ·refine AW.SG0 Fm 3 [(1,vi j),(2,vi e),(3,vi i),(14,AL a),(15,vi (lI a)),(16,vi 0)] [] ?_
   refine AW.block (AW.loopF (E' := fun z=>[(1,vi j),(2,vi e),(3,vi i),(14,AL a),(15,vi (lI a)),(16,vi z)]) (S' := fun z=>[]) (fun p b L q h=>?_) h)
   refine AW.SG0 Fm 1 [(1,vi j),(2,vi e),(3,vi i),(14,AL a),(15,vi (lI a)),(16,vi b),(17,vb (decide (b<(lI a))))] [] ?_
   refine AW.seq (AW.cN h (fun y h=>?_) (fun y h=>?_))
   ·refine AW.skip (AW.seq (AW.block ?_))
    obtain ⟨B,h⟩:=gS h
    refine AW.SP Fm [.s,.s,.s,.s] [(1,vi j),(2,vi e),(3,vi i),(10,pt 10),(14,AL a),(15,vi (lI a)),(16,vi b)] [(10,bx [ci ((gl a b.toNat).year_),ci ((gl a b.toNat).crop_),.d (DL (α:=Rect) (gl a b.toNat).region_.rects_)])] (cT B) ?_
    refine AW.join (r:=r) (fun z:Bool=>ref15_At_k1 F a b p z) (fun z=>[(1,vi j),(2,vi e),(3,vi i),(10,pt 10),(14,AL a),(15,vi (lI a)),(16,vi b),(30,vb z)]) (fun z=>[(10,bx [ci ((gl a b.toNat).year_),ci ((gl a b.toNat).crop_),.d (DL (α:=Rect) (gl a b.toNat).region_.rects_)])]) (fun O h=>?_) (fun M n=>?_)
    ·refine AW.cN h (fun A h=>?_) (fun A h=>?_)
     ·refine AW.SG0 Fm 3 [(8,vi (gl a b.toNat).crop_)] [] ?_
      refine AW.ret ?_
      obtain rfl:=Option.some.inj h
      exact Kn.D Fm
     ·refine AW.skip ?_
      obtain ⟨E,h⟩:=gS h
      refine AW.pN Fm [.s,.s] [(1,vi j),(2,vi e),(3,vi i),(14,AL a),(15,vi (lI a)),(16,vi (b+1))] [] (cT (cT E)) ?_
      exact Kn.R Fm (q (b+1) h)
    ·rcases br_or h with ⟨m,h⟩|⟨m,h⟩
     ·obtain ⟨l,I,h⟩:=bS h
      refine AW.G Fm [.s,.s,.s,.s,.w (vb true),.s,.s,.s,.s,.k (cE [] [] (vb l) [] []),.s] (fun K=>_∧K 9∧True) [(1,vi j),(2,vi e),(3,vi i),(10,pt 10),(14,AL a),(15,vi (lI a)),(16,vi b),(25,.v (.c (.ptr 10 2))),(26,.v (.g [.d (DL (α:=Rect) (gl a b.toNat).region_.rects_)])),(27,vi e),(28,vi i),(29,vb l),(30,vb l)] [(10,bx [ci ((gl a b.toNat).year_),ci ((gl a b.toNat).crop_),.d (DL (α:=Rect) (gl a b.toNat).region_.rects_)])] ⟨ALe.bool m,KAt.CC (ref04_Has_spec I) Tryz.call19 [],⟨⟩⟩ ?_
      exact Kn.R Fm (n l h)
     ·refine AW.pN Fm [.s,.s,.s,.s,.w (vb false),.s,.s,.s,.s,.s,.s] [(1,vi j),(2,vi e),(3,vi i),(10,pt 10),(14,AL a),(15,vi (lI a)),(16,vi b),(30,vb false)] [(10,bx [ci ((gl a b.toNat).year_),ci ((gl a b.toNat).crop_),.d (DL (α:=Rect) (gl a b.toNat).region_.rects_)])] (cT (ALe.bool m)) ?_
      exact Kn.R Fm (n false h)
   ·exact AW.exit (Kn.R Fm (t () h))
theorem words_Name_spec {F:Nat} {b:ByteArray} {r:Bool} (h:words_Name F b=some r) :
  FSpec Tryz.prog 257 [.v (.c (.d (.str b)))] [] (vb r) []:=by
 refine FI Tryz.func257 prog_mixed prog_lay fun C Fm=>?_
 unfold words_Name at h
 refine AW.SG0 Fm 1 [(0,.v (.c (.d (.str b))))] [] ?_
 refine AW.join (r:=r) (fun z:Unit=>words_Name_k4 F b) (fun z=>[(0,.v (.c (.d (.str b))))]) (fun z=>[]) (fun z h=>?_) (fun Z M=>?_)
 ·refine AW.join (r:=r) (fun z:Bool=>words_Name_k5 F z) (fun z=>[(2,vb z)]) (fun z=>[]) (fun c0 h=>?_) (fun a0 E=>?_)
  ·refine AW.ret ?_
   obtain rfl:=Option.some.inj h
   exact Kn.D Fm
  ·rcases br_or h with ⟨y,h⟩|⟨y,h⟩
   ·refine AW.pN Fm [.s,.s,.s,.w (vb true),.s,.s,.s,.s,.s] [(2,vb (decide (((b.size:Nat):Int)≤(12:Int))))] [] (cT (ALe.bool y)) ?_
    exact Kn.R Fm (E (decide (((b.size:Nat):Int)≤(12:Int))) h)
   ·refine AW.pN Fm [.s,.s,.s,.w (vb false),.s,.s,.s,.s,.s] [(2,vb false)] [] (cT (ALe.bool y)) ?_
    exact Kn.R Fm (E false h)
 ·refine AW.SG0 Fm 3 [(0,.v (.c (.d (.str b)))),(7,vi ((b.size:Nat):Int)),(8,vi 0)] [] ?_
  refine AW.block (AW.loopF (E' := fun z=>[(0,.v (.c (.d (.str b)))),(7,vi ((b.size:Nat):Int)),(8,vi z)]) (S' := fun z=>[]) (fun n e V L h=>?_) h)
  refine AW.SG0 Fm 1 [(0,.v (.c (.d (.str b)))),(7,vi ((b.size:Nat):Int)),(8,vi e),(9,vb (decide (e<((b.size:Nat):Int))))] [] ?_
  refine AW.seq (AW.cN h (fun N h=>?_) (fun N h=>?_))
  ·refine AW.skip (AW.seq (AW.block (AW.SG0 Fm 2 [(0,.v (.c (.d (.str b)))),(3,vi e),(7,vi ((b.size:Nat):Int)),(8,vi e)] [] ?_)))
   refine AW.join (r:=r) (fun z:Bool=>words_Name_k1 F b e n z) (fun z=>[(0,.v (.c (.d (.str b)))),(3,vi e),(4,vb z),(7,vi ((b.size:Nat):Int)),(8,vi e)]) (fun z=>[]) (fun l h=>?_) (fun W A=>?_)
   ·refine AW.join (r:=r) (fun z:Bool=>words_Name_k2 F e l n z) (fun z=>[(0,.v (.c (.d (.str b)))),(3,vi e),(4,vb l),(5,vb z),(7,vi ((b.size:Nat):Int)),(8,vi e)]) (fun z=>[]) (fun i h=>?_) (fun X B=>?_)
    ·refine AW.join (r:=r) (fun z:Bool=>words_Name_k3 F e n z) (fun z=>[(0,.v (.c (.d (.str b)))),(7,vi ((b.size:Nat):Int)),(8,vi e),(40,vb z)]) (fun z=>[]) (fun b0 h=>?_) (fun Y o=>?_)
     ·refine AW.cN h (fun O h=>?_) (fun O h=>?_)
      ·refine AW.SG0 Fm 1 [(2,vb false)] [] ?_
       refine AW.ret ?_
       obtain rfl:=Option.some.inj h
       exact Kn.D Fm
      ·refine AW.skip ?_
       obtain ⟨U,h⟩:=gS h
       refine AW.pN Fm [.s,.s] [(0,.v (.c (.d (.str b)))),(7,vi ((b.size:Nat):Int)),(8,vi (e+1))] [] (cT (cT U)) ?_
       exact Kn.R Fm (L (e+1) h)
     ·rcases br_or h with ⟨j,h⟩|⟨j,h⟩
      ·rcases br_or h with ⟨u,h⟩|⟨u,h⟩
       ·refine AW.pN Fm [.s,.s,.w (vb true),.s,.s,.w (vb true),.s,.s,.s,.s] [(0,.v (.c (.d (.str b)))),(7,vi ((b.size:Nat):Int)),(8,vi e),(34,vi e),(35,vb (e==(0:Int))),(36,vb true),(39,vb true),(40,vb true)] [] (cA (ALe.bool j) (cT (ALe.bool u))) ?_
        exact Kn.R Fm (o true h)
       ·refine AW.pN Fm [.s,.s,.w (vb true),.s,.s,.w (vb false),.s,.s,.s,.s] [(0,.v (.c (.d (.str b)))),(7,vi ((b.size:Nat):Int)),(8,vi e),(34,vi e),(35,vb (e==(0:Int))),(36,vb false),(37,vb i),(38,vb (!i)),(39,vb (!i)),(40,vb (!i))] [] (cA (ALe.bool j) (cT (ALe.bool u))) ?_
        exact Kn.R Fm (o (!i) h)
      ·refine AW.pN Fm [.s,.s,.w (vb false),.s,.s,.s,.s,.s,.s,.s] [(0,.v (.c (.d (.str b)))),(7,vi ((b.size:Nat):Int)),(8,vi e),(40,vb false)] [] (cT (ALe.bool j)) ?_
       exact Kn.R Fm (o false h)
    ·obtain ⟨I,h⟩:=gS h
     rcases br_or h with ⟨q,h⟩|⟨q,h⟩
     ·obtain ⟨T,h⟩:=gS h
      refine AW.G Fm [.s,.s,.k (sE (.v (.c (.d (.int .u8 (sAt b e)))))),.s,.w (vb true),.s,.s,.k (sE (.v (.c (.d (.int .u8 (sAt b e)))))),.s,.s,.s] (fun K=>K 2∧_∧K 7∧True) [(0,.v (.c (.d (.str b)))),(3,vi e),(4,vb l),(5,vb (decide ((sAt b e)≤(57:Int)))),(7,vi ((b.size:Nat):Int)),(8,vi e),(26,.v (.c (.d (.str b)))),(27,vi e),(28,.v (.c (.d (.int .u8 (sAt b e))))),(29,vb (decide ((sAt b e)≤(57:Int))))] [] ⟨KAt.strI (t:=9) (a:=b) (m:=e) (by kernel_rfl) rfl rfl (by kernel_rfl) (by kernel_rfl) (by kernel_rfl) I,ALe.bool q,KAt.strI (t:=9) (a:=b) (m:=e) (by kernel_rfl) rfl rfl (by kernel_rfl) (by kernel_rfl) (by kernel_rfl) T,⟨⟩⟩ ?_
      exact Kn.R Fm (B (decide ((sAt b e)≤(57:Int))) h)
     ·refine AW.G Fm [.s,.s,.k (sE (.v (.c (.d (.int .u8 (sAt b e)))))),.s,.w (vb false),.s,.s,.s,.s,.s,.s] (fun K=>K 2∧_∧True) [(0,.v (.c (.d (.str b)))),(3,vi e),(4,vb l),(5,vb false),(7,vi ((b.size:Nat):Int)),(8,vi e)] [] ⟨KAt.strI (t:=9) (a:=b) (m:=e) (by kernel_rfl) rfl rfl (by kernel_rfl) (by kernel_rfl) (by kernel_rfl) I,ALe.bool q,⟨⟩⟩ ?_
      exact Kn.R Fm (B false h)
   ·obtain ⟨H,h⟩:=gS h
    rcases br_or h with ⟨p,h⟩|⟨p,h⟩
    ·obtain ⟨P,h⟩:=gS h
     refine AW.G Fm [.s,.s,.k (sE (.v (.c (.d (.int .u8 (sAt b e)))))),.s,.w (vb true),.s,.s,.k (sE (.v (.c (.d (.int .u8 (sAt b e)))))),.s,.s,.s] (fun K=>K 2∧_∧K 7∧True) [(0,.v (.c (.d (.str b)))),(3,vi e),(4,vb (decide ((sAt b e)≤(122:Int)))),(7,vi ((b.size:Nat):Int)),(8,vi e),(16,.v (.c (.d (.str b)))),(17,vi e),(18,.v (.c (.d (.int .u8 (sAt b e))))),(19,vb (decide ((sAt b e)≤(122:Int))))] [] ⟨KAt.strI (t:=9) (a:=b) (m:=e) (by kernel_rfl) rfl rfl (by kernel_rfl) (by kernel_rfl) (by kernel_rfl) H,ALe.bool p,KAt.strI (t:=9) (a:=b) (m:=e) (by kernel_rfl) rfl rfl (by kernel_rfl) (by kernel_rfl) (by kernel_rfl) P,⟨⟩⟩ ?_
     exact Kn.R Fm (A (decide ((sAt b e)≤(122:Int))) h)
    ·refine AW.G Fm [.s,.s,.k (sE (.v (.c (.d (.int .u8 (sAt b e)))))),.s,.w (vb false),.s,.s,.s,.s,.s,.s] (fun K=>K 2∧_∧True) [(0,.v (.c (.d (.str b)))),(3,vi e),(4,vb false),(7,vi ((b.size:Nat):Int)),(8,vi e)] [] ⟨KAt.strI (t:=9) (a:=b) (m:=e) (by kernel_rfl) rfl rfl (by kernel_rfl) (by kernel_rfl) (by kernel_rfl) H,ALe.bool p,⟨⟩⟩ ?_
     exact Kn.R Fm (A false h)
  ·exact AW.exit (Kn.R Fm (M () h))
theorem crop_Check_spec {F:Nat} {e:(List Crop)} {r:Int} (h:crop_Check F e=some r) :
  FSpec Tryz.prog 205 [AL e] [] (vi r) []:=by
 refine FI Tryz.func205 prog_mixed prog_lay fun C Fm=>?_
 unfold crop_Check at h
 refine AW.SG0 Fm 1 [(0,AL e)] [] ?_
 refine AW.seq (AW.SG0 Fm 3 [(0,AL e),(7,vb (decide ((40:Int)<(lI e))))] [] ?_)
 refine AW.cN h (fun A h=>?_) (fun A h=>?_)
 ·refine AW.SG0 Fm 1 [(2,vi 1)] [] ?_
  refine AW.ret ?_
  obtain rfl:=Option.some.inj h
  exact Kn.D Fm
 ·refine AW.skip (AW.join (r:=r) (fun z:Unit=>crop_Check_k4 F) (fun z=>[]) (fun z=>[]) (fun z h=>?_) (fun Y y=>?_))
  ·refine AW.SG0 Fm 1 [(2,vi 0)] [] ?_
   refine AW.ret ?_
   obtain rfl:=Option.some.inj h
   exact Kn.D Fm
  ·refine AW.SG0 Fm 3 [(0,AL e),(8,AL e),(9,vi (lI e)),(10,vi 0)] [] ?_
   refine AW.block (AW.loopF (E' := fun z=>[(0,AL e),(8,AL e),(9,vi (lI e)),(10,vi z)]) (S' := fun z=>[]) (fun j i U u h=>?_) h)
   refine AW.SG0 Fm 1 [(0,AL e),(8,AL e),(9,vi (lI e)),(10,vi i),(11,vb (decide (i<(lI e))))] [] ?_
   refine AW.seq (AW.cN h (fun B h=>?_) (fun B h=>?_))
   ·refine AW.skip (AW.seq (AW.block ?_))
    obtain ⟨M,h⟩:=gS h
    refine AW.SP Fm [.s,.s,.s,.s,.s,.s] [(0,AL e),(3,vi i),(4,pt 4),(8,AL e),(9,vi (lI e)),(10,vi i)] [(4,bx [.d (.str (gl e i.toNat).name_),ci ((gl e i.toNat).family_),ci ((gl e i.toNat).marks_)])] (cT M) ?_
    refine AW.block (AW.seq ?_)
    obtain ⟨t,T,h⟩:=bS h
    refine AW.G Fm [.s,.s,.k (cE [] [] (vb t) [] []),.s,.s] (fun K=>K 2∧True) [(0,AL e),(3,vi i),(4,pt 4),(8,AL e),(9,vi (lI e)),(10,vi i),(15,vb (!t))] [(4,bx [.d (.str (gl e i.toNat).name_),ci ((gl e i.toNat).family_),ci ((gl e i.toNat).marks_)])] ⟨KAt.CC (words_Name_spec T) Tryz.call257 [],⟨⟩⟩ ?_
    refine AW.cN h (fun E h=>?_) (fun E h=>?_)
    ·refine AW.SG0 Fm 1 [(2,vi 5)] [] ?_
     refine AW.ret ?_
     obtain rfl:=Option.some.inj h
     exact Kn.D Fm
    ·refine AW.join (r:=r) (fun z:Bool=>crop_Check_k1 F e i j z) (fun z=>[(0,AL e),(3,vi i),(4,pt 4),(8,AL e),(9,vi (lI e)),(10,vi i),(20,vb z)]) (fun z=>[(4,bx [.d (.str (gl e i.toNat).name_),ci ((gl e i.toNat).family_),ci ((gl e i.toNat).marks_)])]) (fun Z h=>?_) (fun V o=>?_)
     ·refine AW.cN h (fun H h=>?_) (fun H h=>?_)
      ·refine AW.SG0 Fm 1 [(2,vi 2)] [] ?_
       refine AW.ret ?_
       obtain rfl:=Option.some.inj h
       exact Kn.D Fm
      ·refine AW.join (r:=r) (fun z:Bool=>crop_Check_k2 F e i j z) (fun z=>[(0,AL e),(3,vi i),(4,pt 4),(8,AL e),(9,vi (lI e)),(10,vi i),(29,vb z)]) (fun z=>[(4,bx [.d (.str (gl e i.toNat).name_),ci ((gl e i.toNat).family_),ci ((gl e i.toNat).marks_)])]) (fun a0 h=>?_) (fun W p=>?_)
       ·refine AW.cN h (fun I h=>?_) (fun I h=>?_)
        ·refine AW.SG0 Fm 1 [(2,vi 14)] [] ?_
         refine AW.ret ?_
         obtain rfl:=Option.some.inj h
         exact Kn.D Fm
        ·refine AW.join (r:=r) (fun z:Bool=>crop_Check_k3 F i j z) (fun z=>[(0,AL e),(8,AL e),(9,vi (lI e)),(10,vi i),(38,vb z)]) (fun z=>[]) (fun b0 h=>?_) (fun X q=>?_)
         ·refine AW.cN h (fun L h=>?_) (fun L h=>?_)
          ·refine AW.SG0 Fm 1 [(2,vi 6)] [] ?_
           refine AW.ret ?_
           obtain rfl:=Option.some.inj h
           exact Kn.D Fm
          ·refine AW.skip ?_
           obtain ⟨P,h⟩:=gS h
           refine AW.pN Fm [.s,.s] [(0,AL e),(8,AL e),(9,vi (lI e)),(10,vi (i+1))] [] (cT (cT P)) ?_
           exact Kn.R Fm (u (i+1) h)
         ·rcases br_or h with ⟨n,h⟩|⟨n,h⟩
          ·obtain ⟨N,O,h⟩:=gS2 h
           refine AW.G Fm [.s,.s,.w (vb true),.s,.s,.s,.s,.s,.s,.s,.s,.k (sE (vb (sLt ((gl e i.toNat).name_) ((gl e (i-1).toNat).name_)||sEq ((gl e i.toNat).name_) ((gl e (i-1).toNat).name_)))),.s,.s] (fun K=>_∧(_∧True)∧_∧K 11∧True) [(0,AL e),(8,AL e),(9,vi (lI e)),(10,vi i),(38,vb (sLt ((gl e i.toNat).name_) ((gl e (i-1).toNat).name_)||sEq ((gl e i.toNat).name_) ((gl e (i-1).toNat).name_))),(42,pt 4),(43,.v (.c (.d (.str (gl e i.toNat).name_)))),(44,AL e),(45,vi i),(46,vi (i-1)),(47,.v (.c (.elm [.str (gl e (i-1).toNat).name_,.int .i64 (gl e (i-1).toNat).family_,.int .i64 (gl e (i-1).toNat).marks_]))),(48,.v (.c (.elm [.str (gl e (i-1).toNat).name_,.int .i64 (gl e (i-1).toNat).family_,.int .i64 (gl e (i-1).toNat).marks_]))),(49,.v (.c (.d (.str (gl e (i-1).toNat).name_)))),(50,vb (sLt ((gl e i.toNat).name_) ((gl e (i-1).toNat).name_)||sEq ((gl e i.toNat).name_) ((gl e (i-1).toNat).name_)))] [(4,bx [.d (.str (gl e i.toNat).name_),ci ((gl e i.toNat).family_),ci ((gl e i.toNat).marks_)])] ⟨ALe.bool n,⟨N,⟨⟩⟩,O,KAt.strC (op:=.leq) (a:=((gl e i.toNat).name_)) (b:=((gl e (i-1).toNat).name_)) rfl rfl (by kernel_rfl) (by kernel_rfl) (by kernel_rfl) rfl,⟨⟩⟩ ?_
           exact Kn.R Fm (q (sLt ((gl e i.toNat).name_) ((gl e (i-1).toNat).name_)||sEq ((gl e i.toNat).name_) ((gl e (i-1).toNat).name_)) h)
          ·refine AW.pN Fm [.s,.s,.w (vb false),.s,.s,.s,.s,.s,.s,.s,.s,.s,.s,.s] [(0,AL e),(8,AL e),(9,vi (lI e)),(10,vi i),(38,vb false)] [] (cT (ALe.bool n)) ?_
           exact Kn.R Fm (q false h)
       ·rcases br_or h with ⟨m,h⟩|⟨m,h⟩
        ·refine AW.pN Fm [.s,.s,.s,.w (vb true),.s,.s,.s,.s,.s] [(0,AL e),(3,vi i),(4,pt 4),(8,AL e),(9,vi (lI e)),(10,vi i),(29,vb true)] [(4,bx [.d (.str (gl e i.toNat).name_),ci ((gl e i.toNat).family_),ci ((gl e i.toNat).marks_)])] (cT (ALe.bool m)) ?_
         exact Kn.R Fm (p true h)
        ·refine AW.pN Fm [.s,.s,.s,.w (vb false),.s,.s,.s,.s,.s] [(0,AL e),(3,vi i),(4,pt 4),(8,AL e),(9,vi (lI e)),(10,vi i),(29,vb (decide ((31:Int)<((gl e i.toNat).marks_)))),(34,.v (.c (.ptr 4 2))),(35,vi (gl e i.toNat).marks_),(36,vb (decide ((31:Int)<((gl e i.toNat).marks_))))] [(4,bx [.d (.str (gl e i.toNat).name_),ci ((gl e i.toNat).family_),ci ((gl e i.toNat).marks_)])] (cT (ALe.bool m)) ?_
         exact Kn.R Fm (p (decide ((31:Int)<((gl e i.toNat).marks_))) h)
     ·rcases br_or h with ⟨l,h⟩|⟨l,h⟩
      ·refine AW.pN Fm [.s,.s,.s,.w (vb true),.s,.s,.s,.s,.s] [(0,AL e),(3,vi i),(4,pt 4),(8,AL e),(9,vi (lI e)),(10,vi i),(20,vb true)] [(4,bx [.d (.str (gl e i.toNat).name_),ci ((gl e i.toNat).family_),ci ((gl e i.toNat).marks_)])] (cT (ALe.bool l)) ?_
       exact Kn.R Fm (o true h)
      ·refine AW.pN Fm [.s,.s,.s,.w (vb false),.s,.s,.s,.s,.s] [(0,AL e),(3,vi i),(4,pt 4),(8,AL e),(9,vi (lI e)),(10,vi i),(20,vb (decide ((40:Int)<((gl e i.toNat).family_)))),(25,.v (.c (.ptr 4 1))),(26,vi (gl e i.toNat).family_),(27,vb (decide ((40:Int)<((gl e i.toNat).family_))))] [(4,bx [.d (.str (gl e i.toNat).name_),ci ((gl e i.toNat).family_),ci ((gl e i.toNat).marks_)])] (cT (ALe.bool l)) ?_
       exact Kn.R Fm (o (decide ((40:Int)<((gl e i.toNat).family_))) h)
   ·exact AW.exit (Kn.R Fm (y () h))
theorem history_Listed_1_spec {F:Nat} {b:Record} {a:(List Crop)} {r:Bool} (h:history_Listed_1 F b a=some r) :
  FSpec Tryz.prog 206 [gE b,pt 0] [(0,.box true [.d (DL a)])] (vb r) [(0,.box true [.d (DL a)])]:=by
 refine FI Tryz.func206 prog_mixed prog_lay fun C Fm=>?_
 unfold history_Listed_1 at h
 refine AW.SG0 Fm 2 [(1,pt 0),(2,pt 2)] [(0,.box true [.d (DL a)]),(2,bx (gC b))] ?_
 refine AW.SG0 Fm 6 [(3,vb (decide ((lI a)≤b.crop_)))] [(0,.box true [.d (DL a)])] ?_
 refine AW.ret ?_
 obtain rfl:=Option.some.inj h
 exact Kn.D Fm
theorem history_Listed_spec {F:Nat} {b:(List Record)} {a:(List Crop)} {r:Int} (h:history_Listed F b a=some r) :
  FSpec Tryz.prog 121 [AL b,AL a] [] (vi r) []:=by
 refine FI Tryz.func121 prog_mixed prog_lay fun C Fm=>?_
 unfold history_Listed at h
 refine AW.SG0 Fm 2 [(0,AL b),(3,pt 3)] [(3,bx [.d (DL a)])] ?_
 refine AW.seq (AW.seq ?_)
 obtain ⟨c,n,h⟩:=bS h
 refine AW.G Fm [.s,.k (cE [] [] (vi c) [] []),.s] (fun K=>K 1∧True) [(0,AL b),(3,pt 3),(5,vi c)] [(3,bx [.d (DL a)])] ⟨KAt.CC (history_Check_spec n) Tryz.call18 [],⟨⟩⟩ ?_
 refine AW.SG0 Fm 2 [(0,AL b),(3,pt 3),(5,vi c),(10,vb (c != (0:Int)))] [(3,bx [.d (DL a)])] ?_
 refine AW.cN h (fun j h=>?_) (fun j h=>?_)
 ·refine AW.SG0 Fm 2 [(4,vi c)] [] ?_
  refine AW.ret ?_
  obtain rfl:=Option.some.inj h
  exact Kn.D Fm
 ·refine AW.skip (AW.seq (AW.seq ?_))
  obtain ⟨e,o,h⟩:=bS h
  refine AW.G Fm [.s,.k (cE [] [] (vi e) [] []),.s] (fun K=>K 1∧True) [(0,AL b),(3,pt 3),(6,vi e)] [(3,bx [.d (DL a)])] ⟨KAt.CC (crop_Check_spec o) Tryz.call205 [],⟨⟩⟩ ?_
  refine AW.SG0 Fm 2 [(0,AL b),(3,pt 3),(6,vi e),(15,vb (e != (0:Int)))] [(3,bx [.d (DL a)])] ?_
  refine AW.cN h (fun l h=>?_) (fun l h=>?_)
  ·refine AW.SG0 Fm 2 [(4,vi e)] [] ?_
   refine AW.ret ?_
   obtain rfl:=Option.some.inj h
   exact Kn.D Fm
  ·refine AW.skip (AW.seq (AW.seq ?_))
   obtain ⟨i,q,h⟩:=bS h
   refine AW.G Fm [.s,.s,.k (cE [] [3] (vb i) [] [])] (fun K=>K 2∧True) [(19,vb i)] [] ⟨KAt.callX (slices_ContainsFunc_Record_spec q) Tryz.call101 [] [3] [.tmp 17,.tmp 18] rfl (by kernel_rfl) (by kernel_rfl) (by kernel_rfl) ⟨.p,ArgT.cloX Tryz.call206 [[.d (DL a)]] (fun args r hq=>by obtain ⟨y0,y,hq,rfl,rfl⟩:=hq; exact Eq.mp (by kernel_rfl) (history_Listed_1_spec hq)) (fun args r hq=>by obtain ⟨y0,y,hq,rfl,rfl⟩:=hq; rfl) (by kernel_rfl) [3] (by kernel_rfl) (by kernel_rfl) (⟨⟨false,(by kernel_rfl)⟩,⟨⟩⟩) (by kernel_rfl),⟨⟩⟩,⟨⟩⟩ ?_
   refine AW.cN h (fun m h=>?_) (fun m h=>?_)
   ·refine AW.SG0 Fm 1 [(4,vi 13)] [] ?_
    refine AW.ret ?_
    obtain rfl:=Option.some.inj h
    exact Kn.D Fm
   ·refine AW.skip (AW.SG0 Fm 1 [(4,vi 0)] [] ?_)
    refine AW.ret ?_
    obtain rfl:=Option.some.inj h
    exact Kn.D Fm
theorem history_Family_1_spec {F:Nat} {c:Int} {a:(List Crop)} {b:Int} {r:Bool} (h:history_Family_1 F c a b=some r) :
  FSpec Tryz.prog 122 [vi c,pt 0,pt 1] [(0,.box true [.d (DL a)]),(1,.box true [ci b])] (vb r) [(0,.box true [.d (DL a)]),(1,.box true [ci b])]:=by
 refine FI Tryz.func122 prog_mixed prog_lay fun C Fm=>?_
 unfold history_Family_1 at h
 refine AW.SG0 Fm 1 [(0,vi c),(1,pt 0),(2,pt 1)] [(0,.box true [.d (DL a)]),(1,.box true [ci b])] ?_
 obtain ⟨e,h⟩:=gS h
 refine AW.SP Fm [.s,.s,.s,.s,.s,.s,.s,.s] [(4,vb (((gl a c.toNat).family_)==b))] [(0,.box true [.d (DL a)]),(1,.box true [ci b])] (cT e) ?_
 refine AW.ret ?_
 obtain rfl:=Option.some.inj h
 exact Kn.D Fm
theorem history_Family_spec {F:Nat} {e:(List Record)} {b:(List Crop)} {i:Int} {a:Int} {r:Region×Int} (h:history_Family F e b i a=some r) :
  FSpec Tryz.prog 36 [AL e,AL b,vi i,vi a] [] (.t [.g [.d (DL (α:=Rect) r.1.rects_)],.c (ci r.2)]) []:=by
 refine FI Tryz.func36 prog_mixed prog_lay fun C Fm=>?_
 unfold history_Family at h
 refine AW.SG0 Fm 4 [(0,AL e),(2,vi i),(5,pt 5),(7,pt 7),(8,pt 8)] [(5,bx [.d (DL b)]),(7,bx [ci a]),(8,bx [.fl 0 fun _=>[]])] ?_
 refine AW.seq (AW.seq ?_)
 obtain ⟨j,B,h⟩:=bS h
 refine AW.G Fm [.s,.s,.k (cE [] [] (vi j) [] []),.s] (fun K=>K 2∧True) [(0,AL e),(2,vi i),(5,pt 5),(7,pt 7),(8,pt 8),(10,vi j)] [(5,bx [.d (DL b)]),(7,bx [ci a]),(8,bx [.fl 0 fun _=>[]])] ⟨KAt.CC (history_Listed_spec B) Tryz.call121 [],⟨⟩⟩ ?_
 refine AW.SG0 Fm 2 [(0,AL e),(2,vi i),(5,pt 5),(7,pt 7),(8,pt 8),(10,vi j),(15,vb (j != (0:Int)))] [(5,bx [.d (DL b)]),(7,bx [ci a]),(8,bx [.fl 0 fun _=>[]])] ?_
 refine AW.cN h (fun q h=>?_) (fun q h=>?_)
 ·refine AW.SP Fm [.w (.v (.g [.d (DL (α:=Rect) [])])),.s,.s,.s] [(8,pt 8),(9,vi j)] [(8,bx [.d (DL (α:=Rect) [])])] (cT (ALe.g ⟨CLe.fl .nil,⟨⟩⟩ : ALe (.v (.g [.fl 0 fun _=>[]])) (.v (.g [.d (DL (α:=Rect) [])])))) ?_
  refine AW.ret ?_
  obtain rfl:=Option.some.inj h
  exact Kn.D Fm
 ·refine AW.skip (AW.seq (AW.block (AW.seq ?_)))
  obtain ⟨o,E,h⟩:=bS h
  refine AW.G Fm [.s,.k (cE [] [] (vb o) [] []),.s] (fun K=>K 1∧True) [(0,AL e),(2,vi i),(5,pt 5),(7,pt 7),(8,pt 8),(18,vb o)] [(5,bx [.d (DL b)]),(7,bx [ci a]),(8,bx [.fl 0 fun _=>[]])] ⟨KAt.CC (history_wrong_spec E) Tryz.call116 [],⟨⟩⟩ ?_
  refine AW.cN h (fun u h=>?_) (fun u h=>?_)
  ·refine AW.SP Fm [.w (.v (.g [.d (DL (α:=Rect) [])])),.s,.s] [(8,pt 8),(9,vi 18)] [(8,bx [.d (DL (α:=Rect) [])])] (cT (ALe.g ⟨CLe.fl .nil,⟨⟩⟩ : ALe (.v (.g [.fl 0 fun _=>[]])) (.v (.g [.d (DL (α:=Rect) [])])))) ?_
   refine AW.ret ?_
   obtain rfl:=Option.some.inj h
   exact Kn.D Fm
  ·refine AW.join (r:=r) (fun z:Bool=>history_Family_k0 F e b i a z) (fun z=>[(0,AL e),(2,vi i),(5,pt 5),(7,pt 7),(8,pt 8),(22,vb z)]) (fun z=>[(5,bx [.d (DL b)]),(7,bx [ci a]),(8,bx [.fl 0 fun _=>[]])]) (fun N h=>?_) (fun M n=>?_)
   ·refine AW.cN h (fun A h=>?_) (fun A h=>?_)
    ·refine AW.SP Fm [.w (.v (.g [.d (DL (α:=Rect) [])])),.s,.s] [(8,pt 8),(9,vi 2)] [(8,bx [.d (DL (α:=Rect) [])])] (cT (ALe.g ⟨CLe.fl .nil,⟨⟩⟩ : ALe (.v (.g [.fl 0 fun _=>[]])) (.v (.g [.d (DL (α:=Rect) [])])))) ?_
     refine AW.ret ?_
     obtain rfl:=Option.some.inj h
     exact Kn.D Fm
    ·refine AW.skip (AW.seq ?_)
     obtain ⟨L,H,h⟩:=bS h
     obtain ⟨l,I,h⟩:=bS h
     refine AW.G Fm [.s,.s,.s,.k (cE [] [5,7] (AL L) [] []),.k (cE [] [] (.t [.g [.d (DL l.1.rects_)],.c (ci l.2)]) [] []),.s,.s,.s,.s] (fun K=>K 3∧K 4∧True) [(8,pt 8),(9,vi l.2)] [(8,bx [.d (DL l.1.rects_)])] ⟨KAt.callX (history_Rects_spec H) Tryz.call114 [] [5,7] [.tmp 30,.tmp 31,.tmp 32] rfl (by kernel_rfl) (by kernel_rfl) (by kernel_rfl) ⟨.p,.p,ArgT.cloX Tryz.call122 [[.d (DL b)],[ci a]] (fun args r hq=>by obtain ⟨y0,y,hq,rfl,rfl⟩:=hq; exact Eq.mp (by kernel_rfl) (history_Family_1_spec hq)) (fun args r hq=>by obtain ⟨y0,y,hq,rfl,rfl⟩:=hq; rfl) (by kernel_rfl) [5,7] (by kernel_rfl) (by kernel_rfl) (⟨⟨false,(by kernel_rfl)⟩,⟨⟨false,(by kernel_rfl)⟩,⟨⟩⟩⟩) (by kernel_rfl),⟨⟩⟩,KAt.CC (region_Joined_spec I) Tryz.call113 [],⟨⟩⟩ ?_
     refine AW.ret ?_
     obtain rfl:=Option.some.inj h
     exact Kn.D Fm
   ·rcases br_or h with ⟨m,h⟩|⟨m,h⟩
    ·refine AW.pN Fm [.s,.s,.w (vb true),.s,.s,.s,.s] [(0,AL e),(2,vi i),(5,pt 5),(7,pt 7),(8,pt 8),(22,vb true)] [(5,bx [.d (DL b)]),(7,bx [ci a]),(8,bx [.fl 0 fun _=>[]])] (cT (ALe.bool m)) ?_
     exact Kn.R Fm (n true h)
    ·refine AW.pN Fm [.s,.s,.w (vb false),.s,.s,.s,.s] [(0,AL e),(2,vi i),(5,pt 5),(7,pt 7),(8,pt 8),(22,vb (decide ((40:Int)<a)))] [(5,bx [.d (DL b)]),(7,bx [ci a]),(8,bx [.fl 0 fun _=>[]])] (cT (ALe.bool m)) ?_
     exact Kn.R Fm (n (decide ((40:Int)<a)) h)
theorem ref02_Name_spec {F:Nat} {b:ByteArray} {r:Bool} (h:ref02_Name F b=some r) :
  FSpec Tryz.prog 293 [.v (.c (.d (.str b)))] [] (vb r) []:=by
 refine FI Tryz.func293 prog_mixed prog_lay fun C Fm=>?_
 unfold ref02_Name at h
 refine AW.SG0 Fm 1 [(0,.v (.c (.d (.str b))))] [] ?_
 refine AW.seq (AW.join (r:=r) (fun z:Bool=>ref02_Name_k0 F b z) (fun z=>[(0,.v (.c (.d (.str b)))),(21,vb z)]) (fun z=>[]) (fun c0 h=>?_) (fun Y o=>?_))
 ·refine AW.cN h (fun O h=>?_) (fun O h=>?_)
  ·refine AW.SG0 Fm 1 [(2,vb false)] [] ?_
   refine AW.ret ?_
   obtain rfl:=Option.some.inj h
   exact Kn.D Fm
  ·refine AW.skip (AW.join (r:=r) (fun z:Unit=>ref02_Name_k3 F) (fun z=>[]) (fun z=>[]) (fun z h=>?_) (fun b0 N=>?_))
   ·refine AW.SG0 Fm 1 [(2,vb true)] [] ?_
    refine AW.ret ?_
    obtain rfl:=Option.some.inj h
    exact Kn.D Fm
   ·refine AW.SG0 Fm 1 [(0,.v (.c (.d (.str b)))),(3,vi 0)] [] ?_
    refine AW.block (AW.loopF (E' := fun z=>[(0,.v (.c (.d (.str b)))),(3,vi z)]) (S' := fun z=>[]) (fun L e Z M h=>?_) h)
    refine AW.seq (AW.SG0 Fm 4 [(0,.v (.c (.d (.str b)))),(3,vi e),(25,vb (decide (e<((b.size:Nat):Int))))] [] ?_)
    refine AW.cN h (fun P h=>?_) (fun P h=>?_)
    ·refine AW.skip (AW.seq (AW.block (AW.join (r:=r) (fun z:Bool=>ref02_Name_k2 F e L z) (fun z=>[(0,.v (.c (.d (.str b)))),(3,vi e),(49,vb z)]) (fun z=>[]) (fun d0 h=>?_) (fun a0 j=>?_))))
     ·refine AW.cN h (fun T h=>?_) (fun T h=>?_)
      ·refine AW.SG0 Fm 1 [(2,vb false)] [] ?_
       refine AW.ret ?_
       obtain rfl:=Option.some.inj h
       exact Kn.D Fm
      ·refine AW.skip ?_
       obtain ⟨X,h⟩:=gS h
       refine AW.pN Fm [.s,.s,.s] [(0,.v (.c (.d (.str b)))),(3,vi (e+1))] [] (cT (cT X)) ?_
       exact Kn.R Fm (M (e+1) h)
     ·obtain ⟨n,h⟩:=gS h
      rcases br_or h with ⟨i,h⟩|⟨i,h⟩
      ·obtain ⟨H,h⟩:=gS h
       rcases br_or h with ⟨y,h⟩|⟨y,h⟩
       ·refine AW.G Fm [.s,.s,.k (sE (.v (.c (.d (.int .u8 (sAt b e)))))),.s,.w (vb true),.s,.s,.s,.s,.s,.s,.s,.s,.k (sE (.v (.c (.d (.int .u8 (sAt b e)))))),.s,.w (vb true),.s,.s,.s,.s,.s,.s] (fun K=>K 2∧_∧K 13∧_∧True) [(0,.v (.c (.d (.str b)))),(3,vi e),(39,.v (.c (.d (.str b)))),(40,vi e),(41,.v (.c (.d (.int .u8 (sAt b e))))),(42,vb (decide ((sAt b e)<(48:Int)))),(43,vb true),(48,vb true),(49,vb true)] [] ⟨KAt.strI (t:=9) (a:=b) (m:=e) (by kernel_rfl) rfl rfl (by kernel_rfl) (by kernel_rfl) (by kernel_rfl) n,ALe.bool i,KAt.strI (t:=9) (a:=b) (m:=e) (by kernel_rfl) rfl rfl (by kernel_rfl) (by kernel_rfl) (by kernel_rfl) H,ALe.bool y,⟨⟩⟩ ?_
        exact Kn.R Fm (j true h)
       ·obtain ⟨V,h⟩:=gS h
        refine AW.G Fm [.s,.s,.k (sE (.v (.c (.d (.int .u8 (sAt b e)))))),.s,.w (vb true),.s,.s,.s,.s,.s,.s,.s,.s,.k (sE (.v (.c (.d (.int .u8 (sAt b e)))))),.s,.w (vb false),.s,.s,.k (sE (.v (.c (.d (.int .u8 (sAt b e)))))),.s,.s,.s] (fun K=>K 2∧_∧K 13∧_∧K 18∧True) [(0,.v (.c (.d (.str b)))),(3,vi e),(39,.v (.c (.d (.str b)))),(40,vi e),(41,.v (.c (.d (.int .u8 (sAt b e))))),(42,vb (decide ((sAt b e)<(48:Int)))),(43,vb false),(44,.v (.c (.d (.str b)))),(45,vi e),(46,.v (.c (.d (.int .u8 (sAt b e))))),(47,vb (decide ((57:Int)<(sAt b e)))),(48,vb (decide ((57:Int)<(sAt b e)))),(49,vb (decide ((57:Int)<(sAt b e))))] [] ⟨KAt.strI (t:=9) (a:=b) (m:=e) (by kernel_rfl) rfl rfl (by kernel_rfl) (by kernel_rfl) (by kernel_rfl) n,ALe.bool i,KAt.strI (t:=9) (a:=b) (m:=e) (by kernel_rfl) rfl rfl (by kernel_rfl) (by kernel_rfl) (by kernel_rfl) H,ALe.bool y,KAt.strI (t:=9) (a:=b) (m:=e) (by kernel_rfl) rfl rfl (by kernel_rfl) (by kernel_rfl) (by kernel_rfl) V,⟨⟩⟩ ?_
        exact Kn.R Fm (j (decide ((57:Int)<(sAt b e))) h)
      ·obtain ⟨B,h⟩:=gS h
       rcases br_or h with ⟨q,h⟩|⟨q,h⟩
       ·obtain ⟨I,h⟩:=gS h
        rcases br_or h with ⟨A,h⟩|⟨A,h⟩
        ·refine AW.G Fm [.s,.s,.k (sE (.v (.c (.d (.int .u8 (sAt b e)))))),.s,.w (vb false),.s,.s,.k (sE (.v (.c (.d (.int .u8 (sAt b e)))))),.s,.s,.w (vb true),.s,.s,.k (sE (.v (.c (.d (.int .u8 (sAt b e)))))),.s,.w (vb true),.s,.s,.s,.s,.s,.s] (fun K=>K 2∧_∧K 7∧_∧K 13∧_∧True) [(0,.v (.c (.d (.str b)))),(3,vi e),(33,.v (.c (.d (.str b)))),(34,vi e),(35,.v (.c (.d (.int .u8 (sAt b e))))),(36,vb (decide ((122:Int)<(sAt b e)))),(39,.v (.c (.d (.str b)))),(40,vi e),(41,.v (.c (.d (.int .u8 (sAt b e))))),(42,vb (decide ((sAt b e)<(48:Int)))),(43,vb true),(48,vb true),(49,vb true)] [] ⟨KAt.strI (t:=9) (a:=b) (m:=e) (by kernel_rfl) rfl rfl (by kernel_rfl) (by kernel_rfl) (by kernel_rfl) n,ALe.bool i,KAt.strI (t:=9) (a:=b) (m:=e) (by kernel_rfl) rfl rfl (by kernel_rfl) (by kernel_rfl) (by kernel_rfl) B,ALe.bool q,KAt.strI (t:=9) (a:=b) (m:=e) (by kernel_rfl) rfl rfl (by kernel_rfl) (by kernel_rfl) (by kernel_rfl) I,ALe.bool A,⟨⟩⟩ ?_
         exact Kn.R Fm (j true h)
        ·obtain ⟨W,h⟩:=gS h
         refine AW.G Fm [.s,.s,.k (sE (.v (.c (.d (.int .u8 (sAt b e)))))),.s,.w (vb false),.s,.s,.k (sE (.v (.c (.d (.int .u8 (sAt b e)))))),.s,.s,.w (vb true),.s,.s,.k (sE (.v (.c (.d (.int .u8 (sAt b e)))))),.s,.w (vb false),.s,.s,.k (sE (.v (.c (.d (.int .u8 (sAt b e)))))),.s,.s,.s] (fun K=>K 2∧_∧K 7∧_∧K 13∧_∧K 18∧True) [(0,.v (.c (.d (.str b)))),(3,vi e),(33,.v (.c (.d (.str b)))),(34,vi e),(35,.v (.c (.d (.int .u8 (sAt b e))))),(36,vb (decide ((122:Int)<(sAt b e)))),(39,.v (.c (.d (.str b)))),(40,vi e),(41,.v (.c (.d (.int .u8 (sAt b e))))),(42,vb (decide ((sAt b e)<(48:Int)))),(43,vb false),(44,.v (.c (.d (.str b)))),(45,vi e),(46,.v (.c (.d (.int .u8 (sAt b e))))),(47,vb (decide ((57:Int)<(sAt b e)))),(48,vb (decide ((57:Int)<(sAt b e)))),(49,vb (decide ((57:Int)<(sAt b e))))] [] ⟨KAt.strI (t:=9) (a:=b) (m:=e) (by kernel_rfl) rfl rfl (by kernel_rfl) (by kernel_rfl) (by kernel_rfl) n,ALe.bool i,KAt.strI (t:=9) (a:=b) (m:=e) (by kernel_rfl) rfl rfl (by kernel_rfl) (by kernel_rfl) (by kernel_rfl) B,ALe.bool q,KAt.strI (t:=9) (a:=b) (m:=e) (by kernel_rfl) rfl rfl (by kernel_rfl) (by kernel_rfl) (by kernel_rfl) I,ALe.bool A,KAt.strI (t:=9) (a:=b) (m:=e) (by kernel_rfl) rfl rfl (by kernel_rfl) (by kernel_rfl) (by kernel_rfl) W,⟨⟩⟩ ?_
         exact Kn.R Fm (j (decide ((57:Int)<(sAt b e))) h)
       ·refine AW.G Fm [.s,.s,.k (sE (.v (.c (.d (.int .u8 (sAt b e)))))),.s,.w (vb false),.s,.s,.k (sE (.v (.c (.d (.int .u8 (sAt b e)))))),.s,.s,.w (vb false),.s,.s,.s,.s,.s,.s,.s,.s,.s,.s,.s] (fun K=>K 2∧_∧K 7∧_∧True) [(0,.v (.c (.d (.str b)))),(3,vi e),(33,.v (.c (.d (.str b)))),(34,vi e),(35,.v (.c (.d (.int .u8 (sAt b e))))),(36,vb (decide ((122:Int)<(sAt b e)))),(49,vb false)] [] ⟨KAt.strI (t:=9) (a:=b) (m:=e) (by kernel_rfl) rfl rfl (by kernel_rfl) (by kernel_rfl) (by kernel_rfl) n,ALe.bool i,KAt.strI (t:=9) (a:=b) (m:=e) (by kernel_rfl) rfl rfl (by kernel_rfl) (by kernel_rfl) (by kernel_rfl) B,ALe.bool q,⟨⟩⟩ ?_
        exact Kn.R Fm (j false h)
    ·exact AW.exit (Kn.R Fm (N () h))
 ·rcases br_or h with ⟨l,h⟩|⟨l,h⟩
  ·refine AW.pN Fm [.s,.s,.s,.w (vb true),.s,.s,.s,.s,.s,.s,.s,.s,.s,.s,.s,.s,.s,.s] [(0,.v (.c (.d (.str b)))),(21,vb true)] [] (cT (ALe.bool l)) ?_
   exact Kn.R Fm (o true h)
  ·rcases br_or h with ⟨p,h⟩|⟨p,h⟩
   ·refine AW.pN Fm [.s,.s,.s,.w (vb false),.s,.s,.s,.s,.w (vb true),.s,.s,.s,.s,.s,.s,.s,.s,.s] [(0,.v (.c (.d (.str b)))),(21,vb true)] [] (cA (ALe.bool l) (cT (ALe.bool p))) ?_
    exact Kn.R Fm (o true h)
   ·obtain ⟨E,h⟩:=gS h
    rcases br_or h with ⟨u,h⟩|⟨u,h⟩
    ·refine AW.G Fm [.s,.s,.s,.w (vb false),.s,.s,.s,.s,.w (vb false),.s,.k (sE (.v (.c (.d (.int .u8 (sAt b (0:Int))))))),.s,.s,.w (vb true),.s,.s,.s,.s] (fun K=>_∧_∧K 10∧_∧True) [(0,.v (.c (.d (.str b)))),(21,vb true)] [] ⟨ALe.bool l,ALe.bool p,KAt.strI (t:=9) (a:=b) (m:=(0:Int)) (by kernel_rfl) rfl rfl (by kernel_rfl) (by kernel_rfl) (by kernel_rfl) E,ALe.bool u,⟨⟩⟩ ?_
     exact Kn.R Fm (o true h)
    ·obtain ⟨U,h⟩:=gS h
     refine AW.G Fm [.s,.s,.s,.w (vb false),.s,.s,.s,.s,.w (vb false),.s,.k (sE (.v (.c (.d (.int .u8 (sAt b (0:Int))))))),.s,.s,.w (vb false),.s,.k (sE (.v (.c (.d (.int .u8 (sAt b (0:Int))))))),.s,.s] (fun K=>_∧_∧K 10∧_∧K 15∧True) [(0,.v (.c (.d (.str b)))),(21,vb (decide ((122:Int)<(sAt b (0:Int)))))] [] ⟨ALe.bool l,ALe.bool p,KAt.strI (t:=9) (a:=b) (m:=(0:Int)) (by kernel_rfl) rfl rfl (by kernel_rfl) (by kernel_rfl) (by kernel_rfl) E,ALe.bool u,KAt.strI (t:=9) (a:=b) (m:=(0:Int)) (by kernel_rfl) rfl rfl (by kernel_rfl) (by kernel_rfl) (by kernel_rfl) U,⟨⟩⟩ ?_
     exact Kn.R Fm (o (decide ((122:Int)<(sAt b (0:Int)))) h)
theorem ref12_one_spec {F:Nat} {a:Crop} {r:Int} (h:ref12_one F a=some r) :
  FSpec Tryz.prog 258 [gE a] [] (vi r) []:=by
 refine FI Tryz.func258 prog_mixed prog_lay fun C Fm=>?_
 unfold ref12_one at h
 refine AW.SG0 Fm 2 [(1,pt 1)] [(1,bx (gC a))] ?_
 refine AW.seq (AW.block (AW.seq ?_))
 obtain ⟨i,n,h⟩:=bS h
 refine AW.G Fm [.s,.s,.k (cE [] [] (vb i) [] []),.s,.s] (fun K=>K 2∧True) [(1,pt 1),(3,vb (!i))] [(1,bx (gC a))] ⟨KAt.CC (ref02_Name_spec n) Tryz.call293 [],⟨⟩⟩ ?_
 refine AW.cN h (fun j h=>?_) (fun j h=>?_)
 ·refine AW.SG0 Fm 1 [(2,vi 5)] [] ?_
  refine AW.ret ?_
  obtain rfl:=Option.some.inj h
  exact Kn.D Fm
 ·refine AW.join (r:=r) (fun z:Bool=>ref12_one_k0 F a z) (fun z=>[(1,pt 1),(8,vb z)]) (fun z=>[(1,bx (gC a))]) (fun q h=>?_) (fun o d=>?_)
  ·refine AW.cN h (fun l h=>?_) (fun l h=>?_)
   ·refine AW.SG0 Fm 1 [(2,vi 2)] [] ?_
    refine AW.ret ?_
    obtain rfl:=Option.some.inj h
    exact Kn.D Fm
   ·refine AW.join (r:=r) (fun z:Bool=>ref12_one_k1 F z) (fun z=>[(17,vb z)]) (fun z=>[]) (fun t h=>?_) (fun p e=>?_)
    ·refine AW.cN h (fun m h=>?_) (fun m h=>?_)
     ·refine AW.SG0 Fm 1 [(2,vi 14)] [] ?_
      refine AW.ret ?_
      obtain rfl:=Option.some.inj h
      exact Kn.D Fm
     ·refine AW.skip (AW.SG0 Fm 1 [(2,vi 0)] [] ?_)
      refine AW.ret ?_
      obtain rfl:=Option.some.inj h
      exact Kn.D Fm
    ·rcases br_or h with ⟨c,h⟩|⟨c,h⟩
     ·refine AW.pN Fm [.s,.s,.s,.w (vb true),.s,.s,.s,.s,.s] [(17,vb true)] [] (cT (ALe.bool c)) ?_
      exact Kn.R Fm (e true h)
     ·refine AW.pN Fm [.s,.s,.s,.w (vb false),.s,.s,.s,.s,.s] [(17,vb (decide ((31:Int)<a.marks_)))] [] (cT (ALe.bool c)) ?_
      exact Kn.R Fm (e (decide ((31:Int)<a.marks_)) h)
  ·rcases br_or h with ⟨b,h⟩|⟨b,h⟩
   ·refine AW.pN Fm [.s,.s,.s,.w (vb true),.s,.s,.s,.s,.s] [(1,pt 1),(8,vb true)] [(1,bx (gC a))] (cT (ALe.bool b)) ?_
    exact Kn.R Fm (d true h)
   ·refine AW.pN Fm [.s,.s,.s,.w (vb false),.s,.s,.s,.s,.s] [(1,pt 1),(8,vb (decide ((40:Int)<a.family_)))] [(1,bx (gC a))] (cT (ALe.bool b)) ?_
    exact Kn.R Fm (d (decide ((40:Int)<a.family_)) h)
theorem ref12_Check_spec {F:Nat} {e:(List Crop)} {r:Int} (h:ref12_Check F e=some r) :
  FSpec Tryz.prog 207 [AL e] [] (vi r) []:=by
 refine FI Tryz.func207 prog_mixed prog_lay fun C Fm=>?_
 unfold ref12_Check at h
 refine AW.SG0 Fm 1 [(0,AL e)] [] ?_
 refine AW.seq (AW.SG0 Fm 3 [(0,AL e),(8,vb (decide ((40:Int)<(lI e))))] [] ?_)
 refine AW.cN h (fun q h=>?_) (fun q h=>?_)
 ·refine AW.SG0 Fm 1 [(2,vi 1)] [] ?_
  refine AW.ret ?_
  obtain rfl:=Option.some.inj h
  exact Kn.D Fm
 ·refine AW.skip (AW.join (r:=r) (fun z:Unit=>ref12_Check_k2 F) (fun z=>[]) (fun z=>[]) (fun z h=>?_) (fun N p=>?_))
  ·refine AW.SG0 Fm 1 [(2,vi 0)] [] ?_
   refine AW.ret ?_
   obtain rfl:=Option.some.inj h
   exact Kn.D Fm
  ·refine AW.SG0 Fm 3 [(0,AL e),(9,AL e),(10,vi (lI e)),(11,vi 0)] [] ?_
   refine AW.block (AW.loopF (E' := fun z=>[(0,AL e),(9,AL e),(10,vi (lI e)),(11,vi z)]) (S' := fun z=>[]) (fun n i L o h=>?_) h)
   refine AW.SG0 Fm 1 [(0,AL e),(9,AL e),(10,vi (lI e)),(11,vi i),(12,vb (decide (i<(lI e))))] [] ?_
   refine AW.seq (AW.cN h (fun t h=>?_) (fun t h=>?_))
   ·refine AW.skip (AW.seq (AW.block ?_))
    obtain ⟨A,h⟩:=gS h
    refine AW.SP Fm [.s,.s,.s,.s,.s,.s] [(0,AL e),(3,vi i),(4,pt 4),(9,AL e),(10,vi (lI e)),(11,vi i)] [(4,bx [.d (.str (gl e i.toNat).name_),ci ((gl e i.toNat).family_),ci ((gl e i.toNat).marks_)])] (cT A) ?_
    refine AW.seq (AW.seq ?_)
    obtain ⟨j,I,h⟩:=bS h
    refine AW.G Fm [.s,.k (cE [] [] (vi j) [] []),.s] (fun K=>K 1∧True) [(0,AL e),(3,vi i),(4,pt 4),(5,vi j),(9,AL e),(10,vi (lI e)),(11,vi i)] [(4,bx [.d (.str (gl e i.toNat).name_),ci ((gl e i.toNat).family_),ci ((gl e i.toNat).marks_)])] ⟨KAt.CC (ref12_one_spec I) Tryz.call258 [],⟨⟩⟩ ?_
    refine AW.SG0 Fm 2 [(0,AL e),(3,vi i),(4,pt 4),(5,vi j),(9,AL e),(10,vi (lI e)),(11,vi i),(19,vb (j != (0:Int)))] [(4,bx [.d (.str (gl e i.toNat).name_),ci ((gl e i.toNat).family_),ci ((gl e i.toNat).marks_)])] ?_
    refine AW.cN h (fun u h=>?_) (fun u h=>?_)
    ·refine AW.SG0 Fm 2 [(2,vi j)] [] ?_
     refine AW.ret ?_
     obtain rfl:=Option.some.inj h
     exact Kn.D Fm
    ·refine AW.skip (AW.join (r:=r) (fun z:Bool=>ref12_Check_k1 F i n z) (fun z=>[(0,AL e),(9,AL e),(10,vi (lI e)),(11,vi i),(33,vb z)]) (fun z=>[]) (fun O h=>?_) (fun M m=>?_))
     ·refine AW.cN h (fun y h=>?_) (fun y h=>?_)
      ·refine AW.SG0 Fm 1 [(2,vi 6)] [] ?_
       refine AW.ret ?_
       obtain rfl:=Option.some.inj h
       exact Kn.D Fm
      ·refine AW.skip ?_
       obtain ⟨H,h⟩:=gS h
       refine AW.pN Fm [.s,.s] [(0,AL e),(9,AL e),(10,vi (lI e)),(11,vi (i+1))] [] (cT (cT H)) ?_
       exact Kn.R Fm (o (i+1) h)
     ·rcases br_or h with ⟨l,h⟩|⟨l,h⟩
      ·obtain ⟨B,E,h⟩:=gS2 h
       refine AW.G Fm [.s,.s,.w (vb true),.s,.s,.s,.s,.s,.s,.s,.s,.k (sE (vb (sLt ((gl e i.toNat).name_) ((gl e (i-1).toNat).name_)||sEq ((gl e i.toNat).name_) ((gl e (i-1).toNat).name_)))),.s] (fun K=>_∧(_∧True)∧_∧K 11∧True) [(0,AL e),(9,AL e),(10,vi (lI e)),(11,vi i),(24,pt 4),(25,.v (.c (.d (.str (gl e i.toNat).name_)))),(26,AL e),(27,vi i),(28,vi (i-1)),(29,.v (.c (.elm [.str (gl e (i-1).toNat).name_,.int .i64 (gl e (i-1).toNat).family_,.int .i64 (gl e (i-1).toNat).marks_]))),(30,.v (.c (.elm [.str (gl e (i-1).toNat).name_,.int .i64 (gl e (i-1).toNat).family_,.int .i64 (gl e (i-1).toNat).marks_]))),(31,.v (.c (.d (.str (gl e (i-1).toNat).name_)))),(32,vb (sLt ((gl e i.toNat).name_) ((gl e (i-1).toNat).name_)||sEq ((gl e i.toNat).name_) ((gl e (i-1).toNat).name_))),(33,vb (sLt ((gl e i.toNat).name_) ((gl e (i-1).toNat).name_)||sEq ((gl e i.toNat).name_) ((gl e (i-1).toNat).name_)))] [(4,bx [.d (.str (gl e i.toNat).name_),ci ((gl e i.toNat).family_),ci ((gl e i.toNat).marks_)])] ⟨ALe.bool l,⟨B,⟨⟩⟩,E,KAt.strC (op:=.leq) (a:=((gl e i.toNat).name_)) (b:=((gl e (i-1).toNat).name_)) rfl rfl (by kernel_rfl) (by kernel_rfl) (by kernel_rfl) rfl,⟨⟩⟩ ?_
       exact Kn.R Fm (m (sLt ((gl e i.toNat).name_) ((gl e (i-1).toNat).name_)||sEq ((gl e i.toNat).name_) ((gl e (i-1).toNat).name_)) h)
      ·refine AW.pN Fm [.s,.s,.w (vb false),.s,.s,.s,.s,.s,.s,.s,.s,.s,.s] [(0,AL e),(9,AL e),(10,vi (lI e)),(11,vi i),(33,vb false)] [] (cT (ALe.bool l)) ?_
       exact Kn.R Fm (m false h)
   ·exact AW.exit (Kn.R Fm (p () h))
theorem ref15_With_spec {F:Nat} {a:(List Record)} {b:(List Crop)} {r:Int} (h:ref15_With F a b=some r) :
  FSpec Tryz.prog 123 [AL a,AL b] [] (vi r) []:=by
 refine FI Tryz.func123 prog_mixed prog_lay fun C Fm=>?_
 unfold ref15_With at h
 refine AW.SG0 Fm 1 [(0,AL a),(1,AL b)] [] ?_
 refine AW.seq (AW.seq ?_)
 obtain ⟨e,u,h⟩:=bS h
 refine AW.G Fm [.s,.k (cE [] [] (vi e) [] []),.s] (fun K=>K 1∧True) [(0,AL a),(1,AL b),(5,vi e)] [] ⟨KAt.CC (ref15_Check_spec u) Tryz.call25 [],⟨⟩⟩ ?_
 refine AW.SG0 Fm 2 [(0,AL a),(1,AL b),(5,vi e),(12,vb (e != (0:Int)))] [] ?_
 refine AW.cN h (fun m h=>?_) (fun m h=>?_)
 ·refine AW.SG0 Fm 2 [(4,vi e)] [] ?_
  refine AW.ret ?_
  obtain rfl:=Option.some.inj h
  exact Kn.D Fm
 ·refine AW.skip (AW.seq (AW.seq ?_))
  obtain ⟨i,w,h⟩:=bS h
  refine AW.G Fm [.s,.k (cE [] [] (vi i) [] []),.s] (fun K=>K 1∧True) [(0,AL a),(1,AL b),(6,vi i)] [] ⟨KAt.CC (ref12_Check_spec w) Tryz.call207 [],⟨⟩⟩ ?_
  refine AW.SG0 Fm 2 [(0,AL a),(1,AL b),(6,vi i),(17,vb (i != (0:Int)))] [] ?_
  refine AW.cN h (fun n h=>?_) (fun n h=>?_)
  ·refine AW.SG0 Fm 2 [(4,vi i)] [] ?_
   refine AW.ret ?_
   obtain rfl:=Option.some.inj h
   exact Kn.D Fm
  ·refine AW.skip (AW.join (r:=r) (fun z:Unit=>ref15_With_k1 F) (fun z=>[]) (fun z=>[]) (fun z h=>?_) (fun A l=>?_))
   ·refine AW.SG0 Fm 1 [(4,vi 0)] [] ?_
    refine AW.ret ?_
    obtain rfl:=Option.some.inj h
    exact Kn.D Fm
   ·refine AW.SG0 Fm 3 [(1,AL b),(19,AL a),(20,vi (lI a)),(21,vi 0)] [] ?_
    refine AW.block (AW.loopF (E' := fun z=>[(1,AL b),(19,AL a),(20,vi (lI a)),(21,vi z)]) (S' := fun z=>[]) (fun B c y j h=>?_) h)
    refine AW.SG0 Fm 1 [(1,AL b),(19,AL a),(20,vi (lI a)),(21,vi c),(22,vb (decide (c<(lI a))))] [] ?_
    refine AW.seq (AW.cN h (fun o h=>?_) (fun o h=>?_))
    ·refine AW.skip (AW.seq (AW.block ?_))
     obtain ⟨q,h⟩:=gS h
     refine AW.SP Fm [.s,.s,.s,.s] [(1,AL b),(8,pt 8),(19,AL a),(20,vi (lI a)),(21,vi c)] [(8,bx [ci ((gl a c.toNat).year_),ci ((gl a c.toNat).crop_),.d (DL (α:=Rect) (gl a c.toNat).region_.rects_)])] (cT q) ?_
     refine AW.SG0 Fm 5 [(1,AL b),(19,AL a),(20,vi (lI a)),(21,vi c),(29,vb (decide ((lI b)≤((gl a c.toNat).crop_))))] [] ?_
     refine AW.cN h (fun p h=>?_) (fun p h=>?_)
     ·refine AW.SG0 Fm 1 [(4,vi 13)] [] ?_
      refine AW.ret ?_
      obtain rfl:=Option.some.inj h
      exact Kn.D Fm
     ·refine AW.skip ?_
      obtain ⟨t,h⟩:=gS h
      refine AW.pN Fm [.s,.s] [(1,AL b),(19,AL a),(20,vi (lI a)),(21,vi (c+1))] [] (cT (cT t)) ?_
      exact Kn.R Fm (j (c+1) h)
    ·exact AW.exit (Kn.R Fm (l () h))
theorem ref15_Family_spec {F:Nat} {e:(List Record)} {i:(List Crop)} {a:Int} {b:Int} {r:Region×Int} (h:ref15_Family F e i a b=some r) :
  FSpec Tryz.prog 37 [AL e,AL i,vi a,vi b] [] (.t [.g [.d (DL (α:=Rect) r.1.rects_)],.c (ci r.2)]) []:=by
 refine FI Tryz.func37 prog_mixed prog_lay fun C Fm=>?_
 unfold ref15_Family at h
 refine AW.SG0 Fm 2 [(0,AL e),(1,AL i),(2,vi a),(3,vi b),(8,pt 8)] [(8,bx [.fl 0 fun _=>[]])] ?_
 refine AW.seq (AW.seq ?_)
 obtain ⟨j,A,h⟩:=bS h
 refine AW.G Fm [.s,.s,.k (cE [] [] (vi j) [] []),.s] (fun K=>K 2∧True) [(0,AL e),(1,AL i),(2,vi a),(3,vi b),(8,pt 8),(10,vi j)] [(8,bx [.fl 0 fun _=>[]])] ⟨KAt.CC (ref15_With_spec A) Tryz.call123 [],⟨⟩⟩ ?_
 refine AW.SG0 Fm 2 [(0,AL e),(1,AL i),(2,vi a),(3,vi b),(8,pt 8),(10,vi j),(15,vb (j != (0:Int)))] [(8,bx [.fl 0 fun _=>[]])] ?_
 refine AW.cN h (fun q h=>?_) (fun q h=>?_)
 ·refine AW.SP Fm [.w (.v (.g [.d (DL (α:=Rect) [])])),.s,.s,.s] [(8,pt 8),(9,vi j)] [(8,bx [.d (DL (α:=Rect) [])])] (cT (ALe.g ⟨CLe.fl .nil,⟨⟩⟩ : ALe (.v (.g [.fl 0 fun _=>[]])) (.v (.g [.d (DL (α:=Rect) [])])))) ?_
  refine AW.ret ?_
  obtain rfl:=Option.some.inj h
  exact Kn.D Fm
 ·refine AW.skip (AW.seq (AW.join (r:=r) (fun z:Bool=>ref15_Family_k0 F e i a b z) (fun z=>[(0,AL e),(1,AL i),(2,vi a),(3,vi b),(8,pt 8),(23,vb z)]) (fun z=>[(8,bx [.fl 0 fun _=>[]])]) (fun M h=>?_) (fun I o=>?_)))
  ·refine AW.cN h (fun u h=>?_) (fun u h=>?_)
   ·refine AW.SP Fm [.w (.v (.g [.d (DL (α:=Rect) [])])),.s,.s] [(8,pt 8),(9,vi 18)] [(8,bx [.d (DL (α:=Rect) [])])] (cT (ALe.g ⟨CLe.fl .nil,⟨⟩⟩ : ALe (.v (.g [.fl 0 fun _=>[]])) (.v (.g [.d (DL (α:=Rect) [])])))) ?_
    refine AW.ret ?_
    obtain rfl:=Option.some.inj h
    exact Kn.D Fm
   ·refine AW.skip (AW.seq (AW.join (r:=r) (fun z:Bool=>ref15_Family_k1 F e i a b z) (fun z=>[(0,AL e),(1,AL i),(2,vi a),(3,vi b),(8,pt 8),(30,vb z)]) (fun z=>[(8,bx [.fl 0 fun _=>[]])]) (fun N h=>?_) (fun L p=>?_)))
    ·refine AW.cN h (fun y h=>?_) (fun y h=>?_)
     ·refine AW.SP Fm [.w (.v (.g [.d (DL (α:=Rect) [])])),.s,.s] [(8,pt 8),(9,vi 2)] [(8,bx [.d (DL (α:=Rect) [])])] (cT (ALe.g ⟨CLe.fl .nil,⟨⟩⟩ : ALe (.v (.g [.fl 0 fun _=>[]])) (.v (.g [.d (DL (α:=Rect) [])])))) ?_
      refine AW.ret ?_
      obtain rfl:=Option.some.inj h
      exact Kn.D Fm
     ·refine AW.skip (AW.seq ?_)
      obtain ⟨H,B,h⟩:=bS h
      obtain ⟨l,E,h⟩:=bS h
      refine AW.G Fm [.s,.s,.s,.s,.k (cE [] [] (AL H) [] []),.k (cE [] [] (.t [.g [.d (DL l.1.rects_)],.c (ci l.2)]) [] []),.s,.s,.s,.s] (fun K=>K 4∧K 5∧True) [(8,pt 8),(9,vi l.2)] [(8,bx [.d (DL l.1.rects_)])] ⟨KAt.CC (ref15_Squares_spec B) Tryz.call119 [],KAt.CC (ref04_Bound_spec E) Tryz.call118 [],⟨⟩⟩ ?_
      refine AW.ret ?_
      obtain rfl:=Option.some.inj h
      exact Kn.D Fm
    ·rcases br_or h with ⟨n,h⟩|⟨n,h⟩
     ·refine AW.pN Fm [.s,.s,.w (vb true),.s,.s,.s] [(0,AL e),(1,AL i),(2,vi a),(3,vi b),(8,pt 8),(30,vb true)] [(8,bx [.fl 0 fun _=>[]])] (cT (ALe.bool n)) ?_
      exact Kn.R Fm (p true h)
     ·refine AW.pN Fm [.s,.s,.w (vb false),.s,.s,.s] [(0,AL e),(1,AL i),(2,vi a),(3,vi b),(8,pt 8),(30,vb (decide ((40:Int)<b)))] [(8,bx [.fl 0 fun _=>[]])] (cT (ALe.bool n)) ?_
      exact Kn.R Fm (p (decide ((40:Int)<b)) h)
  ·rcases br_or h with ⟨m,h⟩|⟨m,h⟩
   ·refine AW.pN Fm [.s,.s,.w (vb true),.s,.s,.s] [(0,AL e),(1,AL i),(2,vi a),(3,vi b),(8,pt 8),(23,vb true)] [(8,bx [.fl 0 fun _=>[]])] (cT (ALe.bool m)) ?_
    exact Kn.R Fm (o true h)
   ·refine AW.pN Fm [.s,.s,.w (vb false),.s,.s,.s] [(0,AL e),(1,AL i),(2,vi a),(3,vi b),(8,pt 8),(23,vb (decide ((100:Int)<a)))] [(8,bx [.fl 0 fun _=>[]])] (cT (ALe.bool m)) ?_
    exact Kn.R Fm (o (decide ((100:Int)<a)) h)
theorem crop_Has_spec {F:Nat} {c:(List Crop)} {d:Int} {a:Int} {r:Bool} (h:crop_Has F c d a=some r) :
  FSpec Tryz.prog 125 [AL c,vi d,vi a] [] (vb r) []:=by
 refine FI Tryz.func125 prog_mixed prog_lay fun C Fm=>?_
 unfold crop_Has at h
 refine AW.SG0 Fm 1 [(0,AL c),(1,vi d),(2,vi a)] [] ?_
 refine AW.join (r:=r) (fun z:Bool=>crop_Has_k0 F z) (fun z=>[(6,vb z)]) (fun z=>[]) (fun m h=>?_) (fun l e=>?_)
 ·refine AW.ret ?_
  obtain rfl:=Option.some.inj h
  exact Kn.D Fm
 ·rcases br_or h with ⟨b,h⟩|⟨b,h⟩
  ·rcases br_or h with ⟨i,h⟩|⟨i,h⟩
   ·rcases br_or h with ⟨j,h⟩|⟨j,h⟩
    ·obtain ⟨k,h⟩:=gS h
     refine AW.pN Fm [.s,.s,.w (vb true),.s,.s,.s,.s,.s,.w (vb true),.s,.s,.s,.w (vb true),.s,.s,.s,.s,.s,.s,.s,.s,.s,.s,.s] [(6,vb ((band .i64 ((gl c d.toNat).marks_) a)==a))] [] (cA (ALe.bool b) (cA (ALe.bool i) (cA (ALe.bool j) (cT k)))) ?_
     exact Kn.R Fm (e ((band .i64 ((gl c d.toNat).marks_) a)==a) h)
    ·refine AW.pN Fm [.s,.s,.w (vb true),.s,.s,.s,.s,.s,.w (vb true),.s,.s,.s,.w (vb false),.s,.s,.s,.s,.s,.s,.s,.s,.s,.s,.s] [(6,vb false)] [] (cA (ALe.bool b) (cA (ALe.bool i) (cT (ALe.bool j)))) ?_
     exact Kn.R Fm (e false h)
   ·refine AW.pN Fm [.s,.s,.w (vb true),.s,.s,.s,.s,.s,.w (vb false),.s,.s,.s,.s,.s,.s,.s,.s,.s,.s,.s,.s,.s,.s,.s] [(6,vb false)] [] (cA (ALe.bool b) (cT (ALe.bool i))) ?_
    exact Kn.R Fm (e false h)
  ·refine AW.pN Fm [.s,.s,.w (vb false),.s,.s,.s,.s,.s,.s,.s,.s,.s,.s,.s,.s,.s,.s,.s,.s,.s,.s,.s,.s,.s] [(6,vb false)] [] (cT (ALe.bool b)) ?_
   exact Kn.R Fm (e false h)
theorem history_Marked_1_spec {F:Nat} {c:Int} {a:(List Crop)} {b:Int} {r:Bool} (h:history_Marked_1 F c a b=some r) :
  FSpec Tryz.prog 124 [vi c,pt 0,pt 1] [(0,.box true [.d (DL a)]),(1,.box true [ci b])] (vb r) [(0,.box true [.d (DL a)]),(1,.box true [ci b])]:=by
 refine FI Tryz.func124 prog_mixed prog_lay fun C Fm=>?_
 unfold history_Marked_1 at h
 refine AW.SG0 Fm 1 [(0,vi c),(1,pt 0),(2,pt 1)] [(0,.box true [.d (DL a)]),(1,.box true [ci b])] ?_
 refine AW.seq ?_
 obtain ⟨e,i,h⟩:=bS h
 refine AW.G Fm [.s,.s,.s,.k (cE [] [] (vb e) [] []),.s] (fun K=>K 3∧True) [(4,vb e)] [(0,.box true [.d (DL a)]),(1,.box true [ci b])] ⟨KAt.CC (crop_Has_spec i) Tryz.call125 [],⟨⟩⟩ ?_
 refine AW.ret ?_
 obtain rfl:=Option.some.inj h
 exact Kn.D Fm
theorem history_Marked_spec {F:Nat} {e:(List Record)} {b:(List Crop)} {i:Int} {a:Int} {r:Region×Int} (h:history_Marked F e b i a=some r) :
  FSpec Tryz.prog 38 [AL e,AL b,vi i,vi a] [] (.t [.g [.d (DL (α:=Rect) r.1.rects_)],.c (ci r.2)]) []:=by
 refine FI Tryz.func38 prog_mixed prog_lay fun C Fm=>?_
 unfold history_Marked at h
 refine AW.SG0 Fm 4 [(0,AL e),(2,vi i),(5,pt 5),(7,pt 7),(8,pt 8)] [(5,bx [.d (DL b)]),(7,bx [ci a]),(8,bx [.fl 0 fun _=>[]])] ?_
 refine AW.seq (AW.seq ?_)
 obtain ⟨j,B,h⟩:=bS h
 refine AW.G Fm [.s,.s,.k (cE [] [] (vi j) [] []),.s] (fun K=>K 2∧True) [(0,AL e),(2,vi i),(5,pt 5),(7,pt 7),(8,pt 8),(10,vi j)] [(5,bx [.d (DL b)]),(7,bx [ci a]),(8,bx [.fl 0 fun _=>[]])] ⟨KAt.CC (history_Listed_spec B) Tryz.call121 [],⟨⟩⟩ ?_
 refine AW.SG0 Fm 2 [(0,AL e),(2,vi i),(5,pt 5),(7,pt 7),(8,pt 8),(10,vi j),(15,vb (j != (0:Int)))] [(5,bx [.d (DL b)]),(7,bx [ci a]),(8,bx [.fl 0 fun _=>[]])] ?_
 refine AW.cN h (fun q h=>?_) (fun q h=>?_)
 ·refine AW.SP Fm [.w (.v (.g [.d (DL (α:=Rect) [])])),.s,.s,.s] [(8,pt 8),(9,vi j)] [(8,bx [.d (DL (α:=Rect) [])])] (cT (ALe.g ⟨CLe.fl .nil,⟨⟩⟩ : ALe (.v (.g [.fl 0 fun _=>[]])) (.v (.g [.d (DL (α:=Rect) [])])))) ?_
  refine AW.ret ?_
  obtain rfl:=Option.some.inj h
  exact Kn.D Fm
 ·refine AW.skip (AW.seq (AW.block (AW.seq ?_)))
  obtain ⟨o,E,h⟩:=bS h
  refine AW.G Fm [.s,.k (cE [] [] (vb o) [] []),.s] (fun K=>K 1∧True) [(0,AL e),(2,vi i),(5,pt 5),(7,pt 7),(8,pt 8),(18,vb o)] [(5,bx [.d (DL b)]),(7,bx [ci a]),(8,bx [.fl 0 fun _=>[]])] ⟨KAt.CC (history_wrong_spec E) Tryz.call116 [],⟨⟩⟩ ?_
  refine AW.cN h (fun u h=>?_) (fun u h=>?_)
  ·refine AW.SP Fm [.w (.v (.g [.d (DL (α:=Rect) [])])),.s,.s] [(8,pt 8),(9,vi 18)] [(8,bx [.d (DL (α:=Rect) [])])] (cT (ALe.g ⟨CLe.fl .nil,⟨⟩⟩ : ALe (.v (.g [.fl 0 fun _=>[]])) (.v (.g [.d (DL (α:=Rect) [])])))) ?_
   refine AW.ret ?_
   obtain rfl:=Option.some.inj h
   exact Kn.D Fm
  ·refine AW.join (r:=r) (fun z:Bool=>history_Marked_k0 F e b i a z) (fun z=>[(0,AL e),(2,vi i),(5,pt 5),(7,pt 7),(8,pt 8),(22,vb z)]) (fun z=>[(5,bx [.d (DL b)]),(7,bx [ci a]),(8,bx [.fl 0 fun _=>[]])]) (fun N h=>?_) (fun M n=>?_)
   ·refine AW.cN h (fun A h=>?_) (fun A h=>?_)
    ·refine AW.SP Fm [.w (.v (.g [.d (DL (α:=Rect) [])])),.s,.s] [(8,pt 8),(9,vi 14)] [(8,bx [.d (DL (α:=Rect) [])])] (cT (ALe.g ⟨CLe.fl .nil,⟨⟩⟩ : ALe (.v (.g [.fl 0 fun _=>[]])) (.v (.g [.d (DL (α:=Rect) [])])))) ?_
     refine AW.ret ?_
     obtain rfl:=Option.some.inj h
     exact Kn.D Fm
    ·refine AW.skip (AW.seq ?_)
     obtain ⟨L,H,h⟩:=bS h
     obtain ⟨l,I,h⟩:=bS h
     refine AW.G Fm [.s,.s,.s,.k (cE [] [5,7] (AL L) [] []),.k (cE [] [] (.t [.g [.d (DL l.1.rects_)],.c (ci l.2)]) [] []),.s,.s,.s,.s] (fun K=>K 3∧K 4∧True) [(8,pt 8),(9,vi l.2)] [(8,bx [.d (DL l.1.rects_)])] ⟨KAt.callX (history_Rects_spec H) Tryz.call114 [] [5,7] [.tmp 30,.tmp 31,.tmp 32] rfl (by kernel_rfl) (by kernel_rfl) (by kernel_rfl) ⟨.p,.p,ArgT.cloX Tryz.call124 [[.d (DL b)],[ci a]] (fun args r hq=>by obtain ⟨y0,y,hq,rfl,rfl⟩:=hq; exact Eq.mp (by kernel_rfl) (history_Marked_1_spec hq)) (fun args r hq=>by obtain ⟨y0,y,hq,rfl,rfl⟩:=hq; rfl) (by kernel_rfl) [5,7] (by kernel_rfl) (by kernel_rfl) (⟨⟨false,(by kernel_rfl)⟩,⟨⟨false,(by kernel_rfl)⟩,⟨⟩⟩⟩) (by kernel_rfl),⟨⟩⟩,KAt.CC (region_Joined_spec I) Tryz.call113 [],⟨⟩⟩ ?_
     refine AW.ret ?_
     obtain rfl:=Option.some.inj h
     exact Kn.D Fm
   ·rcases br_or h with ⟨m,h⟩|⟨m,h⟩
    ·refine AW.pN Fm [.s,.s,.w (vb true),.s,.s,.s,.s] [(0,AL e),(2,vi i),(5,pt 5),(7,pt 7),(8,pt 8),(22,vb true)] [(5,bx [.d (DL b)]),(7,bx [ci a]),(8,bx [.fl 0 fun _=>[]])] (cT (ALe.bool m)) ?_
     exact Kn.R Fm (n true h)
    ·refine AW.pN Fm [.s,.s,.w (vb false),.s,.s,.s,.s] [(0,AL e),(2,vi i),(5,pt 5),(7,pt 7),(8,pt 8),(22,vb (decide ((31:Int)<a)))] [(5,bx [.d (DL b)]),(7,bx [ci a]),(8,bx [.fl 0 fun _=>[]])] (cT (ALe.bool m)) ?_
     exact Kn.R Fm (n (decide ((31:Int)<a)) h)
theorem ref15_Marked_spec {F:Nat} {e:(List Record)} {i:(List Crop)} {a:Int} {b:Int} {r:Region×Int} (h:ref15_Marked F e i a b=some r) :
  FSpec Tryz.prog 39 [AL e,AL i,vi a,vi b] [] (.t [.g [.d (DL (α:=Rect) r.1.rects_)],.c (ci r.2)]) []:=by
 refine FI Tryz.func39 prog_mixed prog_lay fun C Fm=>?_
 unfold ref15_Marked at h
 refine AW.SG0 Fm 2 [(0,AL e),(1,AL i),(2,vi a),(3,vi b),(8,pt 8)] [(8,bx [.fl 0 fun _=>[]])] ?_
 refine AW.seq (AW.seq ?_)
 obtain ⟨j,A,h⟩:=bS h
 refine AW.G Fm [.s,.s,.k (cE [] [] (vi j) [] []),.s] (fun K=>K 2∧True) [(0,AL e),(1,AL i),(2,vi a),(3,vi b),(8,pt 8),(10,vi j)] [(8,bx [.fl 0 fun _=>[]])] ⟨KAt.CC (ref15_With_spec A) Tryz.call123 [],⟨⟩⟩ ?_
 refine AW.SG0 Fm 2 [(0,AL e),(1,AL i),(2,vi a),(3,vi b),(8,pt 8),(10,vi j),(15,vb (j != (0:Int)))] [(8,bx [.fl 0 fun _=>[]])] ?_
 refine AW.cN h (fun q h=>?_) (fun q h=>?_)
 ·refine AW.SP Fm [.w (.v (.g [.d (DL (α:=Rect) [])])),.s,.s,.s] [(8,pt 8),(9,vi j)] [(8,bx [.d (DL (α:=Rect) [])])] (cT (ALe.g ⟨CLe.fl .nil,⟨⟩⟩ : ALe (.v (.g [.fl 0 fun _=>[]])) (.v (.g [.d (DL (α:=Rect) [])])))) ?_
  refine AW.ret ?_
  obtain rfl:=Option.some.inj h
  exact Kn.D Fm
 ·refine AW.skip (AW.seq (AW.join (r:=r) (fun z:Bool=>ref15_Marked_k0 F e i a b z) (fun z=>[(0,AL e),(1,AL i),(2,vi a),(3,vi b),(8,pt 8),(23,vb z)]) (fun z=>[(8,bx [.fl 0 fun _=>[]])]) (fun M h=>?_) (fun I o=>?_)))
  ·refine AW.cN h (fun u h=>?_) (fun u h=>?_)
   ·refine AW.SP Fm [.w (.v (.g [.d (DL (α:=Rect) [])])),.s,.s] [(8,pt 8),(9,vi 18)] [(8,bx [.d (DL (α:=Rect) [])])] (cT (ALe.g ⟨CLe.fl .nil,⟨⟩⟩ : ALe (.v (.g [.fl 0 fun _=>[]])) (.v (.g [.d (DL (α:=Rect) [])])))) ?_
    refine AW.ret ?_
    obtain rfl:=Option.some.inj h
    exact Kn.D Fm
   ·refine AW.skip (AW.seq (AW.join (r:=r) (fun z:Bool=>ref15_Marked_k1 F e i a b z) (fun z=>[(0,AL e),(1,AL i),(2,vi a),(3,vi b),(8,pt 8),(30,vb z)]) (fun z=>[(8,bx [.fl 0 fun _=>[]])]) (fun N h=>?_) (fun L p=>?_)))
    ·refine AW.cN h (fun y h=>?_) (fun y h=>?_)
     ·refine AW.SP Fm [.w (.v (.g [.d (DL (α:=Rect) [])])),.s,.s] [(8,pt 8),(9,vi 14)] [(8,bx [.d (DL (α:=Rect) [])])] (cT (ALe.g ⟨CLe.fl .nil,⟨⟩⟩ : ALe (.v (.g [.fl 0 fun _=>[]])) (.v (.g [.d (DL (α:=Rect) [])])))) ?_
      refine AW.ret ?_
      obtain rfl:=Option.some.inj h
      exact Kn.D Fm
     ·refine AW.skip (AW.seq ?_)
      obtain ⟨H,B,h⟩:=bS h
      obtain ⟨l,E,h⟩:=bS h
      refine AW.G Fm [.s,.s,.s,.s,.k (cE [] [] (AL H) [] []),.k (cE [] [] (.t [.g [.d (DL l.1.rects_)],.c (ci l.2)]) [] []),.s,.s,.s,.s] (fun K=>K 4∧K 5∧True) [(8,pt 8),(9,vi l.2)] [(8,bx [.d (DL l.1.rects_)])] ⟨KAt.CC (ref15_Squares_spec B) Tryz.call119 [],KAt.CC (ref04_Bound_spec E) Tryz.call118 [],⟨⟩⟩ ?_
      refine AW.ret ?_
      obtain rfl:=Option.some.inj h
      exact Kn.D Fm
    ·rcases br_or h with ⟨n,h⟩|⟨n,h⟩
     ·refine AW.pN Fm [.s,.s,.w (vb true),.s,.s,.s] [(0,AL e),(1,AL i),(2,vi a),(3,vi b),(8,pt 8),(30,vb true)] [(8,bx [.fl 0 fun _=>[]])] (cT (ALe.bool n)) ?_
      exact Kn.R Fm (p true h)
     ·refine AW.pN Fm [.s,.s,.w (vb false),.s,.s,.s] [(0,AL e),(1,AL i),(2,vi a),(3,vi b),(8,pt 8),(30,vb (decide ((31:Int)<b)))] [(8,bx [.fl 0 fun _=>[]])] (cT (ALe.bool n)) ?_
      exact Kn.R Fm (p (decide ((31:Int)<b)) h)
  ·rcases br_or h with ⟨m,h⟩|⟨m,h⟩
   ·refine AW.pN Fm [.s,.s,.w (vb true),.s,.s,.s] [(0,AL e),(1,AL i),(2,vi a),(3,vi b),(8,pt 8),(23,vb true)] [(8,bx [.fl 0 fun _=>[]])] (cT (ALe.bool m)) ?_
    exact Kn.R Fm (o true h)
   ·refine AW.pN Fm [.s,.s,.w (vb false),.s,.s,.s] [(0,AL e),(1,AL i),(2,vi a),(3,vi b),(8,pt 8),(23,vb (decide ((100:Int)<a)))] [(8,bx [.fl 0 fun _=>[]])] (cT (ALe.bool m)) ?_
    exact Kn.R Fm (o (decide ((100:Int)<a)) h)
theorem history_Kept_1_spec {F:Nat} {c:Int} {a:(List Crop)} {b:Int} {r:Bool} (h:history_Kept_1 F c a b=some r) :
  FSpec Tryz.prog 208 [vi c,pt 0,pt 1] [(0,.box true [.d (DL a)]),(1,.box true [ci b])] (vb r) [(0,.box true [.d (DL a)]),(1,.box true [ci b])]:=by
 refine FI Tryz.func208 prog_mixed prog_lay fun C Fm=>?_
 unfold history_Kept_1 at h
 refine AW.SG0 Fm 1 [(0,vi c),(1,pt 0),(2,pt 1)] [(0,.box true [.d (DL a)]),(1,.box true [ci b])] ?_
 obtain ⟨e,h⟩:=gS h
 refine AW.SP Fm [.s,.s,.s,.s,.s,.s,.s,.s] [(4,vb (((gl a c.toNat).family_)==b))] [(0,.box true [.d (DL a)]),(1,.box true [ci b])] (cT e) ?_
 refine AW.ret ?_
 obtain rfl:=Option.some.inj h
 exact Kn.D Fm
theorem history_Kept_2_spec {F:Nat} {c:Bool} {a:Bool} {r:Bool} (h:history_Kept_2 F c a=some r) :
  FSpec Tryz.prog 209 [vb c,vb a] [] (vb r) []:=by
 refine FI Tryz.func209 prog_mixed prog_lay fun C Fm=>?_
 unfold history_Kept_2 at h
 refine AW.SG0 Fm 1 [(0,vb c),(1,vb a)] [] ?_
 refine AW.join (r:=r) (fun z:Bool=>history_Kept_2_k0 F z) (fun z=>[(4,vb z)]) (fun z=>[]) (fun i h=>?_) (fun e d=>?_)
 ·refine AW.ret ?_
  obtain rfl:=Option.some.inj h
  exact Kn.D Fm
 ·rcases br_or h with ⟨b,h⟩|⟨b,h⟩
  ·refine AW.pN Fm [.s,.w (vb true),.s,.s,.s] [(4,vb a)] [] (cT (ALe.bool b)) ?_
   exact Kn.R Fm (d a h)
  ·refine AW.pN Fm [.s,.w (vb false),.s,.s,.s] [(4,vb false)] [] (cT (ALe.bool b)) ?_
   exact Kn.R Fm (d false h)
theorem history_Kept_spec {F:Nat} {i:(List Record)} {a:(List Crop)} {j:Int} {e:Int} {b:Int} {r:(List Rect)} (h:history_Kept F i a j e b=some r) :
  FSpec Tryz.prog 126 [AL i,AL a,vi j,vi e,vi b] [] (AL (α:=Rect) r) []:=by
 refine FI Tryz.func126 prog_mixed prog_lay fun C Fm=>?_
 unfold history_Kept at h
 refine AW.SG0 Fm 3 [(0,AL i),(2,vi j),(3,vi e),(6,pt 6),(9,pt 9)] [(6,bx [.d (DL a)]),(9,bx [ci b])] ?_
 refine AW.SG0 Fm 2 [(0,AL i),(2,vi j),(3,vi e),(11,.v (.c (.clo 208 [6,9])))] [(6,bx [.d (DL a)]),(9,bx [ci b])] ?_
 refine AW.seq ?_
 obtain ⟨n,B,h⟩:=bS h
 refine AW.G Fm [.s,.s,.s,.k (cE [] [6,9] (AL n) [] []),.s] (fun K=>K 3∧True) [(0,AL i),(2,vi j),(3,vi e),(11,.v (.c (.clo 208 [6,9]))),(12,AL n)] [(6,bx [.d (DL a)]),(9,bx [ci b])] ⟨KAt.callX (history_Rects_spec B) Tryz.call114 [] [6,9] [.tmp 15,.tmp 16,.tmp 17] rfl (by kernel_rfl) (by kernel_rfl) (by kernel_rfl) ⟨.p,.p,ArgT.cloX Tryz.call208 [[.d (DL a)],[ci b]] (fun args r hq=>by obtain ⟨y0,y,hq,rfl,rfl⟩:=hq; exact Eq.mp (by kernel_rfl) (history_Kept_1_spec hq)) (fun args r hq=>by obtain ⟨y0,y,hq,rfl,rfl⟩:=hq; rfl) (by kernel_rfl) [6,9] (by kernel_rfl) (by kernel_rfl) (⟨⟨false,(by kernel_rfl)⟩,⟨⟨false,(by kernel_rfl)⟩,⟨⟩⟩⟩) (by kernel_rfl),⟨⟩⟩,⟨⟩⟩ ?_
 refine AW.join (r:=r) (fun z:(List Rect)=>history_Kept_k1 F z) (fun z=>[(12,AL z)]) (fun z=>[]) (fun I h=>?_) (fun N t=>?_)
 ·refine AW.SG0 Fm 2 [(10,AL I)] [] ?_
  refine AW.ret ?_
  obtain rfl:=Option.some.inj h
  exact Kn.D Fm
 ·obtain ⟨w,h⟩:=gS h
  refine AW.SP Fm [.s,.s,.s] [(0,AL i),(3,vi e),(11,.v (.c (.clo 208 [6,9]))),(12,AL n),(13,vi (j+1))] [(6,bx [.d (DL a)]),(9,bx [ci b])] (cT (cT w)) ?_
  refine AW.block (AW.loopF (E' := fun z=>[(0,AL i),(3,vi e),(11,.v (.c (.clo 208 [6,9]))),(12,AL z.1),(13,vi z.2)]) (S' := fun z=>[(6,bx [.d (DL a)]),(9,bx [ci b])]) (fun O z M q h=>?_) h)
  obtain ⟨o,l⟩:=z
  refine AW.seq (AW.SG0 Fm 3 [(0,AL i),(3,vi e),(11,.v (.c (.clo 208 [6,9]))),(12,AL o),(13,vi l),(23,vb (decide (l≤e)))] [(6,bx [.d (DL a)]),(9,bx [ci b])] ?_)
  refine AW.cN h (fun u h=>?_) (fun u h=>?_)
  ·refine AW.skip (AW.seq (AW.block ?_))
   obtain ⟨L,E,h⟩:=bS h
   obtain ⟨m,H,h⟩:=bS h
   refine AW.G Fm [.s,.s,.s,.s,.k (cE [] [6,9] (AL L) [] []),.k (cE [] [] (AL m) [] []),.s] (fun K=>K 4∧K 5∧True) [(0,AL i),(3,vi e),(11,.v (.c (.clo 208 [6,9]))),(12,AL m),(13,vi l)] [(6,bx [.d (DL a)]),(9,bx [ci b])] ⟨KAt.callX (history_Rects_spec E) Tryz.call114 [] [6,9] [.tmp 27,.tmp 28,.tmp 29] rfl (by kernel_rfl) (by kernel_rfl) (by kernel_rfl) ⟨.p,.p,ArgT.cloX Tryz.call208 [[.d (DL a)],[ci b]] (fun args r hq=>by obtain ⟨y0,y,hq,rfl,rfl⟩:=hq; exact Eq.mp (by kernel_rfl) (history_Kept_1_spec hq)) (fun args r hq=>by obtain ⟨y0,y,hq,rfl,rfl⟩:=hq; rfl) (by kernel_rfl) [6,9] (by kernel_rfl) (by kernel_rfl) (⟨⟨false,(by kernel_rfl)⟩,⟨⟨false,(by kernel_rfl)⟩,⟨⟩⟩⟩) (by kernel_rfl),⟨⟩⟩,KAt.callX (region_Choose_spec H) Tryz.call95 [] [] [.tmp 26,.tmp 30,.func 209] rfl (by kernel_rfl) (by kernel_rfl) (by kernel_rfl) ⟨.p,.p,ArgT.cloX Tryz.call209 [] (fun args r hq=>by obtain ⟨y0,y1,y,hq,rfl,rfl⟩:=hq; exact Eq.mp (by kernel_rfl) (history_Kept_2_spec hq)) (fun args r hq=>by obtain ⟨y0,y1,y,hq,rfl,rfl⟩:=hq; rfl) (by kernel_rfl) [] (by kernel_rfl) (by kernel_rfl) (True.intro) (by kernel_rfl),⟨⟩⟩,⟨⟩⟩ ?_
   obtain ⟨A,h⟩:=gS h
   refine AW.pN Fm [.s,.s,.s] [(0,AL i),(3,vi e),(11,.v (.c (.clo 208 [6,9]))),(12,AL m),(13,vi (l+1))] [(6,bx [.d (DL a)]),(9,bx [ci b])] (cT (cT A)) ?_
   exact Kn.R Fm (q (m,(l+1)) h)
  ·exact AW.exit (Kn.R Fm (t o h))
theorem history_Same_spec {F:Nat} {b:(List Record)} {e:(List Crop)} {i:Int} {a:Int} {r:Region×Int} (h:history_Same F b e i a=some r) :
  FSpec Tryz.prog 40 [AL b,AL e,vi i,vi a] [] (.t [.g [.d (DL (α:=Rect) r.1.rects_)],.c (ci r.2)]) []:=by
 refine FI Tryz.func40 prog_mixed prog_lay fun C Fm=>?_
 unfold history_Same at h
 refine AW.SG0 Fm 2 [(0,AL b),(1,AL e),(2,vi i),(3,vi a),(8,pt 8)] [(8,bx [.fl 0 fun _=>[]])] ?_
 refine AW.seq (AW.seq ?_)
 obtain ⟨o,O,h⟩:=bS h
 refine AW.G Fm [.s,.s,.k (cE [] [] (vi o) [] []),.s] (fun K=>K 2∧True) [(0,AL b),(1,AL e),(2,vi i),(3,vi a),(8,pt 8),(10,vi o)] [(8,bx [.fl 0 fun _=>[]])] ⟨KAt.CC (history_Listed_spec O) Tryz.call121 [],⟨⟩⟩ ?_
 refine AW.SG0 Fm 2 [(0,AL b),(1,AL e),(2,vi i),(3,vi a),(8,pt 8),(10,vi o),(17,vb (o != (0:Int)))] [(8,bx [.fl 0 fun _=>[]])] ?_
 refine AW.cN h (fun H h=>?_) (fun H h=>?_)
 ·refine AW.SP Fm [.w (.v (.g [.d (DL (α:=Rect) [])])),.s,.s,.s] [(8,pt 8),(9,vi o)] [(8,bx [.d (DL (α:=Rect) [])])] (cT (ALe.g ⟨CLe.fl .nil,⟨⟩⟩ : ALe (.v (.g [.fl 0 fun _=>[]])) (.v (.g [.d (DL (α:=Rect) [])])))) ?_
  refine AW.ret ?_
  obtain rfl:=Option.some.inj h
  exact Kn.D Fm
 ·refine AW.skip (AW.seq (AW.join (r:=r) (fun z:Bool=>history_Same_k0 F b e i a z) (fun z=>[(0,AL b),(1,AL e),(2,vi i),(3,vi a),(8,pt 8),(30,vb z)]) (fun z=>[(8,bx [.fl 0 fun _=>[]])]) (fun Y h=>?_) (fun U u=>?_)))
  ·refine AW.cN h (fun I h=>?_) (fun I h=>?_)
   ·refine AW.SP Fm [.w (.v (.g [.d (DL (α:=Rect) [])])),.s,.s] [(8,pt 8),(9,vi 18)] [(8,bx [.d (DL (α:=Rect) [])])] (cT (ALe.g ⟨CLe.fl .nil,⟨⟩⟩ : ALe (.v (.g [.fl 0 fun _=>[]])) (.v (.g [.d (DL (α:=Rect) [])])))) ?_
    refine AW.ret ?_
    obtain rfl:=Option.some.inj h
    exact Kn.D Fm
   ·refine AW.skip (AW.SW Fm [.m] (fun K=>True) [(0,AL b),(1,AL e),(2,vi i),(3,vi a),(8,pt 8),(11,ow 11)] [(8,bx [.fl 0 fun _=>[]]),(11,AO (α:=Rect) ([]:List Rect))] True.intro [(11,.arr 4 (0) (fun _=>[]))] ⟨OLe.is ((Is.nil (α:=Rect))),⟨⟩⟩ ?_)
    refine AW.join (r:=r) (fun z:(List Rect)=>history_Same_k2 F z) (fun z=>[(8,pt 8),(11,ow 11)]) (fun z=>[(8,bx [.fl 0 fun _=>[]]),(11,AO z)]) (fun A h=>?_) (fun W E=>?_)
    ·refine AW.seq (Kn.r Fm [(8,pt 8),(11,ow 11)] [(11,AO A),(8,bx [.fl 0 fun _=>[]])] (by kernel_rfl) ?_)
     refine Kn.frz [(8,pt 8),(11,AL A)] [(8,bx [.fl 0 fun _=>[]])] (by kernel_rfl) (by kernel_rfl) (by kernel_rfl) ?_
     obtain ⟨q,T,h⟩:=bS h
     refine AW.G Fm [.s,.k (cE [] [] (.t [.g [.d (DL q.1.rects_)],.c (ci q.2)]) [] []),.s,.s,.s,.s] (fun K=>K 1∧True) [(8,pt 8),(9,vi q.2)] [(8,bx [.d (DL q.1.rects_)])] ⟨KAt.CC (region_Joined_spec T) Tryz.call113 [],⟨⟩⟩ ?_
     refine AW.ret ?_
     obtain rfl:=Option.some.inj h
     exact Kn.D Fm
    ·refine AW.SG0 Fm 1 [(0,AL b),(1,AL e),(2,vi i),(3,vi a),(8,pt 8),(11,ow 11),(32,vi 0)] [(8,bx [.fl 0 fun _=>[]]),(11,AO (α:=Rect) ([]:List Rect))] ?_
     refine AW.block (Kn.r Fm [(0,AL b),(1,AL e),(2,vi i),(3,vi a),(8,pt 8),(11,ow 11),(32,vi 0)] [(8,bx [.fl 0 fun _=>[]]),(11,AO ([]:List Rect))] (by kernel_rfl) ?_)
     refine AW.loopF (E' := fun z=>[(0,AL b),(1,AL e),(2,vi i),(3,vi a),(8,pt 8),(11,ow 11),(32,vi z.1)]) (S' := fun z=>[(8,bx [.fl 0 fun _=>[]]),(11,AO z.2)]) (fun X z V B h=>?_) h
     obtain ⟨n,l⟩:=z
     refine AW.SG0 Fm 1 [(0,AL b),(1,AL e),(2,vi i),(3,vi a),(8,pt 8),(11,ow 11),(32,vi n),(33,vb (decide (n<(41:Int))))] [(8,bx [.fl 0 fun _=>[]]),(11,AO l)] ?_
     refine AW.seq (AW.cN h (fun L h=>?_) (fun L h=>?_))
     ·refine AW.skip (AW.seq (AW.block (AW.SG0 Fm 2 [(0,AL b),(1,AL e),(2,vi i),(3,vi a),(8,pt 8),(11,ow 11),(12,vi n),(32,vi n)] [(8,bx [.fl 0 fun _=>[]]),(11,AO l)] ?_)))
      obtain ⟨j,P,h⟩:=bS h
      obtain ⟨M,h⟩:=gS h
      refine AW.GW Fm [.s,.s,.s,.s,.s,.s,.k (cE [] [] (AL j) [] []),.s,.s] (fun K=>K 6∧(_∧_∧True)∧True) [(0,AL b),(1,AL e),(2,vi i),(3,vi a),(8,pt 8),(11,ow 42),(32,vi n)] [(8,bx [.fl 0 fun _=>[]]),(42,AO (α:=Rect) (l++j))] ⟨KAt.CC (history_Kept_spec P) Tryz.call126 [],⟨M,(Is.refl j:Is (List.length (α:=Rect) j) (LF (α:=Rect) j) j).len,⟨⟩⟩,⟨⟩⟩ [(42,.arr 4 ((List.length (α:=Rect) l)+(List.length (α:=Rect) j)) (appF (List.length (α:=Rect) l) (LF (α:=Rect) l) (LF (α:=Rect) j)))] ⟨OLe.is (Is.app (Is.refl l) (Is.refl j)),⟨⟩⟩ ?_
      obtain ⟨N,h⟩:=gS h
      refine AW.pN Fm [.s,.s] [(0,AL b),(1,AL e),(2,vi i),(3,vi a),(8,pt 8),(11,ow 42),(32,vi (n+1))] [(8,bx [.fl 0 fun _=>[]]),(42,AO (α:=Rect) (l++j))] (cT (cT N)) ?_
      exact Kn.RE Fm [(11,42)] (B ((n+1),(l++j)) h)
     ·exact AW.exit (Kn.R Fm (E l h))
  ·rcases br_or h with ⟨p,h⟩|⟨p,h⟩
   ·refine AW.pN Fm [.s,.s,.w (vb true),.s,.s,.s,.s,.s,.s,.s,.s] [(0,AL b),(1,AL e),(2,vi i),(3,vi a),(8,pt 8),(30,vb true)] [(8,bx [.fl 0 fun _=>[]])] (cT (ALe.bool p)) ?_
    exact Kn.R Fm (u true h)
   ·rcases br_or h with ⟨y,h⟩|⟨y,h⟩
    ·refine AW.pN Fm [.s,.s,.w (vb false),.s,.s,.s,.s,.w (vb true),.s,.s,.s] [(0,AL b),(1,AL e),(2,vi i),(3,vi a),(8,pt 8),(30,vb true)] [(8,bx [.fl 0 fun _=>[]])] (cA (ALe.bool p) (cT (ALe.bool y))) ?_
     exact Kn.R Fm (u true h)
    ·refine AW.pN Fm [.s,.s,.w (vb false),.s,.s,.s,.s,.w (vb false),.s,.s,.s] [(0,AL b),(1,AL e),(2,vi i),(3,vi a),(8,pt 8),(30,vb (decide ((100:Int)<a)))] [(8,bx [.fl 0 fun _=>[]])] (cA (ALe.bool p) (cT (ALe.bool y))) ?_
     exact Kn.R Fm (u (decide ((100:Int)<a)) h)
theorem ref15_Same_spec {F:Nat} {i:(List Record)} {a:(List Crop)} {j:Int} {e:Int} {r:Region×Int} (h:ref15_Same F i a j e=some r) :
  FSpec Tryz.prog 41 [AL i,AL a,vi j,vi e] [] (.t [.g [.d (DL (α:=Rect) r.1.rects_)],.c (ci r.2)]) []:=by
 refine FI Tryz.func41 prog_mixed prog_lay fun C Fm=>?_
 unfold ref15_Same at h
 refine AW.SG0 Fm 2 [(0,AL i),(1,AL a),(2,vi j),(3,vi e),(8,pt 8)] [(8,bx [.fl 0 fun _=>[]])] ?_
 refine AW.seq (AW.seq ?_)
 obtain ⟨u,t0,h⟩:=bS h
 refine AW.G Fm [.s,.s,.k (cE [] [] (vi u) [] []),.s] (fun K=>K 2∧True) [(0,AL i),(1,AL a),(2,vi j),(3,vi e),(8,pt 8),(10,vi u)] [(8,bx [.fl 0 fun _=>[]])] ⟨KAt.CC (ref15_With_spec t0) Tryz.call123 [],⟨⟩⟩ ?_
 refine AW.SG0 Fm 2 [(0,AL i),(1,AL a),(2,vi j),(3,vi e),(8,pt 8),(10,vi u),(23,vb (u != (0:Int)))] [(8,bx [.fl 0 fun _=>[]])] ?_
 refine AW.cN h (fun e0 h=>?_) (fun e0 h=>?_)
 ·refine AW.SP Fm [.w (.v (.g [.d (DL (α:=Rect) [])])),.s,.s,.s] [(8,pt 8),(9,vi u)] [(8,bx [.d (DL (α:=Rect) [])])] (cT (ALe.g ⟨CLe.fl .nil,⟨⟩⟩ : ALe (.v (.g [.fl 0 fun _=>[]])) (.v (.g [.d (DL (α:=Rect) [])])))) ?_
  refine AW.ret ?_
  obtain rfl:=Option.some.inj h
  exact Kn.D Fm
 ·refine AW.skip (AW.seq (AW.join (r:=r) (fun z:Bool=>ref15_Same_k0 F i a j e z) (fun z=>[(0,AL i),(1,AL a),(2,vi j),(3,vi e),(8,pt 8),(36,vb z)]) (fun z=>[(8,bx [.fl 0 fun _=>[]])]) (fun T0 h=>?_) (fun G0 I=>?_)))
  ·refine AW.cN h (fun i0 h=>?_) (fun i0 h=>?_)
   ·refine AW.SP Fm [.w (.v (.g [.d (DL (α:=Rect) [])])),.s,.s] [(8,pt 8),(9,vi 18)] [(8,bx [.d (DL (α:=Rect) [])])] (cT (ALe.g ⟨CLe.fl .nil,⟨⟩⟩ : ALe (.v (.g [.fl 0 fun _=>[]])) (.v (.g [.d (DL (α:=Rect) [])])))) ?_
    refine AW.ret ?_
    obtain rfl:=Option.some.inj h
    exact Kn.D Fm
   ·refine AW.skip (AW.SW Fm [.m] (fun K=>True) [(0,AL i),(1,AL a),(2,vi j),(3,vi e),(8,pt 8),(11,ow 11)] [(8,bx [.fl 0 fun _=>[]]),(11,AO (α:=Int) ([]:List Int))] True.intro [(11,.arr 1 (0) (fun _=>[]))] ⟨OLe.is ((Is.nil (α:=Int))),⟨⟩⟩ ?_)
    refine AW.join (r:=r) (fun z:(List Int)=>ref15_Same_k2 F i a j e z) (fun z=>[(0,AL i),(1,AL a),(2,vi j),(3,vi e),(8,pt 8),(11,AL z)]) (fun z=>[(8,bx [.fl 0 fun _=>[]])]) (fun b h=>?_) (fun I0 Y=>?_)
    ·refine AW.SW Fm [.m] (fun K=>True) [(0,AL i),(1,AL a),(2,vi j),(3,vi e),(8,pt 8),(11,AL b),(14,ow 14)] [(8,bx [.fl 0 fun _=>[]]),(14,AO (α:=Rect) ([]:List Rect))] True.intro [(14,.arr 4 (0) (fun _=>[]))] ⟨OLe.is ((Is.nil (α:=Rect))),⟨⟩⟩ ?_
     refine AW.join (r:=r) (fun z:(List Rect)=>ref15_Same_k8 F z) (fun z=>[(8,pt 8),(14,AL z)]) (fun z=>[(8,bx [.fl 0 fun _=>[]])]) (fun W0 h=>?_) (fun P0 d0=>?_)
     ·refine AW.seq ?_
      obtain ⟨E,D0,h⟩:=bS h
      refine AW.G Fm [.s,.k (cE [] [] (.t [.g [.d (DL E.1.rects_)],.c (ci E.2)]) [] []),.s,.s,.s,.s] (fun K=>K 1∧True) [(8,pt 8),(9,vi E.2)] [(8,bx [.d (DL E.1.rects_)])] ⟨KAt.CC (ref04_Bound_spec D0) Tryz.call118 [],⟨⟩⟩ ?_
      refine AW.ret ?_
      obtain rfl:=Option.some.inj h
      exact Kn.D Fm
     ·refine AW.SG0 Fm 3 [(0,AL i),(1,AL a),(2,vi j),(3,vi e),(8,pt 8),(14,ow 14),(49,AL b),(50,vi (lI b)),(51,vi 0)] [(8,bx [.fl 0 fun _=>[]]),(14,AO (α:=Rect) ([]:List Rect))] ?_
      refine AW.block (Kn.r Fm [(0,AL i),(1,AL a),(2,vi j),(3,vi e),(8,pt 8),(14,ow 14),(49,AL b),(50,vi (lI b)),(51,vi 0)] [(14,AO (α:=Rect) ([]:List Rect)),(8,bx [.fl 0 fun _=>[]])] (by kernel_rfl) ?_)
      refine Kn.frz [(0,AL i),(1,AL a),(2,vi j),(3,vi e),(8,pt 8),(14,AL (α:=Rect) ([]:List Rect)),(49,AL b),(50,vi (lI b)),(51,vi 0)] [(8,bx [.fl 0 fun _=>[]])] (by kernel_rfl) (by kernel_rfl) (by kernel_rfl) ?_
      refine Kn.r Fm [(0,AL i),(1,AL a),(2,vi j),(3,vi e),(8,pt 8),(14,AL ([]:List Rect)),(49,AL b),(50,vi (lI b)),(51,vi 0)] [(8,bx [.fl 0 fun _=>[]])] (by kernel_rfl) ?_
      refine AW.loopF (E' := fun z=>[(0,AL i),(1,AL a),(2,vi j),(3,vi e),(8,pt 8),(14,AL z.1),(49,AL b),(50,vi (lI b)),(51,vi z.2)]) (S' := fun z=>[(8,bx [.fl 0 fun _=>[]])]) (fun H z K0 Z h=>?_) h
      obtain ⟨n,l⟩:=z
      refine AW.SG0 Fm 1 [(0,AL i),(1,AL a),(2,vi j),(3,vi e),(8,pt 8),(14,AL n),(49,AL b),(50,vi (lI b)),(51,vi l),(52,vb (decide (l<(lI b))))] [(8,bx [.fl 0 fun _=>[]])] ?_
      refine AW.seq (AW.cN h (fun k0 h=>?_) (fun k0 h=>?_))
      ·refine AW.skip (AW.join (r:=r) (fun z:(List Rect)=>ref15_Same_k7 F l H z) (fun z=>[(0,AL i),(1,AL a),(2,vi j),(3,vi e),(8,pt 8),(14,AL z),(49,AL b),(50,vi (lI b)),(51,vi l)]) (fun z=>[(8,bx [.fl 0 fun _=>[]])]) (fun V h=>?_) (fun O0 c0=>?_))
       ·obtain ⟨s0,h⟩:=gS h
        refine AW.pN Fm [.s,.s] [(0,AL i),(1,AL a),(2,vi j),(3,vi e),(8,pt 8),(14,AL V),(49,AL b),(50,vi (lI b)),(51,vi (l+1))] [(8,bx [.fl 0 fun _=>[]])] (cT (cT s0)) ?_
        exact Kn.R Fm (Z (V,(l+1)) h)
       ·refine AW.block ?_
        obtain ⟨o0,h⟩:=gS h
        refine AW.SP Fm [.s,.s,.s] [(0,AL i),(1,AL a),(2,vi j),(3,vi e),(8,pt 8),(14,AL n),(16,vi (gl b l.toNat)),(49,AL b),(50,vi (lI b)),(51,vi l)] [(8,bx [.fl 0 fun _=>[]])] (cT o0) ?_
        refine AW.seq ?_
        obtain ⟨P,w0,h⟩:=bS h
        refine AW.G Fm [.s,.s,.s,.s,.k (cE [] [] (AL P) [] []),.s] (fun K=>K 4∧True) [(0,AL i),(1,AL a),(2,vi j),(3,vi e),(8,pt 8),(14,AL n),(16,vi (gl b l.toNat)),(17,AL P),(49,AL b),(50,vi (lI b)),(51,vi l)] [(8,bx [.fl 0 fun _=>[]])] ⟨KAt.CC (ref15_Squares_spec w0) Tryz.call119 [],⟨⟩⟩ ?_
        refine AW.join (r:=r) (fun z:(List Rect)=>ref15_Same_k6 F n l H z) (fun z=>[(0,AL i),(1,AL a),(2,vi j),(3,vi e),(8,pt 8),(14,AL n),(17,AL z),(49,AL b),(50,vi (lI b)),(51,vi l)]) (fun z=>[(8,bx [.fl 0 fun _=>[]])]) (fun V0 h=>?_) (fun N0 b0=>?_)
        ·obtain ⟨T,B0,h⟩:=bS h
         refine AW.G Fm [.s,.s,.k (cE [] [] (AL T) [] []),.s] (fun K=>K 2∧True) [(0,AL i),(1,AL a),(2,vi j),(3,vi e),(8,pt 8),(14,AL T),(49,AL b),(50,vi (lI b)),(51,vi l)] [(8,bx [.fl 0 fun _=>[]])] ⟨KAt.CC (ref04_Combine_spec B0) Tryz.call112 [],⟨⟩⟩ ?_
         exact Kn.R Fm (c0 T h)
        ·obtain ⟨p0,h⟩:=gS h
         refine AW.SP Fm [.s,.s,.s] [(0,AL i),(1,AL a),(2,vi j),(3,vi e),(8,pt 8),(14,AL n),(16,vi (gl b l.toNat)),(17,AL P),(18,vi (j+1)),(49,AL b),(50,vi (lI b)),(51,vi l)] [(8,bx [.fl 0 fun _=>[]])] (cT (cT p0)) ?_
         refine AW.block (AW.loopF (E' := fun z=>[(0,AL i),(1,AL a),(2,vi j),(3,vi e),(8,pt 8),(14,AL n),(16,vi (gl b l.toNat)),(17,AL z.1),(18,vi z.2),(49,AL b),(50,vi (lI b)),(51,vi l)]) (S' := fun z=>[(8,bx [.fl 0 fun _=>[]])]) (fun W z L0 a0 h=>?_) h)
         obtain ⟨o,q⟩:=z
         refine AW.seq (AW.join (r:=r) (fun z:Bool=>ref15_Same_k5 F i a b n l o q W H z) (fun z=>[(0,AL i),(1,AL a),(2,vi j),(3,vi e),(8,pt 8),(14,AL n),(16,vi (gl b l.toNat)),(17,AL o),(18,vi q),(49,AL b),(50,vi (lI b)),(51,vi l),(69,vb z)]) (fun z=>[(8,bx [.fl 0 fun _=>[]])]) (fun U0 h=>?_) (fun M0 U=>?_))
         ·refine AW.cN h (fun l0 h=>?_) (fun l0 h=>?_)
          ·refine AW.skip (AW.seq (AW.block ?_))
           obtain ⟨E0,y0,h⟩:=bS h
           obtain ⟨B,A0,h⟩:=bS h
           refine AW.G Fm [.s,.s,.s,.s,.s,.k (cE [] [] (AL E0) [] []),.k (cE [] [] (AL B) [] []),.s] (fun K=>K 5∧K 6∧True) [(0,AL i),(1,AL a),(2,vi j),(3,vi e),(8,pt 8),(14,AL n),(16,vi (gl b l.toNat)),(17,AL B),(18,vi q),(49,AL b),(50,vi (lI b)),(51,vi l)] [(8,bx [.fl 0 fun _=>[]])] ⟨KAt.CC (ref15_Squares_spec y0) Tryz.call119 [],KAt.CC (ref04_Combine_spec A0) Tryz.call112 [],⟨⟩⟩ ?_
           obtain ⟨q0,h⟩:=gS h
           refine AW.pN Fm [.s,.s,.s] [(0,AL i),(1,AL a),(2,vi j),(3,vi e),(8,pt 8),(14,AL n),(16,vi (gl b l.toNat)),(17,AL B),(18,vi (q+1)),(49,AL b),(50,vi (lI b)),(51,vi l)] [(8,bx [.fl 0 fun _=>[]])] (cT (cT q0)) ?_
           exact Kn.R Fm (a0 (B,(q+1)) h)
          ·exact AW.exit (Kn.R Fm (b0 o h))
         ·rcases br_or h with ⟨M,h⟩|⟨M,h⟩
          ·refine AW.pN Fm [.s,.s,.s,.w (vb true),.s,.s,.s,.s] [(0,AL i),(1,AL a),(2,vi j),(3,vi e),(8,pt 8),(14,AL n),(16,vi (gl b l.toNat)),(17,AL o),(18,vi q),(49,AL b),(50,vi (lI b)),(51,vi l),(66,AL o),(67,vi (lI o)),(68,vb (decide ((0:Int)<(lI o)))),(69,vb (decide ((0:Int)<(lI o))))] [(8,bx [.fl 0 fun _=>[]])] (cT (ALe.bool M)) ?_
           exact Kn.R Fm (U (decide ((0:Int)<(lI o))) h)
          ·refine AW.pN Fm [.s,.s,.s,.w (vb false),.s,.s,.s,.s] [(0,AL i),(1,AL a),(2,vi j),(3,vi e),(8,pt 8),(14,AL n),(16,vi (gl b l.toNat)),(17,AL o),(18,vi q),(49,AL b),(50,vi (lI b)),(51,vi l),(69,vb false)] [(8,bx [.fl 0 fun _=>[]])] (cT (ALe.bool M)) ?_
           exact Kn.R Fm (U false h)
      ·exact AW.exit (Kn.R Fm (d0 n h))
    ·refine AW.SG0 Fm 3 [(0,AL i),(1,AL a),(2,vi j),(3,vi e),(8,pt 8),(11,ow 11),(38,AL a),(39,vi (lI a)),(40,vi 0)] [(8,bx [.fl 0 fun _=>[]]),(11,AO (α:=Int) ([]:List Int))] ?_
     refine AW.block (Kn.r Fm [(0,AL i),(1,AL a),(2,vi j),(3,vi e),(8,pt 8),(11,ow 11),(38,AL a),(39,vi (lI a)),(40,vi 0)] [(11,AO (α:=Int) ([]:List Int)),(8,bx [.fl 0 fun _=>[]])] (by kernel_rfl) ?_)
     refine Kn.frz [(0,AL i),(1,AL a),(2,vi j),(3,vi e),(8,pt 8),(11,AL (α:=Int) ([]:List Int)),(38,AL a),(39,vi (lI a)),(40,vi 0)] [(8,bx [.fl 0 fun _=>[]])] (by kernel_rfl) (by kernel_rfl) (by kernel_rfl) ?_
     refine Kn.r Fm [(0,AL i),(1,AL a),(2,vi j),(3,vi e),(8,pt 8),(11,AL ([]:List Int)),(38,AL a),(39,vi (lI a)),(40,vi 0)] [(8,bx [.fl 0 fun _=>[]])] (by kernel_rfl) ?_
     refine AW.loopF (E' := fun z=>[(0,AL i),(1,AL a),(2,vi j),(3,vi e),(8,pt 8),(11,AL z.1),(38,AL a),(39,vi (lI a)),(40,vi z.2)]) (S' := fun z=>[(8,bx [.fl 0 fun _=>[]])]) (fun R0 z H0 X h=>?_) h
     obtain ⟨N,p⟩:=z
     refine AW.SG0 Fm 1 [(0,AL i),(1,AL a),(2,vi j),(3,vi e),(8,pt 8),(11,AL N),(38,AL a),(39,vi (lI a)),(40,vi p),(41,vb (decide (p<(lI a))))] [(8,bx [.fl 0 fun _=>[]])] ?_
     refine AW.seq (AW.cN h (fun j0 h=>?_) (fun j0 h=>?_))
     ·refine AW.skip (AW.seq (AW.block ?_))
      obtain ⟨m0,h⟩:=gS h
      refine AW.SP Fm [.s,.s,.s,.s] [(0,AL i),(1,AL a),(2,vi j),(3,vi e),(8,pt 8),(11,AL N),(13,pt 13),(38,AL a),(39,vi (lI a)),(40,vi p)] [(8,bx [.fl 0 fun _=>[]]),(13,bx [.d (.str (gl a p.toNat).name_),ci ((gl a p.toNat).family_),ci ((gl a p.toNat).marks_)])] (cT m0) ?_
      obtain ⟨A,u0,h⟩:=bS h
      refine AW.G Fm [.s,.s,.s,.k (cE [] [] (AL A) [] []),.s] (fun K=>K 3∧True) [(0,AL i),(1,AL a),(2,vi j),(3,vi e),(8,pt 8),(11,AL A),(38,AL a),(39,vi (lI a)),(40,vi p)] [(8,bx [.fl 0 fun _=>[]])] ⟨KAt.CC (ref01_Put_spec u0) Tryz.call127 [],⟨⟩⟩ ?_
      obtain ⟨n0,h⟩:=gS h
      refine AW.pN Fm [.s,.s] [(0,AL i),(1,AL a),(2,vi j),(3,vi e),(8,pt 8),(11,AL A),(38,AL a),(39,vi (lI a)),(40,vi (p+1))] [(8,bx [.fl 0 fun _=>[]])] (cT (cT n0)) ?_
      exact Kn.R Fm (X (A,(p+1)) h)
     ·exact AW.exit (Kn.R Fm (Y N h))
  ·rcases br_or h with ⟨y,h⟩|⟨y,h⟩
   ·refine AW.pN Fm [.s,.s,.w (vb true),.s,.s,.s,.s,.s,.s,.s,.s] [(0,AL i),(1,AL a),(2,vi j),(3,vi e),(8,pt 8),(36,vb true)] [(8,bx [.fl 0 fun _=>[]])] (cT (ALe.bool y)) ?_
    exact Kn.R Fm (I true h)
   ·rcases br_or h with ⟨L,h⟩|⟨L,h⟩
    ·refine AW.pN Fm [.s,.s,.w (vb false),.s,.s,.s,.s,.w (vb true),.s,.s,.s] [(0,AL i),(1,AL a),(2,vi j),(3,vi e),(8,pt 8),(36,vb true)] [(8,bx [.fl 0 fun _=>[]])] (cA (ALe.bool y) (cT (ALe.bool L))) ?_
     exact Kn.R Fm (I true h)
    ·refine AW.pN Fm [.s,.s,.w (vb false),.s,.s,.s,.s,.w (vb false),.s,.s,.s] [(0,AL i),(1,AL a),(2,vi j),(3,vi e),(8,pt 8),(36,vb (decide ((100:Int)<e)))] [(8,bx [.fl 0 fun _=>[]])] (cA (ALe.bool y) (cT (ALe.bool L))) ?_
     exact Kn.R Fm (I (decide ((100:Int)<e)) h)
theorem keep_Tape_Crops_O_spec {F:Nat} {n:Tape} {r:Tape×(List Crop)} (h:keep_Tape_Crops_O F n=some r) :
  FSpec Tryz.prog 14 [pt 0] [(0,bx (gC n))] (ow 100) [(0,bx (gC r.1)),(100,AO (α:=Crop) r.2)]:=by
 refine FI Tryz.func14 prog_mixed prog_lay fun C Fm=>?_
 unfold keep_Tape_Crops_O at h
 refine AW.SG Fm [.m] (fun K=>True) [(0,pt 0)] [(0,bx (gC n))] True.intro ?_
 refine AW.SP Fm [.w (AL (α:=ByteArray) ([(ByteArray.mk #[98,97,114,108,101,121]),(ByteArray.mk #[99,108,111,118,101,114]),(ByteArray.mk #[103,114,97,115,115]),(ByteArray.mk #[109,97,105,122,101]),(ByteArray.mk #[111,97,116,115]),(ByteArray.mk #[114,121,101]),(ByteArray.mk #[118,101,116,99,104]),(ByteArray.mk #[119,104,101,97,116])]:List ByteArray)),.s] [(0,pt 0),(3,AL (α:=ByteArray) ([(ByteArray.mk #[98,97,114,108,101,121]),(ByteArray.mk #[99,108,111,118,101,114]),(ByteArray.mk #[103,114,97,115,115]),(ByteArray.mk #[109,97,105,122,101]),(ByteArray.mk #[111,97,116,115]),(ByteArray.mk #[114,121,101]),(ByteArray.mk #[118,101,116,99,104]),(ByteArray.mk #[119,104,101,97,116])]:List ByteArray))] [(0,bx (gC n))] (cT (ALe.lst (.lit ([(ByteArray.mk #[98,97,114,108,101,121]),(ByteArray.mk #[99,108,111,118,101,114]),(ByteArray.mk #[103,114,97,115,115]),(ByteArray.mk #[109,97,105,122,101]),(ByteArray.mk #[111,97,116,115]),(ByteArray.mk #[114,121,101]),(ByteArray.mk #[118,101,116,99,104]),(ByteArray.mk #[119,104,101,97,116])]:List ByteArray) (by kernel_rfl)):ALe (.v (.c (.d (.lst 8 (litF 1 [.str (ByteArray.mk #[98,97,114,108,101,121]),.str (ByteArray.mk #[99,108,111,118,101,114]),.str (ByteArray.mk #[103,114,97,115,115]),.str (ByteArray.mk #[109,97,105,122,101]),.str (ByteArray.mk #[111,97,116,115]),.str (ByteArray.mk #[114,121,101]),.str (ByteArray.mk #[118,101,116,99,104]),.str (ByteArray.mk #[119,104,101,97,116])]))))) (AL (α:=ByteArray) ([(ByteArray.mk #[98,97,114,108,101,121]),(ByteArray.mk #[99,108,111,118,101,114]),(ByteArray.mk #[103,114,97,115,115]),(ByteArray.mk #[109,97,105,122,101]),(ByteArray.mk #[111,97,116,115]),(ByteArray.mk #[114,121,101]),(ByteArray.mk #[118,101,116,99,104]),(ByteArray.mk #[119,104,101,97,116])]:List ByteArray)))) ?_
 refine AW.SW Fm [.m] (fun K=>True) [(0,pt 0),(3,AL (α:=ByteArray) ([(ByteArray.mk #[98,97,114,108,101,121]),(ByteArray.mk #[99,108,111,118,101,114]),(ByteArray.mk #[103,114,97,115,115]),(ByteArray.mk #[109,97,105,122,101]),(ByteArray.mk #[111,97,116,115]),(ByteArray.mk #[114,121,101]),(ByteArray.mk #[118,101,116,99,104]),(ByteArray.mk #[119,104,101,97,116])]:List ByteArray)),(4,ow 4)] [(0,bx (gC n)),(4,AO (α:=Crop) ([]:List Crop))] True.intro [(4,.arr 3 (0) (fun _=>[]))] ⟨OLe.is ((Is.nil (α:=Crop))),⟨⟩⟩ ?_
 refine AW.join (r:=r) (fun z:(List Crop)×(List Int)×Int=>keep_Tape_Crops_O_k1 F z.1 z.2.1 z.2.2) (fun z=>[(4,ow 4)]) (fun z=>[(0,bx [.d (DL z.2.1),ci z.2.2]),(4,AO z.1)]) (fun z h=>?_) (fun U B=>?_)
 ·obtain ⟨t,u,y⟩:=z
  refine AW.SG0 Fm 2 [(2,ow 4)] [(0,bx [.d (DL u),ci y]),(4,AO t)] ?_
  refine AW.ret ?_
  obtain rfl:=Option.some.inj h
  exact Kn.re Fm [(100,4)] [(2,ow 100)] [(0,bx [.d (DL u),ci y]),(100,AO t)] (by kernel_rfl) (by kernel_rfl) (by kernel_rfl) (by kernel_rfl) (Kn.dn Fm (by kernel_rfl))
 ·refine AW.seq ?_
  obtain ⟨a,M,h⟩:=bS h
  obtain ⟨q,h⟩:=gS h
  refine AW.G Fm [.s,.s,.k (cE [(0,0)] [] (vi a.2) [(0,bx (gC n))] [(0,bx (gC a.1))]),.w (AL (α:=ByteArray) (([(ByteArray.mk #[98,97,114,108,101,121]),(ByteArray.mk #[99,108,111,118,101,114]),(ByteArray.mk #[103,114,97,115,115]),(ByteArray.mk #[109,97,105,122,101]),(ByteArray.mk #[111,97,116,115]),(ByteArray.mk #[114,121,101]),(ByteArray.mk #[118,101,116,99,104]),(ByteArray.mk #[119,104,101,97,116])]:List ByteArray).take a.2.toNat)),.s,.s] (fun K=>K 2∧(((sl (List.length ([(ByteArray.mk #[98,97,114,108,101,121]),(ByteArray.mk #[99,108,111,118,101,114]),(ByteArray.mk #[103,114,97,115,115]),(ByteArray.mk #[109,97,105,122,101]),(ByteArray.mk #[111,97,116,115]),(ByteArray.mk #[114,121,101]),(ByteArray.mk #[118,101,116,99,104]),(ByteArray.mk #[119,104,101,97,116])]:List ByteArray)) (LF ([(ByteArray.mk #[98,97,114,108,101,121]),(ByteArray.mk #[99,108,111,118,101,114]),(ByteArray.mk #[103,114,97,115,115]),(ByteArray.mk #[109,97,105,122,101]),(ByteArray.mk #[111,97,116,115]),(ByteArray.mk #[114,121,101]),(ByteArray.mk #[118,101,116,99,104]),(ByteArray.mk #[119,104,101,97,116])]:List ByteArray)) none (some a.2)).2∧∀ j,j<List.length ([(ByteArray.mk #[98,97,114,108,101,121]),(ByteArray.mk #[99,108,111,118,101,114]),(ByteArray.mk #[103,114,97,115,115]),(ByteArray.mk #[109,97,105,122,101]),(ByteArray.mk #[111,97,116,115]),(ByteArray.mk #[114,121,101]),(ByteArray.mk #[118,101,116,99,104]),(ByteArray.mk #[119,104,101,97,116])]:List ByteArray)→(LF ([(ByteArray.mk #[98,97,114,108,101,121]),(ByteArray.mk #[99,108,111,118,101,114]),(ByteArray.mk #[103,114,97,115,115]),(ByteArray.mk #[109,97,105,122,101]),(ByteArray.mk #[111,97,116,115]),(ByteArray.mk #[114,121,101]),(ByteArray.mk #[118,101,116,99,104]),(ByteArray.mk #[119,104,101,97,116])]:List ByteArray) j).length=1))∧(ALe (.v (.c (.d (.lst (sl (List.length ([(ByteArray.mk #[98,97,114,108,101,121]),(ByteArray.mk #[99,108,111,118,101,114]),(ByteArray.mk #[103,114,97,115,115]),(ByteArray.mk #[109,97,105,122,101]),(ByteArray.mk #[111,97,116,115]),(ByteArray.mk #[114,121,101]),(ByteArray.mk #[118,101,116,99,104]),(ByteArray.mk #[119,104,101,97,116])]:List ByteArray)) (LF ([(ByteArray.mk #[98,97,114,108,101,121]),(ByteArray.mk #[99,108,111,118,101,114]),(ByteArray.mk #[103,114,97,115,115]),(ByteArray.mk #[109,97,105,122,101]),(ByteArray.mk #[111,97,116,115]),(ByteArray.mk #[114,121,101]),(ByteArray.mk #[118,101,116,99,104]),(ByteArray.mk #[119,104,101,97,116])]:List ByteArray)) none (some a.2)).1.1 (sl (List.length ([(ByteArray.mk #[98,97,114,108,101,121]),(ByteArray.mk #[99,108,111,118,101,114]),(ByteArray.mk #[103,114,97,115,115]),(ByteArray.mk #[109,97,105,122,101]),(ByteArray.mk #[111,97,116,115]),(ByteArray.mk #[114,121,101]),(ByteArray.mk #[118,101,116,99,104]),(ByteArray.mk #[119,104,101,97,116])]:List ByteArray)) (LF ([(ByteArray.mk #[98,97,114,108,101,121]),(ByteArray.mk #[99,108,111,118,101,114]),(ByteArray.mk #[103,114,97,115,115]),(ByteArray.mk #[109,97,105,122,101]),(ByteArray.mk #[111,97,116,115]),(ByteArray.mk #[114,121,101]),(ByteArray.mk #[118,101,116,99,104]),(ByteArray.mk #[119,104,101,97,116])]:List ByteArray)) none (some a.2)).1.2)))) (AL (α:=ByteArray) (([(ByteArray.mk #[98,97,114,108,101,121]),(ByteArray.mk #[99,108,111,118,101,114]),(ByteArray.mk #[103,114,97,115,115]),(ByteArray.mk #[109,97,105,122,101]),(ByteArray.mk #[111,97,116,115]),(ByteArray.mk #[114,121,101]),(ByteArray.mk #[118,101,116,99,104]),(ByteArray.mk #[119,104,101,97,116])]:List ByteArray).take a.2.toNat)))∧True) [(0,pt 0),(4,ow 4),(11,AL (α:=ByteArray) (([(ByteArray.mk #[98,97,114,108,101,121]),(ByteArray.mk #[99,108,111,118,101,114]),(ByteArray.mk #[103,114,97,115,115]),(ByteArray.mk #[109,97,105,122,101]),(ByteArray.mk #[111,97,116,115]),(ByteArray.mk #[114,121,101]),(ByteArray.mk #[118,101,116,99,104]),(ByteArray.mk #[119,104,101,97,116])]:List ByteArray).take a.2.toNat)),(12,vi ((List.length (([(ByteArray.mk #[98,97,114,108,101,121]),(ByteArray.mk #[99,108,111,118,101,114]),(ByteArray.mk #[103,114,97,115,115]),(ByteArray.mk #[109,97,105,122,101]),(ByteArray.mk #[111,97,116,115]),(ByteArray.mk #[114,121,101]),(ByteArray.mk #[118,101,116,99,104]),(ByteArray.mk #[119,104,101,97,116])]:List ByteArray).take a.2.toNat):Nat):Int)),(13,vi 0)] [(0,bx (gC a.1)),(4,AO (α:=Crop) ([]:List Crop))] ⟨KAt.CC (keep_Tape_Range_spec M) Tryz.call45 [(0,0)],⟨q,(Is.refl ([(ByteArray.mk #[98,97,114,108,101,121]),(ByteArray.mk #[99,108,111,118,101,114]),(ByteArray.mk #[103,114,97,115,115]),(ByteArray.mk #[109,97,105,122,101]),(ByteArray.mk #[111,97,116,115]),(ByteArray.mk #[114,121,101]),(ByteArray.mk #[118,101,116,99,104]),(ByteArray.mk #[119,104,101,97,116])]:List ByteArray)).len⟩,ALe.lst (sl_is ([(ByteArray.mk #[98,97,114,108,101,121]),(ByteArray.mk #[99,108,111,118,101,114]),(ByteArray.mk #[103,114,97,115,115]),(ByteArray.mk #[109,97,105,122,101]),(ByteArray.mk #[111,97,116,115]),(ByteArray.mk #[114,121,101]),(ByteArray.mk #[118,101,116,99,104]),(ByteArray.mk #[119,104,101,97,116])]:List ByteArray) none (some a.2) q),⟨⟩⟩ ?_
  refine AW.block (Kn.r Fm [(0,pt 0),(4,ow 4),(11,AL (α:=ByteArray) (([(ByteArray.mk #[98,97,114,108,101,121]),(ByteArray.mk #[99,108,111,118,101,114]),(ByteArray.mk #[103,114,97,115,115]),(ByteArray.mk #[109,97,105,122,101]),(ByteArray.mk #[111,97,116,115]),(ByteArray.mk #[114,121,101]),(ByteArray.mk #[118,101,116,99,104]),(ByteArray.mk #[119,104,101,97,116])]:List ByteArray).take a.2.toNat)),(12,vi ((List.length (([(ByteArray.mk #[98,97,114,108,101,121]),(ByteArray.mk #[99,108,111,118,101,114]),(ByteArray.mk #[103,114,97,115,115]),(ByteArray.mk #[109,97,105,122,101]),(ByteArray.mk #[111,97,116,115]),(ByteArray.mk #[114,121,101]),(ByteArray.mk #[118,101,116,99,104]),(ByteArray.mk #[119,104,101,97,116])]:List ByteArray).take a.2.toNat):Nat):Int)),(13,vi 0)] [(0,bx [.d (DL a.1.l_),ci a.1.at_]),(4,AO ([]:List Crop))] (by kernel_rfl) ?_)
  refine AW.loopF (E' := fun z=>[(0,pt 0),(4,ow 4),(11,AL (α:=ByteArray) (([(ByteArray.mk #[98,97,114,108,101,121]),(ByteArray.mk #[99,108,111,118,101,114]),(ByteArray.mk #[103,114,97,115,115]),(ByteArray.mk #[109,97,105,122,101]),(ByteArray.mk #[111,97,116,115]),(ByteArray.mk #[114,121,101]),(ByteArray.mk #[118,101,116,99,104]),(ByteArray.mk #[119,104,101,97,116])]:List ByteArray).take a.2.toNat)),(12,vi ((List.length (([(ByteArray.mk #[98,97,114,108,101,121]),(ByteArray.mk #[99,108,111,118,101,114]),(ByteArray.mk #[103,114,97,115,115]),(ByteArray.mk #[109,97,105,122,101]),(ByteArray.mk #[111,97,116,115]),(ByteArray.mk #[114,121,101]),(ByteArray.mk #[118,101,116,99,104]),(ByteArray.mk #[119,104,101,97,116])]:List ByteArray).take a.2.toNat):Nat):Int)),(13,vi z.1)]) (S' := fun z=>[(0,bx [.d (DL z.2.1),ci z.2.2.1]),(4,AO z.2.2.2)]) (fun V z T A h=>?_) h
  obtain ⟨b,o,p,l⟩:=z
  refine AW.SG0 Fm 1 [(0,pt 0),(4,ow 4),(11,AL (α:=ByteArray) (([(ByteArray.mk #[98,97,114,108,101,121]),(ByteArray.mk #[99,108,111,118,101,114]),(ByteArray.mk #[103,114,97,115,115]),(ByteArray.mk #[109,97,105,122,101]),(ByteArray.mk #[111,97,116,115]),(ByteArray.mk #[114,121,101]),(ByteArray.mk #[118,101,116,99,104]),(ByteArray.mk #[119,104,101,97,116])]:List ByteArray).take a.2.toNat)),(12,vi ((List.length (([(ByteArray.mk #[98,97,114,108,101,121]),(ByteArray.mk #[99,108,111,118,101,114]),(ByteArray.mk #[103,114,97,115,115]),(ByteArray.mk #[109,97,105,122,101]),(ByteArray.mk #[111,97,116,115]),(ByteArray.mk #[114,121,101]),(ByteArray.mk #[118,101,116,99,104]),(ByteArray.mk #[119,104,101,97,116])]:List ByteArray).take a.2.toNat):Nat):Int)),(13,vi b),(14,vb (decide (b<((List.length (([(ByteArray.mk #[98,97,114,108,101,121]),(ByteArray.mk #[99,108,111,118,101,114]),(ByteArray.mk #[103,114,97,115,115]),(ByteArray.mk #[109,97,105,122,101]),(ByteArray.mk #[111,97,116,115]),(ByteArray.mk #[114,121,101]),(ByteArray.mk #[118,101,116,99,104]),(ByteArray.mk #[119,104,101,97,116])]:List ByteArray).take a.2.toNat):Nat):Int))))] [(0,bx [.d (DL o),ci p]),(4,AO l)] ?_
  refine AW.seq (AW.cN h (fun D h=>?_) (fun D h=>?_))
  ·refine AW.skip (AW.seq (AW.block ?_))
   obtain ⟨E,h⟩:=gS h
   refine AW.SP Fm [.s,.s,.s] [(0,pt 0),(4,ow 4),(6,.v (.c (.d (.str (gl (([(ByteArray.mk #[98,97,114,108,101,121]),(ByteArray.mk #[99,108,111,118,101,114]),(ByteArray.mk #[103,114,97,115,115]),(ByteArray.mk #[109,97,105,122,101]),(ByteArray.mk #[111,97,116,115]),(ByteArray.mk #[114,121,101]),(ByteArray.mk #[118,101,116,99,104]),(ByteArray.mk #[119,104,101,97,116])]:List ByteArray).take a.2.toNat) b.toNat))))),(11,AL (α:=ByteArray) (([(ByteArray.mk #[98,97,114,108,101,121]),(ByteArray.mk #[99,108,111,118,101,114]),(ByteArray.mk #[103,114,97,115,115]),(ByteArray.mk #[109,97,105,122,101]),(ByteArray.mk #[111,97,116,115]),(ByteArray.mk #[114,121,101]),(ByteArray.mk #[118,101,116,99,104]),(ByteArray.mk #[119,104,101,97,116])]:List ByteArray).take a.2.toNat)),(12,vi ((List.length (([(ByteArray.mk #[98,97,114,108,101,121]),(ByteArray.mk #[99,108,111,118,101,114]),(ByteArray.mk #[103,114,97,115,115]),(ByteArray.mk #[109,97,105,122,101]),(ByteArray.mk #[111,97,116,115]),(ByteArray.mk #[114,121,101]),(ByteArray.mk #[118,101,116,99,104]),(ByteArray.mk #[119,104,101,97,116])]:List ByteArray).take a.2.toNat):Nat):Int)),(13,vi b)] [(0,bx [.d (DL o),ci p]),(4,AO l)] (cT E) ?_
   obtain ⟨i,N,h⟩:=bS h
   obtain ⟨e,P,h⟩:=bS h
   obtain ⟨H,I,h⟩:=gS2 h
   refine AW.GW Fm [.s,.s,.s,.k (cE [(0,0)] [] (vi i.2) [(0,bx [.d (DL (α:=Int) (⟨o,p⟩ : Tape).l_),ci ((⟨o,p⟩ : Tape).at_)])] [(0,bx (gC i.1))]),.w (AL (α:=Int) ([(0:Int),(0:Int),(0:Int),(2:Int),(20:Int),(8:Int),(1:Int),(31:Int)]:List Int)),.s,.k (cE [(0,0)] [] (vi e.2) [(0,bx (gC i.1))] [(0,bx (gC e.1))]),.s,.s,.s,.w (AL (α:=Crop) ([(⟨(gl (([(ByteArray.mk #[98,97,114,108,101,121]),(ByteArray.mk #[99,108,111,118,101,114]),(ByteArray.mk #[103,114,97,115,115]),(ByteArray.mk #[109,97,105,122,101]),(ByteArray.mk #[111,97,116,115]),(ByteArray.mk #[114,121,101]),(ByteArray.mk #[118,101,116,99,104]),(ByteArray.mk #[119,104,101,97,116])]:List ByteArray).take a.2.toNat) b.toNat),i.2,(gl ([(0:Int),(0:Int),(0:Int),(2:Int),(20:Int),(8:Int),(1:Int),(31:Int)]:List Int) e.2.toNat)⟩ : Crop)]:List Crop)),.s,.s] (fun K=>K 3∧(ALe (.v (.c (.d (.lst 8 (litF 1 [.int .i64 (0:Int),.int .i64 (0:Int),.int .i64 (0:Int),.int .i64 (2:Int),.int .i64 (20:Int),.int .i64 (8:Int),.int .i64 (1:Int),.int .i64 (31:Int)]))))) (AL (α:=Int) ([(0:Int),(0:Int),(0:Int),(2:Int),(20:Int),(8:Int),(1:Int),(31:Int)]:List Int)))∧K 6∧_∧(ALe (.v (.c (.d (.lst 1 (litF 3 [.str (gl (([(ByteArray.mk #[98,97,114,108,101,121]),(ByteArray.mk #[99,108,111,118,101,114]),(ByteArray.mk #[103,114,97,115,115]),(ByteArray.mk #[109,97,105,122,101]),(ByteArray.mk #[111,97,116,115]),(ByteArray.mk #[114,121,101]),(ByteArray.mk #[118,101,116,99,104]),(ByteArray.mk #[119,104,101,97,116])]:List ByteArray).take a.2.toNat) b.toNat),.int .i64 i.2,.int .i64 (gl ([(0:Int),(0:Int),(0:Int),(2:Int),(20:Int),(8:Int),(1:Int),(31:Int)]:List Int) e.2.toNat)]))))) (AL (α:=Crop) ([(⟨(gl (([(ByteArray.mk #[98,97,114,108,101,121]),(ByteArray.mk #[99,108,111,118,101,114]),(ByteArray.mk #[103,114,97,115,115]),(ByteArray.mk #[109,97,105,122,101]),(ByteArray.mk #[111,97,116,115]),(ByteArray.mk #[114,121,101]),(ByteArray.mk #[118,101,116,99,104]),(ByteArray.mk #[119,104,101,97,116])]:List ByteArray).take a.2.toNat) b.toNat),i.2,(gl ([(0:Int),(0:Int),(0:Int),(2:Int),(20:Int),(8:Int),(1:Int),(31:Int)]:List Int) e.2.toNat)⟩ : Crop)]:List Crop)))∧(_∧_∧True)∧True) [(0,pt 0),(4,ow 28),(11,AL (α:=ByteArray) (([(ByteArray.mk #[98,97,114,108,101,121]),(ByteArray.mk #[99,108,111,118,101,114]),(ByteArray.mk #[103,114,97,115,115]),(ByteArray.mk #[109,97,105,122,101]),(ByteArray.mk #[111,97,116,115]),(ByteArray.mk #[114,121,101]),(ByteArray.mk #[118,101,116,99,104]),(ByteArray.mk #[119,104,101,97,116])]:List ByteArray).take a.2.toNat)),(12,vi ((List.length (([(ByteArray.mk #[98,97,114,108,101,121]),(ByteArray.mk #[99,108,111,118,101,114]),(ByteArray.mk #[103,114,97,115,115]),(ByteArray.mk #[109,97,105,122,101]),(ByteArray.mk #[111,97,116,115]),(ByteArray.mk #[114,121,101]),(ByteArray.mk #[118,101,116,99,104]),(ByteArray.mk #[119,104,101,97,116])]:List ByteArray).take a.2.toNat):Nat):Int)),(13,vi b)] [(0,bx (gC e.1)),(28,AO (α:=Crop) (l++([(⟨(gl (([(ByteArray.mk #[98,97,114,108,101,121]),(ByteArray.mk #[99,108,111,118,101,114]),(ByteArray.mk #[103,114,97,115,115]),(ByteArray.mk #[109,97,105,122,101]),(ByteArray.mk #[111,97,116,115]),(ByteArray.mk #[114,121,101]),(ByteArray.mk #[118,101,116,99,104]),(ByteArray.mk #[119,104,101,97,116])]:List ByteArray).take a.2.toNat) b.toNat),i.2,(gl ([(0:Int),(0:Int),(0:Int),(2:Int),(20:Int),(8:Int),(1:Int),(31:Int)]:List Int) e.2.toNat)⟩ : Crop)]:List Crop)))] ⟨KAt.CC (keep_Tape_Next_spec N) Tryz.call15 [(0,0)],ALe.lst (.lit ([(0:Int),(0:Int),(0:Int),(2:Int),(20:Int),(8:Int),(1:Int),(31:Int)]:List Int) (by kernel_rfl)),KAt.CC (keep_Tape_Next_spec P) Tryz.call15 [(0,0)],H,ALe.lst (.lit ([(⟨(gl (([(ByteArray.mk #[98,97,114,108,101,121]),(ByteArray.mk #[99,108,111,118,101,114]),(ByteArray.mk #[103,114,97,115,115]),(ByteArray.mk #[109,97,105,122,101]),(ByteArray.mk #[111,97,116,115]),(ByteArray.mk #[114,121,101]),(ByteArray.mk #[118,101,116,99,104]),(ByteArray.mk #[119,104,101,97,116])]:List ByteArray).take a.2.toNat) b.toNat),i.2,(gl ([(0:Int),(0:Int),(0:Int),(2:Int),(20:Int),(8:Int),(1:Int),(31:Int)]:List Int) e.2.toNat)⟩ : Crop)]:List Crop) (by kernel_rfl)),⟨I,(Is.refl ([(⟨(gl (([(ByteArray.mk #[98,97,114,108,101,121]),(ByteArray.mk #[99,108,111,118,101,114]),(ByteArray.mk #[103,114,97,115,115]),(ByteArray.mk #[109,97,105,122,101]),(ByteArray.mk #[111,97,116,115]),(ByteArray.mk #[114,121,101]),(ByteArray.mk #[118,101,116,99,104]),(ByteArray.mk #[119,104,101,97,116])]:List ByteArray).take a.2.toNat) b.toNat),i.2,(gl ([(0:Int),(0:Int),(0:Int),(2:Int),(20:Int),(8:Int),(1:Int),(31:Int)]:List Int) e.2.toNat)⟩ : Crop)]:List Crop):Is (List.length (α:=Crop) ([(⟨(gl (([(ByteArray.mk #[98,97,114,108,101,121]),(ByteArray.mk #[99,108,111,118,101,114]),(ByteArray.mk #[103,114,97,115,115]),(ByteArray.mk #[109,97,105,122,101]),(ByteArray.mk #[111,97,116,115]),(ByteArray.mk #[114,121,101]),(ByteArray.mk #[118,101,116,99,104]),(ByteArray.mk #[119,104,101,97,116])]:List ByteArray).take a.2.toNat) b.toNat),i.2,(gl ([(0:Int),(0:Int),(0:Int),(2:Int),(20:Int),(8:Int),(1:Int),(31:Int)]:List Int) e.2.toNat)⟩ : Crop)]:List Crop)) (LF (α:=Crop) ([(⟨(gl (([(ByteArray.mk #[98,97,114,108,101,121]),(ByteArray.mk #[99,108,111,118,101,114]),(ByteArray.mk #[103,114,97,115,115]),(ByteArray.mk #[109,97,105,122,101]),(ByteArray.mk #[111,97,116,115]),(ByteArray.mk #[114,121,101]),(ByteArray.mk #[118,101,116,99,104]),(ByteArray.mk #[119,104,101,97,116])]:List ByteArray).take a.2.toNat) b.toNat),i.2,(gl ([(0:Int),(0:Int),(0:Int),(2:Int),(20:Int),(8:Int),(1:Int),(31:Int)]:List Int) e.2.toNat)⟩ : Crop)]:List Crop)) ([(⟨(gl (([(ByteArray.mk #[98,97,114,108,101,121]),(ByteArray.mk #[99,108,111,118,101,114]),(ByteArray.mk #[103,114,97,115,115]),(ByteArray.mk #[109,97,105,122,101]),(ByteArray.mk #[111,97,116,115]),(ByteArray.mk #[114,121,101]),(ByteArray.mk #[118,101,116,99,104]),(ByteArray.mk #[119,104,101,97,116])]:List ByteArray).take a.2.toNat) b.toNat),i.2,(gl ([(0:Int),(0:Int),(0:Int),(2:Int),(20:Int),(8:Int),(1:Int),(31:Int)]:List Int) e.2.toNat)⟩ : Crop)]:List Crop)).len,⟨⟩⟩,⟨⟩⟩ [(28,.arr 3 ((List.length (α:=Crop) l)+(List.length (α:=Crop) ([(⟨(gl (([(ByteArray.mk #[98,97,114,108,101,121]),(ByteArray.mk #[99,108,111,118,101,114]),(ByteArray.mk #[103,114,97,115,115]),(ByteArray.mk #[109,97,105,122,101]),(ByteArray.mk #[111,97,116,115]),(ByteArray.mk #[114,121,101]),(ByteArray.mk #[118,101,116,99,104]),(ByteArray.mk #[119,104,101,97,116])]:List ByteArray).take a.2.toNat) b.toNat),i.2,(gl ([(0:Int),(0:Int),(0:Int),(2:Int),(20:Int),(8:Int),(1:Int),(31:Int)]:List Int) e.2.toNat)⟩ : Crop)]:List Crop))) (appF (List.length (α:=Crop) l) (LF (α:=Crop) l) (LF (α:=Crop) ([(⟨(gl (([(ByteArray.mk #[98,97,114,108,101,121]),(ByteArray.mk #[99,108,111,118,101,114]),(ByteArray.mk #[103,114,97,115,115]),(ByteArray.mk #[109,97,105,122,101]),(ByteArray.mk #[111,97,116,115]),(ByteArray.mk #[114,121,101]),(ByteArray.mk #[118,101,116,99,104]),(ByteArray.mk #[119,104,101,97,116])]:List ByteArray).take a.2.toNat) b.toNat),i.2,(gl ([(0:Int),(0:Int),(0:Int),(2:Int),(20:Int),(8:Int),(1:Int),(31:Int)]:List Int) e.2.toNat)⟩ : Crop)]:List Crop))))] ⟨OLe.is (Is.app (Is.refl l) (Is.refl ([(⟨(gl (([(ByteArray.mk #[98,97,114,108,101,121]),(ByteArray.mk #[99,108,111,118,101,114]),(ByteArray.mk #[103,114,97,115,115]),(ByteArray.mk #[109,97,105,122,101]),(ByteArray.mk #[111,97,116,115]),(ByteArray.mk #[114,121,101]),(ByteArray.mk #[118,101,116,99,104]),(ByteArray.mk #[119,104,101,97,116])]:List ByteArray).take a.2.toNat) b.toNat),i.2,(gl ([(0:Int),(0:Int),(0:Int),(2:Int),(20:Int),(8:Int),(1:Int),(31:Int)]:List Int) e.2.toNat)⟩ : Crop)]:List Crop))),⟨⟩⟩ ?_
   obtain ⟨L,h⟩:=gS h
   refine AW.pN Fm [.s,.s] [(0,pt 0),(4,ow 28),(11,AL (α:=ByteArray) (([(ByteArray.mk #[98,97,114,108,101,121]),(ByteArray.mk #[99,108,111,118,101,114]),(ByteArray.mk #[103,114,97,115,115]),(ByteArray.mk #[109,97,105,122,101]),(ByteArray.mk #[111,97,116,115]),(ByteArray.mk #[114,121,101]),(ByteArray.mk #[118,101,116,99,104]),(ByteArray.mk #[119,104,101,97,116])]:List ByteArray).take a.2.toNat)),(12,vi ((List.length (([(ByteArray.mk #[98,97,114,108,101,121]),(ByteArray.mk #[99,108,111,118,101,114]),(ByteArray.mk #[103,114,97,115,115]),(ByteArray.mk #[109,97,105,122,101]),(ByteArray.mk #[111,97,116,115]),(ByteArray.mk #[114,121,101]),(ByteArray.mk #[118,101,116,99,104]),(ByteArray.mk #[119,104,101,97,116])]:List ByteArray).take a.2.toNat):Nat):Int)),(13,vi (b+1))] [(0,bx (gC e.1)),(28,AO (α:=Crop) (l++([(⟨(gl (([(ByteArray.mk #[98,97,114,108,101,121]),(ByteArray.mk #[99,108,111,118,101,114]),(ByteArray.mk #[103,114,97,115,115]),(ByteArray.mk #[109,97,105,122,101]),(ByteArray.mk #[111,97,116,115]),(ByteArray.mk #[114,121,101]),(ByteArray.mk #[118,101,116,99,104]),(ByteArray.mk #[119,104,101,97,116])]:List ByteArray).take a.2.toNat) b.toNat),i.2,(gl ([(0:Int),(0:Int),(0:Int),(2:Int),(20:Int),(8:Int),(1:Int),(31:Int)]:List Int) e.2.toNat)⟩ : Crop)]:List Crop)))] (cT (cT L)) ?_
   exact Kn.RE Fm [(4,28)] (A ((b+1),e.1.l_,e.1.at_,(l++([(⟨(gl (([(ByteArray.mk #[98,97,114,108,101,121]),(ByteArray.mk #[99,108,111,118,101,114]),(ByteArray.mk #[103,114,97,115,115]),(ByteArray.mk #[109,97,105,122,101]),(ByteArray.mk #[111,97,116,115]),(ByteArray.mk #[114,121,101]),(ByteArray.mk #[118,101,116,99,104]),(ByteArray.mk #[119,104,101,97,116])]:List ByteArray).take a.2.toNat) b.toNat),i.2,(gl ([(0:Int),(0:Int),(0:Int),(2:Int),(20:Int),(8:Int),(1:Int),(31:Int)]:List Int) e.2.toNat)⟩ : Crop)]:List Crop))) h)
  ·exact AW.exit (Kn.R Fm (B (l,o,p) h))
theorem keep_Tape_History_O_spec {F:Nat} {l:Tape} {a:(List Crop)} {b:Int} {q:Int} {r:Tape×(List Crop)×(List Record)} (h:keep_Tape_History_O F l a b q=some r) :
  FSpec Tryz.prog 22 [pt 0,ow 1,vi b,vi q] [(0,bx (gC l)),(1,AO a)] (AL (α:=Record) r.2.2) [(0,bx (gC r.1)),(1,AO (α:=Crop) r.2.1)]:=by
 refine FI Tryz.func22 prog_mixed prog_lay fun C Fm=>?_
 unfold keep_Tape_History_O at h
 refine AW.SG0 Fm 1 [(0,pt 0),(1,ow 1),(2,vi b),(3,vi q)] [(0,bx (gC l)),(1,AO a)] ?_
 refine AW.SW Fm [.m] (fun K=>True) [(0,pt 0),(1,ow 1),(2,vi b),(3,vi q),(9,ow 9)] [(0,bx (gC l)),(1,AO a),(9,AO (α:=Record) ([]:List Record))] True.intro [(9,.arr 3 (0) (fun _=>[]))] ⟨OLe.is ((Is.nil (α:=Record))),⟨⟩⟩ ?_
 refine AW.join (r:=r) (fun z:(List Record)×(List Int)×Int=>keep_Tape_History_O_k1 F a z.1 z.2.1 z.2.2) (fun z=>[(9,AL z.1)]) (fun z=>[(0,bx [.d (DL z.2.1),ci z.2.2]),(1,AO a)]) (fun z h=>?_) (fun Y B=>?_)
 ·obtain ⟨U,V,W⟩:=z
  refine AW.SG0 Fm 2 [(8,AL U)] [(0,bx [.d (DL V),ci W]),(1,AO a)] ?_
  refine AW.ret ?_
  obtain rfl:=Option.some.inj h
  exact Kn.D Fm
 ·refine AW.seq ?_
  obtain ⟨H,h⟩:=gS h
  obtain ⟨e,M,h⟩:=bS h
  refine AW.G Fm [.s,.s,.s,.k (cE [(0,0)] [] (vi e.2) [(0,bx (gC l))] [(0,bx (gC e.1))]),.s] (fun K=>(_∧True)∧K 3∧True) [(0,pt 0),(1,ow 1),(2,vi b),(9,ow 9),(10,vi e.2)] [(0,bx (gC e.1)),(1,AO a),(9,AO (α:=Record) ([]:List Record))] ⟨⟨H,⟨⟩⟩,KAt.CC (keep_Tape_Next_spec M) Tryz.call15 [(0,0)],⟨⟩⟩ ?_
  refine AW.block (Kn.r Fm [(0,pt 0),(1,ow 1),(2,vi b),(9,ow 9),(10,vi e.2)] [(9,AO (α:=Record) ([]:List Record)),(0,bx (gC e.1)),(1,AO a)] (by kernel_rfl) ?_)
  refine Kn.frz [(0,pt 0),(1,ow 1),(2,vi b),(9,AL (α:=Record) ([]:List Record)),(10,vi e.2)] [(0,bx (gC e.1)),(1,AO a)] (by kernel_rfl) (by kernel_rfl) (by kernel_rfl) ?_
  refine Kn.r Fm [(0,pt 0),(1,ow 1),(2,vi b),(9,AL ([]:List Record)),(10,vi e.2)] [(0,bx [.d (DL e.1.l_),ci e.1.at_]),(1,AO a)] (by kernel_rfl) ?_
  refine AW.loopF (E' := fun z=>[(0,pt 0),(1,ow 1),(2,vi b),(9,AL z.1),(10,vi z.2.1)]) (S' := fun z=>[(0,bx [.d (DL z.2.2.1),ci z.2.2.2]),(1,AO a)]) (fun Z z X A h=>?_) h
  obtain ⟨y,j,o,p⟩:=z
  refine AW.seq (AW.SG0 Fm 2 [(0,pt 0),(1,ow 1),(2,vi b),(9,AL y),(10,vi j),(16,vb (decide ((0:Int)<j)))] [(0,bx [.d (DL o),ci p]),(1,AO a)] ?_)
  refine AW.cN h (fun E h=>?_) (fun E h=>?_)
  ·refine AW.skip (AW.seq (AW.block ?_))
   obtain ⟨I,h⟩:=gS h
   obtain ⟨u,N,h⟩:=bS h
   obtain ⟨w,O,h⟩:=bS h
   obtain ⟨i,P,h⟩:=bS h
   obtain ⟨n,T,h⟩:=bS h
   refine AW.G Fm [.s,.s,.s,.s,.k (cE [(0,0)] [] (vi u.2) [(0,bx [.d (DL (α:=Int) (⟨o,p⟩ : Tape).l_),ci ((⟨o,p⟩ : Tape).at_)])] [(0,bx (gC u.1))]),.s,.s,.s,.k (cE [(0,0)] [] (vi w.2) [(0,bx (gC u.1))] [(0,bx (gC w.1))]),.s,.k (cE [(0,0)] [] (.v (.g [.d (DL i.2.rects_)])) [(0,bx (gC w.1))] [(0,bx (gC i.1))]),.k (cE [] [] (.t [.c (.d (DL n.1)),.c (ci n.2)]) [] []),.s,.s,.s,.s] (fun K=>(_∧True)∧K 4∧K 8∧K 10∧K 11∧True) [(0,pt 0),(1,ow 1),(2,vi b),(9,AL n.1),(10,vi j)] [(0,bx (gC i.1)),(1,AO a)] ⟨⟨I,⟨⟩⟩,KAt.CC (keep_Tape_Next_spec N) Tryz.call15 [(0,0)],KAt.CC (keep_Tape_Next_spec O) Tryz.call15 [(0,0)],KAt.CC (keep_Tape_Region_spec P) Tryz.call16 [(0,0)],KAt.CC (ref15_Add_spec T) Tryz.call28 [],⟨⟩⟩ ?_
   obtain ⟨L,h⟩:=gS h
   refine AW.pN Fm [.s,.s,.s] [(0,pt 0),(1,ow 1),(2,vi b),(9,AL n.1),(10,vi (j-1))] [(0,bx (gC i.1)),(1,AO a)] (cT (cT L)) ?_
   exact Kn.R Fm (A (n.1,(j-1),i.1.l_,i.1.at_) h)
  ·exact AW.exit (Kn.R Fm (B (y,o,p) h))
end Go.Ab
end
