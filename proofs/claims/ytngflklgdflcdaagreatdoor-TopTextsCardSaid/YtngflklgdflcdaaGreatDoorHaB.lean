/- Two functions walked at the one input that the example gives them. -/
import Derived.Test.YtngflklgdflcdaaGreatDoorHaA
import Derived.Test.YtngflklgdflcdaaGreatDoorBaA
set_option maxRecDepth 100000
set_option maxHeartbeats 4000000
set_option linter.all false
noncomputable section
namespace Go.Ab
variable {a s:ByteArray}{x:List UInt8×ε}{B b bk:Nat}{f:Δ}{X:ξ}{ad:Option Addr}{T:TypeId}{W' w:World}
section
variable {W w':World}{c:UInt8}{L:ε}{r:ByteArray}{n F k cp cap:Nat}{v:Value}
section
open Go.Proofs Go.RowKit Go.Lib
theorem kO{c:Nat}{fz:Nat×Nat}(hx:¬X b)(hb:W.heap[b]?=some (.cells (L.map Value.string).toArray T fz))(hc:L.length<=c):aA W X (.slice (some ⟨b,0,none⟩) L.length c) (DL L):=
 .lst b 0 L.length c _ T fz _ 1 hx hb hc (by simp) (λi _=>rfl) λi j a d=>by
  obtain rfl:j=0:=by omega
  have e:((L.map Value.string).toArray).getD (0+(i*1+0)) undef=.string (gl L i):=by
   simp[gl,a,hU,aY]
  rw[e];exact .str _
theorem jH:∀{L:List (List UInt8×ε)},(∀x∈L,Yo x)->(J5 L).count 10=L.length
 |[],_=>rfl
 |x::L,h=>by
  have e:J5 (x::L)=x.1++10::J5 L:=by simp[J5]
  rw[e,nH,rS,nr (h x dZ).no,jH λy a=>h y (eB _ a)];simp
theorem jI{L:List (List UInt8×ε)}(h:∀x∈L,Yo x):∀c∈J5 L,c=10\/32<=c.toNat/\c.toNat<=126:=λc a=>by
 unfold J5 at a;obtain⟨x,b,a⟩:=eE.1 a
 rcases dv.1 a with a|a
 .exact .inr ((h x b).all c a)
 .exact .inl (dI.1 a)
theorem jG{L:List (List UInt8×ε)}(h:L≠[]):Lib.hasSuffix (J5 L) [10]=true:=by
 obtain⟨M,x,rfl⟩:∃M x,L=M++[x]:=⟨L.dropLast,L.getLast h,(List.dropLast_concat_getLast h).symm⟩;have e:J5 (M++[x])=(J5 M++x.1)++[10]:=by simp[J5]
 rw[e];unfold Lib.hasSuffix
 exact List.isSuffixOf_iff_suffix.2 ⟨_,rfl⟩
def VC:ε->ε
 |[]=>[⟨#[]⟩]
 |x::r=>x::r
theorem cZ{ws:ε}(h:∀s∈ws,Qw s):ws.length<=(Qy ws).length:=by
 have a:∀ws:ε,ws.length<=(Zi ws).length:=λws=>by
  induction ws with
  |nil=>exact di _
  |cons x r ih=>simp only[Zi,dz,dK];omega
 cases ws with
 |nil=>exact di _
 |cons x r=>
  have b:=(h x dZ).1;have:=fS.2 b
  have:=a r
  simp only[Qy,dz,dK];omega
theorem Yo.ws(h:Yo x):(∀s∈x.2,Qw s)/\(Qy x.2).length<=x.1.length:=by
 rcases h with ⟨_,a,_⟩|⟨_,a,c⟩
 .rw [a];exact⟨λs b=>(by cases b),dW _⟩
 .exact ⟨a,lU (by rw[c])⟩
theorem Ox(h:c=10\/32<=c.toNat/\c.toNat<=126)(w:World):Calls Tryz.prog 80 #[.int .i32 c.toNat] w λe w'=>e=.returned (.bool false)/\w'=w:=by
 have h:c.toNat=10\/32<=c.toNat/\c.toNat<=126:=h.imp (λe=>by rw[e];rfl) id;obtain⟨k,hk⟩:∃k,c.toNat=k:=⟨_,rfl⟩
 rw[hk]at h⊢
 go_enter Tryz.func80,Tryz.ntmps80
 go_wp2
 all_goals first|(exfalso;omega)|(go_ret;exact⟨rfl,rfl⟩)|(go_ret;refine⟨?_,rfl⟩;simp;omega)
theorem E4(h:Qw s)(w:World):Calls Tryz.prog 87 #[.string s] w λe w'=>e=.returned (.bool false)/\aM V7 w w':=by
 have a:(s.toList==[])=false:=by
  rw[Lib.toList_data];have:=h.1
  cases hs:s.data.toList with
  |nil=>exact absurd hs this
  |cons=>rfl
 go_enter Tryz.func87,Tryz.ntmps87
 go_wp2
 go_ret
 exact⟨by simp,aM.refl _ _⟩
theorem Ny(w:World):Calls Tryz.prog 87 #[.string ⟨#[]⟩] w λe w'=>e=.returned (.bool true)/\w'=w:=by
 have a:((⟨#[]⟩:ByteArray).toList==[])=true:=by kernel_rfl
 go_enter Tryz.func87,Tryz.ntmps87
 go_wp2
 go_ret
 exact⟨by simp,rfl⟩
end
section
open Go.Proofs Go.Shelf Go.RowKit Go.Lib
theorem Z5T{n:String}(h:GL w X)(a:Tryz.prog.globalNamed n=some Wf:=by kernel_rfl):Lib.TabIs Tryz.prog w n .u64 Lib.pow10Tab:=by
 obtain⟨_,e,fz,h⟩:=h;unfold Lib.TabIs World.var?;rw[a]
 simp only[m5,h];rfl
theorem ju{n:Int}(hn:Q7 n)(hg:GL w X):Calls Tryz.prog 62 #[.int .i64 n] w λe w'=>e=.returned (.string (bs (Lib.itoa n)))/\aM V7 w w' :=
 (Any.strconv_Itoa Z8J n hn.1 hn.2 w (Z5T hg)).mono λe w' ⟨he,k,os,hw⟩=>⟨he,by rw[hw];exact Q8O w k os⟩
theorem Q8N{n:Int}(h:strconv_Itoa n=some r):J7 Tryz.prog 62 [vi n] [] (.v (.c (.d (.str r)))) []:=by
 obtain⟨f,h⟩:=Zf h;cases h
 intro w X η i g _ _ _ b a;rw[KU b,qo (a 0 (lm))]
 exact(ju f g.gl).mono λe w' ⟨he,st⟩=>⟨_,η,he,Jb st PS⟩
theorem sf(w:World)(e:TypeId)(s:ByteArray):aM V7 w (Lib.bytesWorld w e s):=by
 have c:=Lib.bytesWorld_size w e s;have a:=Lib.bytesWorld_at_old w e s
 unfold Lib.bytesWorld World.freeze at c a⊢;rw[an (by decide)]at c a⊢
 exact⟨rfl,rfl,rfl,by rw[c];exact iA _,λb d _=>a b d,iA _⟩
theorem Q7c{n lo hi:Int}(h:Lib.atoi (tl s)=some n)(hs:s.size<=18)(hn:Q7 n)(he:bs (Lib.itoa n)=s){X:ξ}(hg:GL w X):
  Calls Tryz.prog 88 #[.string s,.int .i64 lo,.int .i64 hi] w λe w'=>e=.returned (if lo<=n/\n<=hi then .tuple #[.int .i64 n,.bool true]else .tuple #[.int .i64 0,.bool false])/\aM V7 w w':=by
 go_enter Tryz.func88,Tryz.ntmps88
 go_wp2_with (first
  |(go_at_call 160;refine(Any.strconv_Atoi Z8Z s n hs h _).mono ?_;rintro e w' ⟨rfl,t,rfl⟩)
  |(go_at_call 62;refine(ju hn ((sf _ _ _).gl hg)).mono ?_;rintro e w' ⟨rfl,a⟩;rw[he]))
 all_goals first|(go_ret2;refine⟨?_,G3 (sf _ _ _) a⟩;first|rfl|(rw[av (by omega)];done)|(rw[av (by omega)];rfl)|(rw[an (by omega)];done)|(rw[an (by omega)];rfl))
theorem qM{lo hi:Int}{r:Int×Bool}(h:Yy F s lo hi=some r):J7 Tryz.prog 88 [.v (.c (.d (.str s))),vi lo,vi hi] [] (.t [.c (ci r.1),.c (.d (.bool r.2))]) []:=by
 unfold Yy at h;split at h
 .rename_i n o
  obtain⟨⟨l,k,m⟩,h⟩:=Zf h;intro w X η q p _ _ _ b a
  rw[Ad b,KW (a 0 (by show 0<3;omega)),qo (a 1 (by show 1<3;omega)),qo (a 2 (by show 2<3;omega))];refine(Q7c o l k m p.gl).mono λe w' ⟨he,st⟩=>?_
  have i:(if lo<=n/\n<=hi then(.tuple #[.int .i64 n,.bool true]:Value)else .tuple #[.int .i64 0,.bool false])=.tuple #[.int .i64 r.1,.bool r.2]:=by
   split at h<;>cases h<;>rename_i g
   .rw [av g]
   .rw [an g]
  rw[i]at he;refine⟨_,η,he,Jb st (.t _ _ rfl λj f=>?_)⟩
  have f:j<2:=f
  match j,f with
  |0,_=>exact .c _ _ (.d _ _ (.int _ _))
  |1,_=>exact .c _ _ (.d _ _ (.bool _))
 .cases h
end
section
open Go.Proofs Go.Shelf Go.RowKit Go.Lib
theorem Q7S{p:ByteArray}(h:jN s p=some r):J7 Tryz.prog 89 [.v (.c (.d (.str s))),.v (.c (.d (.str p)))] [] (.v (.c (.d (.str r)))) []:=by
  cases h
  intro w X η g f _ _ _ b a;rw[qm b,KW (a 0 (by show 0<2;omega)),KW (a 1 (by show 1<2;omega))]
  exact(Any.strings_TrimPrefix Z8B s p w).mono λe w' ⟨he,hw⟩=>⟨_,η,he,Jb (hw ▸ aM.refl _ _) PS⟩
theorem EB{p:ByteArray}{r:ε}(h:gj s p=some r):J7 Tryz.prog 86 [.v (.c (.d (.str s))),.v (.c (.d (.str p)))] [] (.v (.c (.d (DL r)))) []:=by
  obtain⟨⟨n,o,k⟩,h⟩:=Zf h;cases h
  intro w X η q m _ _ _ f a;rw[qm f,KW (a 0 (by show 0<2;omega)),KW (a 1 (by show 1<2;omega))]
  refine(Any.strings_Split_chars BQ (by kernel_rfl) s p w n (by omega) λj b l=>k b (ii l)).mono λe w' ⟨he,hw⟩=>?_
  subst hw;have g:(Lib.charsB s).length=s.size:=Lib.charsUpTo_length _ _
  have i:=DG w s s.size;refine⟨_,η,he,Jb (G3 i (aM.alloc _ _ _)) (HT ?_)⟩
  have:=kO (X:=X) (L:=Lib.charsB s) (c:=s.size) (λh=>Nat.not_lt.2 i.size (m.lt _ h)) (World.alloc_heap_new (w.iter s s.size) (.cells ((Lib.charsB s).map Value.string).toArray 9)) (lU g)
  rw[g]at this;exact this
abbrev QT:ByteArray:=⟨#[112,103,99,102,108]⟩
theorem jt{b:ByteArray}(h:w.heap[bk]?=some (.cells #[.string a,.string b] 9 (0,0)))(hb:(b.toList==[])=false:=by kernel_rfl):
    Calls Tryz.prog 63 #[.slice (some ⟨bk,0,none⟩) 2 2] w λe w'=>e=.returned (.string (if(a.toList==[])=true then b else a))/\w'=w:=by
  have f:w.cell? ⟨bk,0,none⟩=some (.string a):=by simp[World.cell?,h]
  have d:w.cell? ⟨bk,1,none⟩=some (.string b):=by simp[World.cell?,h]
  clear h
  by_cases c:(a.toList==[])=true
  . rw [if_pos c]
    go_enter Tryz.func63,Tryz.ntmps63
    go_wp2
    refine wp_loop_rounds 2 ?_;rw[rounds_succ]
    go_wp2
    rw[rounds_succ]
    go_wp2
    go_ret
    exact⟨rfl,rfl⟩
  . rw [if_neg c]
    have c:(a.toList==[])=false:=by simpa using c
    go_enter Tryz.func63,Tryz.ntmps63
    go_wp2
    refine wp_loop_rounds 2 ?_;rw[rounds_succ]
    go_wp2
    go_ret
    exact⟨rfl,rfl⟩
theorem Ba(m:Nat):∀ k,(G7 m k).length<=k
  |0=>di 0
  | k+1=>by
    have:=Ba m k
    unfold G7;rw[dK]
    split
    . simp only[dz,eg];omega
    . simp only[eg];omega
theorem Ip{n:Int}(h0:0<=n)(h1:n<32)(w:World):Calls Tryz.prog 30 #[.int .i64 n] w fun e w'=>e=.returned (.string (Zt n.toNat))/\aM V7 w w':=by
  have q:∀ i (h:i<QT.size),(QT[i]'h).toNat<128:=fun i h=>by
    have x:∀c∈tl QT,c.toNat<128:=by decide
    exact x _ (nv (show i<QT.data.size from h))
  obtain⟨m,rfl⟩:∃m:Nat,n=m:=⟨n.toNat,by omega⟩;rw[dh]
  go_enter Tryz.func30,Tryz.ntmps30
  go_wp2
  go_loopw [3] (λv w'=>∃d:Nat,d<=5/\v=.string (bs (G7 m d))/\w'=w.iter QT d) (λ_ w'=>QT.size-w'.iterPos w.heap.size)
  case atStart=>exact⟨0,by omega,rfl,rfl⟩
  case round=>
    obtain⟨d,y,rfl,rfl⟩:=hrel
    by_cases t:d<QT.size
    . have t:d<5:=t
      obtain rfl|rfl|rfl|rfl|rfl:d=0\/d=1\/d=2\/d=3\/d=4:=by omega
      . have o:∀ f,(Instr.next (.pointer (some ⟨w.heap.size,0,none⟩)) true f).run Tryz.prog (w.iter QT 0)=_:=fun f=>run_next_ascii w QT 0 f (by decide) (q 0 (by decide))
        have g:(bits BinOp.and IntKind.i64 ((m:Int)) 1==1)=m.testBit 0:=(by decide:∀j:_root_.Fin 32,(bits BinOp.and IntKind.i64 ((j.val:Int)) 1==1)=j.val.testBit 0) ⟨m,by omega⟩
        cases ht:m.testBit 0 with
        | true=>
          rw[ht]at g
          go_wp2
          all_goals
            have k:Utf8.encode ((QT[0]'(show 0<5 by decide)).toNat:Int)=bs [QH.getD 0 0]:=by decide
            have p:=Ba m 0;rw[<-QR (G7 m 0), <-Yj]at p
            first
              |(exfalso;have r:(Utf8.encode ((QT[0]'(show 0<5 by decide)).toNat:Int)).size=1:=(by rw[k];rfl);omega)
              | (refine ⟨⟨1,by decide,?_,rfl⟩,by first | (simp;done) | (simp;decide)⟩
                 rw[k,XF];exact congrArg (λl=>Value.string (bs l)) (show G7 m 0++[QH.getD 0 0]=G7 m 0++(if m.testBit 0 then[QH.getD 0 0]else[]) by rw[ht];rfl))
        | false=>
          rw[ht]at g
          go_wp2
          refine⟨⟨1,by decide,?_,rfl⟩,by first|(simp;done)|(simp;decide)⟩;exact congrArg (λl=>Value.string (bs l)) (show G7 m 0=G7 m 0++(if m.testBit 0 then[QH.getD 0 0]else[]) by rw[ht];simp)
      . have o:∀ f,(Instr.next (.pointer (some ⟨w.heap.size,0,none⟩)) true f).run Tryz.prog (w.iter QT 1)=_:=fun f=>run_next_ascii w QT 1 f (by decide) (q 1 (by decide))
        have g:(bits BinOp.and IntKind.i64 ((m:Int) / 2) 1==1)=m.testBit 1:=(by decide:∀j:_root_.Fin 32,(bits BinOp.and IntKind.i64 ((j.val:Int) / 2) 1==1)=j.val.testBit 1) ⟨m,by omega⟩
        cases ht:m.testBit 1 with
        | true=>
          rw[ht]at g
          go_wp2
          all_goals
            have k:Utf8.encode ((QT[1]'(show 1<5 by decide)).toNat:Int)=bs [QH.getD 1 0]:=by decide
            have p:=Ba m 1;rw[<-QR (G7 m 1), <-Yj]at p
            first
              |(exfalso;have r:(Utf8.encode ((QT[1]'(show 1<5 by decide)).toNat:Int)).size=1:=(by rw[k];rfl);omega)
              | (refine ⟨⟨2,by decide,?_,rfl⟩,by first | (simp;done) | (simp;decide)⟩
                 rw[k,XF];exact congrArg (λl=>Value.string (bs l)) (show G7 m 1++[QH.getD 1 0]=G7 m 1++(if m.testBit 1 then[QH.getD 1 0]else[]) by rw[ht];rfl))
        | false=>
          rw[ht]at g
          go_wp2
          refine⟨⟨2,by decide,?_,rfl⟩,by first|(simp;done)|(simp;decide)⟩;exact congrArg (λl=>Value.string (bs l)) (show G7 m 1=G7 m 1++(if m.testBit 1 then[QH.getD 1 0]else[]) by rw[ht];simp)
      . have o:∀ f,(Instr.next (.pointer (some ⟨w.heap.size,0,none⟩)) true f).run Tryz.prog (w.iter QT 2)=_:=fun f=>run_next_ascii w QT 2 f (by decide) (q 2 (by decide))
        have g:(bits BinOp.and IntKind.i64 ((m:Int) / 4) 1==1)=m.testBit 2:=(by decide:∀j:_root_.Fin 32,(bits BinOp.and IntKind.i64 ((j.val:Int) / 4) 1==1)=j.val.testBit 2) ⟨m,by omega⟩
        cases ht:m.testBit 2 with
        | true=>
          rw[ht]at g
          go_wp2
          all_goals
            have k:Utf8.encode ((QT[2]'(show 2<5 by decide)).toNat:Int)=bs [QH.getD 2 0]:=by decide
            have p:=Ba m 2;rw[<-QR (G7 m 2), <-Yj]at p
            first
              |(exfalso;have r:(Utf8.encode ((QT[2]'(show 2<5 by decide)).toNat:Int)).size=1:=(by rw[k];rfl);omega)
              | (refine ⟨⟨3,by decide,?_,rfl⟩,by first | (simp;done) | (simp;decide)⟩
                 rw[k,XF];exact congrArg (λl=>Value.string (bs l)) (show G7 m 2++[QH.getD 2 0]=G7 m 2++(if m.testBit 2 then[QH.getD 2 0]else[]) by rw[ht];rfl))
        | false=>
          rw[ht]at g
          go_wp2
          refine⟨⟨3,by decide,?_,rfl⟩,by first|(simp;done)|(simp;decide)⟩;exact congrArg (λl=>Value.string (bs l)) (show G7 m 2=G7 m 2++(if m.testBit 2 then[QH.getD 2 0]else[]) by rw[ht];simp)
      . have o:∀ f,(Instr.next (.pointer (some ⟨w.heap.size,0,none⟩)) true f).run Tryz.prog (w.iter QT 3)=_:=fun f=>run_next_ascii w QT 3 f (by decide) (q 3 (by decide))
        have g:(bits BinOp.and IntKind.i64 ((m:Int) / 8) 1==1)=m.testBit 3:=(by decide:∀j:_root_.Fin 32,(bits BinOp.and IntKind.i64 ((j.val:Int) / 8) 1==1)=j.val.testBit 3) ⟨m,by omega⟩
        cases ht:m.testBit 3 with
        | true=>
          rw[ht]at g
          go_wp2
          all_goals
            have k:Utf8.encode ((QT[3]'(show 3<5 by decide)).toNat:Int)=bs [QH.getD 3 0]:=by decide
            have p:=Ba m 3;rw[<-QR (G7 m 3), <-Yj]at p
            first
              |(exfalso;have r:(Utf8.encode ((QT[3]'(show 3<5 by decide)).toNat:Int)).size=1:=(by rw[k];rfl);omega)
              | (refine ⟨⟨4,by decide,?_,rfl⟩,by first | (simp;done) | (simp;decide)⟩
                 rw[k,XF];exact congrArg (λl=>Value.string (bs l)) (show G7 m 3++[QH.getD 3 0]=G7 m 3++(if m.testBit 3 then[QH.getD 3 0]else[]) by rw[ht];rfl))
        | false=>
          rw[ht]at g
          go_wp2
          refine⟨⟨4,by decide,?_,rfl⟩,by first|(simp;done)|(simp;decide)⟩;exact congrArg (λl=>Value.string (bs l)) (show G7 m 3=G7 m 3++(if m.testBit 3 then[QH.getD 3 0]else[]) by rw[ht];simp)
      . have o:∀ f,(Instr.next (.pointer (some ⟨w.heap.size,0,none⟩)) true f).run Tryz.prog (w.iter QT 4)=_:=fun f=>run_next_ascii w QT 4 f (by decide) (q 4 (by decide))
        have g:(bits BinOp.and IntKind.i64 ((m:Int) / 16) 1==1)=m.testBit 4:=(by decide:∀j:_root_.Fin 32,(bits BinOp.and IntKind.i64 ((j.val:Int) / 16) 1==1)=j.val.testBit 4) ⟨m,by omega⟩
        cases ht:m.testBit 4 with
        | true=>
          rw[ht]at g
          go_wp2
          all_goals
            have k:Utf8.encode ((QT[4]'(show 4<5 by decide)).toNat:Int)=bs [QH.getD 4 0]:=by decide
            have p:=Ba m 4;rw[<-QR (G7 m 4), <-Yj]at p
            first
              |(exfalso;have r:(Utf8.encode ((QT[4]'(show 4<5 by decide)).toNat:Int)).size=1:=(by rw[k];rfl);omega)
              | (refine ⟨⟨5,by decide,?_,rfl⟩,by first | (simp;done) | (simp;decide)⟩
                 rw[k,XF];exact congrArg (λl=>Value.string (bs l)) (show G7 m 4++[QH.getD 4 0]=G7 m 4++(if m.testBit 4 then[QH.getD 4 0]else[]) by rw[ht];rfl))
        | false=>
          rw[ht]at g
          go_wp2
          refine⟨⟨5,by decide,?_,rfl⟩,by first|(simp;done)|(simp;decide)⟩;exact congrArg (λl=>Value.string (bs l)) (show G7 m 4=G7 m 4++(if m.testBit 4 then[QH.getD 4 0]else[]) by rw[ht];simp)
    . have o:∀ f,(Instr.next (.pointer (some ⟨w.heap.size,0,none⟩)) true f).run Tryz.prog (w.iter QT d)=_:=fun f=>run_next_end w QT d f t
      obtain rfl:d=5:=by have:¬d<5:=t;omega
      by_cases hq:G7 m 5=[]
      . have h0:((bs (G7 m 5)).toList==[])=true:=by rw [hq];kernel_rfl
        have u:Zt m=⟨#[45]⟩:=by unfold Zt;rw[av hq];rfl
        clear hq
        go_wp2_with (go_at_call 63;refine(jt (a:=bs (G7 m 5)) (b:=⟨#[45]⟩) (World.alloc_heap_new _ _)).mono ?_;rintro e w' ⟨rfl,rfl⟩;rw[av h0])
        go_ret
        exact⟨congrArg (λs=>Ending.returned (.string s)) u.symm,G3 (DG _ _ _) (aM.alloc _ _ _)⟩
      . have h0:((bs (G7 m 5)).toList==[])=false:=by
          rw[Lib.toList_data];show(G7 m 5==[])=false
          cases hh:G7 m 5 with
          |nil=>exact absurd hh hq
          |cons=>rfl
        have u:Zt m=bs (G7 m 5):=by unfold Zt;rw[an hq]
        go_wp2_with (go_at_call 63;refine(jt (a:=bs (G7 m 5)) (b:=⟨#[45]⟩) (World.alloc_heap_new _ _)).mono ?_;rintro e w' ⟨rfl,rfl⟩;rw[an (by rw[h0];decide)])
        go_ret
        exact⟨congrArg (λs=>Ending.returned (.string s)) u.symm,G3 (DG _ _ _) (aM.alloc _ _ _)⟩
theorem kU{n:Int}(h:BA F n=some r):J7 Tryz.prog 30 [vi n] [] (.v (.c (.d (.str r)))) []:=by
  obtain⟨⟨g,f⟩,h⟩:=Zf h;cases h
  intro w X η j i _ _ _ b a;rw[KU b,qo (a 0 lm)]
  exact(Ip g f w).mono λe w' ⟨he,st⟩=>⟨_,η,he,Jb st PS⟩
theorem Q7A(hk:Lib.indexByte QH c=k)(w:World):Calls Tryz.prog 162 #[.string QT,.string ⟨#[c]⟩] w fun e w'=>e=.returned (.bool true)/\w'=w:=
  (Any.strings_Contains_one Z8X QT c w).mono fun e w' ⟨he,hw⟩=>⟨by
    rw[he];show Ending.returned (.bool (decide (0<=Lib.indexByte QH c)))=_
    rw[hk,aZ (by omega)],hw⟩
theorem OI(hk:Lib.indexByte QH c=k)(w:World):Calls Tryz.prog 152 #[.string QT,.string ⟨#[c]⟩] w fun e w'=>e=.returned (.int .i64 k)/\w'=w:=
  (Any.strings_Index_one (ρ:=BP) { BQ with } QT c w).mono fun e w' ⟨he,hw⟩=>⟨by
    rw[he];show Ending.returned (.int .i64 (Lib.indexByte QH c))=_
    rw[hk],hw⟩
theorem Q7f(hk:Lib.indexByte QH c=k)(h5:k<5)(w:World):Calls Tryz.prog 90 #[.string ⟨#[c]⟩] w fun e w'=>e=.returned (.int .i64 (2 ^ k))/\w'=w:=by
  have b:(⟨#[c]⟩:ByteArray).size=1:=rfl
  go_enter Tryz.func90,Tryz.ntmps90
  go_wp2_with (first
    |(go_at_call 162;refine(Q7A hk _).mono ?_;rintro e w' ⟨rfl,rfl⟩)
    |(go_at_call 152;refine(OI hk _).mono ?_;rintro e w' ⟨rfl,rfl⟩))
  go_ret
  refine ⟨?_,rfl⟩;have a:wrap64 ((2:Int) ^ k)=2 ^ k:=by
    obtain rfl|rfl|rfl|rfl|rfl:k=0\/k=1\/k=2\/k=3\/k=4:=by omega
    all_goals first|rfl|decide +kernel
  show Ending.returned (.int .i64 (wrap64 (2 ^ k)))=_;rw[a]
theorem E3(h:c ∈ QH)(w:World):Calls Tryz.prog 90 #[.string ⟨#[c]⟩] w fun e w'=>e=.returned (.int .i64 (2 ^ QH.idxOf c))/\w'=w:=by
  have h:c=112\/c=103\/c=99\/c=102\/c=108:=by simpa[QH]using h
  rcases h with rfl|rfl|rfl|rfl|rfl
  all_goals exact Q7f (by decide) (by decide) w
theorem uJ{r:Int}(h:BB F s=some r):J7 Tryz.prog 90 [.v (.c (.d (.str s)))] [] (vi r) []:=by
  unfold BB at h;split at h
  . rename_i c f
    split at h
    . rename_i g
      cases h
      have i:s=⟨#[c]⟩:=by rw[<-MZ s,f];rfl
      subst i;intro w X η k j _ _ _ b a
      rw[KU b,KW (a 0 lm)];exact(E3 g w).mono λe w' ⟨he,hw⟩=>⟨_,η,he,Jb (hw ▸ aM.refl _ _) vH⟩
    . cases h
  . cases h
end
section
open Go.Proofs Go.RowKit Go.Lib
theorem Q7n(hs:∀ c ∈ tl s,c.toNat<128)(hf:∀ c ∈ tl s,∀ w,Calls Tryz.prog 142 #[.int .i32 c.toNat] w fun e w'=>e=.returned (.bool false)/\w'=w)(w:World):
  Calls Tryz.prog 222 #[.string s,.func (.func 142) #[] #[],.bool true] w λe w'=>e=.returned (.int .i64 (-1))/\∃pos,w'=w.iter s pos:=by
 have d:∀i (h:i<s.size),s[i]'h∈tl s:=λi h=>by
  show s.data[i]∈s.data.toList;exact nv (show i<s.data.size from h)
 have f:∀i (h:i<s.size),(s[i]'h).toNat<128:=λi h=>hs _ (d i h)
 go_enter Tryz.func222,Tryz.ntmps222
 go_wp2
 go_loopw [] (λw'=>∃pos:Nat,pos<=s.size/\w'=w.iter s pos) (λw'=>s.size-w'.iterPos w.heap.size)
 case atStart=>exact⟨0,by omega,rfl⟩
 case round=>
  obtain⟨pos,g,rfl⟩:=hrel
  by_cases hp:pos<s.size
  .have b:∀a,(Instr.next (.pointer (some ⟨w.heap.size,0,none⟩)) true a).run Tryz.prog (w.iter s pos)=_:=λa=>run_next_ascii w s pos a hp (f pos hp)
   go_wp2_with (go_at_call 142;refine(hf _ (d pos hp) _).mono ?_;rintro e w' ⟨rfl,rfl⟩)
   go_roundw
   case rel=>exact⟨pos+1,hp,rfl⟩
   case measure=>simp;omega
  .have b:∀a,(Instr.next (.pointer (some ⟨w.heap.size,0,none⟩)) true a).run Tryz.prog (w.iter s pos)=_:=λa=>run_next_end w s pos a hp
   go_wp2
   go_ret
   exact⟨rfl,_,rfl⟩
theorem Oh(hs:∀ c ∈ tl s,c.toNat<128)(hf:∀ c ∈ tl s,∀ w,Calls Tryz.prog 142 #[.int .i32 c.toNat] w fun e w'=>e=.returned (.bool false)/\w'=w)(w:World):
  Calls Tryz.prog 79 #[.string s,.func (.func 142) #[] #[]] w λe w'=>e=.returned (.bool false)/\aM V7 w w':=by
 go_enter Tryz.func79,Tryz.ntmps79
 go_wp2_with (first
  |(go_at_call 154;go_enter Tryz.func154,Tryz.ntmps154)
  |(go_at_call 222;refine(Q7n hs hf _).mono ?_;rintro e w' ⟨rfl,pos,rfl⟩))
 all_goals(try (go_ret;exact⟨rfl,DG _ _ _⟩))
theorem Q7o(hs:∀ c ∈ tl s,c.toNat<128)(hf:∀ c ∈ tl s,∀ w,Calls Tryz.prog 80 #[.int .i32 c.toNat] w fun e w'=>e=.returned (.bool false)/\w'=w)(w:World):
  Calls Tryz.prog 222 #[.string s,.func (.func 80) #[] #[],.bool true] w λe w'=>e=.returned (.int .i64 (-1))/\∃pos,w'=w.iter s pos:=by
 have d:∀i (h:i<s.size),s[i]'h∈tl s:=λi h=>by
  show s.data[i]∈s.data.toList;exact nv (show i<s.data.size from h)
 have f:∀i (h:i<s.size),(s[i]'h).toNat<128:=λi h=>hs _ (d i h)
 go_enter Tryz.func222,Tryz.ntmps222
 go_wp2
 go_loopw [] (λw'=>∃pos:Nat,pos<=s.size/\w'=w.iter s pos) (λw'=>s.size-w'.iterPos w.heap.size)
 case atStart=>exact⟨0,by omega,rfl⟩
 case round=>
  obtain⟨pos,g,rfl⟩:=hrel
  by_cases hp:pos<s.size
  .have b:∀a,(Instr.next (.pointer (some ⟨w.heap.size,0,none⟩)) true a).run Tryz.prog (w.iter s pos)=_:=λa=>run_next_ascii w s pos a hp (f pos hp)
   go_wp2_with (go_at_call 80;refine(hf _ (d pos hp) _).mono ?_;rintro e w' ⟨rfl,rfl⟩)
   go_roundw
   case rel=>exact⟨pos+1,hp,rfl⟩
   case measure=>simp;omega
  .have b:∀a,(Instr.next (.pointer (some ⟨w.heap.size,0,none⟩)) true a).run Tryz.prog (w.iter s pos)=_:=λa=>run_next_end w s pos a hp
   go_wp2
   go_ret
   exact⟨rfl,_,rfl⟩
theorem Q7D(hs:∀ c ∈ tl s,c.toNat<128)(hf:∀ c ∈ tl s,∀ w,Calls Tryz.prog 80 #[.int .i32 c.toNat] w fun e w'=>e=.returned (.bool false)/\w'=w)(w:World):
  Calls Tryz.prog 79 #[.string s,.func (.func 80) #[] #[]] w λe w'=>e=.returned (.bool false)/\aM V7 w w':=by
 go_enter Tryz.func79,Tryz.ntmps79
 go_wp2_with (first
  |(go_at_call 154;go_enter Tryz.func154,Tryz.ntmps154)
  |(go_at_call 222;refine(Q7o hs hf _).mono ?_;rintro e w' ⟨rfl,pos,rfl⟩))
 all_goals(try (go_ret;exact⟨rfl,DG _ _ _⟩))
theorem Q6R(h:33<=c.toNat/\c.toNat<=126/\c≠35)(w:World):Calls Tryz.prog 142 #[.int .i32 c.toNat] w λe w'=>e=.returned (.bool false)/\w'=w:=by
 have a:c.toNat≠35:=λe=>h.2.2 (oo.1 e)
 obtain⟨k,hk⟩:∃k,c.toNat=k:=⟨_,rfl⟩;rw[hk]at h a⊢
 go_enter Tryz.func142,Tryz.ntmps142
 go_wp2
 all_goals first|(exfalso;omega)|(go_ret;exact⟨rfl,rfl⟩)|(go_ret;refine⟨?_,rfl⟩;simp;omega)
theorem Eg(h:Qw s)(w:World):Calls Tryz.prog 66 #[.string s] w λe w'=>e=.returned (.bool true)/\aM V7 w w':=by
 have b:(s.toList==[])=false:=by
  rw[Lib.toList_data];have:=h.1
  cases hs:s.data.toList with
  |nil=>exact absurd hs this
  |cons=>rfl
 go_enter Tryz.func66,Tryz.ntmps66
 go_wp2_with (go_at_call 79;refine(Oh (λc a=>by have:=(h.2 c a).2.1;omega) (λc a w=>Q6R (h.2 c a) w) _).mono ?_;rintro e w' ⟨rfl,st⟩)
 go_ret
 exact⟨rfl,st⟩
theorem Q7l(h:Qw s)(w:World):Calls Tryz.prog 65 #[.string s] w λe w'=>e=.returned (.bool false)/\aM V7 w w':=by
 go_enter Tryz.func65,Tryz.ntmps65
 go_wp2_with (go_at_call 66;refine(Eg h _).mono ?_;rintro e w' ⟨rfl,st⟩)
 go_ret
 exact⟨rfl,st⟩
end
section
open Go.Proofs Go.RowKit Go.Lib
theorem zS(h:aA W X v (.lst n f)):∃ad c,v=.slice ad n c:=by cases h<;>exact⟨_,_,rfl⟩
theorem aA.stp{x:aH}(h:aA W X v x)(st:aM V7 W W'):aA W' X v x:=h.mono λb c a=>⟨st.block b c λh=>h,a⟩
theorem uf(h:aA W X (.slice ad n cp) (.lst n f))(hk:k<n){x:aH}(hf:f k=[x]):∃b off v,ad=some ⟨b,off,none⟩/\W.cell? ⟨b,off+k,none⟩=some v/\aA W X v x:=by
 cases h with
 |nil=>omega
 |lst b off _ cap c e fz _ es h1 h2 h3 h4 h5 h6=>
  have d:es=1:=by have:=h5 k hk;rw[hf]at this;exact this.symm
  subst d;have a:=h6 k 0 hk (by omega)
  rw[hf]at a;refine⟨b,off,_,rfl,?_,a⟩
  have:off+k<c.size:=by omega
  simp[World.cell?,h2,this]
theorem Z4u{off:Nat}(h:aA W X (.slice (some ⟨b,off,none⟩) n cp) (.lst n f))(hp:0<n):n<=cp/\b<W.heap.size:=by
 cases h with
 |nil=>omega
 |lst b off _ cap c e fz _ es h1 h2 h3 h4 h5 h6=>exact⟨h3,J4 h2⟩
theorem Su(hn:n=L.length)(h:aA W X (.slice ad n cp) (DL L))(hk:k<n):∃b off,ad=some ⟨b,off,none⟩/\W.cell? ⟨b,off+k,none⟩=some (.string (gl L k)):=by
 subst hn;obtain⟨b,off,v,a,c,d⟩:=uf (f:=LF L) h hk rfl
 cases d
 exact⟨b,off,a,c⟩
theorem wE(h:k<L.length):gl L k∈L:=by
 unfold gl;rw[aY,eG h]
 exact fp h
theorem T5(hn:L.length=n)(hf:∀ s ∈ L,∀ w,Calls Tryz.prog 65 #[.string s] w fun e w'=>e=.returned (.bool false)/\aM V7 w w')(hl:n<=Y2)(hv:aA w X (.slice ad n cap) (DL L)):
  Calls Tryz.prog 141 #[.slice ad n cap,.func (.func 65) #[] #[]] w λe w'=>e=.returned (.int .i64 (-1))/\aM V7 w w':=by
 simp only[Y2]at hl
 go_enter Tryz.func141,Tryz.ntmps141
 go_wp2
 go_loopw [8] (λi W=>∃k:Nat,k<=n/\i=.int .i64 k/\aM V7 w W) (λi _=>n-(RowKit.intOf i).toNat)
 case atStart=>exact⟨0,by omega,rfl,aM.refl _ _⟩
 case round=>
  obtain⟨k,g,rfl,a⟩:=hrel
  by_cases hp:k<n
  .obtain ⟨b,d,rfl,f⟩:=Su hn.symm (hv.stp a) hp
   have c:gl L k∈L:=wE (hn.symm ▸ hp)
   go_wp2_with (go_at_call 65;refine(hf _ c _).mono ?_;rintro e w' ⟨rfl,st2⟩)
   go_roundw
   case rel=>exact⟨k+1,hp,by simp,G3 a st2⟩
   case measure=>simp[RowKit.intOf];omega
  .go_wp2
   go_ret
   exact⟨rfl,a⟩
theorem Q6Y(hn:L.length=n)(hf:∀ s ∈ L,∀ w,Calls Tryz.prog 87 #[.string s] w fun e w'=>e=.returned (.bool false)/\aM V7 w w')(hl:n<=Y2)(hv:aA w X (.slice ad n cap) (DL L)):
  Calls Tryz.prog 141 #[.slice ad n cap,.func (.func 87) #[] #[]] w λe w'=>e=.returned (.int .i64 (-1))/\aM V7 w w':=by
 simp only[Y2]at hl
 go_enter Tryz.func141,Tryz.ntmps141
 go_wp2
 go_loopw [8] (λi W=>∃k:Nat,k<=n/\i=.int .i64 k/\aM V7 w W) (λi _=>n-(RowKit.intOf i).toNat)
 case atStart=>exact⟨0,by omega,rfl,aM.refl _ _⟩
 case round=>
  obtain⟨k,g,rfl,a⟩:=hrel
  by_cases hp:k<n
  .obtain ⟨b,d,rfl,f⟩:=Su hn.symm (hv.stp a) hp
   have c:gl L k∈L:=wE (hn.symm ▸ hp)
   go_wp2_with (go_at_call 87;refine(hf _ c _).mono ?_;rintro e w' ⟨rfl,st2⟩)
   go_roundw
   case rel=>exact⟨k+1,hp,by simp,G3 a st2⟩
   case measure=>simp[RowKit.intOf];omega
  .go_wp2
   go_ret
   exact⟨rfl,a⟩
theorem Q7a(hn:L.length=n)(hf:∀ s ∈ L,∀ w,Calls Tryz.prog 65 #[.string s] w fun e w'=>e=.returned (.bool false)/\aM V7 w w')(hl:n<=Y2)(hv:aA w X (.slice ad n cap) (DL L)):
  Calls Tryz.prog 64 #[.slice ad n cap,.func (.func 65) #[] #[]] w λe w'=>e=.returned (.bool false)/\aM V7 w w':=by
 go_enter Tryz.func64,Tryz.ntmps64
 go_wp2_with (go_at_call 141;refine(T5 hn hf hl hv).mono ?_;rintro e w' ⟨rfl,st⟩)
 go_ret
 exact⟨rfl,st⟩
end
section
open Go.Proofs Go.Shelf Go.RowKit Go.Lib
theorem gB:Builder.Extra Tryz.prog XM:=by constructor<;>first|kernel_rfl|(intro;kernel_rfl)|(constructor<;>first|kernel_rfl|(intro;kernel_rfl))|decide
def rF:Go.Shelf.Ren:=⟨λ|167=>69|n=>XM.f n,XM.t,XM.g⟩
theorem Z4E:Lays.n167 Tryz.prog rF:=by constructor<;>first|kernel_rfl|(intro;kernel_rfl)
theorem Z8g:Builder.Extra Tryz.prog rF:=by constructor<;>first|kernel_rfl|(intro;kernel_rfl)|(constructor<;>first|kernel_rfl|(intro;kernel_rfl))|decide
abbrev tB:TypeId:=139
abbrev UB(B:Nat)(l:List UInt8)(w:World):Prop:=Lib.IsBuilder tB 5 B B (Lib.byteCells l) w
theorem Z5N(h:Below w.heap.size w w'):w.grownBy w' none:=⟨h.os,h.tape,h.output,h.size,λk a _=>h.block k a⟩
theorem UB.below{l:List UInt8}(h:UB B l w)(k:Below w.heap.size w w'):UB B l w':=by
 have a:∀{p},Lib.BuilderAt tB 5 B B p (Lib.byteCells l) w->Lib.BuilderAt tB 5 B B p (Lib.byteCells l) w':=λ⟨h1,v,h2,h3,h4⟩=>
  ⟨h1,v,(k.block _ (J4 h2)).trans h2,h3.kept (Z5N k) (by cases hv:v.ownBlock with|none=>exact .inl rfl|some b=>exact .inr (by simp)),h4⟩
 rcases h with h|h
 .exact .inl (a h)
 .exact .inr (a h)
theorem qc(h:aM V7 w w'):Below w.heap.size w w':=⟨h.os,h.tape,h.output,h.size,λk a=>h.block k a λh=>h⟩
theorem jJ{L:List ε}(h:k<L.length):Yi (L.take (k+1))=Yi (L.take k)++Qy (gl L k)++[10]:=by
 have e:L.take (k+1)=L.take k++[gl L k]:=by
  unfold gl;rw[lj,aY,eG h];rfl
 unfold Yi;rw[e,lC]
 simp only[ir,nJ,fW,fR]
theorem ba:∀ws:ε,Lib.join (ws.map (·.data.toList)) [32]=Qy ws
 |[]=>rfl
 |x::r=>by
  rw[eP,Lib.join_cons];have:∀r:ε,Lib.joinTail [32] (r.map (·.data.toList))=Zi r:=λr=>by
   induction r with
   |nil=>rfl
   |cons y r ih=>
    show _=32::(tl y++Zi r);rw[<-ih]
    simp[Lib.joinTail,tl]
  rw[this];rfl
theorem pK(a b:List UInt8):Lib.byteCells (a++b)=Lib.byteCells a++Lib.byteCells b:=by simp[Lib.byteCells]
theorem gz(a:List UInt8):(Lib.byteCells a).length=a.length:=by simp[Lib.byteCells]
section
variable {l:List UInt8}
theorem Q6Q(s:ByteArray)(h:UB B l w)(hl:l.length+s.size<=140737488355328)(hB:B<=w.heap.size):Calls Tryz.prog 67 #[.pointer (some ⟨B,0,none⟩),.string s] w λe w'=>e=.returned (.tuple #[.int .i64 s.size,.nilIface])/\UB B (l++tl s) w' /\ Below B w w' :=
 (Any.Builder_WriteString (ρ:=XM) {gN with} gB B B (Lib.byteCells l) s w h (by rw[gz];exact hl) hB).mono λe w' ⟨he,hb,bl⟩=>⟨he,.inr (by rw[pK];exact hb),bl⟩
theorem Q6U(h:UB B l w)(hl:l.length+1<=140737488355328)(hB:B<=w.heap.size):Calls Tryz.prog 69 #[.pointer (some ⟨B,0,none⟩),.int .u8 10] w λe w'=>e=.returned .nilIface/\UB B (l++[10]) w' /\ Below B w w' :=
 (Any.Builder_WriteByte Z4E Z8g B B (Lib.byteCells l) 10 w h (by rw[gz];exact hl) hB).mono λe w' ⟨he,hb,bl⟩=>⟨he,.inr (by rw[pK];exact hb),bl⟩
theorem Ix(h:UB B l w):Calls Tryz.prog 70 #[.pointer (some ⟨B,0,none⟩)] w λe w'=>e=.returned (.int .i64 l.length)/\w'=w:=
 (Any.Builder_Len Z8H B B (Lib.byteCells l) w h).mono λe w' ⟨he,hw⟩=>⟨by rw[he,gz],hw⟩
theorem Q6W(h:UB B l w)(hB:B<=w.heap.size):Calls Tryz.prog 71 #[.pointer (some ⟨B,0,none⟩)] w λe w'=>e=.returned (.string (bs l))/\Below B w w' :=
 Any.Builder_String_any (ρ:=XM) {gN with} gB B B l w h hB
theorem z_j{ws:ε}(hn:n=ws.length)(h0:ws≠[])(hv:aA w X (.slice ad n cp) (DL ws))(hl:(Qy ws).length<=16384)(hm:ws.length<=Y2):
  Calls Tryz.prog 68 #[.slice ad n cp,.string ⟨#[32]⟩] w λe w'=>e=.returned (.string (bs (Qy ws)))/\Below w.heap.size w w':=by
 simp only[Y2]at hm;have f:0<n:=by rw[hn];exact fS.2 h0
 obtain⟨b,d,rfl,_⟩:=Su hn hv f;subst hn
 have a:ws.length<=cp/\b<w.heap.size:=Z4u hv f;have:=Any.strings_Join gN gB b d cp ws (bs [32]) w (λj x g=>by
  have c : j<ws.length:=(lH.1 g).1;obtain⟨i,h,e,a⟩:=Su rfl hv c
  cases e
  rw[a];unfold gl
  rw[aY,g];rfl) a.2 (by omega) a.1 (by rw[show(bs [32]).data.toList=[32]from rfl,ba];omega)
 rw[show(bs [32]).data.toList=[32]from rfl,ba]at this;exact this
end
theorem NQ{L:List ε}(hw:∀ ws ∈ L,ws≠[]/\∀ s ∈ ws,Qw s)(hl:(Yi L).length<=16384)(hn:L.length<=400){X:ξ}(hv:aA w X v (DL L)):
  Calls Tryz.prog 31 #[v] w λe w'=>e=.returned (.tuple #[.string (bs (Yi L)),.int .i64 0])/\Below w.heap.size w w':=by
 obtain⟨u,A,rfl⟩:=zS (n:=L.length) (f:=LF L) hv;obtain⟨n,hnn⟩:∃n,L.length=n:=⟨_,rfl⟩
 obtain⟨B,hB⟩:∃B,w.heap.size=B:=⟨_,rfl⟩;rw[hB]
 rw[hnn]at hn⊢;unfold DL at hv
 rw[hnn]at hv;have r:UB B [] (w.alloc (.cells #[.pointer none,.slice none 0 0] tB)):=hB ▸ Lib.fresh_isBuilder tB 5 w
 have q:Below B w (w.alloc (.cells #[.pointer none,.slice none 0 0] tB)):=(Below.refl B w).alloc (lU hB.symm) _;have t:∀k,k<=n->(Yi (L.take k)).length<=16384:=λk _=>by
  refine dP ?_ hl;unfold Yi
  rw[<-iR k L,lC,dK,iR];exact oh _ _
 go_enter Tryz.func31,Tryz.ntmps31
 go_wp2
 generalize w.alloc (.cells #[.pointer none,.slice none 0 0] tB)=W0 at r q⊢
 go_loopw [12] (λi W=>∃k:Nat,k<=n/\i=.int .i64 k/\UB B (Yi (L.take k)) W/\Below B w W) (λi _=>n-(RowKit.intOf i).toNat)
 case atStart=>exact⟨0,by omega,rfl,r,q⟩
 case round=>
  obtain⟨k,F,rfl,d,j⟩:=hrel;have a:B<=wr.heap.size:=hB ▸ j.size
  by_cases hp:k<n
  .have p:aA wr X (.slice u n A) (.lst n (LF L)):=hv.mono λb d E=>⟨j.block b (hB ▸ d),E⟩
   obtain⟨b,D,x,rfl,G,c⟩:=uf p hp rfl;obtain⟨ws,hws⟩:∃ws,gl L k=ws:=⟨_,rfl⟩
   have m:ws∈L:=by
    rw[<-hws];unfold gl
    rw[aY,eG (hnn ▸ hp)];exact fp _
   have c:aA wr X x (DL ws):=by rw[<-hws];exact c
   have g:=t (k+1) hp;rw[jJ (hnn ▸ hp),hws]at g
   simp only[dK,dz,eg]at g;have h:ws.length<=Y2:=by have:=cZ (hw ws m).2;unfold Y2;omega
   obtain⟨C,y,rfl⟩:=zS (n:=ws.length) (f:=LF ws) c;have o:(bs (Qy ws)).size=(Qy ws).length:=Yj _
   go_wp2_with (first
    |(go_at_call 64;refine(Q7a rfl (λs z w=>Q7l ((hw ws m).2 s z) w) h c).mono ?_;rintro e w1 ⟨rfl,st1⟩)
    |(go_at_call 68;refine(z_j rfl (hw ws m).1 (c.stp st1) (by omega) h).mono ?_;rintro e w2 ⟨rfl,bl2⟩)
    |(go_at_call 67;refine(Q6Q _ ((d.below (qc st1)).below bl2) (by rw[o];omega) (dP a (dP st1.size bl2.size))).mono ?_;rintro e w3 ⟨rfl,hb3,bl3⟩)
    |(go_at_call 69;refine(Q6U hb3 (by simp only[dK,QR];omega) (dP a (dP st1.size (dP bl2.size bl3.size)))).mono ?_;rintro e w4 ⟨rfl,hb4,bl4⟩))
   go_roundw
   case rel=>
    refine⟨k+1,hp,by simp,?_,(((j.trans ((qc st1).mono a)).trans (bl2.mono (dP a st1.size))).trans bl3).trans bl4⟩;rw[jJ (hnn ▸ hp),hws]
    exact hb4
   case measure=>simp[RowKit.intOf];omega
  .obtain rfl:k=n:=by omega
   have e:L.take k=L:=lz (lU hnn);rw[e]at d
   go_wp2_with (first
    |(go_at_call 70;refine(Ix d).mono ?_;rintro e w' ⟨rfl,rfl⟩)
    |(go_at_call 71;refine(Q6W d a).mono ?_;rintro e w5 ⟨rfl,bl5⟩))
   all_goals first|(exfalso;omega)|(go_ret2;exact⟨rfl,j.trans bl5⟩)
theorem jB{L:List ε}{r:ByteArray×Int}(h:XV F L=some r):WN Tryz.prog 31 [AL L] [] (.t [.c (.d (.str r.1)),.c (ci r.2)]) []:=by
 unfold XV at h;split at h
 .rename_i f
  cases h
  intro w X η n m _ _ _ g a;rw[KU g]
  refine(NQ f.1 f.2.1 f.2.2 (gH (a 0 lm))).mono λe w' ⟨he,bl⟩=>⟨_,η,he,?_⟩
  refine Jb (w:=zw w) ⟨bl.os,bl.tape,bl.output,bl.size,λb k _=>bl.block b k,dW _⟩ (.t _ _ rfl λj i=>?_);have i:j<2:=i
  match j,i with
  |0,_=>exact .c _ _ (.d _ _ (.str _))
  |1,_=>exact .c _ _ (.d _ _ (.int _ _))
 .cases h
