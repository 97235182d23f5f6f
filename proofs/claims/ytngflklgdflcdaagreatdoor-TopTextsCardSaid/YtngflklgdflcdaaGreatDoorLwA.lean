/- What the plain programs compute, up to the law itself. -/
import Derived.Test.YtngflklgdflcdaaGreatDoorAbC
set_option linter.all false
noncomputable section
namespace Go.Ab
variable {b:Bool}{k:Bool->Bool->Bool}{n x' y':Int}{f:Int->Bool}{S:Int->Int->Bool}{acc:List (Rn ψ)}{a:ζ}{F i j:Nat}{r:aa}
section
variable {l:ζ}{c xs ys:θ}{t x y:Int}
def Q6:Nat:=1099511627776
theorem Q5{R:Type}{p:Prop}[Decidable p]{x:Option R}{y:Option R}(h:p)(k:x=y):gd p x=y:=by unfold gd;rw[av h];exact k
theorem Q3{α R:Type}{x:Option α}{f:α->Option R}{a:α}{y:Option R}(h:x=some a)(k:f a=y):x.bind f=y:=by rw[h];exact k
theorem Z9{R:Type}{x y z:Option R}(ht:b=true->x=z)(hf:b=false->y=z):br b x y=z:=by cases b;exact hf rfl;exact ht rfl
theorem Y8{R:Type}{x y z:Option R}(h:b=true)(k:x=z):br b x y=z:=by subst h;exact k
theorem Z4{R:Type}{x y z:Option R}(h:b=false)(k:y=z):br b x y=z:=by subst h;exact k
theorem r9{R:Type}(b:Bool)(x y:Option R):br b x y=if b=true then x else y:=by cases b<;>rfl
theorem z5{σ R:Type}{body:(σ->Option R)->σ->Option R}{y:Option R}(I:σ->Prop)(μ:σ->Nat)(round:∀again z,I z->(∀z',I z' -> μ z' < μ z->again z'=y)->body again z=y):∀{n:Nat} {z:σ},I z->μ z<n->Y4 body n z=y:=by
 intro n
 induction n with
 |zero=>intro z _ h;omega
 |succ n ih=>
  intro z c d;exact round (Y4 body n) z c λz' a b=>ih a (by omega)
section
variable {α:Type}[aN α]
theorem G8{l:List α}(h:i<l.length):gl l i=l[i]:=by simp[gl,aY,h]
theorem y3{l:List α}(h:i<l.length):gl l i∈l:=by rw[G8 h];exact fp h
theorem YP{l:List α}(h:i<l.length):l.drop i=gl l i::l.drop (i+1):=by rw[G8 h];exact lL h
theorem Za{l:List α}(h:i<l.length):l.take (i+1)=l.take i++[gl l i]:=by rw[G8 h];exact Av h
end
theorem U4(h1 : -4611686018427387904<=n)(h2:n<=4611686018427387904):Q7 n:=⟨by omega,by omega⟩
theorem vE{α R:Type}[aN α]{l:List α}{body:(Int->Option R)->Int->Option R}(y:List α->Option R)(step:∀again (i:Nat),i<l.length->again ((i:Int)+1)=y (l.drop (i+1))->body again (i:Int)=y (gl l i::l.drop (i+1)))(stop:∀again,body again (l.length:Int)=y [])(hF:l.length<F):Y4 body F 0=y l:=by
 have a:∀(n:Nat) (i:Nat),i<=l.length->l.length-i<n->Y4 body n (i:Int)=y (l.drop i):=by
  intro n
  induction n with
  |zero=>intro i _ h;omega
  |succ n ih=>
   intro i c b;show body (Y4 body n) (i:Int)=_
   by_cases h:i<l.length
   .rw [YP h]
    refine step _ i h ?_;have:=ih (i+1) h (by omega)
    rw[<-this];congr 1
   .have:i=l.length:=by omega
    subst this;rw[lE];exact stop _
 have:=a F 0 (dW _) (by omega)
 rw[lJ]at this;exact this
theorem GU{α σ R:Type}[aN α]{l:List α}{body:(Int×σ->Option R)->Int×σ->Option R}(I:List α->σ->Prop)(y:List α->σ->Option R)(step:∀again (i:Nat) (s:σ),i<l.length->I (gl l i::l.drop (i+1)) s->(∀s',I (l.drop (i+1)) s' -> again ((i:Int)+1,s')=y (l.drop (i+1)) s')->body again ((i:Int),s)=y (gl l i::l.drop (i+1)) s)(stop:∀again (s:σ),I [] s->body again ((l.length:Int),s)=y [] s)(hF:l.length<F){s0:σ}(h0:I l s0):Y4 body F (0,s0)=y l s0:=by
 have c:∀(n:Nat) (i:Nat) (s:σ),i<=l.length->l.length-i<n->I (l.drop i) s->Y4 body n ((i:Int),s)=y (l.drop i) s:=by
  intro n
  induction n with
  |zero=>intro i _ _ h;omega
  |succ n ih=>
   intro i s e d a;show body (Y4 body n) ((i:Int),s)=_
   by_cases h:i<l.length
   .rw [YP h]at a⊢
    refine step _ i s h a λs' b=>?_
    have:=ih (i+1) s' h (by omega) b
    rw[<-this];congr 1
   .have:i=l.length:=by omega
    subst this;rw[lE]at a⊢;exact stop _ s a
 have:=c F 0 s0 (dW _) (by omega) (by rwa [lJ])
 rw[lJ]at this;exact this
theorem YS{R:Type}(K:Bool->Option R)(b x:Bool):br b (K x) (K false)=K (b&&x):=by cases b<;>rfl
theorem YB{R:Type}(K:Bool->Option R)(b x:Bool):br b (K true) (K x)=K (b||x):=by cases b<;>rfl
theorem gI{α:Type}[aN α]{l:List α}(h:i<l.length)(p:α->Bool):(l.drop i).any p=(p (gl l i)||(l.drop (i+1)).any p):=by rw[YP h];rfl
theorem Vo{a b:Nat}(h:a<b):decide ((a:Int)<((b:Nat):Int))=true:=by simpa using h
theorem Uo(a:Nat):decide ((a:Int)<((a:Nat):Int))=false:=by simp
theorem Z7{R:Type}{p:Prop}[Decidable p]{x:Option R}{y:Option R}(h:p:=by first|omega|exact U4 (by omega) (by omega)|(simp only[Y2,Q6,dK,dz,eg,fL,fE,lu,nY]at *;omega))(k:x=y):gd p x=y:=Q5 h k
def Yx(l:θ):Prop:=l.Pairwise (· < ·)
theorem Yx.at_lt{l:θ}(h:Yx l)(hij:i<j)(hj:j<l.length):gl l i<gl l j:=by
 rw[G8 (by omega),G8 hj];exact ie.1 h i j (by omega) hj hij
theorem xf{l:θ}{v:Int}(h:v∈l):∃j,j<l.length/\gl l j=v:=by
 obtain⟨j,a,e⟩:=eZ h;exact⟨j,a,by rw[G8 a];exact e⟩
theorem Yx.gap(h:Yx c)(hi:i+1<c.length){v:Int}(h1:gl c i<=t)(h2:t<gl c (i+1))(hv:v∈c):(v<=t↔v<=gl c i):=by
 obtain⟨j,d,rfl⟩:=xf hv;rcases eK i j with b|b
 .rcases eK (i+1) j with a|a
  .have:=h.at_lt a d
   have:=h.at_lt (show i<i+1 by omega) hi
   omega
  .have:j=i+1:=by omega
   subst this;have:=h.at_lt (show i<i+1 by omega) hi
   omega
 .rcases eK j i with a|a
  .have:=h.at_lt a (by omega)
   omega
  .have:j=i:=by omega
   subst this;omega
def Ga(c:θ)(l:ζ):Prop:=∀r∈l,r.L_∈c/\r.R_∈c
def JP(c:θ)(l:ζ):Prop:=∀r∈l,r.w_∈c/\r.H_∈c
theorem pT(h:∀r∈l,r.has x y=r.has x' y'):Q8 l x y=Q8 l x' y':=by
 induction l with
 |nil=>rfl
 |cons r l ih=>
  simp only[Q8,lh]at ih⊢;rw[h r (by simp),ih λq a=>h q (by simp[a])]
theorem FM(h:∀r∈l,r.has x y=false):Q8 l x y=false:=by
 induction l with
 |nil=>rfl
 |cons r l ih=>
  simp only[Q8,lh]at ih⊢;rw[h r (by simp),ih λq a=>h q (by simp[a])];rfl
theorem Yv(r:aa)(x y:Int):r.has x y=true↔r.L_<=x/\x<r.R_/\r.w_<=y/\y<r.H_:=by simp[aa.has,and_assoc]
theorem tJ(h:(r.L_<=x/\x<r.R_/\r.w_<=y/\y<r.H_)↔(r.L_<=x' /\ x' < r.R_/\r.w_<=y' /\ y' < r.H_)):r.has x y=r.has x' y':=by
 rw[eV,Yv,Yv];exact h
theorem Mv(h:¬(r.L_<=x/\x<r.R_/\r.w_<=y/\y<r.H_)):r.has x y=false:=by
 rw[<-gk,Yv];exact h
theorem Ga.gap(hc:Yx c)(h:Ga c l)(hi:i+1<c.length)(h1:gl c i<=t)(h2:t<gl c (i+1))(y:Int):Q8 l t y=Q8 l (gl c i) y:=
 pT λr d=>tJ (by
  have a:=hc.gap hi h1 h2 (h r d).1;have b:=hc.gap hi h1 h2 (h r d).2
  omega)
theorem JP.gap(hc:Yx c)(h:JP c l)(hi:i+1<c.length)(h1:gl c i<=t)(h2:t<gl c (i+1))(x:Int):Q8 l x t=Q8 l x (gl c i):=
 pT λr d=>tJ (by
  have a:=hc.gap hi h1 h2 (h r d).1;have b:=hc.gap hi h1 h2 (h r d).2
  omega)
theorem Ga.before(h:Ga c l)(ht:∀v∈c,t<v)(y:Int):Q8 l t y=false:=
 FM λr a=>Mv (by have:=ht _ (h r a).1;omega)
theorem Ga.after(h:Ga c l)(ht:∀v∈c,v<=t)(y:Int):Q8 l t y=false:=
 FM λr a=>Mv (by have:=ht _ (h r a).2;omega)
theorem JP.before(h:JP c l)(ht:∀v∈c,t<v)(x:Int):Q8 l x t=false:=
 FM λr a=>Mv (by have:=ht _ (h r a).1;omega)
theorem JP.after(h:JP c l)(ht:∀v∈c,v<=t)(x:Int):Q8 l x t=false:=
 FM λr a=>Mv (by have:=ht _ (h r a).2;omega)
theorem Yx.first(h:Yx c)(ht:t<gl c 0):∀v∈c,t<v:=by
 intro v b;obtain⟨j,d,rfl⟩:=xf b
 rcases lA j with rfl|a
 .exact ht
 .have:=h.at_lt a d;omega
theorem Yx.last(h:Yx c)(hi:i+1=c.length)(ht:gl c i<=t):∀v∈c,v<=t:=by
 intro v b;obtain⟨j,d,rfl⟩:=xf b
 rcases eK j i with a|a
 .have:=h.at_lt a (by omega);omega
 .have:j=i:=by omega
  subst this;exact ht
structure ep {α:Type} (d:α) (c:θ) (f:Int->α):Prop where
 asc:Yx c
 gap:∀i,i+1<c.length->∀t,gl c i<=t->t<gl c (i+1)->f t=f (gl c i)
 before:∀t,(∀v∈c,t<v)->f t=d
 after:∀t,(∀v∈c,v<=t)->f t=d
theorem ep.start{α:Type}{d:α}{f:Int->α}(h:ep d c f)(_:0<c.length):fK d f [] (gl c 0):=.start λt a=>h.before t (h.asc.first a)
theorem ep.empty{α:Type}{d:α}{f:Int->α}(h:ep d c f)(hc:c.length=0)(t:Int):f t=d:=h.before t λv a=>by
 rw[iH hc]at a;cases a
theorem ep.done{α:Type}{d:α}{f:Int->α}(h:ep d c f)(hi:i+1=c.length){acc:List (Rn α)}(hb:fK d f acc (gl c i))(t:Int):G9 d acc t=f t:=by
 rcases Int.lt_or_le t (gl c i)with a|a
 .exact hb.val t a
 .rw [hb.out t a,h.after t (h.asc.last hi a)]
open Classical in
def Zh(f:Int->Bool):ψ:=if h:∃l,dL l/\∀x,K8 l x=f x then h.choose else[]
theorem Gm{l:ψ}(hl:dL l)(h:∀x,K8 l x=f x):Zh f=l:=by
 have a:∃l,dL l/\∀x,K8 l x=f x:=⟨l,hl,h⟩;unfold Zh
 rw[lf a];exact a.choose_spec.1.unique hl λx=>(a.choose_spec.2 x).trans (h x).symm
theorem dL.nil:dL []:=⟨λs a=>(fF a).elim,List.Pairwise.nil⟩
theorem Sw(h:∀x,f x=false):Zh f=[]:=Gm .nil λx=>(h x).symm
def Rp(S:Int->Int->Bool):Prop:=∀y,∃l,dL l/\∀x,K8 l x=S x y
theorem Rp.sp(h:Rp S)(y:Int):dL (Zh λx=>S x y)/\∀x,K8 (Zh λx=>S x y) x=S x y:=by
 obtain⟨l,a,b⟩:=h y;rw[Gm a b];exact⟨a,b⟩
theorem Rk(hr:Rp S)(h:ep [] c λy=>Zh λx=>S x y)(hacc:dJ acc)(hval:∀t,G9 [] acc t=Zh λx=>S x t)(hne:∀b∈acc,b.v≠[]):cn S=flat acc/\Fin S:=by
 have i:∀b∈acc,b.v=Zh λx=>S x b.lo:=by
  intro b d;have f:∀(l:List (Rn ψ)),dJ l->b∈l->G9 [] l b.lo=b.v:=by
   intro l
   induction l with
   |nil=>intro _ d;cases d
   |cons a l ih=>
    intro e d;rcases dY.1 d with rfl|d
    .have:=e.pos b (by simp)
     rw[G9,av ⟨by omega,this⟩]
    .have j:=(e.head b d).1
     rw[G9,an (by omega)];exact ih e.tail d
  rw[<-hval,f acc hacc d]
 have g:fw acc:=⟨hacc,λb d=>by rw[i b d];exact(hr.sp _).1,hne⟩;have hS:∀x y,K8 (G9 [] acc y) x=S x y:=λx y=>by rw[hval];exact(hr.sp y).2 x
 exact⟨BG g hS,acc,g,hS⟩
structure fc (xs ys:θ) (S:Int->Int->Bool):Prop where
 x:∀y,ep false xs λx=>S x y
 y:∀x,ep false ys λy=>S x y
theorem ep.spansL(h:ep false xs f):∃l,dL l/\(∀x,K8 l x=f x)/\l.length<=xs.length:=by
 by_cases h0:xs.length=0
 .exact ⟨[],.nil,λx=>(h.empty h0 x).symm,by simp⟩
 .have m:∀ i,i+1<=xs.length->∃ l:ψ,fK false f (l.map aq.rn) (gl xs i)/\l.length<=i:=by
   intro i
   induction i with
   |zero=>intro o;exact⟨[],h.start (by omega),by simp⟩
   |succ i ih=>
    intro o;obtain⟨l,b,d⟩:=ih (by omega)
    have c:=h.asc.at_lt (show i<i+1 by omega) (by omega)
    cases hf:f (gl xs i)with
    |false=>exact⟨l,b.skip (by omega) λt k j=>(h.gap i (by omega) t k j).trans hf,by omega⟩
    |true=>
     rcases lF l with rfl|⟨n,s,g⟩
     .refine ⟨[⟨gl xs i,gl xs (i+1)⟩],?_,by simp⟩
      have:=b.add c (h.gap i (by omega)) (λa e=>by simp at e)
      rw[hf]at this;exact this
     .rw [lK]at g
      subst g
      by_cases hs:s.R_=gl xs i
      .refine ⟨n ++ [⟨s.L_,gl xs (i+1)⟩],?_,by simp at d⊢;omega⟩
       rw[fe]at b;have:=b.grow (a:=s.rn) hs c λt k j=>(h.gap i (by omega) t k j).trans hf
       rw[fe];exact this
      .refine ⟨(n ++ [s])++[⟨gl xs i,gl xs (i+1)⟩],?_,by simp at d⊢;omega⟩
       have:=b.add c (h.gap i (by omega)) (λa e p=>by
        rw[fe]at e;simp at e
        subst e;exact absurd p hs)
       rw[hf]at this;rw[fe];exact this
  obtain⟨l,b,d⟩:=m (xs.length-1) (by omega);refine⟨l,.of_runs b.runs,λx=>?_,by omega⟩
  rw[Mp];exact h.done (by omega) b x
theorem ep.spans(h:ep false xs f):∃l,dL l/\∀x,K8 l x=f x:=by
 obtain⟨l,a,b,_⟩:=h.spansL;exact⟨l,a,b⟩
theorem ep.spn_len(h:ep false xs f):(Zh f).length<=xs.length:=by
 obtain⟨l,a,c,b⟩:=h.spansL;rw[Gm a c];exact b
theorem fc.rows(h:fc xs ys S):Rp S:=λy=>(h.x y).spans
theorem fc.step(h:fc xs ys S):ep [] ys λy=>Zh λx=>S x y:=by
 refine⟨(h.y 0).asc,λi d t c b=>?_,λt a=>?_,λt a=>?_⟩
 .congr 1;funext x;exact(h.y x).gap i d t c b
 .exact Sw λx=>(h.y x).before t a
 .exact Sw λx=>(h.y x).after t a
theorem fc.of{b:ζ}(hx:Yx xs)(hy:Yx ys)(ax:Ga xs a)(bx:Ga xs b)(ay:JP ys a)(by' : JP ys b)(hk:k false false=false):
  fc xs ys λx y=>k (Q8 a x y) (Q8 b x y):=by
 refine⟨λy=>⟨hx,λi f t e d=>?_,λt c=>?_,λt c=>?_⟩,λx=>⟨hy,λi f t e d=>?_,λt c=>?_,λt c=>?_⟩⟩
 .simp only[ax.gap hx f e d,bx.gap hx f e d]
 .simp only[ax.before c,bx.before c,hk]
 .simp only[ax.after c,bx.after c,hk]
 .simp only[ay.gap hy f e d,by'.gap hy f e d]
 .simp only[ay.before c,by'.before c,hk]
 .simp only[ay.after c,by'.after c,hk]
