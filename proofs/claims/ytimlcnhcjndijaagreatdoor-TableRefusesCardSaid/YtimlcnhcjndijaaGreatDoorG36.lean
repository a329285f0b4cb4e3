/- Parts of a proof. No condition. -/
import Derived.Test.YtimlcnhcjndijaaGreatDoorG33
import Derived.Test.YtimlcnhcjndijaaGreatDoorG35
import Derived.Test.YtimlcnhcjndijaaGreatDoorG30
set_option linter.all false
set_option maxRecDepth 100000
set_option maxHeartbeats 12800000
namespace Go.Proofs.YtimlcnhcjndijaaGreatDoor
open Option renaming none->I,some->Z
open Value renaming slice->J,pointer->Q,int->G,tuple->E,string->Y,bool->D
open IntKind renaming i64->O
open Obj renaming cells->V
open Ending renaming returned->K
open Go renaming World->WD,Value->VL,Calls->CS
open Go.RowKit renaming Below->BW
open Go.Proofs.Tryz
section
open Go.RowKit Go.Maps Go.Lib
def B9 (vs:List ax) (n:Nat) (l:List dm):List (List Int)×Int:=
 match l.find? λs=>decide (Dv s vs≠0)with
 | some s=>([],Dv s vs)
 | none=>if 100<(n:Int)+Id l then([],140)else Gj ((n:Int)+1) (l.map λs=>s.array) (l.map λs=>s.after)
def M5 (vs:List ax) (t:du) (l:List dm):du×Cl:=
 let js:=E1 (l.zip (B9 vs t.ab.length l).1) t.ab
 (t.gh (Dp js),⟨0,0,(t.ab.length:Int)+1,(js.length:Int)⟩)
def Dz (vs:List ax) (t:du) (e:ei):Int:=
 if F4 e=false then 130
 else if Br e.n.kind=true/\e.n.seq<=(E0 t.cls e.n.ah).seq then 141
 else if e.n.kind=1 then(if e.n.ai<=t.ai then 141 else 0)
 else if e.n.kind=6 then(if e.n.tick<=t.tick then 141 else 0)
 else if e.n.kind=2 then(B9 vs t.ab.length e.specs).2
 else if 8<=e.n.kind/\e.n.kind<=11 then Lp t e.n
 else J7 t e.n
noncomputable def ee (vs:List ax) (t:du) (e:ei):du×Cl:=
 if e.n.kind=1 then({ t with ai:=e.n.ai },⟨0,0,0,0⟩)
 else if e.n.kind=2 then M5 vs t e.specs
 else if e.n.kind=6 then(Tr vs t e.n.tick,⟨0,0,0,0⟩)
 else if e.n.kind=7 then(Aif t e.n,⟨0,0,0,0⟩)
 else if 8<=e.n.kind/\e.n.kind<=11 then(Px t e.n,⟨0,0,0,0⟩)
 else Aie t e.n
noncomputable def Ca (vs:List ax) (t:du) (e:ei):du×Cl×Int:=
 if Dz vs t e≠0 then(t,⟨0,0,0,0⟩,Dz vs t e)
 else
  let d:=ee vs t e
  (if Br e.n.kind=true then { d.1 with cls:=Ib d.1.cls e.n.ah ⟨e.n.seq,d.2.e,d.2.first,d.2.last⟩ } else d.1,d.2,0)
structure Ju (w:WD) (B:Nat) (v:VL) (svs:List VL):Prop where
 row:w.ownsRow B 31 1 v svs.length svs
def Ju.nil (w:WD) (B:Nat):Ju w B (J I 0 0) []:=⟨rfl,.inl ⟨rfl,rfl⟩⟩
def Ju.mod {w w':WD} {B:Nat} {S:Nat->Prop} {v:VL} {l:List VL} (h:Ju w B v l) (a:Mod S w w') (b:∀k,v.ownBlock=Z k->¬S k):Ju w' B v l:=⟨Bb h.row a b⟩
def Ju.lt {w:WD} {B:Nat} {v:VL} {l:List VL} (h:Ju w B v l):∀k,v.ownBlock=Z k->B<=k/\k<w.heap.size:=λk a=>h.row.lt k a
def Ayi {m:Array Oper} {rest:List Oper} {o:Oper} {a:Act} {w:WD} {Q9q:Exit->Act->WD->Prop} (y:o.guard=I) (s x:Operand)
  (ho:o.op=.call { callee:=.builtin .append,args:=#[s,x],argTypes:=#[137,137] })
  (B L:Nat) (v:VL) (hs:a.eval s=v) {l:List VL} (f:Ju w B v l) (r:l.length=L) (q:Addr) (c:Nat) (hx:a.eval x=J (Z q) 1 c) (so:Option Addr) (n sc:Nat) (hk:w.cell? q=Z (J so n sc)) (hL:L<=1000000000) (hb:B<=w.heap.size)
  (h:∀g cap w',Ju w' B (J (Z ⟨g,0,I⟩) (L+1) cap) (l++[J so n sc])->w.grownBy w' v.ownBlock->(v.ownBlock=Z g\/g=w.heap.size)->wpList prog m Q9q rest (a.put o.dst (J (Z ⟨g,0,I⟩) (L+1) cap)) w') :
  wpList prog m Q9q (o :: rest) a w:=by
 obtain⟨i3,z,ac,i,k⟩:=B4 Alc;subst r;refine R2 w y s x 137 ho B 31 i3 _ 1 24 underlying137 z ac i k rfl ad9 v l.length l hs f.row q 1 c [J so n sc] hx rfl ?_ (by simp[Value.oneCell']) (Ff (n:=l.length) ao9) ao9 hb ?_
 .intro j u p
  match j,p with
  | 0,p=>
   simp at p;subst p;simpa[Addr.add]using hk
 .intro v' w' b d _ t;obtain⟨g,cap,rfl⟩:=Joins.ownsRow_form b ao9;refine h g cap w' ⟨?_⟩ d ?_
  .rw [Az];simpa using b
  .rcases t with e|e
   .exact .inl e.symm
   .simp [Value.ownBlock]at e;exact .inr e
def Ali {α:Type} {p:α->Bool}:∀ {l:List α} {i:Nat} {s:α},(∀(k:Nat) (y:α),k<i->l[k]?=Z y->p y=false)->l[i]?=Z s->p s=true->l.find? p=Z s
 | [],i,s,_,h,_=>by simp at h
 | y :: l,0,s,_,h,hp=>by
  simp at h;subst h;simp[List.find?,hp]
 | y :: l,i+1,s,hk,h,hp=>by
  have h0:=hk 0 y ao9 as9;simp only[List.find?,h0];exact Ali (i:=i) (λk z a b=>hk (k+1) z ao9 (by simpa using b)) (by simpa using h) hp
def Ayj {vs:List ax} {n:Nat} {l:List dm} {i:Nat} {s:dm} (b:∀(k:Nat) (y:dm),k<i->l[k]?=Z y->Dv y vs=0) (h:l[i]?=Z s) (c:Dv s vs≠0):B9 vs n l=([],Dv s vs):=by
 have:=Ali (p:=λs=>decide (Dv s vs≠0)) (λk y h1 a=>by simp[b k y h1 a]) h (by simp[c]);unfold B9;rw[this]
def Ayk {vs:List ax} {n:Nat} {l:List dm} (b:∀(k:Nat) (y:dm),k<l.length->l[k]?=Z y->Dv y vs=0):B9 vs n l=if 100<(n:Int)+Id l then([],140)else Gj ((n:Int)+1) (l.map λs=>s.array) (l.map λs=>s.after):=by
 have:(l.find? λs=>decide (Dv s vs≠0))=I:=by rw[R4];intro s c;obtain⟨k,a⟩:=Dn c;simp[b k s (Aq.1 a).1 a]
 unfold B9;rw[this]
def I5 {s:dm} {vs:List ax} (h:Dv s vs=0):Ct s=true:=by
 unfold Dv at h;split at h
 .omega
 .rename_i q;simpa using q
def M7 (xs:List ay):List VL:=xs.map λx=>J x.so x.n x.c
def Ju.rows {w:WD} {B:Nat} {j:Option Addr} {n c:Nat} {xs:List ay} (h:Ju w B (J j n c) (M7 xs)) (u:∀x,x∈xs->x.ok w) (h1:xs.length<=1000) (q:∀x,x∈xs->x.pl.after.length<=100000):n=xs.length/\Rs w j n (xs.map λx=>x.pl.after):=by
 have m:(M7 xs).length=xs.length:=by simp[M7]
 have o:=h.row;rcases o.2 with⟨e,h0⟩|⟨g,cap,p,e,v,s,t,z,k⟩
 .injection e with e1 e2 e3;subst e1 e2;have f:xs=[]:=Gb.1 ao9;subst f;exact⟨rfl,rfl,ao9,λi l m=>by simp at m⟩
 .injection e with e1 e2 e3;subst e1;refine⟨ao9,by simp;omega,ao9,λi l a=>?_⟩;rw[Bg]at a
  cases hxi:xs[i]? with
  | none=>rw[hxi]at a;cases a
  | some x=>
   rw[hxi]at a;simp at a;subst a;have y:=(Aq.1 hxi).1;have d:=Ai hxi;have b:=u x d;subst e2;have r:=Fo o i ao9;refine⟨g,0,x.so,x.c,rfl,Ab s,?_,?_,?_,q x d⟩
   .rw [Cn,r];simp[M7,hxi,b.after.len]
   .rw [b.after.len];exact b.after
   .rw [b.after.len];exact b.ni
variable {w w' wr:WD} {T:Tv}
def An.vl (h:An w T) {b:Nat} {x:ar} {jv:VL} (u:Mod (λk=>k=T.tb\/T.jv.ownBlock=Z k) w w')
  (hd:w'.heap[T.tb]?=Z (V #[G O T.ai,G O T.tick,.map (Z T.mb),T.nv,jv,Q (Z ⟨T.fb,0,I⟩),T.cv] 115 (0,0)))
  (z:w'.ownsRow 0 125 1 jv (T.js.length+1) ((T.js.map λj=>Q (Z ⟨j.1,0,I⟩))++[Q (Z ⟨b,0,I⟩)]))
  (ad:∀k,jv.ownBlock=Z k->T.jv.ownBlock=Z k\/w.heap.size<=k)
  (hb:w.heap.size<=b) (p:Bc w' b x) (i:x.po=I/\x.pn=0/\x.pc=0/\x.pl.parts=[]) (m:x.go=I/\x.gn=0/\x.gc=0/\x.pl.ak=[])
  (am:Ap w' x.so x.sn x.pl.sp.after) (ac:∀k o,x.so=Z ⟨k,o,I⟩->∃c,w'.heap[k]?=Z (V c 3 (0,0))) (al:x.sn<=x.sc) (hu:x.pl.sp.user.size<=maxLen) (hp:x.pl.sp.part.size<=maxLen) :
  An w' { T with jv:=jv,js:=T.js++[(b,x)] }/\∀k,({ T with jv:=jv,js:=T.js++[(b,x)] }:Tv).az k->T.az k\/w.heap.size<=k:=by
 have t:x.pb=I:=by unfold ar.pb;rw[i.1];rfl
 have az:∀k,({ T with jv:=jv,js:=T.js++[(b,x)] }:Tv).az k->T.az k\/w.heap.size<=k:=λk c=>by
  rcases c with e|e|e|e|⟨j,d,e⟩
  .exact .inl (.inl e)
  .exact .inl (.inr (.inl e))
  .exact .inl (.inr (.inr (.inl e)))
  .rcases ad k e with e|e
   .exact .inl (.inr (.inr (.inr (.inl e))))
   .exact .inr e
  .rcases C4.1 d with d|d
   .exact .inl (.inr (.inr (.inr (.inr ⟨j,d,e⟩))))
   .have d:=Jy.1 d;subst d;rcases e with e|e
    .exact .inr (by rw[<-e];exact hb)
    .rw [t]at e;cases e
 have jb:∀k,T.jv.ownBlock=Z k->∃c,w.heap[k]?=Z (V c 125 (0,0)):=λk e=>by
  obtain⟨c,f,_⟩:=C8 h.ab e;exact⟨c,f⟩
 have y:Mod T.az w w':=u.mono λk _ e=>e.imp id λe=>.inr (.inr (.inl e))
 have l:∀ {B size n:Nat} {Ty:TypeId} {v:VL} {xs:List VL},w.ownsRow B Ty size v n xs->Ty≠125->Ty≠115->∀k,v.ownBlock=Z k->¬(k=T.tb\/T.jv.ownBlock=Z k):=λz h1 h2 k hk c=>by
  rcases c with e|e
  .subst e;exact Bq z h.head h2 hk
  .obtain ⟨cc,f⟩:=jb k e;exact Bq z f h1 hk
 have q:=h.cls.mod u (λc=>by
  rcases c with e|e
  .exact h.fp h.head e
  .obtain ⟨cc,f⟩:=jb _ e
   exact h.fp f rfl)
 have r:=Bb h.nodes u (l h.nodes ad9 ad9)
 have g:∀j,j∈T.js->Bc w' j.1 j.2:=λj d=>u.aw (h.box j d) (λc=>by
  rcases c with e|e
  .exact h.lg d h.head ad9 e
  .obtain ⟨cc,f⟩:=jb _ e
   exact h.lg d f ad9 rfl)
 have s:∀j,j∈T.js->Bv w' j.2:=λj d=>Bb (h.ok j d).parts u (l (h.ok j d).parts ad9 ad9)
 have dz:∀k c,w'.heap[k]?=Z (V c 3 (0,0))->¬({ T with jv:=jv,js:=T.js++[(b,x)] }:Tv).az k:=λk c f e=>by
  rcases e with e|e|e|e|⟨j,d,e⟩
  .rw [e]at f;rw[show w'.heap[T.tb]?=_ from hd]at f;injection f with f;injection f with _ f;exact absurd f ad9
  .obtain ⟨es,cl,af⟩:=q.aw;rw[e]at f;rw[show w'.heap[T.mb]?=_ from af]at f;injection f with f;cases f
  .exact Bq r f ad9 e
  .exact Bq z f ad9 e
  .rcases C4.1 d with d|d
   .rcases e with e|e
    .have:=g j d;rw[Bc,e,f]at this;injection this with this;injection this with _ this;exact absurd this ad9
    .exact Bq (s j d) f ad9 e
   .have d:=Jy.1 d;subst d;rcases e with e|e
    .have:=p;rw[Bc,show b=k from e,f]at this;injection this with this;injection this with _ this;exact absurd this ad9
    .rw [show x.pb=I from t]at e;cases e
 refine⟨⟨hd,q,r,?_,Bb h.bh u (l h.bh ad9 ad9),?_,?_,?_,?_,h.dn.mod y az,h.same⟩,az⟩
 .show w'.ownsRow 0 _ 1 jv (T.js++[(b,x)]).length ((T.js++[(b,x)]).map _);rw[Az,C2];exact z
 .intro j d;rcases C4.1 d with d|d
  .exact g j d
  .have d:=Jy.1 d;subst d;exact p
 .intro j d;rcases C4.1 d with d|d
  .exact (h.ok j d).mod y (λk hk c=>by
    rcases az k c with c|c
    .exact c
    .omega) (s j d)
  .have d:=Jy.1 d;subst d;refine⟨⟨am,λ_ k o e hS=>?_⟩,al,?_,?_,?_,hu,hp⟩
   .obtain ⟨c,f⟩:=ac k o e;exact dz k c f hS
   .show Ec w' _ x.go x.gn x.pl.ak;rw[m.1,m.2.1,m.2.2.2];exact Agy _ _
   .show x.gn<=x.gc;rw[m.2.1];exact As _
   .show Bv w' x;unfold Bv;rw[i.1,i.2.1,i.2.2.1,i.2.2.2];exact Nb _ _ _ _
 .show ((T.js++[(b,x)]).map Prod.fst).Nodup;rw[C2];refine R6.2 ⟨h.one,as9,λa ha c f e=>?_⟩;simp at f;obtain⟨j,d,rfl⟩:=A8.1 ha;have:=Ab (h.box j d);rw[e,f]at this;omega
 .show (T.js++[(b,x)]).Pairwise _;refine Ue.2 ⟨h.two,as9,λa _ c f k _ e=>?_⟩;have f:=Jy.1 f;subst f;rw[show x.pb=I from t]at e;cases e
structure D4 (w:WD) (T:Tv) (jv:VL) (js:List (Nat×ar)) (wr:WD):Prop where
 at_:An wr { T with jv:=jv,js:=js }
 az:∀b,({ T with jv:=jv,js:=js }:Tv).az b->T.az b\/w.heap.size<=b
 mod:Mod T.az w wr
variable {jv jv':VL} {js:List (Nat×ar)}
def D4.refl (h:An w T):D4 w T T.jv T.js w:=⟨h,λ_ c=>.inl c,Mod.refl _ _⟩
def D4.low (h:D4 w T jv js wr) (a:BW wr.heap.size wr w'):D4 w T jv js w':=⟨h.at_.low a,h.az,h.mod.low a⟩
def D4.oj (h:D4 w T jv js wr) (a:Mod ({ T with jv:=jv,js:=js }:Tv).az wr w'):Mod T.az w w':=h.mod.then a λk b c=>by
 rcases h.az k c with c|c
 .exact c
 .omega
def D4.add (h:D4 w T jv js wr) {b:Nat} {x:ar} (n:Mod (λk=>k=T.tb\/jv.ownBlock=Z k) wr w')
  (r:w'.heap[T.tb]?=Z (V #[G O T.ai,G O T.tick,.map (Z T.mb),T.nv,jv',Q (Z ⟨T.fb,0,I⟩),T.cv] 115 (0,0)))
  (t:w'.ownsRow 0 125 1 jv' (js.length+1) ((js.map λj=>Q (Z ⟨j.1,0,I⟩))++[Q (Z ⟨b,0,I⟩)]))
  (g:∀k,jv'.ownBlock=Z k->jv.ownBlock=Z k\/wr.heap.size<=k)
  (q:wr.heap.size<=b) (a:Bc w' b x) (i:x.po=I/\x.pn=0/\x.pc=0/\x.pl.parts=[]) (f:x.go=I/\x.gn=0/\x.gc=0/\x.pl.ak=[])
  (m:Ap w' x.so x.sn x.pl.sp.after) (d:∀k o,x.so=Z ⟨k,o,I⟩->∃c,w'.heap[k]?=Z (V c 3 (0,0))) (l:x.sn<=x.sc) (u:x.pl.sp.user.size<=maxLen) (s:x.pl.sp.part.size<=maxLen) :
  D4 w T jv' (js++[(b,x)]) w':=by
 obtain⟨h1,p⟩:=An.vl (T:={ T with jv:=jv,js:=js }) h.at_ n r t g q a i f m d l u s;refine⟨h1,λk c=>?_,h.oj (n.mono λk _ e=>e.imp id λe=>.inr (.inr (.inl e)))⟩;rcases p k c with c|c
 .exact h.az k c
 .exact .inr (Ay h.mod.size c)
def D4.then {a:List (Nat×ar)} (h:D4 w T jv js wr) (d:Bw wr { T with jv:=jv,js:=js } a w'):D4 w T jv a w':=
 ⟨d.at_,λb c=>by
  rcases d.az b c with c|c
  .exact h.az b c
  .exact .inr (Ay h.mod.size c),h.oj d.mod⟩
def D4.jh (h:D4 w T jv js wr) (a:Ii w T.js js):Ev w T { T with jv:=jv,js:=js } wr:=⟨h.at_,rfl,rfl,rfl,rfl,rfl,h.az,h.mod,a⟩
def D4.set (h:D4 w T jv js wr) {i:Nat} {x j:Nat×ar} (n:js[i]?=Z x) (o:j.1=x.1) (p:Mod (Gd x) wr w') (a:Bc w' j.1 j.2) (s:Bv w' j.2) (f:∀b,j.2.pb=Z b->x.2.pb=Z b\/wr.heap.size<=b)
  (q:Ec w' (({ T with jv:=jv,js:=js }:Tv).bz i j).az j.2.so j.2.sn j.2.pl.sp.after) (g:j.2.sn<=j.2.sc) (r:Ec w' (({ T with jv:=jv,js:=js }:Tv).bz i j).az j.2.go j.2.gn j.2.pl.ak) (l:j.2.gn<=j.2.gc)
  (t:j.2.pl.sp.user.size<=maxLen) (m:j.2.pl.sp.part.size<=maxLen):D4 w T jv (js.set i j) w':=by
 have d:∀k,Gd x k->({ T with jv:=jv,js:=js }:Tv).az k:=λk c=>.inr (.inr (.inr (.inr ⟨x,Ai n,c.imp (λe=>e.symm) id⟩)));refine⟨An.bz (T:={ T with jv:=jv,js:=js }) h.at_ n o p a s f q g r l t m,λk c=>?_,h.oj (p.mono λk _ c=>d k c)⟩;rcases Sy (T:={ T with jv:=jv,js:=js }) n o c with c|c
 .exact h.az k c
 .rcases f k c with c|c
  .exact h.az k (d k (.inr c))
  .exact .inr (Ay h.mod.size c)
def Ayu (l:List (dm×List Int)) (p:dm×List Int):∀js:List Jb,E1 (l++[p]) js=Jk p.1 p.2 (E1 l js) p.1.array.toNat:=by
 induction l with
 | nil=>intro js;rfl
 | cons q l ih=>intro js;exact ih _
def Zm (s:dm) (a:List Int) (js:List Jb):∀n,(Jk s a js n).length=js.length+n
 | 0=>rfl
 | n+1=>by
  show(Jk s a js n++[_]).length=_;rw[Az,Zm s a js n];rfl
def Ayv {l:List Int} {x:Int} (h:x∈Lib.compact l):x∈l:=by
 unfold Lib.compact Lib.compactUpTo at h;obtain⟨k,a,rfl⟩:=A8.1 h;have a:=Xi.1 (Of.1 a).1;rw[getElem!_pos _ _ (by simpa using a)];simp
def Ayw {l:List Int} {x:Int} (h:x∈Ka l):x∈l:=by
 unfold Ka at h;exact Ug.1 h
def Ew (l:List Int):Int:=l.foldl (·+·) 0
def Zn (l:List Int) (a:Int):l.foldl (·+·) a=a+l.foldl (·+·) 0:=by
 induction l generalizing a with
 | nil=>simp
 | cons x l ih=>
  simp only[Xe];rw[ih,ih (0+x)];omega
def Adq (b:Int) (a:List Int) (h1:∀n,n∈a->1<=n):∀k:Nat,k<=a.length->Dy b a k=b+Ew (a.take k)
 | 0,_=>by simp[Dy,Ew]
 | k+1,hk=>by
  have d:=Adq b a h1 k ao9;show Dy b a k+(a[k]?).getD 0=_;have c:a[k]?=Z a[k]:=A4 _;rw[Je c,d,c];unfold Ew;rw[L8];simp;omega
def V8 (d:List Int) (h1:∀n,n∈d->1<=n) (k:Nat):Ew (d.take k)<=Ew d/\0<=Ew (d.take k):=by
 have e:∀l:List Int,(∀n,n∈l->1<=n)->0<=Ew l:=λl=>by
  induction l with
  | nil=>intro _;simp[Ew]
  | cons x l ih=>
   intro h;have h1:=ih λn f=>h n (Df _ f);have g:=h x D6;unfold Ew at h1 ⊢;rw[Xe,Zn];omega
 have a:=e (d.take k) λn f=>h1 n (Na f);have b:=e (d.drop k) λn f=>h1 n (List.mem_of_mem_drop f)
 have c:Ew d=Ew (d.take k)+Ew (d.drop k):=by
  conv=>lhs;rw[<-O9 k d]
  unfold Ew;rw[L8,Zn]
 omega
def Ayx {b:Int} {a:List Int} {r:List Int×List Int} {n:Int} (g:Gf b a.length n=false) (d:∀n,n∈a->1<=n) (h1:1<=b) (h:∀x,x∈r.2->1<=x/\x<b+Ew a) :
  ∀x,x∈(M3 b a r n).2->1<=x/\x<b+Ew a:=by
 intro x c;have f:=(V8 a d a.length).2;rw[Pg]at f;unfold Gf at g;simp at g;unfold M3 at c;split at c
 .rcases C4.1 c with c|c
  .exact h x c
  .have c:=Jy.1 c;omega
 .rcases C4.1 c with c|c
  .exact h x c
  .unfold Jt at c;obtain⟨j,e,rfl⟩:=A8.1 c;have e:=Xi.1 e;obtain⟨k,l⟩:∃k:Nat,k=(-1-n).toNat:=⟨_,rfl⟩;rw[<-l]at e ⊢;have m:k<a.length:=ao9;have i:a[k]?=Z a[k]:=A4 _;rw[i]at e;have o:=Adq b a d k ao9;have p:=Adq b a d (k+1) ao9;have q:Dy b a (k+1)=Dy b a k+a[k]:=(by show Dy b a k+(a[k]?).getD 0=_;rw[i];rfl);have s:=V8 a d k;have t:=V8 a d (k+1);simp at e;omega
def Alm {b:Int} {a l:List Int} (e:l.any (Gf b a.length)=false) (c:∀n,n∈a->1<=n) (h1:1<=b):∀j,j<=l.length->∀x,x∈(C1 b a l j).2->1<=x/\x<b+Ew a
 | 0,_=>λx d=>by simp[C1]at d
 | j+1,hj=>by
  have d:l[j]?=Z l[j]:=A4 _;have f:Gf b a.length l[j]=false:=by have:=List.any_eq_false.1 e l[j] (K4 _);simpa using this
  show ∀x,x∈(M3 b a (C1 b a l j) ((l[j]?).getD 0)).2->_;rw[d];exact Ayx f c h1 (Alm e c h1 j ao9)
def Adr {f:Int} {d:List Int} {after:List (List Int)} (h:(Gj f d after).2=0) :
  (Gj f d after).1.length=after.length/\1<=f/\after.length<=8/\(∀n,n∈d->1<=n/\n<=20)/\∀l,l∈(Gj f d after).1->(∀x,x∈l->1<=x/\x<f+Ew d)/\∃g,g∈after/\l.length<=20*g.length:=by
 have h0:=h;unfold Gj at h ⊢;split
 .rename_i c;rw[Ad c]at h;cases h
 rename_i o;rw[Ac o]at h;split
 .rename_i c;rw[Ad c]at h;cases h
 rename_i k;rw[Ac k]at h;split
 .rename_i c;rw[Ad c]at h;cases h
 rename_i m;rw[Ac m]at h;split
 .rename_i c;rw[Ad c]at h;cases h
 have i:∀n,n∈d->1<=n/\n<=20:=λn j=>by
  by_cases e:(decide (n<1) || decide (20<n))=true
  .exact absurd (K3.2 ⟨n,j,e⟩) k
  .simp at e;omega
 refine⟨as9,ao9,ao9,i,λl q=>?_⟩;obtain⟨g,h0,rfl⟩:=A8.1 q;have p:g.any (Gf f d.length)=false:=by rw[Gl];intro e;exact m (K3.2 ⟨g,h0,e⟩)
 refine⟨λx r=>Alm p (λn j=>(i n j).1) ao9 _ Ln x (Ayw (Ayv r)),g,h0,?_⟩;have a:=Lib.compact_length_le (Ka (C1 f d g g.length).2);rw[Zi]at a;have b:=(Zk f d g (λn j=>(i n j).2) g.length).2;unfold Kc;omega
end
section
open Go.RowKit Go.Maps Go.Lib
structure V9 (vs:List ax) (s:dm) (g:List Int):Prop where
 xf:∀x,x∈g->x∈C6 vs s.part
 bj:g.Pairwise (·<·)
 len:(g.length:Int)=s.nodes
structure Fn (vs:List ax) (n k:Nat) (j:Jb):Prop where
 id:j.id=(k:Int)+1
 gp:Dv { j.sp with after:=[] } vs=0
 one:j.sp.array=1
 j5:∀x,x∈j.sp.after->1<=x/\x<=(n:Int)
 um:j.sp.after.length<=160
 ij:Fm j.lf j.sp.ae
 low:-1<=j.start
 xg:j.start<0->j.ak=[]
 ak:0<=j.start->V9 vs j.sp j.ak/\Lg j<=1099511627776
 live:dp j.lf.st=true↔j.parts≠[]
 run:dp j.lf.st=true->0<=j.start
 yz:j.lf.st=2->j.start<0
 ends:5<=j.lf.st->j.lf.st<=7->0<=j.start
 pg:j.parts≠[]->j.parts.map Prod.fst=j.ak
 ue:∀p,p∈j.parts->0<=p.2/\p.2<=3
structure Ij (vs:List ax) (n k:Nat) (j:Jb):Prop extends Fn vs n k j where
 zt:j.parts≠[]->j.open_=true
def Gk (vs:List ax) (js:List Jb):Prop:=∀k j,js[k]?=Z j->Fn vs js.length k j
def Dq (vs:List ax) (js:List Jb):Prop:=∀k j,js[k]?=Z j->Ij vs js.length k j
variable {vs:List ax} {n k:Nat} {j:Jb} {js:List Jb}
def Dq.b (h:Dq vs js):Gk vs js:=λk j a=>(h k j a).toFn
def Gk.j5 (h:Gk vs js):Ed js:=λj b d a=>by
 obtain⟨k,c⟩:=Dn b;exact(h k j c).j5 d a
def Fn.more (h:Fn vs n k j) {m:Nat} (b:n<=m):Fn vs m k j:=⟨h.id,h.gp,h.one,λx a=>by have:=h.j5 x a;omega,h.um,h.ij,h.low,h.xg,h.ak,h.live,h.run,h.yz,h.ends,h.pg,h.ue⟩
def Fn.idle (h:Fn vs n k j) (a:dp j.lf.st=false):j.parts=[]:=by
 by_cases e:j.parts=[]
 .exact e
 .rw [h.live.2 e]at a;cases a
def Wa (h:Fn vs n k j) {l:Lf} (f:Fm l j.sp.ae) (g:l.st=1\/l.st=2\/l.st=8) (e:List (Int×Int)) (d:e=[]):Ij vs n k ⟨j.id,j.sp,l,-1,[],e⟩:=by
 subst d;refine⟨⟨h.id,h.gp,h.one,h.j5,h.um,f,as9,λ_=>rfl,λc=>absurd c as9,?_,λc=>?_,λ_=>by simp,λa b=>?_,λc=>absurd rfl c,λp d=>by simp at d⟩,λc=>absurd rfl c⟩
 .show dp l.st=true↔([]:List (Int×Int))≠[];rw[Mo];simp;omega
 .have:=Mo.1 c;simp only at this;omega
 .simp only at a b;omega
def Ayy {s:Int} (h:Ij vs n k j) (h0:(A3 j.lf s).2=0) (m:s=6\/s=1\/s=2):Ij vs n k (Lq s j):=by
 obtain⟨f,l⟩:=Ax9 h.ij h0 m;unfold Lq;rcases l with⟨h1,d⟩|⟨h1,d,g,i⟩
 .have e:dp (j.move s).lf.st=true:=by show dp (A3 j.lf s).1.st=true;rw[d];rfl
  rw[Ad e]
  exact⟨⟨h.id,h.gp,h.one,h.j5,h.um,f,h.low,h.xg,h.ak,⟨λ_=>h.live.1 h1,λ_=>e⟩,λ_=>h.run h1,λc=>by
   have c:(A3 j.lf s).1.st=2:=c
   omega,λa b=>by
   have a:5<=(A3 j.lf s).1.st:=a
   omega,h.pg,h.ue⟩,h.zt⟩
 .rw [Ac (by show ¬dp (A3 j.lf s).1.st=true;rw[g];simp)];exact Wa h.toFn f i j.parts (h.idle h1)
def Dq.mod (h:Dq vs js) {i:Nat} {f:Jb->Jb} (b:∀j,js[i]?=Z j->Ij vs js.length i (f j)):Dq vs (js.modify i f):=λk j a=>by
 rw[Kh];rw[Fp]at a
 cases hk:js[k]? with
 | none=>
  rw[hk]at a;have a:(I:Option Jb)=Z j:=a;cases a
 | some y=>
  rw[hk]at a;have a:Z (if i=k then f y else y)=Z j:=a;split at a
  .rename_i e;subst e;injection a with a;rw[<-a];simpa using b y hk
  .injection a with a;subst a;exact h k y hk
def Gk.mod (h:Gk vs js) {i:Nat} {f:Jb->Jb} (b:∀j,js[i]?=Z j->Fn vs js.length i (f j)):Gk vs (js.modify i f):=λk j a=>by
 rw[Kh];rw[Fp]at a
 cases hk:js[k]? with
 | none=>
  rw[hk]at a;have a:(I:Option Jb)=Z j:=a;cases a
 | some y=>
  rw[hk]at a;have a:Z (if i=k then f y else y)=Z j:=a;split at a
  .rename_i e;subst e;injection a with a;rw[<-a];simpa using b y hk
  .injection a with a;subst a;exact h k y hk
def Ads (h:Dq vs js):Dq vs (Dp js):=by
 refine Ah3 (P:=Dq vs) (λjs k h f=>?_) h;have c:=f;unfold Gs;rw[Ad f];refine h.mod λj g=>?_;unfold Gr at c;rw[g]at c;have i:el j.lf.st=true:=(Eh _ _▸c).1;have d:=(h k j g).toFn;obtain⟨a,b⟩:=Alb d.ij i (.inr rfl);exact Wa d a (.inr (.inr b)) j.parts (d.idle (by rcases Ns.1 i with e|e<;>rw[e]<;>rfl))
def Ayz (h:Fn vs n k j):Ij vs n k (Eb j):=by
 unfold Eb;split
 .rename_i c;refine⟨h,λe=>?_⟩;rcases c with c|c
  .exact absurd c e
  .exact c
 .rename_i c;have d:j.parts≠[]:=λe=>c (.inl e);have f:=h.live.2 d;obtain⟨a,b⟩:=Ax8 h.ij f;split
  .rename_i e;exact Wa h a (.inl e) [] rfl
  .rename_i e;rcases b with b|⟨i,l⟩
   .exact absurd b e
   .have g:dp (A3 j.lf 8).1.st=false:=(by rw[Gl];intro c;rw[Mo]at c;omega);refine⟨⟨h.id,h.gp,h.one,h.j5,h.um,a,h.low,h.xg,h.ak,⟨λc=>?_,λc=>absurd rfl c⟩,λc=>?_,λc=>?_,λ_ _=>h.run f,λc=>absurd rfl c,λp d=>by simp at d⟩,λc=>absurd rfl c⟩
    .have c:dp (A3 j.lf 8).1.st=true:=c;rw[g]at c;cases c
    .have c:dp (A3 j.lf 8).1.st=true:=c;rw[g]at c;cases c
    .have c:(A3 j.lf 8).1.st=2:=c;omega
def Adt (h:Gk vs js):Dq vs (Ia js):=by
 unfold Ia;refine Ads λk j a=>?_;rw[Ar];rw[Bg]at a;obtain⟨y,b,rfl⟩:=Oa.1 a;exact Ayz (h k y b)
def Aln (h:Fn vs n k j) {i:Nat} {p:Int×Int} (v:j.parts[i]?=Z p) {g:Int} (h1:0<=g) (x:g<=3):Fn vs n k (Fw j i g):=by
 have m:j.parts≠[]:=λe=>by rw[e]at v;simp at v
 have t:=h.live.2 m
 have y:(j.parts.modify i λp=>(p.1,g)).map Prod.fst=j.parts.map Prod.fst:=by
  apply Eg;intro q;simp only[Bg,Fp]
  cases j.parts[q]? with
  | none=>rfl
  | some u=>
   simp only[Kj]
   split<;>rfl
 have s:(j.parts.modify i λp=>(p.1,g))≠[]:=λe=>m (by
  have:=Cd List.length e;rw[Kh]at this
  exact Gb.1 this)
 have o:∀l:Lf,Fm l j.sp.ae->dp l.st=true->Fn vs n k ⟨j.id,j.sp,l,j.start,j.ak,j.parts.modify i λp=>(p.1,g)⟩:=λl a b=>by
  refine⟨h.id,h.gp,h.one,h.j5,h.um,a,h.low,h.xg,h.ak,⟨λ_=>s,λ_=>b⟩,λ_=>h.run t,λc=>?_,λc d=>?_,λ_=>y.trans (h.pg m),λq z=>?_⟩
  .have c:l.st=2:=c;have:=Mo.1 b;omega
  .have c:5<=l.st:=c;have:=Mo.1 b;omega
  .obtain ⟨r,f⟩:=Dn z;rw[Fp]at f
   cases hu:j.parts[r]? with
   | none=>
    rw[hu]at f;have f:(I:Option (Int×Int))=Z q:=f;cases f
   | some u=>
    rw[hu]at f;have f:Z (if i=r then(u.1,g)else u)=Z q:=f;split at f
    .injection f with f;subst f;exact⟨h1,x⟩
    .injection f with f;subst f;exact h.ue u (Ai hu)
 unfold Fw Q4;split
 .obtain ⟨a,b,_⟩:=Adn h.ij t (.inl rfl);exact o _ a (by rw[b];rfl)
 split
 .obtain ⟨a,b,_⟩:=Adn h.ij t (.inr (.inl rfl));exact o _ a (by rw[b];rfl)
 .exact o _ h.ij t
def Ay0 {j:Jb} {a m:Int} {i:Nat} (h:Gt j a m=Z i):∃p,j.parts[i]?=Z p/\p.1=m/\p.2=0:=by
 unfold Gt at h;split at h
 .obtain ⟨c,b,_⟩:=Aaa.1 h;simp at b;exact⟨_,A4 c,b.1,b.2⟩
 .cases h
def Ay1 {e:dh} (h:Fn vs n k j) (h1:0<=e.br) (a:e.br<=3):Fn vs n k (Lr e j):=by
 unfold Lr;split
 .exact h
 .rename_i i b;obtain⟨p,c,_⟩:=Ay0 b;exact Aln h c h1 a
def Alo (a:Int) (m:Nat) (h:Fn vs n k j):Fn vs n k (Jh j a m):=by
 induction m with
 | zero=>exact h
 | succ m ih=>
  show Fn vs n k (Pr (Jh j a m) m a);unfold Pr;split
  .exact ih
  .rename_i p b;split
   .exact Aln ih b ad9 ad9
   .exact ih
def Gk.map (_h:Gk vs js) {f:Jb->Jb} (b:∀k j,js[k]?=Z j->Fn vs js.length k (f j)):Gk vs (js.map f):=λk j a=>by
 rw[Ar];rw[Bg]at a;obtain⟨y,c,rfl⟩:=Oa.1 a;exact b k y c
def Alp (h:Dq vs js) (tick:Int):Dq vs (Dd tick js):=by
 unfold Dd;refine Adt (h.b.map λk j a=>?_);unfold I0;split
 .exact Alo _ _ (h k j a).toFn
 .exact (h k j a).toFn
def Ay2 (h:Dq vs js) (m:Int):Dq vs (Ia (js.map λj=>Fx j m)):=Adt (h.b.map λk j a=>Alo _ _ (h k j a).toFn)
def Ay3 {s:dm} (h:Dv s vs=0):Dv { s with array:=1,after:=[] } vs=0:=by
 have b:=I5 h;have a:Ct { s with array:=1,after:=[] }=true:=by obtain⟨a1,a2,a3,g,c,d,e,i,f⟩:=Fy b;unfold Ct;simp only[a1,a2,a3,c,d,e,f,Bool.true_and,Bool.and_true];decide
 unfold Dv at h ⊢;rw[Ac (by rw[b];simp)]at h;rw[Ac (by rw[a];simp)];exact h
def Ay4 {s:dm} (h:Dv s vs=0) (l:List Int) (f:∀x,x∈l->1<=x/\x<=(n:Int)) (g:l.length<=160):Ij vs n k (Oq s l ((k:Int)+1)):=by
 obtain⟨_,_,_,_,_,_,_,_,e⟩:=Fy (I5 h);obtain⟨j,m⟩:=C7.1 e;obtain⟨a,b⟩:=Ax4 (h:=s.held) j m;have o:=Ns.1 b;refine⟨⟨rfl,Ay3 (s:=s) h,rfl,f,g,a,by simp[Oq],λ_=>rfl,λc=>absurd c (by simp[Oq]),⟨λc=>?_,λc=>absurd rfl c⟩,λc=>?_,λ_=>by simp[Oq],λc d=>?_,λc=>absurd rfl c,λp i=>by simp[Oq]at i⟩,λc=>absurd rfl c⟩
 .have c:dp (Kl s.ae s.held).1.st=true:=c;rw[Mo]at c;omega
 .have c:dp (Kl s.ae s.held).1.st=true:=c;rw[Mo]at c;omega
 .have c:5<=(Kl s.ae s.held).1.st:=c;omega
def Wb (vs:List ax) (n:Nat) (js:List Jb):Prop:=∀k j,js[k]?=Z j->Ij vs n k j
def Ij.more (h:Ij vs n k j) {m:Nat} (a:n<=m):Ij vs m k j:=⟨h.toFn.more a,h.zt⟩
def Alq {s:dm} (h:Dv s vs=0) (l:List Int) (f:∀x,x∈l->1<=x/\x<=(n:Int)) (g:l.length<=160) (d:Wb vs n js):∀q,Wb vs n (Jk s l js q)
 | 0=>d
 | q+1=>λk j a=>by
  have o:=Alq h l f g d q;replace a:(Jk s l js q++[Oq s l ((js.length+q+1:Nat):Int)])[k]?=Z j:=a;rw[List.getElem?_append]at a;split at a
  .exact o k j a
  .rename_i c;rw[Zm]at c a
   cases e:k-(js.length+q)with
   | zero=>
    rw[e]at a;have b:Oq s l ((js.length+q+1:Nat):Int)=j:=by simpa using a
    have:k=js.length+q:=ao9
    clear a;subst this;subst b;have:=Ay4 (n:=n) (k:=js.length+q) h l f g;have i:((js.length+q+1:Nat):Int)=((js.length+q:Nat):Int)+1:=(by push_cast;rfl);rw[i];exact this
   | succ m=>
    rw[e]at a;simp at a
def Alr:∀(l:List (dm×List Int)),(∀p,p∈l->Dv p.1 vs=0/\(∀x,x∈p.2->1<=x/\x<=(n:Int))/\p.2.length<=160)->∀js,Wb vs n js->Wb vs n (E1 l js)
 | [],_,_,h=>h
 | p :: l,hp,js,h=>by
  obtain⟨a,b,c⟩:=hp p D6;exact Alr l (λq d=>hp q (Df _ d)) _ (Alq a p.2 b c h _)
def Adu:∀(l:List (dm×List Int)),(∀p,p∈l->1<=p.1.array)->∀js:List Jb,((E1 l js).length:Int)=(js.length:Int)+Ew (l.map λp=>p.1.array)
 | [],_,js=>by simp[E1,Ew]
 | p :: l,hp,js=>by
  have h1:=Adu l (λq a=>hp q (Df _ a)) (Jk p.1 p.2 js p.1.array.toNat);have b:=hp p D6;show((E1 l (Jk p.1 p.2 js p.1.array.toNat)).length:Int)=_;rw[h1,Zm];have e:Ew ((p :: l).map λp=>p.1.array)=p.1.array+Ew (l.map λp=>p.1.array):=by unfold Ew;rw[It,Xe,Zn];omega
  rw[e];omega
def Adv {n:Nat} {l:List dm} (h:(B9 vs n l).2=0):(∀s,s∈l->Dv s vs=0)/\(n:Int)+Id l<=100/\B9 vs n l=Gj ((n:Int)+1) (l.map λs=>s.array) (l.map λs=>s.after):=by
 unfold B9 at h ⊢
 cases hf:l.find? λs=>decide (Dv s vs≠0)with
 | some s=>
  rw[hf]at h;have:=Uk hf;simp at this;exact absurd h this
 | none=>
  rw[hf]at h;simp only at h ⊢;refine⟨λs a=>?_,?_⟩
  .have:=R4.1 hf s a;simpa using this
  .split
   .rename_i c;rw[Ad c]at h;cases h
   .exact ⟨ao9,rfl⟩
def Wc (l:List dm):Id l=Ew (l.map λs=>s.array):=rfl
def Adw {α β:Type}:∀ {l:List α} {m:List β},l.length=m.length->(l.zip m).map Prod.fst=l
 | [],[],_=>rfl
 | [],_ :: _,h=>by simp at h
 | _ :: _,[],h=>by simp at h
 | a :: l,b :: m,h=>by
  simp only[List.zip_cons_cons,It];rw[Adw (by simpa using h)]
def Als {t:du} {l:List dm} (h:Dq vs t.ab) (h0:(B9 vs t.ab.length l).2=0):Dq vs (M5 vs t l).1.ab/\(M5 vs t l).1.ab.length<=100:=by
 obtain⟨h1,h2,o⟩:=Adv h0;rw[o]at h0;obtain⟨r1,r2,r3,u,r5⟩:=Adr h0;rw[Ar]at r1 r3;have f:=Adu (l.zip (B9 vs t.ab.length l).1) (λp q=>(u p.1.array (A8.2 ⟨p.1,(Aay q).1,rfl⟩)).1) t.ab
 have r:(l.zip (B9 vs t.ab.length l).1).map (λp=>p.1.array)=l.map λs=>s.array:=by
  rw[o];have:=Adw (l:=l) (m:=(Gj ((t.ab.length:Int)+1) (l.map λs=>s.array) (l.map λs=>s.after)).1) ao9
  conv=>rhs;rw[<-this]
  rw[Dg];rfl
 rw[r,<-Wc]at f;obtain⟨X,g⟩:=Ex (E1 (l.zip (B9 vs t.ab.length l).1) t.ab);rw[<-g]at f
 have i:Wb vs X.length X:=by
  rw[g];refine Alr _ (λp q=>?_) _ (λk j v=>?_)
  .obtain ⟨a,b⟩:=Aay q;rw[o]at b;obtain⟨c,l0,d,e⟩:=r5 p.2 b;refine⟨h1 p.1 a,λx hx=>?_,?_⟩
   .have:=c x hx;rw[<-Wc]at this;rw[<-g];omega
   .obtain ⟨s,z,rfl⟩:=A8.1 d;obtain⟨_,_,_,q4,_⟩:=Fy (I5 (h1 s z));have:=Sw q4;omega
  .refine (h k j v).more ?_;rw[<-g]
   have:0<=Id l:=by
    rw[Wc];have:=(V8 (l.map λs=>s.array) (λn y=>(u n y).1) (l.map λs=>s.array).length).2
    rwa [Pg]at this
   omega
 refine⟨?_,?_⟩
 .show Dq vs (Dp (E1 (l.zip (B9 vs t.ab.length l).1) t.ab));rw[<-g];exact Ads i
 .show (Dp (E1 (l.zip (B9 vs t.ab.length l).1) t.ab)).length<=100;rw[<-g,Ve];omega
end
section
open Go.RowKit Go.Maps Go.Lib
variable {vs:List ax} {n k:Nat} {j:Jb} {js:List Jb}
def Az3 (d:List V4) (c:Int) (e:List Bool) (f:List Pl.Ax) (a:List Pl.Ask):Oz d c e f a=[]\/∃b,Pl.Ly d c e f a b/\Oz d c e f a=b.map Pl.A2.key:=by
 unfold Oz;split
 .rename_i h;exact .inr ⟨h.choose,h.choose_spec,rfl⟩
 .exact .inl rfl
def Z0 (h:Gk vs js) {k:Nat} {j:Jb} (a:js[k]?=Z j):F5 js j.id=j:=by
 unfold F5;rw[(h k j a).id,show((k:Int)+1-1).toNat=k by omega,a];rfl
def Amc (h:Gk vs js):(js.map Jb.id).Nodup:=by
 refine O7.2 λa b c d e=>?_;rw[Ar]at c d;rw[List.getElem_map,List.getElem_map,(h a _ (A4 c)).id,(h b _ (A4 d)).id];omega
def Z1 (_h:Gk vs js) {i:Nat} (h:i<(Bx js).length):∃(k:Nat) (j:Jb),js[k]?=Z j/\J2 js j=true/\A7 (Bx js) i=⟨j.id,j.sp.user,j.sp.prio,Kr j⟩:=by
 have g:(Bx js)[i]?=Z (Bx js)[i]:=A4 _;have c:(Bx js)[i]∈Bx js:=K4 _;unfold Bx at c;obtain⟨j,d,e⟩:=A8.1 c;obtain⟨a,b⟩:=Of.1 d;obtain⟨k,f⟩:=Dn a;refine⟨k,j,f,b,?_⟩;unfold A7;rw[g];exact e.symm
def Az4 (h:Gk vs js) {a:Pl.Ask} (b:a∈Fc vs js):∃(k:Nat) (j:Jb),js[k]?=Z j/\J2 js j=true/\a=F8 vs j:=by
 unfold Fc at b;obtain⟨i,d,rfl⟩:=A8.1 b;obtain⟨k,j,c,f,e⟩:=Z1 h (Zz _ _ _ d);exact⟨k,j,c,f,by rw[e,Z0 h c]⟩
def Az5 (h:Gk vs js):((Fc vs js).map λa=>a.id).Nodup:=by
 unfold Fc;rw[Dg];refine List.pairwise_map.2 ?_;refine List.Pairwise.imp_of_mem (fun {x y} hx hy hne=>?_) (Az2 (Ea vs ByteArray.empty) (Dx js) (Bx js));have b:=Zz _ _ _ hx;have d:=Zz _ _ _ hy;obtain⟨p,n,g,_,j⟩:=Z1 h b;obtain⟨q,o,i,_,k⟩:=Z1 h d;show(F8 vs (F5 js (A7 (Bx js) x).id)).id≠(F8 vs (F5 js (A7 (Bx js) y).id)).id;rw[j,k,Z0 h g,Z0 h i];show n.id≠o.id;have f:((Bx js).map dj.id).Nodup:=by unfold Bx;rw[Dg];exact(Amc h).sublist ((Aam).map Jb.id)
 have l:((Bx js).map dj.id)[x]?=Z n.id:=by
  rw[Bg,A4 b]
  have:A7 (Bx js) x=(Bx js)[x]:=by unfold A7;rw[A4 b];rfl
  rw[<-this,j];rfl
 have m:((Bx js).map dj.id)[y]?=Z o.id:=by
  rw[Bg,A4 d]
  have:A7 (Bx js) y=(Bx js)[y]:=by unfold A7;rw[A4 d];rfl
  rw[<-this,k];rfl
 intro e;rcases R3 hne with c|c
 .exact F1 f l m c e
 .exact F1 f m l c e.symm
def Adz (vs:List ax) (tick:Int) (s:dm) (x:Int×Int×List Int):Prop:=(x.2.1=-1/\x.2.2=[])\/(tick<=x.2.1/\V9 vs s x.2.2/\x.2.1+8+s.wall<=1099511627776)
def Az6 {n:List Bool} {zs:List Int} (h:Pl.N0 n (F8 vs j) zs):V9 vs j.sp zs:=by
 have e:∀i,i<zs.length->∀d,zs[i]?=Z d->Pl.zi zs i=d:=λi f d r=>by
  simp[Pl.zi,List.getD,r]
 refine⟨λx t=>?_,?_,h.len⟩
 .obtain ⟨i,f⟩:=Dn t;have m:=(Aq.1 f).1;have g:=h.xf i m;rw[e i m x f]at g;unfold Pl.Bo Pl.oq Pl.Nz at g;obtain⟨q,s,rfl⟩:=A8.1 g;have:=(Of.1 s).2;unfold Pl.Rh at this;simp at this;exact this.2
 .have k:∀d a,a+d+1<zs.length->Pl.zi zs a<Pl.zi zs (a+d+1):=λd=>by
   induction d with
   | zero=>intro a c;exact h.bj a c
   | succ d ih=>
    intro a c;have h1:=ih a ao9;have o:=h.bj (a+d+1) ao9;exact Int.lt_trans h1 o
  refine O7.2 λa b c l p=>?_;have:=k (b-a-1) a ao9;rw[show a+(b-a-1)+1=b by omega]at this;rw[e a c _ (A4 c),e b l _ (A4 l)]at this;exact this
def Amd (h:Gk vs js) (tick:Int) (l:List Bool):((Kv vs tick l js).map Prod.fst).Nodup/\∀x,x∈Kv vs tick l js->∃(k:Nat) (j:Jb),js[k]?=Z j/\x.1=(k:Int)+1/\J2 js j=true/\Adz vs tick j.sp x:=by
 unfold Kv;rcases Az3 (vs.map ax.cap) tick l ((Ie js).map M0) (Fc vs js)with e|⟨b,z,e⟩
 .rw [e];exact⟨List.nodup_nil,λx n=>by simp at n⟩
 .rw [e];have g:=Pl.Akh z;have q:=g.len
  have r:∀i s,b[i]?=Z s->∃a,(Fc vs js)[i]?=Z a/\Pl.Tp (vs.map ax.cap) tick l a s:=λi s c=>by
   have hl:=(Aq.1 c).1;have d:(Fc vs js)[i]?=Z ((Fc vs js)[i]'(by omega)):=A4 _;refine⟨_,d,g.slot (_,s) ?_⟩;refine Ai (i:=i) ?_;rw[List.getElem?_zip_eq_some];exact⟨d,c⟩
  have f:(b.map Pl.A2.key).map Prod.fst=(Fc vs js).map λa=>a.id:=by
   apply Eg;intro i;simp only[Bg]
   cases c:b[i]? with
   | none=>
    have:(Fc vs js)[i]?=I:=by rw[List.getElem?_eq_none_iff]at c ⊢;omega
    rw[this];rfl
   | some s=>
    obtain⟨a,d,m⟩:=r i s c;rw[d];simp only[Kj];exact Cd Z m.1
  rw[f];refine⟨Az5 h,λx n=>?_⟩;obtain⟨s,c,rfl⟩:=A8.1 n;obtain⟨i,y⟩:=Dn c;obtain⟨a,d,m⟩:=r i s y;obtain⟨k,j,p,hr,rfl⟩:=Az4 h (Ai d);refine⟨k,j,p,?_,hr,?_⟩
  .show s.id=_;rw[m.1];exact(h k j p).id
  .rcases m.2 with⟨a1,a2⟩|⟨_,t,_,u,_,v⟩
   .exact .inl ⟨a1,a2⟩
   .refine .inr ⟨t,Az6 u,?_⟩;obtain⟨_,_,o,_⟩:=Pl.P4 v;have o:s.start+(j.sp.wall+8)<=1099511627776:=o;show s.start+8+j.sp.wall<=_;omega
def Az7 (h:Ij vs n k j) (h1:j.lf.st=1) {tick:Int} (y:0<=tick) {x:Int×Int×List Int} (s:Adz vs tick j.sp x):Ij vs n k (Ls tick x.2.1 x.2.2 j):=by
 obtain⟨id,st,zs⟩:=x;have f:=h.toFn.idle (by rw[h1];rfl);have o:¬dp j.lf.st=true:=by rw[h1];decide
 unfold Ls;split
 .rename_i e;have e:st=tick:=e;rcases s with⟨a,_⟩|⟨a,b,c⟩
  .have a:st=-1:=a;omega
  .have b:V9 vs j.sp zs:=b;have c:st+8+j.sp.wall<=1099511627776:=c;obtain⟨u,v⟩:=Ax7 h.ij h1;have t:=I5 h.gp;obtain⟨_,_,_,_,l,_⟩:=Fy t;have l:=(C7.1 l).1;have l:1<=j.sp.nodes:=l;have r:=b.len;have m:dp (A3 j.lf 3).1.st=true:=by rw[v];rfl
   have g:zs≠[]:=λe=>by rw[e]at r;simp at r;omega
   have i:j.parts++zs.map (λn=>(n,(0:Int)))≠[]:=(by rw[f];simpa using g);refine⟨⟨h.id,h.gp,h.one,h.j5,h.um,u,by show -1<=st;omega,λq=>?_,λ_=>⟨b,c⟩,⟨λ_=>i,λ_=>m⟩,λ_=>by show 0<=st;omega,λq=>?_,λq=>?_,λ_=>?_,λp d=>?_⟩,λ_=>?_⟩
   .have q:st<0:=q;omega
   .have q:(A3 j.lf 3).1.st=2:=q;omega
   .have q:5<=(A3 j.lf 3).1.st:=q;omega
   .show (j.parts++zs.map λn=>(n,(0:Int))).map Prod.fst=zs;rw[f];simp[Ip]
   .have d:p∈j.parts++zs.map (λn=>(n,(0:Int))):=d;rw[f]at d;simp at d;obtain⟨a,_,rfl⟩:=d;simp
   .show (j.parts++zs.map λn=>(n,(0:Int))).any (λp=>decide (p.2=0))=true;rw[f]
    cases zs with
    | nil=>exact absurd rfl g
    | cons z zs=>simp
 .rcases s with⟨a,b⟩|⟨a,b,c⟩
  .have a:st=-1:=a;have b:zs=[]:=b;subst a b;exact Wa h.toFn h.ij (.inl h1) j.parts f
  .have a:tick<=st:=a;have b:V9 vs j.sp zs:=b;have c:st+8+j.sp.wall<=1099511627776:=c;refine⟨⟨h.id,h.gp,h.one,h.j5,h.um,h.ij,by show -1<=st;omega,λq=>?_,λ_=>⟨b,c⟩,h.live,λq=>absurd q o,λq=>?_,λq=>?_,λq=>absurd f q,h.ue⟩,h.zt⟩
   .have q:st<0:=q;omega
   .have q:j.lf.st=2:=q;omega
   .have q:5<=j.lf.st:=q;omega
def Ame {tick:Int} (m:0<=tick):∀(l:List (Int×Int×List Int)) (js:List Jb),(l.map Prod.fst).Nodup->(∀x,x∈l->∃(k:Nat) (j:Jb),js[k]?=Z j/\x.1=(k:Int)+1/\j.lf.st=1/\Adz vs tick j.sp x)->Dq vs js->Dq vs (Jl tick l js)
 | [],_,_,_,h=>h
 | x :: l,js,hn,hx,h=>by
  obtain⟨k,j,i,e,h1,r⟩:=hx x D6;have b:=List.nodup_cons.1 hn;have q:(x.1-1).toNat=k:=ao9
  show Dq vs (Jl tick l (Et js x.1 (Ls tick x.2.1 x.2.2)));unfold Et;rw[q];refine Ame m l _ b.2 (λy n=>?_) (h.mod λd a=>?_)
  .obtain ⟨o,d,a,p,f,g⟩:=hx y (Df _ n);refine⟨o,d,?_,p,f,g⟩;rw[Fp,a];show Z (if k=o then _ else d)=Z d;rw[Ac];intro c;apply b.1
   have:x.1=y.1:=ao9
   rw[this];exact Kg n
  .rw [i]at a;injection a with a;subst a;exact Az7 (h k j i) h1 m r
def Az8 (h:Ij vs n k j):Ij vs n k (I1 j):=by
 unfold I1;split
 .rename_i e;exact Wa h.toFn h.ij (.inl e) j.parts (h.toFn.idle (by rw[e];rfl))
 .exact h
def Az9 (h:Dq vs js) {tick:Int} (i:0<=tick) (f:List Bool):Dq vs (P5 vs tick f js):=by
 obtain⟨a,b⟩:=Amd h.b tick f;unfold P5;refine Ame i _ _ a (λx l=>?_) (λk j c=>?_)
 .obtain ⟨k,j,c,e,d,g⟩:=b x l;have h1:j.lf.st=1:=by unfold J2 at d;simp at d;exact d.1
  refine⟨k,I1 j,by rw[Bg,c];rfl,e,?_,?_⟩
  .unfold I1;rw[Ad h1];exact h1
  .unfold I1;rw[Ad h1];exact g
 .rw [Ar];rw[Bg]at c;obtain⟨y,m,rfl⟩:=Oa.1 c;exact Az8 (h k y m)
end
section
open Go.RowKit Go.Maps Go.Lib
def Amf (bh:List V4) (now:Int) (bs:List Bool) (hs:List Pl.Ax) (asks:List Pl.Ask):Prop:=(∃r,r≠0/\Pl.Jn bh bs.length now hs r [])\/∃slots,Pl.Ly bh now bs hs asks slots
def A0a (bh:List V4) (now:Int) (bs:List Bool) (hs:List Pl.Ax) (asks:List Pl.Ask) (w:WD) (e:Ending) (w':WD):Prop:=
 ∃so n sc r slots,e=K (E #[J so n sc,G O r])/\n=slots.length/\slots.map Pl.A2.key=Oz bh now bs (hs.map Pl.Ax.er) (asks.map Pl.Ask.er)/\Pl.Vl w' so n slots/\(∀s,s∈slots->∀b off,s.go=Z ⟨b,off,I⟩->w.heap.size<=b)/\BW w.heap.size w w'/\(∀b off,so=Z ⟨b,off,I⟩->w.heap.size<=b)/\Amf bh now bs (hs.map Pl.Ax.er) (asks.map Pl.Ask.er)
def A0b {l:List V4} {c:Int} {m:List Bool} {f:List Pl.Ax} {a:List Pl.Ask} {w w':WD} {e:Ending} (h:Pl.Aj3 l c m f a w e w'):A0a l c m f a w e w':=by
 obtain⟨n,⟨r,o,rfl,d⟩|⟨so,sc,b,rfl,g,j,_,k,p⟩⟩:=h
 .refine ⟨I,0,0,r,[],rfl,rfl,(Awz (a.map Pl.Ask.er) d o).symm,⟨rfl,ao9,λi x q=>by simp at q⟩,λs f=>by simp at f,n,λ_ _ e=>(by cases e),.inl ⟨r,o,Pl.Ac9 d⟩⟩
 .have d:=(Pl.Akh g).len;exact⟨so,a.length,sc,0,b,rfl,d.symm,(Akq g).symm,j,p,n,k,.inr ⟨_,Pl.Akp g⟩⟩
structure se (w:WD) (av:VL) (al:List Pl.Ask) (wr:WD):Prop where
 low:BW w.heap.size w wr
 og:Bf Pl.Ask.cells 10 266 wr w.heap.size av al
 ue:∀a,a∈al->Al wr w.heap.size (J a.po a.pn a.pc) a.ib
 tf:∀a,a∈al->Pl.Ap w a.go a.gn a.eh/\a.gn<=a.gc
variable {w wr w1 w2:WD} {av:VL} {al:List Pl.Ask}
def se.drop (h:se w av al wr) (a:BW wr.heap.size wr w1):se w av al w1:=
 ⟨h.low.trans (a.mono h.low.size),h.og.low a,λx b=>(h.ue x b).mod (Mod.ag (S:=λ_=>False) a) (λ_ _ c=>c),h.tf⟩
def se.add (h:se w av al wr) (j:BW wr.heap.size wr w1) (i:w1.grownBy w2 av.ownBlock) {b:VL} {x:Pl.Ask} (n:Bf Pl.Ask.cells 10 266 w2 w.heap.size b (al++[x])) (o:Al w1 w.heap.size (J x.po x.pn x.pc) x.ib) (g:Pl.Ap w x.go x.gn x.eh/\x.gn<=x.gc):se w b (al++[x]) w2:=by
 have h1:=h.drop j;have m:=Mod.grown (S:=λk=>av.ownBlock=Z k) i (λk d=>d);refine⟨h1.low.grown i h1.low.size (λk d=>(h1.og.lt k d).1),n,λy a=>?_,λy a=>?_⟩
 .have f:Al w1 w.heap.size (J y.po y.pn y.pc) y.ib:=by
   rcases C4.1 a with a|a
   .exact h1.ue y a
   .rw [Jy.1 a];exact o
  refine f.mod m (λk d e=>?_);obtain⟨c,l⟩:=h1.og.aw e;exact Bq f.row l ad9 d
 .rcases C4.1 a with a|a
  .exact h.tf y a
  .rw [Jy.1 a];exact g
end
section
open Go.RowKit Go.Maps Go.Lib
def A0n:(prog.info? 275).map (λi=>(i.zero,i.size,i.bytes))=Z (Z (.agg #[G O 0,Y ByteArray.empty,G O 0,G O 0,G O 0,G O 0,G O 0]),7,64):=by kernel_rfl
def A0o:(prog.info? 266).map (λi=>(i.zero,i.size,i.bytes))=Z (Z (.agg #[G O 0,J I 0 0,G O 0,G O 0,G O 0,G O 0,G O 0,G O 0,G O 0,J I 0 0]),10,112):=by kernel_rfl
def L3 (js:List Jb) (k:Nat):List dj:=((js.take k).filter λj=>J2 js j).map λj=>⟨j.id,j.sp.user,j.sp.prio,Kr j⟩
def A0p {js:List Jb} {k:Nat} {j:Jb} (h:js[k]?=Z j):L3 js (k+1)=L3 js k++if J2 js j=true then[⟨j.id,j.sp.user,j.sp.prio,Kr j⟩]else[]:=by
 unfold L3;rw[Je h,Pc,C2];congr 1
 by_cases q:J2 js j=true<;>simp[q]
def Ad0 {js:List Jb} {k:Nat} (h:js.length<=k):L3 js k=Bx js:=by
 unfold L3 Bx;rw[Cr h]
def Ad1 (js:List Jb) (k:Nat):(L3 js k).length<=k:=by
 unfold L3;rw[Ar];exact Ay (Ob _ _) (Qk _ _)
structure td (w:WD) (ws:List dj) (wv:VL) (wr:WD):Prop where
 low:BW w.heap.size w wr
 row:Bf Rn 7 275 wr w.heap.size wv ws
structure WaC (w:WD) (ws:List dj) (v:VL) (wx:WD):Prop where
 ex:∃so n c,v=J so n c
 at_:td w ws v wx
variable {w wr w1 w2:WD} {ws:List dj} {wv:VL}
def td.drop (h:td w ws wv wr) (a:BW wr.heap.size wr w1):td w ws wv w1:=⟨h.low.trans (a.mono h.low.size),h.row.low a⟩
def td.add (h:td w ws wv wr) (b:BW wr.heap.size wr w1) (c:w1.grownBy w2 wv.ownBlock) {a:VL} {y:dj} (e:Bf Rn 7 275 w2 w.heap.size a (ws++[y])):td w (ws++[y]) a w2:=by
 have h1:=h.drop b;exact⟨h1.low.grown c h1.low.size (λk d=>(h1.row.lt k d).1),e⟩
def Ad2 (vs:List ax) (w:WD) (fy:List Jb) (e:Ending) (w':WD):Prop:=
 ∃ao n ac al,e=K (J ao n ac)/\n=al.length/\Pl.Y8 w' ao n al/\al.map Pl.Ask.er=Fc vs fy/\BW w.heap.size w w'
def A0q {vs:List ax} {js:List Jb} (h:Gk vs js):Vr (Bx js):=λi j x y f g e=>by
 have a:((Bx js).map dj.id).Nodup:=by unfold Bx;rw[Dg];exact(Amc h).sublist ((Aam).map Jb.id)
 have b:((Bx js).map dj.id)[i]?=Z x.id:=by rw[Bg,f];rfl
 have d:((Bx js).map dj.id)[j]?=Z y.id:=by rw[Bg,g];rfl
 rcases Nat.lt_trichotomy i j with c|c|c
 .exact absurd e (F1 a b d c)
 .exact c
 .exact absurd e.symm (F1 a d b c)
def A0r {vs:List ax} (k:Iy vs):O2 (Ea vs ByteArray.empty):=λd m=>by
 have n:=k.len;have h:=Amk (vs:=vs) ByteArray.empty (λv l=>Uy (k.all v l).ok.cap);obtain⟨a,b,c,e,f,g,i,j⟩:=h
 rcases(show d=0\/d=1\/d=2\/d=3 by omega)with rfl|rfl|rfl|rfl<;>simp[V4.get]<;>omega
def Amp {w:WD} {T:Tv} (h:An w T):(∀x,x∈Bx T.pl.ab->x.user.size<=maxLen)/\∀x,x∈Dx T.pl.ab->x.user.size<=maxLen:=by
 have b:∀j,j∈T.pl.ab->j.sp.user.size<=maxLen:=λj a=>by
  obtain⟨y,d,rfl⟩:=A8.1 a;exact(h.ok y d).user
 refine⟨λx c=>?_,λx c=>?_⟩
 .obtain ⟨j,a,rfl⟩:=A8.1 c;exact b j (Of.1 a).1
 .obtain ⟨j,a,rfl⟩:=A8.1 c;exact b j (Of.1 a).1
def se.post {vs:List ax} {l:List Jb} {d:Option Addr} {n c:Nat} {b:List Pl.Ask} {j:WD} (h:se w (J d n c) b wr) (q:b.map Pl.Ask.er=Fc vs l) (u:b.length<=1000) (h0:BW j.heap.size j w):Ad2 vs j l (K (J d n c)) wr:=by
 obtain⟨_,_,_,f,k,_⟩:=h.og.len;injection f with a1 a2 a3;have i:n=b.length:=ao9
 subst i;refine⟨d,_,c,b,rfl,rfl,Bf.rows (cells:=Pl.Ask.cells) (sz:=10) (ok:=λw a=>Pl.Ask.ok w a) (λ_=>rfl) h.og ao9 (λx m=>?_),q,h0.trans (h.low.mono h0.size)⟩;obtain⟨s,v,t,e,g,r,_⟩:=On (h.ue x m);injection e with f k e3;subst f k e3;obtain⟨o,p⟩:=h.tf x m;exact⟨r.pl,g,o.below h.low Ln,p⟩
end
section
open Go.RowKit Go.Maps Go.Lib
variable{fs:List il}{B:Nat}{T:Tv}{w:WD}
def A0s   (h:An w T) (hA:Gk T.vs T.pl.ab) (cg:T.js.length<=20) (uo:Option Addr) (un uc:Nat) (hu:Qc w uo un (Dx T.pl.ab)) :
  CS prog 137 #[Q (Z ⟨T.tb,0,I⟩),J uo un uc] w (Ad2 T.vs w T.pl.ab):=by
 obtain⟨iW,bZ,ca,bi,bk⟩:=B4 A0n;obtain⟨iA,bY,b9,bf,bg⟩:=B4 A0o;obtain⟨so,cap,a5,b1,ch,aj⟩:=h.ny;have c4:=Bk h.head 4 T.jv rfl;have c5:=Bk h.head 5 (Q (Z ⟨T.fb,0,I⟩)) rfl;have aX:=Ab h.head;rw[a5]at c4;obtain⟨m,hm⟩:=Ex (T.js.length);obtain⟨tb,ht⟩:=Ex (T.tb);rw[<-hm]at c4 b1 ch cg;rw[<-ht]at c4 c5 aX;rw[<-ht];have aW:T.pl.ab.length=m:=by rw[hm];simp[Tv.pl]
 have bR:td w (L3 T.pl.ab 0) (J I 0 0) w:=⟨Below.refl _ _,Bf.nil _ _ _ _ _⟩;replace⟨h,hA,a5,b1,aj,ht,hm,aW⟩:=H8 h hA a5 b1 aj ht hm aW;replace⟨bR,bZ,ca,bi,bk,bY,b9,bf⟩:=H8 bR bZ ca bi bk bY b9 bf;replace⟨bg,hu,aX⟩:=H3 bg hu aX;go_enter func137,ntmps137;go_wp2_with fail;go_loopw [5,7,18] (λwv _ iv wr=>∃(k:Nat),iv=G O k/\k<=m/\Hid (td w (L3 T.pl.ab k) wv wr)) (λ_ _ iv _=>m-(intOf iv).toNat)
 case atStart=>exact⟨0,rfl,As _,bR⟩
 case round=>
  obtain⟨k,rfl,cA,hW⟩:=hrel;obtain⟨co,wn,cn,rfl,aE,_⟩:=hW.row.len;by_cases cD:k<m
  .have cs:(k:Int)<m:=ao9;have cy:(0:Int)<=(k:Int):=ao9;obtain⟨j,hj⟩:=Ge T.js k (by have:=hm.out;omega);obtain⟨g,rfl,aV⟩:=aj k j hj;have aL:=(h.ab.lt g (by rw[a5.out];rfl)).2;have cj:=(Ag hW.low aL).trans aV;have an:=Ai hj;have bG:T.pl.ab[k]?=Z j.2.pl:=by simp[Tv.pl,hj]
   have a9:∀W,BW w.heap.size w W->CS prog 189 #[Q (Z ⟨tb,0,I⟩),Q (Z ⟨j.1,0,I⟩)] W λe w'=>e=K (D (J2 T.pl.ab j.2.pl))/\BW W.heap.size W w':=λW hW=>by
    rw[ht.out];refine A0c (h.low hW) hj λid cv=>?_;have:=(hA k _ bG).j5 id cv;have:=aW.out;have:=hm.out;omega
   have aA:=A0p bG;obtain⟨s,x⟩:=j;have am:∀W,BW w.heap.size w W->Bc W s x:=λW hW=>Ae hW (h.box _ an) (Ab (h.box _ an));have b4:∀W,BW w.heap.size w W->Np W T.az x:=λW hW=>(h.low hW).ok _ an;obtain⟨q,hq⟩:=Ex (J2 T.pl.ab x.pl);simp only at a9 aA;rw[<-hq]at aA;simp only[<-hq]at a9;have aR:=a9 _ hW.low;replace⟨hj,aV,aL,an,bG,a9,aR,aA⟩:=H8 hj aV aL an bG a9 aR aA;replace⟨am,b4,hq,aE⟩:=H4 am b4 hq aE;go_upto_block 1 with fail;go_cut [5,7] (λv _ wx=>WaC w (L3 T.pl.ab (k+1)) v wx)
   case first=>
    cases q with
    | false=>
     have af:=aA.out;simp at af;replace af:=Hh af;go_wp2_with (go_at_call 189;(with_reducible refine(aR.out).mono ?_);rintro e w1 ⟨rfl,aI⟩;replace aI:=Hh aI);go_meet
     case rel=>exact⟨⟨_,_,_,rfl⟩,by rw[af.out];exact hW.drop aI.out⟩
    | true=>
     go_upto_region 6 with(go_at_call 189;(with_reducible refine(aR.out).mono ?_);rintro e w1 ⟨rfl,aI⟩;replace aI:=Hh aI);have ap:=hW.drop aI.out
     have kn:∀W,BW w1.heap.size w1 W->CS prog 184 #[Q (Z ⟨s,0,I⟩)] W λe w'=>e=K (Kr x.pl).val/\BW w1.heap.size w1 w':=λW aF=>by
      have hl:=ap.low.trans (aF.mono ap.low.size);refine(Ala (am _ hl) (b4 _ hl)).mono ?_;rintro e w' ⟨h1,h2⟩;exact⟨h1,aF.trans (h2.mono aF.size)⟩
     obtain⟨⟨n0,n1,n2,n3⟩,aD⟩:∃v,v=Kr x.pl:=⟨_,rfl⟩;rw[<-aD]at kn;obtain⟨us,aU⟩:=Ex (x.pl.sp.user);obtain⟨aN,aP⟩:=Ex (x.pl.id);obtain⟨pr,bH⟩:=Ex (x.pl.sp.prio)
     have a7:∀u∈([G O aN,Y us,G O pr,G O n0,G O n1,G O n2,G O n3]:List VL),u.oneCell'=true:=by intro u hu;simp at hu;rcases hu with rfl|rfl|rfl|rfl|rfl|rfl|rfl<;>rfl
     have be:wn<=20:=(by have:=aE.out;have:=Ad1 T.pl.ab k;omega);have aH:=Ff (n:=wn) ao9;have aJ:(wn+1)*64<=140737488355328:=ao9;have af:L3 T.pl.ab (k+1)=L3 T.pl.ab k++[⟨aN,us,pr,⟨n0,n1,n2,n3⟩⟩]:=(by have:=aA.out;simp at this;rw[this,aU,aD,aP,bH]);replace⟨ap,kn,aD,aU,aP,bH,a7,be⟩:=H8 ap kn aD aU aP bH a7 be;replace⟨aH,aJ,af⟩:=H3 aH aJ af;clear cj
     have ad:∀p:WD,BW w.heap.size w p->p.cell? ⟨s,0,I⟩=Z (G O aN)/\p.cell? ⟨s,1,I⟩=Z (Y us)/\p.cell? ⟨s,9,I⟩=Z (G O pr):=λp bv=>by
      have hx:=am _ bv;rw[aP.out,aU.out,bH.out];exact⟨Aa hx 0,Aa hx 1,Aa hx 9⟩
     have l:=ap.low.drew;have f:BW w1.heap.size w1 w1.drew:=(Below.refl _ _).drew;replace⟨ad,l,f⟩:=H3 ad l f;go_region_held3 (λp=>p.cell? ⟨s,0,I⟩=Z (G O aN)/\p.cell? ⟨s,1,I⟩=Z (Y us)/\p.cell? ⟨s,9,I⟩=Z (G O pr))
      (first
        | with_reducible exact ad.out _ l.out
        | exact ad.out _ (l.alloc l.size _)
        | exact ad.out _ (l.alloc l.size _).drew
        | exact ad.out _ l.drew)
      (first
        | (go_at_call 184
           (with_reducible refine(kn.out _ f.out).mono ?_)
           rintro e w2 ⟨rfl,bV⟩;replace l:=Hh (ap.low.trans (bV.mono ap.low.size));replace f:=Hh bV
           clear bV)
        | (refine Uv (by rfl) _ _ _ (by rfl) w.heap.size 275 iW _ 7 64 underlying273 bZ.out ca.out bi.out bk.out rfl (Gn _) (J co wn cn) wn _ (by rfl) (((ap.drop (f.alloc f.size _)).row).at_ aE.symm) ⟨w2.heap.size,0,I⟩ 1 [G O aN,Y us,G O pr,G O n0,G O n1,G O n2,G O n3] (by rfl) (by rfl) (Adi w2 #[G O aN,Y us,G O pr,G O n0,G O n1,G O n2,G O n3] 275) a7.out aH.out aJ.out (Ay ap.low.size (f.alloc f.size _).size) ?_;intro g9 cb w9 ao ac;have bw:=ap.add (y:=⟨aN,us,pr,⟨n0,n1,n2,n3⟩⟩) (f.alloc f.size _) ac (Bf.snoc (cells:=Rn) ao aE.symm);replace l:=Hh bw.low;replace bw:=Hh bw
           clear ao ac))
     all_goals
      go_wp2_with fail;go_meet
      case rel=>exact⟨⟨_,_,_,rfl⟩,by rw[af.out];exact bw.out⟩
   case rest=>
   obtain⟨⟨cP,vn,vc,rfl⟩,z⟩:=hcut;replace z:=Hh z;clear cj;go_wp2_with fail;go_roundw
   case rel=>exact⟨k+1,by go_num,ao9,z⟩
   case measure=>simp[intOf];omega
  .have cs:¬(k:Int)<m:=ao9;have z:=hW.out;rw[Ad0 (by have:=aW.out;omega)]at z;have aA:=Bf.zx z.row (by have:=Ad1 T.pl.ab T.pl.ab.length;rw[Ad0 Ln]at this;have:=aW.out;omega);have b8:wn=(Bx T.pl.ab).length:=(by have:=aE;rw[Ad0 (by have:=aW.out;omega)]at this;exact this);have ck:wn<=20:=(by have:=aE;have:=Ad1 T.pl.ab k;omega);have bl:∀W,BW w.heap.size w W->CS prog 191 #[Q (Z ⟨T.fb,0,I⟩),Y ByteArray.empty] W (Abl T.vs ByteArray.empty W):=λW aF=>A0m (h.low aF).dn.yx h.dn.ok _;have bK:CS prog 191 #[Q (Z ⟨T.fb,0,I⟩),.string { data:=#[] }] wr λe w'=>e=K (Ea T.vs ByteArray.empty).val/\BW wr.heap.size wr w':=bl _ z.low
   have bn:∀W,BW wr.heap.size wr W->CS prog 190 #[(Ea T.vs ByteArray.empty).val,J uo un uc,J co wn cn] W λe w'=>∃v,e=K v/\Al w' W.heap.size v (C0 (Lj (Ea T.vs ByteArray.empty) (Dx T.pl.ab) (Bx T.pl.ab)))/\BW W.heap.size W w':=λW aF=>
    A0i _ (A0r h.dn.ok) uo un uc _ _ (hu.low (z.low.trans (aF.mono z.low.size))) (aA.low aF) ck (Amp h.out).1 (Amp h.out).2 (A0q hA.out)
   obtain⟨Lt,a0⟩:=Ex (Lj (Ea T.vs ByteArray.empty) (Dx T.pl.ab) (Bx T.pl.ab));have b2:∀i,i∈Lt->i<(Bx T.pl.ab).length:=λi hi=>Zz _ _ _ (by rw[<-a0];exact hi)
   have a2:Fc T.vs T.pl.ab=Lt.map λi=>F8 T.vs (F5 T.pl.ab (A7 (Bx T.pl.ab) i).id):=by rw[a0];rfl
   have aZ:Lt.length<=20:=(by have:=(Zy (Ea T.vs ByteArray.empty) (Dx T.pl.ab) (Bx T.pl.ab)).length_eq;rw[<-a0,Aat]at this;omega);rw[<-a0]at bn;obtain⟨tv,b5⟩:=Ex (Ea T.vs ByteArray.empty);rw[<-b5]at bK bn;have cp:=(Ag z.low aX.out).trans c5;clear a0;replace⟨hW,z,aA,b8,bl,bK,bn,b5⟩:=H8 hW z aA b8 bl bK bn b5;replace⟨aE,b2,a2,aZ⟩:=H4 aE b2 a2 aZ;go_wp2_with (first|(go_at_call 191;(with_reducible refine(bK.out).mono ?_);rintro e w3 ⟨rfl,a3⟩;replace a3:=Hh a3)|(go_at_call 190;(with_reducible refine(bn.out _ a3.out).mono ?_);rintro e w4 ⟨v4,rfl,b3,bx⟩;obtain⟨cO,tn,tc,rfl,ci,bI,_⟩:=On b3;replace⟨b3,bx,ci,bI⟩:=H4 b3 bx ci bI));clear cp;have aC:=z.low.trans (a3.mono z.low.size);have r:=aC.trans (bx.mono aC.size);have bS:=(z.drop a3.out).drop bx.out;have aT:tn=Lt.length:=(by have:=bI.len;simp[C0]at this;omega);have bQ:se w4 (J I 0 0) [] w4:=⟨Below.refl _ _,Bf.nil _ _ _ _ _,λx hx=>by simp at hx,λx hx=>by simp at hx⟩;have bP:([]:List Pl.Ask).map Pl.Ask.er=(Lt.take 0).map λi=>F8 T.vs (F5 T.pl.ab (A7 (Bx T.pl.ab) i).id):=rfl;have cK:tn<=20:=(by have:=aZ.out;omega);replace⟨aC,r,bS,aT,bQ,bP⟩:=H6 aC r bS aT bQ bP;go_loopw [8,10,11,55] (λav _ _ iv wr=>∃(i:Nat) (al:List Pl.Ask),iv=G O i/\i<=tn/\Hid (se w4 av al wr)/\Hid (al.map Pl.Ask.er=(Lt.take i).map λi=>F8 T.vs (F5 T.pl.ab (A7 (Bx T.pl.ab) i).id))) (λ_ _ _ iv _=>tn-(intOf iv).toNat)
   case atStart=>exact⟨0,[],rfl,As _,bQ,bP⟩
   case round=>
    obtain⟨i,al,rfl,cG,hK,hE⟩:=hrel;obtain⟨cm,aY,kc,rfl,aM,_⟩:=hK.og.len;by_cases cE:i<tn
    .have ce:(i:Int)<tn:=ao9;have cF:(0:Int)<=(i:Int):=ao9;obtain⟨t,bb⟩:=Ge Lt i (by have:=aT.out;omega);have bd:=b2 t (Ai bb);obtain⟨cN,cB,rfl,bc,cc⟩:=bI.cell i (t:Int) (by simp[C0,bb]);have ct:=(Ag hK.low bc).trans cc;obtain⟨kk,j0,a4,bO,b6⟩:=Z1 hA.out bd;have b0:=Z0 hA.out a4;have bB:=hA kk j0 a4;obtain⟨jx,a6,cx⟩:∃jx,T.js[kk]?=Z jx/\jx.2.pl=j0:=(by have:(T.js.map λj=>j.2.pl)[kk]?=Z j0:=a4;rw[Bg]at this;obtain⟨y,hy,e⟩:=Oa.1 this;exact⟨y,hy,e⟩);subst cx;obtain⟨s,x⟩:=jx;have an:=Ai a6;have cf:kk<m:=(by have:=(Aq.1 a6).1;have:=hm.out;omega);obtain⟨g,rfl,aV⟩:=aj kk (s,x) a6;have aL:=(h.ab.lt g (by rw[a5.out];rfl)).2;have o:=r.trans (hK.low.mono r.size);have cj:wr.cell? ⟨g,kk,I⟩=Z (Q (Z ⟨s,0,I⟩)):=(Ag o aL).trans aV;have d4:=(Ag o aX.out).trans c4
     have cl:(Bx T.pl.ab)[t]?=Z ⟨x.pl.id,x.pl.sp.user,x.pl.sp.prio,Kr x.pl⟩:=by
      rw[A4 bd]
      have:A7 (Bx T.pl.ab) t=(Bx T.pl.ab)[t]:=by unfold A7;rw[A4 bd];rfl
      rw[<-this,b6]
     obtain⟨wg,cC,rfl,b7,rfl,cd⟩:=Bf.cell (sz:=7) (cells:=Rn) (λ_=>rfl) bS.row t _ cl;have aG:x.pl.id=(kk:Int)+1:=bB.id;have cw:wr.cell? ⟨wg,t*7,I⟩=Z (G O ((kk:Int)+1)):=(by have:=(Ag hK.low b7).trans (cd 0 ao9);rw[Cn,Iu]at this;rw[this,<-aG];rfl);have cI:(0:Int)<=(t:Int):=ao9;have cJ:(t:Int)<(wn:Int):=(by have:=b8.out;omega);have cy:(0:Int)<=(kk:Int):=ao9;have cA:(kk:Int)<(m:Int):=ao9;have cL:IntKind.i64.wrap ((kk:Int)+1-1)=(kk:Int):=(by rw[show(kk:Int)+1-1=kk by omega];exact Ig ao9 ao9);have am:∀W,BW w.heap.size w W->Bc W s x:=λW hW=>Ae hW (h.box _ an) (Ab (h.box _ an));have aQ:=(h.low r.out).ok _ an;have ba:(Lt.take (i+1)).map (λi=>F8 T.vs (F5 T.pl.ab (A7 (Bx T.pl.ab) i).id))=(Lt.take i).map (λi=>F8 T.vs (F5 T.pl.ab (A7 (Bx T.pl.ab) i).id))++[F8 T.vs x.pl]:=(by rw[Je bb,C2];simp only[It,Sb];rw[b6];simp only;rw[b0]);obtain⟨_,_,_,_,_,m6,_⟩:=Fy (I5 bB.gp);obtain⟨bL,bM⟩:=C7.1 m6;obtain⟨wl,aB⟩:=Ex (x.pl.sp.wall);replace bL:1<=wl:=(by rw[aB];exact bL);replace bM:wl<=1000:=(by rw[aB];exact bM);have cM:IntKind.i64.wrap (wl+8)=wl+8:=Ig ao9 ao9
     have bJ:∀W,BW wr.heap.size wr W->CS prog 154 #[Q (Z ⟨T.fb,0,I⟩),Y x.pl.sp.part] W λe w'=>∃v,e=K v/\Al w' w4.heap.size v (C6 T.vs x.pl.sp.part)/\BW wr.heap.size wr w':=λW hW=>by
      have hl:=o.trans (hW.mono o.size);refine(Af8 (h.low hl).dn.yx h.dn.ok x.pl.sp.part).mono ?_;rintro e w' ⟨v,h1,h2,h3⟩;exact⟨v,h1,h2.le (Ay hK.low.size hW.size),hW.trans (h3.mono hW.size)⟩
     obtain⟨pt,a8⟩:=Ex (x.pl.sp.part);obtain⟨nd,aD⟩:=Ex (x.pl.sp.nodes);obtain⟨⟨da,db,dc,dd⟩,aK⟩:∃v,v=x.pl.sp.df:=⟨_,rfl⟩;obtain⟨aO,aS⟩:=Ex (x.pl.start);obtain⟨go,bE⟩:=Ex (x.go);obtain⟨gn,bD⟩:=Ex (x.gn);obtain⟨gc,bC⟩:=Ex (x.gc);rw[<-a8]at bJ
     have ad:∀p:WD,BW w.heap.size w p->p.cell? ⟨s,0,I⟩=Z (G O ((kk:Int)+1))/\p.cell? ⟨tb,5,I⟩=Z (Q (Z ⟨T.fb,0,I⟩))/\p.cell? ⟨s,2,I⟩=Z (Y pt)/\p.cell? ⟨s,3,I⟩=Z (G O nd)/\p.cell? ⟨s,4,I⟩=Z (G O da)/\p.cell? ⟨s,5,I⟩=Z (G O db)/\p.cell? ⟨s,6,I⟩=Z (G O dc)/\p.cell? ⟨s,7,I⟩=Z (G O dd)/\p.cell? ⟨s,8,I⟩=Z (G O wl)/\p.cell? ⟨s,19,I⟩=Z (G O aO)/\p.cell? ⟨s,20,I⟩=Z (J go gn gc):=λp bv=>by
      have hx:=am _ bv;have e4:da=x.pl.sp.df.a:=(by rw[<-aK]);have e5:db=x.pl.sp.df.b:=(by rw[<-aK]);have e6:dc=x.pl.sp.df.c:=(by rw[<-aK]);have e7:dd=x.pl.sp.df.d:=(by rw[<-aK]);rw[<-aG,a8,aD,e4,e5,e6,e7,aB,aS,bE,bD,bC];exact⟨Aa hx 0,(Ag bv aX.out).trans c5,Aa hx 2,Aa hx 3,Aa hx 4,Aa hx 5,Aa hx 6,Aa hx 7,Aa hx 8,Aa hx 19,Aa hx 20⟩
     have bX:Pl.Ap w4 go gn x.pl.ak/\gn<=gc:=(by rw[bE,bD,bC];exact⟨aQ.ak.row.pl,aQ.oh⟩);have be:aY<=20:=(by have h1:=aM;have h2:=Cd List.length hE.out;simp only[Ar]at h2;have h3:=Qk i Lt;omega);have aH:=Ff (n:=aY) ao9;have aJ:(aY+1)*112<=140737488355328:=ao9;have a1:Pl.Ask.er ⟨(kk:Int)+1,I,0,0,C6 T.vs pt,nd,⟨da,db,dc,dd⟩,wl+8,aO,I,0,0,x.pl.ak⟩=F8 T.vs x.pl:=(by rw[a8,aD,aK,aB,aS,<-aG];rfl);clear am aV cc cd b6 cl;replace⟨bb,bd,bc,a4,bO,b0,bB,a6⟩:=H8 bb bd bc a4 bO b0 bB a6;replace⟨an,cf,aL,o,b7,aG,aQ,ba⟩:=H8 an cf aL o b7 aG aQ ba;replace⟨m6,bL,bM,aB,bJ,a8,aD,aK⟩:=H8 m6 bL bM aB bJ a8 aD aK;replace⟨aS,bE,bD,bC,ad,bX,be,aH⟩:=H8 aS bE bD bC ad bX be aH;replace⟨aJ,a1,aM⟩:=H3 aJ a1 aM;go_upto_region 12 with fail;clear ct;go_quiet (fail);rename_i nq;obtain⟨W5,bT⟩:=Ex (wr.drewN nq);have bA:BW wr.heap.size wr W5:=(by rw[bT];exact Ba _ wr nq);rw[<-bT];clear bT cj d4 cw;have l:=(o.trans (bA.mono o.size)).drew;have f:=bA.drew;replace⟨bA,l,f⟩:=H3 bA l f;go_upto_region 13 with fail;go_region_held3 (λp=>p.cell? ⟨s,0,I⟩=Z (G O ((kk:Int)+1))/\p.cell? ⟨tb,5,I⟩=Z (Q (Z ⟨T.fb,0,I⟩))/\p.cell? ⟨s,2,I⟩=Z (Y pt)/\p.cell? ⟨s,3,I⟩=Z (G O nd)/\p.cell? ⟨s,4,I⟩=Z (G O da)/\p.cell? ⟨s,5,I⟩=Z (G O db)/\p.cell? ⟨s,6,I⟩=Z (G O dc)/\p.cell? ⟨s,7,I⟩=Z (G O dd)/\p.cell? ⟨s,8,I⟩=Z (G O wl)/\p.cell? ⟨s,19,I⟩=Z (G O aO)/\p.cell? ⟨s,20,I⟩=Z (J go gn gc))
      (first
        | with_reducible exact ad.out _ l.out
        | exact ad.out _ (l.alloc l.size _)
        | exact ad.out _ (l.alloc l.size _).drew
        | exact ad.out _ l.drew)
      (first
        | (go_at_call 154
           (with_reducible refine(bJ.out _ f.out).mono ?_)
           rintro e w6 ⟨v6,rfl,bF,bW⟩;obtain⟨po,pn,pc,rfl,bN⟩:=bF.len;replace l:=Hh (o.trans (bW.mono o.size));replace f:=Hh bW;replace⟨bF,bN⟩:=H2 bF bN
           clear bW)
        | (refine Uv (by rfl) _ _ _ (by rfl) w4.heap.size 266 iA _ 10 112 underlying220 bY.out b9.out bf.out bg.out rfl (Gn _) (J cm aY kc) aY _ (by rfl) (((hK.drop (f.alloc f.size _)).og).at_ aM.symm) ⟨w6.heap.size,0,I⟩ 1 [G O ((kk:Int)+1),J po pn pc,G O nd,G O da,G O db,G O dc,G O dd,G O (wl+8),G O aO,J go gn gc] (by rfl) (by rfl) (Adi w6 #[G O ((kk:Int)+1),J po pn pc,G O nd,G O da,G O db,G O dc,G O dd,G O (wl+8),G O aO,J go gn gc] 266) (by intro u hu;simp at hu;rcases hu with rfl|rfl|rfl|rfl|rfl|rfl|rfl|rfl|rfl|rfl<;>rfl) aH.out aJ.out (Ay hK.low.size (f.alloc f.size _).size) ?_;intro g9 cb w9 ao ac;have bs:=hK.add (x:=⟨(kk:Int)+1,po,pn,pc,C6 T.vs pt,nd,⟨da,db,dc,dd⟩,wl+8,aO,go,gn,gc,x.pl.ak⟩) (f.alloc f.size _) ac (Bf.snoc (cells:=Pl.Ask.cells) ao aM.symm) (bF.mod (Mod.ag (S:=λ_=>False) Bn) (λ_ _ c=>c)) bX.out;replace l:=Hh (r.trans (bs.low.mono r.size));replace bs:=Hh bs
           clear ao ac))
     have cr:Hid ((al++[(⟨(kk:Int)+1,po,pn,pc,C6 T.vs pt,nd,⟨da,db,dc,dd⟩,wl+8,aO,go,gn,gc,x.pl.ak⟩:Pl.Ask)]).map Pl.Ask.er=(Lt.take (i+1)).map λi=>F8 T.vs (F5 T.pl.ab (A7 (Bx T.pl.ab) i).id)):=Hh (by
      rw[ba.out,C2,hE.out,<-a1.out]
      rfl)
     go_wp2_with fail;go_roundw
     case rel=>exact⟨i+1,_,by go_num,ao9,bs,cr⟩
     case measure=>simp[intOf];omega
    .have ce:¬(i:Int)<tn:=ao9;have cH:i=tn:=ao9;have bo:=hE.out;rw[Cr (by have:=aT.out;omega),<-a2.out]at bo;have bU:al.length<=1000:=(by have h2:=Cd List.length hE.out;simp only[Ar]at h2;have h3:=Qk i Lt;omega);replace⟨bo,bU,aM⟩:=H3 bo bU aM;go_wp2_with fail;exact Ak (v:=J cm aY kc) (by simp[results,results137,go_sem]) rfl (hK.post bo.out bU.out r.out)
def An.zj   (h:An w T):∃b cap,w.cell? ⟨T.tb,4,I⟩=Z (J b T.js.length cap):=by
 have a:=Bk h.head 4 T.jv rfl;rcases h.ab.2 with⟨e,h0⟩|⟨g,cap,c,e,_⟩
 .exact ⟨I,0,by rw[a,e,h0]⟩
 .exact ⟨_,_,by rw[a,e]⟩
def A05 (l:List dm) (s:dm):Id (l++[s])=Id l+s.array:=by
 simp[Id,C2,L8]
structure RsC (w:WD) (r:Int) (v:VL) (wx:WD):Prop where
 v:v=G O r
 low:BW w.heap.size w wx
def Cz.le  {B B' g cap:Nat} {c:List VL} {e:List (List Int)} (h:Cz w B g cap c e) (d:B'<=B):Cz w B' g cap c e:=
 ⟨Joins.ownsRow_le h.row d,λi f l a b=>(h.each i f l a b).le d,h.two,h.te⟩
def Ju.len   {v:VL} {l:List VL} (h:Ju w B v l):∃so n c,v=J so n c/\n=l.length:=by
 rcases h.row.2 with⟨rfl,h0⟩|⟨g,cap,a,rfl,_⟩
 .exact ⟨I,0,0,rfl,h0.symm⟩
 .exact ⟨_,_,_,rfl,rfl⟩
def Ad6   (h:An w T) (a7:Iy T.vs) (hj:T.js.length<=1000000) (so:Option Addr) (n sc:Nat) (xs:List ay) (hs:J6 w so n xs) (hn:n<=1000) :
  CS prog 58 #[Q (Z ⟨T.tb,0,I⟩),J so n sc] w (G5 (B9 T.vs T.js.length (xs.map ay.pl)) w):=by
 obtain⟨jo,jc,c4⟩:=h.zj;have c5:=Bk h.head 5 (Q (Z ⟨T.fb,0,I⟩)) rfl;have aE:=hs.len;have hf:=h.dn.yx;have a2:=Ab h.head;obtain⟨m,hm⟩:=Ex (T.js.length);obtain⟨tb,ht⟩:=Ex (T.tb);obtain⟨vs,bG⟩:=Ex (T.vs);rw[<-ht]at c4 c5 a2;rw[<-hm]at c4 hj;rw[<-bG]at hf a7;rw[<-hm,<-ht,<-bG];clear hm ht bG h;have bw:BW w.heap.size w w:=Below.refl _ _;have bi:=Al.nil w w.heap.size;have bg:=Ju.nil w w.heap.size;have bH:IntKind.i64.wrap ((m:Int)+1)=(m:Int)+1:=Ig ao9 ao9;replace⟨a7,hs,aE,hf,bw,bi,bg,a2⟩:=H8 a7 hs aE hf bw bi bg a2;replace bH:=Hh bH;go_enter func58,ntmps58;go_wp2_with fail;go_loopw [6,7,8,10,11,20] (λv6 v7 v8 _ _ iv wr=>∃(i:Nat) (jl:Int),iv=G O i/\i<=n/\v6=G O jl/\Hid (jl=(m:Int)+Id ((xs.map ay.pl).take i))/\Hid ((m:Int)<=jl/\jl<=m+20*(i:Int))/\Hid (BW w.heap.size w wr)/\Hid (Al wr w.heap.size v7 ((xs.take i).map λx=>x.pl.array))/\Hid (Ju wr w.heap.size v8 (M7 (xs.take i)))/\Hid (∀(k:Nat) (x:ay),k<i->xs[k]?=Z x->Dv x.pl vs=0)) (λ_ _ _ _ _ iv _=>n-(intOf iv).toNat)
 case atStart=>exact⟨0,m,rfl,As _,rfl,Hh (by simp[Id]),Hh ⟨ao9,ao9⟩,bw,bi,bg,Hh (λk x hk=>by omega)⟩
 case round=>
  obtain⟨i,jl,rfl,b6,rfl,ba,bU,hb,hS,hR,hK⟩:=hrel;obtain⟨bR,n7,c7,rfl,aA⟩:=hS.len;obtain⟨bS,n8,c8,rfl,aB⟩:=hR.len;by_cases hc:i<n
  .have bT:(i:Int)<n:=ao9;have b5:(0:Int)<=(i:Int):=ao9;obtain⟨x,hx⟩:=Ge xs i (by have:=aE.out;omega);obtain⟨b,t,rfl,bv,aX,aZ⟩:=hs.cell i x hx;have bC:=aZ.low hb.out;have aO:=Je hx;obtain⟨r,hr⟩:=Ex (Dv x.pl vs);have f:=λj hj=>(Ag hb.out bv).trans (aX j hj)
   have aV:r≠0->B9 vs m (xs.map ay.pl)=([],r):=λe=>by
    rw[hr];refine Ayj (i:=i) (λk y hk hy=>?_) (by rw[Bg,hx];rfl) (by rw[<-hr];exact e);rw[Bg]at hy;obtain⟨z,hz,rfl⟩:=Oa.1 hy;exact hK.out k z hk hz
   have bA:=λe=>I5 (hr.symm.trans e)
   have be:r=0->∀(k:Nat) (x:ay),k<i+1->xs[k]?=Z x->Dv x.pl vs=0:=λe k z hk hz=>by
    by_cases q:k=i
    .subst q;rw[hx]at hz;injection hz with hz;subst hz;exact hr.symm.trans e
    .exact hK.out k z ao9 hz
   have ap:(m:Int)+Id ((xs.map ay.pl).take (i+1))=jl+x.pl.array:=(by rw[Je (x:=x.pl) (by rw[Bg,hx];rfl),A05,ba.out];omega);have aC:(xs.take (i+1)).map (λx=>x.pl.array)=(xs.take i).map (λx=>x.pl.array)++[x.pl.array]:=(by rw[aO,C2];rfl);have an:M7 (xs.take (i+1))=M7 (xs.take i)++[J x.so x.n x.c]:=(by rw[aO];simp[M7]);have bl:=hf.below hb.out;have a8:=λW (h:BW wr.heap.size wr W)=>Arf (bl.below h) a7.out x (bC.low h);simp only[<-hr]at a8;obtain⟨⟨aH,aF,nodes,⟨da,db,dc,dd⟩,aI,aG,array,ae,av,after⟩,al,sn,af⟩:=x;replace ap:(m:Int)+Id ((xs.map ay.pl).take (i+1))=jl+array:=ap;replace aC:(xs.take (i+1)).map (λx=>x.pl.array)=(xs.take i).map (λx=>x.pl.array)++[array]:=aC;replace an:M7 (xs.take (i+1))=M7 (xs.take i)++[J al sn af]:=an;have z0:wr.cell? ⟨b,t+i*13,I⟩=Z (Y aH):=f 0 ao9;have z1:wr.cell? ⟨b,t+i*13+1,I⟩=Z (Y aF):=f 1 ao9;have z2:wr.cell? ⟨b,t+i*13+2,I⟩=Z (G O nodes):=f 2 ao9;have z3:wr.cell? ⟨b,t+i*13+3,I⟩=Z (G O da):=f 3 ao9;have z4:wr.cell? ⟨b,t+i*13+4,I⟩=Z (G O db):=f 4 ao9;have z5:wr.cell? ⟨b,t+i*13+5,I⟩=Z (G O dc):=f 5 ao9;have z6:wr.cell? ⟨b,t+i*13+6,I⟩=Z (G O dd):=f 6 ao9;have z7:wr.cell? ⟨b,t+i*13+7,I⟩=Z (G O aI):=f 7 ao9;have z8:wr.cell? ⟨b,t+i*13+8,I⟩=Z (G O aG):=f 8 ao9;have z9:wr.cell? ⟨b,t+i*13+9,I⟩=Z (G O array):=f 9 ao9;have bW:wr.cell? ⟨b,t+i*13+10,I⟩=Z (G O ae):=f 10 ao9;have bX:wr.cell? ⟨b,t+i*13+11,I⟩=Z (D av):=f 11 ao9;have bY:wr.cell? ⟨b,t+i*13+12,I⟩=Z (J al sn af):=f 12 ao9;replace⟨aX,f,bv,aZ,bC,aO,hr,aV⟩:=H8 aX f bv aZ bC aO hr aV;replace⟨bA,be,ap,aC,an,bl,a8,hx⟩:=H8 bA be ap aC an bl a8 hx;replace⟨aA,aB⟩:=H2 aA aB;go_upto_region 7 with fail;clear z0 z1 z2 z3 z4 z5 z6 z7 z8 z9 bW bX bY;obtain⟨s,bB⟩:=Ex (wr.heap.size);obtain⟨W1,a3⟩:=Ex (wr.alloc (V (⟨⟨aH,aF,nodes,⟨da,db,dc,dd⟩,aI,aG,array,ae,av,after⟩,al,sn,af⟩:ay).cells 33 (0,0)));have ac:BW wr.heap.size wr W1:=(by rw[a3];exact Bn);have aT:W1.heap[s]?=Z (V (⟨⟨aH,aF,nodes,⟨da,db,dc,dd⟩,aI,aG,array,ae,av,after⟩,al,sn,af⟩:ay).cells 33 (0,0)):=(by rw[a3,bB];exact Ah _ _);rw[<-a3,<-bB];clear a3 bB;have o:=hb.trans (ac.mono hb.size);have a0:=λW (h:BW W1.heap.size W1 W)=>a8.out W (ac.trans (h.mono ac.size))
   have bk:∀d:WD,BW W1.heap.size W1 d->d.cell? ⟨tb,5,I⟩=Z (Q (Z ⟨T.fb,0,I⟩))/\d.cell? ⟨s,0,I⟩=Z (Y aH)/\d.cell? ⟨s,1,I⟩=Z (Y aF)/\d.cell? ⟨s,2,I⟩=Z (G O nodes)/\d.cell? ⟨s,3,I⟩=Z (G O da)/\d.cell? ⟨s,4,I⟩=Z (G O db)/\d.cell? ⟨s,5,I⟩=Z (G O dc)/\d.cell? ⟨s,6,I⟩=Z (G O dd)/\d.cell? ⟨s,7,I⟩=Z (G O aI)/\d.cell? ⟨s,8,I⟩=Z (G O aG)/\d.cell? ⟨s,9,I⟩=Z (G O array)/\d.cell? ⟨s,10,I⟩=Z (G O ae)/\d.cell? ⟨s,11,I⟩=Z (D av)/\d.cell? ⟨s,12,I⟩=Z (J al sn af):=λd h=>by
    have p:=Ae h aT (Ab aT);exact⟨(Ag (o.trans (h.mono o.size)) a2.out).trans c5,Aa p 0,Aa p 1,Aa p 2,Aa p 3,Aa p 4,Aa p 5,Aa p 6,Aa p 7,Aa p 8,Aa p 9,Aa p 10,Aa p 11,Aa p 12⟩
   have u:BW W1.heap.size W1 W1.drew:=(Below.refl _ _).drew;replace⟨ac,aT,o,a0,bk,u⟩:=H6 ac aT o a0 bk u;go_cut [11] (λrv wx=>RsC W1 r rv wx)
   case first=>
    go_region_held3 (λd=>d.cell? ⟨tb,5,I⟩=Z (Q (Z ⟨T.fb,0,I⟩))/\d.cell? ⟨s,0,I⟩=Z (Y aH)/\d.cell? ⟨s,1,I⟩=Z (Y aF)/\d.cell? ⟨s,2,I⟩=Z (G O nodes)/\d.cell? ⟨s,3,I⟩=Z (G O da)/\d.cell? ⟨s,4,I⟩=Z (G O db)/\d.cell? ⟨s,5,I⟩=Z (G O dc)/\d.cell? ⟨s,6,I⟩=Z (G O dd)/\d.cell? ⟨s,7,I⟩=Z (G O aI)/\d.cell? ⟨s,8,I⟩=Z (G O aG)/\d.cell? ⟨s,9,I⟩=Z (G O array)/\d.cell? ⟨s,10,I⟩=Z (G O ae)/\d.cell? ⟨s,11,I⟩=Z (D av)/\d.cell? ⟨s,12,I⟩=Z (J al sn af))
     (first
       | with_reducible exact bk.out _ u.out)
     (first
       | (go_at_call 98
          (with_reducible refine(a0.out _ u.out).mono ?_)
          rintro e wz ⟨rfl,bL⟩;replace u:=Hh (u.trans (bL.mono u.size))
          clear bL))
    all_goals
     go_wp2_with fail;go_meet
     case rel=>exact⟨rfl,u.out⟩
   case rest=>
   obtain⟨rfl,aJ⟩:=hcut;have a:=o.trans (aJ.mono o.size);have aN:=Ae aJ aT.out (Ab aT.out);have aR:=ac.trans (aJ.mono ac.size);by_cases q:r=0;rotate_left
   .have q2:(r != 0)=true:=(by simpa using q);replace⟨a,aN,aR,aJ,q⟩:=H5 a aN aR aJ q;go_wp2_with fail;exact Ak (v:=E #[J I 0 0,G O r]) (by simp[results,results58,go_sem]) rfl (G5.bad (aV q.out) q.out a.out)
   subst q;obtain⟨_,_,_,q4,_,_,_,q8,_⟩:=Fy (bA rfl);obtain⟨b1,b2⟩:=C7.1 q8;replace b1:1<=array:=b1;replace b2:array<=20:=b2;have bM:=bU.out;have b7:IntKind.i64.wrap (jl+array)=jl+array:=Ig ao9 ao9;have bN:Hid ((m:Int)<=jl+array/\jl+array<=m+20*((i+1:Nat):Int)):=Hh ⟨ao9,ao9⟩;have x9:=Bk aN 9 (G O array) rfl;have hA:=(Below.refl wc.heap.size wc).alloc Ln (V #[G O array] 3 (0,0));have s7:=(hS.mod (Mod.ag (S:=λ_=>False) aR) (λ_ _ c=>c)).mod (Mod.ag (S:=λ_=>False) hA) (λ_ _ c=>c);have s8:(wc.alloc (V #[G O array] 3 (0,0))).cell? ⟨wc.heap.size,0,I⟩=Z (G O array):=Aa (Ah _ _) 0;have s9:=Ay a.size hA.size;have r7:=(hR.mod (Mod.ag (S:=λ_=>False) aR) (λ_ _ c=>c)).mod (Mod.ag (S:=λ_=>False) hA) (λ_ _ c=>c);have a9:=Ae hA aN (Ab aN);have aL:=a.trans (hA.mono a.size);have bo:n7<=1000000000:=(by have:=aA.out;rw[Ar,Dt]at this;omega);have bs:n8<=1000000000:=(by have:=aB.out;simp[M7]at this;omega);clear bM;replace⟨a,aN,aR,aJ,q4,q8,b1,b2⟩:=H8 a aN aR aJ q4 q8 b1 b2;replace⟨hA,s7,s8,s9,r7,a9,aL,bo⟩:=H8 hA s7 s8 s9 r7 a9 aL bo;replace bs:=Hh bs;go_upto_region 12 with(at_builtin;refine M1 rfl _ _ rfl w.heap.size n7 _ rfl s7.out aA.symm ⟨wc.heap.size,0,I⟩ 1 rfl array s8.out bo.out s9.out ?_;intro g7 bZ w7 h7 a5 bJ;replace⟨h7,a5,bJ⟩:=H3 h7 a5 bJ);clear x9;have bx:=Mod.grown (S:=λk=>(Value.slice bR n7 c7).ownBlock=Z k) a5.out (λk hk=>hk);have bI:=bx.aw a9.out (λe=>Bq s7.row a9.out ad9 e)
   have bQ:=r7.mod bx (λk hk e=>by
    obtain⟨c,hc,_⟩:=C8 r7.row hk
    exact Bq s7.row hc ad9 e)
   have ad:=aL.grown a5.out s9.out (λk hk=>(s7.lt k hk).1);have bV:=Bk bI 12 (J al sn af) rfl;have hB:=(Below.refl w7.heap.size w7).alloc Ln (V #[J al sn af] 31 (0,0));have t7:=bQ.mod (Mod.ag (S:=λ_=>False) hB) (λ_ _ c=>c);have t8:(w7.alloc (V #[J al sn af] 31 (0,0))).cell? ⟨w7.heap.size,0,I⟩=Z (J al sn af):=Aa (Ah _ _) 0;have t9:=Ay ad.size hB.size;have u7:=h7.mod (Mod.ag (S:=λ_=>False) hB) (λ_ _ c=>c);have aM:=ad.trans (hB.mono ad.size);clear bx bQ;replace⟨bI,ad,hB,t7,t8,t9,u7,aM⟩:=H8 bI ad hB t7 t8 t9 u7 aM;go_upto_region 13 with(at_builtin;refine Ayi rfl _ _ rfl w.heap.size n8 _ rfl t7.out aB.symm ⟨w7.heap.size,0,I⟩ 1 rfl al sn af t8.out bs.out t9.out ?_;intro g8 b0 w8 h8 a6 bK;replace⟨h8,a6,bK⟩:=H3 h8 a6 bK);clear bV;have bP:=Mod.grown (S:=λk=>(Value.slice bS n8 c8).ownBlock=Z k) a6.out (λk hk=>hk)
   have u8:=u7.mod bP (λk hk e=>by
    obtain⟨c,hc,_⟩:=C8 u7.row hk
    exact Bq t7.row hc ad9 e)
   have aK:=aM.grown a6.out t9.out (λk hk=>(t7.lt k hk).1);have u9:=h8.out;rw[<-aC.out]at u8;rw[<-an.out]at u9;have bO:=Hh ap.symm;have bf:=be rfl;clear bP;replace⟨u8,u9,aK,bf⟩:=H4 u8 u9 aK bf;go_wp2_with fail;go_roundw
   case rel=>exact⟨i+1,jl+array,by go_num,ao9,by go_num,bO,bN,aK,u8,u9,bf⟩
   case measure=>simp[intOf];omega
  .have bT:¬(i:Int)<n:=ao9;have a1:xs.take i=xs:=Cr (by have:=aE.out;omega);have aD:(xs.map ay.pl).take i=xs.map ay.pl:=Cr (by rw[Ar];have:=aE.out;omega)
   have ao:∀(k:Nat) (y:dm),k<(xs.map ay.pl).length->(xs.map ay.pl)[k]?=Z y->Dv y vs=0:=λk y hk hy=>by
    rw[Bg]at hy;obtain⟨z,hz,rfl⟩:=Oa.1 hy;exact hK.out k z (by rw[Ar]at hk;have:=aE.out;omega) hz
   have am:=Ayk (n:=m) ao;have aS:=ba.out;rw[aD]at aS;rw[<-aS]at am;have aQ:=hS.out;have aP:=hR.out;rw[a1]at aQ aP;by_cases q:jl > 100
   .rw [Ad q]at am;replace⟨am,aS,aQ,aP,a1,aD,ao,aA⟩:=H8 am aS aQ aP a1 aD ao aA;replace aB:=Hh aB;go_wp2_with fail;exact Ak (v:=E #[J I 0 0,G O 140]) (by simp[results,results58,go_sem]) rfl (G5.bad am.out ad9 hb.out)
   rw[Ac q]at am
   have a4:∀x,x∈xs->x.pl.after.length<=8:=λx hx=>by
    obtain⟨k,hk⟩:=Dn hx;obtain⟨_,_,_,q4,_⟩:=Fy (I5 (hK k x (by have:=(Aq.1 hk).1;have:=aE.out;omega) hk));exact Sw q4
   have aY:∀x,x∈xs->x.ok wr:=λx hx=>by
    obtain⟨k,hk⟩:=Dn hx;obtain⟨_,_,_,_,_,ho⟩:=hs.cell k x hk;exact ho.low hb.out
   obtain⟨bc,bD⟩:=aP.rows aY (by have:=aE.out;omega) (λx hx=>by have:=a4 x hx;omega);obtain⟨b8,n9,c9,e9,bb,bn,_⟩:=On aQ;injection e9 with e9 e9b e9c;subst e9 e9b e9c
   have aW:=A04 ((m:Int)+1) bR n7 c7 (xs.map λx=>x.pl.array) bS n8 c8 (xs.map λx=>x.pl.after) wr bn bD (λl hl=>by
    obtain⟨x,hx,rfl⟩:=A8.1 hl;have:=a4 x hx
    omega)
   rw[Dg,Dg]at am;have bd:B9 vs m (xs.map ay.pl)=Gj ((m:Int)+1) (xs.map λx=>x.pl.array) (xs.map λx=>x.pl.after):=am;rw[<-bd]at aW;obtain⟨R,aU⟩:=Ex (B9 vs m (xs.map ay.pl));rw[<-aU]at aW;rw[<-aU];have b4:=(Ag hb.out a2.out).trans c4;have b3:=bH.out;clear am bd;replace⟨aS,aQ,aP,a1,aD,ao,aA,aB⟩:=H8 aS aQ aP a1 aD ao aA aB;replace⟨aW,aU,a4,aY,bD,bc,bn,bb⟩:=H8 aW aU a4 aY bD bc bn bb;go_wp2_with (go_at_call 99;(with_reducible refine(aW.out).mono ?_);rintro e w1 ⟨v,rfl,bE,bF,ac⟩;replace⟨bE,bF,ac⟩:=H3 bE bF ac);refine Ak (v:=E #[v,G O R.2]) (by simp[results,results58,go_sem]) rfl ?_;rw[<-aU.out];refine⟨v,rfl,bE.out,λe=>?_,hb.trans (ac.mono hb.size)⟩;obtain⟨g,s2,e1,e2⟩:=bF e;exact⟨g,s2,e1,e2.le hb.size⟩
def Qg (k:Int) (w:WD):CS prog 46 #[G O k] w λe w'=>e=K (D (Br k))/\w'=w:=by
 by_cases h:k=2\/k=3\/k=4\/k=5\/k=10\/k=11
 .have b:Br k=true:=by rcases h with rfl|rfl|rfl|rfl|rfl|rfl<;>rfl
  obtain⟨z,a⟩:=Ex (Br k);rw[<-a]at b ⊢;subst b;clear a;rcases h with rfl|rfl|rfl|rfl|rfl|rfl
  all_goals
   go_enter func46,ntmps46;go_wp2;go_ret;exact⟨rfl,rfl⟩
 .have b:Br k=false:=by rw[Gl];intro c;apply h;simp[Br,Dm]at c;omega
  obtain⟨z,a⟩:=Ex (Br k);rw[<-a]at b ⊢;subst b;clear a;have g:(k == (2:Int))=false:=by rw[Bj];omega
  have i:(k == (3:Int))=false:=by rw[Bj];omega
  have j:(k == (4:Int))=false:=by rw[Bj];omega
  have l:(k == (5:Int))=false:=by rw[Bj];omega
  have d:(k == (10:Int))=false:=by rw[Bj];omega
  have f:(k == (11:Int))=false:=by rw[Bj];omega
  go_enter func46,ntmps46;go_wp2;go_ret;exact⟨rfl,rfl⟩
def A9 {e:dh} {f:il}  {a:dh} (h:F3 e (f :: fs)=Z a):jf e f=true/\F3 (e.set 0 f.1) fs=Z a:=by
 unfold F3 at h;split at h
 .rename_i c;exact⟨c,h⟩
 .cases h
def Amu {e:ei}  (h:F4 e=true) (b:Dw e.n.kind=Z fs):∃a,F3 e.n fs=Z a/\e.specs.length<=8/\e.specs.all Ct=true/\Vb e=true:=by
 cases hc:F3 e.n fs with
 | none=>
  rw[Ahp b hc]at h;cases h
 | some a=>
  rw[Ahq b hc]at h;simp at h;exact⟨a,rfl,h.1.1.2,by simpa using h.1.2,h.1.1.1⟩
structure A1c (e:ei):Prop where
 kind:e.n.kind=1\/e.n.kind=2\/e.n.kind=3\/e.n.kind=4\/e.n.kind=5\/e.n.kind=6\/e.n.kind=7\/e.n.kind=8\/e.n.kind=9\/e.n.kind=10\/e.n.kind=11
 len:e.specs.length<=8
 bt:(e.n.kind=3\/e.n.kind=4\/e.n.kind=5\/e.n.kind=7)->1<=e.n.bt
 node:(e.n.kind=7\/e.n.kind=8\/e.n.kind=9\/e.n.kind=10\/e.n.kind=11)->0<=e.n.node
 br:e.n.kind=7->1<=e.n.br/\e.n.br<=3
 tick:(e.n.kind=6\/e.n.kind=8\/e.n.kind=9)->0<=e.n.tick/\e.n.tick<1099511627776
def Ry {e:ei} (h:F4 e=true):A1c e:=by
 obtain⟨⟨f,o,tick,n,seq,q,attempt,node,p⟩,r⟩:=e
 have t:f=1\/f=2\/f=3\/f=4\/f=5\/f=6\/f=7\/f=8\/f=9\/f=10\/f=11:=by
  by_cases c:f=1\/f=2\/f=3\/f=4\/f=5\/f=6\/f=7\/f=8\/f=9\/f=10\/f=11
  .exact c
  .have m:Dw f=I:=(by unfold Dw;rw[Ac ao9,Ac ao9,Ac ao9,Ac ao9,Ac ao9,Ac ao9,Ac ao9]);rw[Aho m]at h;cases h
 have i:∀ {k:Int} {fs:List il},f=k->Dw k=Z fs->∃l,F3 ⟨f,o,tick,n,seq,q,attempt,node,p⟩ fs=Z l/\r.length<=8:=fun {k fs} e m=>by
  obtain⟨l,h1,s,_⟩:=Amu h (fs:=fs) (by rw[<-m,<-e]);exact⟨l,h1,s⟩
 rcases t with rfl|rfl|rfl|rfl|rfl|rfl|rfl|rfl|rfl|rfl|rfl
 .obtain ⟨l,g,j⟩:=i rfl (k:=1) (fs:=[U6]) rfl;exact⟨as9,j,as9,as9,as9,as9⟩
 .obtain ⟨l,g,j⟩:=i rfl (k:=2) (fs:=[Da,Db]) rfl;exact⟨as9,j,as9,as9,as9,as9⟩
 .obtain ⟨l,g,j⟩:=i rfl (k:=3) (fs:=[Da,Db,Fa]) rfl;have a:=(A9 (A9 (A9 g).2).2).1;simp[jf,Da,Db,Fa,dh.get,dh.set]at a;exact⟨as9,j,λ_=>a.1,as9,as9,as9⟩
 .obtain ⟨l,g,j⟩:=i rfl (k:=4) (fs:=[Da,Db,Fa]) rfl;have a:=(A9 (A9 (A9 g).2).2).1;simp[jf,Da,Db,Fa,dh.get,dh.set]at a;exact⟨as9,j,λ_=>a.1,as9,as9,as9⟩
 .obtain ⟨l,g,j⟩:=i rfl (k:=5) (fs:=[Da,Db,Fa]) rfl;have a:=(A9 (A9 (A9 g).2).2).1;simp[jf,Da,Db,Fa,dh.get,dh.set]at a;exact⟨as9,j,λ_=>a.1,as9,as9,as9⟩
 .obtain ⟨l,g,j⟩:=i rfl (k:=6) (fs:=[Mk]) rfl;have a:=(A9 g).1;simp[jf,Mk,dh.get]at a;exact⟨as9,j,as9,as9,as9,λ_=>⟨a.1,by show tick<_;omega⟩⟩
 .obtain ⟨l,g,j⟩:=i rfl (k:=7) (fs:=[Fa,U7,Fh,U8]) rfl;have a:=(A9 g).1;have b:=(A9 (A9 (A9 g).2).2).1;have d:=(A9 (A9 (A9 (A9 g).2).2).2).1;simp[jf,Fa,U7,Fh,U8,dh.get,dh.set]at a b d;exact⟨as9,j,λ_=>a.1,λ_=>b.1,λ_=>d,as9⟩
 .obtain ⟨l,g,j⟩:=i rfl (k:=8) (fs:=[Fh,Mk]) rfl;have a:=(A9 g).1;have b:=(A9 (A9 g).2).1;simp[jf,Fh,Mk,dh.get,dh.set]at a b;exact⟨as9,j,as9,λ_=>a.1,as9,λ_=>⟨b.1,by show tick<_;omega⟩⟩
 .obtain ⟨l,g,j⟩:=i rfl (k:=9) (fs:=[Fh,Mk]) rfl;have a:=(A9 g).1;have b:=(A9 (A9 g).2).1;simp[jf,Fh,Mk,dh.get,dh.set]at a b;exact⟨as9,j,as9,λ_=>a.1,as9,λ_=>⟨b.1,by show tick<_;omega⟩⟩
 .obtain ⟨l,g,j⟩:=i rfl (k:=10) (fs:=[Da,Db,Fh]) rfl;have a:=(A9 (A9 (A9 g).2).2).1;simp[jf,Da,Db,Fh,dh.get,dh.set]at a;exact⟨as9,j,as9,λ_=>a.1,as9,as9⟩
 .obtain ⟨l,g,j⟩:=i rfl (k:=11) (fs:=[Da,Db,Fh]) rfl;have a:=(A9 (A9 (A9 g).2).2).1;simp[jf,Da,Db,Fh,dh.get,dh.set]at a;exact⟨as9,j,as9,λ_=>a.1,as9,as9⟩
def A1d (a b c d:Int) (w:WD):(Instr.field 123 (.agg #[G O a,G O b,G O c,G O d]) 0).run prog w=.ok (G O a) w:=by kernel_rfl
structure LtC (w:WD) (b:Bool) (v:VL) (wx:WD):Prop where
 v:v=D b
 low:BW w.heap.size w wx
def Amv (vs:List ax) (t:du) (e:ei) (cs:Int):Int:=
 if Br e.n.kind=true/\e.n.seq<=cs then 141
 else if e.n.kind=1 then(if e.n.ai<=t.ai then 141 else 0)
 else if e.n.kind=6 then(if e.n.tick<=t.tick then 141 else 0)
 else if e.n.kind=2 then(B9 vs t.ab.length e.specs).2
 else if 8<=e.n.kind/\e.n.kind<=11 then Lp t e.n
 else J7 t e.n
def A1e   (x:de) (h:An w T) (hj:T.js.length<=1000000) (hx:x.ok w) (o:Br x.n.kind=true) :
  CS prog 31 #[Q (Z ⟨T.tb,0,I⟩),x.val] w (Il w (Dz T.vs T.pl x.pl)):=by
 obtain⟨r,hr⟩:=Ex (Dz T.vs T.pl x.pl);rw[<-hr];have y:=Ll.new w x;have t:=Ahr x _ (y.ok hx);by_cases hm:F4 x.pl=true;rotate_left
 .have an:F4 x.pl=false:=by simpa using hm
  rw[Ym an]at t;have aM:r=130:=by rw[hr];unfold Dz;rw[Ad an]
  subst aM;obtain⟨⟨j,ai,tick,ah,seq,bt,attempt,node,br⟩,so,m,sc,di⟩:=x;replace⟨y,t,hm,an,hr,h,hx⟩:=H7 y t hm an hr h hx;go_enter Nl,Ni;go_wp2_with fail;refine t.mono ?_;rintro e w1 ⟨rfl,z⟩;have q:=y.below z;replace⟨q,z⟩:=H2 q z;go_wp2;go_ret;exact⟨rfl,q.low⟩
 rw[Ahn hm]at t;obtain⟨hk,aI,f1,f2,_,_⟩:=Ry hm;have aJ:=hx.di.len;have aF:x.m<=1000:=by have:x.pl.specs.length=x.di.length:=Ar _;omega
 have ac:∀W,BW w.heap.size w W->CS prog 58 #[Q (Z ⟨T.tb,0,I⟩),J x.so x.m x.c] W (G5 (B9 T.vs T.js.length (x.di.map ay.pl)) W):=λW hW=>Ad6 (h.low hW) h.dn.ok hj x.so x.m x.c x.di (hx.di.low hW) aF;have u:(x.n.kind=8\/x.n.kind=9\/x.n.kind=10\/x.n.kind=11)->∀W,BW w.heap.size w W->CS prog 59 #[Q (Z ⟨T.tb,0,I⟩),x.val] W (Il W (Lp T.pl x.n)):=λhk W hW=>Al0 x (h.low hW) (f2 (.inr hk)) hk;have p:(x.n.kind=3\/x.n.kind=4\/x.n.kind=5\/x.n.kind=7)->∀W,BW w.heap.size w W->CS prog 60 #[Q (Z ⟨T.tb,0,I⟩),x.val] W (Il W (J7 T.pl x.n)):=λhk W hW=>Al1 x (h.low hW) (f1 hk);have aG:=hx.xw 3;obtain⟨⟨cs,ce,cf,aA⟩,aD⟩:∃c,c=E0 T.cls x.n.ah:=⟨_,rfl⟩
 have ad:∀W,An W T->(Instr.lookup 108 (.map (Z T.mb)) (G O x.n.ah) false).run prog W=.ok (Gu ⟨cs,ce,cf,aA⟩) W:=λW hW=>by
  rw[aD];exact Zo hW.cls aG.1 aG.2
 unfold Gu at ad
 have l:r=Amv T.vs T.pl x.pl cs:=by
  rw[hr];unfold Dz;rw[Ac (by rw[hm];simp)]
  have:(E0 T.pl.cls x.pl.n.ah).seq=cs:=by show(E0 T.cls x.n.ah).seq=cs;rw[<-aD]
  rw[this];rfl
 obtain⟨tb,ao⟩:=Ex (T.tb);obtain⟨aN,ap⟩:=Ex (T.ai);obtain⟨aO,av⟩:=Ex (T.tick)
 have am:∀W,An W T->W.cell? ⟨tb,0,I⟩=Z (G O aN)/\W.cell? ⟨tb,1,I⟩=Z (G O aO)/\W.cell? ⟨tb,2,I⟩=Z (.map (Z T.mb)):=λW hW=>by
  rw[ao,ap,av];exact⟨Aa hW.head 0,Aa hW.head 1,Aa hW.head 2⟩
 rw[<-ao];rw[<-ao]at ac u p;have aE:T.pl.ab.length=T.js.length:=by simp[Tv.pl]
 clear hr f1 f2 ao aD aG;obtain⟨⟨j,ai,tick,ah,seq,bt,attempt,node,br⟩,so,m,sc,di⟩:=x;replace ad:∀W,An W T->(Instr.lookup 108 (.map (Z T.mb)) (G O ah) false).run prog W=.ok (.agg #[G O cs,G O ce,G O cf,G O aA]) W:=ad;replace hk:j=1\/j=2\/j=3\/j=4\/j=5\/j=6\/j=7\/j=8\/j=9\/j=10\/j=11:=hk;replace⟨y,t,hm,h,hx,aI,aJ,aF⟩:=H8 y t hm h hx aI aJ aF;replace⟨ac,u,p,ad,l,am,aE⟩:=H7 ac u p ad l am aE;replace o:Br j=true:=o
 have aH:=λW=>by
  have:=Qg j W;rw[o]at this;exact this
 obtain⟨b,k⟩:=Ex (decide (seq<=cs));clear ap av;replace⟨aH,hk,o,k⟩:=H4 aH hk o k;go_enter Nl,Ni;go_wp2_with fail;refine t.mono ?_;rintro e w1 ⟨rfl,z⟩;have q:=y.below z;have af:=h.low q.low;obtain⟨c0,c1,c2⟩:=am w1 af;obtain⟨e0,e1,e2,e3,e4,e5,e6,e7,e8,e9⟩:=C10 q.box;(try dsimp only at e0 e1 e2 e3 e4 e5 e6 e7 e8 e9);replace⟨q,af,z⟩:=H3 q af z;go_upto_region 6 with fail;have yz:=ad w1.drew (af.low ((Below.refl _ _).drew));have aK:=A1d cs ce cf aA;go_cut [6] (λv wx=>LtC w1 b v wx)
 case first=>
  go_region_law (first
   | (go_simp;go_at_call 46;refine(aH _).mono ?_
      rintro e wz ⟨rfl,rfl⟩))
  all_goals
   go_wp2_with fail;go_meet
   case rel=>exact⟨by rw[k.out],by first|exact Below.refl _ _|exact(Below.refl _ _).drew|exact Ba _ _ _⟩
 case rest=>
 obtain⟨rfl,al⟩:=hcut;obtain⟨s,aC⟩:=Ex (wc);rw[<-aC]at al;have f:=q.below al;have aB:=af.low al;rw[<-aC];clear aC c0 c1 c2 yz aK e0 e1 e2 e3 e4 e5 e6 e7 e8 e9;obtain⟨c0,c1,c2⟩:=am s aB;obtain⟨e0,e1,e2,e3,e4,e5,e6,e7,e8,e9⟩:=C10 f.box;(try dsimp only at e0 e1 e2 e3 e4 e5 e6 e7 e8 e9);replace⟨al,f,aB⟩:=H3 al f aB;have aL:=hk.out;rcases aL with rfl|rfl|rfl|rfl|rfl|rfl|rfl|rfl|rfl|rfl|rfl
 .exact absurd o.out ad9
 .cases b with
  | true=>
   have i:=Io k.symm;have d:=l.trans (Ad ⟨rfl,i⟩);subst d;replace i:=Hh i;go_wp2;go_ret;exact⟨rfl,f.low⟩
  | false=>
   have i:=R5 k.symm;have d:r=(B9 T.vs T.pl.ab.length (di.map ay.pl)).2:=l.trans ((Ac (λc=>i c.2)).trans ((Ac (by show ¬((2:Int)=1);decide)).trans ((Ac (by show ¬((2:Int)=6);decide)).trans (Ad rfl))));replace⟨d,i⟩:=H2 d i;have a:=ac s f.low;rw[<-aE.out]at a;replace a:=Hh a;go_wp2_with (go_at_call 58;(with_reducible refine(a.out).mono ?_);rintro e w3 ⟨v,rfl,_,_,g⟩;replace g:=Hh g);go_ret;exact⟨by rw[d.out];rfl,f.low.trans (g.mono f.low.size)⟩
 .cases b with
  | true=>
   have i:=Io k.symm;have d:=l.trans (Ad ⟨rfl,i⟩);subst d;replace i:=Hh i;go_wp2;go_ret;exact⟨rfl,f.low⟩
  | false=>
   have i:=R5 k.symm;have d:r=J7 T.pl ⟨3,ai,tick,ah,seq,bt,attempt,node,br⟩:=l.trans ((Ac (λc=>i c.2)).trans ((Ac (by show ¬((3:Int)=1);decide)).trans ((Ac (by show ¬((3:Int)=6);decide)).trans ((Ac (by show ¬((3:Int)=2);decide)).trans (Ac (by show ¬((8:Int)<=3/\(3:Int)<=11);decide))))));replace⟨d,i⟩:=H2 d i;have a:CS prog 60 #[Q (Z ⟨tb,0,I⟩),(Value.agg #[G O 3,G O ai,G O tick,G O ah,G O seq,G O bt,G O attempt,G O node,G O br,J so m sc])] s (Il s r):=(by rw[d.out];exact p.out as9 s f.low);replace a:=Hh a;go_wp2_with (go_at_call 60;(with_reducible refine(a.out).mono ?_);rintro e w3 ⟨rfl,g⟩;replace g:=Hh g);go_ret;exact⟨rfl,f.low.trans (g.mono f.low.size)⟩
 .cases b with
  | true=>
   have i:=Io k.symm;have d:=l.trans (Ad ⟨rfl,i⟩);subst d;replace i:=Hh i;go_wp2;go_ret;exact⟨rfl,f.low⟩
  | false=>
   have i:=R5 k.symm;have d:r=J7 T.pl ⟨4,ai,tick,ah,seq,bt,attempt,node,br⟩:=l.trans ((Ac (λc=>i c.2)).trans ((Ac (by show ¬((4:Int)=1);decide)).trans ((Ac (by show ¬((4:Int)=6);decide)).trans ((Ac (by show ¬((4:Int)=2);decide)).trans (Ac (by show ¬((8:Int)<=4/\(4:Int)<=11);decide))))));replace⟨d,i⟩:=H2 d i;have a:CS prog 60 #[Q (Z ⟨tb,0,I⟩),(Value.agg #[G O 4,G O ai,G O tick,G O ah,G O seq,G O bt,G O attempt,G O node,G O br,J so m sc])] s (Il s r):=(by rw[d.out];exact p.out as9 s f.low);replace a:=Hh a;go_wp2_with (go_at_call 60;(with_reducible refine(a.out).mono ?_);rintro e w3 ⟨rfl,g⟩;replace g:=Hh g);go_ret;exact⟨rfl,f.low.trans (g.mono f.low.size)⟩
 .cases b with
  | true=>
   have i:=Io k.symm;have d:=l.trans (Ad ⟨rfl,i⟩);subst d;replace i:=Hh i;go_wp2;go_ret;exact⟨rfl,f.low⟩
  | false=>
   have i:=R5 k.symm;have d:r=J7 T.pl ⟨5,ai,tick,ah,seq,bt,attempt,node,br⟩:=l.trans ((Ac (λc=>i c.2)).trans ((Ac (by show ¬((5:Int)=1);decide)).trans ((Ac (by show ¬((5:Int)=6);decide)).trans ((Ac (by show ¬((5:Int)=2);decide)).trans (Ac (by show ¬((8:Int)<=5/\(5:Int)<=11);decide))))));replace⟨d,i⟩:=H2 d i;have a:CS prog 60 #[Q (Z ⟨tb,0,I⟩),(Value.agg #[G O 5,G O ai,G O tick,G O ah,G O seq,G O bt,G O attempt,G O node,G O br,J so m sc])] s (Il s r):=(by rw[d.out];exact p.out as9 s f.low);replace a:=Hh a;go_wp2_with (go_at_call 60;(with_reducible refine(a.out).mono ?_);rintro e w3 ⟨rfl,g⟩;replace g:=Hh g);go_ret;exact⟨rfl,f.low.trans (g.mono f.low.size)⟩
 .exact absurd o.out ad9
 .exact absurd o.out ad9
 .exact absurd o.out ad9
 .exact absurd o.out ad9
 .cases b with
  | true=>
   have i:=Io k.symm;have d:=l.trans (Ad ⟨rfl,i⟩);subst d;replace i:=Hh i;go_wp2;go_ret;exact⟨rfl,f.low⟩
  | false=>
   have i:=R5 k.symm;have d:r=Lp T.pl ⟨10,ai,tick,ah,seq,bt,attempt,node,br⟩:=l.trans ((Ac (λc=>i c.2)).trans ((Ac (by show ¬((10:Int)=1);decide)).trans ((Ac (by show ¬((10:Int)=6);decide)).trans ((Ac (by show ¬((10:Int)=2);decide)).trans (Ad (by show((8:Int)<=10/\(10:Int)<=11);decide))))));replace⟨d,i⟩:=H2 d i;have a:CS prog 59 #[Q (Z ⟨tb,0,I⟩),(Value.agg #[G O 10,G O ai,G O tick,G O ah,G O seq,G O bt,G O attempt,G O node,G O br,J so m sc])] s (Il s r):=(by rw[d.out];exact u.out as9 s f.low);replace a:=Hh a;go_wp2_with (go_at_call 59;(with_reducible refine(a.out).mono ?_);rintro e w3 ⟨rfl,g⟩;replace g:=Hh g);go_ret;exact⟨rfl,f.low.trans (g.mono f.low.size)⟩
 .cases b with
  | true=>
   have i:=Io k.symm;have d:=l.trans (Ad ⟨rfl,i⟩);subst d;replace i:=Hh i;go_wp2;go_ret;exact⟨rfl,f.low⟩
  | false=>
   have i:=R5 k.symm;have d:r=Lp T.pl ⟨11,ai,tick,ah,seq,bt,attempt,node,br⟩:=l.trans ((Ac (λc=>i c.2)).trans ((Ac (by show ¬((11:Int)=1);decide)).trans ((Ac (by show ¬((11:Int)=6);decide)).trans ((Ac (by show ¬((11:Int)=2);decide)).trans (Ad (by show((8:Int)<=11/\(11:Int)<=11);decide))))));replace⟨d,i⟩:=H2 d i;have a:CS prog 59 #[Q (Z ⟨tb,0,I⟩),(Value.agg #[G O 11,G O ai,G O tick,G O ah,G O seq,G O bt,G O attempt,G O node,G O br,J so m sc])] s (Il s r):=(by rw[d.out];exact u.out as9 s f.low);replace a:=Hh a;go_wp2_with (go_at_call 59;(with_reducible refine(a.out).mono ?_);rintro e w3 ⟨rfl,g⟩;replace g:=Hh g);go_ret;exact⟨rfl,f.low.trans (g.mono f.low.size)⟩
def Ad7   (x:de) (h:An w T) (hj:T.js.length<=1000000) (hx:x.ok w) :
  CS prog 31 #[Q (Z ⟨T.tb,0,I⟩),x.val] w (Il w (Dz T.vs T.pl x.pl)):=by
 by_cases aA:Br x.n.kind=true
 .exact A1e x h hj hx aA
 obtain⟨r,hr⟩:=Ex (Dz T.vs T.pl x.pl);rw[<-hr];have am:=Ll.new w x;have al:=Ahr x _ (am.ok hx);by_cases hm:F4 x.pl=true;rotate_left
 .have aE:F4 x.pl=false:=by simpa using hm
  rw[Ym aE]at al;have aO:r=130:=by rw[hr];unfold Dz;rw[Ad aE]
  subst aO;obtain⟨⟨p,ai,tick,ah,seq,bt,attempt,node,br⟩,so,m,sc,di⟩:=x;replace⟨am,al,hm,aE,hr,h,hx⟩:=H7 am al hm aE hr h hx;go_enter Nl,Ni;go_wp2_with fail;refine al.mono ?_;rintro e w1 ⟨rfl,i⟩;have b:=am.below i;replace⟨b,i⟩:=H2 b i;go_wp2;go_ret;exact⟨rfl,b.low⟩
 rw[Ahn hm]at al;obtain⟨hk,aK,f1,f2,_,_⟩:=Ry hm;have aL:=hx.di.len;have aH:x.m<=1000:=by have:x.pl.specs.length=x.di.length:=Ar _;omega
 have aD:∀W,BW w.heap.size w W->CS prog 58 #[Q (Z ⟨T.tb,0,I⟩),J x.so x.m x.c] W (G5 (B9 T.vs T.js.length (x.di.map ay.pl)) W):=λW hW=>Ad6 (h.low hW) h.dn.ok hj x.so x.m x.c x.di (hx.di.low hW) aH;have av:(x.n.kind=8\/x.n.kind=9\/x.n.kind=10\/x.n.kind=11)->∀W,BW w.heap.size w W->CS prog 59 #[Q (Z ⟨T.tb,0,I⟩),x.val] W (Il W (Lp T.pl x.n)):=λhk W hW=>Al0 x (h.low hW) (f2 (.inr hk)) hk;have aB:(x.n.kind=3\/x.n.kind=4\/x.n.kind=5\/x.n.kind=7)->∀W,BW w.heap.size w W->CS prog 60 #[Q (Z ⟨T.tb,0,I⟩),x.val] W (Il W (J7 T.pl x.n)):=λhk W hW=>Al1 x (h.low hW) (f1 hk);have aI:=hx.xw 3;obtain⟨⟨cs,ce,cf,aJ⟩,aG⟩:∃c,c=E0 T.cls x.n.ah:=⟨_,rfl⟩
 have aC:∀W,An W T->(Instr.lookup 108 (.map (Z T.mb)) (G O x.n.ah) false).run prog W=.ok (Gu ⟨cs,ce,cf,aJ⟩) W:=λW hW=>by
  rw[aG];exact Zo hW.cls aI.1 aI.2
 unfold Gu at aC
 have ap:r=Amv T.vs T.pl x.pl cs:=by
  rw[hr];unfold Dz;rw[Ac (by rw[hm];simp)]
  have:(E0 T.pl.cls x.pl.n.ah).seq=cs:=by show(E0 T.cls x.n.ah).seq=cs;rw[<-aG]
  rw[this];rfl
 obtain⟨tb,aF⟩:=Ex (T.tb);obtain⟨aM,ad⟩:=Ex (T.ai);obtain⟨aN,af⟩:=Ex (T.tick)
 have ac:∀W,An W T->W.cell? ⟨tb,0,I⟩=Z (G O aM)/\W.cell? ⟨tb,1,I⟩=Z (G O aN)/\W.cell? ⟨tb,2,I⟩=Z (.map (Z T.mb)):=λW hW=>by
  rw[aF,ad,af];exact⟨Aa hW.head 0,Aa hW.head 1,Aa hW.head 2⟩
 rw[<-aF];rw[<-aF]at aD av aB;clear hr f1 f2 aF aG aI;obtain⟨⟨p,ai,tick,ah,seq,bt,attempt,node,br⟩,so,m,sc,di⟩:=x;replace aC:∀W,An W T->(Instr.lookup 108 (.map (Z T.mb)) (G O ah) false).run prog W=.ok (.agg #[G O cs,G O ce,G O cf,G O aJ]) W:=aC;replace hk:p=1\/p=2\/p=3\/p=4\/p=5\/p=6\/p=7\/p=8\/p=9\/p=10\/p=11:=hk;replace⟨am,al,hm,h,hx,aK,aL,aH⟩:=H8 am al hm h hx aK aL aH;replace⟨aD,av,aB,aC,ap,ac⟩:=H6 aD av aB aC ap ac;rcases hk with rfl|rfl|rfl|rfl|rfl|rfl|rfl|rfl|rfl|rfl|rfl
 .have ao:=Hh λW=>by
   have:=Qg 1 W;rw[show Br 1=false from rfl]at this;exact this
  by_cases q:ai<=aM
  .have o:=ap.trans ((Ac (by show ¬(Br 1=true/\_);exact λc=>absurd c.1 ad9)).trans ((Ad rfl).trans (Ad (by rw[ad]at q;exact q))));subst o;clear ad af;go_enter Nl,Ni;go_wp2_with fail;refine al.mono ?_;rintro e w1 ⟨rfl,i⟩;have b:=am.below i;have f:=h.low b.low;obtain⟨c0,c1,c2⟩:=ac w1 f;obtain⟨t,u,v,y,z,e5,e6,e7,e8,e9⟩:=C10 b.box;(try dsimp only at t u v y z e5 e6 e7 e8 e9);replace⟨b,f,i⟩:=H3 b f i;go_upto_region 6 with fail;go_quiet (first|(go_at_call 46;(with_reducible exact K2 (ao.out _))));rename_i nq;obtain⟨s,k⟩:=Ex (w1.drewN nq);have g:BW w1.heap.size w1 s:=(by rw[k];exact Ba _ w1 nq);have a:=b.below g;have j:=f.low g;rw[<-k];clear k c0 c1 c2;clear t u v y z e5 e6 e7 e8 e9;obtain⟨c0,c1,c2⟩:=ac s j;obtain⟨t,u,v,y,z,e5,e6,e7,e8,e9⟩:=C10 a.box;(try dsimp only at t u v y z e5 e6 e7 e8 e9);have d:=λn=>a.low.trans ((Ba _ s n).mono a.low.size);replace⟨g,a,j,d⟩:=H4 g a j d;go_upto_region 9 with fail;go_quiet (fail);go_wp2;go_ret;exact⟨rfl,d _⟩
  .have o:=ap.trans ((Ac (by show ¬(Br 1=true/\_);exact λc=>absurd c.1 ad9)).trans ((Ad rfl).trans (Ac (by rw[ad]at q;exact q))));subst o;clear ad af;go_enter Nl,Ni;go_wp2_with fail;refine al.mono ?_;rintro e w1 ⟨rfl,i⟩;have b:=am.below i;have f:=h.low b.low;obtain⟨c0,c1,c2⟩:=ac w1 f;obtain⟨t,u,v,y,z,e5,e6,e7,e8,e9⟩:=C10 b.box;(try dsimp only at t u v y z e5 e6 e7 e8 e9);replace⟨b,f,i⟩:=H3 b f i;go_upto_region 6 with fail;go_quiet (first|(go_at_call 46;(with_reducible exact K2 (ao.out _))));rename_i nq;obtain⟨s,k⟩:=Ex (w1.drewN nq);have g:BW w1.heap.size w1 s:=(by rw[k];exact Ba _ w1 nq);have a:=b.below g;have j:=f.low g;rw[<-k];clear k c0 c1 c2;clear t u v y z e5 e6 e7 e8 e9;obtain⟨c0,c1,c2⟩:=ac s j;obtain⟨t,u,v,y,z,e5,e6,e7,e8,e9⟩:=C10 a.box;(try dsimp only at t u v y z e5 e6 e7 e8 e9);have d:=λn=>a.low.trans ((Ba _ s n).mono a.low.size);replace⟨g,a,j,d⟩:=H4 g a j d;go_upto_region 9 with fail;go_quiet (fail);go_wp2;go_ret;exact⟨rfl,d _⟩
 .exact absurd rfl aA
 .exact absurd rfl aA
 .exact absurd rfl aA
 .exact absurd rfl aA
 .have ao:=Hh λW=>by
   have:=Qg 6 W;rw[show Br 6=false from rfl]at this;exact this
  by_cases q:tick<=aN
  .have o:=ap.trans ((Ac (by show ¬(Br 6=true/\_);exact λc=>absurd c.1 ad9)).trans ((Ac (by show ¬((6:Int)=1);decide)).trans ((Ad rfl).trans (Ad (by rw[af]at q;exact q)))));subst o;clear ad af;go_enter Nl,Ni;go_wp2_with fail;refine al.mono ?_;rintro e w1 ⟨rfl,i⟩;have b:=am.below i;have f:=h.low b.low;obtain⟨c0,c1,c2⟩:=ac w1 f;obtain⟨t,u,v,y,z,e5,e6,e7,e8,e9⟩:=C10 b.box;(try dsimp only at t u v y z e5 e6 e7 e8 e9);replace⟨b,f,i⟩:=H3 b f i;go_upto_region 6 with fail;go_quiet (first|(go_at_call 46;(with_reducible exact K2 (ao.out _))));rename_i nq;obtain⟨s,k⟩:=Ex (w1.drewN nq);have g:BW w1.heap.size w1 s:=(by rw[k];exact Ba _ w1 nq);have a:=b.below g;have j:=f.low g;rw[<-k];clear k c0 c1 c2;clear t u v y z e5 e6 e7 e8 e9;obtain⟨c0,c1,c2⟩:=ac s j;obtain⟨t,u,v,y,z,e5,e6,e7,e8,e9⟩:=C10 a.box;(try dsimp only at t u v y z e5 e6 e7 e8 e9);have d:=λn=>a.low.trans ((Ba _ s n).mono a.low.size);replace⟨g,a,j,d⟩:=H4 g a j d;go_upto_region 11 with fail;go_quiet (fail);go_wp2;go_ret;exact⟨rfl,d _⟩
  .have o:=ap.trans ((Ac (by show ¬(Br 6=true/\_);exact λc=>absurd c.1 ad9)).trans ((Ac (by show ¬((6:Int)=1);decide)).trans ((Ad rfl).trans (Ac (by rw[af]at q;exact q)))));subst o;clear ad af;go_enter Nl,Ni;go_wp2_with fail;refine al.mono ?_;rintro e w1 ⟨rfl,i⟩;have b:=am.below i;have f:=h.low b.low;obtain⟨c0,c1,c2⟩:=ac w1 f;obtain⟨t,u,v,y,z,e5,e6,e7,e8,e9⟩:=C10 b.box;(try dsimp only at t u v y z e5 e6 e7 e8 e9);replace⟨b,f,i⟩:=H3 b f i;go_upto_region 6 with fail;go_quiet (first|(go_at_call 46;(with_reducible exact K2 (ao.out _))));rename_i nq;obtain⟨s,k⟩:=Ex (w1.drewN nq);have g:BW w1.heap.size w1 s:=(by rw[k];exact Ba _ w1 nq);have a:=b.below g;have j:=f.low g;rw[<-k];clear k c0 c1 c2;clear t u v y z e5 e6 e7 e8 e9;obtain⟨c0,c1,c2⟩:=ac s j;obtain⟨t,u,v,y,z,e5,e6,e7,e8,e9⟩:=C10 a.box;(try dsimp only at t u v y z e5 e6 e7 e8 e9);have d:=λn=>a.low.trans ((Ba _ s n).mono a.low.size);replace⟨g,a,j,d⟩:=H4 g a j d;go_upto_region 11 with fail;go_quiet (fail);go_wp2;go_ret;exact⟨rfl,d _⟩
 .have ao:=Hh λW=>by
   have:=Qg 7 W;rw[show Br 7=false from rfl]at this;exact this
  have o:r=J7 T.pl ⟨7,ai,tick,ah,seq,bt,attempt,node,br⟩:=ap.trans ((Ac (by show ¬(Br 7=true/\_);exact λc=>absurd c.1 ad9)).trans ((Ac (by show ¬((7:Int)=1);decide)).trans ((Ac (by show ¬((7:Int)=6);decide)).trans ((Ac (by show ¬((7:Int)=2);decide)).trans (Ac (by show ¬((8:Int)<=7/\(7:Int)<=11);decide))))));clear ad af;replace o:=Hh o;go_enter Nl,Ni;go_wp2_with fail;refine al.mono ?_;rintro e w1 ⟨rfl,i⟩;have b:=am.below i;have f:=h.low b.low;obtain⟨c0,c1,c2⟩:=ac w1 f;obtain⟨t,u,v,y,z,e5,e6,e7,e8,e9⟩:=C10 b.box;(try dsimp only at t u v y z e5 e6 e7 e8 e9);replace⟨b,f,i⟩:=H3 b f i;go_upto_region 6 with fail;go_quiet (first|(go_at_call 46;(with_reducible exact K2 (ao.out _))));rename_i nq;obtain⟨s,k⟩:=Ex (w1.drewN nq);have g:BW w1.heap.size w1 s:=by rw[k];exact Ba _ w1 nq
  have a:=b.below g;have j:=f.low g;rw[<-k];clear k c0 c1 c2;clear t u v y z e5 e6 e7 e8 e9;obtain⟨c0,c1,c2⟩:=ac s j;obtain⟨t,u,v,y,z,e5,e6,e7,e8,e9⟩:=C10 a.box;(try dsimp only at t u v y z e5 e6 e7 e8 e9);have d:=λn=>a.low.trans ((Ba _ s n).mono a.low.size);replace⟨g,a,j,d⟩:=H4 g a j d;have l:CS prog 60 #[Q (Z ⟨tb,0,I⟩),(Value.agg #[G O 7,G O ai,G O tick,G O ah,G O seq,G O bt,G O attempt,G O node,G O br,J so m sc])] s (Il s r):=by rw[o.out];exact aB.out as9 s a.low
  replace l:=Hh l;go_wp2_with (go_at_call 60;(with_reducible refine(l.out).mono ?_);rintro e w3 ⟨rfl,an⟩;replace an:=Hh an);go_ret;exact⟨rfl,a.low.trans (an.mono a.low.size)⟩
 .have ao:=Hh λW=>by
   have:=Qg 8 W;rw[show Br 8=false from rfl]at this;exact this
  have o:r=Lp T.pl ⟨8,ai,tick,ah,seq,bt,attempt,node,br⟩:=ap.trans ((Ac (by show ¬(Br 8=true/\_);exact λc=>absurd c.1 ad9)).trans ((Ac (by show ¬((8:Int)=1);decide)).trans ((Ac (by show ¬((8:Int)=6);decide)).trans ((Ac (by show ¬((8:Int)=2);decide)).trans (Ad (by show((8:Int)<=8/\(8:Int)<=11);decide))))));clear ad af;replace o:=Hh o;go_enter Nl,Ni;go_wp2_with fail;refine al.mono ?_;rintro e w1 ⟨rfl,i⟩;have b:=am.below i;have f:=h.low b.low;obtain⟨c0,c1,c2⟩:=ac w1 f;obtain⟨t,u,v,y,z,e5,e6,e7,e8,e9⟩:=C10 b.box;(try dsimp only at t u v y z e5 e6 e7 e8 e9);replace⟨b,f,i⟩:=H3 b f i;go_upto_region 6 with fail;go_quiet (first|(go_at_call 46;(with_reducible exact K2 (ao.out _))));rename_i nq;obtain⟨s,k⟩:=Ex (w1.drewN nq);have g:BW w1.heap.size w1 s:=by rw[k];exact Ba _ w1 nq
  have a:=b.below g;have j:=f.low g;rw[<-k];clear k c0 c1 c2;clear t u v y z e5 e6 e7 e8 e9;obtain⟨c0,c1,c2⟩:=ac s j;obtain⟨t,u,v,y,z,e5,e6,e7,e8,e9⟩:=C10 a.box;(try dsimp only at t u v y z e5 e6 e7 e8 e9);have d:=λn=>a.low.trans ((Ba _ s n).mono a.low.size);replace⟨g,a,j,d⟩:=H4 g a j d;have l:CS prog 59 #[Q (Z ⟨tb,0,I⟩),(Value.agg #[G O 8,G O ai,G O tick,G O ah,G O seq,G O bt,G O attempt,G O node,G O br,J so m sc])] s (Il s r):=by rw[o.out];exact av.out as9 s a.low
  replace l:=Hh l;go_wp2_with (go_at_call 59;(with_reducible refine(l.out).mono ?_);rintro e w3 ⟨rfl,an⟩;replace an:=Hh an);go_ret;exact⟨rfl,a.low.trans (an.mono a.low.size)⟩
 .have ao:=Hh λW=>by
   have:=Qg 9 W;rw[show Br 9=false from rfl]at this;exact this
  have o:r=Lp T.pl ⟨9,ai,tick,ah,seq,bt,attempt,node,br⟩:=ap.trans ((Ac (by show ¬(Br 9=true/\_);exact λc=>absurd c.1 ad9)).trans ((Ac (by show ¬((9:Int)=1);decide)).trans ((Ac (by show ¬((9:Int)=6);decide)).trans ((Ac (by show ¬((9:Int)=2);decide)).trans (Ad (by show((8:Int)<=9/\(9:Int)<=11);decide))))));clear ad af;replace o:=Hh o;go_enter Nl,Ni;go_wp2_with fail;refine al.mono ?_;rintro e w1 ⟨rfl,i⟩;have b:=am.below i;have f:=h.low b.low;obtain⟨c0,c1,c2⟩:=ac w1 f;obtain⟨t,u,v,y,z,e5,e6,e7,e8,e9⟩:=C10 b.box;(try dsimp only at t u v y z e5 e6 e7 e8 e9);replace⟨b,f,i⟩:=H3 b f i;go_upto_region 6 with fail;go_quiet (first|(go_at_call 46;(with_reducible exact K2 (ao.out _))));rename_i nq;obtain⟨s,k⟩:=Ex (w1.drewN nq);have g:BW w1.heap.size w1 s:=by rw[k];exact Ba _ w1 nq
  have a:=b.below g;have j:=f.low g;rw[<-k];clear k c0 c1 c2;clear t u v y z e5 e6 e7 e8 e9;obtain⟨c0,c1,c2⟩:=ac s j;obtain⟨t,u,v,y,z,e5,e6,e7,e8,e9⟩:=C10 a.box;(try dsimp only at t u v y z e5 e6 e7 e8 e9);have d:=λn=>a.low.trans ((Ba _ s n).mono a.low.size);replace⟨g,a,j,d⟩:=H4 g a j d;have l:CS prog 59 #[Q (Z ⟨tb,0,I⟩),(Value.agg #[G O 9,G O ai,G O tick,G O ah,G O seq,G O bt,G O attempt,G O node,G O br,J so m sc])] s (Il s r):=by rw[o.out];exact av.out as9 s a.low
  replace l:=Hh l;go_wp2_with (go_at_call 59;(with_reducible refine(l.out).mono ?_);rintro e w3 ⟨rfl,an⟩;replace an:=Hh an);go_ret;exact⟨rfl,a.low.trans (an.mono a.low.size)⟩
 .exact absurd rfl aA
 .exact absurd rfl aA
