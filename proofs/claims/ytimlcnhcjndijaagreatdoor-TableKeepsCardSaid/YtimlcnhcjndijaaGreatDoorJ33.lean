/- Parts of a proof. No condition. -/
import Derived.Test.YtimlcnhcjndijaaGreatDoorJ25
import Derived.Test.YtimlcnhcjndijaaGreatDoorJ32
set_option linter.all false
set_option maxRecDepth 100000
set_option maxHeartbeats 4000000
namespace Go.Proofs.YtimlcnhcjndijaaGreatDoor
open Option renaming none->I,some->O
open Value renaming slice->V,pointer->K,int->Z,bool->Q,string->D,tuple->E
open IntKind renaming i64->G
open Obj renaming cells->J
open Go renaming World->WD,Value->VL
open Go.RowKit renaming Below->BW
open Go.Proofs.Tryz
section
open Go.RowKit Go.Maps Go.Lib
def Cm (vs:List ar) (n:Nat) (l:List du):List (List Int)×Int:=
 match l.find? λs=>decide (D7 s vs≠0)with
 | some s=>([],D7 s vs)
 | none=>if 100<(n:Int)+I5 l then([],140)else G9 ((n:Int)+1) (l.map λs=>s.array) (l.map λs=>s.after)
def No (vs:List ar) (t:dq) (l:List du):dq×Cl:=
 let js:=Es (l.zip (Cm vs t.ab.length l).1) t.ab
 (t.gq (C2 js),⟨0,0,(t.ab.length:Int)+1,(js.length:Int)⟩)
def Ea (vs:List ar) (t:dq) (e:dy):Int:=
 if Gq e=false then 130
 else if B6 e.n.kind=true/\e.n.seq<=(Lc t.cls e.n.ag).seq then 141
 else if e.n.kind=1 then(if e.n.ai<=t.ai then 141 else 0)
 else if e.n.kind=6 then(if e.n.tick<=t.tick then 141 else 0)
 else if e.n.kind=2 then(Cm vs t.ab.length e.specs).2
 else if 8<=e.n.kind/\e.n.kind<=11 then Li t e.n
 else J7 t e.n
noncomputable def cq (vs:List ar) (t:dq) (e:dy):dq×Cl:=
 if e.n.kind=1 then({ t with ai:=e.n.ai },⟨0,0,0,0⟩)
 else if e.n.kind=2 then No vs t e.specs
 else if e.n.kind=6 then(Ro vs t e.n.tick,⟨0,0,0,0⟩)
 else if e.n.kind=7 then(Ah9 t e.n,⟨0,0,0,0⟩)
 else if 8<=e.n.kind/\e.n.kind<=11 then(Md t e.n,⟨0,0,0,0⟩)
 else Ah8 t e.n
noncomputable def Bi (vs:List ar) (t:dq) (e:dy):dq×Cl×Int:=
 if Ea vs t e≠0 then(t,⟨0,0,0,0⟩,Ea vs t e)
 else
  let d:=cq vs t e
  (if B6 e.n.kind=true then { d.1 with cls:=G2 d.1.cls e.n.ag ⟨e.n.seq,d.2.e,d.2.first,d.2.last⟩ } else d.1,d.2,0)
structure Kh (w:WD) (B:Nat) (v:VL) (svs:List VL):Prop where
 row:w.ownsRow B 31 1 v svs.length svs
def Kh.nil (w:WD) (B:Nat):Kh w B (V I 0 0) []:=⟨rfl,.inl ⟨rfl,rfl⟩⟩
def Kh.mod {w w':WD} {B:Nat} {S:Nat->Prop} {v:VL} {l:List VL} (h:Kh w B v l) (a:Mod S w w') (b:∀k,v.ownBlock=O k->¬S k):Kh w' B v l:=⟨Bd h.row a b⟩
def Kh.lt {w:WD} {B:Nat} {v:VL} {l:List VL} (h:Kh w B v l):∀k,v.ownBlock=O k->B<=k/\k<w.heap.size:=λk a=>h.row.lt k a
def Ayy {m:Array Oper} {rest:List Oper} {o:Oper} {a:Act} {w:WD} {Q9q:Exit->Act->WD->Prop} (y:o.guard=I) (s x:Operand)
  (ho:o.op=.call { callee:=.builtin .append,args:=#[s,x],argTypes:=#[137,137] })
  (B L:Nat) (v:VL) (hs:a.eval s=v) {l:List VL} (f:Kh w B v l) (r:l.length=L) (q:Addr) (c:Nat) (hx:a.eval x=V (O q) 1 c) (so:Option Addr) (n sc:Nat) (hk:w.cell? q=O (V so n sc)) (hL:L<=1000000000) (hb:B<=w.heap.size)
  (h:∀g cap w',Kh w' B (V (O ⟨g,0,I⟩) (L+1) cap) (l++[V so n sc])->w.grownBy w' v.ownBlock->(v.ownBlock=O g\/g=w.heap.size)->wpList prog m Q9q rest (a.put o.dst (V (O ⟨g,0,I⟩) (L+1) cap)) w') :
  wpList prog m Q9q (o :: rest) a w:=by
 obtain⟨i3,z,ac,i,k⟩:=Cf Alb;subst r;refine R6 w y s x 137 ho B 31 i3 _ 1 24 underlying137 z ac i k rfl ad9 v l.length l hs f.row q 1 c [V so n sc] hx rfl ?_ (by simp[Value.oneCell']) (If (n:=l.length) ao9) ao9 hb ?_
 .intro j u p
  match j,p with
  | 0,p=>
   simp at p;subst p;simpa[Addr.add]using hk
 .intro v' w' b d _ t;obtain⟨g,cap,rfl⟩:=Joins.ownsRow_form b ao9;refine h g cap w' ⟨?_⟩ d ?_
  .rw [Cn];simpa using b
  .rcases t with e|e
   .exact .inl e.symm
   .simp [Value.ownBlock]at e;exact .inr e
def Alh {α:Type} {p:α->Bool}:∀ {l:List α} {i:Nat} {s:α},(∀(k:Nat) (y:α),k<i->l[k]?=O y->p y=false)->l[i]?=O s->p s=true->l.find? p=O s
 | [],i,s,_,h,_=>by simp at h
 | y :: l,0,s,_,h,hp=>by
  simp at h;subst h;simp[List.find?,hp]
 | y :: l,i+1,s,hk,h,hp=>by
  have h0:=hk 0 y ao9 as9;simp only[List.find?,h0];exact Alh (i:=i) (λk z a b=>hk (k+1) z ao9 (by simpa using b)) (by simpa using h) hp
def Ayz {vs:List ar} {n:Nat} {l:List du} {i:Nat} {s:du} (b:∀(k:Nat) (y:du),k<i->l[k]?=O y->D7 y vs=0) (h:l[i]?=O s) (c:D7 s vs≠0):Cm vs n l=([],D7 s vs):=by
 have:=Alh (p:=λs=>decide (D7 s vs≠0)) (λk y h1 a=>by simp[b k y h1 a]) h (by simp[c]);unfold Cm;rw[this]
def Ay0 {vs:List ar} {n:Nat} {l:List du} (b:∀(k:Nat) (y:du),k<l.length->l[k]?=O y->D7 y vs=0):Cm vs n l=if 100<(n:Int)+I5 l then([],140)else G9 ((n:Int)+1) (l.map λs=>s.array) (l.map λs=>s.after):=by
 have:(l.find? λs=>decide (D7 s vs≠0))=I:=by rw[R8];intro s c;obtain⟨k,a⟩:=B4 c;simp[b k s (An.1 a).1 a]
 unfold Cm;rw[this]
def Jd {s:du} {vs:List ar} (h:D7 s vs=0):El s=true:=by
 unfold D7 at h;split at h
 .omega
 .rename_i q;simpa using q
def Np (xs:List ay):List VL:=xs.map λx=>V x.so x.n x.c
def Kh.rows {w:WD} {B:Nat} {j:Option Addr} {n c:Nat} {xs:List ay} (h:Kh w B (V j n c) (Np xs)) (u:∀x,x∈xs->x.ok w) (h1:xs.length<=1000) (q:∀x,x∈xs->x.pl.after.length<=100000):n=xs.length/\Ru w j n (xs.map λx=>x.pl.after):=by
 have m:(Np xs).length=xs.length:=by simp[Np]
 have o:=h.row;rcases o.2 with⟨e,h0⟩|⟨g,cap,p,e,v,s,t,z,k⟩
 .injection e with e1 e2 e3;subst e1 e2;have f:xs=[]:=Ib.1 ao9;subst f;exact⟨rfl,rfl,ao9,λi l m=>by simp at m⟩
 .injection e with e1 e2 e3;subst e1;refine⟨ao9,by simp;omega,ao9,λi l a=>?_⟩;rw[A7]at a
  cases hxi:xs[i]? with
  | none=>rw[hxi]at a;cases a
  | some x=>
   rw[hxi]at a;simp at a;subst a;have y:=(An.1 hxi).1;have d:=Ai hxi;have b:=u x d;subst e2;have r:=F0 o i ao9;refine⟨g,0,x.so,x.c,rfl,Ab s,?_,?_,?_,q x d⟩
   .rw [Db,r];simp[Np,hxi,b.after.len]
   .rw [b.after.len];exact b.after
   .rw [b.after.len];exact b.lr
variable {w w' wr:WD} {T:Tv}
def Ao.vd (h:Ao w T) {b:Nat} {x:aj} {jv:VL} (u:Mod (λk=>k=T.tb\/T.jv.ownBlock=O k) w w')
  (hd:w'.heap[T.tb]?=O (J #[Z G T.ai,Z G T.tick,.map (O T.mb),T.nv,jv,K (O ⟨T.fb,0,I⟩),T.cv] 115 (0,0)))
  (z:w'.ownsRow 0 125 1 jv (T.js.length+1) ((T.js.map λj=>K (O ⟨j.1,0,I⟩))++[K (O ⟨b,0,I⟩)]))
  (ad:∀k,jv.ownBlock=O k->T.jv.ownBlock=O k\/w.heap.size<=k)
  (hb:w.heap.size<=b) (p:Bj w' b x) (i:x.po=I/\x.pn=0/\x.pc=0/\x.pl.parts=[]) (m:x.go=I/\x.gn=0/\x.gc=0/\x.pl.ah=[])
  (an:At w' x.so x.sn x.pl.sp.after) (ac:∀k o,x.so=O ⟨k,o,I⟩->∃c,w'.heap[k]?=O (J c 3 (0,0))) (am:x.sn<=x.sc) (hu:x.pl.sp.user.size<=maxLen) (hp:x.pl.sp.part.size<=maxLen) :
  Ao w' { T with jv:=jv,js:=T.js++[(b,x)] }/\∀k,({ T with jv:=jv,js:=T.js++[(b,x)] }:Tv).ax k->T.ax k\/w.heap.size<=k:=by
 have t:x.pb=I:=by unfold aj.pb;rw[i.1];rfl
 have ax:∀k,({ T with jv:=jv,js:=T.js++[(b,x)] }:Tv).ax k->T.ax k\/w.heap.size<=k:=λk c=>by
  rcases c with e|e|e|e|⟨j,d,e⟩
  .exact .inl (.inl e)
  .exact .inl (.inr (.inl e))
  .exact .inl (.inr (.inr (.inl e)))
  .rcases ad k e with e|e
   .exact .inl (.inr (.inr (.inr (.inl e))))
   .exact .inr e
  .rcases Dl.1 d with d|d
   .exact .inl (.inr (.inr (.inr (.inr ⟨j,d,e⟩))))
   .have d:=Jj.1 d;subst d;rcases e with e|e
    .exact .inr (by rw[<-e];exact hb)
    .rw [t]at e;cases e
 have jb:∀k,T.jv.ownBlock=O k->∃c,w.heap[k]?=O (J c 125 (0,0)):=λk e=>by
  obtain⟨c,f,_⟩:=C7 h.ab e;exact⟨c,f⟩
 have y:Mod T.ax w w':=u.mono λk _ e=>e.imp id λe=>.inr (.inr (.inl e))
 have l:∀ {B size n:Nat} {Ty:TypeId} {v:VL} {xs:List VL},w.ownsRow B Ty size v n xs->Ty≠125->Ty≠115->∀k,v.ownBlock=O k->¬(k=T.tb\/T.jv.ownBlock=O k):=λz h1 h2 k hk c=>by
  rcases c with e|e
  .subst e;exact Bv z h.head h2 hk
  .obtain ⟨cc,f⟩:=jb k e;exact Bv z f h1 hk
 have q:=h.cls.mod u (λc=>by
  rcases c with e|e
  .exact h.gh h.head e
  .obtain ⟨cc,f⟩:=jb _ e
   exact h.gh f rfl)
 have r:=Bd h.nodes u (l h.nodes ad9 ad9)
 have g:∀j,j∈T.js->Bj w' j.1 j.2:=λj d=>u.au (h.box j d) (λc=>by
  rcases c with e|e
  .exact h.l6 d h.head ad9 e
  .obtain ⟨cc,f⟩:=jb _ e
   exact h.l6 d f ad9 rfl)
 have s:∀j,j∈T.js->Ca w' j.2:=λj d=>Bd (h.ok j d).parts u (l (h.ok j d).parts ad9 ad9)
 have fh:∀k c,w'.heap[k]?=O (J c 3 (0,0))->¬({ T with jv:=jv,js:=T.js++[(b,x)] }:Tv).ax k:=λk c f e=>by
  rcases e with e|e|e|e|⟨j,d,e⟩
  .rw [e]at f;rw[show w'.heap[T.tb]?=_ from hd]at f;injection f with f;injection f with _ f;exact absurd f ad9
  .obtain ⟨es,cl,al⟩:=q.au;rw[e]at f;rw[show w'.heap[T.mb]?=_ from al]at f;injection f with f;cases f
  .exact Bv r f ad9 e
  .exact Bv z f ad9 e
  .rcases Dl.1 d with d|d
   .rcases e with e|e
    .have:=g j d;rw[Bj,e,f]at this;injection this with this;injection this with _ this;exact absurd this ad9
    .exact Bv (s j d) f ad9 e
   .have d:=Jj.1 d;subst d;rcases e with e|e
    .have:=p;rw[Bj,show b=k from e,f]at this;injection this with this;injection this with _ this;exact absurd this ad9
    .rw [show x.pb=I from t]at e;cases e
 refine⟨⟨hd,q,r,?_,Bd h.az u (l h.az ad9 ad9),?_,?_,?_,?_,h.dt.mod y ax,h.same⟩,ax⟩
 .show w'.ownsRow 0 _ 1 jv (T.js++[(b,x)]).length ((T.js++[(b,x)]).map _);rw[Cn,Dk];exact z
 .intro j d;rcases Dl.1 d with d|d
  .exact g j d
  .have d:=Jj.1 d;subst d;exact p
 .intro j d;rcases Dl.1 d with d|d
  .exact (h.ok j d).mod y (λk hk c=>by
    rcases ax k c with c|c
    .exact c
    .omega) (s j d)
  .have d:=Jj.1 d;subst d;refine⟨⟨an,λ_ k o e hS=>?_⟩,am,?_,?_,?_,hu,hp⟩
   .obtain ⟨c,f⟩:=ac k o e;exact fh k c f hS
   .show Eo w' _ x.go x.gn x.pl.ah;rw[m.1,m.2.1,m.2.2.2];exact Ag5 _ _
   .show x.gn<=x.gc;rw[m.2.1];exact As _
   .show Ca w' x;unfold Ca;rw[i.1,i.2.1,i.2.2.1,i.2.2.2];exact Mr _ _ _ _
 .show ((T.js++[(b,x)]).map Prod.fst).Nodup;rw[Dk];refine Sa.2 ⟨h.one,as9,λa ha c f e=>?_⟩;simp at f;obtain⟨j,d,rfl⟩:=A5.1 ha;have:=Ab (h.box j d);rw[e,f]at this;omega
 .show (T.js++[(b,x)]).Pairwise _;refine T7.2 ⟨h.two,as9,λa _ c f k _ e=>?_⟩;have f:=Jj.1 f;subst f;rw[show x.pb=I from t]at e;cases e
structure Eg (w:WD) (T:Tv) (jv:VL) (js:List (Nat×aj)) (wr:WD):Prop where
 at_:Ao wr { T with jv:=jv,js:=js }
 ax:∀b,({ T with jv:=jv,js:=js }:Tv).ax b->T.ax b\/w.heap.size<=b
 mod:Mod T.ax w wr
variable {jv jv':VL} {js:List (Nat×aj)}
def Eg.refl (h:Ao w T):Eg w T T.jv T.js w:=⟨h,λ_ c=>.inl c,Mod.refl _ _⟩
def Eg.low (h:Eg w T jv js wr) (a:BW wr.heap.size wr w'):Eg w T jv js w':=⟨h.at_.low a,h.ax,h.mod.low a⟩
def Eg.ow (h:Eg w T jv js wr) (a:Mod ({ T with jv:=jv,js:=js }:Tv).ax wr w'):Mod T.ax w w':=h.mod.then a λk b c=>by
 rcases h.ax k c with c|c
 .exact c
 .omega
def Eg.add (h:Eg w T jv js wr) {b:Nat} {x:aj} (n:Mod (λk=>k=T.tb\/jv.ownBlock=O k) wr w')
  (r:w'.heap[T.tb]?=O (J #[Z G T.ai,Z G T.tick,.map (O T.mb),T.nv,jv',K (O ⟨T.fb,0,I⟩),T.cv] 115 (0,0)))
  (t:w'.ownsRow 0 125 1 jv' (js.length+1) ((js.map λj=>K (O ⟨j.1,0,I⟩))++[K (O ⟨b,0,I⟩)]))
  (g:∀k,jv'.ownBlock=O k->jv.ownBlock=O k\/wr.heap.size<=k)
  (q:wr.heap.size<=b) (a:Bj w' b x) (i:x.po=I/\x.pn=0/\x.pc=0/\x.pl.parts=[]) (f:x.go=I/\x.gn=0/\x.gc=0/\x.pl.ah=[])
  (m:At w' x.so x.sn x.pl.sp.after) (d:∀k o,x.so=O ⟨k,o,I⟩->∃c,w'.heap[k]?=O (J c 3 (0,0))) (l:x.sn<=x.sc) (u:x.pl.sp.user.size<=maxLen) (s:x.pl.sp.part.size<=maxLen) :
  Eg w T jv' (js++[(b,x)]) w':=by
 obtain⟨h1,p⟩:=Ao.vd (T:={ T with jv:=jv,js:=js }) h.at_ n r t g q a i f m d l u s;refine⟨h1,λk c=>?_,h.ow (n.mono λk _ e=>e.imp id λe=>.inr (.inr (.inl e)))⟩;rcases p k c with c|c
 .exact h.ax k c
 .exact .inr (A8 h.mod.size c)
def Eg.then {a:List (Nat×aj)} (h:Eg w T jv js wr) (d:B7 wr { T with jv:=jv,js:=js } a w'):Eg w T jv a w':=
 ⟨d.at_,λb c=>by
  rcases d.ax b c with c|c
  .exact h.ax b c
  .exact .inr (A8 h.mod.size c),h.ow d.mod⟩
def Eg.jz (h:Eg w T jv js wr) (a:Je w T.js js):Eb w T { T with jv:=jv,js:=js } wr:=⟨h.at_,rfl,rfl,rfl,rfl,rfl,h.ax,h.mod,a⟩
def Eg.set (h:Eg w T jv js wr) {i:Nat} {x j:Nat×aj} (n:js[i]?=O x) (o:j.1=x.1) (p:Mod (G3 x) wr w') (a:Bj w' j.1 j.2) (s:Ca w' j.2) (f:∀b,j.2.pb=O b->x.2.pb=O b\/wr.heap.size<=b)
  (q:Eo w' (({ T with jv:=jv,js:=js }:Tv).cg i j).ax j.2.so j.2.sn j.2.pl.sp.after) (g:j.2.sn<=j.2.sc) (r:Eo w' (({ T with jv:=jv,js:=js }:Tv).cg i j).ax j.2.go j.2.gn j.2.pl.ah) (l:j.2.gn<=j.2.gc)
  (t:j.2.pl.sp.user.size<=maxLen) (m:j.2.pl.sp.part.size<=maxLen):Eg w T jv (js.set i j) w':=by
 have d:∀k,G3 x k->({ T with jv:=jv,js:=js }:Tv).ax k:=λk c=>.inr (.inr (.inr (.inr ⟨x,Ai n,c.imp (λe=>e.symm) id⟩)));refine⟨Ao.cg (T:={ T with jv:=jv,js:=js }) h.at_ n o p a s f q g r l t m,λk c=>?_,h.ow (p.mono λk _ c=>d k c)⟩;rcases Sr (T:={ T with jv:=jv,js:=js }) n o c with c|c
 .exact h.ax k c
 .rcases f k c with c|c
  .exact h.ax k (d k (.inr c))
  .exact .inr (A8 h.mod.size c)
def Aza (l:List (du×List Int)) (p:du×List Int):∀js:List Jb,Es (l++[p]) js=F6 p.1 p.2 (Es l js) p.1.array.toNat:=by
 induction l with
 | nil=>intro js;rfl
 | cons q l ih=>intro js;exact ih _
def Zj (s:du) (a:List Int) (js:List Jb):∀n,(F6 s a js n).length=js.length+n
 | 0=>rfl
 | n+1=>by
  show(F6 s a js n++[_]).length=_;rw[Cn,Zj s a js n];rfl
def Azb {l:List Int} {x:Int} (h:x∈Lib.compact l):x∈l:=by
 unfold Lib.compact Lib.compactUpTo at h;obtain⟨k,a,rfl⟩:=A5.1 h;have a:=Ot.1 (F3.1 a).1;rw[getElem!_pos _ _ (by simpa using a)];simp
def Azc {l:List Int} {x:Int} (h:x∈K0 l):x∈l:=by
 unfold K0 at h;exact Ua.1 h
def Fa (l:List Int):Int:=l.foldl (·+·) 0
def Zk (l:List Int) (a:Int):l.foldl (·+·) a=a+l.foldl (·+·) 0:=by
 induction l generalizing a with
 | nil=>simp
 | cons x l ih=>
  simp only[Ww];rw[ih,ih (0+x)];omega
def Adr (b:Int) (a:List Int) (h1:∀n,n∈a->1<=n):∀k:Nat,k<=a.length->D9 b a k=b+Fa (a.take k)
 | 0,_=>by simp[D9,Fa]
 | k+1,hk=>by
  have d:=Adr b a h1 k ao9;show D9 b a k+(a[k]?).getD 0=_;have c:a[k]?=O a[k]:=A3 _;rw[Jq c,d,c];unfold Fa;rw[Mt];simp;omega
def Vs (d:List Int) (h1:∀n,n∈d->1<=n) (k:Nat):Fa (d.take k)<=Fa d/\0<=Fa (d.take k):=by
 have e:∀l:List Int,(∀n,n∈l->1<=n)->0<=Fa l:=λl=>by
  induction l with
  | nil=>intro _;simp[Fa]
  | cons x l ih=>
   intro h;have h1:=ih λn f=>h n (B2 _ f);have g:=h x Ci;unfold Fa at h1 ⊢;rw[Ww,Zk];omega
 have a:=e (d.take k) λn f=>h1 n (T9 f);have b:=e (d.drop k) λn f=>h1 n (Wl f)
 have c:Fa d=Fa (d.take k)+Fa (d.drop k):=by
  conv=>lhs;rw[<-Mn k d]
  unfold Fa;rw[Mt,Zk]
 omega
def Azd {b:Int} {a:List Int} {r:List Int×List Int} {n:Int} (g:G4 b a.length n=false) (d:∀n,n∈a->1<=n) (h1:1<=b) (h:∀x,x∈r.2->1<=x/\x<b+Fa a) :
  ∀x,x∈(Nn b a r n).2->1<=x/\x<b+Fa a:=by
 intro x c;have f:=(Vs a d a.length).2;rw[Pu]at f;unfold G4 at g;simp at g;unfold Nn at c;split at c
 .rcases Dl.1 c with c|c
  .exact h x c
  .have c:=Jj.1 c;omega
 .rcases Dl.1 c with c|c
  .exact h x c
  .unfold Kg at c;obtain⟨j,e,rfl⟩:=A5.1 c;have e:=Ot.1 e;obtain⟨k,l⟩:∃k:Nat,k=(-1-n).toNat:=⟨_,rfl⟩;rw[<-l]at e ⊢;have m:k<a.length:=ao9;have i:a[k]?=O a[k]:=A3 _;rw[i]at e;have o:=Adr b a d k ao9;have p:=Adr b a d (k+1) ao9;have q:D9 b a (k+1)=D9 b a k+a[k]:=(by show D9 b a k+(a[k]?).getD 0=_;rw[i];rfl);have s:=Vs a d k;have t:=Vs a d (k+1);simp at e;omega
def All {b:Int} {a l:List Int} (e:l.any (G4 b a.length)=false) (c:∀n,n∈a->1<=n) (h1:1<=b):∀j,j<=l.length->∀x,x∈(Di b a l j).2->1<=x/\x<b+Fa a
 | 0,_=>λx d=>by simp[Di]at d
 | j+1,hj=>by
  have d:l[j]?=O l[j]:=A3 _;have f:G4 b a.length l[j]=false:=by have:=List.any_eq_false.1 e l[j] (J1 _);simpa using this
  show ∀x,x∈(Nn b a (Di b a l j) ((l[j]?).getD 0)).2->_;rw[d];exact Azd f c h1 (All e c h1 j ao9)
def Ads {f:Int} {d:List Int} {after:List (List Int)} (h:(G9 f d after).2=0) :
  (G9 f d after).1.length=after.length/\1<=f/\after.length<=8/\(∀n,n∈d->1<=n/\n<=20)/\∀l,l∈(G9 f d after).1->(∀x,x∈l->1<=x/\x<f+Fa d)/\∃g,g∈after/\l.length<=20*g.length:=by
 have h0:=h;unfold G9 at h ⊢;split
 .rename_i c;rw[Ad c]at h;cases h
 rename_i o;rw[Ac o]at h;split
 .rename_i c;rw[Ad c]at h;cases h
 rename_i k;rw[Ac k]at h;split
 .rename_i c;rw[Ad c]at h;cases h
 rename_i m;rw[Ac m]at h;split
 .rename_i c;rw[Ad c]at h;cases h
 have i:∀n,n∈d->1<=n/\n<=20:=λn j=>by
  by_cases e:(decide (n<1) || decide (20<n))=true
  .exact absurd (Kl.2 ⟨n,j,e⟩) k
  .simp at e;omega
 refine⟨as9,ao9,ao9,i,λl q=>?_⟩;obtain⟨g,h0,rfl⟩:=A5.1 q;have p:g.any (G4 f d.length)=false:=by rw[Iu];intro e;exact m (Kl.2 ⟨g,h0,e⟩)
 refine⟨λx r=>All p (λn j=>(i n j).1) ao9 _ Ln x (Azc (Azb r)),g,h0,?_⟩;have a:=Lib.compact_length_le (K0 (Di f d g g.length).2);rw[Zf]at a;have b:=(Zh f d g (λn j=>(i n j).2) g.length).2;unfold K1;omega
end
section
open Go.RowKit Go.Maps Go.Lib
structure Vt (vs:List ar) (s:du) (g:List Int):Prop where
 od:∀x,x∈g->x∈B5 vs s.part
 aw:g.Pairwise (·<·)
 len:(g.length:Int)=s.nodes
structure Fz (vs:List ar) (n k:Nat) (j:Jb):Prop where
 id:j.id=(k:Int)+1
 gp:D7 { j.sp with after:=[] } vs=0
 one:j.sp.array=1
 j5:∀x,x∈j.sp.after->1<=x/\x<=(n:Int)
 ug:j.sp.after.length<=160
 ik:Gc j.lf j.sp.ae
 low:-1<=j.start
 uw:j.start<0->j.ah=[]
 ah:0<=j.start->Vt vs j.sp j.ah/\En j<=1099511627776
 live:cu j.lf.st=true↔j.parts≠[]
 run:cu j.lf.st=true->0<=j.start
 yf:j.lf.st=2->j.start<0
 ends:5<=j.lf.st->j.lf.st<=7->0<=j.start
 pg:j.parts≠[]->j.parts.map Prod.fst=j.ah
 ux:∀p,p∈j.parts->0<=p.2/\p.2<=3
structure Is (vs:List ar) (n k:Nat) (j:Jb):Prop extends Fz vs n k j where
 xl:j.parts≠[]->j.open_=true
def Gs (vs:List ar) (js:List Jb):Prop:=∀k j,js[k]?=O j->Fz vs js.length k j
def Cs (vs:List ar) (js:List Jb):Prop:=∀k j,js[k]?=O j->Is vs js.length k j
variable {vs:List ar} {n k:Nat} {j:Jb} {js:List Jb}
def Cs.b (h:Cs vs js):Gs vs js:=λk j a=>(h k j a).toFz
def Gs.j5 (h:Gs vs js):Ep js:=λj b d a=>by
 obtain⟨k,c⟩:=B4 b;exact(h k j c).j5 d a
def Fz.more (h:Fz vs n k j) {m:Nat} (b:n<=m):Fz vs m k j:=⟨h.id,h.gp,h.one,λx a=>by have:=h.j5 x a;omega,h.ug,h.ik,h.low,h.uw,h.ah,h.live,h.run,h.yf,h.ends,h.pg,h.ux⟩
def Fz.idle (h:Fz vs n k j) (a:cu j.lf.st=false):j.parts=[]:=by
 by_cases e:j.parts=[]
 .exact e
 .rw [h.live.2 e]at a;cases a
def Vu (h:Fz vs n k j) {l:Lf} (f:Gc l j.sp.ae) (g:l.st=1\/l.st=2\/l.st=8) (e:List (Int×Int)) (d:e=[]):Is vs n k ⟨j.id,j.sp,l,-1,[],e⟩:=by
 subst d;refine⟨⟨h.id,h.gp,h.one,h.j5,h.ug,f,as9,λ_=>rfl,λc=>absurd c as9,?_,λc=>?_,λ_=>by simp,λa b=>?_,λc=>absurd rfl c,λp d=>by simp at d⟩,λc=>absurd rfl c⟩
 .show cu l.st=true↔([]:List (Int×Int))≠[];rw[I3];simp;omega
 .have:=I3.1 c;simp only at this;omega
 .simp only at a b;omega
def Aze {s:Int} (h:Is vs n k j) (h0:(Ay j.lf s).2=0) (m:s=6\/s=1\/s=2):Is vs n k (Ik s j):=by
 obtain⟨f,l⟩:=Ayp h.ik h0 m;unfold Ik;rcases l with⟨h1,d⟩|⟨h1,d,g,i⟩
 .have e:cu (j.move s).lf.st=true:=by show cu (Ay j.lf s).1.st=true;rw[d];rfl
  rw[Ad e]
  exact⟨⟨h.id,h.gp,h.one,h.j5,h.ug,f,h.low,h.uw,h.ah,⟨λ_=>h.live.1 h1,λ_=>e⟩,λ_=>h.run h1,λc=>by
   have c:(Ay j.lf s).1.st=2:=c
   omega,λa b=>by
   have a:5<=(Ay j.lf s).1.st:=a
   omega,h.pg,h.ux⟩,h.xl⟩
 .rw [Ac (by show ¬cu (Ay j.lf s).1.st=true;rw[g];simp)];exact Vu h.toFz f i j.parts (h.idle h1)
def Cs.mod (h:Cs vs js) {i:Nat} {f:Jb->Jb} (b:∀j,js[i]?=O j->Is vs js.length i (f j)):Cs vs (js.modify i f):=λk j a=>by
 rw[Ic];rw[Dj]at a
 cases hk:js[k]? with
 | none=>
  rw[hk]at a;have a:(I:Option Jb)=O j:=a;cases a
 | some y=>
  rw[hk]at a;have a:O (if i=k then f y else y)=O j:=a;split at a
  .rename_i e;subst e;injection a with a;rw[<-a];simpa using b y hk
  .injection a with a;subst a;exact h k y hk
def Gs.mod (h:Gs vs js) {i:Nat} {f:Jb->Jb} (b:∀j,js[i]?=O j->Fz vs js.length i (f j)):Gs vs (js.modify i f):=λk j a=>by
 rw[Ic];rw[Dj]at a
 cases hk:js[k]? with
 | none=>
  rw[hk]at a;have a:(I:Option Jb)=O j:=a;cases a
 | some y=>
  rw[hk]at a;have a:O (if i=k then f y else y)=O j:=a;split at a
  .rename_i e;subst e;injection a with a;rw[<-a];simpa using b y hk
  .injection a with a;subst a;exact h k y hk
def Adt (h:Cs vs js):Cs vs (C2 js):=by
 refine Ahw (P:=Cs vs) (λjs k h f=>?_) h;have c:=f;unfold E7;rw[Ad f];refine h.mod λj g=>?_;unfold Gj at c;rw[g]at c;have i:dz j.lf.st=true:=(Da _ _▸c).1;have d:=(h k j g).toFz;obtain⟨a,b⟩:=Ak9 d.ik i (.inr rfl);exact Vu d a (.inr (.inr b)) j.parts (d.idle (by rcases N4.1 i with e|e<;>rw[e]<;>rfl))
def Azf (h:Fz vs n k j):Is vs n k (Do j):=by
 unfold Do;split
 .rename_i c;refine⟨h,λe=>?_⟩;rcases c with c|c
  .exact absurd c e
  .exact c
 .rename_i c;have d:j.parts≠[]:=λe=>c (.inl e);have f:=h.live.2 d;obtain⟨a,b⟩:=Ala h.ik f;split
  .rename_i e;exact Vu h a (.inl e) [] rfl
  .rename_i e;rcases b with b|⟨i,l⟩
   .exact absurd b e
   .have g:cu (Ay j.lf 8).1.st=false:=(by rw[Iu];intro c;rw[I3]at c;omega);refine⟨⟨h.id,h.gp,h.one,h.j5,h.ug,a,h.low,h.uw,h.ah,⟨λc=>?_,λc=>absurd rfl c⟩,λc=>?_,λc=>?_,λ_ _=>h.run f,λc=>absurd rfl c,λp d=>by simp at d⟩,λc=>absurd rfl c⟩
    .have c:cu (Ay j.lf 8).1.st=true:=c;rw[g]at c;cases c
    .have c:cu (Ay j.lf 8).1.st=true:=c;rw[g]at c;cases c
    .have c:(Ay j.lf 8).1.st=2:=c;omega
def Adu (h:Gs vs js):Cs vs (Gk js):=by
 unfold Gk;refine Adt λk j a=>?_;rw[Ar];rw[A7]at a;obtain⟨y,b,rfl⟩:=K5.1 a;exact Azf (h k y b)
def Alm (h:Fz vs n k j) {i:Nat} {p:Int×Int} (v:j.parts[i]?=O p) {g:Int} (h1:0<=g) (x:g<=3):Fz vs n k (Em j i g):=by
 have m:j.parts≠[]:=λe=>by rw[e]at v;simp at v
 have t:=h.live.2 m
 have y:(j.parts.modify i λp=>(p.1,g)).map Prod.fst=j.parts.map Prod.fst:=by
  apply Eh;intro q;simp only[A7,Dj]
  cases j.parts[q]? with
  | none=>rfl
  | some u=>
   simp only[K9]
   split<;>rfl
 have s:(j.parts.modify i λp=>(p.1,g))≠[]:=λe=>m (by
  have:=Cv List.length e;rw[Ic]at this
  exact Ib.1 this)
 have o:∀l:Lf,Gc l j.sp.ae->cu l.st=true->Fz vs n k ⟨j.id,j.sp,l,j.start,j.ah,j.parts.modify i λp=>(p.1,g)⟩:=λl a b=>by
  refine⟨h.id,h.gp,h.one,h.j5,h.ug,a,h.low,h.uw,h.ah,⟨λ_=>s,λ_=>b⟩,λ_=>h.run t,λc=>?_,λc d=>?_,λ_=>y.trans (h.pg m),λq z=>?_⟩
  .have c:l.st=2:=c;have:=I3.1 b;omega
  .have c:5<=l.st:=c;have:=I3.1 b;omega
  .obtain ⟨r,f⟩:=B4 z;rw[Dj]at f
   cases hu:j.parts[r]? with
   | none=>
    rw[hu]at f;have f:(I:Option (Int×Int))=O q:=f;cases f
   | some u=>
    rw[hu]at f;have f:O (if i=r then(u.1,g)else u)=O q:=f;split at f
    .injection f with f;subst f;exact⟨h1,x⟩
    .injection f with f;subst f;exact h.ux u (Ai hu)
 unfold Em N1;split
 .obtain ⟨a,b,_⟩:=Ado h.ik t (.inl rfl);exact o _ a (by rw[b];rfl)
 split
 .obtain ⟨a,b,_⟩:=Ado h.ik t (.inr (.inl rfl));exact o _ a (by rw[b];rfl)
 .exact o _ h.ik t
def Azg {j:Jb} {a m:Int} {i:Nat} (h:Gl j a m=O i):∃p,j.parts[i]?=O p/\p.1=m/\p.2=0:=by
 unfold Gl at h;split at h
 .obtain ⟨c,b,_⟩:=Aae.1 h;simp at b;exact⟨_,A3 c,b.1,b.2⟩
 .cases h
def Azh {e:dm} (h:Fz vs n k j) (h1:0<=e.bq) (a:e.bq<=3):Fz vs n k (I6 e j):=by
 unfold I6;split
 .exact h
 .rename_i i b;obtain⟨p,c,_⟩:=Azg b;exact Alm h c h1 a
def Adv (a:Int) (m:Nat) (h:Fz vs n k j):Fz vs n k (Fq j a m):=by
 induction m with
 | zero=>exact h
 | succ m ih=>
  show Fz vs n k (Kr (Fq j a m) m a);unfold Kr;split
  .exact ih
  .rename_i p b;split
   .exact Alm ih b ad9 ad9
   .exact ih
def Gs.map (_h:Gs vs js) {f:Jb->Jb} (b:∀k j,js[k]?=O j->Fz vs js.length k (f j)):Gs vs (js.map f):=λk j a=>by
 rw[Ar];rw[A7]at a;obtain⟨y,c,rfl⟩:=K5.1 a;exact b k y c
def Vv (h:Cs vs js) (tick:Int):Cs vs (Ck tick js):=by
 unfold Ck;refine Adu (h.b.map λk j a=>?_);unfold Et;split
 .exact Adv _ _ (h k j a).toFz
 .exact (h k j a).toFz
def Azi (h:Cs vs js) (m:Int):Cs vs (Gk (js.map λj=>E8 j m)):=Adu (h.b.map λk j a=>Adv _ _ (h k j a).toFz)
def Azj {s:du} (h:D7 s vs=0):D7 { s with array:=1,after:=[] } vs=0:=by
 have b:=Jd h;have a:El { s with array:=1,after:=[] }=true:=by obtain⟨a1,a2,a3,g,c,d,e,i,f⟩:=Gy b;unfold El;simp only[a1,a2,a3,c,d,e,f,Bool.true_and,Bool.and_true];decide
 unfold D7 at h ⊢;rw[Ac (by rw[b];simp)]at h;rw[Ac (by rw[a];simp)];exact h
def Azk {s:du} (h:D7 s vs=0) (l:List Int) (f:∀x,x∈l->1<=x/\x<=(n:Int)) (g:l.length<=160):Is vs n k (O4 s l ((k:Int)+1)):=by
 obtain⟨_,_,_,_,_,_,_,_,e⟩:=Gy (Jd h);obtain⟨j,m⟩:=Ig.1 e;obtain⟨a,b⟩:=Ayl (h:=s.held) j m;have o:=N4.1 b;refine⟨⟨rfl,Azj (s:=s) h,rfl,f,g,a,by simp[O4],λ_=>rfl,λc=>absurd c (by simp[O4]),⟨λc=>?_,λc=>absurd rfl c⟩,λc=>?_,λ_=>by simp[O4],λc d=>?_,λc=>absurd rfl c,λp i=>by simp[O4]at i⟩,λc=>absurd rfl c⟩
 .have c:cu (Lb s.ae s.held).1.st=true:=c;rw[I3]at c;omega
 .have c:cu (Lb s.ae s.held).1.st=true:=c;rw[I3]at c;omega
 .have c:5<=(Lb s.ae s.held).1.st:=c;omega
def Vw (vs:List ar) (n:Nat) (js:List Jb):Prop:=∀k j,js[k]?=O j->Is vs n k j
def Is.more (h:Is vs n k j) {m:Nat} (a:n<=m):Is vs m k j:=⟨h.toFz.more a,h.xl⟩
def Aln {s:du} (h:D7 s vs=0) (l:List Int) (f:∀x,x∈l->1<=x/\x<=(n:Int)) (g:l.length<=160) (d:Vw vs n js):∀q,Vw vs n (F6 s l js q)
 | 0=>d
 | q+1=>λk j a=>by
  have o:=Aln h l f g d q;replace a:(F6 s l js q++[O4 s l ((js.length+q+1:Nat):Int)])[k]?=O j:=a;rw[List.getElem?_append]at a;split at a
  .exact o k j a
  .rename_i c;rw[Zj]at c a
   cases e:k-(js.length+q)with
   | zero=>
    rw[e]at a;have b:O4 s l ((js.length+q+1:Nat):Int)=j:=by simpa using a
    have:k=js.length+q:=ao9
    clear a;subst this;subst b;have:=Azk (n:=n) (k:=js.length+q) h l f g;have i:((js.length+q+1:Nat):Int)=((js.length+q:Nat):Int)+1:=(by push_cast;rfl);rw[i];exact this
   | succ m=>
    rw[e]at a;simp at a
def Alo:∀(l:List (du×List Int)),(∀p,p∈l->D7 p.1 vs=0/\(∀x,x∈p.2->1<=x/\x<=(n:Int))/\p.2.length<=160)->∀js,Vw vs n js->Vw vs n (Es l js)
 | [],_,_,h=>h
 | p :: l,hp,js,h=>by
  obtain⟨a,b,c⟩:=hp p Ci;exact Alo l (λq d=>hp q (B2 _ d)) _ (Aln a p.2 b c h _)
def Adw:∀(l:List (du×List Int)),(∀p,p∈l->1<=p.1.array)->∀js:List Jb,((Es l js).length:Int)=(js.length:Int)+Fa (l.map λp=>p.1.array)
 | [],_,js=>by simp[Es,Fa]
 | p :: l,hp,js=>by
  have h1:=Adw l (λq a=>hp q (B2 _ a)) (F6 p.1 p.2 js p.1.array.toNat);have b:=hp p Ci;show((Es l (F6 p.1 p.2 js p.1.array.toNat)).length:Int)=_;rw[h1,Zj];have e:Fa ((p :: l).map λp=>p.1.array)=p.1.array+Fa (l.map λp=>p.1.array):=by unfold Fa;rw[Ko,Ww,Zk];omega
  rw[e];omega
def Adx {n:Nat} {l:List du} (h:(Cm vs n l).2=0):(∀s,s∈l->D7 s vs=0)/\(n:Int)+I5 l<=100/\Cm vs n l=G9 ((n:Int)+1) (l.map λs=>s.array) (l.map λs=>s.after):=by
 unfold Cm at h ⊢
 cases hf:l.find? λs=>decide (D7 s vs≠0)with
 | some s=>
  rw[hf]at h;have:=Ud hf;simp at this;exact absurd h this
 | none=>
  rw[hf]at h;simp only at h ⊢;refine⟨λs a=>?_,?_⟩
  .have:=R8.1 hf s a;simpa using this
  .split
   .rename_i c;rw[Ad c]at h;cases h
   .exact ⟨ao9,rfl⟩
def Vx (l:List du):I5 l=Fa (l.map λs=>s.array):=rfl
def Ady {α β:Type}:∀ {l:List α} {m:List β},l.length=m.length->(l.zip m).map Prod.fst=l
 | [],[],_=>rfl
 | [],_ :: _,h=>by simp at h
 | _ :: _,[],h=>by simp at h
 | a :: l,b :: m,h=>by
  simp only[List.zip_cons_cons,Ko];rw[Ady (by simpa using h)]
def Alp {t:dq} {l:List du} (h:Cs vs t.ab) (h0:(Cm vs t.ab.length l).2=0):Cs vs (No vs t l).1.ab/\(No vs t l).1.ab.length<=100:=by
 obtain⟨h1,h2,o⟩:=Adx h0;rw[o]at h0;obtain⟨r1,r2,r3,u,r5⟩:=Ads h0;rw[Ar]at r1 r3;have f:=Adw (l.zip (Cm vs t.ab.length l).1) (λp q=>(u p.1.array (A5.2 ⟨p.1,(Wy q).1,rfl⟩)).1) t.ab
 have r:(l.zip (Cm vs t.ab.length l).1).map (λp=>p.1.array)=l.map λs=>s.array:=by
  rw[o];have:=Ady (l:=l) (m:=(G9 ((t.ab.length:Int)+1) (l.map λs=>s.array) (l.map λs=>s.after)).1) ao9
  conv=>rhs;rw[<-this]
  rw[Dm];rfl
 rw[r,<-Vx]at f;obtain⟨X,g⟩:=Ex (Es (l.zip (Cm vs t.ab.length l).1) t.ab);rw[<-g]at f
 have i:Vw vs X.length X:=by
  rw[g];refine Alo _ (λp q=>?_) _ (λk j v=>?_)
  .obtain ⟨a,b⟩:=Wy q;rw[o]at b;obtain⟨c,l0,d,e⟩:=r5 p.2 b;refine⟨h1 p.1 a,λx hx=>?_,?_⟩
   .have:=c x hx;rw[<-Vx]at this;rw[<-g];omega
   .obtain ⟨s,z,rfl⟩:=A5.1 d;obtain⟨_,_,_,q4,_⟩:=Gy (Jd (h1 s z));have:=Yg q4;omega
  .refine (h k j v).more ?_;rw[<-g]
   have:0<=I5 l:=by
    rw[Vx];have:=(Vs (l.map λs=>s.array) (λn y=>(u n y).1) (l.map λs=>s.array).length).2
    rwa [Pu]at this
   omega
 refine⟨?_,?_⟩
 .show Cs vs (C2 (Es (l.zip (Cm vs t.ab.length l).1) t.ab));rw[<-g];exact Adt i
 .show (C2 (Es (l.zip (Cm vs t.ab.length l).1) t.ab)).length<=100;rw[<-g,U3];omega
end
section
open Go.RowKit Go.Maps Go.Lib
variable{B:Nat}{T:Tv}{w:WD}
def Ao.yj   (h:Ao w T):∃b cap,w.cell? ⟨T.tb,4,I⟩=O (V b T.js.length cap):=by
 have a:=Bk h.head 4 T.jv rfl;rcases h.ab.2 with⟨e,h0⟩|⟨g,cap,c,e,_⟩
 .exact ⟨I,0,by rw[a,e,h0]⟩
 .exact ⟨_,_,by rw[a,e]⟩
def A1g (l:List du) (s:du):I5 (l++[s])=I5 l+s.array:=by
 simp[I5,Dk,Mt]
structure zv (w:WD) (r:Int) (v:VL) (wx:WD):Prop where
 v:v=Z G r
 low:BW w.heap.size w wx
def Dg.le  {B B' g cap:Nat} {c:List VL} {e:List (List Int)} (h:Dg w B g cap c e) (d:B'<=B):Dg w B' g cap c e:=
 ⟨Joins.ownsRow_le h.row d,λi f l a b=>(h.each i f l a b).le d,h.two,h.td⟩
def Kh.len   {v:VL} {l:List VL} (h:Kh w B v l):∃so n c,v=V so n c/\n=l.length:=by
 rcases h.row.2 with⟨rfl,h0⟩|⟨g,cap,a,rfl,_⟩
 .exact ⟨I,0,0,rfl,h0.symm⟩
 .exact ⟨_,_,_,rfl,rfl⟩
def Aec   (h:Ao w T) (a8:Jr T.vs) (hj:T.js.length<=1000000) (so:Option Addr) (n sc:Nat) (xs:List ay) (hs:Kv w so n xs) (hn:n<=1000) :
  Calls prog 58 #[K (O ⟨T.tb,0,I⟩),V so n sc] w (It (Cm T.vs T.js.length (xs.map ay.pl)) w):=by
 obtain⟨jo,jc,c4⟩:=h.yj;have c5:=Bk h.head 5 (K (O ⟨T.fb,0,I⟩)) rfl;have aF:=hs.len;have hf:=h.dt.ye;have a3:=Ab h.head;obtain⟨m,hm⟩:=Ex (T.js.length);obtain⟨tb,ht⟩:=Ex (T.tb);obtain⟨vs,bF⟩:=Ex (T.vs);rw[<-ht]at c4 c5 a3;rw[<-hm]at c4 hj;rw[<-bF]at hf a8;rw[<-hm,<-ht,<-bF];clear hm ht bF h;have bv:BW w.heap.size w w:=Below.refl _ _;have bj:=Am.nil w w.heap.size;have bi:=Kh.nil w w.heap.size;have bG:IntKind.i64.wrap ((m:Int)+1)=(m:Int)+1:=Ja ao9 ao9;replace⟨a8,hs,aF,hf,bv,bj,bi,a3⟩:=H8 a8 hs aF hf bv bj bi a3;replace bG:=Hh bG;go_enter func58,ntmps58;go_wp2_with fail;go_loopw [6,7,8,10,11,20] (λv6 v7 v8 _ _ iv wr=>∃(i:Nat) (eo:Int),iv=Z G i/\i<=n/\v6=Z G eo/\Hid (eo=(m:Int)+I5 ((xs.map ay.pl).take i))/\Hid ((m:Int)<=eo/\eo<=m+20*(i:Int))/\Hid (BW w.heap.size w wr)/\Hid (Am wr w.heap.size v7 ((xs.take i).map λx=>x.pl.array))/\Hid (Kh wr w.heap.size v8 (Np (xs.take i)))/\Hid (∀(k:Nat) (x:ay),k<i->xs[k]?=O x->D7 x.pl vs=0)) (λ_ _ _ _ _ iv _=>n-(intOf iv).toNat)
 case atStart=>exact⟨0,m,rfl,As _,rfl,Hh (by simp[I5]),Hh ⟨ao9,ao9⟩,bv,bj,bi,Hh (λk x hk=>by omega)⟩
 case round=>
  obtain⟨i,eo,rfl,b4,rfl,bb,bT,hb,hS,hR,hK⟩:=hrel;obtain⟨bQ,n7,c7,rfl,aB⟩:=hS.len;obtain⟨bR,n8,c8,rfl,aC⟩:=hR.len;by_cases hc:i<n
  .have bS:(i:Int)<n:=ao9;have b3:(0:Int)<=(i:Int):=ao9;obtain⟨x,hx⟩:=Ge xs i (by have:=aF.out;omega);obtain⟨b,t,rfl,bs,aY,a0⟩:=hs.cell i x hx;have bB:=a0.low hb.out;have aP:=Jq hx;obtain⟨r,hr⟩:=Ex (D7 x.pl vs);have f:=λj hj=>(Af hb.out bs).trans (aY j hj)
   have aW:r≠0->Cm vs m (xs.map ay.pl)=([],r):=λe=>by
    rw[hr];refine Ayz (i:=i) (λk y hk hy=>?_) (by rw[A7,hx];rfl) (by rw[<-hr];exact e);rw[A7]at hy;obtain⟨z,hz,rfl⟩:=K5.1 hy;exact hK.out k z hk hz
   have bx:=λe=>Jd (hr.symm.trans e)
   have bf:r=0->∀(k:Nat) (x:ay),k<i+1->xs[k]?=O x->D7 x.pl vs=0:=λe k z hk hz=>by
    by_cases q:k=i
    .subst q;rw[hx]at hz;injection hz with hz;subst hz;exact hr.symm.trans e
    .exact hK.out k z ao9 hz
   have av:(m:Int)+I5 ((xs.map ay.pl).take (i+1))=eo+x.pl.array:=(by rw[Jq (x:=x.pl) (by rw[A7,hx];rfl),A1g,bb.out];omega);have aD:(xs.take (i+1)).map (λx=>x.pl.array)=(xs.take i).map (λx=>x.pl.array)++[x.pl.array]:=(by rw[aP,Dk];rfl);have ao:Np (xs.take (i+1))=Np (xs.take i)++[V x.so x.n x.c]:=(by rw[aP];simp[Np]);have bl:=hf.below hb.out;have a9:=λW (h:BW wr.heap.size wr W)=>Ar2 (bl.below h) a8.out x (bB.low h);simp only[<-hr]at a9;obtain⟨⟨aI,aG,nodes,⟨da,db,dc,dd⟩,aJ,aH,array,ae,aA,after⟩,am,sn,al⟩:=x;replace av:(m:Int)+I5 ((xs.map ay.pl).take (i+1))=eo+array:=av;replace aD:(xs.take (i+1)).map (λx=>x.pl.array)=(xs.take i).map (λx=>x.pl.array)++[array]:=aD;replace ao:Np (xs.take (i+1))=Np (xs.take i)++[V am sn al]:=ao;have z0:wr.cell? ⟨b,t+i*13,I⟩=O (D aI):=f 0 ao9;have z1:wr.cell? ⟨b,t+i*13+1,I⟩=O (D aG):=f 1 ao9;have z2:wr.cell? ⟨b,t+i*13+2,I⟩=O (Z G nodes):=f 2 ao9;have z3:wr.cell? ⟨b,t+i*13+3,I⟩=O (Z G da):=f 3 ao9;have z4:wr.cell? ⟨b,t+i*13+4,I⟩=O (Z G db):=f 4 ao9;have z5:wr.cell? ⟨b,t+i*13+5,I⟩=O (Z G dc):=f 5 ao9;have z6:wr.cell? ⟨b,t+i*13+6,I⟩=O (Z G dd):=f 6 ao9;have z7:wr.cell? ⟨b,t+i*13+7,I⟩=O (Z G aJ):=f 7 ao9;have z8:wr.cell? ⟨b,t+i*13+8,I⟩=O (Z G aH):=f 8 ao9;have z9:wr.cell? ⟨b,t+i*13+9,I⟩=O (Z G array):=f 9 ao9;have bU:wr.cell? ⟨b,t+i*13+10,I⟩=O (Z G ae):=f 10 ao9;have bV:wr.cell? ⟨b,t+i*13+11,I⟩=O (Q aA):=f 11 ao9;have bW:wr.cell? ⟨b,t+i*13+12,I⟩=O (V am sn al):=f 12 ao9;replace⟨aY,f,bs,a0,bB,aP,hr,aW⟩:=H8 aY f bs a0 bB aP hr aW;replace⟨bx,bf,av,aD,ao,bl,a9,hx⟩:=H8 bx bf av aD ao bl a9 hx;replace⟨aB,aC⟩:=H2 aB aC;go_upto_region 7 with fail;clear z0 z1 z2 z3 z4 z5 z6 z7 z8 z9 bU bV bW;obtain⟨s,bA⟩:=Ex (wr.heap.size);obtain⟨W1,a4⟩:=Ex (wr.alloc (J (⟨⟨aI,aG,nodes,⟨da,db,dc,dd⟩,aJ,aH,array,ae,aA,after⟩,am,sn,al⟩:ay).cells 33 (0,0)));have ac:BW wr.heap.size wr W1:=(by rw[a4];exact Bn);have aU:W1.heap[s]?=O (J (⟨⟨aI,aG,nodes,⟨da,db,dc,dd⟩,aJ,aH,array,ae,aA,after⟩,am,sn,al⟩:ay).cells 33 (0,0)):=(by rw[a4,bA];exact Ah _ _);rw[<-a4,<-bA];clear a4 bA;have o:=hb.trans (ac.mono hb.size);have a1:=λW (h:BW W1.heap.size W1 W)=>a9.out W (ac.trans (h.mono ac.size))
   have bk:∀d:WD,BW W1.heap.size W1 d->d.cell? ⟨tb,5,I⟩=O (K (O ⟨T.fb,0,I⟩))/\d.cell? ⟨s,0,I⟩=O (D aI)/\d.cell? ⟨s,1,I⟩=O (D aG)/\d.cell? ⟨s,2,I⟩=O (Z G nodes)/\d.cell? ⟨s,3,I⟩=O (Z G da)/\d.cell? ⟨s,4,I⟩=O (Z G db)/\d.cell? ⟨s,5,I⟩=O (Z G dc)/\d.cell? ⟨s,6,I⟩=O (Z G dd)/\d.cell? ⟨s,7,I⟩=O (Z G aJ)/\d.cell? ⟨s,8,I⟩=O (Z G aH)/\d.cell? ⟨s,9,I⟩=O (Z G array)/\d.cell? ⟨s,10,I⟩=O (Z G ae)/\d.cell? ⟨s,11,I⟩=O (Q aA)/\d.cell? ⟨s,12,I⟩=O (V am sn al):=λd h=>by
    have p:=Ae h aU (Ab aU);exact⟨(Af (o.trans (h.mono o.size)) a3.out).trans c5,Aa p 0,Aa p 1,Aa p 2,Aa p 3,Aa p 4,Aa p 5,Aa p 6,Aa p 7,Aa p 8,Aa p 9,Aa p 10,Aa p 11,Aa p 12⟩
   have u:BW W1.heap.size W1 W1.drew:=(Below.refl _ _).drew;replace⟨ac,aU,o,a1,bk,u⟩:=H6 ac aU o a1 bk u;go_cut [11] (λrv wx=>zv W1 r rv wx)
   case first=>
    go_region_held3 (λd=>d.cell? ⟨tb,5,I⟩=O (K (O ⟨T.fb,0,I⟩))/\d.cell? ⟨s,0,I⟩=O (D aI)/\d.cell? ⟨s,1,I⟩=O (D aG)/\d.cell? ⟨s,2,I⟩=O (Z G nodes)/\d.cell? ⟨s,3,I⟩=O (Z G da)/\d.cell? ⟨s,4,I⟩=O (Z G db)/\d.cell? ⟨s,5,I⟩=O (Z G dc)/\d.cell? ⟨s,6,I⟩=O (Z G dd)/\d.cell? ⟨s,7,I⟩=O (Z G aJ)/\d.cell? ⟨s,8,I⟩=O (Z G aH)/\d.cell? ⟨s,9,I⟩=O (Z G array)/\d.cell? ⟨s,10,I⟩=O (Z G ae)/\d.cell? ⟨s,11,I⟩=O (Q aA)/\d.cell? ⟨s,12,I⟩=O (V am sn al))
     (first
       | with_reducible exact bk.out _ u.out)
     (first
       | (go_at_call 98
          (with_reducible refine(a1.out _ u.out).mono ?_)
          rintro e wz ⟨rfl,bK⟩;replace u:=Hh (u.trans (bK.mono u.size))
          clear bK))
    all_goals
     go_wp2_with fail;go_meet
     case rel=>exact⟨rfl,u.out⟩
   case rest=>
   obtain⟨rfl,aK⟩:=hcut;have a:=o.trans (aK.mono o.size);have aO:=Ae aK aU.out (Ab aU.out);have aS:=ac.trans (aK.mono ac.size);by_cases q:r=0;rotate_left
   .have q2:(r != 0)=true:=(by simpa using q);replace⟨a,aO,aS,aK,q⟩:=H5 a aO aS aK q;go_wp2_with fail;exact Al (v:=E #[V I 0 0,Z G r]) (by simp[results,results58,go_sem]) rfl (It.bad (aW q.out) q.out a.out)
   subst q;obtain⟨_,_,_,q4,_,_,_,q8,_⟩:=Gy (bx rfl);obtain⟨b1,b2⟩:=Ig.1 q8;replace b1:1<=array:=b1;replace b2:array<=20:=b2;have bL:=bT.out;have b5:IntKind.i64.wrap (eo+array)=eo+array:=Ja ao9 ao9;have bM:Hid ((m:Int)<=eo+array/\eo+array<=m+20*((i+1:Nat):Int)):=Hh ⟨ao9,ao9⟩;have x9:=Bk aO 9 (Z G array) rfl;have hA:=(Below.refl wc.heap.size wc).alloc Ln (J #[Z G array] 3 (0,0));have s7:=(hS.mod (Mod.af (S:=λ_=>False) aS) (λ_ _ c=>c)).mod (Mod.af (S:=λ_=>False) hA) (λ_ _ c=>c);have s8:(wc.alloc (J #[Z G array] 3 (0,0))).cell? ⟨wc.heap.size,0,I⟩=O (Z G array):=Aa (Ah _ _) 0;have s9:=A8 a.size hA.size;have r7:=(hR.mod (Mod.af (S:=λ_=>False) aS) (λ_ _ c=>c)).mod (Mod.af (S:=λ_=>False) hA) (λ_ _ c=>c);have ba:=Ae hA aO (Ab aO);have aM:=a.trans (hA.mono a.size);have bo:n7<=1000000000:=(by have:=aB.out;rw[Ar,Fl]at this;omega);have bp:n8<=1000000000:=(by have:=aC.out;simp[Np]at this;omega);clear bL;replace⟨a,aO,aS,aK,q4,q8,b1,b2⟩:=H8 a aO aS aK q4 q8 b1 b2;replace⟨hA,s7,s8,s9,r7,ba,aM,bo⟩:=H8 hA s7 s8 s9 r7 ba aM bo;replace bp:=Hh bp;go_upto_region 12 with(at_builtin;refine Nm rfl _ _ rfl w.heap.size n7 _ rfl s7.out aB.symm ⟨wc.heap.size,0,I⟩ 1 rfl array s8.out bo.out s9.out ?_;intro g7 bX w7 h7 a6 bI;replace⟨h7,a6,bI⟩:=H3 h7 a6 bI);clear x9;have bw:=Mod.grown (S:=λk=>(Value.slice bQ n7 c7).ownBlock=O k) a6.out (λk hk=>hk);have bH:=bw.au ba.out (λe=>Bv s7.row ba.out ad9 e)
   have bP:=r7.mod bw (λk hk e=>by
    obtain⟨c,hc,_⟩:=C7 r7.row hk
    exact Bv s7.row hc ad9 e)
   have ad:=aM.grown a6.out s9.out (λk hk=>(s7.lt k hk).1);have x12:=Bk bH 12 (V am sn al) rfl;have hB:=(Below.refl w7.heap.size w7).alloc Ln (J #[V am sn al] 31 (0,0));have t7:=bP.mod (Mod.af (S:=λ_=>False) hB) (λ_ _ c=>c);have t8:(w7.alloc (J #[V am sn al] 31 (0,0))).cell? ⟨w7.heap.size,0,I⟩=O (V am sn al):=Aa (Ah _ _) 0;have t9:=A8 ad.size hB.size;have u7:=h7.mod (Mod.af (S:=λ_=>False) hB) (λ_ _ c=>c);have aN:=ad.trans (hB.mono ad.size);clear bw bP;replace⟨bH,ad,hB,t7,t8,t9,u7,aN⟩:=H8 bH ad hB t7 t8 t9 u7 aN;go_upto_region 13 with(at_builtin;refine Ayy rfl _ _ rfl w.heap.size n8 _ rfl t7.out aC.symm ⟨w7.heap.size,0,I⟩ 1 rfl am sn al t8.out bp.out t9.out ?_;intro g8 bY w8 h8 a7 bJ;replace⟨h8,a7,bJ⟩:=H3 h8 a7 bJ);clear x12;have bO:=Mod.grown (S:=λk=>(Value.slice bR n8 c8).ownBlock=O k) a7.out (λk hk=>hk)
   have u8:=u7.mod bO (λk hk e=>by
    obtain⟨c,hc,_⟩:=C7 u7.row hk
    exact Bv t7.row hc ad9 e)
   have aL:=aN.grown a7.out t9.out (λk hk=>(t7.lt k hk).1);have u9:=h8.out;rw[<-aD.out]at u8;rw[<-ao.out]at u9;have bN:=Hh av.symm;have bg:=bf rfl;clear bO;replace⟨u8,u9,aL,bg⟩:=H4 u8 u9 aL bg;go_wp2_with fail;go_roundw
   case rel=>exact⟨i+1,eo+array,by go_num,ao9,by go_num,bN,bM,aL,u8,u9,bg⟩
   case measure=>simp[intOf];omega
  .have bS:¬(i:Int)<n:=ao9;have a2:xs.take i=xs:=C4 (by have:=aF.out;omega);have aE:(xs.map ay.pl).take i=xs.map ay.pl:=C4 (by rw[Ar];have:=aF.out;omega)
   have ap:∀(k:Nat) (y:du),k<(xs.map ay.pl).length->(xs.map ay.pl)[k]?=O y->D7 y vs=0:=λk y hk hy=>by
    rw[A7]at hy;obtain⟨z,hz,rfl⟩:=K5.1 hy;exact hK.out k z (by rw[Ar]at hk;have:=aF.out;omega) hz
   have an:=Ay0 (n:=m) ap;have aT:=bb.out;rw[aE]at aT;rw[<-aT]at an;have aR:=hS.out;have aQ:=hR.out;rw[a2]at aR aQ;by_cases q:eo > 100
   .rw [Ad q]at an;replace⟨an,aT,aR,aQ,a2,aE,ap,aB⟩:=H8 an aT aR aQ a2 aE ap aB;replace aC:=Hh aC;go_wp2_with fail;exact Al (v:=E #[V I 0 0,Z G 140]) (by simp[results,results58,go_sem]) rfl (It.bad an.out ad9 hb.out)
   rw[Ac q]at an
   have a5:∀x,x∈xs->x.pl.after.length<=8:=λx hx=>by
    obtain⟨k,hk⟩:=B4 hx;obtain⟨_,_,_,q4,_⟩:=Gy (Jd (hK k x (by have:=(An.1 hk).1;have:=aF.out;omega) hk));exact Yg q4
   have aZ:∀x,x∈xs->x.ok wr:=λx hx=>by
    obtain⟨k,hk⟩:=B4 hx;obtain⟨_,_,_,_,_,ho⟩:=hs.cell k x hk;exact ho.low hb.out
   obtain⟨bd,bC⟩:=aQ.rows aZ (by have:=aF.out;omega) (λx hx=>by have:=a5 x hx;omega);obtain⟨b6,n9,c9,e9,bc,bn,_⟩:=P5 aR;injection e9 with e9 e9b e9c;subst e9 e9b e9c
   have aX:=A1f ((m:Int)+1) bQ n7 c7 (xs.map λx=>x.pl.array) bR n8 c8 (xs.map λx=>x.pl.after) wr bn bC (λl hl=>by
    obtain⟨x,hx,rfl⟩:=A5.1 hl;have:=a5 x hx
    omega)
   rw[Dm,Dm]at an;have be:Cm vs m (xs.map ay.pl)=G9 ((m:Int)+1) (xs.map λx=>x.pl.array) (xs.map λx=>x.pl.after):=an;rw[<-be]at aX;obtain⟨R,aV⟩:=Ex (Cm vs m (xs.map ay.pl));rw[<-aV]at aX;rw[<-aV];have b0:=(Af hb.out a3.out).trans c4;have bZ:=bG.out;clear an be;replace⟨aT,aR,aQ,a2,aE,ap,aB,aC⟩:=H8 aT aR aQ a2 aE ap aB aC;replace⟨aX,aV,a5,aZ,bC,bd,bn,bc⟩:=H8 aX aV a5 aZ bC bd bn bc;go_wp2_with (go_at_call 99;(with_reducible refine(aX.out).mono ?_);rintro e w1 ⟨v,rfl,bD,bE,ac⟩;replace⟨bD,bE,ac⟩:=H3 bD bE ac);refine Al (v:=E #[v,Z G R.2]) (by simp[results,results58,go_sem]) rfl ?_;rw[<-aV.out];refine⟨v,rfl,bD.out,λe=>?_,hb.trans (ac.mono hb.size)⟩;obtain⟨g,s2,e1,e2⟩:=bE e;exact⟨g,s2,e1,e2.le hb.size⟩
