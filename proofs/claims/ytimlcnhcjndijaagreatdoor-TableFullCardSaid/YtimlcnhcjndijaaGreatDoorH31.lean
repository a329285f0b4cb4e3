/- Parts of a proof. No condition. -/
import Derived.Test.YtimlcnhcjndijaaGreatDoorH24
import Derived.Test.YtimlcnhcjndijaaGreatDoorH30
set_option linter.all false
set_option maxRecDepth 100000
set_option maxHeartbeats 4000000
namespace Go.Proofs.YtimlcnhcjndijaaGreatDoor
open Option renaming none->I,some->O
open Value renaming slice->V,pointer->K,int->Z,bool->Y,string->E,tuple->D
open IntKind renaming i64->G
open Obj renaming cells->J
open Go renaming World->WD,Value->VL
open Go.RowKit renaming Below->BW
open Go.Proofs.Tryz
section
open Go.RowKit Go.Maps Go.Lib
def Br (vs:List ay) (n:Nat) (l:List dn):List (List Int)×Int:=
 match l.find? λs=>decide (C9 s vs≠0)with
 | some s=>([],C9 s vs)
 | none=>if 100<(n:Int)+F6 l then([],140)else Fa ((n:Int)+1) (l.map λs=>s.array) (l.map λs=>s.after)
def J0 (vs:List ay) (t:dv) (l:List dn):dv×Cl:=
 let js:=Eb (l.zip (Br vs t.ab.length l).1) t.ab
 (t.dx (Co js),⟨0,0,(t.ab.length:Int)+1,(js.length:Int)⟩)
def Ed (vs:List ay) (t:dv) (e:gh):Int:=
 if Ew e=false then 130
 else if B7 e.n.kind=true/\e.n.seq<=(D2 t.cls e.n.ah).seq then 141
 else if e.n.kind=1 then(if e.n.ai<=t.ai then 141 else 0)
 else if e.n.kind=6 then(if e.n.tick<=t.tick then 141 else 0)
 else if e.n.kind=2 then(Br vs t.ab.length e.specs).2
 else if 8<=e.n.kind/\e.n.kind<=11 then Lb t e.n
 else Ju t e.n
noncomputable def eo (vs:List ay) (t:dv) (e:gh):dv×Cl:=
 if e.n.kind=1 then({ t with ai:=e.n.ai },⟨0,0,0,0⟩)
 else if e.n.kind=2 then J0 vs t e.specs
 else if e.n.kind=6 then(S4 vs t e.n.tick,⟨0,0,0,0⟩)
 else if e.n.kind=7 then(Agt t e.n,⟨0,0,0,0⟩)
 else if 8<=e.n.kind/\e.n.kind<=11 then(Qp t e.n,⟨0,0,0,0⟩)
 else Ags t e.n
noncomputable def D6 (vs:List ay) (t:dv) (e:gh):dv×Cl×Int:=
 if Ed vs t e≠0 then(t,⟨0,0,0,0⟩,Ed vs t e)
 else
  let d:=eo vs t e
  (if B7 e.n.kind=true then { d.1 with cls:=F2 d.1.cls e.n.ah ⟨e.n.seq,d.2.e,d.2.first,d.2.last⟩ } else d.1,d.2,0)
structure Jk (w:WD) (B:Nat) (v:VL) (svs:List VL):Prop where
 row:w.ownsRow B 31 1 v svs.length svs
def Jk.nil (w:WD) (B:Nat):Jk w B (V I 0 0) []:=⟨rfl,.inl ⟨rfl,rfl⟩⟩
def Jk.mod {w w':WD} {B:Nat} {S:Nat->Prop} {v:VL} {l:List VL} (h:Jk w B v l) (a:Mod S w w') (b:∀k,v.ownBlock=O k->¬S k):Jk w' B v l:=⟨A8 h.row a b⟩
def Jk.lt {w:WD} {B:Nat} {v:VL} {l:List VL} (h:Jk w B v l):∀k,v.ownBlock=O k->B<=k/\k<w.heap.size:=λk a=>h.row.lt k a
def Awp {m:Array Oper} {rest:List Oper} {o:Oper} {a:Act} {w:WD} {Q9q:Exit->Act->WD->Prop} (y:o.guard=I) (s x:Operand)
  (ho:o.op=.call { callee:=.builtin .append,args:=#[s,x],argTypes:=#[137,137] })
  (B L:Nat) (v:VL) (hs:a.eval s=v) {l:List VL} (f:Jk w B v l) (r:l.length=L) (q:Addr) (c:Nat) (hx:a.eval x=V (O q) 1 c) (so:Option Addr) (n sc:Nat) (hk:w.cell? q=O (V so n sc)) (hL:L<=1000000000) (hb:B<=w.heap.size)
  (h:∀g cap w',Jk w' B (V (O ⟨g,0,I⟩) (L+1) cap) (l++[V so n sc])->w.grownBy w' v.ownBlock->(v.ownBlock=O g\/g=w.heap.size)->wpList prog m Q9q rest (a.put o.dst (V (O ⟨g,0,I⟩) (L+1) cap)) w') :
  wpList prog m Q9q (o :: rest) a w:=by
 obtain⟨i3,z,ac,i,k⟩:=B6 Ajr;subst r;refine Ri w y s x 137 ho B 31 i3 _ 1 24 underlying137 z ac i k rfl ad9 v l.length l hs f.row q 1 c [V so n sc] hx rfl ?_ (by simp[Value.oneCell']) (Gh (n:=l.length) ao9) ao9 hb ?_
 .intro j u p
  match j,p with
  | 0,p=>
   simp at p;subst p;simpa[Addr.add]using hk
 .intro v' w' b d _ t;obtain⟨g,cap,rfl⟩:=Joins.ownsRow_form b ao9;refine h g cap w' ⟨?_⟩ d ?_
  .rw [Av];simpa using b
  .rcases t with e|e
   .exact .inl e.symm
   .simp [Value.ownBlock]at e;exact .inr e
def Ajx {α:Type} {p:α->Bool}:∀ {l:List α} {i:Nat} {s:α},(∀(k:Nat) (y:α),k<i->l[k]?=O y->p y=false)->l[i]?=O s->p s=true->l.find? p=O s
 | [],i,s,_,h,_=>by simp at h
 | y :: l,0,s,_,h,hp=>by
  simp at h;subst h;simp[List.find?,hp]
 | y :: l,i+1,s,hk,h,hp=>by
  have h0:=hk 0 y ao9 as9;simp only[List.find?,h0];exact Ajx (i:=i) (λk z a b=>hk (k+1) z ao9 (by simpa using b)) (by simpa using h) hp
def Awq {vs:List ay} {n:Nat} {l:List dn} {i:Nat} {s:dn} (b:∀(k:Nat) (y:dn),k<i->l[k]?=O y->C9 y vs=0) (h:l[i]?=O s) (c:C9 s vs≠0):Br vs n l=([],C9 s vs):=by
 have:=Ajx (p:=λs=>decide (C9 s vs≠0)) (λk y h1 a=>by simp[b k y h1 a]) h (by simp[c]);unfold Br;rw[this]
def Awr {vs:List ay} {n:Nat} {l:List dn} (b:∀(k:Nat) (y:dn),k<l.length->l[k]?=O y->C9 y vs=0):Br vs n l=if 100<(n:Int)+F6 l then([],140)else Fa ((n:Int)+1) (l.map λs=>s.array) (l.map λs=>s.after):=by
 have:(l.find? λs=>decide (C9 s vs≠0))=I:=by rw[Rk];intro s c;obtain⟨k,a⟩:=Dk c;simp[b k s (Ap.1 a).1 a]
 unfold Br;rw[this]
def Io {s:dn} {vs:List ay} (h:C9 s vs=0):Cb s=true:=by
 unfold C9 at h;split at h
 .omega
 .rename_i q;simpa using q
def Mr (xs:List ax):List VL:=xs.map λx=>V x.so x.n x.c
def Jk.rows {w:WD} {B:Nat} {j:Option Addr} {n c:Nat} {xs:List ax} (h:Jk w B (V j n c) (Mr xs)) (u:∀x,x∈xs->x.ok w) (h1:xs.length<=1000) (q:∀x,x∈xs->x.pl.after.length<=100000):n=xs.length/\Q9 w j n (xs.map λx=>x.pl.after):=by
 have m:(Mr xs).length=xs.length:=by simp[Mr]
 have o:=h.row;rcases o.2 with⟨e,h0⟩|⟨g,cap,p,e,v,s,t,z,k⟩
 .injection e with e1 e2 e3;subst e1 e2;have f:xs=[]:=Fv.1 ao9;subst f;exact⟨rfl,rfl,ao9,λi l m=>by simp at m⟩
 .injection e with e1 e2 e3;subst e1;refine⟨ao9,by simp;omega,ao9,λi l a=>?_⟩;rw[Bm]at a
  cases hxi:xs[i]? with
  | none=>rw[hxi]at a;cases a
  | some x=>
   rw[hxi]at a;simp at a;subst a;have y:=(Ap.1 hxi).1;have d:=Ai hxi;have b:=u x d;subst e2;have r:=Fw o i ao9;refine⟨g,0,x.so,x.c,rfl,Ac s,?_,?_,?_,q x d⟩
   .rw [Dm,r];simp[Mr,hxi,b.after.len]
   .rw [b.after.len];exact b.after
   .rw [b.after.len];exact b.nu
variable {w w' wr:WD} {T:Tv}
def Al.uj (h:Al w T) {b:Nat} {x:aq} {jv:VL} (u:Mod (λk=>k=T.tb\/T.jv.ownBlock=O k) w w')
  (hd:w'.heap[T.tb]?=O (J #[Z G T.ai,Z G T.tick,.map (O T.mb),T.nv,jv,K (O ⟨T.fb,0,I⟩),T.cv] 115 (0,0)))
  (z:w'.ownsRow 0 125 1 jv (T.js.length+1) ((T.js.map λj=>K (O ⟨j.1,0,I⟩))++[K (O ⟨b,0,I⟩)]))
  (ad:∀k,jv.ownBlock=O k->T.jv.ownBlock=O k\/w.heap.size<=k)
  (hb:w.heap.size<=b) (p:Ba w' b x) (i:x.po=I/\x.pn=0/\x.pc=0/\x.pl.parts=[]) (m:x.go=I/\x.gn=0/\x.gc=0/\x.pl.aj=[])
  (am:Ao w' x.so x.sn x.pl.sp.after) (ac:∀k o,x.so=O ⟨k,o,I⟩->∃c,w'.heap[k]?=O (J c 3 (0,0))) (al:x.sn<=x.sc) (hu:x.pl.sp.user.size<=maxLen) (hp:x.pl.sp.part.size<=maxLen) :
  Al w' { T with jv:=jv,js:=T.js++[(b,x)] }/\∀k,({ T with jv:=jv,js:=T.js++[(b,x)] }:Tv).bh k->T.bh k\/w.heap.size<=k:=by
 have t:x.pb=I:=by unfold aq.pb;rw[i.1];rfl
 have bh:∀k,({ T with jv:=jv,js:=T.js++[(b,x)] }:Tv).bh k->T.bh k\/w.heap.size<=k:=λk c=>by
  rcases c with e|e|e|e|⟨j,d,e⟩
  .exact .inl (.inl e)
  .exact .inl (.inr (.inl e))
  .exact .inl (.inr (.inr (.inl e)))
  .rcases ad k e with e|e
   .exact .inl (.inr (.inr (.inr (.inl e))))
   .exact .inr e
  .rcases C7.1 d with d|d
   .exact .inl (.inr (.inr (.inr (.inr ⟨j,d,e⟩))))
   .have d:=Gc.1 d;subst d;rcases e with e|e
    .exact .inr (by rw[<-e];exact hb)
    .rw [t]at e;cases e
 have jb:∀k,T.jv.ownBlock=O k->∃c,w.heap[k]?=O (J c 125 (0,0)):=λk e=>by
  obtain⟨c,f,_⟩:=Cq h.ab e;exact⟨c,f⟩
 have y:Mod T.bh w w':=u.mono λk _ e=>e.imp id λe=>.inr (.inr (.inl e))
 have l:∀ {B size n:Nat} {Ty:TypeId} {v:VL} {xs:List VL},w.ownsRow B Ty size v n xs->Ty≠125->Ty≠115->∀k,v.ownBlock=O k->¬(k=T.tb\/T.jv.ownBlock=O k):=λz h1 h2 k hk c=>by
  rcases c with e|e
  .subst e;exact Bx z h.head h2 hk
  .obtain ⟨cc,f⟩:=jb k e;exact Bx z f h1 hk
 have q:=h.cls.mod u (λc=>by
  rcases c with e|e
  .exact h.fj h.head e
  .obtain ⟨cc,f⟩:=jb _ e
   exact h.fj f rfl)
 have r:=A8 h.nodes u (l h.nodes ad9 ad9)
 have g:∀j,j∈T.js->Ba w' j.1 j.2:=λj d=>u.ar (h.box j d) (λc=>by
  rcases c with e|e
  .exact h.j7 d h.head ad9 e
  .obtain ⟨cc,f⟩:=jb _ e
   exact h.j7 d f ad9 rfl)
 have s:∀j,j∈T.js->Bo w' j.2:=λj d=>A8 (h.ok j d).parts u (l (h.ok j d).parts ad9 ad9)
 have dy:∀k c,w'.heap[k]?=O (J c 3 (0,0))->¬({ T with jv:=jv,js:=T.js++[(b,x)] }:Tv).bh k:=λk c f e=>by
  rcases e with e|e|e|e|⟨j,d,e⟩
  .rw [e]at f;rw[show w'.heap[T.tb]?=_ from hd]at f;injection f with f;injection f with _ f;exact absurd f ad9
  .obtain ⟨es,cl,af⟩:=q.ar;rw[e]at f;rw[show w'.heap[T.mb]?=_ from af]at f;injection f with f;cases f
  .exact Bx r f ad9 e
  .exact Bx z f ad9 e
  .rcases C7.1 d with d|d
   .rcases e with e|e
    .have:=g j d;rw[Ba,e,f]at this;injection this with this;injection this with _ this;exact absurd this ad9
    .exact Bx (s j d) f ad9 e
   .have d:=Gc.1 d;subst d;rcases e with e|e
    .have:=p;rw[Ba,show b=k from e,f]at this;injection this with this;injection this with _ this;exact absurd this ad9
    .rw [show x.pb=I from t]at e;cases e
 refine⟨⟨hd,q,r,?_,A8 h.az u (l h.az ad9 ad9),?_,?_,?_,?_,h.dp.mod y bh,h.same⟩,bh⟩
 .show w'.ownsRow 0 _ 1 jv (T.js++[(b,x)]).length ((T.js++[(b,x)]).map _);rw[Av,Dw];exact z
 .intro j d;rcases C7.1 d with d|d
  .exact g j d
  .have d:=Gc.1 d;subst d;exact p
 .intro j d;rcases C7.1 d with d|d
  .exact (h.ok j d).mod y (λk hk c=>by
    rcases bh k c with c|c
    .exact c
    .omega) (s j d)
  .have d:=Gc.1 d;subst d;refine⟨⟨am,λ_ k o e hS=>?_⟩,al,?_,?_,?_,hu,hp⟩
   .obtain ⟨c,f⟩:=ac k o e;exact dy k c f hS
   .show D1 w' _ x.go x.gn x.pl.aj;rw[m.1,m.2.1,m.2.2.2];exact Afd _ _
   .show x.gn<=x.gc;rw[m.2.1];exact Ar _
   .show Bo w' x;unfold Bo;rw[i.1,i.2.1,i.2.2.1,i.2.2.2];exact Mu _ _ _ _
 .show ((T.js++[(b,x)]).map Prod.fst).Nodup;rw[Dw];refine Rm.2 ⟨h.one,as9,λa ha c f e=>?_⟩;simp at f;obtain⟨j,d,rfl⟩:=A7.1 ha;have:=Ac (h.box j d);rw[e,f]at this;omega
 .show (T.js++[(b,x)]).Pairwise _;refine Tj.2 ⟨h.two,as9,λa _ c f k _ e=>?_⟩;have f:=Gc.1 f;subst f;rw[show x.pb=I from t]at e;cases e
structure Dv (w:WD) (T:Tv) (jv:VL) (js:List (Nat×aq)) (wr:WD):Prop where
 at_:Al wr { T with jv:=jv,js:=js }
 bh:∀b,({ T with jv:=jv,js:=js }:Tv).bh b->T.bh b\/w.heap.size<=b
 mod:Mod T.bh w wr
variable {jv jv':VL} {js:List (Nat×aq)}
def Dv.refl (h:Al w T):Dv w T T.jv T.js w:=⟨h,λ_ c=>.inl c,Mod.refl _ _⟩
def Dv.low (h:Dv w T jv js wr) (a:BW wr.heap.size wr w'):Dv w T jv js w':=⟨h.at_.low a,h.bh,h.mod.low a⟩
def Dv.ni (h:Dv w T jv js wr) (a:Mod ({ T with jv:=jv,js:=js }:Tv).bh wr w'):Mod T.bh w w':=h.mod.then a λk b c=>by
 rcases h.bh k c with c|c
 .exact c
 .omega
def Dv.add (h:Dv w T jv js wr) {b:Nat} {x:aq} (n:Mod (λk=>k=T.tb\/jv.ownBlock=O k) wr w')
  (r:w'.heap[T.tb]?=O (J #[Z G T.ai,Z G T.tick,.map (O T.mb),T.nv,jv',K (O ⟨T.fb,0,I⟩),T.cv] 115 (0,0)))
  (t:w'.ownsRow 0 125 1 jv' (js.length+1) ((js.map λj=>K (O ⟨j.1,0,I⟩))++[K (O ⟨b,0,I⟩)]))
  (g:∀k,jv'.ownBlock=O k->jv.ownBlock=O k\/wr.heap.size<=k)
  (q:wr.heap.size<=b) (a:Ba w' b x) (i:x.po=I/\x.pn=0/\x.pc=0/\x.pl.parts=[]) (f:x.go=I/\x.gn=0/\x.gc=0/\x.pl.aj=[])
  (m:Ao w' x.so x.sn x.pl.sp.after) (d:∀k o,x.so=O ⟨k,o,I⟩->∃c,w'.heap[k]?=O (J c 3 (0,0))) (l:x.sn<=x.sc) (u:x.pl.sp.user.size<=maxLen) (s:x.pl.sp.part.size<=maxLen) :
  Dv w T jv' (js++[(b,x)]) w':=by
 obtain⟨h1,p⟩:=Al.uj (T:={ T with jv:=jv,js:=js }) h.at_ n r t g q a i f m d l u s;refine⟨h1,λk c=>?_,h.ni (n.mono λk _ e=>e.imp id λe=>.inr (.inr (.inl e)))⟩;rcases p k c with c|c
 .exact h.bh k c
 .exact .inr (Aw h.mod.size c)
def Dv.then {a:List (Nat×aq)} (h:Dv w T jv js wr) (d:Bp wr { T with jv:=jv,js:=js } a w'):Dv w T jv a w':=
 ⟨d.at_,λb c=>by
  rcases d.bh b c with c|c
  .exact h.bh b c
  .exact .inr (Aw h.mod.size c),h.ni d.mod⟩
def Dv.iz (h:Dv w T jv js wr) (a:G6 w T.js js):Em w T { T with jv:=jv,js:=js } wr:=⟨h.at_,rfl,rfl,rfl,rfl,rfl,h.bh,h.mod,a⟩
def Dv.set (h:Dv w T jv js wr) {i:Nat} {x j:Nat×aq} (n:js[i]?=O x) (o:j.1=x.1) (p:Mod (F3 x) wr w') (a:Ba w' j.1 j.2) (s:Bo w' j.2) (f:∀b,j.2.pb=O b->x.2.pb=O b\/wr.heap.size<=b)
  (q:D1 w' (({ T with jv:=jv,js:=js }:Tv).bu i j).bh j.2.so j.2.sn j.2.pl.sp.after) (g:j.2.sn<=j.2.sc) (r:D1 w' (({ T with jv:=jv,js:=js }:Tv).bu i j).bh j.2.go j.2.gn j.2.pl.aj) (l:j.2.gn<=j.2.gc)
  (t:j.2.pl.sp.user.size<=maxLen) (m:j.2.pl.sp.part.size<=maxLen):Dv w T jv (js.set i j) w':=by
 have d:∀k,F3 x k->({ T with jv:=jv,js:=js }:Tv).bh k:=λk c=>.inr (.inr (.inr (.inr ⟨x,Ai n,c.imp (λe=>e.symm) id⟩)));refine⟨Al.bu (T:={ T with jv:=jv,js:=js }) h.at_ n o p a s f q g r l t m,λk c=>?_,h.ni (p.mono λk _ c=>d k c)⟩;rcases Sb (T:={ T with jv:=jv,js:=js }) n o c with c|c
 .exact h.bh k c
 .rcases f k c with c|c
  .exact h.bh k (d k (.inr c))
  .exact .inr (Aw h.mod.size c)
def Aw1 (l:List (dn×List Int)) (p:dn×List Int):∀js:List Jb,Eb (l++[p]) js=Fm p.1 p.2 (Eb l js) p.1.array.toNat:=by
 induction l with
 | nil=>intro js;rfl
 | cons q l ih=>intro js;exact ih _
def U9 (s:dn) (a:List Int) (js:List Jb):∀n,(Fm s a js n).length=js.length+n
 | 0=>rfl
 | n+1=>by
  show(Fm s a js n++[_]).length=_;rw[Av,U9 s a js n];rfl
def Aw2 {l:List Int} {x:Int} (h:x∈Lib.compact l):x∈l:=by
 unfold Lib.compact Lib.compactUpTo at h;obtain⟨k,a,rfl⟩:=A7.1 h;have a:=Wl.1 (N5.1 a).1;rw[getElem!_pos _ _ (by simpa using a)];simp
def Aw3 {l:List Int} {x:Int} (h:x∈In l):x∈l:=by
 unfold In at h;exact Tk.1 h
def En (l:List Int):Int:=l.foldl (·+·) 0
def Yw (l:List Int) (a:Int):l.foldl (·+·) a=a+l.foldl (·+·) 0:=by
 induction l generalizing a with
 | nil=>simp
 | cons x l ih=>
  simp only[Wh];rw[ih,ih (0+x)];omega
def Aco (b:Int) (a:List Int) (h1:∀n,n∈a->1<=n):∀k:Nat,k<=a.length->Dr b a k=b+En (a.take k)
 | 0,_=>by simp[Dr,En]
 | k+1,hk=>by
  have d:=Aco b a h1 k ao9;show Dr b a k+(a[k]?).getD 0=_;have c:a[k]?=O a[k]:=Az _;rw[Lw c,d,c];unfold En;rw[N1];simp;omega
def Va (d:List Int) (h1:∀n,n∈d->1<=n) (k:Nat):En (d.take k)<=En d/\0<=En (d.take k):=by
 have e:∀l:List Int,(∀n,n∈l->1<=n)->0<=En l:=λl=>by
  induction l with
  | nil=>intro _;simp[En]
  | cons x l ih=>
   intro h;have h1:=ih λn f=>h n (Dj _ f);have g:=h x Ef;unfold En at h1 ⊢;rw[Wh,Yw];omega
 have a:=e (d.take k) λn f=>h1 n (Ms f);have b:=e (d.drop k) λn f=>h1 n (List.mem_of_mem_drop f)
 have c:En d=En (d.take k)+En (d.drop k):=by
  conv=>lhs;rw[<-Ti k d]
  unfold En;rw[N1,Yw]
 omega
def Aw4 {b:Int} {a:List Int} {r:List Int×List Int} {n:Int} (g:F4 b a.length n=false) (d:∀n,n∈a->1<=n) (h1:1<=b) (h:∀x,x∈r.2->1<=x/\x<b+En a) :
  ∀x,x∈(Mq b a r n).2->1<=x/\x<b+En a:=by
 intro x c;have f:=(Va a d a.length).2;rw[Oy]at f;unfold F4 at g;simp at g;unfold Mq at c;split at c
 .rcases C7.1 c with c|c
  .exact h x c
  .have c:=Gc.1 c;omega
 .rcases C7.1 c with c|c
  .exact h x c
  .unfold Jj at c;obtain⟨j,e,rfl⟩:=A7.1 c;have e:=Wl.1 e;obtain⟨k,l⟩:∃k:Nat,k=(-1-n).toNat:=⟨_,rfl⟩;rw[<-l]at e ⊢;have m:k<a.length:=ao9;have i:a[k]?=O a[k]:=Az _;rw[i]at e;have o:=Aco b a d k ao9;have p:=Aco b a d (k+1) ao9;have q:Dr b a (k+1)=Dr b a k+a[k]:=(by show Dr b a k+(a[k]?).getD 0=_;rw[i];rfl);have s:=Va a d k;have t:=Va a d (k+1);simp at e;omega
def Aj1 {b:Int} {a l:List Int} (e:l.any (F4 b a.length)=false) (c:∀n,n∈a->1<=n) (h1:1<=b):∀j,j<=l.length->∀x,x∈(C0 b a l j).2->1<=x/\x<b+En a
 | 0,_=>λx d=>by simp[C0]at d
 | j+1,hj=>by
  have d:l[j]?=O l[j]:=Az _;have f:F4 b a.length l[j]=false:=by have:=List.any_eq_false.1 e l[j] (Kv _);simpa using this
  show ∀x,x∈(Mq b a (C0 b a l j) ((l[j]?).getD 0)).2->_;rw[d];exact Aw4 f c h1 (Aj1 e c h1 j ao9)
def Acp {f:Int} {d:List Int} {after:List (List Int)} (h:(Fa f d after).2=0) :
  (Fa f d after).1.length=after.length/\1<=f/\after.length<=8/\(∀n,n∈d->1<=n/\n<=20)/\∀l,l∈(Fa f d after).1->(∀x,x∈l->1<=x/\x<f+En d)/\∃g,g∈after/\l.length<=20*g.length:=by
 have h0:=h;unfold Fa at h ⊢;split
 .rename_i c;rw[Ad c]at h;cases h
 rename_i o;rw[Ab o]at h;split
 .rename_i c;rw[Ad c]at h;cases h
 rename_i k;rw[Ab k]at h;split
 .rename_i c;rw[Ad c]at h;cases h
 rename_i m;rw[Ab m]at h;split
 .rename_i c;rw[Ad c]at h;cases h
 have i:∀n,n∈d->1<=n/\n<=20:=λn j=>by
  by_cases e:(decide (n<1) || decide (20<n))=true
  .exact absurd (Ku.2 ⟨n,j,e⟩) k
  .simp at e;omega
 refine⟨as9,ao9,ao9,i,λl q=>?_⟩;obtain⟨g,h0,rfl⟩:=A7.1 q;have p:g.any (F4 f d.length)=false:=by rw[Jl];intro e;exact m (Ku.2 ⟨g,h0,e⟩)
 refine⟨λx r=>Aj1 p (λn j=>(i n j).1) ao9 _ Ln x (Aw3 (Aw2 r)),g,h0,?_⟩;have a:=Lib.compact_length_le (In (C0 f d g g.length).2);rw[Ys]at a;have b:=(Yu f d g (λn j=>(i n j).2) g.length).2;unfold G5;omega
end
section
open Go.RowKit Go.Maps Go.Lib
structure Vb (vs:List ay) (s:dn) (g:List Int):Prop where
 vh:∀x,x∈g->x∈Cj vs s.part
 bj:g.Pairwise (·<·)
 len:(g.length:Int)=s.nodes
structure Fb (vs:List ay) (n k:Nat) (j:Jb):Prop where
 id:j.id=(k:Int)+1
 gd:C9 { j.sp with after:=[] } vs=0
 one:j.sp.array=1
 jq:∀x,x∈j.sp.after->1<=x/\x<=(n:Int)
 tg:j.sp.after.length<=160
 gw:E9 j.lf j.sp.ae
 low:-1<=j.start
 vi:j.start<0->j.aj=[]
 aj:0<=j.start->Vb vs j.sp j.aj/\K6 j<=1099511627776
 live:di j.lf.st=true↔j.parts≠[]
 run:di j.lf.st=true->0<=j.start
 xz:j.lf.st=2->j.start<0
 ends:5<=j.lf.st->j.lf.st<=7->0<=j.start
 pg:j.parts≠[]->j.parts.map Prod.fst=j.aj
 sk:∀p,p∈j.parts->0<=p.2/\p.2<=3
structure G7 (vs:List ay) (n k:Nat) (j:Jb):Prop extends Fb vs n k j where
 yl:j.parts≠[]->j.open_=true
def F8 (vs:List ay) (js:List Jb):Prop:=∀k j,js[k]?=O j->Fb vs js.length k j
def Dn (vs:List ay) (js:List Jb):Prop:=∀k j,js[k]?=O j->G7 vs js.length k j
variable {vs:List ay} {n k:Nat} {j:Jb} {js:List Jb}
def Dn.b (h:Dn vs js):F8 vs js:=λk j a=>(h k j a).toFb
def F8.jq (h:F8 vs js):D3 js:=λj b id a=>by
 obtain⟨k,c⟩:=Dk b;exact(h k j c).jq id a
def Fb.more (h:Fb vs n k j) {m:Nat} (b:n<=m):Fb vs m k j:=⟨h.id,h.gd,h.one,λx a=>by have:=h.jq x a;omega,h.tg,h.gw,h.low,h.vi,h.aj,h.live,h.run,h.xz,h.ends,h.pg,h.sk⟩
def Fb.idle (h:Fb vs n k j) (a:di j.lf.st=false):j.parts=[]:=by
 by_cases e:j.parts=[]
 .exact e
 .rw [h.live.2 e]at a;cases a
def Vc (h:Fb vs n k j) {l:Lf} (f:E9 l j.sp.ae) (g:l.st=1\/l.st=2\/l.st=8) (e:List (Int×Int)) (d:e=[]):G7 vs n k ⟨j.id,j.sp,l,-1,[],e⟩:=by
 subst d;refine⟨⟨h.id,h.gd,h.one,h.jq,h.tg,f,as9,λ_=>rfl,λc=>absurd c as9,?_,λc=>?_,λ_=>by simp,λa b=>?_,λc=>absurd rfl c,λp d=>by simp at d⟩,λc=>absurd rfl c⟩
 .show di l.st=true↔([]:List (Int×Int))≠[];rw[Ma];simp;omega
 .have:=Ma.1 c;simp only at this;omega
 .simp only at a b;omega
def Aw5 {s:Int} (h:G7 vs n k j) (h0:(Ay j.lf s).2=0) (m:s=6\/s=1\/s=2):G7 vs n k (Mc s j):=by
 obtain⟨f,l⟩:=Awg h.gw h0 m;unfold Mc;rcases l with⟨h1,d⟩|⟨h1,d,g,i⟩
 .have e:di (j.move s).lf.st=true:=by show di (Ay j.lf s).1.st=true;rw[d];rfl
  rw[Ad e]
  exact⟨⟨h.id,h.gd,h.one,h.jq,h.tg,f,h.low,h.vi,h.aj,⟨λ_=>h.live.1 h1,λ_=>e⟩,λ_=>h.run h1,λc=>by
   have c:(Ay j.lf s).1.st=2:=c
   omega,λa b=>by
   have a:5<=(Ay j.lf s).1.st:=a
   omega,h.pg,h.sk⟩,h.yl⟩
 .rw [Ab (by show ¬di (Ay j.lf s).1.st=true;rw[g];simp)];exact Vc h.toFb f i j.parts (h.idle h1)
def Dn.mod (h:Dn vs js) {i:Nat} {f:Jb->Jb} (b:∀j,js[i]?=O j->G7 vs js.length i (f j)):Dn vs (js.modify i f):=λk j a=>by
 rw[Lq];rw[Fc]at a
 cases hk:js[k]? with
 | none=>
  rw[hk]at a;have a:(I:Option Jb)=O j:=a;cases a
 | some y=>
  rw[hk]at a;have a:O (if i=k then f y else y)=O j:=a;split at a
  .rename_i e;subst e;injection a with a;rw[<-a];simpa using b y hk
  .injection a with a;subst a;exact h k y hk
def F8.mod (h:F8 vs js) {i:Nat} {f:Jb->Jb} (b:∀j,js[i]?=O j->Fb vs js.length i (f j)):F8 vs (js.modify i f):=λk j a=>by
 rw[Lq];rw[Fc]at a
 cases hk:js[k]? with
 | none=>
  rw[hk]at a;have a:(I:Option Jb)=O j:=a;cases a
 | some y=>
  rw[hk]at a;have a:O (if i=k then f y else y)=O j:=a;split at a
  .rename_i e;subst e;injection a with a;rw[<-a];simpa using b y hk
  .injection a with a;subst a;exact h k y hk
def Acq (h:Dn vs js):Dn vs (Co js):=by
 refine Aba (P:=Dn vs) (λjs k h f=>?_) h;have c:=f;unfold Gi;rw[Ad f];refine h.mod λj g=>?_;unfold F1 at c;rw[g]at c;have i:ei j.lf.st=true:=(D7 _ _▸c).1;have d:=(h k j g).toFb;obtain⟨a,b⟩:=Ajq d.gw i (.inr rfl);exact Vc d a (.inr (.inr b)) j.parts (d.idle (by rcases Nh.1 i with e|e<;>rw[e]<;>rfl))
def Aw6 (h:Fb vs n k j):G7 vs n k (Dz j):=by
 unfold Dz;split
 .rename_i c;refine⟨h,λe=>?_⟩;rcases c with c|c
  .exact absurd c e
  .exact c
 .rename_i c;have d:j.parts≠[]:=λe=>c (.inl e);have f:=h.live.2 d;obtain⟨a,b⟩:=Awf h.gw f;split
  .rename_i e;exact Vc h a (.inl e) [] rfl
  .rename_i e;rcases b with b|⟨i,l⟩
   .exact absurd b e
   .have g:di (Ay j.lf 8).1.st=false:=(by rw[Jl];intro c;rw[Ma]at c;omega);refine⟨⟨h.id,h.gd,h.one,h.jq,h.tg,a,h.low,h.vi,h.aj,⟨λc=>?_,λc=>absurd rfl c⟩,λc=>?_,λc=>?_,λ_ _=>h.run f,λc=>absurd rfl c,λp d=>by simp at d⟩,λc=>absurd rfl c⟩
    .have c:di (Ay j.lf 8).1.st=true:=c;rw[g]at c;cases c
    .have c:di (Ay j.lf 8).1.st=true:=c;rw[g]at c;cases c
    .have c:(Ay j.lf 8).1.st=2:=c;omega
def Acr (h:F8 vs js):Dn vs (I7 js):=by
 unfold I7;refine Acq λk j a=>?_;rw[As];rw[Bm]at a;obtain⟨y,b,rfl⟩:=Ou.1 a;exact Aw6 (h k y b)
def Aj2 (h:Fb vs n k j) {i:Nat} {p:Int×Int} (v:j.parts[i]?=O p) {g:Int} (h1:0<=g) (x:g<=3):Fb vs n k (Fe j i g):=by
 have m:j.parts≠[]:=λe=>by rw[e]at v;simp at v
 have t:=h.live.2 m
 have y:(j.parts.modify i λp=>(p.1,g)).map Prod.fst=j.parts.map Prod.fst:=by
  apply Eg;intro q;simp only[Bm,Fc]
  cases j.parts[q]? with
  | none=>rfl
  | some u=>
   simp only[J8]
   split<;>rfl
 have s:(j.parts.modify i λp=>(p.1,g))≠[]:=λe=>m (by
  have:=Ca List.length e;rw[Lq]at this
  exact Fv.1 this)
 have o:∀l:Lf,E9 l j.sp.ae->di l.st=true->Fb vs n k ⟨j.id,j.sp,l,j.start,j.aj,j.parts.modify i λp=>(p.1,g)⟩:=λl a b=>by
  refine⟨h.id,h.gd,h.one,h.jq,h.tg,a,h.low,h.vi,h.aj,⟨λ_=>s,λ_=>b⟩,λ_=>h.run t,λc=>?_,λc d=>?_,λ_=>y.trans (h.pg m),λq z=>?_⟩
  .have c:l.st=2:=c;have:=Ma.1 b;omega
  .have c:5<=l.st:=c;have:=Ma.1 b;omega
  .obtain ⟨r,f⟩:=Dk z;rw[Fc]at f
   cases hu:j.parts[r]? with
   | none=>
    rw[hu]at f;have f:(I:Option (Int×Int))=O q:=f;cases f
   | some u=>
    rw[hu]at f;have f:O (if i=r then(u.1,g)else u)=O q:=f;split at f
    .injection f with f;subst f;exact⟨h1,x⟩
    .injection f with f;subst f;exact h.sk u (Ai hu)
 unfold Fe Qh;split
 .obtain ⟨a,b,_⟩:=Acl h.gw t (.inl rfl);exact o _ a (by rw[b];rfl)
 split
 .obtain ⟨a,b,_⟩:=Acl h.gw t (.inr (.inl rfl));exact o _ a (by rw[b];rfl)
 .exact o _ h.gw t
def Aw7 {j:Jb} {a m:Int} {i:Nat} (h:Gj j a m=O i):∃p,j.parts[i]?=O p/\p.1=m/\p.2=0:=by
 unfold Gj at h;split at h
 .obtain ⟨c,b,_⟩:=Ze.1 h;simp at b;exact⟨_,Az c,b.1,b.2⟩
 .cases h
def Aw8 {e:de} (h:Fb vs n k j) (h1:0<=e.br) (a:e.br<=3):Fb vs n k (Md e j):=by
 unfold Md;split
 .exact h
 .rename_i i b;obtain⟨p,c,_⟩:=Aw7 b;exact Aj2 h c h1 a
def Aj3 (a:Int) (m:Nat) (h:Fb vs n k j):Fb vs n k (I8 j a m):=by
 induction m with
 | zero=>exact h
 | succ m ih=>
  show Fb vs n k (O7 (I8 j a m) m a);unfold O7;split
  .exact ih
  .rename_i p b;split
   .exact Aj2 ih b ad9 ad9
   .exact ih
def F8.map (_h:F8 vs js) {f:Jb->Jb} (b:∀k j,js[k]?=O j->Fb vs js.length k (f j)):F8 vs (js.map f):=λk j a=>by
 rw[As];rw[Bm]at a;obtain⟨y,c,rfl⟩:=Ou.1 a;exact b k y c
def Aj4 (h:Dn vs js) (tick:Int):Dn vs (Da tick js):=by
 unfold Da;refine Acr (h.b.map λk j a=>?_);unfold Ih;split
 .exact Aj3 _ _ (h k j a).toFb
 .exact (h k j a).toFb
def Aw9 (h:Dn vs js) (m:Int):Dn vs (I7 (js.map λj=>Ff j m)):=Acr (h.b.map λk j a=>Aj3 _ _ (h k j a).toFb)
def Axa {s:dn} (h:C9 s vs=0):C9 { s with array:=1,after:=[] } vs=0:=by
 have b:=Io h;have a:Cb { s with array:=1,after:=[] }=true:=by obtain⟨a1,a2,a3,g,c,d,e,i,f⟩:=Fg b;unfold Cb;simp only[a1,a2,a3,c,d,e,f,Bool.true_and,Bool.and_true];decide
 unfold C9 at h ⊢;rw[Ab (by rw[b];simp)]at h;rw[Ab (by rw[a];simp)];exact h
def Axb {s:dn} (h:C9 s vs=0) (l:List Int) (f:∀x,x∈l->1<=x/\x<=(n:Int)) (g:l.length<=160):G7 vs n k (Mb s l ((k:Int)+1)):=by
 obtain⟨_,_,_,_,_,_,_,_,e⟩:=Fg (Io h);obtain⟨j,m⟩:=C8.1 e;obtain⟨a,b⟩:=Awb (h:=s.held) j m;have o:=Nh.1 b;refine⟨⟨rfl,Axa (s:=s) h,rfl,f,g,a,by simp[Mb],λ_=>rfl,λc=>absurd c (by simp[Mb]),⟨λc=>?_,λc=>absurd rfl c⟩,λc=>?_,λ_=>by simp[Mb],λc d=>?_,λc=>absurd rfl c,λp i=>by simp[Mb]at i⟩,λc=>absurd rfl c⟩
 .have c:di (J9 s.ae s.held).1.st=true:=c;rw[Ma]at c;omega
 .have c:di (J9 s.ae s.held).1.st=true:=c;rw[Ma]at c;omega
 .have c:5<=(J9 s.ae s.held).1.st:=c;omega
def Vd (vs:List ay) (n:Nat) (js:List Jb):Prop:=∀k j,js[k]?=O j->G7 vs n k j
def G7.more (h:G7 vs n k j) {m:Nat} (a:n<=m):G7 vs m k j:=⟨h.toFb.more a,h.yl⟩
def Aj5 {s:dn} (h:C9 s vs=0) (l:List Int) (f:∀x,x∈l->1<=x/\x<=(n:Int)) (g:l.length<=160) (d:Vd vs n js):∀q,Vd vs n (Fm s l js q)
 | 0=>d
 | q+1=>λk j a=>by
  have o:=Aj5 h l f g d q;replace a:(Fm s l js q++[Mb s l ((js.length+q+1:Nat):Int)])[k]?=O j:=a;rw[List.getElem?_append]at a;split at a
  .exact o k j a
  .rename_i c;rw[U9]at c a
   cases e:k-(js.length+q)with
   | zero=>
    rw[e]at a;have b:Mb s l ((js.length+q+1:Nat):Int)=j:=by simpa using a
    have:k=js.length+q:=ao9
    clear a;subst this;subst b;have:=Axb (n:=n) (k:=js.length+q) h l f g;have i:((js.length+q+1:Nat):Int)=((js.length+q:Nat):Int)+1:=(by push_cast;rfl);rw[i];exact this
   | succ m=>
    rw[e]at a;simp at a
def Aj6:∀(l:List (dn×List Int)),(∀p,p∈l->C9 p.1 vs=0/\(∀x,x∈p.2->1<=x/\x<=(n:Int))/\p.2.length<=160)->∀js,Vd vs n js->Vd vs n (Eb l js)
 | [],_,_,h=>h
 | p :: l,hp,js,h=>by
  obtain⟨a,b,c⟩:=hp p Ef;exact Aj6 l (λq d=>hp q (Dj _ d)) _ (Aj5 a p.2 b c h _)
def Acs:∀(l:List (dn×List Int)),(∀p,p∈l->1<=p.1.array)->∀js:List Jb,((Eb l js).length:Int)=(js.length:Int)+En (l.map λp=>p.1.array)
 | [],_,js=>by simp[Eb,En]
 | p :: l,hp,js=>by
  have h1:=Acs l (λq a=>hp q (Dj _ a)) (Fm p.1 p.2 js p.1.array.toNat);have b:=hp p Ef;show((Eb l (Fm p.1 p.2 js p.1.array.toNat)).length:Int)=_;rw[h1,U9];have e:En ((p :: l).map λp=>p.1.array)=p.1.array+En (l.map λp=>p.1.array):=by unfold En;rw[Ic,Wh,Yw];omega
  rw[e];omega
def Acu {n:Nat} {l:List dn} (h:(Br vs n l).2=0):(∀s,s∈l->C9 s vs=0)/\(n:Int)+F6 l<=100/\Br vs n l=Fa ((n:Int)+1) (l.map λs=>s.array) (l.map λs=>s.after):=by
 unfold Br at h ⊢
 cases hf:l.find? λs=>decide (C9 s vs≠0)with
 | some s=>
  rw[hf]at h;have:=Tn hf;simp at this;exact absurd h this
 | none=>
  rw[hf]at h;simp only at h ⊢;refine⟨λs a=>?_,?_⟩
  .have:=Rk.1 hf s a;simpa using this
  .split
   .rename_i c;rw[Ad c]at h;cases h
   .exact ⟨ao9,rfl⟩
def Ve (l:List dn):F6 l=En (l.map λs=>s.array):=rfl
def Acv {α β:Type}:∀ {l:List α} {m:List β},l.length=m.length->(l.zip m).map Prod.fst=l
 | [],[],_=>rfl
 | [],_ :: _,h=>by simp at h
 | _ :: _,[],h=>by simp at h
 | a :: l,b :: m,h=>by
  simp only[List.zip_cons_cons,Ic];rw[Acv (by simpa using h)]
def Aj7 {t:dv} {l:List dn} (h:Dn vs t.ab) (h0:(Br vs t.ab.length l).2=0):Dn vs (J0 vs t l).1.ab/\(J0 vs t l).1.ab.length<=100:=by
 obtain⟨h1,h2,o⟩:=Acu h0;rw[o]at h0;obtain⟨r1,r2,r3,u,r5⟩:=Acp h0;rw[As]at r1 r3;have f:=Acs (l.zip (Br vs t.ab.length l).1) (λp q=>(u p.1.array (A7.2 ⟨p.1,(Z0 q).1,rfl⟩)).1) t.ab
 have r:(l.zip (Br vs t.ab.length l).1).map (λp=>p.1.array)=l.map λs=>s.array:=by
  rw[o];have:=Acv (l:=l) (m:=(Fa ((t.ab.length:Int)+1) (l.map λs=>s.array) (l.map λs=>s.after)).1) ao9
  conv=>rhs;rw[<-this]
  rw[De];rfl
 rw[r,<-Ve]at f;obtain⟨X,g⟩:=Ex (Eb (l.zip (Br vs t.ab.length l).1) t.ab);rw[<-g]at f
 have i:Vd vs X.length X:=by
  rw[g];refine Aj6 _ (λp q=>?_) _ (λk j v=>?_)
  .obtain ⟨a,b⟩:=Z0 q;rw[o]at b;obtain⟨c,l0,d,e⟩:=r5 p.2 b;refine⟨h1 p.1 a,λx hx=>?_,?_⟩
   .have:=c x hx;rw[<-Ve]at this;rw[<-g];omega
   .obtain ⟨s,z,rfl⟩:=A7.1 d;obtain⟨_,_,_,q4,_⟩:=Fg (Io (h1 s z));have:=R9 q4;omega
  .refine (h k j v).more ?_;rw[<-g]
   have:0<=F6 l:=by
    rw[Ve];have:=(Va (l.map λs=>s.array) (λn y=>(u n y).1) (l.map λs=>s.array).length).2
    rwa [Oy]at this
   omega
 refine⟨?_,?_⟩
 .show Dn vs (Co (Eb (l.zip (Br vs t.ab.length l).1) t.ab));rw[<-g];exact Acq i
 .show (Co (Eb (l.zip (Br vs t.ab.length l).1) t.ab)).length<=100;rw[<-g,Xz];omega
end
section
open Go.RowKit Go.Maps Go.Lib
variable{B:Nat}{T:Tv}{w:WD}
def Al.yf   (h:Al w T):∃b cap,w.cell? ⟨T.tb,4,I⟩=O (V b T.js.length cap):=by
 have a:=Bk h.head 4 T.jv rfl;rcases h.ab.2 with⟨e,h0⟩|⟨g,cap,c,e,_⟩
 .exact ⟨I,0,by rw[a,e,h0]⟩
 .exact ⟨_,_,by rw[a,e]⟩
def Azd (l:List dn) (s:dn):F6 (l++[s])=F6 l+s.array:=by
 simp[F6,Dw,N1]
structure zp (w:WD) (r:Int) (v:VL) (wx:WD):Prop where
 v:v=Z G r
 low:BW w.heap.size w wx
def Cy.le  {B B' g cap:Nat} {c:List VL} {e:List (List Int)} (h:Cy w B g cap c e) (d:B'<=B):Cy w B' g cap c e:=
 ⟨Joins.ownsRow_le h.row d,λi f l a b=>(h.each i f l a b).le d,h.two,h.rj⟩
def Jk.len   {v:VL} {l:List VL} (h:Jk w B v l):∃so n c,v=V so n c/\n=l.length:=by
 rcases h.row.2 with⟨rfl,h0⟩|⟨g,cap,a,rfl,_⟩
 .exact ⟨I,0,0,rfl,h0.symm⟩
 .exact ⟨_,_,_,rfl,rfl⟩
def Ac6   (h:Al w T) (a7:Kd T.vs) (hj:T.js.length<=1000000) (so:Option Addr) (n sc:Nat) (xs:List ax) (hs:L8 w so n xs) (hn:n<=1000) :
  Calls prog 58 #[K (O ⟨T.tb,0,I⟩),V so n sc] w (Gv (Br T.vs T.js.length (xs.map ax.pl)) w):=by
 obtain⟨jo,jc,c4⟩:=h.yf;have c5:=Bk h.head 5 (K (O ⟨T.fb,0,I⟩)) rfl;have aE:=hs.len;have hf:=h.dp.xw;have a2:=Ac h.head;obtain⟨m,hm⟩:=Ex (T.js.length);obtain⟨tb,ht⟩:=Ex (T.tb);obtain⟨vs,bG⟩:=Ex (T.vs);rw[<-ht]at c4 c5 a2;rw[<-hm]at c4 hj;rw[<-bG]at hf a7;rw[<-hm,<-ht,<-bG];clear hm ht bG h;have bw:BW w.heap.size w w:=Below.refl _ _;have bi:=Aj.nil w w.heap.size;have bg:=Jk.nil w w.heap.size;have bH:IntKind.i64.wrap ((m:Int)+1)=(m:Int)+1:=Im ao9 ao9;replace⟨a7,hs,aE,hf,bw,bi,bg,a2⟩:=H8 a7 hs aE hf bw bi bg a2;replace bH:=Hh bH;go_enter func58,ntmps58;go_wp2_with fail;go_loopw [6,7,8,10,11,20] (λv6 v7 v8 _ _ iv wr=>∃(i:Nat) (je:Int),iv=Z G i/\i<=n/\v6=Z G je/\Hid (je=(m:Int)+F6 ((xs.map ax.pl).take i))/\Hid ((m:Int)<=je/\je<=m+20*(i:Int))/\Hid (BW w.heap.size w wr)/\Hid (Aj wr w.heap.size v7 ((xs.take i).map λx=>x.pl.array))/\Hid (Jk wr w.heap.size v8 (Mr (xs.take i)))/\Hid (∀(k:Nat) (x:ax),k<i->xs[k]?=O x->C9 x.pl vs=0)) (λ_ _ _ _ _ iv _=>n-(intOf iv).toNat)
 case atStart=>exact⟨0,m,rfl,Ar _,rfl,Hh (by simp[F6]),Hh ⟨ao9,ao9⟩,bw,bi,bg,Hh (λk x hk=>by omega)⟩
 case round=>
  obtain⟨i,je,rfl,b6,rfl,ba,bU,hb,hS,hR,hK⟩:=hrel;obtain⟨bR,n7,c7,rfl,aA⟩:=hS.len;obtain⟨bS,n8,c8,rfl,aB⟩:=hR.len;by_cases hc:i<n
  .have bT:(i:Int)<n:=ao9;have b5:(0:Int)<=(i:Int):=ao9;obtain⟨x,hx⟩:=Ge xs i (by have:=aE.out;omega);obtain⟨b,t,rfl,bv,aX,aZ⟩:=hs.cell i x hx;have bC:=aZ.low hb.out;have aO:=Lw hx;obtain⟨r,hr⟩:=Ex (C9 x.pl vs);have f:=λj hj=>(Af hb.out bv).trans (aX j hj)
   have aV:r≠0->Br vs m (xs.map ax.pl)=([],r):=λe=>by
    rw[hr];refine Awq (i:=i) (λk y hk hy=>?_) (by rw[Bm,hx];rfl) (by rw[<-hr];exact e);rw[Bm]at hy;obtain⟨z,hz,rfl⟩:=Ou.1 hy;exact hK.out k z hk hz
   have bA:=λe=>Io (hr.symm.trans e)
   have be:r=0->∀(k:Nat) (x:ax),k<i+1->xs[k]?=O x->C9 x.pl vs=0:=λe k z hk hz=>by
    by_cases q:k=i
    .subst q;rw[hx]at hz;injection hz with hz;subst hz;exact hr.symm.trans e
    .exact hK.out k z ao9 hz
   have ap:(m:Int)+F6 ((xs.map ax.pl).take (i+1))=je+x.pl.array:=(by rw[Lw (x:=x.pl) (by rw[Bm,hx];rfl),Azd,ba.out];omega);have aC:(xs.take (i+1)).map (λx=>x.pl.array)=(xs.take i).map (λx=>x.pl.array)++[x.pl.array]:=(by rw[aO,Dw];rfl);have an:Mr (xs.take (i+1))=Mr (xs.take i)++[V x.so x.n x.c]:=(by rw[aO];simp[Mr]);have bl:=hf.below hb.out;have a8:=λW (h:BW wr.heap.size wr W)=>Apo (bl.below h) a7.out x (bC.low h);simp only[<-hr]at a8;obtain⟨⟨aH,aF,nodes,⟨da,db,dc,dd⟩,aI,aG,array,ae,av,after⟩,al,sn,af⟩:=x;replace ap:(m:Int)+F6 ((xs.map ax.pl).take (i+1))=je+array:=ap;replace aC:(xs.take (i+1)).map (λx=>x.pl.array)=(xs.take i).map (λx=>x.pl.array)++[array]:=aC;replace an:Mr (xs.take (i+1))=Mr (xs.take i)++[V al sn af]:=an;have z0:wr.cell? ⟨b,t+i*13,I⟩=O (E aH):=f 0 ao9;have z1:wr.cell? ⟨b,t+i*13+1,I⟩=O (E aF):=f 1 ao9;have z2:wr.cell? ⟨b,t+i*13+2,I⟩=O (Z G nodes):=f 2 ao9;have z3:wr.cell? ⟨b,t+i*13+3,I⟩=O (Z G da):=f 3 ao9;have z4:wr.cell? ⟨b,t+i*13+4,I⟩=O (Z G db):=f 4 ao9;have z5:wr.cell? ⟨b,t+i*13+5,I⟩=O (Z G dc):=f 5 ao9;have z6:wr.cell? ⟨b,t+i*13+6,I⟩=O (Z G dd):=f 6 ao9;have z7:wr.cell? ⟨b,t+i*13+7,I⟩=O (Z G aI):=f 7 ao9;have z8:wr.cell? ⟨b,t+i*13+8,I⟩=O (Z G aG):=f 8 ao9;have z9:wr.cell? ⟨b,t+i*13+9,I⟩=O (Z G array):=f 9 ao9;have bW:wr.cell? ⟨b,t+i*13+10,I⟩=O (Z G ae):=f 10 ao9;have bX:wr.cell? ⟨b,t+i*13+11,I⟩=O (Y av):=f 11 ao9;have bY:wr.cell? ⟨b,t+i*13+12,I⟩=O (V al sn af):=f 12 ao9;replace⟨aX,f,bv,aZ,bC,aO,hr,aV⟩:=H8 aX f bv aZ bC aO hr aV;replace⟨bA,be,ap,aC,an,bl,a8,hx⟩:=H8 bA be ap aC an bl a8 hx;replace⟨aA,aB⟩:=H2 aA aB;go_upto_region 7 with fail;clear z0 z1 z2 z3 z4 z5 z6 z7 z8 z9 bW bX bY;obtain⟨s,bB⟩:=Ex (wr.heap.size);obtain⟨W1,a3⟩:=Ex (wr.alloc (J (⟨⟨aH,aF,nodes,⟨da,db,dc,dd⟩,aI,aG,array,ae,av,after⟩,al,sn,af⟩:ax).cells 33 (0,0)));have ac:BW wr.heap.size wr W1:=(by rw[a3];exact Bn);have aT:W1.heap[s]?=O (J (⟨⟨aH,aF,nodes,⟨da,db,dc,dd⟩,aI,aG,array,ae,av,after⟩,al,sn,af⟩:ax).cells 33 (0,0)):=(by rw[a3,bB];exact Ah _ _);rw[<-a3,<-bB];clear a3 bB;have o:=hb.trans (ac.mono hb.size);have a0:=λW (h:BW W1.heap.size W1 W)=>a8.out W (ac.trans (h.mono ac.size))
   have bk:∀d:WD,BW W1.heap.size W1 d->d.cell? ⟨tb,5,I⟩=O (K (O ⟨T.fb,0,I⟩))/\d.cell? ⟨s,0,I⟩=O (E aH)/\d.cell? ⟨s,1,I⟩=O (E aF)/\d.cell? ⟨s,2,I⟩=O (Z G nodes)/\d.cell? ⟨s,3,I⟩=O (Z G da)/\d.cell? ⟨s,4,I⟩=O (Z G db)/\d.cell? ⟨s,5,I⟩=O (Z G dc)/\d.cell? ⟨s,6,I⟩=O (Z G dd)/\d.cell? ⟨s,7,I⟩=O (Z G aI)/\d.cell? ⟨s,8,I⟩=O (Z G aG)/\d.cell? ⟨s,9,I⟩=O (Z G array)/\d.cell? ⟨s,10,I⟩=O (Z G ae)/\d.cell? ⟨s,11,I⟩=O (Y av)/\d.cell? ⟨s,12,I⟩=O (V al sn af):=λd h=>by
    have p:=Ae h aT (Ac aT);exact⟨(Af (o.trans (h.mono o.size)) a2.out).trans c5,Aa p 0,Aa p 1,Aa p 2,Aa p 3,Aa p 4,Aa p 5,Aa p 6,Aa p 7,Aa p 8,Aa p 9,Aa p 10,Aa p 11,Aa p 12⟩
   have u:BW W1.heap.size W1 W1.drew:=(Below.refl _ _).drew;replace⟨ac,aT,o,a0,bk,u⟩:=H6 ac aT o a0 bk u;go_cut [11] (λrv wx=>zp W1 r rv wx)
   case first=>
    go_region_held3 (λd=>d.cell? ⟨tb,5,I⟩=O (K (O ⟨T.fb,0,I⟩))/\d.cell? ⟨s,0,I⟩=O (E aH)/\d.cell? ⟨s,1,I⟩=O (E aF)/\d.cell? ⟨s,2,I⟩=O (Z G nodes)/\d.cell? ⟨s,3,I⟩=O (Z G da)/\d.cell? ⟨s,4,I⟩=O (Z G db)/\d.cell? ⟨s,5,I⟩=O (Z G dc)/\d.cell? ⟨s,6,I⟩=O (Z G dd)/\d.cell? ⟨s,7,I⟩=O (Z G aI)/\d.cell? ⟨s,8,I⟩=O (Z G aG)/\d.cell? ⟨s,9,I⟩=O (Z G array)/\d.cell? ⟨s,10,I⟩=O (Z G ae)/\d.cell? ⟨s,11,I⟩=O (Y av)/\d.cell? ⟨s,12,I⟩=O (V al sn af))
     (first
       | with_reducible exact bk.out _ u.out)
     (first
       | (go_at_call 98
          (with_reducible refine(a0.out _ u.out).mono ?_)
          rintro e wz ⟨rfl,bL⟩;replace u:=Hh (u.trans (bL.mono u.size))
          clear bL))
    all_goals
     go_wp2_with fail;go_meet
     case rel=>exact⟨rfl,u.out⟩
   case rest=>
   obtain⟨rfl,aJ⟩:=hcut;have a:=o.trans (aJ.mono o.size);have aN:=Ae aJ aT.out (Ac aT.out);have aR:=ac.trans (aJ.mono ac.size);by_cases q:r=0;rotate_left
   .have q2:(r != 0)=true:=(by simpa using q);replace⟨a,aN,aR,aJ,q⟩:=H5 a aN aR aJ q;go_wp2_with fail;exact An (v:=D #[V I 0 0,Z G r]) (by simp[results,results58,go_sem]) rfl (Gv.bad (aV q.out) q.out a.out)
   subst q;obtain⟨_,_,_,q4,_,_,_,q8,_⟩:=Fg (bA rfl);obtain⟨b1,b2⟩:=C8.1 q8;replace b1:1<=array:=b1;replace b2:array<=20:=b2;have bM:=bU.out;have b7:IntKind.i64.wrap (je+array)=je+array:=Im ao9 ao9;have bN:Hid ((m:Int)<=je+array/\je+array<=m+20*((i+1:Nat):Int)):=Hh ⟨ao9,ao9⟩;have x9:=Bk aN 9 (Z G array) rfl;have hA:=(Below.refl wc.heap.size wc).alloc Ln (J #[Z G array] 3 (0,0));have s7:=(hS.mod (Mod.ag (S:=λ_=>False) aR) (λ_ _ c=>c)).mod (Mod.ag (S:=λ_=>False) hA) (λ_ _ c=>c);have s8:(wc.alloc (J #[Z G array] 3 (0,0))).cell? ⟨wc.heap.size,0,I⟩=O (Z G array):=Aa (Ah _ _) 0;have s9:=Aw a.size hA.size;have r7:=(hR.mod (Mod.ag (S:=λ_=>False) aR) (λ_ _ c=>c)).mod (Mod.ag (S:=λ_=>False) hA) (λ_ _ c=>c);have a9:=Ae hA aN (Ac aN);have aL:=a.trans (hA.mono a.size);have bo:n7<=1000000000:=(by have:=aA.out;rw[As,Dt]at this;omega);have bs:n8<=1000000000:=(by have:=aB.out;simp[Mr]at this;omega);clear bM;replace⟨a,aN,aR,aJ,q4,q8,b1,b2⟩:=H8 a aN aR aJ q4 q8 b1 b2;replace⟨hA,s7,s8,s9,r7,a9,aL,bo⟩:=H8 hA s7 s8 s9 r7 a9 aL bo;replace bs:=Hh bs;go_upto_region 12 with(at_builtin;refine Mp rfl _ _ rfl w.heap.size n7 _ rfl s7.out aA.symm ⟨wc.heap.size,0,I⟩ 1 rfl array s8.out bo.out s9.out ?_;intro g7 bZ w7 h7 a5 bJ;replace⟨h7,a5,bJ⟩:=H3 h7 a5 bJ);clear x9;have bx:=Mod.grown (S:=λk=>(Value.slice bR n7 c7).ownBlock=O k) a5.out (λk hk=>hk);have bI:=bx.ar a9.out (λe=>Bx s7.row a9.out ad9 e)
   have bQ:=r7.mod bx (λk hk e=>by
    obtain⟨c,hc,_⟩:=Cq r7.row hk
    exact Bx s7.row hc ad9 e)
   have ad:=aL.grown a5.out s9.out (λk hk=>(s7.lt k hk).1);have bV:=Bk bI 12 (V al sn af) rfl;have hB:=(Below.refl w7.heap.size w7).alloc Ln (J #[V al sn af] 31 (0,0));have t7:=bQ.mod (Mod.ag (S:=λ_=>False) hB) (λ_ _ c=>c);have t8:(w7.alloc (J #[V al sn af] 31 (0,0))).cell? ⟨w7.heap.size,0,I⟩=O (V al sn af):=Aa (Ah _ _) 0;have t9:=Aw ad.size hB.size;have u7:=h7.mod (Mod.ag (S:=λ_=>False) hB) (λ_ _ c=>c);have aM:=ad.trans (hB.mono ad.size);clear bx bQ;replace⟨bI,ad,hB,t7,t8,t9,u7,aM⟩:=H8 bI ad hB t7 t8 t9 u7 aM;go_upto_region 13 with(at_builtin;refine Awp rfl _ _ rfl w.heap.size n8 _ rfl t7.out aB.symm ⟨w7.heap.size,0,I⟩ 1 rfl al sn af t8.out bs.out t9.out ?_;intro g8 b0 w8 h8 a6 bK;replace⟨h8,a6,bK⟩:=H3 h8 a6 bK);clear bV;have bP:=Mod.grown (S:=λk=>(Value.slice bS n8 c8).ownBlock=O k) a6.out (λk hk=>hk)
   have u8:=u7.mod bP (λk hk e=>by
    obtain⟨c,hc,_⟩:=Cq u7.row hk
    exact Bx t7.row hc ad9 e)
   have aK:=aM.grown a6.out t9.out (λk hk=>(t7.lt k hk).1);have u9:=h8.out;rw[<-aC.out]at u8;rw[<-an.out]at u9;have bO:=Hh ap.symm;have bf:=be rfl;clear bP;replace⟨u8,u9,aK,bf⟩:=H4 u8 u9 aK bf;go_wp2_with fail;go_roundw
   case rel=>exact⟨i+1,je+array,by go_num,ao9,by go_num,bO,bN,aK,u8,u9,bf⟩
   case measure=>simp[intOf];omega
  .have bT:¬(i:Int)<n:=ao9;have a1:xs.take i=xs:=Dd (by have:=aE.out;omega);have aD:(xs.map ax.pl).take i=xs.map ax.pl:=Dd (by rw[As];have:=aE.out;omega)
   have ao:∀(k:Nat) (y:dn),k<(xs.map ax.pl).length->(xs.map ax.pl)[k]?=O y->C9 y vs=0:=λk y hk hy=>by
    rw[Bm]at hy;obtain⟨z,hz,rfl⟩:=Ou.1 hy;exact hK.out k z (by rw[As]at hk;have:=aE.out;omega) hz
   have am:=Awr (n:=m) ao;have aS:=ba.out;rw[aD]at aS;rw[<-aS]at am;have aQ:=hS.out;have aP:=hR.out;rw[a1]at aQ aP;by_cases q:je > 100
   .rw [Ad q]at am;replace⟨am,aS,aQ,aP,a1,aD,ao,aA⟩:=H8 am aS aQ aP a1 aD ao aA;replace aB:=Hh aB;go_wp2_with fail;exact An (v:=D #[V I 0 0,Z G 140]) (by simp[results,results58,go_sem]) rfl (Gv.bad am.out ad9 hb.out)
   rw[Ab q]at am
   have a4:∀x,x∈xs->x.pl.after.length<=8:=λx hx=>by
    obtain⟨k,hk⟩:=Dk hx;obtain⟨_,_,_,q4,_⟩:=Fg (Io (hK k x (by have:=(Ap.1 hk).1;have:=aE.out;omega) hk));exact R9 q4
   have aY:∀x,x∈xs->x.ok wr:=λx hx=>by
    obtain⟨k,hk⟩:=Dk hx;obtain⟨_,_,_,_,_,ho⟩:=hs.cell k x hk;exact ho.low hb.out
   obtain⟨bc,bD⟩:=aP.rows aY (by have:=aE.out;omega) (λx hx=>by have:=a4 x hx;omega);obtain⟨b8,n9,c9,e9,bb,bn,_⟩:=Ob aQ;injection e9 with e9 e9b e9c;subst e9 e9b e9c
   have aW:=Azc ((m:Int)+1) bR n7 c7 (xs.map λx=>x.pl.array) bS n8 c8 (xs.map λx=>x.pl.after) wr bn bD (λl hl=>by
    obtain⟨x,hx,rfl⟩:=A7.1 hl;have:=a4 x hx
    omega)
   rw[De,De]at am;have bd:Br vs m (xs.map ax.pl)=Fa ((m:Int)+1) (xs.map λx=>x.pl.array) (xs.map λx=>x.pl.after):=am;rw[<-bd]at aW;obtain⟨R,aU⟩:=Ex (Br vs m (xs.map ax.pl));rw[<-aU]at aW;rw[<-aU];have b4:=(Af hb.out a2.out).trans c4;have b3:=bH.out;clear am bd;replace⟨aS,aQ,aP,a1,aD,ao,aA,aB⟩:=H8 aS aQ aP a1 aD ao aA aB;replace⟨aW,aU,a4,aY,bD,bc,bn,bb⟩:=H8 aW aU a4 aY bD bc bn bb;go_wp2_with (go_at_call 99;(with_reducible refine(aW.out).mono ?_);rintro e w1 ⟨v,rfl,bE,bF,ac⟩;replace⟨bE,bF,ac⟩:=H3 bE bF ac);refine An (v:=D #[v,Z G R.2]) (by simp[results,results58,go_sem]) rfl ?_;rw[<-aU.out];refine⟨v,rfl,bE.out,λe=>?_,hb.trans (ac.mono hb.size)⟩;obtain⟨g,s2,e1,e2⟩:=bF e;exact⟨g,s2,e1,e2.le hb.size⟩
