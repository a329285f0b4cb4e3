/- Parts of a proof. No condition. -/
import Derived.Test.YtimlcnhcjndijaaGreatDoorF25
import Derived.Test.YtimlcnhcjndijaaGreatDoorF32
set_option linter.all false
set_option maxRecDepth 100000
set_option maxHeartbeats 4000000
namespace Go.Proofs.YtimlcnhcjndijaaGreatDoor
open Go renaming World->WD,Value->VL
open Go.RowKit renaming Below->BW
open Go.Proofs.Tryz
section
open Go.RowKit Go.Maps Go.Lib
def B7 (vs:List au) (n:Nat) (l:List dn):List (List Int)×Int:=
 match l.find? fun s=>decide (Dr s vs≠0) with
 | some s=>([],Dr s vs)
 | none=>if 100<(n:Int)+G8 l then ([],140) else Ga ((n:Int)+1) (l.map fun s=>s.array) (l.map fun s=>s.after)
def Mq (vs:List au) (t:du) (l:List dn):du×Cl:=
 let js:=El (l.zip (B7 vs t.ab.length l).1) t.ab
 (t.ft (Dj js),⟨0,0,(t.ab.length:Int)+1,(js.length:Int)⟩)
def Fl (vs:List au) (t:du) (e:ee):Int:=
 if Fw e=false then 130
 else if B4 e.n.kind=true/\e.n.seq<=(Kf t.cls e.n.ag).seq then 141
 else if e.n.kind=1 then (if e.n.ah<=t.ah then 141 else 0)
 else if e.n.kind=6 then (if e.n.tick<=t.tick then 141 else 0)
 else if e.n.kind=2 then (B7 vs t.ab.length e.specs).2
 else if 8<=e.n.kind/\e.n.kind<=11 then Le t e.n
 else Jy t e.n
noncomputable def dp (vs:List au) (t:du) (e:ee):du×Cl:=
 if e.n.kind=1 then ({ t with ah:=e.n.ah },⟨0,0,0,0⟩)
 else if e.n.kind=2 then Mq vs t e.specs
 else if e.n.kind=6 then (So vs t e.n.tick,⟨0,0,0,0⟩)
 else if e.n.kind=7 then (Afs t e.n,⟨0,0,0,0⟩)
 else if 8<=e.n.kind/\e.n.kind<=11 then (N9 t e.n,⟨0,0,0,0⟩)
 else Afr t e.n
noncomputable def Eo (vs:List au) (t:du) (e:ee):du×Cl×Int:=
 if Fl vs t e≠0 then (t,⟨0,0,0,0⟩,Fl vs t e)
 else
  let d:=dp vs t e
  (if B4 e.n.kind=true then { d.1 with cls:=Is d.1.cls e.n.ag ⟨e.n.seq,d.2.e,d.2.first,d.2.last⟩ } else d.1,d.2,0)
structure Jk (w:WD) (B:Nat) (v:VL) (svs:List VL):Prop where
 row:w.ownsRow B 31 1 v svs.length svs
def Jk.nil (w:WD) (B:Nat):Jk w B (.slice none 0 0) []:=⟨rfl,.inl ⟨rfl,rfl⟩⟩
def Jk.mod {w w':WD} {B:Nat} {S:Nat->Prop} {v:VL} {l:List VL} (h:Jk w B v l) (a:Mod S w w') (b:∀ k,v.ownBlock=some k->¬ S k):Jk w' B v l:=⟨A7 h.row a b⟩
def Jk.lt {w:WD} {B:Nat} {v:VL} {l:List VL} (h:Jk w B v l):∀ k,v.ownBlock=some k->B<=k/\k<w.heap.size:=fun k a=>h.row.lt k a
def Avh {m:Array Oper} {rest:List Oper} {o:Oper} {a:Act} {w:WD} {Q:Exit->Act->WD->Prop} (y:o.guard=none) (s x:Operand)
  (ho:o.op=.call { callee:=.builtin .append,args:=#[s,x],argTypes:=#[137,137] })
  (B L:Nat) (v:VL) (hs:a.eval s=v) {l:List VL} (f:Jk w B v l) (r:l.length=L) (q:Addr) (c:Nat) (hx:a.eval x=.slice (some q) 1 c) (so:Option Addr) (n sc:Nat) (hk:w.cell? q=some (.slice so n sc)) (hL:L<=1000000000) (hb:B<=w.heap.size)
  (h:∀ g cap w',Jk w' B (.slice (some ⟨g,0,none⟩) (L+1) cap) (l++[.slice so n sc])->w.grownBy w' v.ownBlock->(v.ownBlock=some g\/g=w.heap.size)->wpList prog m Q rest (a.put o.dst (.slice (some ⟨g,0,none⟩) (L+1) cap)) w') :
  wpList prog m Q (o :: rest) a w:=by
 obtain ⟨i3,z,ac,i,k⟩:=Cb Aip;subst r;refine Q9 w y s x 137 ho B 31 i3 _ 1 24 underlying137 z ac i k rfl (by decide) v l.length l hs f.row q 1 c [.slice so n sc] hx rfl ?_ (by simp [Value.oneCell']) (G4 (n:=l.length) (by omega)) (by omega) hb ?_
 .intro j u p
  match j,p with
  | 0,p=>
   simp at p;subst p;simpa [Addr.add] using hk
 .intro v' w' b d _ t;obtain ⟨g,cap,rfl⟩:=Joins.ownsRow_form b (by omega);refine h g cap w' ⟨?_⟩ d ?_
  .rw [Cn];simpa using b
  .rcases t with e | e
   .exact .inl e.symm
   .simp [Value.ownBlock] at e;exact .inr e
def Aiv {α:Type} {p:α->Bool}:∀ {l:List α} {i:Nat} {s:α},(∀ (k:Nat) (y:α),k<i->l[k]?=some y->p y=false)->l[i]?=some s->p s=true->l.find? p=some s
 | [],i,s,_,h,_=>by simp at h
 | y :: l,0,s,_,h,hp=>by
  simp at h;subst h;simp [List.find?,hp]
 | y :: l,i+1,s,hk,h,hp=>by
  have h0:=hk 0 y (by omega) (by simp);simp only [List.find?,h0];exact Aiv (i:=i) (fun k z a b=>hk (k+1) z (by omega) (by simpa using b)) (by simpa using h) hp
def Avi {vs:List au} {n:Nat} {l:List dn} {i:Nat} {s:dn} (b:∀ (k:Nat) (y:dn),k<i->l[k]?=some y->Dr y vs=0) (h:l[i]?=some s) (c:Dr s vs≠0):B7 vs n l=([],Dr s vs):=by
 have:=Aiv (p:=fun s=>decide (Dr s vs≠0)) (fun k y h1 a=>by simp [b k y h1 a]) h (by simp [c]);unfold B7;rw [this]
def Avj {vs:List au} {n:Nat} {l:List dn} (b:∀ (k:Nat) (y:dn),k<l.length->l[k]?=some y->Dr y vs=0):B7 vs n l=if 100<(n:Int)+G8 l then ([],140) else Ga ((n:Int)+1) (l.map fun s=>s.array) (l.map fun s=>s.after):=by
 have:(l.find? fun s=>decide (Dr s vs≠0))=none:=by rw [Rb];intro s c;obtain ⟨k,a⟩:=Dg c;simp [b k s (Ao.1 a).1 a]
 unfold B7;rw [this]
def Jl {s:dn} {vs:List au} (h:Dr s vs=0):D6 s=true:=by
 unfold Dr at h;split at h
 .omega
 .rename_i q;simpa using q
def Mr (xs:List ay):List VL:=xs.map fun x=>.slice x.so x.n x.c
def Jk.rows {w:WD} {B:Nat} {j:Option Addr} {n c:Nat} {xs:List ay} (h:Jk w B (.slice j n c) (Mr xs)) (u:∀ x,x∈xs->x.ok w) (h1:xs.length<=1000) (q:∀ x,x∈xs->x.pl.after.length<=100000):n=xs.length/\Q0 w j n (xs.map fun x=>x.pl.after):=by
 have m:(Mr xs).length=xs.length:=by simp [Mr]
 have o:=h.row;rcases o.2 with ⟨e,h0⟩ | ⟨g,cap,p,e,v,s,t,z,k⟩
 .injection e with e1 e2 e3;subst e1 e2;have f:xs=[]:=Gd.1 (by omega);subst f;exact ⟨rfl,rfl,by omega,fun i l m=>by simp at m⟩
 .injection e with e1 e2 e3;subst e1;refine ⟨by omega,by simp;omega,by omega,fun i l a=>?_⟩;rw [Bh] at a
  cases hxi:xs[i]? with
  | none=>rw [hxi] at a;cases a
  | some x=>
   rw [hxi] at a;simp at a;subst a;have y:=(Ao.1 hxi).1;have d:=Ai hxi;have b:=u x d;subst e2;have r:=E6 o i (by omega);refine ⟨g,0,x.so,x.c,rfl,Ab s,?_,?_,?_,q x d⟩
   .rw [Da,r];simp [Mr,hxi,b.after.len]
   .rw [b.after.len];exact b.after
   .rw [b.after.len];exact b.lg
variable {w w' wr:WD} {T:Tv}
def An.tj (h:An w T) {b:Nat} {x:aj} {jv:VL} (u:Mod (fun k=>k=T.tb\/T.jv.ownBlock=some k) w w')
  (hd:w'.heap[T.tb]?=some (.cells #[.int .i64 T.ah,.int .i64 T.tick,.map (some T.mb),T.nv,jv,.pointer (some ⟨T.fb,0,none⟩),T.cv] 115 (0,0)))
  (z:w'.ownsRow 0 125 1 jv (T.js.length+1) ((T.js.map fun j=>.pointer (some ⟨j.1,0,none⟩))++[.pointer (some ⟨b,0,none⟩)]))
  (ad:∀ k,jv.ownBlock=some k->T.jv.ownBlock=some k\/w.heap.size<=k)
  (hb:w.heap.size<=b) (p:Bb w' b x) (i:x.po=none/\x.pn=0/\x.pc=0/\x.pl.parts=[]) (m:x.go=none/\x.gn=0/\x.gc=0/\x.pl.ak=[])
  (an:Ar w' x.so x.sn x.pl.sp.after) (ac:∀ k o,x.so=some ⟨k,o,none⟩->∃ c,w'.heap[k]?=some (.cells c 3 (0,0))) (am:x.sn<=x.sc) (hu:x.pl.sp.user.size<=maxLen) (hp:x.pl.sp.part.size<=maxLen) :
  An w' { T with jv:=jv,js:=T.js++[(b,x)] }/\∀ k,({ T with jv:=jv,js:=T.js++[(b,x)] }:Tv).aw k->T.aw k\/w.heap.size<=k:=by
 have t:x.pb=none:=by unfold aj.pb;rw [i.1];rfl
 have aw:∀ k,({ T with jv:=jv,js:=T.js++[(b,x)] }:Tv).aw k->T.aw k\/w.heap.size<=k:=fun k c=>by
  rcases c with e | e | e | e | ⟨j,d,e⟩
  .exact .inl (.inl e)
  .exact .inl (.inr (.inl e))
  .exact .inl (.inr (.inr (.inl e)))
  .rcases ad k e with e | e
   .exact .inl (.inr (.inr (.inr (.inl e))))
   .exact .inr e
  .rcases Dh.1 d with d | d
   .exact .inl (.inr (.inr (.inr (.inr ⟨j,d,e⟩))))
   .have d:=Jq.1 d;subst d;rcases e with e | e
    .exact .inr (by rw [<- e];exact hb)
    .rw [t] at e;cases e
 have jb:∀ k,T.jv.ownBlock=some k->∃ c,w.heap[k]?=some (.cells c 125 (0,0)):=fun k e=>by
  obtain ⟨c,f,_⟩:=Cq h.ab e;exact ⟨c,f⟩
 have y:Mod T.aw w w':=u.mono fun k _ e=>e.imp id fun e=>.inr (.inr (.inl e))
 have l:∀ {B size n:Nat} {Ty:TypeId} {v:VL} {xs:List VL},w.ownsRow B Ty size v n xs->Ty≠125->Ty≠115->∀ k,v.ownBlock=some k->¬ (k=T.tb\/T.jv.ownBlock=some k):=fun z h1 h2 k hk c=>by
  rcases c with e | e
  .subst e;exact Bo z h.head h2 hk
  .obtain ⟨cc,f⟩:=jb k e;exact Bo z f h1 hk
 have q:=h.cls.mod u (fun c=>by
  rcases c with e | e
  .exact h.eo h.head e
  .obtain ⟨cc,f⟩:=jb _ e
   exact h.eo f rfl)
 have r:=A7 h.nodes u (l h.nodes (by decide) (by decide))
 have g:∀ j,j∈T.js->Bb w' j.1 j.2:=fun j d=>u.ar (h.box j d) (fun c=>by
  rcases c with e | e
  .exact h.j5 d h.head (by decide) e
  .obtain ⟨cc,f⟩:=jb _ e
   exact h.j5 d f (by decide) rfl)
 have s:∀ j,j∈T.js->Bv w' j.2:=fun j d=>A7 (h.ok j d).parts u (l (h.ok j d).parts (by decide) (by decide))
 have dz:∀ k c,w'.heap[k]?=some (.cells c 3 (0,0))->¬ ({ T with jv:=jv,js:=T.js++[(b,x)] }:Tv).aw k:=fun k c f e=>by
  rcases e with e | e | e | e | ⟨j,d,e⟩
  .rw [e] at f;rw [show w'.heap[T.tb]?=_ from hd] at f;injection f with f;injection f with _ f;exact absurd f (by decide)
  .obtain ⟨es,cl,al⟩:=q.ar;rw [e] at f;rw [show w'.heap[T.mb]?=_ from al] at f;injection f with f;cases f
  .exact Bo r f (by decide) e
  .exact Bo z f (by decide) e
  .rcases Dh.1 d with d | d
   .rcases e with e | e
    .have:=g j d;rw [Bb,e,f] at this;injection this with this;injection this with _ this;exact absurd this (by decide)
    .exact Bo (s j d) f (by decide) e
   .have d:=Jq.1 d;subst d;rcases e with e | e
    .have:=p;rw [Bb,show b=k from e,f] at this;injection this with this;injection this with _ this;exact absurd this (by decide)
    .rw [show x.pb=none from t] at e;cases e
 refine ⟨⟨hd,q,r,?_,A7 h.ax u (l h.ax (by decide) (by decide)),?_,?_,?_,?_,h.dh.mod y aw,h.same⟩,aw⟩
 .show w'.ownsRow 0 _ 1 jv (T.js++[(b,x)]).length ((T.js++[(b,x)]).map _);rw [Cn,C9];exact z
 .intro j d;rcases Dh.1 d with d | d
  .exact g j d
  .have d:=Jq.1 d;subst d;exact p
 .intro j d;rcases Dh.1 d with d | d
  .exact (h.ok j d).mod y (fun k hk c=>by
    rcases aw k c with c | c
    .exact c
    .omega) (s j d)
  .have d:=Jq.1 d;subst d;refine ⟨⟨an,fun _ k o e hS=>?_⟩,am,?_,?_,?_,hu,hp⟩
   .obtain ⟨c,f⟩:=ac k o e;exact dz k c f hS
   .show D7 w' _ x.go x.gn x.pl.ak;rw [m.1,m.2.1,m.2.2.2];exact Aeo _ _
   .show x.gn<=x.gc;rw [m.2.1];exact Aq _
   .show Bv w' x;unfold Bv;rw [i.1,i.2.1,i.2.2.1,i.2.2.2];exact Lv _ _ _ _
 .show ((T.js++[(b,x)]).map Prod.fst).Nodup;rw [C9];refine Rd.2 ⟨h.one,by simp,fun a ha c f e=>?_⟩;simp at f;obtain ⟨j,d,rfl⟩:=Ba.1 ha;have:=Ab (h.box j d);rw [e,f] at this;omega
 .show (T.js++[(b,x)]).Pairwise _;refine S8.2 ⟨h.two,by simp,fun a _ c f k _ e=>?_⟩;have f:=Jq.1 f;subst f;rw [show x.pb=none from t] at e;cases e
structure D1 (w:WD) (T:Tv) (jv:VL) (js:List (Nat×aj)) (wr:WD):Prop where
 at_:An wr { T with jv:=jv,js:=js }
 aw:∀ b,({ T with jv:=jv,js:=js }:Tv).aw b->T.aw b\/w.heap.size<=b
 mod:Mod T.aw w wr
variable {jv jv':VL} {js:List (Nat×aj)}
def D1.refl (h:An w T):D1 w T T.jv T.js w:=⟨h,fun _ c=>.inl c,Mod.refl _ _⟩
def D1.low (h:D1 w T jv js wr) (a:BW wr.heap.size wr w'):D1 w T jv js w':=⟨h.at_.low a,h.aw,h.mod.low a⟩
def D1.mz (h:D1 w T jv js wr) (a:Mod ({ T with jv:=jv,js:=js }:Tv).aw wr w'):Mod T.aw w w':=h.mod.then a fun k b c=>by
 rcases h.aw k c with c | c
 .exact c
 .omega
def D1.add (h:D1 w T jv js wr) {b:Nat} {x:aj} (n:Mod (fun k=>k=T.tb\/jv.ownBlock=some k) wr w')
  (r:w'.heap[T.tb]?=some (.cells #[.int .i64 T.ah,.int .i64 T.tick,.map (some T.mb),T.nv,jv',.pointer (some ⟨T.fb,0,none⟩),T.cv] 115 (0,0)))
  (t:w'.ownsRow 0 125 1 jv' (js.length+1) ((js.map fun j=>.pointer (some ⟨j.1,0,none⟩))++[.pointer (some ⟨b,0,none⟩)]))
  (g:∀ k,jv'.ownBlock=some k->jv.ownBlock=some k\/wr.heap.size<=k)
  (q:wr.heap.size<=b) (a:Bb w' b x) (i:x.po=none/\x.pn=0/\x.pc=0/\x.pl.parts=[]) (f:x.go=none/\x.gn=0/\x.gc=0/\x.pl.ak=[])
  (m:Ar w' x.so x.sn x.pl.sp.after) (d:∀ k o,x.so=some ⟨k,o,none⟩->∃ c,w'.heap[k]?=some (.cells c 3 (0,0))) (l:x.sn<=x.sc) (u:x.pl.sp.user.size<=maxLen) (s:x.pl.sp.part.size<=maxLen) :
  D1 w T jv' (js++[(b,x)]) w':=by
 obtain ⟨h1,p⟩:=An.tj (T:={ T with jv:=jv,js:=js }) h.at_ n r t g q a i f m d l u s;refine ⟨h1,fun k c=>?_,h.mz (n.mono fun k _ e=>e.imp id fun e=>.inr (.inr (.inl e)))⟩;rcases p k c with c | c
 .exact h.aw k c
 .exact .inr (A5 h.mod.size c)
def D1.then {a:List (Nat×aj)} (h:D1 w T jv js wr) (d:Bq wr { T with jv:=jv,js:=js } a w'):D1 w T jv a w':=
 ⟨d.at_,fun b c=>by
  rcases d.aw b c with c | c
  .exact h.aw b c
  .exact .inr (A5 h.mod.size c),h.mz d.mod⟩
def D1.iy (h:D1 w T jv js wr) (a:If w T.js js):Ed w T { T with jv:=jv,js:=js } wr:=⟨h.at_,rfl,rfl,rfl,rfl,rfl,h.aw,h.mod,a⟩
def D1.set (h:D1 w T jv js wr) {i:Nat} {x j:Nat×aj} (n:js[i]?=some x) (o:j.1=x.1) (p:Mod (F4 x) wr w') (a:Bb w' j.1 j.2) (s:Bv w' j.2) (f:∀ b,j.2.pb=some b->x.2.pb=some b\/wr.heap.size<=b)
  (q:D7 w' (({ T with jv:=jv,js:=js }:Tv).bu i j).aw j.2.so j.2.sn j.2.pl.sp.after) (g:j.2.sn<=j.2.sc) (r:D7 w' (({ T with jv:=jv,js:=js }:Tv).bu i j).aw j.2.go j.2.gn j.2.pl.ak) (l:j.2.gn<=j.2.gc)
  (t:j.2.pl.sp.user.size<=maxLen) (m:j.2.pl.sp.part.size<=maxLen):D1 w T jv (js.set i j) w':=by
 have d:∀ k,F4 x k->({ T with jv:=jv,js:=js }:Tv).aw k:=fun k c=>.inr (.inr (.inr (.inr ⟨x,Ai n,c.imp (fun e=>e.symm) id⟩)));refine ⟨An.bu (T:={ T with jv:=jv,js:=js }) h.at_ n o p a s f q g r l t m,fun k c=>?_,h.mz (p.mono fun k _ c=>d k c)⟩;rcases Ry (T:={ T with jv:=jv,js:=js }) n o c with c | c
 .exact h.aw k c
 .rcases f k c with c | c
  .exact h.aw k (d k (.inr c))
  .exact .inr (A5 h.mod.size c)
def Avt (l:List (dn×List Int)) (p:dn×List Int):∀ js:List Jb,El (l++[p]) js=Iu p.1 p.2 (El l js) p.1.array.toNat:=by
 induction l with
 | nil=>intro js;rfl
 | cons q l ih=>intro js;exact ih _
def Xy (s:dn) (a:List Int) (js:List Jb):∀ n,(Iu s a js n).length=js.length+n
 | 0=>rfl
 | n+1=>by
  show (Iu s a js n++[_]).length=_;rw [Cn,Xy s a js n];rfl
def Avu {l:List Int} {x:Int} (h:x∈Lib.compact l):x∈l:=by
 unfold Lib.compact Lib.compactUpTo at h;obtain ⟨k,a,rfl⟩:=Ba.1 h;have a:=Vm.1 (O0.1 a).1;rw [getElem!_pos _ _ (by simpa using a)];simp
def Avv {l:List Int} {x:Int} (h:x∈J5 l):x∈l:=by
 unfold J5 at h;exact S9.1 h
def Ep (l:List Int):Int:=l.foldl (·+·) 0
def Xz (l:List Int) (a:Int):l.foldl (·+·) a=a+l.foldl (·+·) 0:=by
 induction l generalizing a with
 | nil=>simp
 | cons x l ih=>
  simp only [Rh];rw [ih,ih (0+x)];omega
def Abv (b:Int) (a:List Int) (h1:∀ n,n∈a->1<=n):∀ k:Nat,k<=a.length->Dw b a k=b+Ep (a.take k)
 | 0,_=>by simp [Dw,Ep]
 | k+1,hk=>by
  have d:=Abv b a h1 k (by omega);show Dw b a k+(a[k]?).getD 0=_;have c:a[k]?=some a[k]:=A4 _;rw [I7 c,d,c];unfold Ep;rw [Kw];simp;omega
def Ut (d:List Int) (h1:∀ n,n∈d->1<=n) (k:Nat):Ep (d.take k)<=Ep d/\0<=Ep (d.take k):=by
 have e:∀ l:List Int,(∀ n,n∈l->1<=n)->0<=Ep l:=fun l=>by
  induction l with
  | nil=>intro _;simp [Ep]
  | cons x l ih=>
   intro h;have h1:=ih fun n f=>h n (Ce _ f);have g:=h x Dl;unfold Ep at h1 ⊢;rw [Rh,Xz];omega
 have a:=e (d.take k) fun n f=>h1 n (Yv f);have b:=e (d.drop k) fun n f=>h1 n (List.mem_of_mem_drop f)
 have c:Ep d=Ep (d.take k)+Ep (d.drop k):=by
  conv=>lhs;rw [<- Or k d]
  unfold Ep;rw [Kw,Xz]
 omega
def Avw {b:Int} {a:List Int} {r:List Int×List Int} {n:Int} (g:F5 b a.length n=false) (d:∀ n,n∈a->1<=n) (h1:1<=b) (h:∀ x,x∈r.2->1<=x/\x<b+Ep a) :
  ∀ x,x∈(Mp b a r n).2->1<=x/\x<b+Ep a:=by
 intro x c;have f:=(Ut a d a.length).2;rw [Oy] at f;unfold F5 at g;simp at g;unfold Mp at c;split at c
 .rcases Dh.1 c with c | c
  .exact h x c
  .have c:=Jq.1 c;omega
 .rcases Dh.1 c with c | c
  .exact h x c
  .unfold Jj at c;obtain ⟨j,e,rfl⟩:=Ba.1 c;have e:=Vm.1 e;obtain ⟨k,l⟩:∃ k:Nat,k=(-1-n).toNat:=⟨_,rfl⟩;rw [<- l] at e ⊢;have m:k<a.length:=(by omega);have i:a[k]?=some a[k]:=A4 _;rw [i] at e;have o:=Abv b a d k (by omega);have p:=Abv b a d (k+1) (by omega);have q:Dw b a (k+1)=Dw b a k+a[k]:=(by show Dw b a k+(a[k]?).getD 0=_;rw [i];rfl);have s:=Ut a d k;have t:=Ut a d (k+1);simp at e;omega
def Aiz {b:Int} {a l:List Int} (e:l.any (F5 b a.length)=false) (c:∀ n,n∈a->1<=n) (h1:1<=b):∀ j,j<=l.length->∀ x,x∈(Cy b a l j).2->1<=x/\x<b+Ep a
 | 0,_=>fun x d=>by simp [Cy] at d
 | j+1,hj=>by
  have d:l[j]?=some l[j]:=A4 _;have f:F5 b a.length l[j]=false:=by have:=List.any_eq_false.1 e l[j] (Lw _);simpa using this
  show ∀ x,x∈(Mp b a (Cy b a l j) ((l[j]?).getD 0)).2->_;rw [d];exact Avw f c h1 (Aiz e c h1 j (by omega))
def Abw {f:Int} {d:List Int} {after:List (List Int)} (h:(Ga f d after).2=0) :
  (Ga f d after).1.length=after.length/\1<=f/\after.length<=8/\(∀ n,n∈d->1<=n/\n<=20)/\∀ l,l∈(Ga f d after).1->(∀ x,x∈l->1<=x/\x<f+Ep d)/\∃ g,g∈after/\l.length<=20*g.length:=by
 have h0:=h;unfold Ga at h ⊢;split
 .rename_i c;rw [Ad c] at h;cases h
 rename_i o;rw [Ac o] at h;split
 .rename_i c;rw [Ad c] at h;cases h
 rename_i k;rw [Ac k] at h;split
 .rename_i c;rw [Ad c] at h;cases h
 rename_i m;rw [Ac m] at h;split
 .rename_i c;rw [Ad c] at h;cases h
 have i:∀ n,n∈d->1<=n/\n<=20:=fun n j=>by
  by_cases e:(decide (n<1) || decide (20<n))=true
  .exact absurd (Kz.2 ⟨n,j,e⟩) k
  .simp at e;omega
 refine ⟨by simp,by omega,by omega,i,fun l q=>?_⟩;obtain ⟨g,h0,rfl⟩:=Ba.1 q;have p:g.any (F5 f d.length)=false:=by rw [Ij];intro e;exact m (Kz.2 ⟨g,h0,e⟩)
 refine ⟨fun x r=>Aiz p (fun n j=>(i n j).1) (by omega) _ Ln x (Avv (Avu r)),g,h0,?_⟩;have a:=Lib.compact_length_le (J5 (Cy f d g g.length).2);rw [Xu] at a;have b:=(Xw f d g (fun n j=>(i n j).2) g.length).2;unfold J6;omega
end
section
open Go.RowKit Go.Maps Go.Lib
structure Uu (vs:List au) (s:dn) (g:List Int):Prop where
 ur:∀ x,x∈g->x∈Dc vs s.part
 az:g.Pairwise (·<·)
 len:(g.length:Int)=s.nodes
structure Fm (vs:List au) (n k:Nat) (j:Jb):Prop where
 id:j.id=(k:Int)+1
 gg:Dr { j.sp with after:=[] } vs=0
 one:j.sp.array=1
 jz:∀ x,x∈j.sp.after->1<=x/\x<=(n:Int)
 sh:j.sp.after.length<=160
 iu:Fk j.lf j.sp.ae
 low:-1<=j.start
 ux:j.start<0->j.ak=[]
 ak:0<=j.start->Uu vs j.sp j.ak/\Ke j<=1099511627776
 live:di j.lf.st=true↔j.parts≠[]
 run:di j.lf.st=true->0<=j.start
 wt:j.lf.st=2->j.start<0
 ends:5<=j.lf.st->j.lf.st<=7->0<=j.start
 pg:j.parts≠[]->j.parts.map Prod.fst=j.ak
 tf:∀ p,p∈j.parts->0<=p.2/\p.2<=3
structure Ig (vs:List au) (n k:Nat) (j:Jb):Prop extends Fm vs n k j where
 xg:j.parts≠[]->j.open_=true
def Gb (vs:List au) (js:List Jb):Prop:=∀ k j,js[k]?=some j->Fm vs js.length k j
def Dd (vs:List au) (js:List Jb):Prop:=∀ k j,js[k]?=some j->Ig vs js.length k j
variable {vs:List au} {n k:Nat} {j:Jb} {js:List Jb}
def Dd.b (h:Dd vs js):Gb vs js:=fun k j a=>(h k j a).toFm
def Gb.jz (h:Gb vs js):D8 js:=fun j b d a=>by
 obtain ⟨k,c⟩:=Dg b;exact (h k j c).jz d a
def Fm.more (h:Fm vs n k j) {m:Nat} (b:n<=m):Fm vs m k j:=⟨h.id,h.gg,h.one,fun x a=>by have:=h.jz x a;omega,h.sh,h.iu,h.low,h.ux,h.ak,h.live,h.run,h.wt,h.ends,h.pg,h.tf⟩
def Fm.idle (h:Fm vs n k j) (a:di j.lf.st=false):j.parts=[]:=by
 by_cases e:j.parts=[]
 .exact e
 .rw [h.live.2 e] at a;cases a
def Uv (h:Fm vs n k j) {l:Lf} (f:Fk l j.sp.ae) (g:l.st=1\/l.st=2\/l.st=8) (e:List (Int×Int)) (d:e=[]):Ig vs n k ⟨j.id,j.sp,l,-1,[],e⟩:=by
 subst d;refine ⟨⟨h.id,h.gg,h.one,h.jz,h.sh,f,by simp,fun _=>rfl,fun c=>absurd c (by simp),?_,fun c=>?_,fun _=>by simp,fun a b=>?_,fun c=>absurd rfl c,fun p d=>by simp at d⟩,fun c=>absurd rfl c⟩
 .show di l.st=true↔([]:List (Int×Int))≠[];rw [Mc];simp;omega
 .have:=Mc.1 c;simp only at this;omega
 .simp only at a b;omega
def Avx {s:Int} (h:Ig vs n k j) (h0:(A2 j.lf s).2=0) (m:s=6\/s=1\/s=2):Ig vs n k (J0 s j):=by
 obtain ⟨f,l⟩:=Au8 h.iu h0 m;unfold J0;rcases l with ⟨h1,d⟩ | ⟨h1,d,g,i⟩
 .have e:di (j.move s).lf.st=true:=by show di (A2 j.lf s).1.st=true;rw [d];rfl
  rw [Ad e]
  exact ⟨⟨h.id,h.gg,h.one,h.jz,h.sh,f,h.low,h.ux,h.ak,⟨fun _=>h.live.1 h1,fun _=>e⟩,fun _=>h.run h1,fun c=>by
   have c:(A2 j.lf s).1.st=2:=c
   omega,fun a b=>by
   have a:5<=(A2 j.lf s).1.st:=a
   omega,h.pg,h.tf⟩,h.xg⟩
 .rw [Ac (by show ¬ di (A2 j.lf s).1.st=true;rw [g];simp)];exact Uv h.toFm f i j.parts (h.idle h1)
def Dd.mod (h:Dd vs js) {i:Nat} {f:Jb->Jb} (b:∀ j,js[i]?=some j->Ig vs js.length i (f j)):Dd vs (js.modify i f):=fun k j a=>by
 rw [Jp];rw [Ev] at a
 cases hk:js[k]? with
 | none=>
  rw [hk] at a;have a:(none:Option Jb)=some j:=a;cases a
 | some y=>
  rw [hk] at a;have a:some (if i=k then f y else y)=some j:=a;split at a
  .rename_i e;subst e;injection a with a;rw [<- a];simpa using b y hk
  .injection a with a;subst a;exact h k y hk
def Gb.mod (h:Gb vs js) {i:Nat} {f:Jb->Jb} (b:∀ j,js[i]?=some j->Fm vs js.length i (f j)):Gb vs (js.modify i f):=fun k j a=>by
 rw [Jp];rw [Ev] at a
 cases hk:js[k]? with
 | none=>
  rw [hk] at a;have a:(none:Option Jb)=some j:=a;cases a
 | some y=>
  rw [hk] at a;have a:some (if i=k then f y else y)=some j:=a;split at a
  .rename_i e;subst e;injection a with a;rw [<- a];simpa using b y hk
  .injection a with a;subst a;exact h k y hk
def Abx (h:Dd vs js):Dd vs (Dj js):=by
 refine Aff (P:=Dd vs) (fun js k h f=>?_) h;have c:=f;unfold Fr;rw [Ad f];refine h.mod fun j g=>?_;unfold Gj at c;rw [g] at c;have i:ed j.lf.st=true:=(E7 _ _▸c).1;have d:=(h k j g).toFm;obtain ⟨a,b⟩:=Aio d.iu i (.inr rfl);exact Uv d a (.inr (.inr b)) j.parts (d.idle (by rcases M7.1 i with e | e<;>rw [e]<;>rfl))
def Avy (h:Fm vs n k j):Ig vs n k (Dq j):=by
 unfold Dq;split
 .rename_i c;refine ⟨h,fun e=>?_⟩;rcases c with c | c
  .exact absurd c e
  .exact c
 .rename_i c;have d:j.parts≠[]:=fun e=>c (.inl e);have f:=h.live.2 d;obtain ⟨a,b⟩:=Au7 h.iu f;split
  .rename_i e;exact Uv h a (.inl e) [] rfl
  .rename_i e;rcases b with b | ⟨i,l⟩
   .exact absurd b e
   .have g:di (A2 j.lf 8).1.st=false:=(by rw [Ij];intro c;rw [Mc] at c;omega);refine ⟨⟨h.id,h.gg,h.one,h.jz,h.sh,a,h.low,h.ux,h.ak,⟨fun c=>?_,fun c=>absurd rfl c⟩,fun c=>?_,fun c=>?_,fun _ _=>h.run f,fun c=>absurd rfl c,fun p d=>by simp at d⟩,fun c=>absurd rfl c⟩
    .have c:di (A2 j.lf 8).1.st=true:=c;rw [g] at c;cases c
    .have c:di (A2 j.lf 8).1.st=true:=c;rw [g] at c;cases c
    .have c:(A2 j.lf 8).1.st=2:=c;omega
def Aby (h:Gb vs js):Dd vs (Gk js):=by
 unfold Gk;refine Abx fun k j a=>?_;rw [At];rw [Bh] at a;obtain ⟨y,b,rfl⟩:=Nq.1 a;exact Avy (h k y b)
def Ai0 (h:Fm vs n k j) {i:Nat} {p:Int×Int} (v:j.parts[i]?=some p) {g:Int} (h1:0<=g) (x:g<=3):Fm vs n k (Fb j i g):=by
 have m:j.parts≠[]:=fun e=>by rw [e] at v;simp at v
 have t:=h.live.2 m
 have y:(j.parts.modify i fun p=>(p.1,g)).map Prod.fst=j.parts.map Prod.fst:=by
  apply Ea;intro q;simp only [Bh,Ev]
  cases j.parts[q]? with
  | none=>rfl
  | some u=>
   simp only [J9]
   split<;>rfl
 have s:(j.parts.modify i fun p=>(p.1,g))≠[]:=fun e=>m (by
  have:=Ca List.length e;rw [Jp] at this
  exact Gd.1 this)
 have o:∀ l:Lf,Fk l j.sp.ae->di l.st=true->Fm vs n k ⟨j.id,j.sp,l,j.start,j.ak,j.parts.modify i fun p=>(p.1,g)⟩:=fun l a b=>by
  refine ⟨h.id,h.gg,h.one,h.jz,h.sh,a,h.low,h.ux,h.ak,⟨fun _=>s,fun _=>b⟩,fun _=>h.run t,fun c=>?_,fun c d=>?_,fun _=>y.trans (h.pg m),fun q z=>?_⟩
  .have c:l.st=2:=c;have:=Mc.1 b;omega
  .have c:5<=l.st:=c;have:=Mc.1 b;omega
  .obtain ⟨r,f⟩:=Dg z;rw [Ev] at f
   cases hu:j.parts[r]? with
   | none=>
    rw [hu] at f;have f:(none:Option (Int×Int))=some q:=f;cases f
   | some u=>
    rw [hu] at f;have f:some (if i=r then (u.1,g) else u)=some q:=f;split at f
    .injection f with f;subst f;exact ⟨h1,x⟩
    .injection f with f;subst f;exact h.tf u (Ai hu)
 unfold Fb Qb;split
 .obtain ⟨a,b,_⟩:=Abs h.iu t (.inl rfl);exact o _ a (by rw [b];rfl)
 split
 .obtain ⟨a,b,_⟩:=Abs h.iu t (.inr (.inl rfl));exact o _ a (by rw [b];rfl)
 .exact o _ h.iu t
def Avz {j:Jb} {a m:Int} {i:Nat} (h:Gl j a m=some i):∃ p,j.parts[i]?=some p/\p.1=m/\p.2=0:=by
 unfold Gl at h;split at h
 .obtain ⟨c,b,_⟩:=Yk.1 h;simp at b;exact ⟨_,A4 c,b.1,b.2⟩
 .cases h
def Av0 {e:cu} (h:Fm vs n k j) (h1:0<=e.bm) (a:e.bm<=3):Fm vs n k (J1 e j):=by
 unfold J1;split
 .exact h
 .rename_i i b;obtain ⟨p,c,_⟩:=Avz b;exact Ai0 h c h1 a
def Ai1 (a:Int) (m:Nat) (h:Fm vs n k j):Fm vs n k (G5 j a m):=by
 induction m with
 | zero=>exact h
 | succ m ih=>
  show Fm vs n k (M3 (G5 j a m) m a);unfold M3;split
  .exact ih
  .rename_i p b;split
   .exact Ai0 ih b (by decide) (by decide)
   .exact ih
def Gb.map (_h:Gb vs js) {f:Jb->Jb} (b:∀ k j,js[k]?=some j->Fm vs js.length k (f j)):Gb vs (js.map f):=fun k j a=>by
 rw [At];rw [Bh] at a;obtain ⟨y,c,rfl⟩:=Nq.1 a;exact b k y c
def Abz (h:Dd vs js) (tick:Int):Dd vs (Cs tick js):=by
 unfold Cs;refine Aby (h.b.map fun k j a=>?_);unfold G9;split
 .exact Ai1 _ _ (h k j a).toFm
 .exact (h k j a).toFm
def Av1 (h:Dd vs js) (m:Int):Dd vs (Gk (js.map fun j=>Fc j m)):=Aby (h.b.map fun k j a=>Ai1 _ _ (h k j a).toFm)
def Av2 {s:dn} (h:Dr s vs=0):Dr { s with array:=1,after:=[] } vs=0:=by
 have b:=Jl h;have a:D6 { s with array:=1,after:=[] }=true:=by obtain ⟨a1,a2,a3,g,c,d,e,i,f⟩:=G6 b;unfold D6;simp only [a1,a2,a3,c,d,e,f,Bool.true_and,Bool.and_true];decide
 unfold Dr at h ⊢;rw [Ac (by rw [b];simp)] at h;rw [Ac (by rw [a];simp)];exact h
def Av3 {s:dn} (h:Dr s vs=0) (l:List Int) (f:∀ x,x∈l->1<=x/\x<=(n:Int)) (g:l.length<=160):Ig vs n k (N8 s l ((k:Int)+1)):=by
 obtain ⟨_,_,_,_,_,_,_,_,e⟩:=G6 (Jl h);obtain ⟨j,m⟩:=I9.1 e;obtain ⟨a,b⟩:=Au3 (h:=s.held) j m;have o:=M7.1 b;refine ⟨⟨rfl,Av2 (s:=s) h,rfl,f,g,a,by simp [N8],fun _=>rfl,fun c=>absurd c (by simp [N8]),⟨fun c=>?_,fun c=>absurd rfl c⟩,fun c=>?_,fun _=>by simp [N8],fun c d=>?_,fun c=>absurd rfl c,fun p i=>by simp [N8] at i⟩,fun c=>absurd rfl c⟩
 .have c:di (Kc s.ae s.held).1.st=true:=c;rw [Mc] at c;omega
 .have c:di (Kc s.ae s.held).1.st=true:=c;rw [Mc] at c;omega
 .have c:5<=(Kc s.ae s.held).1.st:=c;omega
def Uw (vs:List au) (n:Nat) (js:List Jb):Prop:=∀ k j,js[k]?=some j->Ig vs n k j
def Ig.more (h:Ig vs n k j) {m:Nat} (a:n<=m):Ig vs m k j:=⟨h.toFm.more a,h.xg⟩
def Ai2 {s:dn} (h:Dr s vs=0) (l:List Int) (f:∀ x,x∈l->1<=x/\x<=(n:Int)) (g:l.length<=160) (d:Uw vs n js):∀ q,Uw vs n (Iu s l js q)
 | 0=>d
 | q+1=>fun k j a=>by
  have o:=Ai2 h l f g d q;replace a:(Iu s l js q++[N8 s l ((js.length+q+1:Nat):Int)])[k]?=some j:=a;rw [List.getElem?_append] at a;split at a
  .exact o k j a
  .rename_i c;rw [Xy] at c a
   cases e:k-(js.length+q) with
   | zero=>
    rw [e] at a;have b:N8 s l ((js.length+q+1:Nat):Int)=j:=by simpa using a
    have:k=js.length+q:=by omega
    clear a;subst this;subst b;have:=Av3 (n:=n) (k:=js.length+q) h l f g;have i:((js.length+q+1:Nat):Int)=((js.length+q:Nat):Int)+1:=(by push_cast;rfl);rw [i];exact this
   | succ m=>
    rw [e] at a;simp at a
def Ai3:∀ (l:List (dn×List Int)),(∀ p,p∈l->Dr p.1 vs=0/\(∀ x,x∈p.2->1<=x/\x<=(n:Int))/\p.2.length<=160)->∀ js,Uw vs n js->Uw vs n (El l js)
 | [],_,_,h=>h
 | p :: l,hp,js,h=>by
  obtain ⟨a,b,c⟩:=hp p Dl;exact Ai3 l (fun q d=>hp q (Ce _ d)) _ (Ai2 a p.2 b c h _)
def Ab0:∀ (l:List (dn×List Int)),(∀ p,p∈l->1<=p.1.array)->∀ js:List Jb,((El l js).length:Int)=(js.length:Int)+Ep (l.map fun p=>p.1.array)
 | [],_,js=>by simp [El,Ep]
 | p :: l,hp,js=>by
  have h1:=Ab0 l (fun q a=>hp q (Ce _ a)) (Iu p.1 p.2 js p.1.array.toNat);have b:=hp p Dl;show ((El l (Iu p.1 p.2 js p.1.array.toNat)).length:Int)=_;rw [h1,Xy];have e:Ep ((p :: l).map fun p=>p.1.array)=p.1.array+Ep (l.map fun p=>p.1.array):=by unfold Ep;rw [Ka,Rh,Xz];omega
  rw [e];omega
def Ab1 {n:Nat} {l:List dn} (h:(B7 vs n l).2=0):(∀ s,s∈l->Dr s vs=0)/\(n:Int)+G8 l<=100/\B7 vs n l=Ga ((n:Int)+1) (l.map fun s=>s.array) (l.map fun s=>s.after):=by
 unfold B7 at h ⊢
 cases hf:l.find? fun s=>decide (Dr s vs≠0) with
 | some s=>
  rw [hf] at h;have:=Tb hf;simp at this;exact absurd h this
 | none=>
  rw [hf] at h;simp only at h ⊢;refine ⟨fun s a=>?_,?_⟩
  .have:=Rb.1 hf s a;simpa using this
  .split
   .rename_i c;rw [Ad c] at h;cases h
   .exact ⟨by omega,rfl⟩
def Ux (l:List dn):G8 l=Ep (l.map fun s=>s.array):=rfl
def Ab2 {α β:Type}:∀ {l:List α} {m:List β},l.length=m.length->(l.zip m).map Prod.fst=l
 | [],[],_=>rfl
 | [],_ :: _,h=>by simp at h
 | _ :: _,[],h=>by simp at h
 | a :: l,b :: m,h=>by
  simp only [List.zip_cons_cons,Ka];rw [Ab2 (by simpa using h)]
def Ai4 {t:du} {l:List dn} (h:Dd vs t.ab) (h0:(B7 vs t.ab.length l).2=0):Dd vs (Mq vs t l).1.ab/\(Mq vs t l).1.ab.length<=100:=by
 obtain ⟨h1,h2,o⟩:=Ab1 h0;rw [o] at h0;obtain ⟨r1,r2,r3,u,r5⟩:=Abw h0;rw [At] at r1 r3;have f:=Ab0 (l.zip (B7 vs t.ab.length l).1) (fun p q=>(u p.1.array (Ba.2 ⟨p.1,(Vj q).1,rfl⟩)).1) t.ab
 have r:(l.zip (B7 vs t.ab.length l).1).map (fun p=>p.1.array)=l.map fun s=>s.array:=by
  rw [o];have:=Ab2 (l:=l) (m:=(Ga ((t.ab.length:Int)+1) (l.map fun s=>s.array) (l.map fun s=>s.after)).1) (by omega)
  conv=>rhs;rw [<- this]
  rw [Dn];rfl
 rw [r,<- Ux] at f;obtain ⟨X,g⟩:=Ex (El (l.zip (B7 vs t.ab.length l).1) t.ab);rw [<- g] at f
 have i:Uw vs X.length X:=by
  rw [g];refine Ai3 _ (fun p q=>?_) _ (fun k j v=>?_)
  .obtain ⟨a,b⟩:=Vj q;rw [o] at b;obtain ⟨c,l0,d,e⟩:=r5 p.2 b;refine ⟨h1 p.1 a,fun x hx=>?_,?_⟩
   .have:=c x hx;rw [<- Ux] at this;rw [<- g];omega
   .obtain ⟨s,z,rfl⟩:=Ba.1 d;obtain ⟨_,_,_,q4,_⟩:=G6 (Jl (h1 s z));have:=Wj q4;omega
  .refine (h k j v).more ?_;rw [<- g]
   have:0<=G8 l:=by
    rw [Ux];have:=(Ut (l.map fun s=>s.array) (fun n y=>(u n y).1) (l.map fun s=>s.array).length).2
    rwa [Oy] at this
   omega
 refine ⟨?_,?_⟩
 .show Dd vs (Dj (El (l.zip (B7 vs t.ab.length l).1) t.ab));rw [<- g];exact Abx i
 .show (Dj (El (l.zip (B7 vs t.ab.length l).1) t.ab)).length<=100;rw [<- g,Tx];omega
end
section
open Go.RowKit Go.Maps Go.Lib
variable{B:Nat}{T:Tv}{w:WD}
def An.xa   (h:An w T):∃ b cap,w.cell? ⟨T.tb,4,none⟩=some (.slice b T.js.length cap):=by
 have a:=Bk h.head 4 T.jv rfl;rcases h.ab.2 with ⟨e,h0⟩ | ⟨g,cap,c,e,_⟩
 .exact ⟨none,0,by rw [a,e,h0]⟩
 .exact ⟨_,_,by rw [a,e]⟩
def Axz (l:List dn) (s:dn):G8 (l++[s])=G8 l+s.array:=by
 simp [G8,C9,Kw]
structure yh (w:WD) (r:Int) (v:VL) (wx:WD):Prop where
 v:v=.int .i64 r
 low:BW w.heap.size w wx
def Cw.le  {B B' g cap:Nat} {c:List VL} {e:List (List Int)} (h:Cw w B g cap c e) (d:B'<=B):Cw w B' g cap c e:=
 ⟨Joins.ownsRow_le h.row d,fun i f l a b=>(h.each i f l a b).le d,h.two,h.qz⟩
def Jk.len   {v:VL} {l:List VL} (h:Jk w B v l):∃ so n c,v=.slice so n c/\n=l.length:=by
 rcases h.row.2 with ⟨rfl,h0⟩ | ⟨g,cap,a,rfl,_⟩
 .exact ⟨none,0,0,rfl,h0.symm⟩
 .exact ⟨_,_,_,rfl,rfl⟩
def Acd   (h:An w T) (a8:Iq T.vs) (hj:T.js.length<=1000000) (so:Option Addr) (n sc:Nat) (xs:List ay) (hs:Jw w so n xs) (hn:n<=1000) :
  Calls prog 58 #[.pointer (some ⟨T.tb,0,none⟩),.slice so n sc] w (Gx (B7 T.vs T.js.length (xs.map ay.pl)) w):=by
 obtain ⟨jo,jc,c4⟩:=h.xa;have c5:=Bk h.head 5 (.pointer (some ⟨T.fb,0,none⟩)) rfl;have aF:=hs.len;have hf:=h.dh.wh;have a3:=Ab h.head;obtain ⟨m,hm⟩:=Ex (T.js.length);obtain ⟨tb,ht⟩:=Ex (T.tb);obtain ⟨vs,bH⟩:=Ex (T.vs);rw [<- ht] at c4 c5 a3;rw [<- hm] at c4 hj;rw [<- bH] at hf a8;rw [<- hm,<- ht,<- bH];clear hm ht bH h;have bx:BW w.heap.size w w:=Below.refl _ _;have bk:=Al.nil w w.heap.size;have bi:=Jk.nil w w.heap.size;have bI:IntKind.i64.wrap ((m:Int)+1)=(m:Int)+1:=Id (by omega) (by omega);replace ⟨a8,hs,aF,hf,bx,bk,bi,a3⟩:=H8 a8 hs aF hf bx bk bi a3;replace bI:=Hh bI;go_enter func58,ntmps58;go_wp2_with fail;go_loopw [6,7,8,10,11,20] (fun v6 v7 v8 _ _ iv wr=>∃ (i:Nat) (ei:Int),iv=.int .i64 i/\i<=n/\v6=.int .i64 ei/\Hid (ei=(m:Int)+G8 ((xs.map ay.pl).take i))/\Hid ((m:Int)<=ei/\ei<=m+20*(i:Int))/\Hid (BW w.heap.size w wr)/\Hid (Al wr w.heap.size v7 ((xs.take i).map fun x=>x.pl.array))/\Hid (Jk wr w.heap.size v8 (Mr (xs.take i)))/\Hid (∀ (k:Nat) (x:ay),k<i->xs[k]?=some x->Dr x.pl vs=0)) (fun _ _ _ _ _ iv _=>n-(intOf iv).toNat)
 case atStart=>exact ⟨0,m,rfl,Aq _,rfl,Hh (by simp [G8]),Hh ⟨by omega,by omega⟩,bx,bk,bi,Hh (fun k x hk=>by omega)⟩
 case round=>
  obtain ⟨i,ei,rfl,b7,rfl,bb,bV,hb,hS,hR,hK⟩:=hrel;obtain ⟨bS,n7,c7,rfl,aB⟩:=hS.len;obtain ⟨bT,n8,c8,rfl,aC⟩:=hR.len;by_cases hc:i<n
  .have bU:(i:Int)<n:=(by omega);have b6:(0:Int)<=(i:Int):=(by omega);obtain ⟨x,hx⟩:=Ge xs i (by have:=aF.out;omega);obtain ⟨b,t,rfl,bw,aY,a0⟩:=hs.cell i x hx;have bD:=a0.low hb.out;have aP:=I7 hx;obtain ⟨r,hr⟩:=Ex (Dr x.pl vs);have f:=fun j hj=>(Ag hb.out bw).trans (aY j hj)
   have aW:r≠0->B7 vs m (xs.map ay.pl)=([],r):=fun e=>by
    rw [hr];refine Avi (i:=i) (fun k y hk hy=>?_) (by rw [Bh,hx];rfl) (by rw [<- hr];exact e);rw [Bh] at hy;obtain ⟨z,hz,rfl⟩:=Nq.1 hy;exact hK.out k z hk hz
   have bB:=fun e=>Jl (hr.symm.trans e)
   have bf:r=0->∀ (k:Nat) (x:ay),k<i+1->xs[k]?=some x->Dr x.pl vs=0:=fun e k z hk hz=>by
    by_cases q:k=i
    .subst q;rw [hx] at hz;injection hz with hz;subst hz;exact hr.symm.trans e
    .exact hK.out k z (by omega) hz
   have av:(m:Int)+G8 ((xs.map ay.pl).take (i+1))=ei+x.pl.array:=(by rw [I7 (x:=x.pl) (by rw [Bh,hx];rfl),Axz,bb.out];omega);have aD:(xs.take (i+1)).map (fun x=>x.pl.array)=(xs.take i).map (fun x=>x.pl.array)++[x.pl.array]:=(by rw [aP,C9];rfl);have ao:Mr (xs.take (i+1))=Mr (xs.take i)++[.slice x.so x.n x.c]:=(by rw [aP];simp [Mr]);have bn:=hf.below hb.out;have a9:=fun W (h:BW wr.heap.size wr W)=>Aoq (bn.below h) a8.out x (bD.low h);simp only [<- hr] at a9;obtain ⟨⟨aI,aG,nodes,⟨da,db,dc,dd⟩,aJ,aH,array,ae,aA,after⟩,am,sn,al⟩:=x;replace av:(m:Int)+G8 ((xs.map ay.pl).take (i+1))=ei+array:=av;replace aD:(xs.take (i+1)).map (fun x=>x.pl.array)=(xs.take i).map (fun x=>x.pl.array)++[array]:=aD;replace ao:Mr (xs.take (i+1))=Mr (xs.take i)++[.slice am sn al]:=ao;have z0:wr.cell? ⟨b,t+i*13,none⟩=some (.string aI):=f 0 (by omega);have z1:wr.cell? ⟨b,t+i*13+1,none⟩=some (.string aG):=f 1 (by omega);have z2:wr.cell? ⟨b,t+i*13+2,none⟩=some (.int .i64 nodes):=f 2 (by omega);have z3:wr.cell? ⟨b,t+i*13+3,none⟩=some (.int .i64 da):=f 3 (by omega);have z4:wr.cell? ⟨b,t+i*13+4,none⟩=some (.int .i64 db):=f 4 (by omega);have z5:wr.cell? ⟨b,t+i*13+5,none⟩=some (.int .i64 dc):=f 5 (by omega);have z6:wr.cell? ⟨b,t+i*13+6,none⟩=some (.int .i64 dd):=f 6 (by omega);have z7:wr.cell? ⟨b,t+i*13+7,none⟩=some (.int .i64 aJ):=f 7 (by omega);have z8:wr.cell? ⟨b,t+i*13+8,none⟩=some (.int .i64 aH):=f 8 (by omega);have z9:wr.cell? ⟨b,t+i*13+9,none⟩=some (.int .i64 array):=f 9 (by omega);have bX:wr.cell? ⟨b,t+i*13+10,none⟩=some (.int .i64 ae):=f 10 (by omega);have bY:wr.cell? ⟨b,t+i*13+11,none⟩=some (.bool aA):=f 11 (by omega);have bZ:wr.cell? ⟨b,t+i*13+12,none⟩=some (.slice am sn al):=f 12 (by omega);replace ⟨aY,f,bw,a0,bD,aP,hr,aW⟩:=H8 aY f bw a0 bD aP hr aW;replace ⟨bB,bf,av,aD,ao,bn,a9,hx⟩:=H8 bB bf av aD ao bn a9 hx;replace ⟨aB,aC⟩:=H2 aB aC;go_upto_region 7 with fail;clear z0 z1 z2 z3 z4 z5 z6 z7 z8 z9 bX bY bZ;obtain ⟨s,bC⟩:=Ex (wr.heap.size);obtain ⟨W1,a4⟩:=Ex (wr.alloc (.cells (⟨⟨aI,aG,nodes,⟨da,db,dc,dd⟩,aJ,aH,array,ae,aA,after⟩,am,sn,al⟩:ay).cells 33 (0,0)));have ac:BW wr.heap.size wr W1:=(by rw [a4];exact Bn);have aU:W1.heap[s]?=some (.cells (⟨⟨aI,aG,nodes,⟨da,db,dc,dd⟩,aJ,aH,array,ae,aA,after⟩,am,sn,al⟩:ay).cells 33 (0,0)):=(by rw [a4,bC];exact Ah _ _);rw [<- a4,<- bC];clear a4 bC;have o:=hb.trans (ac.mono hb.size);have a1:=fun W (h:BW W1.heap.size W1 W)=>a9.out W (ac.trans (h.mono ac.size))
   have bl:∀ d:WD,BW W1.heap.size W1 d->d.cell? ⟨tb,5,none⟩=some (.pointer (some ⟨T.fb,0,none⟩))/\d.cell? ⟨s,0,none⟩=some (.string aI)/\d.cell? ⟨s,1,none⟩=some (.string aG)/\d.cell? ⟨s,2,none⟩=some (.int .i64 nodes)/\d.cell? ⟨s,3,none⟩=some (.int .i64 da)/\d.cell? ⟨s,4,none⟩=some (.int .i64 db)/\d.cell? ⟨s,5,none⟩=some (.int .i64 dc)/\d.cell? ⟨s,6,none⟩=some (.int .i64 dd)/\d.cell? ⟨s,7,none⟩=some (.int .i64 aJ)/\d.cell? ⟨s,8,none⟩=some (.int .i64 aH)/\d.cell? ⟨s,9,none⟩=some (.int .i64 array)/\d.cell? ⟨s,10,none⟩=some (.int .i64 ae)/\d.cell? ⟨s,11,none⟩=some (.bool aA)/\d.cell? ⟨s,12,none⟩=some (.slice am sn al):=fun d h=>by
    have p:=Ae h aU (Ab aU);exact ⟨(Ag (o.trans (h.mono o.size)) a3.out).trans c5,Aa p 0,Aa p 1,Aa p 2,Aa p 3,Aa p 4,Aa p 5,Aa p 6,Aa p 7,Aa p 8,Aa p 9,Aa p 10,Aa p 11,Aa p 12⟩
   have u:BW W1.heap.size W1 W1.drew:=(Below.refl _ _).drew;replace ⟨ac,aU,o,a1,bl,u⟩:=H6 ac aU o a1 bl u;go_cut [11] (fun rv wx=>yh W1 r rv wx)
   case first=>
    go_region_held3 (fun d=>d.cell? ⟨tb,5,none⟩=some (.pointer (some ⟨T.fb,0,none⟩))/\d.cell? ⟨s,0,none⟩=some (.string aI)/\d.cell? ⟨s,1,none⟩=some (.string aG)/\d.cell? ⟨s,2,none⟩=some (.int .i64 nodes)/\d.cell? ⟨s,3,none⟩=some (.int .i64 da)/\d.cell? ⟨s,4,none⟩=some (.int .i64 db)/\d.cell? ⟨s,5,none⟩=some (.int .i64 dc)/\d.cell? ⟨s,6,none⟩=some (.int .i64 dd)/\d.cell? ⟨s,7,none⟩=some (.int .i64 aJ)/\d.cell? ⟨s,8,none⟩=some (.int .i64 aH)/\d.cell? ⟨s,9,none⟩=some (.int .i64 array)/\d.cell? ⟨s,10,none⟩=some (.int .i64 ae)/\d.cell? ⟨s,11,none⟩=some (.bool aA)/\d.cell? ⟨s,12,none⟩=some (.slice am sn al))
     (first
       | with_reducible exact bl.out _ u.out)
     (first
       | (go_at_call 98
          (with_reducible refine (a1.out _ u.out).mono ?_)
          rintro e wz ⟨rfl,bM⟩;replace u:=Hh (u.trans (bM.mono u.size))
          clear bM))
    all_goals
     go_wp2_with fail;go_meet
     case rel=>exact ⟨rfl,u.out⟩
   case rest=>
   obtain ⟨rfl,aK⟩:=hcut;have a:=o.trans (aK.mono o.size);have aO:=Ae aK aU.out (Ab aU.out);have aS:=ac.trans (aK.mono ac.size);by_cases q:r=0;rotate_left
   .have q2:(r != 0)=true:=(by simpa using q);replace ⟨a,aO,aS,aK,q⟩:=H5 a aO aS aK q;go_wp2_with fail;exact Ak (v:=.tuple #[.slice none 0 0,.int .i64 r]) (by simp [results,results58,go_sem]) rfl (Gx.bad (aW q.out) q.out a.out)
   subst q;obtain ⟨_,_,_,q4,_,_,_,q8,_⟩:=G6 (bB rfl);obtain ⟨b1,b2⟩:=I9.1 q8;replace b1:1<=array:=b1;replace b2:array<=20:=b2;have bN:=bV.out;have b8:IntKind.i64.wrap (ei+array)=ei+array:=Id (by omega) (by omega);have bO:Hid ((m:Int)<=ei+array/\ei+array<=m+20*((i+1:Nat):Int)):=Hh ⟨by omega,by omega⟩;have x9:=Bk aO 9 (.int .i64 array) rfl;have hA:=(Below.refl wc.heap.size wc).alloc Ln (.cells #[.int .i64 array] 3 (0,0));have s7:=(hS.mod (Mod.af (S:=fun _=>False) aS) (fun _ _ c=>c)).mod (Mod.af (S:=fun _=>False) hA) (fun _ _ c=>c);have s8:(wc.alloc (.cells #[.int .i64 array] 3 (0,0))).cell? ⟨wc.heap.size,0,none⟩=some (.int .i64 array):=Aa (Ah _ _) 0;have s9:=A5 a.size hA.size;have r7:=(hR.mod (Mod.af (S:=fun _=>False) aS) (fun _ _ c=>c)).mod (Mod.af (S:=fun _=>False) hA) (fun _ _ c=>c);have ba:=Ae hA aO (Ab aO);have aM:=a.trans (hA.mono a.size);have bs:n7<=1000000000:=(by have:=aB.out;rw [At,E8] at this;omega);have bv:n8<=1000000000:=(by have:=aC.out;simp [Mr] at this;omega);clear bN;replace ⟨a,aO,aS,aK,q4,q8,b1,b2⟩:=H8 a aO aS aK q4 q8 b1 b2;replace ⟨hA,s7,s8,s9,r7,ba,aM,bs⟩:=H8 hA s7 s8 s9 r7 ba aM bs;replace bv:=Hh bv;go_upto_region 12 with (at_builtin;refine Mo rfl _ _ rfl w.heap.size n7 _ rfl s7.out aB.symm ⟨wc.heap.size,0,none⟩ 1 rfl array s8.out bs.out s9.out ?_;intro g7 b0 w7 h7 a6 bK;replace ⟨h7,a6,bK⟩:=H3 h7 a6 bK);clear x9;have bA:=Mod.grown (S:=fun k=>(Value.slice bS n7 c7).ownBlock=some k) a6.out (fun k hk=>hk);have bJ:=bA.ar ba.out (fun e=>Bo s7.row ba.out (by decide) e)
   have bR:=r7.mod bA (fun k hk e=>by
    obtain ⟨c,hc,_⟩:=Cq r7.row hk
    exact Bo s7.row hc (by decide) e)
   have ad:=aM.grown a6.out s9.out (fun k hk=>(s7.lt k hk).1);have bW:=Bk bJ 12 (.slice am sn al) rfl;have hB:=(Below.refl w7.heap.size w7).alloc Ln (.cells #[.slice am sn al] 31 (0,0));have t7:=bR.mod (Mod.af (S:=fun _=>False) hB) (fun _ _ c=>c);have t8:(w7.alloc (.cells #[.slice am sn al] 31 (0,0))).cell? ⟨w7.heap.size,0,none⟩=some (.slice am sn al):=Aa (Ah _ _) 0;have t9:=A5 ad.size hB.size;have u7:=h7.mod (Mod.af (S:=fun _=>False) hB) (fun _ _ c=>c);have aN:=ad.trans (hB.mono ad.size);clear bA bR;replace ⟨bJ,ad,hB,t7,t8,t9,u7,aN⟩:=H8 bJ ad hB t7 t8 t9 u7 aN;go_upto_region 13 with (at_builtin;refine Avh rfl _ _ rfl w.heap.size n8 _ rfl t7.out aC.symm ⟨w7.heap.size,0,none⟩ 1 rfl am sn al t8.out bv.out t9.out ?_;intro g8 b3 w8 h8 a7 bL;replace ⟨h8,a7,bL⟩:=H3 h8 a7 bL);clear bW;have bQ:=Mod.grown (S:=fun k=>(Value.slice bT n8 c8).ownBlock=some k) a7.out (fun k hk=>hk)
   have u8:=u7.mod bQ (fun k hk e=>by
    obtain ⟨c,hc,_⟩:=Cq u7.row hk
    exact Bo t7.row hc (by decide) e)
   have aL:=aN.grown a7.out t9.out (fun k hk=>(t7.lt k hk).1);have u9:=h8.out;rw [<- aD.out] at u8;rw [<- ao.out] at u9;have bP:=Hh av.symm;have bg:=bf rfl;clear bQ;replace ⟨u8,u9,aL,bg⟩:=H4 u8 u9 aL bg;go_wp2_with fail;go_roundw
   case rel=>exact ⟨i+1,ei+array,by go_num,by omega,by go_num,bP,bO,aL,u8,u9,bg⟩
   case measure=>simp [intOf];omega
  .have bU:¬ (i:Int)<n:=(by omega);have a2:xs.take i=xs:=C8 (by have:=aF.out;omega);have aE:(xs.map ay.pl).take i=xs.map ay.pl:=C8 (by rw [At];have:=aF.out;omega)
   have ap:∀ (k:Nat) (y:dn),k<(xs.map ay.pl).length->(xs.map ay.pl)[k]?=some y->Dr y vs=0:=fun k y hk hy=>by
    rw [Bh] at hy;obtain ⟨z,hz,rfl⟩:=Nq.1 hy;exact hK.out k z (by rw [At] at hk;have:=aF.out;omega) hz
   have an:=Avj (n:=m) ap;have aT:=bb.out;rw [aE] at aT;rw [<- aT] at an;have aR:=hS.out;have aQ:=hR.out;rw [a2] at aR aQ;by_cases q:ei > 100
   .rw [Ad q] at an;replace ⟨an,aT,aR,aQ,a2,aE,ap,aB⟩:=H8 an aT aR aQ a2 aE ap aB;replace aC:=Hh aC;go_wp2_with fail;exact Ak (v:=.tuple #[.slice none 0 0,.int .i64 140]) (by simp [results,results58,go_sem]) rfl (Gx.bad an.out (by decide) hb.out)
   rw [Ac q] at an
   have a5:∀ x,x∈xs->x.pl.after.length<=8:=fun x hx=>by
    obtain ⟨k,hk⟩:=Dg hx;obtain ⟨_,_,_,q4,_⟩:=G6 (Jl (hK k x (by have:=(Ao.1 hk).1;have:=aF.out;omega) hk));exact Wj q4
   have aZ:∀ x,x∈xs->x.ok wr:=fun x hx=>by
    obtain ⟨k,hk⟩:=Dg hx;obtain ⟨_,_,_,_,_,ho⟩:=hs.cell k x hk;exact ho.low hb.out
   obtain ⟨bd,bE⟩:=aQ.rows aZ (by have:=aF.out;omega) (fun x hx=>by have:=a5 x hx;omega);obtain ⟨b9,n9,c9,e9,bc,bo,_⟩:=Qe aR;injection e9 with e9 e9b e9c;subst e9 e9b e9c
   have aX:=Axy ((m:Int)+1) bS n7 c7 (xs.map fun x=>x.pl.array) bT n8 c8 (xs.map fun x=>x.pl.after) wr bo bE (fun l hl=>by
    obtain ⟨x,hx,rfl⟩:=Ba.1 hl;have:=a5 x hx
    omega)
   rw [Dn,Dn] at an;have be:B7 vs m (xs.map ay.pl)=Ga ((m:Int)+1) (xs.map fun x=>x.pl.array) (xs.map fun x=>x.pl.after):=an;rw [<- be] at aX;obtain ⟨R,aV⟩:=Ex (B7 vs m (xs.map ay.pl));rw [<- aV] at aX;rw [<- aV];have b5:=(Ag hb.out a3.out).trans c4;have b4:=bI.out;clear an be;replace ⟨aT,aR,aQ,a2,aE,ap,aB,aC⟩:=H8 aT aR aQ a2 aE ap aB aC;replace ⟨aX,aV,a5,aZ,bE,bd,bo,bc⟩:=H8 aX aV a5 aZ bE bd bo bc;go_wp2_with (go_at_call 99;(with_reducible refine (aX.out).mono ?_);rintro e w1 ⟨v,rfl,bF,bG,ac⟩;replace ⟨bF,bG,ac⟩:=H3 bF bG ac);refine Ak (v:=.tuple #[v,.int .i64 R.2]) (by simp [results,results58,go_sem]) rfl ?_;rw [<- aV.out];refine ⟨v,rfl,bF.out,fun e=>?_,hb.trans (ac.mono hb.size)⟩;obtain ⟨g,s2,e1,e2⟩:=bG e;exact ⟨g,s2,e1,e2.le hb.size⟩
