/- Parts Tb3, Rs0, Sbm, Gd1, Rsx. Plain theorems: no condition. -/
import Derived.Test.YtimlcnhcjndijaaGreatDoorQ29
import Derived.Test.YtimlcnhcjndijaaGreatDoorQ36
set_option linter.all false
set_option maxRecDepth 100000
set_option maxHeartbeats 4000000
namespace Go.Proofs.YtimlcnhcjndijaaGreatDoor
open Go.RowKit Go.Maps Go.Lib
def B5 (vs:List ax) (n:Nat) (l:List dp):List (List Int)×Int:=
 match l.find? fun s=>decide (C7 s vs≠0) with
 | some s=>([],C7 s vs)
 | none=>if 100<(n:Int)+Ie l then ([],140) else E0 ((n:Int)+1) (l.map fun s=>s.array) (l.map fun s=>s.after)
def Js (vs:List ax) (t:di) (l:List dp):di×Cl:=
 let js:=Ev (l.zip (B5 vs t.ab.length l).1) t.ab
 (t.eh (Dw js),⟨0,0,(t.ab.length:Int)+1,(js.length:Int)⟩)
def Dl (vs:List ax) (t:di) (e:ed):Int:=
 if E6 e=false then 130
 else if B8 e.n.kind=true/\e.n.seq<=(J9 t.cls e.n.ag).seq then 141
 else if e.n.kind=1 then (if e.n.ah<=t.ah then 141 else 0)
 else if e.n.kind=6 then (if e.n.tick<=t.tick then 141 else 0)
 else if e.n.kind=2 then (B5 vs t.ab.length e.specs).2
 else if 8<=e.n.kind/\e.n.kind<=11 then La t e.n
 else Jo t e.n
noncomputable def dz (vs:List ax) (t:di) (e:ed):di×Cl:=
 if e.n.kind=1 then ({ t with ah:=e.n.ah },⟨0,0,0,0⟩)
 else if e.n.kind=2 then Js vs t e.specs
 else if e.n.kind=6 then (Od vs t e.n.tick,⟨0,0,0,0⟩)
 else if e.n.kind=7 then (Adj t e.n,⟨0,0,0,0⟩)
 else if 8<=e.n.kind/\e.n.kind<=11 then (Qc t e.n,⟨0,0,0,0⟩)
 else Adi t e.n
noncomputable def Cz (vs:List ax) (t:di) (e:ed):di×Cl×Int:=
 if Dl vs t e≠0 then (t,⟨0,0,0,0⟩,Dl vs t e)
 else
  let d:=dz vs t e
  (if B8 e.n.kind=true then { d.1 with cls:=Jj d.1.cls e.n.ag ⟨e.n.seq,d.2.e,d.2.first,d.2.last⟩ } else d.1,d.2,0)
structure I5 (w:World) (B:Nat) (v:Value) (svs:List Value):Prop where
 row:w.ownsRow B 31 1 v svs.length svs
def I5.nil (w:World) (B:Nat):I5 w B (.slice none 0 0) []:=⟨rfl,.inl ⟨rfl,rfl⟩⟩
def I5.mod {w w':World} {B:Nat} {S:Nat->Prop} {v:Value} {l:List Value} (h:I5 w B v l) (a:Mod S w w') (b:∀ k,v.ownBlock=some k->¬ S k):I5 w' B v l:=⟨Bb h.row a b⟩
def I5.lt {w:World} {B:Nat} {v:Value} {l:List Value} (h:I5 w B v l):∀ k,v.ownBlock=some k->B<=k/\k<w.heap.size:=fun k a=>h.row.lt k a
def Atd {f:Array Oper} {rest:List Oper} {o:Oper} {a:Act} {w:World} {Q:Exit->Act->World->Prop} (q:o.guard=none) (s x:Operand)
  (ho:o.op=.call { callee:=.builtin .append,args:=#[s,x],argTypes:=#[137,137] })
  (B L:Nat) (v:Value) (hs:a.eval s=v) {l:List Value} (i:I5 w B v l) (r:l.length=L) (t:Addr) (c:Nat) (hx:a.eval x=.slice (some t) 1 c) (so:Option Addr) (n sc:Nat) (hk:w.cell? t=some (.slice so n sc)) (hL:L<=1000000000) (hb:B<=w.heap.size)
  (h:∀ g cap w',I5 w' B (.slice (some ⟨g,0,none⟩) (L+1) cap) (l++[.slice so n sc])->w.grownBy w' v.ownBlock->(v.ownBlock=some g\/g=w.heap.size)->wpList Tryz.prog f Q rest (a.put o.dst (.slice (some ⟨g,0,none⟩) (L+1) cap)) w') :
  wpList Tryz.prog f Q (o :: rest) a w:=by
 obtain ⟨i3,y,z,k,m⟩:=C0 Agg;subst r;refine Q6 w q s x 137 ho B 31 i3 _ 1 24 Tryz.underlying137 y z k m rfl (by decide) v l.length l hs i.row t 1 c [.slice so n sc] hx rfl ?_ (by simp [Value.oneCell']) (Je (n:=l.length) (by omega)) (by omega) hb ?_
 .intro j u p
  match j,p with
  | 0,p=>
   simp at p;subst p;simpa [Addr.add] using hk
 .intro v' w' b d _ ac;obtain ⟨g,cap,rfl⟩:=Joins.ownsRow_form b (by omega);refine h g cap w' ⟨?_⟩ d ?_
  .rw [De];simpa using b
  .rcases ac with e | e
   .exact .inl e.symm
   .simp [Value.ownBlock] at e;exact .inr e
def Agm {α:Type} {p:α->Bool}:∀ {l:List α} {i:Nat} {s:α},(∀ (k:Nat) (y:α),k<i->l[k]?=some y->p y=false)->l[i]?=some s->p s=true->l.find? p=some s
 | [],i,s,_,h,_=>by simp at h
 | y :: l,0,s,_,h,hp=>by
  simp at h;subst h;simp [List.find?,hp]
 | y :: l,i+1,s,hk,h,hp=>by
  have h0:=hk 0 y (by omega) (by simp);simp only [List.find?,h0];exact Agm (i:=i) (fun k z a b=>hk (k+1) z (by omega) (by simpa using b)) (by simpa using h) hp
def Ate {vs:List ax} {n:Nat} {l:List dp} {i:Nat} {s:dp} (a:∀ (k:Nat) (y:dp),k<i->l[k]?=some y->C7 y vs=0) (h:l[i]?=some s) (b:C7 s vs≠0):B5 vs n l=([],C7 s vs):=by
 have:=Agm (p:=fun s=>decide (C7 s vs≠0)) (fun k y h1 c=>by simp [a k y h1 c]) h (by simp [b]);unfold B5;rw [this]
def Atf {vs:List ax} {n:Nat} {l:List dp} (b:∀ (k:Nat) (y:dp),k<l.length->l[k]?=some y->C7 y vs=0):B5 vs n l=if 100<(n:Int)+Ie l then ([],140) else E0 ((n:Int)+1) (l.map fun s=>s.array) (l.map fun s=>s.after):=by
 have:(l.find? fun s=>decide (C7 s vs≠0))=none:=by rw [Q8];intro s c;obtain ⟨k,a⟩:=Dr c;simp [b k s (Aq.1 a).1 a]
 unfold B5;rw [this]
def Kn {s:dp} {vs:List ax} (h:C7 s vs=0):Di s=true:=by
 unfold C7 at h;split at h
 .omega
 .rename_i q;simpa using q
def Mm (xs:List au):List Value:=xs.map fun x=>.slice x.so x.n x.c
def I5.rows {w:World} {B:Nat} {j:Option Addr} {n c:Nat} {xs:List au} (h:I5 w B (.slice j n c) (Mm xs)) (p:∀ x,x∈xs->x.ok w) (h1:xs.length<=1000) (q:∀ x,x∈xs->x.pl.after.length<=100000):n=xs.length/\Qv w j n (xs.map fun x=>x.pl.after):=by
 have k:(Mm xs).length=xs.length:=by simp [Mm]
 have m:=h.row;rcases m.2 with ⟨e,h0⟩ | ⟨g,cap,r,e,v,s,t,y,o⟩
 .injection e with e1 e2 e3;subst e1 e2;have f:xs=[]:=Fw.1 (by omega);subst f;exact ⟨rfl,rfl,by omega,fun i l k=>by simp at k⟩
 .injection e with e1 e2 e3;subst e1;refine ⟨by omega,by simp;omega,by omega,fun i l a=>?_⟩;rw [Bx] at a
  cases hxi:xs[i]? with
  | none=>rw [hxi] at a;cases a
  | some x=>
   rw [hxi] at a;simp at a;subst a;have z:=(Aq.1 hxi).1;have b:=Aj hxi;have d:=p x b;subst e2;have u:=Gr m i (by omega);refine ⟨g,0,x.so,x.c,rfl,Ab s,?_,?_,?_,q x b⟩
   .rw [D2,u];simp [Mm,hxi,d.after.len]
   .rw [d.after.len];exact d.after
   .rw [d.after.len];exact d.mh
variable {w w' wr:World} {T:Tv}
def An.tl (h:An w T) {b:Nat} {x:ai} {jv:Value} (u:Mod (fun k=>k=T.tb\/T.jv.ownBlock=some k) w w')
  (hd:w'.heap[T.tb]?=some (.cells #[.int .i64 T.ah,.int .i64 T.tick,.map (some T.mb),T.nv,jv,.pointer (some ⟨T.fb,0,none⟩),T.cv] 115 (0,0)))
  (y:w'.ownsRow 0 125 1 jv (T.js.length+1) ((T.js.map fun j=>.pointer (some ⟨j.1,0,none⟩))++[.pointer (some ⟨b,0,none⟩)]))
  (ad:∀ k,jv.ownBlock=some k->T.jv.ownBlock=some k\/w.heap.size<=k)
  (hb:w.heap.size<=b) (p:A9 w' b x) (g:x.po=none/\x.pn=0/\x.pc=0/\x.pl.parts=[]) (m:x.go=none/\x.gn=0/\x.gc=0/\x.pl.aj=[])
  (al:Ap w' x.so x.sn x.pl.sp.after) (z:∀ k o,x.so=some ⟨k,o,none⟩->∃ c,w'.heap[k]?=some (.cells c 3 (0,0))) (am:x.sn<=x.sc) (hu:x.pl.sp.user.size<=maxLen) (hp:x.pl.sp.part.size<=maxLen) :
  An w' { T with jv:=jv,js:=T.js++[(b,x)] }/\∀ k,({ T with jv:=jv,js:=T.js++[(b,x)] }:Tv).ay k->T.ay k\/w.heap.size<=k:=by
 have t:x.pb=none:=by unfold ai.pb;rw [g.1];rfl
 have ay:∀ k,({ T with jv:=jv,js:=T.js++[(b,x)] }:Tv).ay k->T.ay k\/w.heap.size<=k:=fun k c=>by
  rcases c with e | e | e | e | ⟨j,d,e⟩
  .exact .inl (.inl e)
  .exact .inl (.inr (.inl e))
  .exact .inl (.inr (.inr (.inl e)))
  .rcases ad k e with e | e
   .exact .inl (.inr (.inr (.inr (.inl e))))
   .exact .inr e
  .rcases Dt.1 d with d | d
   .exact .inl (.inr (.inr (.inr (.inr ⟨j,d,e⟩))))
   .have d:=I7.1 d;subst d;rcases e with e | e
    .exact .inr (by rw [<- e];exact hb)
    .rw [t] at e;cases e
 have jb:∀ k,T.jv.ownBlock=some k->∃ c,w.heap[k]?=some (.cells c 125 (0,0)):=fun k e=>by
  obtain ⟨c,f,_⟩:=C1 h.ab e;exact ⟨c,f⟩
 have ac:Mod T.ay w w':=u.mono fun k _ e=>e.imp id fun e=>.inr (.inr (.inl e))
 have i:∀ {B size n:Nat} {Ty:TypeId} {v:Value} {xs:List Value},w.ownsRow B Ty size v n xs->Ty≠125->Ty≠115->∀ k,v.ownBlock=some k->¬ (k=T.tb\/T.jv.ownBlock=some k):=fun y h1 h2 k hk c=>by
  rcases c with e | e
  .subst e;exact B2 y h.head h2 hk
  .obtain ⟨cc,f⟩:=jb k e;exact B2 y f h1 hk
 have q:=h.cls.mod u (fun c=>by
  rcases c with e | e
  .exact h.ei h.head e
  .obtain ⟨cc,f⟩:=jb _ e
   exact h.ei f rfl)
 have r:=Bb h.nodes u (i h.nodes (by decide) (by decide))
 have l:∀ j,j∈T.js->A9 w' j.1 j.2:=fun j d=>u.aq (h.box j d) (fun c=>by
  rcases c with e | e
  .exact h.j6 d h.head (by decide) e
  .obtain ⟨cc,f⟩:=jb _ e
   exact h.j6 d f (by decide) rfl)
 have s:∀ j,j∈T.js->Bu w' j.2:=fun j d=>Bb (h.ok j d).parts u (i (h.ok j d).parts (by decide) (by decide))
 have du:∀ k c,w'.heap[k]?=some (.cells c 3 (0,0))->¬ ({ T with jv:=jv,js:=T.js++[(b,x)] }:Tv).ay k:=fun k c f e=>by
  rcases e with e | e | e | e | ⟨j,d,e⟩
  .rw [e] at f;rw [show w'.heap[T.tb]?=_ from hd] at f;injection f with f;injection f with _ f;exact absurd f (by decide)
  .obtain ⟨es,cl,an⟩:=q.aq;rw [e] at f;rw [show w'.heap[T.mb]?=_ from an] at f;injection f with f;cases f
  .exact B2 r f (by decide) e
  .exact B2 y f (by decide) e
  .rcases Dt.1 d with d | d
   .rcases e with e | e
    .have:=l j d;rw [A9,e,f] at this;injection this with this;injection this with _ this;exact absurd this (by decide)
    .exact B2 (s j d) f (by decide) e
   .have d:=I7.1 d;subst d;rcases e with e | e
    .have:=p;rw [A9,show b=k from e,f] at this;injection this with this;injection this with _ this;exact absurd this (by decide)
    .rw [show x.pb=none from t] at e;cases e
 refine ⟨⟨hd,q,r,?_,Bb h.aw u (i h.aw (by decide) (by decide)),?_,?_,?_,?_,h.dj.mod ac ay,h.same⟩,ay⟩
 .show w'.ownsRow 0 _ 1 jv (T.js++[(b,x)]).length ((T.js++[(b,x)]).map _);rw [De,Ds];exact y
 .intro j d;rcases Dt.1 d with d | d
  .exact l j d
  .have d:=I7.1 d;subst d;exact p
 .intro j d;rcases Dt.1 d with d | d
  .exact (h.ok j d).mod ac (fun k hk c=>by
    rcases ay k c with c | c
    .exact c
    .omega) (s j d)
  .have d:=I7.1 d;subst d;refine ⟨⟨al,fun _ k o e hS=>?_⟩,am,?_,?_,?_,hu,hp⟩
   .obtain ⟨c,f⟩:=z k o e;exact du k c f hS
   .show D5 w' _ x.go x.gn x.pl.aj;rw [m.1,m.2.1,m.2.2.2];exact Acd _ _
   .show x.gn<=x.gc;rw [m.2.1];exact Av _
   .show Bu w' x;unfold Bu;rw [g.1,g.2.1,g.2.2.1,g.2.2.2];exact No _ _ _ _
 .show ((T.js++[(b,x)]).map Prod.fst).Nodup;rw [Ds];refine Rc.2 ⟨h.one,by simp,fun a ha c f e=>?_⟩;simp at f;obtain ⟨j,d,rfl⟩:=Bd.1 ha;have:=Ab (h.box j d);rw [e,f] at this;omega
 .show (T.js++[(b,x)]).Pairwise _;refine Sx.2 ⟨h.two,by simp,fun a _ c f k _ e=>?_⟩;have f:=I7.1 f;subst f;rw [show x.pb=none from t] at e;cases e
structure Dy (w:World) (T:Tv) (jv:Value) (js:List (Nat×ai)) (wr:World):Prop where
 at_:An wr { T with jv:=jv,js:=js }
 ay:∀ b,({ T with jv:=jv,js:=js }:Tv).ay b->T.ay b\/w.heap.size<=b
 mod:Mod T.ay w wr
variable {jv jv':Value} {js:List (Nat×ai)}
def Dy.refl (h:An w T):Dy w T T.jv T.js w:=⟨h,fun _ c=>.inl c,Mod.refl _ _⟩
def Dy.low (h:Dy w T jv js wr) (a:Below wr.heap.size wr w'):Dy w T jv js w':=⟨h.at_.low a,h.ay,h.mod.low a⟩
def Dy.mo (h:Dy w T jv js wr) (a:Mod ({ T with jv:=jv,js:=js }:Tv).ay wr w'):Mod T.ay w w':=h.mod.then a fun k b c=>by
 rcases h.ay k c with c | c
 .exact c
 .omega
def Dy.add (h:Dy w T jv js wr) {b:Nat} {x:ai} (n:Mod (fun k=>k=T.tb\/jv.ownBlock=some k) wr w')
  (p:w'.heap[T.tb]?=some (.cells #[.int .i64 T.ah,.int .i64 T.tick,.map (some T.mb),T.nv,jv',.pointer (some ⟨T.fb,0,none⟩),T.cv] 115 (0,0)))
  (q:w'.ownsRow 0 125 1 jv' (js.length+1) ((js.map fun j=>.pointer (some ⟨j.1,0,none⟩))++[.pointer (some ⟨b,0,none⟩)]))
  (f:∀ k,jv'.ownBlock=some k->jv.ownBlock=some k\/wr.heap.size<=k)
  (r:wr.heap.size<=b) (a:A9 w' b x) (g:x.po=none/\x.pn=0/\x.pc=0/\x.pl.parts=[]) (i:x.go=none/\x.gn=0/\x.gc=0/\x.pl.aj=[])
  (l:Ap w' x.so x.sn x.pl.sp.after) (d:∀ k o,x.so=some ⟨k,o,none⟩->∃ c,w'.heap[k]?=some (.cells c 3 (0,0))) (m:x.sn<=x.sc) (s:x.pl.sp.user.size<=maxLen) (t:x.pl.sp.part.size<=maxLen) :
  Dy w T jv' (js++[(b,x)]) w':=by
 obtain ⟨h1,u⟩:=An.tl (T:={ T with jv:=jv,js:=js }) h.at_ n p q f r a g i l d m s t;refine ⟨h1,fun k c=>?_,h.mo (n.mono fun k _ e=>e.imp id fun e=>.inr (.inr (.inl e)))⟩;rcases u k c with c | c
 .exact h.ay k c
 .exact .inr (A6 h.mod.size c)
def Dy.then {a:List (Nat×ai)} (h:Dy w T jv js wr) (d:Bq wr { T with jv:=jv,js:=js } a w'):Dy w T jv a w':=
 ⟨d.at_,fun b c=>by
  rcases d.ay b c with c | c
  .exact h.ay b c
  .exact .inr (A6 h.mod.size c),h.mo d.mod⟩
def Dy.ic (h:Dy w T jv js wr) (a:Gz w T.js js):Ek w T { T with jv:=jv,js:=js } wr:=⟨h.at_,rfl,rfl,rfl,rfl,rfl,h.ay,h.mod,a⟩
def Dy.set (h:Dy w T jv js wr) {i:Nat} {x j:Nat×ai} (g:js[i]?=some x) (o:j.1=x.1) (p:Mod (F0 x) wr w') (a:A9 w' j.1 j.2) (q:Bu w' j.2) (d:∀ b,j.2.pb=some b->x.2.pb=some b\/wr.heap.size<=b)
  (r:D5 w' (({ T with jv:=jv,js:=js }:Tv).br i j).ay j.2.so j.2.sn j.2.pl.sp.after) (l:j.2.sn<=j.2.sc) (s:D5 w' (({ T with jv:=jv,js:=js }:Tv).br i j).ay j.2.go j.2.gn j.2.pl.aj) (m:j.2.gn<=j.2.gc)
  (t:j.2.pl.sp.user.size<=maxLen) (n:j.2.pl.sp.part.size<=maxLen):Dy w T jv (js.set i j) w':=by
 have f:∀ k,F0 x k->({ T with jv:=jv,js:=js }:Tv).ay k:=fun k c=>.inr (.inr (.inr (.inr ⟨x,Aj g,c.imp (fun e=>e.symm) id⟩)));refine ⟨An.br (T:={ T with jv:=jv,js:=js }) h.at_ g o p a q d r l s m t n,fun k c=>?_,h.mo (p.mono fun k _ c=>f k c)⟩;rcases Rp (T:={ T with jv:=jv,js:=js }) g o c with c | c
 .exact h.ay k c
 .rcases d k c with c | c
  .exact h.ay k (f k (.inr c))
  .exact .inr (A6 h.mod.size c)
def Atp (l:List (dp×List Int)) (p:dp×List Int):∀ js:List Jb,Ev (l++[p]) js=Iw p.1 p.2 (Ev l js) p.1.array.toNat:=by
 induction l with
 | nil=>intro js;rfl
 | cons q l ih=>intro js;exact ih _
def Wr (s:dp) (a:List Int) (js:List Jb):∀ n,(Iw s a js n).length=js.length+n
 | 0=>rfl
 | n+1=>by
  show (Iw s a js n++[_]).length=_;rw [De,Wr s a js n];rfl
def Atq {l:List Int} {x:Int} (h:x∈Lib.compact l):x∈l:=by
 unfold Lib.compact Lib.compactUpTo at h;obtain ⟨k,a,rfl⟩:=Bd.1 h;have a:=List.mem_range.1 (Oo.1 a).1;rw [getElem!_pos _ _ (by simpa using a)];simp
def Atr {l:List Int} {x:Int} (h:x∈Ez l):x∈l:=by
 unfold Ez at h;exact Sy.1 h
def El (l:List Int):Int:=l.foldl (·+·) 0
def Ws (l:List Int) (a:Int):l.foldl (·+·) a=a+l.foldl (·+·) 0:=by
 induction l generalizing a with
 | nil=>simp
 | cons x l ih=>
  simp only [List.foldl_cons];rw [ih,ih (0+x)];omega
def Aae (b:Int) (a:List Int) (h1:∀ n,n∈a->1<=n):∀ k:Nat,k<=a.length->Dq b a k=b+El (a.take k)
 | 0,_=>by simp [Dq,El]
 | k+1,hk=>by
  have d:=Aae b a h1 k (by omega);show Dq b a k+(a[k]?).getD 0=_;have c:a[k]?=some a[k]:=Am _;rw [J7 c,d,c];unfold El;rw [Ms];simp;omega
def Ul (d:List Int) (h1:∀ n,n∈d->1<=n) (k:Nat):El (d.take k)<=El d/\0<=El (d.take k):=by
 have e:∀ l:List Int,(∀ n,n∈l->1<=n)->0<=El l:=fun l=>by
  induction l with
  | nil=>intro _;simp [El]
  | cons x l ih=>
   intro h;have h1:=ih fun n f=>h n (D1 _ f);have g:=h x E2;unfold El at h1 ⊢;rw [List.foldl_cons,Ws];omega
 have a:=e (d.take k) fun n f=>h1 n (List.mem_of_mem_take f);have b:=e (d.drop k) fun n f=>h1 n (List.mem_of_mem_drop f)
 have c:El d=El (d.take k)+El (d.drop k):=by
  conv=>lhs;rw [<- Sw k d]
  unfold El;rw [Ms,Ws]
 omega
def Ats {b:Int} {a:List Int} {r:List Int×List Int} {n:Int} (g:F1 b a.length n=false) (d:∀ n,n∈a->1<=n) (h1:1<=b) (h:∀ x,x∈r.2->1<=x/\x<b+El a) :
  ∀ x,x∈(Ml b a r n).2->1<=x/\x<b+El a:=by
 intro x c;have e:=(Ul a d a.length).2;rw [On] at e;unfold F1 at g;simp at g;unfold Ml at c;split at c
 .rcases Dt.1 c with c | c
  .exact h x c
  .have c:=I7.1 c;omega
 .rcases Dt.1 c with c | c
  .exact h x c
  .unfold I4 at c;obtain ⟨j,f,rfl⟩:=Bd.1 c;have f:=List.mem_range.1 f;obtain ⟨k,l⟩:∃ k:Nat,k=(-1-n).toNat:=⟨_,rfl⟩;rw [<- l] at f ⊢;have m:k<a.length:=(by omega);have i:a[k]?=some a[k]:=Am _;rw [i] at f;have o:=Aae b a d k (by omega);have p:=Aae b a d (k+1) (by omega);have q:Dq b a (k+1)=Dq b a k+a[k]:=(by show Dq b a k+(a[k]?).getD 0=_;rw [i];rfl);have s:=Ul a d k;have t:=Ul a d (k+1);simp at f;omega
def Agq {b:Int} {a l:List Int} (e:l.any (F1 b a.length)=false) (c:∀ n,n∈a->1<=n) (h1:1<=b):∀ j,j<=l.length->∀ x,x∈(B9 b a l j).2->1<=x/\x<b+El a
 | 0,_=>fun x d=>by simp [B9] at d
 | j+1,hj=>by
  have d:l[j]?=some l[j]:=Am _;have f:F1 b a.length l[j]=false:=by have:=List.any_eq_false.1 e l[j] (Ls _);simpa using this
  show ∀ x,x∈(Ml b a (B9 b a l j) ((l[j]?).getD 0)).2->_;rw [d];exact Ats f c h1 (Agq e c h1 j (by omega))
def Aaf {f:Int} {d:List Int} {after:List (List Int)} (h:(E0 f d after).2=0) :
  (E0 f d after).1.length=after.length/\1<=f/\after.length<=8/\(∀ n,n∈d->1<=n/\n<=20)/\∀ l,l∈(E0 f d after).1->(∀ x,x∈l->1<=x/\x<f+El d)/\∃ g,g∈after/\l.length<=20*g.length:=by
 have h0:=h;unfold E0 at h ⊢;split
 .rename_i c;rw [Ad c] at h;cases h
 rename_i o;rw [Ac o] at h;split
 .rename_i c;rw [Ad c] at h;cases h
 rename_i k;rw [Ac k] at h;split
 .rename_i c;rw [Ad c] at h;cases h
 rename_i m;rw [Ac m] at h;split
 .rename_i c;rw [Ad c] at h;cases h
 have i:∀ n,n∈d->1<=n/\n<=20:=fun n j=>by
  by_cases e:(decide (n<1) || decide (20<n))=true
  .exact absurd (Kv.2 ⟨n,j,e⟩) k
  .simp at e;omega
 refine ⟨by simp,by omega,by omega,i,fun l p=>?_⟩;obtain ⟨g,h0,rfl⟩:=Bd.1 p;have q:g.any (F1 f d.length)=false:=by rw [I8];intro e;exact m (Kv.2 ⟨g,h0,e⟩)
 refine ⟨fun x r=>Agq q (fun n j=>(i n j).1) (by omega) _ Ln x (Atr (Atq r)),g,h0,?_⟩;have a:=Lib.compact_length_le (Ez (B9 f d g g.length).2);rw [Wn] at a;have b:=(Wp f d g (fun n j=>(i n j).2) g.length).2;unfold Fq;omega
end Go.Proofs.YtimlcnhcjndijaaGreatDoor
namespace Go.Proofs.YtimlcnhcjndijaaGreatDoor
structure Um (vs:List ax) (s:dp) (g:List Int):Prop where
 uh:∀ x,x∈g->x∈Ce vs s.part
 bh:g.Pairwise (·<·)
 len:(g.length:Int)=s.nodes
structure Fd (vs:List ax) (n k:Nat) (j:Jb):Prop where
 id:j.id=(k:Int)+1
 ga:C7 { j.sp with after:=[] } vs=0
 one:j.sp.array=1
 ju:∀ x,x∈j.sp.after->1<=x/\x<=(n:Int)
 sy:j.sp.after.length<=160
 ij:Fc j.lf j.sp.ae
 low:-1<=j.start
 um:j.start<0->j.aj=[]
 aj:0<=j.start->Um vs j.sp j.aj/\L1 j<=1099511627776
 live:df j.lf.st=true↔j.parts≠[]
 run:df j.lf.st=true->0<=j.start
 vw:j.lf.st=2->j.start<0
 ends:5<=j.lf.st->j.lf.st<=7->0<=j.start
 pg:j.parts≠[]->j.parts.map Prod.fst=j.aj
 sk:∀ p,p∈j.parts->0<=p.2/\p.2<=3
structure Ik (vs:List ax) (n k:Nat) (j:Jb):Prop extends Fd vs n k j where
 vr:j.parts≠[]->j.open_=true
def F7 (vs:List ax) (js:List Jb):Prop:=∀ k j,js[k]?=some j->Fd vs js.length k j
def Dm (vs:List ax) (js:List Jb):Prop:=∀ k j,js[k]?=some j->Ik vs js.length k j
variable {vs:List ax} {n k:Nat} {j:Jb} {js:List Jb}
def Dm.b (h:Dm vs js):F7 vs js:=fun k j a=>(h k j a).toFd
def F7.ju (h:F7 vs js):D6 js:=fun j b c a=>by
 obtain ⟨k,d⟩:=Dr b;exact (h k j d).ju c a
def Fd.more (h:Fd vs n k j) {m:Nat} (b:n<=m):Fd vs m k j:=⟨h.id,h.ga,h.one,fun x a=>by have:=h.ju x a;omega,h.sy,h.ij,h.low,h.um,h.aj,h.live,h.run,h.vw,h.ends,h.pg,h.sk⟩
def Fd.idle (h:Fd vs n k j) (a:df j.lf.st=false):j.parts=[]:=by
 by_cases e:j.parts=[]
 .exact e
 .rw [h.live.2 e] at a;cases a
def Un (h:Fd vs n k j) {l:Lf} (f:Fc l j.sp.ae) (g:l.st=1\/l.st=2\/l.st=8) (e:List (Int×Int)) (d:e=[]):Ik vs n k ⟨j.id,j.sp,l,-1,[],e⟩:=by
 subst d;refine ⟨⟨h.id,h.ga,h.one,h.ju,h.sy,f,by simp,fun _=>rfl,fun c=>absurd c (by simp),?_,fun c=>?_,fun _=>by simp,fun a b=>?_,fun c=>absurd rfl c,fun p d=>by simp at d⟩,fun c=>absurd rfl c⟩
 .show df l.st=true↔([]:List (Int×Int))≠[];rw [L7];simp;omega
 .have:=L7.1 c;simp only at this;omega
 .simp only at a b;omega
def Att {s:Int} (h:Ik vs n k j) (h0:(Ay j.lf s).2=0) (g:s=6\/s=1\/s=2):Ik vs n k (L8 s j):=by
 obtain ⟨d,i⟩:=As4 h.ij h0 g;unfold L8;rcases i with ⟨h1,f⟩ | ⟨h1,f,l,m⟩
 .have e:df (j.move s).lf.st=true:=by show df (Ay j.lf s).1.st=true;rw [f];rfl
  rw [Ad e]
  exact ⟨⟨h.id,h.ga,h.one,h.ju,h.sy,d,h.low,h.um,h.aj,⟨fun _=>h.live.1 h1,fun _=>e⟩,fun _=>h.run h1,fun c=>by
   have c:(Ay j.lf s).1.st=2:=c
   omega,fun a b=>by
   have a:5<=(Ay j.lf s).1.st:=a
   omega,h.pg,h.sk⟩,h.vr⟩
 .rw [Ac (by show ¬ df (Ay j.lf s).1.st=true;rw [l];simp)];exact Un h.toFd d m j.parts (h.idle h1)
def Dm.mod (h:Dm vs js) {i:Nat} {f:Jb->Jb} (b:∀ j,js[i]?=some j->Ik vs js.length i (f j)):Dm vs (js.modify i f):=fun k j a=>by
 rw [Lp];rw [Fe] at a
 cases hk:js[k]? with
 | none=>
  rw [hk] at a;have a:(none:Option Jb)=some j:=a;cases a
 | some y=>
  rw [hk] at a;have a:some (if i=k then f y else y)=some j:=a;split at a
  .rename_i e;subst e;injection a with a;rw [<- a];simpa using b y hk
  .injection a with a;subst a;exact h k y hk
def F7.mod (h:F7 vs js) {i:Nat} {f:Jb->Jb} (b:∀ j,js[i]?=some j->Fd vs js.length i (f j)):F7 vs (js.modify i f):=fun k j a=>by
 rw [Lp];rw [Fe] at a
 cases hk:js[k]? with
 | none=>
  rw [hk] at a;have a:(none:Option Jb)=some j:=a;cases a
 | some y=>
  rw [hk] at a;have a:some (if i=k then f y else y)=some j:=a;split at a
  .rename_i e;subst e;injection a with a;rw [<- a];simpa using b y hk
  .injection a with a;subst a;exact h k y hk
def Aag (h:Dm vs js):Dm vs (Dw js):=by
 refine Ac7 (P:=Dm vs) (fun js k h f=>?_) h;have c:=f;unfold Gc;rw [Ad f];refine h.mod fun j g=>?_;unfold Gb at c;rw [g] at c;have i:dx j.lf.st=true:=(Eo _ _▸c).1;have d:=(h k j g).toFd;obtain ⟨a,b⟩:=Agf d.ij i (.inr rfl);exact Un d a (.inr (.inr b)) j.parts (d.idle (by rcases M5.1 i with e | e<;>rw [e]<;>rfl))
def Atu (h:Fd vs n k j):Ik vs n k (D4 j):=by
 unfold D4;split
 .rename_i c;refine ⟨h,fun e=>?_⟩;rcases c with c | c
  .exact absurd c e
  .exact c
 .rename_i c;have d:j.parts≠[]:=fun e=>c (.inl e);have f:=h.live.2 d;obtain ⟨a,b⟩:=As3 h.ij f;split
  .rename_i e;exact Un h a (.inl e) [] rfl
  .rename_i e;rcases b with b | ⟨i,l⟩
   .exact absurd b e
   .have g:df (Ay j.lf 8).1.st=false:=(by rw [I8];intro c;rw [L7] at c;omega);refine ⟨⟨h.id,h.ga,h.one,h.ju,h.sy,a,h.low,h.um,h.aj,⟨fun c=>?_,fun c=>absurd rfl c⟩,fun c=>?_,fun c=>?_,fun _ _=>h.run f,fun c=>absurd rfl c,fun p d=>by simp at d⟩,fun c=>absurd rfl c⟩
    .have c:df (Ay j.lf 8).1.st=true:=c;rw [g] at c;cases c
    .have c:df (Ay j.lf 8).1.st=true:=c;rw [g] at c;cases c
    .have c:(Ay j.lf 8).1.st=2:=c;omega
def Aah (h:F7 vs js):Dm vs (Is js):=by
 unfold Is;refine Aag fun k j a=>?_;rw [Ax];rw [Bx] at a;obtain ⟨y,b,rfl⟩:=Pm.1 a;exact Atu (h k y b)
def Agr (h:Fd vs n k j) {i:Nat} {p:Int×Int} (v:j.parts[i]?=some p) {g:Int} (h1:0<=g) (x:g<=3):Fd vs n k (Fi j i g):=by
 have m:j.parts≠[]:=fun e=>by rw [e] at v;simp at v
 have t:=h.live.2 m
 have y:(j.parts.modify i fun p=>(p.1,g)).map Prod.fst=j.parts.map Prod.fst:=by
  apply Ee;intro q;simp only [Bx,Fe]
  cases j.parts[q]? with
  | none=>rfl
  | some u=>
   simp only [J1]
   split<;>rfl
 have s:(j.parts.modify i fun p=>(p.1,g))≠[]:=fun e=>m (by
  have:=Ca List.length e;rw [Lp] at this
  exact Fw.1 this)
 have o:∀ l:Lf,Fc l j.sp.ae->df l.st=true->Fd vs n k ⟨j.id,j.sp,l,j.start,j.aj,j.parts.modify i fun p=>(p.1,g)⟩:=fun l a b=>by
  refine ⟨h.id,h.ga,h.one,h.ju,h.sy,a,h.low,h.um,h.aj,⟨fun _=>s,fun _=>b⟩,fun _=>h.run t,fun c=>?_,fun c d=>?_,fun _=>y.trans (h.pg m),fun q z=>?_⟩
  .have c:l.st=2:=c;have:=L7.1 b;omega
  .have c:5<=l.st:=c;have:=L7.1 b;omega
  .obtain ⟨r,f⟩:=Dr z;rw [Fe] at f
   cases hu:j.parts[r]? with
   | none=>
    rw [hu] at f;have f:(none:Option (Int×Int))=some q:=f;cases f
   | some u=>
    rw [hu] at f;have f:some (if i=r then (u.1,g) else u)=some q:=f;split at f
    .injection f with f;subst f;exact ⟨h1,x⟩
    .injection f with f;subst f;exact h.sk u (Aj hu)
 unfold Fi P2;split
 .obtain ⟨a,b,_⟩:=Aab h.ij t (.inl rfl);exact o _ a (by rw [b];rfl)
 split
 .obtain ⟨a,b,_⟩:=Aab h.ij t (.inr (.inl rfl));exact o _ a (by rw [b];rfl)
 .exact o _ h.ij t
def Atv {j:Jb} {a m:Int} {i:Nat} (h:Gd j a m=some i):∃ p,j.parts[i]?=some p/\p.1=m/\p.2=0:=by
 unfold Gd at h;split at h
 .obtain ⟨c,b,_⟩:=Xp.1 h;simp at b;exact ⟨_,Am c,b.1,b.2⟩
 .cases h
def Atw {e:bz} (h:Fd vs n k j) (h1:0<=e.bj) (a:e.bj<=3):Fd vs n k (L9 e j):=by
 unfold L9;split
 .exact h
 .rename_i i b;obtain ⟨p,c,_⟩:=Atv b;exact Agr h c h1 a
def Ags (a:Int) (m:Nat) (h:Fd vs n k j):Fd vs n k (It j a m):=by
 induction m with
 | zero=>exact h
 | succ m ih=>
  show Fd vs n k (Ov (It j a m) m a);unfold Ov;split
  .exact ih
  .rename_i p b;split
   .exact Agr ih b (by decide) (by decide)
   .exact ih
def F7.map (_h:F7 vs js) {f:Jb->Jb} (b:∀ k j,js[k]?=some j->Fd vs js.length k (f j)):F7 vs (js.map f):=fun k j a=>by
 rw [Ax];rw [Bx] at a;obtain ⟨y,c,rfl⟩:=Pm.1 a;exact b k y c
def Agt (h:Dm vs js) (tick:Int):Dm vs (Cc tick js):=by
 unfold Cc;refine Aah (h.b.map fun k j a=>?_);unfold If;split
 .exact Ags _ _ (h k j a).toFd
 .exact (h k j a).toFd
def Atx (h:Dm vs js) (m:Int):Dm vs (Is (js.map fun j=>Fj j m)):=Aah (h.b.map fun k j a=>Ags _ _ (h k j a).toFd)
def Aty {s:dp} (h:C7 s vs=0):C7 { s with array:=1,after:=[] } vs=0:=by
 have b:=Kn h;have a:Di { s with array:=1,after:=[] }=true:=by obtain ⟨a1,a2,a3,g,c,d,e,i,f⟩:=Iu b;unfold Di;simp only [a1,a2,a3,c,d,e,f,Bool.true_and,Bool.and_true];decide
 unfold C7 at h ⊢;rw [Ac (by rw [b];simp)] at h;rw [Ac (by rw [a];simp)];exact h
def Atz {s:dp} (h:C7 s vs=0) (l:List Int) (e:∀ x,x∈l->1<=x/\x<=(n:Int)) (f:l.length<=160):Ik vs n k (N4 s l ((k:Int)+1)):=by
 obtain ⟨_,_,_,_,_,_,_,_,g⟩:=Iu (Kn h);obtain ⟨i,j⟩:=Ib.1 g;obtain ⟨a,b⟩:=Asz (h:=s.held) i j;have o:=M5.1 b;refine ⟨⟨rfl,Aty (s:=s) h,rfl,e,f,a,by simp [N4],fun _=>rfl,fun c=>absurd c (by simp [N4]),⟨fun c=>?_,fun c=>absurd rfl c⟩,fun c=>?_,fun _=>by simp [N4],fun c d=>?_,fun c=>absurd rfl c,fun p m=>by simp [N4] at m⟩,fun c=>absurd rfl c⟩
 .have c:df (J3 s.ae s.held).1.st=true:=c;rw [L7] at c;omega
 .have c:df (J3 s.ae s.held).1.st=true:=c;rw [L7] at c;omega
 .have c:5<=(J3 s.ae s.held).1.st:=c;omega
def Uo (vs:List ax) (n:Nat) (js:List Jb):Prop:=∀ k j,js[k]?=some j->Ik vs n k j
def Ik.more (h:Ik vs n k j) {m:Nat} (a:n<=m):Ik vs m k j:=⟨h.toFd.more a,h.vr⟩
def Agu {s:dp} (h:C7 s vs=0) (l:List Int) (d:∀ x,x∈l->1<=x/\x<=(n:Int)) (f:l.length<=160) (g:Uo vs n js):∀ q,Uo vs n (Iw s l js q)
 | 0=>g
 | q+1=>fun k j a=>by
  have i:=Agu h l d f g q;replace a:(Iw s l js q++[N4 s l ((js.length+q+1:Nat):Int)])[k]?=some j:=a;rw [List.getElem?_append] at a;split at a
  .exact i k j a
  .rename_i c;rw [Wr] at c a
   cases e:k-(js.length+q) with
   | zero=>
    rw [e] at a;have b:N4 s l ((js.length+q+1:Nat):Int)=j:=by simpa using a
    have:k=js.length+q:=by omega
    clear a;subst this;subst b;have:=Atz (n:=n) (k:=js.length+q) h l d f;have o:((js.length+q+1:Nat):Int)=((js.length+q:Nat):Int)+1:=(by push_cast;rfl);rw [o];exact this
   | succ m=>
    rw [e] at a;simp at a
def Agv:∀ (l:List (dp×List Int)),(∀ p,p∈l->C7 p.1 vs=0/\(∀ x,x∈p.2->1<=x/\x<=(n:Int))/\p.2.length<=160)->∀ js,Uo vs n js->Uo vs n (Ev l js)
 | [],_,_,h=>h
 | p :: l,hp,js,h=>by
  obtain ⟨a,b,c⟩:=hp p E2;exact Agv l (fun q d=>hp q (D1 _ d)) _ (Agu a p.2 b c h _)
def Aai:∀ (l:List (dp×List Int)),(∀ p,p∈l->1<=p.1.array)->∀ js:List Jb,((Ev l js).length:Int)=(js.length:Int)+El (l.map fun p=>p.1.array)
 | [],_,js=>by simp [Ev,El]
 | p :: l,hp,js=>by
  have h1:=Aai l (fun q a=>hp q (D1 _ a)) (Iw p.1 p.2 js p.1.array.toNat);have b:=hp p E2;show ((Ev l (Iw p.1 p.2 js p.1.array.toNat)).length:Int)=_;rw [h1,Wr];have e:El ((p :: l).map fun p=>p.1.array)=p.1.array+El (l.map fun p=>p.1.array):=by unfold El;rw [J2,List.foldl_cons,Ws];omega
  rw [e];omega
def Aaj {n:Nat} {l:List dp} (h:(B5 vs n l).2=0):(∀ s,s∈l->C7 s vs=0)/\(n:Int)+Ie l<=100/\B5 vs n l=E0 ((n:Int)+1) (l.map fun s=>s.array) (l.map fun s=>s.after):=by
 unfold B5 at h ⊢
 cases hf:l.find? fun s=>decide (C7 s vs≠0) with
 | some s=>
  rw [hf] at h;have:=S2 hf;simp at this;exact absurd h this
 | none=>
  rw [hf] at h;simp only at h ⊢;refine ⟨fun s a=>?_,?_⟩
  .have:=Q8.1 hf s a;simpa using this
  .split
   .rename_i c;rw [Ad c] at h;cases h
   .exact ⟨by omega,rfl⟩
def Up (l:List dp):Ie l=El (l.map fun s=>s.array):=rfl
def Aak {α β:Type}:∀ {l:List α} {m:List β},l.length=m.length->(l.zip m).map Prod.fst=l
 | [],[],_=>rfl
 | [],_ :: _,h=>by simp at h
 | _ :: _,[],h=>by simp at h
 | a :: l,b :: m,h=>by
  simp only [List.zip_cons_cons,J2];rw [Aak (by simpa using h)]
def Agw {t:di} {l:List dp} (h:Dm vs t.ab) (h0:(B5 vs t.ab.length l).2=0):Dm vs (Js vs t l).1.ab/\(Js vs t l).1.ab.length<=100:=by
 obtain ⟨h1,h2,o⟩:=Aaj h0;rw [o] at h0;obtain ⟨v,r2,y,u,z⟩:=Aaf h0;rw [Ax] at v y;have f:=Aai (l.zip (B5 vs t.ab.length l).1) (fun p q=>(u p.1.array (Bd.2 ⟨p.1,(List.of_mem_zip q).1,rfl⟩)).1) t.ab
 have r:(l.zip (B5 vs t.ab.length l).1).map (fun p=>p.1.array)=l.map fun s=>s.array:=by
  rw [o];have:=Aak (l:=l) (m:=(E0 ((t.ab.length:Int)+1) (l.map fun s=>s.array) (l.map fun s=>s.after)).1) (by omega)
  conv=>rhs;rw [<- this]
  rw [Du];rfl
 rw [r,<- Up] at f;obtain ⟨X,g⟩:=Ex (Ev (l.zip (B5 vs t.ab.length l).1) t.ab);rw [<- g] at f
 have i:Uo vs X.length X:=by
  rw [g];refine Agv _ (fun p q=>?_) _ (fun k j hj=>?_)
  .obtain ⟨a,b⟩:=List.of_mem_zip q;rw [o] at b;obtain ⟨c,l0,d,e⟩:=z p.2 b;refine ⟨h1 p.1 a,fun x hx=>?_,?_⟩
   .have:=c x hx;rw [<- Up] at this;rw [<- g];omega
   .obtain ⟨s,hs,rfl⟩:=Bd.1 d;obtain ⟨_,_,_,q4,_⟩:=Iu (Kn (h1 s hs));have:=Vf q4;omega
  .refine (h k j hj).more ?_;rw [<- g]
   have:0<=Ie l:=by
    rw [Up];have:=(Ul (l.map fun s=>s.array) (fun n hn=>(u n hn).1) (l.map fun s=>s.array).length).2
    rwa [On] at this
   omega
 refine ⟨?_,?_⟩
 .show Dm vs (Dw (Ev (l.zip (B5 vs t.ab.length l).1) t.ab));rw [<- g];exact Aag i
 .show (Dw (Ev (l.zip (B5 vs t.ab.length l).1) t.ab)).length<=100;rw [<- g,Yz];omega
end Go.Proofs.YtimlcnhcjndijaaGreatDoor
namespace Go.Proofs.YtimlcnhcjndijaaGreatDoor
open Go.RowKit Go.Maps Go.Lib
def An.wh {w:World} {T:Tv} (h:An w T):∃ b cap,w.cell? ⟨T.tb,4,none⟩=some (.slice b T.js.length cap):=by
 have a:=Bk h.head 4 T.jv rfl;rcases h.ab.2 with ⟨e,h0⟩ | ⟨g,cap,c,e,_⟩
 .exact ⟨none,0,by rw [a,e,h0]⟩
 .exact ⟨_,_,by rw [a,e]⟩
def Av4 (l:List dp) (s:dp):Ie (l++[s])=Ie l+s.array:=by
 simp [Ie,Ds,Ms]
structure xy (w:World) (r:Int) (v:Value) (wx:World):Prop where
 v:v=.int .i64 r
 low:Below w.heap.size w wx
def Cx.le {w:World} {B B' g cap:Nat} {c:List Value} {d:List (List Int)} (h:Cx w B g cap c d) (e:B'<=B):Cx w B' g cap c d:=
 ⟨Joins.ownsRow_le h.row e,fun i f l a b=>(h.each i f l a b).le e,h.two,h.rk⟩
def I5.len {w:World} {B:Nat} {v:Value} {l:List Value} (h:I5 w B v l):∃ so n c,v=.slice so n c/\n=l.length:=by
 rcases h.row.2 with ⟨rfl,h0⟩ | ⟨g,cap,a,rfl,_⟩
 .exact ⟨none,0,0,rfl,h0.symm⟩
 .exact ⟨_,_,_,rfl,rfl⟩
def Aat {w:World} {T:Tv} (h:An w T) (a5:Ir T.vs) (hj:T.js.length<=1000000) (so:Option Addr) (n sc:Nat) (xs:List au) (hs:Kc w so n xs) (hn:n<=1000) :
  Calls Tryz.prog 58 #[.pointer (some ⟨T.tb,0,none⟩),.slice so n sc] w (Gp (B5 T.vs T.js.length (xs.map au.pl)) w):=by
 obtain ⟨jo,jc,c4⟩:=h.wh;have c5:=Bk h.head 5 (.pointer (some ⟨T.fb,0,none⟩)) rfl;have ap:=hs.len;have hf:=h.dj.vi;have aW:=Ab h.head;obtain ⟨m,hm⟩:=Ex (T.js.length);obtain ⟨tb,ht⟩:=Ex (T.tb);obtain ⟨vs,bg⟩:=Ex (T.vs);rw [<- ht] at c4 c5 aW;rw [<- hm] at c4 hj;rw [<- bg] at hf a5;rw [<- hm,<- ht,<- bg];clear hm ht bg h;have bi:Below w.heap.size w w:=Below.refl _ _;have bk:=Ak.nil w w.heap.size;have bl:=I5.nil w w.heap.size;have bn:IntKind.i64.wrap ((m:Int)+1)=(m:Int)+1:=F5 (by omega) (by omega);replace ⟨a5,hs,ap,hf,bi,bk,bl,aW⟩:=H8 a5 hs ap hf bi bk bl aW;replace bn:=Hh bn;go_enter Tryz.func58,Tryz.ntmps58;go_wp2_with fail;go_loopw [6,7,8,10,11,20] (fun v6 v7 v8 _ _ iv wr=>∃ (i:Nat) (o:Int),iv=.int .i64 i/\i<=n/\v6=.int .i64 o/\Hid (o=(m:Int)+Ie ((xs.map au.pl).take i))/\Hid ((m:Int)<=o/\o<=m+20*(i:Int))/\Hid (Below w.heap.size w wr)/\Hid (Ak wr w.heap.size v7 ((xs.take i).map fun x=>x.pl.array))/\Hid (I5 wr w.heap.size v8 (Mm (xs.take i)))/\Hid (∀ (k:Nat) (x:au),k<i->xs[k]?=some x->C7 x.pl vs=0)) (fun _ _ _ _ _ iv _=>n-(intOf iv).toNat)
 case atStart=>exact ⟨0,m,rfl,Av _,rfl,Hh (by simp [Ie]),Hh ⟨by omega,by omega⟩,bi,bk,bl,Hh (fun k x hk=>by omega)⟩
 case round=>
  obtain ⟨i,o,rfl,b7,rfl,bc,bW,hb,hS,hR,hK⟩:=hrel;obtain ⟨bM,n7,c7,rfl,av⟩:=hS.out.len;obtain ⟨bN,n8,c8,rfl,aA⟩:=hR.out.len;by_cases hc:i<n
  .have bX:(i:Int)<n:=(by omega);have b8:(0:Int)<=(i:Int):=(by omega);obtain ⟨x,hx⟩:∃ x,xs[i]?=some x:=⟨_,Am (by have:=ap.out;omega)⟩;obtain ⟨b,p,rfl,bs,aX,aY⟩:=hs.out.cell i x hx;have bv:=aY.low hb.out;have aQ:=J7 hx;obtain ⟨r,hr⟩:=Ex (C7 x.pl vs);have d:=fun j hj=>(Ag hb.out bs).trans (aX j hj)
   have aZ:r≠0->B5 vs m (xs.map au.pl)=([],r):=fun e=>by
    rw [hr];refine Ate (i:=i) (fun k y hk hy=>?_) (by rw [Bx,hx];rfl) (by rw [<- hr];exact e);rw [Bx] at hy;obtain ⟨z,hz,rfl⟩:=Pm.1 hy;exact hK.out k z hk hz
   have bw:=fun e=>Kn (hr.symm.trans e)
   have bx:r=0->∀ (k:Nat) (x:au),k<i+1->xs[k]?=some x->C7 x.pl vs=0:=fun e k z hk hz=>by
    by_cases q:k=i
    .subst q;rw [hx] at hz;injection hz with hz;subst hz;exact hr.symm.trans e
    .exact hK.out k z (by omega) hz
   have aB:(m:Int)+Ie ((xs.map au.pl).take (i+1))=o+x.pl.array:=(by rw [J7 (x:=x.pl) (by rw [Bx,hx];rfl),Av4,bc.out];omega);have aC:(xs.take (i+1)).map (fun x=>x.pl.array)=(xs.take i).map (fun x=>x.pl.array)++[x.pl.array]:=(by rw [aQ,Ds];rfl);have aD:Mm (xs.take (i+1))=Mm (xs.take i)++[.slice x.so x.n x.c]:=(by rw [aQ];simp [Mm]);have bA:=hf.out.below hb.out;have a6:=fun W (h:Below wr.heap.size wr W)=>Alz (bA.below h) a5.out x (bv.low h);simp only [<- hr] at a6;obtain ⟨⟨aE,aF,nodes,⟨da,db,dc,dd⟩,aG,aH,array,ae,aI,after⟩,ad,sn,al⟩:=x;replace aB:(m:Int)+Ie ((xs.map au.pl).take (i+1))=o+array:=aB;replace aC:(xs.take (i+1)).map (fun x=>x.pl.array)=(xs.take i).map (fun x=>x.pl.array)++[array]:=aC;replace aD:Mm (xs.take (i+1))=Mm (xs.take i)++[.slice ad sn al]:=aD;have z0:wr.cell? ⟨b,p+i*13,none⟩=some (.string aE):=d 0 (by omega);have z1:wr.cell? ⟨b,p+i*13+1,none⟩=some (.string aF):=d 1 (by omega);have z2:wr.cell? ⟨b,p+i*13+2,none⟩=some (.int .i64 nodes):=d 2 (by omega);have z3:wr.cell? ⟨b,p+i*13+3,none⟩=some (.int .i64 da):=d 3 (by omega);have z4:wr.cell? ⟨b,p+i*13+4,none⟩=some (.int .i64 db):=d 4 (by omega);have z5:wr.cell? ⟨b,p+i*13+5,none⟩=some (.int .i64 dc):=d 5 (by omega);have z6:wr.cell? ⟨b,p+i*13+6,none⟩=some (.int .i64 dd):=d 6 (by omega);have z7:wr.cell? ⟨b,p+i*13+7,none⟩=some (.int .i64 aG):=d 7 (by omega);have z8:wr.cell? ⟨b,p+i*13+8,none⟩=some (.int .i64 aH):=d 8 (by omega);have z9:wr.cell? ⟨b,p+i*13+9,none⟩=some (.int .i64 array):=d 9 (by omega);have bY:wr.cell? ⟨b,p+i*13+10,none⟩=some (.int .i64 ae):=d 10 (by omega);have bZ:wr.cell? ⟨b,p+i*13+11,none⟩=some (.bool aI):=d 11 (by omega);have b0:wr.cell? ⟨b,p+i*13+12,none⟩=some (.slice ad sn al):=d 12 (by omega);replace ⟨aX,d,bs,aY,bv,aQ,hr,aZ⟩:=H8 aX d bs aY bv aQ hr aZ;replace ⟨bw,bx,aB,aC,aD,bA,a6,hx⟩:=H8 bw bx aB aC aD bA a6 hx;replace ⟨av,aA⟩:=H2 av aA;go_upto_region 7 with fail;clear z0 z1 z2 z3 z4 z5 z6 z7 z8 z9 bY bZ b0;obtain ⟨s,bB⟩:=Ex (wr.heap.size);obtain ⟨W1,a7⟩:=Ex (wr.alloc (.cells (⟨⟨aE,aF,nodes,⟨da,db,dc,dd⟩,aG,aH,array,ae,aI,after⟩,ad,sn,al⟩:au).cells 33 (0,0)));have am:Below wr.heap.size wr W1:=(by rw [a7];exact Bn);have aR:W1.heap[s]?=some (.cells (⟨⟨aE,aF,nodes,⟨da,db,dc,dd⟩,aG,aH,array,ae,aI,after⟩,ad,sn,al⟩:au).cells 33 (0,0)):=(by rw [a7,bB];exact Af _ _);rw [<- a7,<- bB];clear a7 bB;have t:=hb.out.trans (am.mono hb.out.size);have a0:=fun W (h:Below W1.heap.size W1 W)=>a6.out W (am.trans (h.mono am.size))
   have bC:∀ f:World,Below W1.heap.size W1 f->f.cell? ⟨tb,5,none⟩=some (.pointer (some ⟨T.fb,0,none⟩))/\f.cell? ⟨s,0,none⟩=some (.string aE)/\f.cell? ⟨s,1,none⟩=some (.string aF)/\f.cell? ⟨s,2,none⟩=some (.int .i64 nodes)/\f.cell? ⟨s,3,none⟩=some (.int .i64 da)/\f.cell? ⟨s,4,none⟩=some (.int .i64 db)/\f.cell? ⟨s,5,none⟩=some (.int .i64 dc)/\f.cell? ⟨s,6,none⟩=some (.int .i64 dd)/\f.cell? ⟨s,7,none⟩=some (.int .i64 aG)/\f.cell? ⟨s,8,none⟩=some (.int .i64 aH)/\f.cell? ⟨s,9,none⟩=some (.int .i64 array)/\f.cell? ⟨s,10,none⟩=some (.int .i64 ae)/\f.cell? ⟨s,11,none⟩=some (.bool aI)/\f.cell? ⟨s,12,none⟩=some (.slice ad sn al):=fun f h=>by
    have u:=Ae h aR (Ab aR);exact ⟨(Ag (t.trans (h.mono t.size)) aW.out).trans c5,Aa u 0,Aa u 1,Aa u 2,Aa u 3,Aa u 4,Aa u 5,Aa u 6,Aa u 7,Aa u 8,Aa u 9,Aa u 10,Aa u 11,Aa u 12⟩
   have ac:Below W1.heap.size W1 W1.drew:=(Below.refl _ _).drew;replace ⟨am,aR,t,a0,bC,ac⟩:=H6 am aR t a0 bC ac;go_cut [11] (fun rv wx=>xy W1 r rv wx)
   case first=>
    go_region_held3 (fun f=>f.cell? ⟨tb,5,none⟩=some (.pointer (some ⟨T.fb,0,none⟩))/\f.cell? ⟨s,0,none⟩=some (.string aE)/\f.cell? ⟨s,1,none⟩=some (.string aF)/\f.cell? ⟨s,2,none⟩=some (.int .i64 nodes)/\f.cell? ⟨s,3,none⟩=some (.int .i64 da)/\f.cell? ⟨s,4,none⟩=some (.int .i64 db)/\f.cell? ⟨s,5,none⟩=some (.int .i64 dc)/\f.cell? ⟨s,6,none⟩=some (.int .i64 dd)/\f.cell? ⟨s,7,none⟩=some (.int .i64 aG)/\f.cell? ⟨s,8,none⟩=some (.int .i64 aH)/\f.cell? ⟨s,9,none⟩=some (.int .i64 array)/\f.cell? ⟨s,10,none⟩=some (.int .i64 ae)/\f.cell? ⟨s,11,none⟩=some (.bool aI)/\f.cell? ⟨s,12,none⟩=some (.slice ad sn al))
     (first
       | with_reducible exact bC.out _ ac.out)
     (first
       | (go_at_call 98
          (with_reducible refine (a0.out _ ac.out).mono ?_)
          rintro e wz ⟨rfl,bO⟩;replace ac:=Hh (ac.out.trans (bO.mono ac.out.size))
          clear bO))
    all_goals
     go_wp2_with fail;go_meet
     case rel=>exact ⟨rfl,ac.out⟩
   case rest=>
   obtain ⟨rfl,aL⟩:=hcut;have a:=t.out.trans (aL.mono t.out.size);have aM:=Ae aL aR.out (Ab aR.out);have aS:=am.out.trans (aL.mono am.out.size);by_cases q:r=0;rotate_left
   .have q2:(r != 0)=true:=(by simpa using q);replace ⟨a,aM,aS,aL,q⟩:=H5 a aM aS aL q;go_wp2_with fail;exact Ao (v:=.tuple #[.slice none 0 0,.int .i64 r]) (by simp [results,Tryz.results58,go_sem]) rfl (Gp.bad (aZ.out q.out) q.out a.out)
   subst q;obtain ⟨_,_,_,q4,_,_,_,q8,_⟩:=Iu (bw.out rfl);obtain ⟨b1,b2⟩:=Ib.1 q8;replace b1:1<=array:=b1;replace b2:array<=20:=b2;have bP:=bW.out;have b9:IntKind.i64.wrap (o+array)=o+array:=F5 (by omega) (by omega);have bQ:Hid ((m:Int)<=o+array/\o+array<=m+20*((i+1:Nat):Int)):=Hh ⟨by omega,by omega⟩;have x9:=Bk aM 9 (.int .i64 array) rfl;have hA:=(Below.refl wc.heap.size wc).alloc Ln (.cells #[.int .i64 array] 3 (0,0));have s7:=(hS.out.mod (Mod.af (S:=fun _=>False) aS) (fun _ _ c=>c)).mod (Mod.af (S:=fun _=>False) hA) (fun _ _ c=>c);have s8:(wc.alloc (.cells #[.int .i64 array] 3 (0,0))).cell? ⟨wc.heap.size,0,none⟩=some (.int .i64 array):=Aa (Af _ _) 0;have s9:=A6 a.size hA.size;have r7:=(hR.out.mod (Mod.af (S:=fun _=>False) aS) (fun _ _ c=>c)).mod (Mod.af (S:=fun _=>False) hA) (fun _ _ c=>c);have a8:=Ae hA aM (Ab aM);have aN:=a.trans (hA.mono a.size);have bD:n7<=1000000000:=(by have:=av.out;rw [Ax,Ff] at this;omega);have bE:n8<=1000000000:=(by have:=aA.out;simp [Mm] at this;omega);clear bP;replace ⟨a,aM,aS,aL,q4,q8,b1,b2⟩:=H8 a aM aS aL q4 q8 b1 b2;replace ⟨hA,s7,s8,s9,r7,a8,aN,bD⟩:=H8 hA s7 s8 s9 r7 a8 aN bD;replace bE:=Hh bE;go_upto_region 12 with (at_builtin;refine Mk rfl _ _ rfl w.heap.size n7 _ rfl s7.out av.out.symm ⟨wc.heap.size,0,none⟩ 1 rfl array s8.out bD.out s9.out ?_;intro g7 b4 w7 h7 a9 bR;replace ⟨h7,a9,bR⟩:=H3 h7 a9 bR);clear x9;have bF:=Mod.grown (S:=fun k=>(Value.slice bM n7 c7).ownBlock=some k) a9.out (fun k hk=>hk);have bG:=bF.aq a8.out (fun e=>B2 s7.out.row a8.out (by decide) e)
   have bS:=r7.out.mod bF (fun k hk e=>by
    obtain ⟨c,hc,_⟩:=C1 r7.out.row hk
    exact B2 s7.out.row hc (by decide) e)
   have an:=aN.out.grown a9.out s9.out (fun k hk=>(s7.out.lt k hk).1);have b3:=Bk bG 12 (.slice ad sn al) rfl;have hB:=(Below.refl w7.heap.size w7).alloc Ln (.cells #[.slice ad sn al] 31 (0,0));have t7:=bS.mod (Mod.af (S:=fun _=>False) hB) (fun _ _ c=>c);have t8:(w7.alloc (.cells #[.slice ad sn al] 31 (0,0))).cell? ⟨w7.heap.size,0,none⟩=some (.slice ad sn al):=Aa (Af _ _) 0;have t9:=A6 an.size hB.size;have u7:=h7.out.mod (Mod.af (S:=fun _=>False) hB) (fun _ _ c=>c);have aO:=an.trans (hB.mono an.size);clear bF bS;replace ⟨bG,an,hB,t7,t8,t9,u7,aO⟩:=H8 bG an hB t7 t8 t9 u7 aO;go_upto_region 13 with (at_builtin;refine Atd rfl _ _ rfl w.heap.size n8 _ rfl t7.out aA.out.symm ⟨w7.heap.size,0,none⟩ 1 rfl ad sn al t8.out bE.out t9.out ?_;intro g8 b5 w8 h8 ba bT;replace ⟨h8,ba,bT⟩:=H3 h8 ba bT);clear b3;have bU:=Mod.grown (S:=fun k=>(Value.slice bN n8 c8).ownBlock=some k) ba.out (fun k hk=>hk)
   have u8:=u7.out.mod bU (fun k hk e=>by
    obtain ⟨c,hc,_⟩:=C1 u7.out.row hk
    exact B2 t7.out.row hc (by decide) e)
   have aP:=aO.out.grown ba.out t9.out (fun k hk=>(t7.out.lt k hk).1);have u9:=h8.out;rw [<- aC.out] at u8;rw [<- aD.out] at u9;have bV:=Hh aB.out.symm;have bH:=bx.out rfl;clear bU;replace ⟨u8,u9,aP,bH⟩:=H4 u8 u9 aP bH;go_wp2_with fail;go_roundw
   case rel=>exact ⟨i+1,o+array,by go_num,by omega,by go_num,bV,bQ,aP,u8,u9,bH⟩
   case measure=>simp [intOf];omega
  .have bX:¬ (i:Int)<n:=(by omega);have a1:xs.take i=xs:=Dn (by have:=ap.out;omega);have aJ:(xs.map au.pl).take i=xs.map au.pl:=Dn (by rw [Ax];have:=ap.out;omega)
   have aK:∀ (k:Nat) (y:dp),k<(xs.map au.pl).length->(xs.map au.pl)[k]?=some y->C7 y vs=0:=fun k y hk hy=>by
    rw [Bx] at hy;obtain ⟨z,hz,rfl⟩:=Pm.1 hy;exact hK.out k z (by rw [Ax] at hk;have:=ap.out;omega) hz
   have ao:=Atf (n:=m) aK;have aT:=bc.out;rw [aJ] at aT;rw [<- aT] at ao;have aU:=hS.out;have aV:=hR.out;rw [a1] at aU aV;by_cases q:o > 100
   .rw [Ad q] at ao;replace ⟨ao,aT,aU,aV,a1,aJ,aK,av⟩:=H8 ao aT aU aV a1 aJ aK av;replace aA:=Hh aA;go_wp2_with fail;exact Ao (v:=.tuple #[.slice none 0 0,.int .i64 140]) (by simp [results,Tryz.results58,go_sem]) rfl (Gp.bad ao.out (by decide) hb.out)
   rw [Ac q] at ao
   have bb:∀ x,x∈xs->x.pl.after.length<=8:=fun x hx=>by
    obtain ⟨k,hk⟩:=Dr hx;obtain ⟨_,_,_,q4,_⟩:=Iu (Kn (hK.out k x (by have:=(Aq.1 hk).1;have:=ap.out;omega) hk));exact Vf q4
   have a2:∀ x,x∈xs->x.ok wr:=fun x hx=>by
    obtain ⟨k,hk⟩:=Dr hx;obtain ⟨_,_,_,_,_,ho⟩:=hs.out.cell k x hk;exact ho.low hb.out
   obtain ⟨bd,bI⟩:=aV.rows a2 (by have:=ap.out;omega) (fun x hx=>by have:=bb x hx;omega);obtain ⟨ca,n9,c9,e9,be,bJ,_⟩:=P6 aU;injection e9 with e9 e9b e9c;subst e9 e9b e9c
   have a3:=Av3 ((m:Int)+1) bM n7 c7 (xs.map fun x=>x.pl.array) bN n8 c8 (xs.map fun x=>x.pl.after) wr bJ bI (fun l hl=>by
    obtain ⟨x,hx,rfl⟩:=Bd.1 hl;have:=bb x hx
    omega)
   rw [Du,Du] at ao;have bf:B5 vs m (xs.map au.pl)=E0 ((m:Int)+1) (xs.map fun x=>x.pl.array) (xs.map fun x=>x.pl.after):=ao;rw [<- bf] at a3;obtain ⟨R,a4⟩:=Ex (B5 vs m (xs.map au.pl));rw [<- a4] at a3;rw [<- a4];have cb:=(Ag hb.out aW.out).trans c4;have b6:=bn.out;clear ao bf;replace ⟨aT,aU,aV,a1,aJ,aK,av,aA⟩:=H8 aT aU aV a1 aJ aK av aA;replace ⟨a3,a4,bb,a2,bI,bd,bJ,be⟩:=H8 a3 a4 bb a2 bI bd bJ be;go_wp2_with (go_at_call 99;(with_reducible refine (a3.out).mono ?_);rintro e w1 ⟨v,rfl,bK,bL,am⟩;replace ⟨bK,bL,am⟩:=H3 bK bL am);refine Ao (v:=.tuple #[v,.int .i64 R.2]) (by simp [results,Tryz.results58,go_sem]) rfl ?_;rw [<- a4.out];refine ⟨v,rfl,bK.out,fun e=>?_,hb.out.trans (am.out.mono hb.out.size)⟩;obtain ⟨g,s2,e1,e2⟩:=bL.out e;exact ⟨g,s2,e1,e2.le hb.out.size⟩
end Go.Proofs.YtimlcnhcjndijaaGreatDoor
