/- Parts of a proof. No condition. -/
import Derived.Test.YtimlcnhcjndijaaGreatDoorJ37
import Derived.Test.YtimlcnhcjndijaaGreatDoorJ41
set_option linter.all false
set_option maxRecDepth 100000
set_option maxHeartbeats 1600000
namespace Go.Proofs.YtimlcnhcjndijaaGreatDoor
open Option renaming some->O,none->I
section
open Go.RowKit Go.Maps Go.Lib
variable{tick u:Int}{j:Jb}{zs:List Int}{vs:List ar}
def Gf (j:Jb):Bool:=decide (j.lf.st=1) && decide (0<=j.start)
def Jy:Gf j=true↔j.lf.st=1/\0<=j.start:=by simp[Gf]
def Tt  (h:j.lf.st≠1\/j.start<0):Gf j=false:=by
 cases c:Gf j with
 | false=>rfl
 | true=>
  have:=Jy.1 c;omega
def Ji (i:Nat) (u:Int) (j:Jb):V4:=if u<En j then R1 i j else V4.zero
def K4 (i:Nat) (u:Int) (j:Jb):V4:=if Gf j=true then Pl.gg j.ah j.start (j.start+(j.sp.wall+8)) j.sp.df i u else V4.zero
def Fj (i:Nat) (u:Int) (j:Jb):V4:=Pl.Aq (Ji i u j) (K4 i u j)
def Ae4  {fr b:Int} {v:V4} (a:V4.zero.leq v) (i:Nat) (u:Int):V4.zero.leq (Pl.gg zs fr b v i u):=by
 unfold Pl.gg;split
 .exact a
 .exact Jh _
def A4j  (h:V4.zero.leq j.sp.df) (i:Int):V4.zero.leq (R1 i j):=by
 have:=Z1 (As (eo i j)) h;rw[Aek]at this;exact this
def Ae5  (h:V4.zero.leq j.sp.df) (i:Nat) (u:Int):V4.zero.leq (Ji i u j):=by
 unfold Ji;split
 .exact A4j h _
 .exact Jh _
def Aog  (h:V4.zero.leq j.sp.df) (i:Nat) (u:Int):V4.zero.leq (K4 i u j):=by
 unfold K4;split
 .exact Ae4 h i u
 .exact Jh _
def Z6  (h:∀i,eo i j=0) (i:Nat) (u:Int):Ji i u j=V4.zero:=by
 unfold Ji R1;rw[h,Aek]
 split<;>rfl
def V9  (h:Gf j=false) (i:Nat) (u:Int):K4 i u j=V4.zero:=by
 unfold K4;rw[Ac (by rw[h];simp)]
def R3  (h:j.parts=[]) (i:Int):eo i j=0:=by
 unfold eo;rw[h];rfl
structure ig (x y:Jb):Prop where
 sp:x.sp=y.sp
 eo:∀i,eo i x<=eo i y
 start:-1<=y.start->-1<=x.start/\x.start<=y.start
 tq:Gf x=true->Gf y=true/\x.start=y.start/\x.ah=y.ah
def ig.refl (x:Jb):ig x x:=⟨rfl,λ_=>Nat.le_refl _,λh=>⟨h,Dc _⟩,λh=>⟨h,rfl,rfl⟩⟩
def ig.trans {x y z:Jb} (h:ig x y) (k:ig y z):ig x z:=
 ⟨h.sp.trans k.sp,λi=>A8 (h.eo i) (k.eo i),λa=>by
  have h1:=k.start a;have j:=h.start h1.1
  omega,λa=>by
  obtain⟨b,c,d⟩:=h.tq a;obtain⟨e,f,g⟩:=k.tq b
  exact⟨e,c.trans f,d.trans g⟩⟩
def ig.use {x y:Jb} (h:ig x y) (a:V4.zero.leq y.sp.df) (f:-1<=y.start) (i:Nat) (u:Int):(Fj i u x).leq (Fj i u y):=by
 refine Nr ?_ ?_
 .have h1:=h.start f;have g:En x<=En y:=by unfold En;rw[h.sp];omega
  unfold Ji;split
  .rw [Ad ao9];unfold R1;rw[h.sp];exact Z1 (h.eo _) a
  .exact Ae5 a i u
 .unfold K4;split
  .rename_i c;obtain⟨b,d,e⟩:=h.tq c;rw[Ad b,d,e,h.sp];exact Jh _
  .exact Aog a i u
structure fj (a b:List Jb):Prop where
 len:b.length<=a.length
 each:∀(k:Nat) (x:Jb),a[k]?=O x->(∃y,b[k]?=O y/\ig x y)\/(b[k]?=I/\(∀i,eo i x=0)/\x.start=-1)
def fj.refl (a:List Jb):fj a a:=⟨Nat.le_refl _,λ_ x b=>.inl ⟨x,b,ig.refl x⟩⟩
def fj.trans {a b c:List Jb} (h:fj a b) (k:fj b c):fj a c:=by
 refine⟨A8 k.len h.len,λn x g=>?_⟩;rcases h.each n x g with⟨y,j,d⟩|⟨f,h0⟩
 .rcases k.each n y j with⟨z,l,e⟩|⟨f,h0,h1⟩
  .exact .inl ⟨z,l,d.trans e⟩
  .refine .inr ⟨f,λi=>by have:=d.eo i;have:=h0 i;omega,?_⟩;have:=d.start ao9;omega
 .refine .inr ⟨?_,h0⟩;rw[Wf]at f ⊢;have:=k.len;omega
def fj.modify (l:List Jb) (k:Nat) {f:Jb->Jb} (b:∀j,ig (f j) j):fj (l.modify k f) l:=by
 refine⟨by rw[Ic];exact Nat.le_refl _,λn x a=>?_⟩;rw[Dj]at a
 cases hl:l[n]? with
 | none=>rw[hl]at a;cases a
 | some y=>
  rw[hl]at a;have a:O (if k=n then f y else y)=O x:=a;injection a with a;refine .inl ⟨y,rfl,?_⟩;by_cases e:k=n
  .rw [Ad e]at a;rw[<-a];exact b y
  .rw [Ac e]at a;rw[<-a];exact ig.refl y
def fj.map (l:List Jb) {f:Jb->Jb} (b:∀j,ig (f j) j):fj (l.map f) l:=by
 refine⟨by rw[Ar];exact Nat.le_refl _,λn x a=>?_⟩;rw[A7]at a;obtain⟨y,c,rfl⟩:=K5.1 a;exact .inl ⟨y,c,b y⟩
def fj.snoc {a b:List Jb} (h:fj a b) {x:Jb} (f:x.parts=[]) (e:x.start=-1):fj (a++[x]) b:=by
 refine⟨by rw[Cn];have:=h.len;omega,λn y d=>?_⟩;by_cases c:n<a.length
 .rw [Fb c]at d;exact h.each n y d
 .rw [Ia ao9]at d;have h0:n-a.length=0:=by have:=(An.1 d).1;simp at this;omega
  rw[h0]at d;injection d with d;subst d;refine .inr ⟨?_,R3 f,e⟩;rw[Wf];have:=h.len;omega
def Z7 (i:Nat) (u:Int):∀(b a:List Jb),fj a b->(∀j,j∈b->V4.zero.leq j.sp.df/\-1<=j.start)->(Dw (a.map (Fj i u))).leq (Dw (b.map (Fj i u)))
 | [],[],_,_=>Jh _
 | [],x :: a,h,hd=>by
  obtain⟨h0,h1⟩:(∀i,eo i x=0)/\x.start=-1:=by
   rcases h.each 0 x rfl with⟨y,d,_⟩|⟨_,c⟩
   .cases d
   .exact c
  have f:=Z7 i u [] a ⟨As _,λk y d=>.inr ⟨rfl,by
   rcases h.each (k+1) y d with⟨y,d,_⟩|⟨_,c⟩
   .cases d
   .exact c⟩⟩ hd
  show(Pl.Aq (Pl.Aq (Ji i u x) (K4 i u x)) (Dw (a.map (Fj i u)))).leq _;rw[Z6 h0,V9 (Tt (.inr ao9)),Pl.Pc,Pl.Pc];exact f
 | y :: b,[],h,_=>absurd h.len as9
 | y :: b,x :: a,h,hd=>by
  have m:ig x y:=by
   rcases h.each 0 x rfl with⟨z,e,c⟩|⟨c,_⟩
   .injection e with e;rw[e];exact c
   .cases c
  have f:=Z7 i u b a ⟨by have:=h.len;simpa using this,λk z e=>h.each (k+1) z e⟩ λj l=>hd j (B2 _ l);obtain⟨h1,g⟩:=hd y Ci;exact Nr (m.use h1 g i u) f
def Wa {l:Lf} {s:Int} (a:s=3\/s=4\/s=5):(Ay l s).1.st≠1:=by
 unfold Ay;split
 .show (0:Int)≠1;decide
 split
 .split
  .rename_i c;unfold Dz at c ⊢;rcases a with rfl|rfl|rfl
   .by_cases q:l.st=1
    .simp [q]
    .simp [q]at c
   .simp at c
   .simp at c
  .show (0:Int)≠1;decide
 split
 .split
  .rename_i c;unfold Du at c ⊢;rcases a with rfl|rfl|rfl
   .simp at c
   .simp
   .simp
  .show (0:Int)≠1;decide
 .show (0:Int)≠1;decide
def Ae6 {x y:Jb} (b:x.sp=y.sp) (a:x.parts=y.parts\/x.parts=[]) (c:x.start=-1):ig x y:=
 ⟨b,λi=>by
  rcases a with e|e
  .unfold eo;rw[e];exact Nat.le_refl _
  .rw [R3 e];exact As _,λh=>by omega,λh=>by
  have:=Jy.1 h
  omega⟩
def Ae7 {x y:Jb} (b:x.sp=y.sp) (a:∀i,eo i x<=eo i y) (c:x.start=y.start) (h1:x.lf.st≠1):ig x y:=
 ⟨b,a,λh=>by omega,λh=>absurd (Jy.1 h).1 h1⟩
def A4k (js:List Jb) (k:Nat):fj (E7 js k) js:=by
 unfold E7;split
 .exact fj.modify _ _ λj=>Ae6 rfl (.inl rfl) rfl
 .exact fj.refl _
def Ae8 (js:List Jb):∀n,fj (Co js n).1 js
 | 0=>fj.refl _
 | n+1=>(A4k _ n).trans (Ae8 js n)
def Aoh:∀(n:Nat) (js:List Jb),fj (I2 n js) js
 | 0,js=>fj.refl _
 | n+1,js=>by
  unfold I2;split
  .exact (Aoh n _).trans (Ae8 js _)
  .exact Ae8 js _
def Z8 (js:List Jb):fj (C2 js) js:=Aoh _ _
def A4l (j:Jb):ig (Do j) j:=by
 unfold Do;split
 .exact ig.refl _
 split
 .exact Ae6 rfl (.inr rfl) rfl
 .rename_i c;exact Ae7 rfl (λi=>by rw[R3 rfl];exact As _) rfl c
def Ae9 (js:List Jb):fj (Gk js) js:=(Z8 _).trans (fj.map _ A4l)
def Aoi (j:Jb) (k:Nat) {b:Int} (h:b≠0):ig (Em j k b) j:=by
 have c:=(A2i j k h).2;by_cases q:b=2\/b=3
 .refine Ae7 rfl c rfl ?_;show(N1 b j.lf).st≠1;unfold N1;rcases q with rfl|rfl
  .exact Wa (.inr (.inl rfl))
  .exact Wa (.inr (.inr rfl))
 .have e:Em j k b=⟨j.id,j.sp,j.lf,j.start,j.ah,j.parts.modify k λp=>(p.1,b)⟩:=by unfold Em N1;rw[Ac ao9,Ac ao9]
  rw[e]at c ⊢;exact⟨rfl,c,λa=>⟨a,Dc _⟩,λa=>⟨a,rfl,rfl⟩⟩
def Aoj (j:Jb) (a:Int):∀n,ig (Fq j a n) j
 | 0=>ig.refl _
 | n+1=>by
  refine ig.trans ?_ (Aoj j a n);show ig (Kr (Fq j a n) n a) _;unfold Kr;split
  .exact ig.refl _
  split
  .exact Aoi _ _ ad9
  .exact ig.refl _
def Aok (j:Jb) (a:Int):ig (E8 j a) j:=Aoj j a _
def A4m (tick:Int) (js:List Jb):fj (Ck tick js) js:=(Ae9 _).trans (fj.map _ λj=>by
 unfold Et;split
 .exact Aok j _
 .exact ig.refl _)
def A4n (s:Int) (j:Jb):ig (Ik s j) j:=by
 unfold Ik;split
 .rename_i c;refine Ae7 rfl (λi=>Nat.le_refl _) rfl ?_;have:=I3.1 c;omega
 .exact Ae6 rfl (.inl rfl) rfl
def A4o {e:dm} (h:e.bq≠0) (j:Jb):ig (I6 e j) j:=by
 unfold I6;split
 .exact ig.refl _
 .exact Aoi _ _ h
def Aol (s:du) (a:List Int) (js:List Jb):∀n,fj (F6 s a js n) js
 | 0=>fj.refl _
 | n+1=>(Aol s a js n).snoc rfl rfl
def Aom:∀(l:List (du×List Int)) (js:List Jb),fj (Es l js) js
 | [],_=>fj.refl _
 | _ :: l,_=>(Aom l _).trans (Aol _ _ _ _)
def A4p  {t:dq} {e:dy} (b:e.n.kind≠6) (a:e.n.kind=7->e.n.bq≠0):fj (cq vs t e).1.ab t.ab:=by
 unfold cq;split
 .exact fj.refl _
 split
 .exact (Z8 _).trans (Aom _ _)
 split
 .rename_i c;exact(Ae9 _).trans (fj.modify _ _ (A4o (a c)))
 split
 .unfold Md;split
  .exact (Ae9 _).trans (fj.map _ λj=>Aok j _)
  split
  .exact fj.refl _
  .exact fj.refl _
 .exact (Z8 _).trans (fj.modify _ _ (A4n _))
def Aon (f g:Jb->V4):∀js:List Jb,Dw (js.map λj=>Pl.Aq (f j) (g j))=Pl.Aq (Dw (js.map f)) (Dw (js.map g))
 | []=>by simp[Dw,Pl.Aq,V4.zero]
 | j :: js=>by
  show Pl.Aq (Pl.Aq (f j) (g j)) (Dw (js.map λj=>Pl.Aq (f j) (g j)))=Pl.Aq (Pl.Aq (f j) (Dw (js.map f))) (Pl.Aq (g j) (Dw (js.map g)));rw[Aon f g js];simp only[Pl.Aq,V4.mk.injEq];omega
def Aoo (g:Jb->V4) {f:Jb->Jb} {d:V4} (a:V4.zero.leq d):∀(js:List Jb) (k:Nat),(∀j,js[k]?=O j->(g (f j)).leq (Pl.Aq (g j) d))->(Dw ((js.modify k f).map g)).leq (Pl.Aq (Dw (js.map g)) d)
 | [],k,_=>by
  have e:([]:List Jb).modify k f=[]:=by cases k<;>rfl
  rw[e];show V4.zero.leq (Pl.Aq V4.zero d);rw[Pl.Pc];exact a
 | j :: js,0,h=>by
  show(Pl.Aq (g (f j)) (Dw (js.map g))).leq (Pl.Aq (Pl.Aq (g j) (Dw (js.map g))) d);rw[Pl.Vc,Pl.Aj7 (Dw _) d,<-Pl.Vc];exact Nr (h j rfl) (Jh _)
 | j :: js,k+1,h=>by
  show(Pl.Aq (g j) (Dw ((js.modify k f).map g))).leq (Pl.Aq (Pl.Aq (g j) (Dw (js.map g))) d);rw[Pl.Vc];exact Nr (Jh _) (Aoo g a js k h)
def A4q  {i:Nat} (h:Pl.Bx zs zs.length i):(i:Int)∈zs:=by
 obtain⟨k,b,e⟩:=h;have a:Pl.zi zs k=zs[k]:=by simp[Pl.zi,List.getD,b]
 rw[<-e,a];exact J1 _
def A4r  {i:Int} (h:i∈zs):1<=(zs.filter λz=>decide (z=i)).length:=
 Aaj (F3.2 ⟨h,as9⟩)
def Aop {a u:Int} (g:a<=u) (i:Nat):∀(js:List Jb),(∀j,j∈js->V4.zero.leq j.sp.df/\(j.live=true->a<En j)) ->
  (Pl.D2 a ((Ce js).map Fy) i u).leq (Dw (js.map (Ji i u)))
 | [],_=>Jh _
 | j :: js,hd=>by
  obtain⟨h1,b⟩:=hd j Ci;have d:=Aop g i js λj f=>hd j (B2 _ f);by_cases c:j.live=true
  .have e:Ce (j :: js)=((j.parts.filter λp=>decide (p.2=0)).map Prod.fst,j.sp.df,En j)::Ce js:=(by unfold Ce;rw[Km,Ad c];rfl);rw[e];refine Nr ?_ d;show(Pl.gg ((j.parts.filter λp=>decide (p.2=0)).map Prod.fst) a (max (En j) (a+1)) j.sp.df i u).leq (Ji i u j);unfold Pl.gg;split
   .rename_i q;have b:=b c;unfold Ji R1;rw[Ad ao9,Anf];have:=Z1 (A4r (A4q q.1)) h1;rw[Ana]at this;exact this
   .exact Ae5 h1 i u
  .have e:Ce (j :: js)=Ce js:=(by unfold Ce;rw[Km,Ac c]);rw[e];show(Pl.D2 a ((Ce js).map Fy) i u).leq (Pl.Aq (Ji i u j) (Dw (js.map (Ji i u))));have:=Nr (Ae5 h1 i u) d;rw[Pl.Pc]at this;exact this
def A4s   (h1:j.lf.st=1) (i:Nat) (u:Int):Pl.Kj (Cu vs j) i u=K4 i u j:=by
 unfold Pl.Kj K4;by_cases c:0<=j.start
 .rw [Ad (show 0<=(Cu vs j).start from c),Ad (Jy.2 ⟨h1,c⟩)];rfl
 .rw [Ac (show ¬0<=(Cu vs j).start from c),Ac (by rw[Tt (.inr ao9)];simp)];rfl
def Aoq {α β:Type} [DecidableEq β] (f:α->β) (b:β):∀l:List α,(l.map f).Nodup->(l.filter λx=>decide (f x=b))=[]\/∃x,(l.filter λx=>decide (f x=b))=[x]/\x∈l/\f x=b
 | [],_=>.inl rfl
 | x :: l,h=>by
  have d:=Sc.1 h;rw[Km];by_cases c:f x=b
  .have e:(l.filter λx=>decide (f x=b))=[]:=by
    rw[List.filter_eq_nil_iff];intro y a q;apply d.1;have q:f y=b:=(by simpa using q);rw[c,<-q];exact F1 a
   rw[Ad (by simpa using c),e];exact .inr ⟨x,rfl,Ci,c⟩
  .rw [Ac (by simpa using c)];rcases Aoq f b l d.2 with e|⟨y,e,a,q⟩
   .exact .inl e
   .exact .inr ⟨y,e,B2 _ a,q⟩
def Aor {vs:List ar} (i:Nat) (u:Int):∀(js:List Jb) (A:List Pl.Ask),(js.map Jb.id).Nodup->(A.map λa=>a.id).Nodup->(∀a,a∈A->∃j,j∈js/\a=Cu vs j/\j.lf.st=1)->(∀j,j∈js->V4.zero.leq j.sp.df) ->
  (Pl.Gd A i u).leq (Dw (js.map (K4 i u)))
 | [],A,_,_,hA,_=>by
  have e:A=[]:=by
   cases A with
   | nil=>rfl
   | cons a A=>
    obtain⟨j,h,_⟩:=hA a Ci;cases h
  rw[e];exact Jh _
 | j :: js,A,hn,hi,hA,hd=>by
  have d:=Sc.1 hn;have n:(A.filter (λa=>decide (a.id=j.id))++A.filter λa=>!decide (a.id=j.id)).Perm A:=List.filter_append_perm _ _;have l:Pl.Gd A=Pl.Ak (Pl.Gd (A.filter λa=>decide (a.id=j.id))) (Pl.Gd (A.filter λa=>!decide (a.id=j.id))):=by rw[<-Pl.Ae3];exact(Pl.A4e (n.map Pl.Kj)).symm
  rw[l];refine Nr ?_ (Aor (vs:=vs) i u js _ d.2 (hi.sublist (List.filter_sublist.map _)) (λa f=>?_) λj h=>hd j (B2 _ h))
  .rcases Aoq (λa:Pl.Ask=>a.id) j.id A hi with e|⟨a,e,f,q⟩
   .rw [e];exact Aog (hd j Ci) i u
   .rw [e];obtain⟨z,k,rfl,h1⟩:=hA a f
    have m:z=j:=by
     rcases Fm.1 k with c|c
     .exact c
     .refine absurd ?_ d.1;have q:z.id=j.id:=q;rw[<-q];exact F1 c
    subst m
    have:Pl.Gd [Cu vs z]=Pl.Kj (Cu vs z):=by show Pl.Ak (Pl.Kj (Cu vs z)) Pl.mr=_;exact Pl.Lo _
    rw[this,A4s h1];exact Jh _
  .obtain ⟨g,b⟩:=F3.1 f;obtain⟨z,k,e,h1⟩:=hA a g;rcases Fm.1 k with c|c
   .subst c;rw[e]at b;have:(!decide ((Cu vs z).id=z.id))=true:=b;simp[Cu]at this
   .exact ⟨z,c,e,h1⟩
def Afa {vs:List ar} {a u:Int} (f:a<=u) (i:Nat):∀(js:List Jb),(∀j,j∈js->V4.zero.leq j.sp.df/\(j.live=false->j.parts=[])) ->
  (∀h,h∈(Ce js).map Fy->Pl.Cy (vs.map ar.cap).length h.dn)->(Dw ((js.map B8).map (Fj i u))).leq (Pl.D2 a ((Ce js).map Fy) i u)
 | [],_,_=>Jh _
 | j :: js,hd,hg=>by
  obtain⟨h1,k⟩:=hd j Ci
  have l:Gf (B8 j)=false:=by
   refine Tt ?_;unfold B8;split
   .exact .inr (by show(-1:Int)<0;decide)
   .rename_i c;exact .inl c
  by_cases c:j.live=true
  .have e:Ce (j :: js)=((j.parts.filter λp=>decide (p.2=0)).map Prod.fst,j.sp.df,En j)::Ce js:=(by unfold Ce;rw[Km,Ad c];rfl);rw[e]at hg ⊢;have g:=Afa f i js (λj d=>hd j (B2 _ d)) (λh o=>hg h (B2 _ o));have b:=hg _ Ci;refine Nr ?_ g;have n:B8 j=j:=(by unfold B8;rw[Ac];have:=I3.1 c;omega);show(Pl.Aq (Ji i u (B8 j)) (K4 i u (B8 j))).leq (Pl.gg ((j.parts.filter λp=>decide (p.2=0)).map Prod.fst) a (max (En j) (a+1)) j.sp.df i u);rw[V9 l,Pl.Lm,n];unfold Ji;split
   .unfold R1;rw[Anf];exact Ane (A2j b) h1 i f ao9
   .exact Ae4 h1 i u
  .have c:j.live=false:=(by simpa using c);have e:Ce (j :: js)=Ce js:=(by unfold Ce;rw[Km,Ac (by rw[c];simp)]);rw[e]at hg ⊢;have g:=Afa f i js (λj d=>hd j (B2 _ d)) hg;show(Pl.Aq (Pl.Aq (Ji i u (B8 j)) (K4 i u (B8 j))) (Dw ((js.map B8).map (Fj i u)))).leq _
   have m:(B8 j).parts=[]:=by
    unfold B8;split
    .exact k c
    .exact k c
   rw[V9 l,Z6 (R3 m),Pl.Pc,Pl.Pc];exact g
def Afb {x:Pl.Ask×Pl.Ax} (a:V4.zero.leq x.1.v) (i:Nat) (u:Int):V4.zero.leq (Pl.G7 x i u):=by
 unfold Pl.G7;split
 .exact Ae4 a i u
 .exact Jh _
def A4t  (h0:0<=tick) (m:tick<=u) (i:Nat) {x:Pl.Ask×Pl.Ax}  (d:V4.zero.leq x.1.v) (k:x.2.dn.Pairwise (·<·)) (f:j.sp.df=x.1.v) (g:x.1.aa=j.sp.wall+8) (a:j.parts=[]) (l:j.start=-1) :
  (Fj i u (Eu tick x.2.start x.2.dn j)).leq (Pl.Aq (Fj i u j) (Pl.G7 x i u)):=by
 have h:Fj i u j=V4.zero:=by unfold Fj;rw[Z6 (R3 a),V9 (Tt (.inr ao9)),Pl.Lm]
 rw[h,Pl.Pc];unfold Eu;split
 .rename_i e;unfold Fj;rw[V9 (Tt (.inl (Wa (.inl rfl)))),Pl.Lm];unfold Ji;split
  .rename_i c;have c:u<x.2.start+8+j.sp.wall:=c;unfold R1;rw[A2l,R3 a,Db];show(Pm _ j.sp.df).leq _;rw[f];unfold Pl.G7;rw[Ad ao9,g];exact Ane k d i ao9 ao9
  .exact Afb d i u
 .have b:(⟨j.id,j.sp,j.lf,x.2.start,x.2.dn,j.parts⟩:Jb).parts=[]:=a;unfold Fj;rw[Z6 (R3 b),Pl.Pc];unfold K4;split
  .rename_i c;have c:=(Jy.1 c).2;have c:0<=x.2.start:=c;unfold Pl.G7;rw[Ad c,g,<-f];exact Jh _
  .exact Afb d i u
def Aos {tick u:Int} (h0:0<=tick) (l:tick<=u) (i:Nat):∀(P:List (Pl.Ask×Pl.Ax)) (js:List Jb),(P.map λx=>x.2.id).Nodup->(∀x,x∈P->1<=x.2.id/\V4.zero.leq x.1.v/\x.2.dn.Pairwise (·<·)/\∀j,js[(x.2.id-1).toNat]?=O j->j.sp.df=x.1.v/\x.1.aa=j.sp.wall+8/\j.parts=[]/\j.start=-1) ->
  (Dw ((F7 tick (P.map λx=>x.2.key) js).map (Fj i u))).leq (Pl.Aq (Dw (js.map (Fj i u))) (Pl.Vf P i u))
 | [],js,_,_=>by
  show(Dw (js.map (Fj i u))).leq (Pl.Aq (Dw (js.map (Fj i u))) V4.zero);rw[Pl.Lm];exact Jh _
 | x :: P,js,hn,h=>by
  obtain⟨h1,m,hr,t⟩:=h x Ci;have k:=Sc.1 hn
  have ih:=Aos h0 l i P (C9 js x.2.id (Eu tick x.2.start x.2.dn)) k.2 λy n=>by
   obtain⟨a,b,c,d⟩:=h y (B2 _ n);refine⟨a,b,c,λj g=>d j ?_⟩;unfold C9 at g;rw[Dj]at g
   cases hl:js[(y.2.id-1).toNat]? with
   | none=>rw[hl]at g;cases g
   | some z=>
    rw[hl]at g;have g:O (if (x.2.id-1).toNat=(y.2.id-1).toNat then Eu tick x.2.start x.2.dn z else z)=O j:=g;rw[Ac]at g
    .exact g
    .intro q;apply k.1;have e:x.2.id=y.2.id:=ao9;show x.2.id∈P.map λx=>x.2.id;rw[e];exact F1 (f:=λx:Pl.Ask×Pl.Ax=>x.2.id) n
  have hm:(Dw ((C9 js x.2.id (Eu tick x.2.start x.2.dn)).map (Fj i u))).leq (Pl.Aq (Dw (js.map (Fj i u))) (Pl.G7 x i u)):=by refine Aoo (Fj i u) (Afb m i u) js _ λj g=>?_;obtain⟨o,p,r,s⟩:=t j g;exact A4t h0 l i m hr o p r s
  show(Dw ((F7 tick (P.map λx=>x.2.key) (C9 js x.2.id (Eu tick x.2.start x.2.dn))).map (Fj i u))).leq (Pl.Aq _ (Pl.Aq (Pl.G7 x i u) (Pl.Vf P i u)));rw[<-Pl.Vc];exact Tq ih (Nr hm (Jh _))
end
end Go.Proofs.YtimlcnhcjndijaaGreatDoor
namespace Go.Proofs.YtimlcnhcjndijaaGreatDoor
open Option renaming some->O,none->I
namespace Pl
variable{a:Ask}{bs bs':List Bool}{zs:List Int}{n:Nat}
def A4u {vs:List V4} {c:Int}  {hh:List Av} {L:List Ask} (l:Ob vs bs.length c) (hg:∀h,h∈hh->Cy vs.length h.dn/\Bb c (Im c h) h.v=true)
  (hw:∀y,y∈L->Ts vs bs c y) (n:∀i,i<vs.length->∀u,0<=u->u<1099511627776->(Ak (D2 c hh) (Gd L) i u).leq (vv vs i)) :
  (∀r q,I9 vs bs.length c hh r q->r=0)/\∀f,Jv vs c bs hh L f->∀(i:Nat) (y:Ask) (s:Ax),L[i]?=O y->f[i]?=O s->0<=y.start->0<=s.start/\s.start<=y.start:=by
 have aG:=l.lo;have aT:=l.hi;refine⟨λr q h=>A4f l hg (λi hi u a b=>Akc (Aoe hw) (n i hi u a b)) h,?_⟩;intro f aH i y s hy hs h0;obtain⟨ps,q1,q2,st,rd,hl,hk,ad,hr,j,av⟩:=aH.go;obtain⟨_,k0,hg⟩:=Ve hl;obtain⟨k1,ap⟩:=Td hk k0
 have aK:∀x,x∈st->x.1∈L:=λx k=>by rw[<-ad];exact A5.2 ⟨x,k,rfl⟩
 have o:=λx k=>hw _ (aK x k)
 obtain⟨x,k⟩:∃x,rd[i]?=O x:=by
  have h1:=(An.1 hs).1;have h2:rd.length=f.length:=by rw[<-av];simp
  exact⟨rd[i]'(by omega),A3 _⟩
 have aN:x.2=s:=by
  have:(rd.map Prod.snd)[i]?=O s:=by rw[av];exact hs
  rw[A7,k]at this;simpa using this
 have g:st[i]?=O x.1:=by rw[<-j,A7,k];rfl
 have aO:x.1.1=y:=by
  have:(st.map Prod.fst)[i]?=O y:=by rw[ad];exact hy
  rw[A7,g]at this;simpa using this
 obtain⟨⟨e,b⟩,s'⟩:=x;have e1:e=y:=aO;have e2:s'=s:=aN;subst e1 e2;have aL:=o _ (Ai g);rcases aL with c0|⟨w1,w2,w3,w4,w5,w6⟩
 .have:e.start<0:=c0;omega
 have al:e.can=true:=w1;have aU:c<=e.start:=w2;have aQ:e.start<1099511627776:=w3;have aB:Ga bs e e.dn:=w4;have aC:Cy vs.length e.dn:=w5;have am:Bb e.start (e.start+e.aa) e.v=true:=w6;have ao:Dx c e=e.start:=by unfold Dx;omega
 have an:Mg e.start e.aa=e.start+e.aa:=by obtain⟨_,_,s3,_⟩:=Lp am;unfold Mg;rw[Ac ao9]
 have hb:b=true:=by
  have aJ:=Aof g;rw[aJ]at hk;obtain⟨m,m',g1,g2,_⟩:=Ada hk;obtain⟨km,_⟩:=Td g1 k0;rcases g2 with⟨d,_⟩|⟨_,d,_⟩|⟨_,_,r,hT,aI⟩
  .have:e.start<0:=d;omega
  .refine absurd ⟨al,?_,?_,?_⟩ d
   .show c<=Dx c e;omega
   .show Dx c e<=_;omega
   .exact aB
  .refine aI.2 ?_;have aE:=hT.1;have aF:Kw m e.dn e.start (e.start+e.aa) e.v r m':=(by rw[<-an,<-ao];exact aE);refine Aj8 km aC am (λi' p u a b'=>?_) aF;refine V4.leq.trans ?_ (n i' p u a b');rw[G6];refine Ae2 (l8.refl _) ?_ i' u;have aP:(st.map Prod.fst).take (i+1)=(st.take i).map Prod.fst++[e]:=by rw[<-List.map_take,Oa g];simp
   have aA:Gd L=Ak (Ak (Gd ((st.take i).map Prod.fst)) (Kj e)) (Gd (L.drop (i+1))):=by
    conv=>lhs;rw[<-Mn (i+1) L,Ae3]
    rw[<-ad,aP,Ae3];congr 2;simp[Gd,Bw,Lo]
   rw[aA];refine l8.trans (Ae2 (A4i (bs:=bs) (vs:=vs) (λx k=>o x (T9 k)) (λx k aM=>(ap x (T9 k) aM).start)) ?_) (A4c (Aoe λz hz=>hw z (Wl hz)));unfold Kj;rw[Ad h0];exact l8.refl _
 subst hb;have ac:=Aof k;rw[ac]at hr;have ek:Ak (D2 c hh) (Bw (st.map (Bh c)))=Ak (D2 c hh) (Od c ((rd.take i++((e,true),s')::rd.drop (i+1)).map Prod.fst)):=by rw[<-ac,j];rfl
 obtain⟨uu,m,q',g1,g2,_,g4⟩:=Aw2 aG hr (k1.gr ek) (Y8 hg) (λz hz hb=>ap z.1 (by rw[<-ac]at hz;rw[<-j];exact A5.2 ⟨z,hz,rfl⟩) hb);rcases g4 with⟨d,_⟩|⟨_,t,xs,is,hR,d1,d2⟩
 .have d':e.can=false:=d;rw[al]at d';cases d'
 .have aD:Bh c ((e,true),s').1=gg e.dn e.start (e.start+e.aa) e.v:=by simp only[Bh,Ad,ao]
  obtain⟨f1,f2⟩:=A4g g2 (λi' p u a b'=>by
   have:=g1.le (by rw[g1.len];exact p) a b';rw[aD]at this
   exact this) aB al aC am l.j8 ao9 aQ hR
  subst f1;have aS:=hR.found.ge;have h2:=(d2 rfl).1;have aR:s'.start=t:=h2;exact⟨ao9,ao9⟩
def A4v   (c:bs.length<=bs'.length) (b:∀i,bi bs i=true->bi bs' i=true)  (h:n∈ji bs zs):n∈ji bs' zs:=by
 unfold ji Mh at *;obtain⟨h1,a⟩:=F3.1 h;have h1:=Ot.1 h1;unfold Pb at a;rw[Da]at a;refine F3.2 ⟨Ot.2 ao9,?_⟩;unfold Pb;rw[Da];exact⟨b _ a.1,a.2⟩
def Ga.mono    (h:Ga bs a zs) (c:bs.length<=bs'.length) (d:∀i,bi bs i=true->bi bs' i=true):Ga bs' a zs:=by
 refine⟨λi b=>?_,h.aw,h.len⟩;obtain⟨n,f,e⟩:=A5.1 (h.od i b);exact A5.2 ⟨n,A4v c d f,e⟩
def A4w    (h:n∈ji bs zs):n<bs.length:=by
 unfold ji Mh at h;exact Ot.1 (F3.1 h).1
def Ga.ah    (h:Ga bs a zs) (d:0<a.nodes):Cy bs.length zs:=by
 have f:=h.len
 have c:∀i,i<zs.length->∃n:Nat,zi zs i=(n:Int)/\n<bs.length:=λi b=>by
  obtain⟨n,d,e⟩:=A5.1 (h.od i b);exact⟨n,e.symm,A4w d⟩
 refine⟨ao9,λi b=>?_,λi b=>?_,h.aw⟩
 .obtain ⟨n,e,_⟩:=c i b;omega
 .obtain ⟨n,e,_⟩:=c i b;omega
end Pl
def A4x {l:Lf} (h:dz l.st=true):cu (Ay l 7).1.st=false/\dz (Ay l 7).1.st=false:=by
 unfold Ay;split
 .exact ⟨rfl,rfl⟩
 have e:Dz l 7=(⟨8,l.bh,l.left,l.wall,l.stop⟩,true):=by unfold Dz;simp
 rw[e];exact⟨rfl,rfl⟩
def A4y {l:Lf} (h:cu l.st=false):cu (Ay l 6).1.st=false/\dz (Ay l 6).1.st=false:=by
 unfold Ay;split
 .exact ⟨rfl,rfl⟩
 split
 .have e:Dz l 6=(⟨8,l.bh,l.left,l.wall,l.stop⟩,true):=by unfold Dz;simp
  rw[e];exact⟨rfl,rfl⟩
 rw[h];exact⟨rfl,rfl⟩
structure pz (a b:List Jb):Prop where
 len:a.length=b.length
 each:∀(k:Nat) (x:Jb),a[k]?=O x->∃y,b[k]?=O y/\(x=y\/(dz y.lf.st=true/\x.parts=y.parts/\cu x.lf.st=false/\dz x.lf.st=false/\x.start=-1))
def pz.refl (a:List Jb):pz a a:=⟨rfl,λ_ x b=>⟨x,b,.inl rfl⟩⟩
def pz.trans {a b c:List Jb} (h:pz a b) (k:pz b c):pz a c:=⟨h.len.trans k.len,λn x g=>by
 obtain⟨y,i,r⟩:=h.each n x g;obtain⟨z,d,s⟩:=k.each n y i;rcases r with rfl|⟨e,j,l,m,o⟩
 .exact ⟨z,d,s⟩
 .rcases s with rfl|⟨_,_,_,f,_⟩
  .exact ⟨y,d,.inr ⟨e,j,l,m,o⟩⟩
  .rw [e]at f
   cases f⟩
def A4z (js:List Jb) (k:Nat):pz (E7 js k) js:=by
 unfold E7;split
 .rename_i b;refine⟨Ic ..,λn x a=>?_⟩;rw[Dj]at a
  cases hl:js[n]? with
  | none=>rw[hl]at a;cases a
  | some y=>
   rw[hl]at a;have a:O (if k=n then(y.move 7).bare else y)=O x:=a;injection a with a;refine⟨y,rfl,?_⟩;by_cases e:k=n
   .subst e;rw[Ad rfl]at a;unfold Gj at b;rw[hl]at b;simp only[Da]at b;have c:dz y.lf.st=true:=b.1;obtain⟨d,f⟩:=A4x c;rw[<-a];exact .inr ⟨c,rfl,d,f,rfl⟩
   .rw [Ac e]at a;exact .inl a.symm
 .exact pz.refl _
def Afc (js:List Jb):∀n,pz (Co js n).1 js
 | 0=>pz.refl _
 | n+1=>(A4z _ n).trans (Afc js n)
def Aot:∀(n:Nat) (js:List Jb),pz (I2 n js) js
 | 0,js=>pz.refl _
 | n+1,js=>by
  unfold I2;split
  .exact (Aot n _).trans (Afc js _)
  .exact Afc js _
def Aou (js:List Jb):pz (C2 js) js:=Aot _ _
structure Tu (p j:Jb):Prop where
 parts:j.parts=[]
 zj:(j.lf.st=1/\j.start=p.start/\j.lf.bh=p.lf.bh)\/(cu j.lf.st=false/\dz j.lf.st=false/\j.start<0)
def Tu.live {p j:Jb} (h:Tu p j):cu j.lf.st=false:=by
 rcases h.zj with⟨a,_⟩|⟨a,_⟩
 .rw [a];rfl
 .exact a
def E3 (p:Jb) (js:List Jb):Prop:=∃j,js[(p.id-1).toNat]?=O j/\Tu p j
def E3.ve {p:Jb} {js:List Jb} (h:E3 p js):E3 p (C2 js):=by
 obtain⟨j,c,e⟩:=h;have b:=Aou js;have d:(p.id-1).toNat<(C2 js).length:=by rw[b.len];exact(An.1 c).1
 obtain⟨y,a,r⟩:=b.each _ _ (A3 d);rw[c]at a;injection a with a;subst a;refine⟨_,A3 d,?_⟩;rcases r with r|⟨_,f,g,i,k⟩
 .rw [r];exact e
 .exact ⟨f.trans e.parts,.inr ⟨g,i,ao9⟩⟩
def E3.map {p:Jb} {js:List Jb} (h:E3 p js) {f:Jb->Jb} (b:∀j,Tu p j->f j=j):E3 p (js.map f):=by
 obtain⟨j,c,a⟩:=h;exact⟨f j,by rw[A7,c];rfl,by rw[b j a];exact a⟩
def E3.settle {p:Jb} {js:List Jb} (h:E3 p js):E3 p (Gk js):=(h.map λj a=>by
 unfold Do
 rw[Ad (.inl a.parts)]).ve
def E3.late {p:Jb} {js:List Jb} (h:E3 p js) (tick:Int):E3 p (Ck tick js):=(h.map λj a=>by
 unfold Et Jb.live;rw[Ac];rw[a.live]
 simp).settle
def E3.mod {p:Jb} {js:List Jb} (h:E3 p js) (k:Nat) {f:Jb->Jb} (b:k=(p.id-1).toNat->∀j,Tu p j->Tu p (f j)):E3 p (js.modify k f):=by
 obtain⟨j,c,a⟩:=h;refine⟨if k=(p.id-1).toNat then f j else j,by rw[Dj,c];rfl,?_⟩;split
 .rename_i e;exact b e j a
 .exact a
def Aov {p:Jb} (s:du) (a:List Int) {js:List Jb} (h:E3 p js):∀n,E3 p (F6 s a js n)
 | 0=>h
 | n+1=>by
  obtain⟨j,b,c⟩:=Aov s a h n;exact⟨j,by show(F6 s a js n++[_])[_]?=O j;rw[Fb (An.1 b).1];exact b,c⟩
def Aow {p:Jb}:∀(l:List (du×List Int)) {js:List Jb},E3 p js->E3 p (Es l js)
 | [],_,h=>h
 | x :: l,_,h=>Aow l (Aov x.1 x.2 h _)
def A40 {vs:List ar} {t:dq} {e:dy} {p:Jb} (h:E3 p t.ab) (s:1<=p.id) (i:V5 vs t e) (q:e.n.kind≠6) (o:e.n.kind≠5) (g:e.n.kind=4->e.n.br≠p.id):E3 p (cq vs t e).1.ab:=by
 have f:=Nq i.may;have r:=f.kind;unfold cq;split
 .exact h
 split
 .exact (Aow _ h).ve
 split
 .rename_i u v x;refine(E3.mod h _ λ_ j a=>?_).settle;have c:I6 e.n j=j:=by unfold I6 Gl Jb.live;rw[Ac (by rw[a.live];simp)]
  rw[c];exact a
 split
 .unfold Md;split
  .exact (h.map λj a=>Anm j _ a.parts).settle
  split
  .exact h
  .exact h
 .have h1:=f.br ao9;refine(E3.mod h _ λm j a=>?_).ve;by_cases k:e.n.kind=3
  .have d:Fv e.n.kind=6:=(by rw[k];rfl);rw[d];obtain⟨b,l⟩:=A4y a.live;unfold Ik;rw[Ac (by show ¬cu (Ay j.lf 6).1.st=true;rw[b];simp)];exact⟨a.parts,.inr ⟨b,l,by show(-1:Int)<0;decide⟩⟩
  .exfalso;refine g ao9 ?_;omega
def Z9 (j:Jb):∀(n k:Nat) (p:Int×Int),k<n->(Fq j (-1) n).parts[k]?=O p->p.2≠0
 | 0,_,_,h,_=>absurd h ao9
 | n+1,k,p,h,a=>by
  have a:(Kr (Fq j (-1) n) n (-1)).parts[k]?=O p:=a;unfold Kr at a;split at a
  .rename_i b;by_cases c:k<n
   .exact Z9 j n k p c a
   .have:k=n:=ao9
    rw[this,b]at a;cases a
  .rename_i q b;split at a
   .rename_i d;have a:((Fq j (-1) n).parts.modify n λp=>(p.1,3))[k]?=O p:=a;rw[Dj]at a;by_cases c:n=k
    .subst c;rw[b]at a;have a:O (if n=n then(q.1,(3:Int))else q)=O p:=a;rw[Ad rfl]at a;injection a with a;rw[<-a];show(3:Int)≠0;decide
    .cases hl:(Fq j (-1) n).parts[k]? with
     | none=>rw[hl]at a;cases a
     | some r=>
      rw[hl]at a;have a:O (if n=k then(r.1,(3:Int))else r)=O p:=a;rw[Ac c]at a;injection a with a;subst a;exact Z9 j n k r ao9 hl
   .rename_i d;by_cases c:k<n
    .exact Z9 j n k p c a
    .have:k=n:=ao9
     rw[this,b]at a;injection a with a;subst a;intro e;exact d ⟨e,.inl ad9⟩
def A41 {vs:List ar} {b:Int} {js:List Jb} (h:Cs vs js) {j:Jb} (hj:j∈Ck b js) (a:j.live=true):b<En j:=by
 obtain⟨k,hk⟩:=B4 hj;obtain⟨y,t,r⟩:=(Aou _).each k j hk
 have v:j=y:=by
  rcases r with r|⟨_,_,r3,_⟩
  .exact r
  .have a:cu j.lf.st=true:=a;rw[r3]at a;cases a
 subst v;rw[A7]at t;obtain⟨z,u,rfl⟩:=K5.1 t;rw[A7]at u;obtain⟨x,hx,rfl⟩:=K5.1 u;have m:=h k x hx
 have g:Fz vs js.length k (Et b x):=by
  unfold Et;split
  .exact Adv _ _ m.toFz
  .exact m.toFz
 have a:cu (Do (Et b x)).lf.st=true:=a;unfold Do at a ⊢;split
 .rename_i c;rw[Ad c]at a;have n:=g.live.1 a
  have f:(Et b x).open_=true:=by
   rcases c with c|c
   .exact absurd c n
   .exact c
  unfold Et at a n f ⊢;split
  .rename_i d;rw[Ad d]at f;exfalso;unfold Jb.open_ at f;obtain⟨p,hp,h0⟩:=Kl.1 f;obtain⟨i,o⟩:=B4 hp;have l:=(An.1 o).1;unfold E8 at o l;rw[As7]at l;exact Z9 x _ i p l o (by simpa using h0)
  .rename_i d;rw[Ac d]at a;have a:x.live=true:=a;by_cases q:b<En x
   .exact q
   .exact absurd ⟨a,ao9⟩ d
 .rename_i c;exfalso;have s:=g.live.2 λe=>c (.inl e);obtain⟨_,ho⟩:=Ala g.ik s;rw[Ac c]at a;split at a
  .rename_i e;have a:cu (Ay (Et b x).lf 8).1.st=true:=a;have:=I3.1 a;omega
  .have a:cu (Ay (Et b x).lf 8).1.st=true:=a;have:=I3.1 a;omega
end Go.Proofs.YtimlcnhcjndijaaGreatDoor
namespace Go.Proofs.YtimlcnhcjndijaaGreatDoor
open Option renaming some->O,none->I
section
open Go.RowKit Go.Maps Go.Lib
variable{j:Jb}{zs:List Int}{L js:List Jb}{vs:List ar}{k:Nat}{t:dq}
def A42 (vs:List ar) (tick:Int) (js:List Jb):Prop:=∀(i:Nat) (v:ar),vs[i]?=O v->∀u:Int,tick<u->u<1099511627776->(Dw (js.map (Fj i u))).leq v.cap
structure zt (vs:List ar) (t:dq) (j:Jb):Prop where
 ready:Ey t.ab j=true
 late:t.tick<j.start
 zh:Pl.Ga (jg t) (Cu vs j) j.ah
structure L0 (vs:List ar) (t:dq) (L:List Jb):Prop where
 use:A42 vs t.tick t.ab
 tick:0<=t.tick
 pr:∀j,j∈t.ab->Gf j=true->zt vs t j/\∃p,p∈L/\p.start=j.start/\p.id=j.id
 stay:∀p,p∈L->1<=p.id/\t.tick<p.start/\E3 p t.ab
def Aox   (h:Cs vs js):∀j,j∈js->V4.zero.leq j.sp.df/\-1<=j.start:=λj b=>by
 obtain⟨k,a⟩:=B4 b;exact⟨Ael (h k j a),(h k j a).low⟩
def Afd {js b:List Jb} {j e:Jb} (h:Ey js j=true) (g:e.sp=j.sp) (h1:e.lf.st=1) (f:∀a,I1 js a=5->I1 b a=5):Ey b e=true:=by
 unfold Ey at h ⊢;rw[Da]at h ⊢;refine⟨by simpa using h1,?_⟩;rw[g];rw[Qv]at h ⊢;intro a d;have c:=h.2 a d;have c:I1 js a=5:=by simpa using c
 simpa using f a c
def Afe  {a b:List Jb} (h:Cs vs b) (f:B9 a b) (d:Int) (c:I1 b d=5):I1 a d=5:=by
 unfold I1 at c ⊢
 cases hb:b[(d-1).toNat]? with
 | none=>rw[hb]at c;cases c
 | some j=>
  rw[hb]at c;have c:j.lf.st=5:=c;have e:ia j.lf.st=true:=by rw[c];rfl
  rw[f.each _ j hb e ((h _ j hb).toFz.idle (V7 e))];exact c
def Aaa {a b:List Jb} (h:fj a b)  {x:Jb} (i:a[k]?=O x) (d:Gf x=true):∃y,b[k]?=O y/\Gf y=true/\x.sp=y.sp/\x.start=y.start/\x.ah=y.ah:=by
 rcases h.each k x i with⟨y,j,c⟩|⟨_,_,l⟩
 .obtain ⟨e,f,g⟩:=c.tq d;exact⟨y,j,e,c.sp,f,g⟩
 .have:=Jy.1 d;omega
def Tw (t:dq) (i:Nat):Pl.bi (jg t) i=true↔∃n,t.nodes[i]?=O n/\n.up=true/\n.bt=false/\n.since<t.tick:=by
 unfold Pl.bi jg;rw[Wb,A7]
 cases h:t.nodes[i]? with
 | none=>simp
 | some n=>simp[and_assoc]
def A43   {e:dy} (o:V5 vs t e) (p:e.n.kind≠6) (l:e.n.kind≠8) (d:e.n.kind≠10):(cq vs t e).1.tick=t.tick/\(cq vs t e).1.nodes.length=t.nodes.length/\∀i,Pl.bi (jg t) i=true->Pl.bi (jg (cq vs t e).1) i=true:=by
 unfold cq;split
 .exact ⟨rfl,rfl,λ_ h=>h⟩
 split
 .exact ⟨rfl,rfl,λ_ h=>h⟩
 split
 .exact ⟨rfl,rfl,λ_ h=>h⟩
 split
 .rename_i q r s j;have a:=o.node j.1 j.2;unfold Md;rw[Ac l];split
  .rename_i g;refine⟨rfl,Ic ..,λi h=>?_⟩;obtain⟨n,h1,b,f,c⟩:=(Tw t i).1 h;refine(Tw _ i).2 ⟨n,?_,b,f,c⟩;show(t.nodes.modify e.n.node.toNat _)[i]?=O n;rw[Dj,h1];show O (if e.n.node.toNat=i then _ else n)=O n;split
   .rename_i k;exfalso;unfold Li at a;split at a
    .cases a
    .rw [Ad (.inr g)]at a;split at a
     .cases a
     .unfold Re at a;rw[k,h1]at a;have a:(if n.up≠decide (e.n.kind=8)then(100:Int)else 0)=0:=a;rw[b,g]at a;simp at a
   .rfl
  .refine ⟨rfl,Ic ..,λi h=>?_⟩;obtain⟨n,h1,b,f,c⟩:=(Tw t i).1 h;refine(Tw _ i).2 ?_;show ∃m,(t.nodes.modify e.n.node.toNat _)[i]?=O m/\_;rw[Dj,h1];refine⟨_,rfl,?_⟩;show(if e.n.node.toNat=i then(⟨n.up,decide (e.n.kind=10),n.since⟩:E6)else n).up=true/\(if e.n.node.toNat=i then(⟨n.up,decide (e.n.kind=10),n.since⟩:E6)else n).bt=false/\(if e.n.node.toNat=i then(⟨n.up,decide (e.n.kind=10),n.since⟩:E6)else n).since<t.tick;split
   .exact ⟨b,by simpa using d,c⟩
   .exact ⟨b,f,c⟩
 .exact ⟨rfl,rfl,λ_ h=>h⟩
def Aoy   {e:dy} (h0:Ea vs t e=0):(Bi vs t e).1.ab=(cq vs t e).1.ab/\(Bi vs t e).1.nodes=(cq vs t e).1.nodes/\(Bi vs t e).1.tick=(cq vs t e).1.tick:=by
 unfold Bi;rw[Ac (by rw[h0];simp)];show(if B6 e.n.kind=true then { (cq vs t e).1 with cls:=G2 (cq vs t e).1.cls e.n.ag ⟨e.n.seq,(cq vs t e).2.e,(cq vs t e).2.first,(cq vs t e).2.last⟩ } else(cq vs t e).1).ab=_/\(if B6 e.n.kind=true then { (cq vs t e).1 with cls:=G2 (cq vs t e).1.cls e.n.ag ⟨e.n.seq,(cq vs t e).2.e,(cq vs t e).2.first,(cq vs t e).2.last⟩ } else(cq vs t e).1).nodes=_/\(if B6 e.n.kind=true then { (cq vs t e).1 with cls:=G2 (cq vs t e).1.cls e.n.ag ⟨e.n.seq,(cq vs t e).2.e,(cq vs t e).2.first,(cq vs t e).2.last⟩ } else(cq vs t e).1).tick=_;split
 .exact ⟨rfl,rfl,rfl⟩
 .exact ⟨rfl,rfl,rfl⟩
def Aoz {a b:dq} (h1:a.nodes=b.nodes) (c:a.tick=b.tick):jg a=jg b:=by
 unfold jg;rw[h1,c]
def Ao0   {e:dy}  (o:Ec vs t) (h:L0 vs t L) (h0:Ea vs t e=0) (h6:e.n.kind≠6) (h5:e.n.kind≠5) (h8:e.n.kind≠8) (ac:e.n.kind≠10) :
  L0 vs (Bi vs t e).1 (if e.n.kind=4 then L.filter λp=>decide (p.id≠e.n.br)else L):=by
 have x:=Ry h0;have f:=Nq x.may;obtain⟨e1,e2,q⟩:=Aoy h0;obtain⟨u1,u2,u3⟩:=A43 x h6 h8 ac
 have r:=A4p (vs:=vs) (t:=t) (e:=e) h6 λh7=>by have:=f.bq h7;omega
 have an:=Ans o x;have ad:=(Am1 o x).1.all;have eu:=Aoz e2 q;refine⟨?_,by rw[q,u1];exact h.tick,?_,?_⟩
 .rw [e1,q,u1];exact λi v hv u h1 h2=>Tq (Z7 i u _ _ r (Aox o.all)) (h.use i v hv u h1 h2)
 .rw [e1];intro j hj l;obtain⟨k,hk⟩:=B4 hj;obtain⟨y,hy,av,s1,s2,s3⟩:=Aaa r hk l;obtain⟨m,p,d,ap,ao⟩:=h.pr y (Ai hy) av;have al:j.id=y.id:=by rw[(ad k j hk).id,(o.all k y hy).id]
  refine⟨⟨?_,?_,?_⟩,p,?_,by rw[ap,s2],by rw[ao,al]⟩
  .rw [e1];exact Afd m.ready s1 (Jy.1 l).1 (Afe o.all an)
  .rw [q,u1,s2];exact m.late
  .rw [eu,s3];have ho:=m.zh.mono (bs':=jg (cq vs t e).1) (by unfold jg;simp[u2]) u3
   exact⟨by
    have hi:=ho.od;show ∀i,i<y.ah.length->Pl.zi y.ah i∈Pl.Bl (Pl.ji _ (B5 vs j.sp.part));rw[s1]
    exact hi,ho.aw,by
    have hl:=ho.len;show(y.ah.length:Int)=j.sp.nodes;rw[s1]
    exact hl⟩
  .split
   .rename_i k4;refine F3.2 ⟨d,?_⟩
    suffices p.id≠e.n.br by simpa using this
    intro c;have aA:=f.br ao9;have am:(e.n.br-1).toNat=k:=(by have:=(o.all k y hy).id;omega);have ed:(cq vs t e).1.ab=C2 (C9 t.ab e.n.br (Ik (Fv e.n.kind))):=(by unfold cq;rw[Ac ao9,Ac ao9,Ac ao9,Ac ao9,Ac ao9];rfl);rw[ed]at hk;obtain⟨z,g,s,_⟩:=Aaa (Z8 _) hk l;unfold C9 at g;rw[Dj,hy]at g;have g:O (if (e.n.br-1).toNat=k then Ik (Fv e.n.kind) y else y)=O z:=g;rw[Ad am]at g;injection g with g;rw[<-g]at s;have:=Jy.1 s;unfold Ik at this;split at this
    .rename_i c1;have:=I3.1 c1;omega
    .have h2:(0:Int)<=-1:=this.2;omega
   .exact d
 .intro p l;rw[e1,q,u1]
  have d:p∈L/\(e.n.kind=4->e.n.br≠p.id):=by
   split at l
   .obtain ⟨a,b⟩:=F3.1 l;have b:p.id≠e.n.br:=(by simpa using b);exact⟨a,λ_ c=>b c.symm⟩
   .rename_i c;exact⟨l,λc2=>absurd c2 c⟩
  obtain⟨a,b,c⟩:=h.stay p d.1;exact⟨a,b,A40 c a x h6 h5 d.2⟩
def Aff (tick:Int):∀(l:List (Int×Int×List Int)) (js:List Jb) (k:Nat) (x:Int×Int×List Int) (j:Jb),(l.map Prod.fst).Nodup->(∀y,y∈l->1<=y.1)->x∈l->x.1=(k:Int)+1->js[k]?=O j->(F7 tick l js)[k]?=O (Eu tick x.2.1 x.2.2 j)
 | [],_,_,_,_,_,_,h,_,_=>absurd h as9
 | y :: l,js,k,x,j,hn,h1,b,hk,hj=>by
  have a:=Sc.1 hn;show(F7 tick l (C9 js y.1 (Eu tick y.2.1 y.2.2)))[k]?=_;unfold C9;rcases Fm.1 b with rfl|b
  .rw [V2 tick l _ k λz d=>⟨h1 z (B2 _ d),λc=>a.1 (by rw[hk,<-c];exact F1 d)⟩];rw[Dj,hj];show O (if (x.1-1).toNat=k then Eu tick x.2.1 x.2.2 j else j)=_;rw[Ad ao9]
  .refine Aff tick l _ k x j a.2 (λz d=>h1 z (B2 _ d)) b hk ?_;rw[Dj,hj];show O (if (y.1-1).toNat=k then Eu tick y.2.1 y.2.2 j else j)=O j;rw[Ac];intro c;apply a.1;have:=h1 y Ci;have e:y.1=x.1:=ao9;rw[e];exact F1 b
def Aab  (h:j.lf.st=1):B8 j=j.bare:=by
 unfold B8;rw[Ad h]
def Ao1  (h:j.lf.st≠1):B8 j=j:=by
 unfold B8;rw[Ac h]
def A44 (j:Jb):Gf (B8 j)=false:=by
 refine Tt ?_;by_cases c:j.lf.st=1
 .rw [Aab c];exact .inr (by show(-1:Int)<0;decide)
 .rw [Ao1 c];exact .inl c
def Tx   (h:Ey js j=true):j.lf.st=1:=by
 unfold Ey at h;simp at h;exact h.1
def A45   (h:Gs vs js)   (b:js[k]?=O j) (f:Ey js j=true):Cu vs j∈Cj vs js:=by
 have d:(⟨j.id,j.sp.user,j.sp.prio,J8 j⟩:dp)∈Bs js:=A5.2 ⟨j,F3.2 ⟨Ai b,f⟩,rfl⟩;obtain⟨i,a⟩:=B4 d;have c:=(An.1 a).1;have g:i∈Le (Ee vs ByteArray.empty) (D1 js) (Bs js):=(Vz _ _ _).mem_iff.2 (Ot.2 c);refine A5.2 ⟨i,g,?_⟩;have e:A9 (Bs js) i=⟨j.id,j.sp.user,j.sp.prio,J8 j⟩:=by unfold A9;rw[a];rfl
 show Cu vs (Fe js (A9 (Bs js) i).id)=_;rw[e,V0 h b]
def Afg  {i:Nat} (h:i<zs.length):Pl.zi zs i=zs[i]:=by simp[Pl.zi,List.getD,h]
def A46   {a:Int} (h:Cs vs js) (h0:0<=a) (hl:∀j,j∈js->j.live=true->a<En j):∀x,x∈(Ce js).map Fy->Pl.Cy (vs.map ar.cap).length x.dn/\Pl.Bb a (Pl.Im a x) x.v=true:=λx hx=>by
 obtain⟨y,hy,rfl⟩:=A5.1 hx;unfold Ce at hy;obtain⟨j,hj,rfl⟩:=A5.1 hy;obtain⟨r,g⟩:=F3.1 hj;obtain⟨k,hk⟩:=B4 r;have l:=h k j hk;have s:=l.live.1 g;have am:=l.run g;obtain⟨d,an⟩:=l.ah am;have ad:=l.pg s;have t:=l.xl s;have u:=hl j r g;obtain⟨_,_,m3,_⟩:=Gy (Jd l.gp);have o:=(Uq.1 m3).1;have b:((j.parts.filter λp=>decide (p.2=0)).map Prod.fst).Sublist j.ah:=by rw[<-ad];exact List.filter_sublist.map _
 have al:=d.aw.sublist b;refine⟨⟨?_,?_,?_,?_⟩,?_⟩
 .unfold Jb.open_ at t;obtain⟨p,hp,ac⟩:=Kl.1 t;exact Aaj (F1 (f:=Prod.fst) (F3.2 ⟨hp,ac⟩))
 .intro i c
  have z:Pl.zi ((j.parts.filter λp=>decide (p.2=0)).map Prod.fst) i∈B5 vs j.sp.part:=by
   have e:Pl.zi ((j.parts.filter λp=>decide (p.2=0)).map Prod.fst) i=((j.parts.filter λp=>decide (p.2=0)).map Prod.fst)[i]:=(by exact Afg c);rw[e];exact d.od _ (b.subset (J1 _))
  obtain⟨q,m⟩:=B4 z;obtain⟨n,e,_⟩:=Ang m;show 0<=Pl.zi ((j.parts.filter λp=>decide (p.2=0)).map Prod.fst) i;omega
 .intro i c
  have z:Pl.zi ((j.parts.filter λp=>decide (p.2=0)).map Prod.fst) i∈B5 vs j.sp.part:=by
   have e:Pl.zi ((j.parts.filter λp=>decide (p.2=0)).map Prod.fst) i=((j.parts.filter λp=>decide (p.2=0)).map Prod.fst)[i]:=(by exact Afg c);rw[e];exact d.od _ (b.subset (J1 _))
  obtain⟨q,m⟩:=B4 z;obtain⟨n,e,hn⟩:=Ang m;show Pl.zi ((j.parts.filter λp=>decide (p.2=0)).map Prod.fst) i<_;rw[Ar];omega
 .intro i c;have c:i+1<((j.parts.filter λp=>decide (p.2=0)).map Prod.fst).length:=c;have:=L1.1 al i (i+1) ao9 c ao9;show Pl.zi ((j.parts.filter λp=>decide (p.2=0)).map Prod.fst) i<Pl.zi ((j.parts.filter λp=>decide (p.2=0)).map Prod.fst) (i+1)
  have e:∀q (m:q<((j.parts.filter λp=>decide (p.2=0)).map Prod.fst).length),Pl.zi ((j.parts.filter λp=>decide (p.2=0)).map Prod.fst) q=((j.parts.filter λp=>decide (p.2=0)).map Prod.fst)[q]:=λq m=>by
   exact Afg m
  rw[e i ao9,e (i+1) c];exact this
 .show Pl.Bb a (max (En j) (a+1)) j.sp.df=true;unfold Pl.Bb;simp only[Da,F2];exact⟨⟨⟨h0,ao9⟩,ao9⟩,o⟩
def Ao2  {fr a u:Int} (v:V4) (h:u<fr) (i:Nat):Pl.gg zs fr a v i u=V4.zero:=by
 unfold Pl.gg;rw[Ac ao9]
def Ao3 {a u:Int} (h:u<a) (i:Nat):∀b:List Pl.Av,Pl.D2 a b i u=V4.zero
 | []=>rfl
 | x :: b=>by
  show Pl.Aq (Pl.gg x.dn a (Pl.Im a x) x.v i u) (Pl.D2 a b i u)=_;rw[Ao2 _ h,Ao3 h i b,Pl.Lm]
def Ao4 {u:Int} (h0:0<=u) (i:Nat):∀l:List Pl.Ask,(∀y,y∈l->0<=y.start->u<y.start)->Pl.Gd l i u=V4.zero
 | [],_=>rfl
 | x :: l,h=>by
  show Pl.Aq (Pl.Kj x i u) (Pl.Gd l i u)=_;rw[Ao4 h0 i l λy a=>h y (B2 _ a),Pl.Lm];unfold Pl.Kj;split
  .rename_i c;exact Ao2 _ (h x Ci c) i
  .rfl
def Lq (p j:Jb):Prop:=¬(j.lf.bh=p.lf.bh/\j.lf.st=1/\(j.start<0\/p.start<j.start))/\¬(p.lf.bh<j.lf.bh/\p.start<j.start)
def Ao5   {e:dy} (h0:Ea vs t e=0) (f:e.n.kind=6):(Bi vs t e).1.ab=Ky vs e.n.tick (jg { t with tick:=e.n.tick }) (Ck e.n.tick t.ab)/\(Bi vs t e).1.nodes=t.nodes/\(Bi vs t e).1.tick=e.n.tick:=by
 obtain⟨a,b,c⟩:=Aoy h0;have d:(cq vs t e).1=Ro vs t e.n.tick:=by unfold cq;rw[Ac ao9,Ac ao9,Ad f]
 rw[a,b,c,d];exact⟨rfl,rfl,rfl⟩
def A47  {b:Int} {bs:List Bool}  (h:∃a,Pl.Jv (vs.map ar.cap) b bs ((Ce js).map Fy) (Cj vs js) a):∃a,Pl.Jv (vs.map ar.cap) b bs ((Ce js).map Fy) (Cj vs js) a/\Fh vs b bs js=a.map Pl.Ax.key:=by
 refine⟨h.choose,h.choose_spec,?_⟩;unfold Fh Oe;rw[dif_pos h]
def A48   {e:dy}  (hG:Ec vs t) (aJ:vs.length<=16) (aF:∀v,v∈vs->v.cap.right=true) (h:L0 vs t L) (h0:Ea vs t e=0) (h6:e.n.kind=6) (hl:∀p,p∈L->e.n.tick<=p.start) (hr:Qs vs t e) :
  ∀p,p∈L->∃j,(Bi vs t e).1.ab[(p.id-1).toNat]?=O j/\Lq p j:=by
 have hw:=Ry h0;have f:=Nq hw.may;have ht:=f.tick (.inl h6);have a3:=hw.tick h6;have ad:=hr h0 h6;obtain⟨ej,_,_⟩:=Ao5 (vs:=vs) (t:=t) (e:=e) h0 h6;rw[ej];obtain⟨g,aM⟩:=Ex (e.n.tick);rw[<-aM]at ht a3 ad hl ⊢;obtain⟨d,o⟩:=Ex (Ck g t.ab);obtain⟨bs,ap⟩:∃b,b=jg { t with tick:=g }:=⟨_,rfl⟩;have m:Cs vs d:=by rw[o];exact Vv hG.all g
 have av:fj d t.ab:=by rw[o];exact A4m g t.ab
 have aS:B9 d t.ab:=by rw[o];exact Ann g t.ab
 have aK:∀j,j∈d->j.live=true->g<En j:=λj hj c=>by
  rw[o]at hj;exact A41 hG.all hj c
 have ao:bs.length=vs.length:=by rw[ap];unfold jg;rw[Ar];exact hG.vi
 have a4:∀i,Pl.bi (jg t) i=true->Pl.bi bs i=true:=λi c=>by
  obtain⟨n,h1,h2,h3,h4⟩:=(Tw t i).1 c;rw[ap];exact(Tw _ i).2 ⟨n,h1,h2,h3,by show n.since<g;omega⟩
 rw[<-o,<-ap]at ad ⊢;have aG:=A46 m ht.1 aK
 have am:Pl.Ob (vs.map ar.cap) bs.length g:=⟨by rw[Ar];exact aJ,λi hi=>by
  rw[Ar]at hi;have e:Pl.vv (vs.map ar.cap) i=(vs[i]).cap:=by simp[Pl.vv,List.getD,hi]
  rw[e]
  exact aF _ (J1 _),by rw[Ar];exact ao,ht.1,ht.2⟩
 have ac:∀y,y∈Cj vs d->∃k j,d[k]?=O j/\Ey d j=true/\y=Cu vs j/\(0<=j.start->g<=j.start/\Pl.Ga bs (Cu vs j) j.ah):=λy hy=>by
  obtain⟨k,j,hk,x,e⟩:=Ad5 m.b hy;refine⟨k,j,hk,x,e,λc=>?_⟩;obtain⟨z,hz,aE,s1,s2,s3⟩:=Aaa av hk (Jy.2 ⟨Tx x,c⟩);obtain⟨aD,p,aB,a8,_⟩:=h.pr z (Ai hz) aE;refine⟨by have:=hl p aB;omega,?_⟩;have ho:=aD.zh.mono (bs':=bs) (by rw[ao];unfold jg;rw[Ar,hG.vi];exact Nat.le_refl _) a4;rw[s3]
  exact⟨by
   have hi:=ho.od;show ∀i,i<z.ah.length->Pl.zi z.ah i∈Pl.Bl (Pl.ji _ (B5 vs j.sp.part));rw[s1]
   exact hi,ho.aw,by
   have hl:=ho.len;show(z.ah.length:Int)=j.sp.nodes;rw[s1]
   exact hl⟩
 have aP:∀y,y∈Cj vs d->Pl.Ts (vs.map ar.cap) bs g y:=λy hy=>by
  obtain⟨k,j,hk,x,rfl,hj⟩:=ac y hy;by_cases c:0<=j.start
  .obtain ⟨a1,a2⟩:=hj c;have hg:=m k j hk;obtain⟨_,_,m3,_,m5,m6,_⟩:=Gy (Jd hg.gp);have m5:1<=j.sp.nodes:=(Ig.1 m5).1;have m6:1<=j.sp.wall:=(Ig.1 m6).1;have al:j.sp.df.right=true:=(Uq.1 m3).1;have aU:=(hg.ah c).2;unfold En at aU;refine .inr ⟨?_,a1,by show j.start<_;omega,a2,?_,?_⟩
   .unfold Pl.Ask.can;simp only[Da,F2];exact⟨⟨by show 0<j.sp.nodes;omega,by show 0<j.sp.wall+8;omega⟩,al⟩
   .have:=a2.ah (by show 0<j.sp.nodes;omega);rw[ao]at this;rw[Ar];exact this
   .show Pl.Bb j.start (j.start+(j.sp.wall+8)) j.sp.df=true;unfold Pl.Bb;simp only[Da,F2];exact⟨⟨⟨c,ao9⟩,ao9⟩,al⟩
  .exact .inl (by show j.start<0;omega)
 have aO:∀i,i<(vs.map ar.cap).length->∀u,0<=u->u<1099511627776->(Pl.Ak (Pl.D2 g ((Ce d).map Fy)) (Pl.Gd (Cj vs d)) i u).leq (Pl.vv (vs.map ar.cap) i):=λi hi u h1 h2=>by
  have aH:i<vs.length:=by rw[Ar]at hi;exact hi
  by_cases c:u<g
  .show (Pl.Aq (Pl.D2 g ((Ce d).map Fy) i u) (Pl.Gd (Cj vs d) i u)).leq _
   rw[Ao3 c,Ao4 h1 i _ λy hy q=>by
    obtain⟨k,j,_,_,rfl,hj⟩:=ac y hy;have:=(hj q).1;show u<j.start
    omega,Pl.Lm]
   exact Pl.Ac6 (am.right i hi)
  .have e:Pl.vv (vs.map ar.cap) i=(vs[i]).cap:=(by simp[Pl.vv,List.getD,aH]);rw[e];refine Tq ?_ (h.use i vs[i] (A3 aH) u ao9 h2);refine Tq ?_ (Z7 i u _ _ av (Aox hG.all));have eu:(λj=>Pl.Aq (Ji i u j) (K4 i u j))=Fj i u:=rfl;rw[<-eu,Aon];refine Nr (Aop ao9 i d λj hj=>⟨Aem m j hj,aK j hj⟩) (Aor (vs:=vs) i u d _ (Ad4 m.b) (Ama m.b) (λa ha=>?_) (Aem m));obtain⟨k,j,hk,x,ea,_⟩:=ac a ha;exact⟨j,Ai hk,ea,Tx x⟩
 obtain⟨c1,c2⟩:=Pl.A4u am aG aP aO
 have aR:∃l,Pl.Jv (vs.map ar.cap) g bs ((Ce d).map Fy) (Cj vs d) l:=by
  rcases ad with⟨r,aX,aT⟩|c
  .exact absurd (c1 r [] aT) aX
  .exact c
 obtain⟨l,hp,aZ⟩:=A47 aR;have aC:=Pl.Y9 hp;obtain⟨aV,aN⟩:=V1 m.b g bs
 have an:∀y,y∈Fh vs g bs d->1<=y.1:=λy hy=>by
  obtain⟨k,_,_,e,_⟩:=aN y hy;omega
 intro p aB;obtain⟨i1,i2,i3⟩:=h.stay p aB;have i3:E3 p d:=by rw[o];exact i3.late g
 obtain⟨j,hj,a0⟩:=i3;have a6:j.id=p.id:=by have:=(m _ j hj).id;omega
 have a9:=h.tick;unfold Ky;have aI:(d.map B8)[(p.id-1).toNat]?=O (B8 j):=by rw[A7,hj];rfl
 rcases a0.zj with⟨b1,b2,b3⟩|⟨b1,b2,b3⟩
 .have aW:=Jy.2 ⟨b1,ao9⟩;obtain⟨z,hz,aE,s1,s2,s3⟩:=Aaa av hj aW;obtain⟨aD,_⟩:=h.pr z (Ai hz) aE;have x:=Afd aD.ready s1 b1 (Afe hG.all aS);obtain⟨i,hi⟩:=B4 (A45 m.b hj x);have a7:=(An.1 hi).1;have hs:l[i]?=O (l[i]'(by have:=aC.len;omega)):=A3 _;obtain⟨s,aY⟩:∃s,s=l[i]'(by have:=aC.len;omega):=⟨_,rfl⟩;rw[<-aY]at hs;obtain⟨k1,k2⟩:=c2 l hp i _ s hi hs (by show 0<=j.start;omega);have k2:s.start<=j.start:=k2;have a5:s.id=j.id:=(aC.slot (Cu vs j,s) (Ai (i:=i) (by rw[We];exact⟨hi,hs⟩))).1;have aL:s.key∈Fh vs g bs d:=by rw[aZ];exact F1 (Ai hs)
  have aQ:=Aff g _ (d.map B8) (p.id-1).toNat s.key (B8 j) aV an aL (by show s.id=_;omega) aI;refine⟨_,aQ,?_⟩;rw[Aab b1];show Lq p (Eu g s.start s.dn j.bare);unfold Eu;split
  .exact ⟨λc=>absurd c.2.1 (Wa (.inl rfl)),λc=>by
    have c:p.start<s.start:=c.2
    omega⟩
  .exact ⟨λc=>by
    have c:s.start<0\/p.start<s.start:=c.2.2
    omega,λc=>by
    have c:p.start<s.start:=c.2
    omega⟩
 .have aA:j.lf.st≠1:=λc=>by
   rw[c]at b2;cases b2
  refine⟨j,?_,λc=>absurd c.2.1 aA,λc=>by omega⟩;rw[V2 g _ _ _ λy hy=>⟨an y hy,λc=>?_⟩,aI,Ao1 aA];obtain⟨k,z,hz,e,x,_⟩:=aN y hy
  have:k=(p.id-1).toNat:=ao9
  subst this;rw[hj]at hz;injection hz with hz;subst hz;exact aA (Tx x)
def A49   {e:dy} (hG:Ec vs t) (h0:Ea vs t e=0) (h6:e.n.kind=6) :
  (Bi vs t e).1.ab.filter Gf=[]\/L0 vs (Bi vs t e).1 ((Bi vs t e).1.ab.filter Gf):=by
 have hw:=Ry h0;have f:=Nq hw.may;have ht:=f.tick (.inl h6);obtain⟨ej,en,et⟩:=Ao5 (vs:=vs) (t:=t) (e:=e) h0 h6;have ad:jg (Bi vs t e).1=jg { t with tick:=e.n.tick }:=Aoz en et;obtain⟨t',aQ⟩:=Ex ((Bi vs t e).1);rw[<-aQ]at ej en et ad ⊢;obtain⟨d,aJ⟩:=Ex (e.n.tick);rw[<-aJ]at ht ej et ad;obtain⟨a,ap⟩:=Ex (Ck d t.ab);obtain⟨bs,aG⟩:∃b,b=jg { t with tick:=d }:=⟨_,rfl⟩;have m:Cs vs a:=by rw[ap];exact Vv hG.all d
 have aL:Cs vs t'.ab:=by rw[ej,<-ap];exact Amd m ht.1 _
 rw[<-ap,<-aG]at ej;rw[<-aG]at ad;obtain⟨aD,aE⟩:=V1 m.b d bs
 have aA:∀y,y∈Fh vs d bs a->1<=y.1:=λy hy=>by
  obtain⟨k,_,_,e,_⟩:=aE y hy;omega
 have ac:∀(k:Nat) (j:Jb),t'.ab[k]?=O j->Gf j=true->∃x j2,x∈Fh vs d bs a/\x.1=(k:Int)+1/\a[k]?=O j2/\Ey a j2=true/\x.2.1≠d/\j=⟨j2.id,j2.sp,j2.lf,x.2.1,x.2.2,j2.parts⟩:=λk j g hp=>by
  rw[ej]at g;unfold Ky at g;by_cases c:∃x,x∈Fh vs d bs a/\x.1=(k:Int)+1
  .obtain ⟨x,l,am⟩:=c;obtain⟨k',j2,an,e,h,_⟩:=aE x l
   have:k'=k:=ao9
   subst this;have aN:(a.map B8)[k']?=O (B8 j2):=(by rw[A7,an];rfl);rw[Aff d _ _ k' x (B8 j2) aD aA l am aN]at g;injection g with g;refine⟨x,j2,l,am,an,h,?_⟩;rw[Aab (Tx h)]at g;unfold Eu at g;split at g
   .rw [<-g]at hp;exact absurd (Jy.1 hp).1 (Wa (.inl rfl))
   .rename_i c;exact⟨c,g.symm⟩
  .rw [V2 d _ _ _ λy hy=>⟨aA y hy,λq=>c ⟨y,hy,q⟩⟩,A7]at g;obtain⟨z,_,e⟩:=K5.1 g;rw[<-e,A44]at hp;cases hp
 rcases Al9 (vs.map ar.cap) d bs ((Ce a).map Fy) (Cj vs a)with es|⟨o,hp,es⟩
 .left;rw[List.filter_eq_nil_iff];intro j g r;obtain⟨k,hk⟩:=B4 g;obtain⟨x,_,l,_⟩:=ac k j hk r;unfold Fh at l;rw[es]at l;cases l
 .right;have al:=Pl.Y9 hp;have aS:=al.len;have es:Fh vs d bs a=o.map Pl.Ax.key:=es
  have aB:∀x,x∈(Cj vs a).zip o->∃k j,a[k]?=O j/\Ey a j=true/\x.1=Cu vs j/\x.2.id=j.id:=λx l=>by
   obtain⟨k,j,g,h,ha⟩:=Ad5 m.b (Wy l).1;refine⟨k,j,g,h,ha,?_⟩;have:=(al.slot x l).1;rw[ha]at this;exact this
  refine⟨?_,by rw[et];exact ht.1,?_,?_⟩
  .intro i v hv u h1 h2;rw[et]at h1;have hi:=(An.1 hv).1;have aI:=al.le i (by rw[Ar];exact hi) u ao9 h2;have e:Pl.vv (vs.map ar.cap) i=v.cap:=(by simp[Pl.vv,List.getD,hv]);rw[e]at aI;refine Tq ?_ aI;rw[ej];unfold Ky
   have aH:Fh vs d bs a=((Cj vs a).zip o).map λx=>x.2.key:=by rw[es,show(λx:Pl.Ask×Pl.Ax=>x.2.key)=Pl.Ax.key ∘ Prod.snd from rfl,<-Dm,List.map_snd_zip ao9]
   rw[aH];refine Tq (Aos ht.1 ao9 i _ _ ?_ λx l=>?_) (Nr (Afa (vs:=vs) ao9 i a (λj g=>⟨Aem m j g,λc=>?_⟩) λx l=>(al.holds x l).1) (Jh _))
   .rw [es,Dm]at aD;rw[show(λx:Pl.Ask×Pl.Ax=>x.2.id)=(Prod.fst ∘ Pl.Ax.key) ∘ Prod.snd from rfl,<-Dm,List.map_snd_zip ao9];exact aD
   .obtain ⟨k,j,g,h,ha,aM⟩:=aB x l;have hg:=m k j g;have aR:=hg.id;refine⟨ao9,by rw[ha];exact Ael hg,?_,λz hz=>?_⟩
    .rcases (al.slot x l).2 with⟨_,c⟩|⟨_,_,_,c,_⟩
     .rw [c];exact List.Pairwise.nil
     .rw [ha]at c;exact(Amb c).aw
    .rw [show(x.2.id-1).toNat=k by omega,A7,g]at hz;injection hz with hz;rw[<-hz,Aab (Tx h),ha];exact⟨rfl,rfl,hg.toFz.idle (by rw[Tx h];rfl),rfl⟩
   .obtain ⟨k,hk⟩:=B4 g;exact(m k j hk).toFz.idle c
  .intro j g r;obtain⟨k,hk⟩:=B4 g;obtain⟨x,j2,l,am,an,h,aF,e⟩:=ac k j hk r;refine⟨⟨?_,?_,?_⟩,j,F3.2 ⟨g,r⟩,rfl,rfl⟩
   .refine Afd h (by rw[e]) (Jy.1 r).1 (Afe m ?_);rw[ej];exact Anr m d bs
   all_goals
    rw[es]at l;obtain⟨s,hs,rfl⟩:=A5.1 l;obtain⟨i,hi⟩:=B4 hs;have aU:=(An.1 hi).1;have ha:(Cj vs a)[i]?=O ((Cj vs a)[i]'(by omega)):=A3 _;have hz:((Cj vs a)[i]'(by omega),s)∈(Cj vs a).zip o:=Ai (i:=i) (by rw[We];exact⟨ha,hi⟩);obtain⟨k',j3,ao,_,aC,av⟩:=aB _ hz;have aO:k'=k:=(by have:=(m k' j3 ao).id;have am:s.id=(k:Int)+1:=am;have av:s.id=j3.id:=av;omega);subst aO;rw[an]at ao;injection ao with ao;subst ao;have aT:0<=s.start:=(by have:=(Jy.1 r).2;rw[e]at this;exact this);have aF:s.start≠d:=aF;rcases(al.slot _ hz).2 with⟨c,_⟩|⟨_,d2,_,d4,_⟩
    .have c:s.start=-1:=c;omega
   .have d2:d<=s.start:=d2;rw[et,e];show d<s.start;omega
   .have d4:Pl.Ga bs ((Cj vs a)[i]'(by omega)) s.dn:=d4;have aC:(Cj vs a)[i]'(by omega)=Cu vs j2:=aC;rw[aC]at d4;rw[ad,e];exact⟨d4.od,d4.aw,d4.len⟩
  .intro p hp;obtain⟨r,aK⟩:=F3.1 hp;obtain⟨k,hk⟩:=B4 r;have hg:=aL k p hk;have aM:=hg.id;obtain⟨x,j2,l,am,an,h,aF,e⟩:=ac k p hk aK;have h1:=Jy.1 aK;refine⟨ao9,?_,p,by rw[show(p.id-1).toNat=k by omega];exact hk,hg.toFz.idle (by rw[h1.1];rfl),.inl ⟨h1.1,rfl,rfl⟩⟩;obtain⟨_,_,_,_,_,aP⟩:=aE x l;rw[et];rw[e]at h1 ⊢;show d<x.2.1;have h2:0<=x.2.1:=h1.2;rcases aP with⟨c,_⟩|⟨c,_⟩
   .omega
   .omega
