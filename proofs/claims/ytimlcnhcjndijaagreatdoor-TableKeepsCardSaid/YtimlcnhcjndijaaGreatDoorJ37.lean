/- Parts of a proof. No condition. -/
import Derived.Test.YtimlcnhcjndijaaGreatDoorJ36
set_option linter.all false
set_option maxRecDepth 100000
set_option maxHeartbeats 12800000
namespace Go.Proofs.YtimlcnhcjndijaaGreatDoor
open Option renaming some->O,none->I
open IntKind renaming i64->G
open Value renaming int->Z,tuple->E,pointer->K,bool->Q,slice->V,string->D
open Ending renaming returned->Y
open Obj renaming cells->J
open Go renaming World->WD,Value->VL,Calls->CS
open Go.RowKit renaming Below->BW
open Go.Proofs.Tryz
section
open Go.RowKit Go.Maps Go.Lib
structure Ec (vs:List ar) (t:dq):Prop where
 all:Cs vs t.ab
 len:t.ab.length<=100
 ep:0<=t.ai/\t.ai<=1099511627776
 tick:-1<=t.tick/\t.tick<1099511627776
 vi:t.nodes.length=vs.length
 since:∀n,n∈t.nodes->-1<=n.since/\n.since<1099511627776
 aw:(t.cls.map Prod.fst).Pairwise (·<·)
 cls:∀p,p∈t.cls->1<=p.1/\p.1<=16/\1<=p.2.seq/\p.2.seq<=1099511627776/\p.2.e=0/\0<=p.2.first/\p.2.first<=100/\0<=p.2.last/\p.2.last<=100
variable {vs:List ar} {t:dq} {e:dy}
def Aee {x y:Int×Cl}:∀ {l:List (Int×Cl)},y∈O3 x l->y=x\/y∈l
 | [],h=>.inl (Jj.1 h)
 | z :: r,h=>by
  unfold O3 at h;split at h
  .rcases Fm.1 h with h|h
   .exact .inl h
   .exact .inr h
  .rcases Fm.1 h with h|h
   .exact .inr (h▸Ci)
   .rcases Aee h with h|h
    .exact .inl h
    .exact .inr (B2 _ h)
def Amw {x:Int×Cl}:∀ {l:List (Int×Cl)},(l.map Prod.fst).Pairwise (·<·)->(∀y,y∈l->y.1≠x.1)->((O3 x l).map Prod.fst).Pairwise (·<·)
 | [],_,_=>by simp[O3]
 | y :: r,h,hn=>by
  have d:=Pr.1 h;have e:=hn y Ci;unfold O3;split
  .rename_i c;refine Pr.2 ⟨λz b=>?_,h⟩;rcases Fm.1 b with rfl|b
   .exact c
   .exact Xl c (d.1 z b)
  .rename_i c;refine Pr.2 ⟨λz b=>?_,Amw d.2 λu a=>hn u (B2 _ a)⟩;obtain⟨u,a,rfl⟩:=A5.1 b;rcases Aee a with rfl|a
   .show y.1<u.1;omega
   .exact d.1 _ (F1 a)
def A1s {l:List Int} {n:Nat} (h:l.Pairwise (·<·)) (c:∀x,x∈l->1<=x/\x<=(n:Int)):l.length<=n:=by
 have h1:(l.map Int.toNat).Pairwise (·<·):=by refine List.pairwise_map.2 (h.imp_of_mem fun {a b} ha hb hab=>?_);have:=c a ha;omega
 have:=Pl.Akb (ys:=(List.range n).map (·+1)) h1 λj d=>by
  obtain⟨z,e,rfl⟩:=A5.1 d;have:=c z e;exact A5.2 ⟨z.toNat-1,Ot.2 ao9,ao9⟩
 simpa using this
def Ec.j8 (h:Ec vs t):t.cls.length<=16:=by
 have:=A1s (n:=16) h.aw λx b=>by
  obtain⟨p,a,rfl⟩:=A5.1 b;have:=h.cls p a;omega
 simpa using this
def A1t (h:Ec vs t) (d:Int) (c:Cl) (b:1<=d/\d<=16) (f:1<=c.seq/\c.seq<=1099511627776/\c.e=0/\0<=c.first/\c.first<=100/\0<=c.last/\c.last<=100):Ec vs { t with cls:=G2 t.cls d c }:=by
 refine⟨h.all,h.len,h.ep,h.tick,h.vi,h.since,?_,λp a=>?_⟩
 .show ((G2 t.cls d c).map Prod.fst).Pairwise (·<·);unfold G2;refine Amw (h.aw.sublist ((Aas).map Prod.fst)) λy g=>?_;have:=(F3.1 g).2;simpa using this
 .have a:p∈G2 t.cls d c:=a;unfold G2 at a;rcases Aee a with rfl|a
  .exact ⟨b.1,b.2,f⟩
  .exact h.cls p (F3.1 a).1
structure A1u (e:dy):Prop where
 ep:e.n.kind=1->1<=e.n.ai/\e.n.ai<=1099511627776
 cl:B6 e.n.kind=true->(1<=e.n.ag/\e.n.ag<=16)/\1<=e.n.seq/\e.n.seq<=1099511627776
 br:(e.n.kind=3\/e.n.kind=4\/e.n.kind=5\/e.n.kind=7)->e.n.br<=100
 specs:e.n.kind=2->e.specs≠[]
def Amx (h:Gq e=true):A1u e:=by
 have t:=(Nq h).kind;obtain⟨⟨i,o,tick,n,seq,q,attempt,node,p⟩,r⟩:=e
 have g:∀ {k:Int} {fs:List jd},i=k->D8 k=O fs->∃j,Gp ⟨i,o,tick,n,seq,q,attempt,node,p⟩ fs=O j/\U0 ⟨⟨i,o,tick,n,seq,q,attempt,node,p⟩,r⟩=true:=fun {k fs} e hf=>by
  obtain⟨j,h1,_,_,s⟩:=Ams h (fs:=fs) (by rw[<-hf,<-e]);exact⟨j,h1,s⟩
 have m:∀k,(k=1\/k=2\/k=3\/k=4\/k=5\/k=6\/k=7\/k=8\/k=9\/k=10\/k=11)->i=k->True:=λ_ _ _=>trivial;rcases t with rfl|rfl|rfl|rfl|rfl|rfl|rfl|rfl|rfl|rfl|rfl
 .obtain ⟨j,f,_⟩:=g rfl (k:=1) (fs:=[Uu]) rfl;have a:=(Bf f).1;simp[ju,Uu,dm.get]at a;exact⟨λ_=>a,λc=>absurd c (by simp[B6,Ek]),as9,as9⟩
 .obtain ⟨j,f,l⟩:=g rfl (k:=2) (fs:=[Dq,Dr]) rfl;have a:=(Bf f).1;have b:=(Bf (Bf f).2).1;simp[ju,Dq,Dr,dm.get,dm.set]at a b;refine⟨as9,λ_=>⟨a,b⟩,as9,λ_ c=>?_⟩;have c:r=[]:=c;subst c;simp[U0]at l
 .obtain ⟨j,f,l⟩:=g rfl (k:=3) (fs:=[Dq,Dr,Fu]) rfl;have a:=(Bf f).1;have b:=(Bf (Bf f).2).1;have d:=(Bf (Bf (Bf f).2).2).1;simp[ju,Dq,Dr,Fu,dm.get,dm.set]at a b d;exact⟨as9,λ_=>⟨a,b⟩,λ_=>d.2,as9⟩
 .obtain ⟨j,f,l⟩:=g rfl (k:=4) (fs:=[Dq,Dr,Fu]) rfl;have a:=(Bf f).1;have b:=(Bf (Bf f).2).1;have d:=(Bf (Bf (Bf f).2).2).1;simp[ju,Dq,Dr,Fu,dm.get,dm.set]at a b d;exact⟨as9,λ_=>⟨a,b⟩,λ_=>d.2,as9⟩
 .obtain ⟨j,f,l⟩:=g rfl (k:=5) (fs:=[Dq,Dr,Fu]) rfl;have a:=(Bf f).1;have b:=(Bf (Bf f).2).1;have d:=(Bf (Bf (Bf f).2).2).1;simp[ju,Dq,Dr,Fu,dm.get,dm.set]at a b d;exact⟨as9,λ_=>⟨a,b⟩,λ_=>d.2,as9⟩
 .exact ⟨as9,λc=>absurd c (by simp[B6,Ek]),as9,as9⟩
 .obtain ⟨j,f,l⟩:=g rfl (k:=7) (fs:=[Fu,Uv,F5,Uw]) rfl;have a:=(Bf f).1;simp[ju,Fu,dm.get]at a;exact⟨as9,λc=>absurd c (by show ¬B6 7=true;decide),λ_=>a.2,as9⟩
 .exact ⟨as9,λc=>absurd c (by simp[B6,Ek]),as9,as9⟩
 .exact ⟨as9,λc=>absurd c (by simp[B6,Ek]),as9,as9⟩
 .obtain ⟨j,f,l⟩:=g rfl (k:=10) (fs:=[Dq,Dr,F5]) rfl;have a:=(Bf f).1;have b:=(Bf (Bf f).2).1;simp[ju,Dq,Dr,dm.get,dm.set]at a b;exact⟨as9,λ_=>⟨a,b⟩,as9,as9⟩
 .obtain ⟨j,f,l⟩:=g rfl (k:=11) (fs:=[Dq,Dr,F5]) rfl;have a:=(Bf f).1;have b:=(Bf (Bf f).2).1;simp[ju,Dq,Dr,dm.get,dm.set]at a b;exact⟨as9,λ_=>⟨a,b⟩,as9,as9⟩
def V3 (js:List Jb):(Gk js).length=js.length:=by
 unfold Gk;rw[U3,Ar]
def Amy (tick:Int) (js:List Jb):(Ck tick js).length=js.length:=by
 unfold Ck;rw[V3,Ar]
def Amz (vs:List ar) (tick:Int) (bs:List Bool) (js:List Jb):(Ky vs tick bs js).length=js.length:=by
 unfold Ky;rw[Aea,Ar]
def Am0 {l:List du} (h0:(Cm vs t.ab.length l).2=0):((Es (l.zip (Cm vs t.ab.length l).1) t.ab).length:Int)=(t.ab.length:Int)+I5 l/\(t.ab.length:Int)+I5 l<=100/\∀s,s∈l->1<=s.array/\s.array<=20:=by
 obtain⟨h1,e,c⟩:=Adx h0;rw[c]at h0;obtain⟨h,j,i,d,k⟩:=Ads h0;rw[Ar]at h i;have a:=Adw (l.zip (Cm vs t.ab.length l).1) (λp f=>(d p.1.array (A5.2 ⟨p.1,(Wy f).1,rfl⟩)).1) t.ab
 have b:(l.zip (Cm vs t.ab.length l).1).map (λp=>p.1.array)=l.map λs=>s.array:=by
  rw[c];have:=Ady (l:=l) (m:=(G9 ((t.ab.length:Int)+1) (l.map λs=>s.array) (l.map λs=>s.after)).1) ao9
  conv=>rhs;rw[<-this]
  rw[Dm];rfl
 rw[b,<-Vx]at a;exact⟨a,e,λs g=>d s.array (F1 g)⟩
def A1v {l:List du} (h:∀s,s∈l->1<=s.array) (b:l≠[]):1<=I5 l:=by
 cases l with
 | nil=>exact absurd rfl b
 | cons s l=>
  have a:=(Vs (l.map λs=>s.array) (λn c=>by
   obtain⟨u,d,rfl⟩:=A5.1 c
   exact h u (B2 _ d)) (l.map λs=>s.array).length).2
  rw[Pu]at a;have e:=h s Ci;rw[Vx,Ko];unfold Fa at a ⊢;rw[Ww,Zk];omega
def Aef (h1:1<=e.n.br) (h0:J7 t e.n=0):∃(k:Nat) (j:Jb),t.ab[k]?=O j/\e.n.br=(k:Int)+1/\Fe t.ab e.n.br=j/\(e.n.kind≠7->(Ay j.lf (Fv e.n.kind)).2=0)/\(e.n.kind=7->∃i,Gl j e.n.attempt e.n.node=O i):=by
 unfold J7 at h0;split at h0
 .cases h0
 rename_i c;obtain⟨k,f⟩:∃k:Nat,e.n.br=(k:Int)+1:=⟨(e.n.br-1).toNat,ao9⟩;have b:t.ab[k]?=O (t.ab[k]'(by omega)):=A3 _;have a:Fe t.ab e.n.br=t.ab[k]'(by omega):=by unfold Fe;rw[f,show((k:Int)+1-1).toNat=k by omega,b];rfl
 rw[a]at h0;refine⟨k,_,b,f,a,λq=>?_,λq=>?_⟩
 .rw [Ad q]at h0;exact h0
 .rw [Ac (by simpa using q)]at h0;split at h0
  .cases h0
  .rename_i d
   cases hp:Gl (t.ab[k]'(by omega)) e.n.attempt e.n.node with
   | none=>exact absurd hp d
   | some i=>exact⟨i,rfl⟩
def Ec.ab (h:Ec vs t) {js:List Jb} (h1:Cs vs js) (a:js.length<=100):Ec vs { t with ab:=js }:=⟨h1,a,h.ep,h.tick,h.vi,h.since,h.aw,h.cls⟩
def Ec.ow (h:Ec vs t) (i:Nat) (f:E6->E6) (b:∀n,-1<=n.since/\n.since<1099511627776->-1<=(f n).since/\(f n).since<1099511627776):Ec vs { t with nodes:=t.nodes.modify i f }:=by
 refine⟨h.all,h.len,h.ep,h.tick,(Ic _ _ _).trans h.vi,λn c=>?_,h.aw,h.cls⟩;obtain⟨q,a⟩:=B4 c;have a:(t.nodes.modify i f)[q]?=O n:=a;rw[Dj]at a
 cases hu:t.nodes[q]? with
 | none=>
  rw[hu]at a;have a:(I:Option E6)=O n:=a;cases a
 | some u=>
  rw[hu]at a;have a:O (if i=q then f u else u)=O n:=a;have h1:=h.since u (Ai hu);split at a
  .injection a with a;rw[<-a];exact b u h1
  .injection a with a;rw[<-a];exact h1
structure V5 (vs:List ar) (t:dq) (e:dy):Prop where
 may:Gq e=true
 cl:B6 e.n.kind=true->(Lc t.cls e.n.ag).seq<e.n.seq
 ep:e.n.kind=1->t.ai<e.n.ai
 tick:e.n.kind=6->t.tick<e.n.tick
 sub:e.n.kind=2->(Cm vs t.ab.length e.specs).2=0
 node:8<=e.n.kind->e.n.kind<=11->Li t e.n=0
 br:(e.n.kind=3\/e.n.kind=4\/e.n.kind=5\/e.n.kind=7)->J7 t e.n=0
def Ry (h:Ea vs t e=0):V5 vs t e:=by
 unfold Ea at h;split at h
 .cases h
 rename_i a;split at h
 .cases h
 rename_i b;refine⟨by simpa using a,λq=>?_,λq=>?_,λq=>?_,λq=>?_,λq c=>?_,λq=>?_⟩
 .by_cases d:(Lc t.cls e.n.ag).seq<e.n.seq
  .exact d
  .exact absurd ⟨q,ao9⟩ b
 .rw [Ad q]at h;split at h
  .cases h
  .omega
 .rw [Ac ao9,Ad q]at h;split at h
  .cases h
  .omega
 .rw [Ac ao9,Ac ao9,Ad q]at h;exact h
 .rw [Ac ao9,Ac ao9,Ac ao9,Ad ⟨q,c⟩]at h;exact h
 .rw [Ac ao9,Ac ao9,Ac ao9,Ac ao9]at h;exact h
def Am1 (h:Ec vs t) (o:V5 vs t e):Ec vs (cq vs t e).1/\(cq vs t e).2.e=0/\0<=(cq vs t e).2.first/\(cq vs t e).2.first<=100/\0<=(cq vs t e).2.last/\(cq vs t e).2.last<=100:=by
 have f:=Nq o.may;have m:=Amx o.may
 have z:∀ {T:dq},Ec vs T->Ec vs (T,(⟨0,0,0,0⟩:Cl)).1/\(T,(⟨0,0,0,0⟩:Cl)).2.e=0/\0<=(T,(⟨0,0,0,0⟩:Cl)).2.first/\(T,(⟨0,0,0,0⟩:Cl)).2.first<=100/\0<=(T,(⟨0,0,0,0⟩:Cl)).2.last/\(T,(⟨0,0,0,0⟩:Cl)).2.last<=100:=λg=>⟨g,rfl,Dc 0,by show(0:Int)<=100;decide,Dc 0,by show(0:Int)<=100;decide⟩
 unfold cq;split
 .rename_i q;have:=m.ep q;exact z ⟨h.all,h.len,⟨by show 0<=e.n.ai;omega,this.2⟩,h.tick,h.vi,h.since,h.aw,h.cls⟩
 split
 .rename_i q;have h0:=o.sub q;obtain⟨a,b⟩:=Alp h.all h0;obtain⟨c1,c2,x⟩:=Am0 h0;have c4:=A1v (λs hs=>(x s hs).1) (m.specs q);refine⟨h.ab a b,rfl,?_,?_,?_,?_⟩
  .show 0<=(t.ab.length:Int)+1;omega
  .show (t.ab.length:Int)+1<=100;omega
  .show 0<=((Es (e.specs.zip (Cm vs t.ab.length e.specs).1) t.ab).length:Int);omega
  .show ((Es (e.specs.zip (Cm vs t.ab.length e.specs).1) t.ab).length:Int)<=100;omega
 split
 .rename_i q;have r:=f.tick (.inl q);refine z ⟨Amd (Vv h.all _) r.1 _,?_,h.ep,⟨by show -1<=e.n.tick;omega,r.2⟩,h.vi,h.since,h.aw,h.cls⟩;show(Ky vs e.n.tick _ (Ck e.n.tick t.ab)).length<=100;rw[Amz,Amy];exact h.len
 split
 .rename_i q;have y:=f.bq q;refine z (h.ab (Adu (h.all.b.mod λj i=>Azh (h.all.b _ _ i) ao9 y.2)) ?_);rw[V3];unfold C9;rw[Ic];exact h.len
 split
 .rename_i q;unfold Md;split
  .rename_i u;have h1:=h.ow e.n.node.toNat (λn=>⟨false,n.bt,n.since⟩) (λn l=>l);refine z (h1.ab (Azi h.all _) ?_);rw[V3,Ar];exact h.len
  split
  .rename_i u;have r:=f.tick (.inr (.inr u));exact z (h.ow _ (λn=>⟨true,n.bt,e.n.tick⟩) (λn l=>by show -1<=e.n.tick/\e.n.tick<_;omega))
  .exact z (h.ow _ (λn=>⟨n.up,decide (e.n.kind=10),n.since⟩) (λn l=>l))
 .rename_i q1 u q3 q4 q5;have hk:e.n.kind=3\/e.n.kind=4\/e.n.kind=5:=by have:=f.kind;omega
  have j1:=f.br ao9;have v:=m.br ao9;obtain⟨k,j,i,ac,_,p,_⟩:=Aef j1 (o.br ao9);have d:(e.n.br-1).toNat=k:=ao9
  refine⟨h.ab (Adt (h.all.mod λj' c=>?_)) ?_,rfl,?_,?_,?_,?_⟩
  .rw [d,i]at c;injection c with c;subst c;rw[d];refine Aze (h.all k j i) (p ao9) ?_;unfold Fv;split
   .exact .inl rfl
   .split
    .exact .inr (.inl rfl)
    .exact .inr (.inr rfl)
  .rw [U3];unfold C9;rw[Ic];exact h.len
  .show 0<=e.n.br;omega
  .exact v
  .show 0<=e.n.br;omega
  .exact v
def A1w (h:Ec vs t):Ec vs (Bi vs t e).1:=by
 unfold Bi;split
 .exact h
 .rename_i c;have d:=Ry (vs:=vs) (t:=t) (e:=e) (by simpa using c);obtain⟨a,b⟩:=Am1 h d;have m:=Amx d.may;show Ec vs (if B6 e.n.kind=true then { (cq vs t e).1 with cls:=G2 (cq vs t e).1.cls e.n.ag ⟨e.n.seq,(cq vs t e).2.e,(cq vs t e).2.first,(cq vs t e).2.last⟩ } else(cq vs t e).1);split
  .rename_i q;have:=m.cl q;exact A1t a _ _ this.1 ⟨this.2.1,this.2.2,b⟩
  .exact a
def A1x (vs:List ar) (t:dq) (e:dy):(cq vs t e).1.cls=t.cls:=by
 unfold cq;split
 .rfl
 split
 .rfl
 split
 .rfl
 split
 .rfl
 split
 .unfold Md;split
  .rfl
  split
  .rfl
  .rfl
 .rfl
end
section
open Go.RowKit Go.Maps Go.Lib
structure Dt (w0:WD) (T:Tv) (w:WD):Prop where
 tab:Ao w T
 ax:∀b,T.ax b->w0.heap.size<=b
 low:BW w0.heap.size w0 w
 ft:Ec T.vs T.pl
variable {w0 w w':WD} {T T':Tv}
def Dt.fy (h:Dt w0 T w) (a:Eb w T T' w') (d:Ec T.vs T'.pl):Dt w0 T' w':=
 ⟨a.at_,λb c=>by
  rcases a.ax b c with c|c
  .exact h.ax b c
  .exact A8 h.low.size c,h.low.trans (a.mod.below h.low.size h.ax),by rw[a.vs];exact d⟩
def Dt.drop (h:Dt w0 T w) (a:BW w.heap.size w w'):Dt w0 T w':=⟨h.tab.low a,h.ax,h.low.trans (a.mono h.low.size),h.ft⟩
def Qs (vs:List ar) (t:dq) (p:dy):Prop:=Ea vs t p=0->p.n.kind=6->Rx vs p.n.tick (jg { t with tick:=p.n.tick }) (Ck p.n.tick t.ab)
def Zx (w0 w:WD) (T:Tv) (p:dy) (e:Ending) (w':WD):Prop:=
 ∃T',e=Y (E #[Ir (Bi T.vs T.pl p).2.1,Z G (Bi T.vs T.pl p).2.2])/\Dt w0 T' w'/\T'.pl=(Bi T.vs T.pl p).1/\Eb w T T' w'/\Qs T.vs T.pl p
def A1y {k:Int}:(k=1->Oi k=81)/\(k=2->Oi k=82)/\(k=6->Oi k=83)/\(k=7->Oi k=84)/\((8<=k/\k<=11)->Oi k=85)/\((k=3\/k=4\/k=5)->Oi k=86):=by
 refine⟨?_,?_,?_,?_,?_,?_⟩
 .rintro rfl;rfl
 .rintro rfl;rfl
 .rintro rfl;rfl
 .rintro rfl;rfl
 .rintro ⟨a,b⟩
  have:k=8\/k=9\/k=10\/k=11:=ao9
  rcases this with rfl|rfl|rfl|rfl<;>rfl
 .rintro (rfl|rfl|rfl)<;>rfl
def Dt.dj {x:de} (h:Dt w0 T w) (c:x.ok w0):∀a,Mod T.ax w a->Kv a x.so x.m x.dj:=λ_ b=>c.dj.low (h.low.trans (b.below h.low.size h.ax))
def Zy (x:de) (h:Dt w0 T w) (p:x.ok w) (an:∀W',Mod T.ax w W'->Kv W' x.so x.m x.dj) (ac:x.n.kind=6->T.js.length<=20) :
  CS prog 15 #[K (O ⟨T.tb,0,I⟩),x.val] w (Zx w0 w T x.pl):=by
 have al:T.pl.ab.length=T.js.length:=by simp[Tv.pl]
 have ad:T.js.length<=100:=by have:=h.ft.len;omega
 have end_:∀e w',Aed w T (Bi T.vs T.pl x.pl) e w'->Qs T.vs T.pl x.pl->Zx w0 w T x.pl e w':=λe w' a hR=>by
  obtain⟨he,T',ht,z⟩:=a;exact⟨T',he,h.fy ht (by rw[z];exact A1w h.ft),z,ht,hR⟩
 by_cases hr:Ea T.vs T.pl x.pl=0
 .have hw:=Ry hr;have f:=Nq hw.may;obtain⟨d1,d2,d6,d7,d8,d3⟩:=A1y (k:=x.n.kind);refine(A1r x h.tab p ao9 hr (by rw[A1x];have:=h.ft.j8;omega) (Qs T.vs T.pl x.pl) (λW hW=>?_)).mono λe w' a=>end_ e w' a.1 a.2;have u:=h.tab.low hW;have o:=h.ft.all.b.j5;have d:x.n.kind≠6->Qs T.vs T.pl x.pl:=λq _ c=>absurd c q;by_cases r:x.n.kind=1
  .rw [d1 r,show cq T.vs T.pl x.pl=({ T.pl with ai:=x.n.ai },⟨0,0,0,0⟩)from Ad r];exact(Ay9 x u).mono λe w' a=>⟨a,d ao9⟩
  by_cases s:x.n.kind=2
  .have l:cq T.vs T.pl x.pl=No T.vs T.pl (x.dj.map ay.pl):=(by unfold cq;rw[Ac (show ¬x.pl.n.kind=1 from r),Ad (show x.pl.n.kind=2 from s)];rfl);rw[d2 s,l];have h0:=hw.sub s;rw[al]at h0;refine(A1m x.n x.so x.m x.c x.dj u h.ft.all ao9 (λW' hm=>an W' ((Mod.af hW).trans hm)) ?_ h0).mono λe w' a=>⟨a,d ao9⟩
   .have h1:=p.dj.len;have h2:=f.len;have h3:x.pl.specs.length=x.dj.length:=Ar _;omega
  by_cases g:x.n.kind=6
  .have l:cq T.vs T.pl x.pl=(Ro T.vs T.pl x.n.tick,⟨0,0,0,0⟩):=(by unfold cq;rw[Ac (show ¬x.pl.n.kind=1 from r),Ac (show ¬x.pl.n.kind=2 from s),Ad (show x.pl.n.kind=6 from g)];rfl);rw[d6 g,l];have ht:=f.tick (.inl g);have ht:0<=x.n.tick/\x.n.tick<1099511627776:=ht;exact(A1e x.n.kind x.n.ai x.n.tick x.n.ag x.n.seq x.n.br x.n.attempt x.n.node x.n.bq x.so x.m x.c x.dj u h.ft.all (ac g)).mono λe w' a=>⟨a.1,λ_ _=>a.2⟩
  by_cases t:x.n.kind=7
  .have l:cq T.vs T.pl x.pl=(Ah9 T.pl x.n,⟨0,0,0,0⟩):=(by unfold cq;rw[Ac (show ¬x.pl.n.kind=1 from r),Ac (show ¬x.pl.n.kind=2 from s),Ac (show ¬x.pl.n.kind=6 from g),Ad (show x.pl.n.kind=7 from t)];rfl);rw[d7 t,l];obtain⟨k,j,v,hk,_,_,a⟩:=Aef (f.br (.inr (.inr (.inr t)))) (hw.br (.inr (.inr (.inr t))));obtain⟨i,hi⟩:=a t;have v:(T.js.map λj=>j.2.pl)[k]?=O j:=v;rw[A7]at v;obtain⟨jx,am,rfl⟩:=K5.1 v;exact(Ay6 x u o k jx am hk i hi).mono λe w' a=>⟨Alj a,d g⟩
  by_cases y:8<=x.n.kind/\x.n.kind<=11
  .have l:cq T.vs T.pl x.pl=(Md T.pl x.n,⟨0,0,0,0⟩):=(by unfold cq;rw[Ac (show ¬x.pl.n.kind=1 from r),Ac (show ¬x.pl.n.kind=2 from s),Ac (show ¬x.pl.n.kind=6 from g),Ac (show ¬x.pl.n.kind=7 from t),Ad (show 8<=x.pl.n.kind/\x.pl.n.kind<=11 from y)];rfl);rw[d8 y,l];have h0:=hw.node y.1 y.2;have ap:0<=x.n.node:=f.node (by show x.n.kind=7\/x.n.kind=8\/x.n.kind=9\/x.n.kind=10\/x.n.kind=11;omega)
   have av:x.n.node<(T.nodes.length:Int):=by
    unfold Li at h0;split at h0
    .cases h0
    .rename_i c;have c:¬(T.nodes.length:Int)<=x.n.node:=c;omega
   exact(Azm x u o x.n.node.toNat ao9 ao9 y).mono λe w' a=>⟨a,d g⟩
  .have q3:x.n.kind=3\/x.n.kind=4\/x.n.kind=5:=(by have:=f.kind;have this:x.n.kind=1\/x.n.kind=2\/x.n.kind=3\/x.n.kind=4\/x.n.kind=5\/x.n.kind=6\/x.n.kind=7\/x.n.kind=8\/x.n.kind=9\/x.n.kind=10\/x.n.kind=11:=this;omega);have l:cq T.vs T.pl x.pl=Ah8 T.pl x.n:=(by unfold cq;rw[Ac (show ¬x.pl.n.kind=1 from r),Ac (show ¬x.pl.n.kind=2 from s),Ac (show ¬x.pl.n.kind=6 from g),Ac (show ¬x.pl.n.kind=7 from t),Ac (show ¬(8<=x.pl.n.kind/\x.pl.n.kind<=11)from y)];rfl);rw[d3 q3,l];obtain⟨k,j,v,hk,_,_,_⟩:=Aef (f.br (by show x.n.kind=3\/x.n.kind=4\/x.n.kind=5\/x.n.kind=7;omega)) (hw.br (by show x.n.kind=3\/x.n.kind=4\/x.n.kind=5\/x.n.kind=7;omega));have ao:=(An.1 v).1;exact(Ay2 x u o k ao9 hk).mono λe w' a=>⟨Alj a,d g⟩
 .exact (A1q x h.tab p ao9 hr).mono λe w' a=>end_ e w' a λc=>absurd c hr
end
section
open Go.RowKit Go.Maps Go.Lib
variable {w0 w w':WD} {T T':Tv}
def Dt.wt (h:Dt w0 T w) {j:Nat×aj} (a:j∈T.js):∃k,Is T.vs T.pl.ab.length k j.2.pl:=by
 obtain⟨k,b⟩:=B4 a
 have:T.pl.ab[k]?=O j.2.pl:=by show(T.js.map λj=>j.2.pl)[k]?=_;simp[b]
 exact⟨k,h.ft.all k _ this⟩
def Dt.rows (h:Dt w0 T w):(∀j,j∈T.js->Zp j.2)/\(∀j,j∈T.js->Ad2 j.2)/\T.js.length<=100:=by
 have i:∀j,j∈T.js->j.2.sn<=160/\j.2.gn<=16/\j.2.pn<=1000/\vr j.2.pl.sp.df 1099511627776:=λj f=>by
  obtain⟨k,g⟩:=h.wt f;have ok:=h.tab.ok j f;have p:=ok.after.row.len;have r:=ok.ah.row.len;have s:=Ks ok.parts;have t:=g.ug;have u:=Amq g.toFz;obtain⟨_,_,l,_,o,_⟩:=Gy (Jd g.gp);obtain⟨_,m⟩:=Ig.1 o;have m:j.2.pl.sp.nodes<=16:=m
  have n:j.2.pl.ah.length<=16:=by
   by_cases q:j.2.pl.start<0
   .rw [g.uw q];simp
   .have:=(g.ah ao9).1.len;omega
  refine⟨ao9,ao9,ao9,?_⟩;have l:j.2.pl.sp.df.right=true:=(Uq.1 l).1;have:=Pl.F9.1 l;unfold vr;omega
 refine⟨λj f=>?_,λj f=>?_,?_⟩
 .obtain ⟨a,b,c,_⟩:=i j f;exact⟨ao9,ao9,ao9⟩
 .obtain ⟨_,_,c,d⟩:=i j f;exact⟨d,c⟩
 .have:=h.ft.len;have e:T.pl.ab.length=T.js.length:=by simp[Tv.pl]
  omega
def A1z (vs:List ar):Ec vs ⟨0,-1,[],List.replicate vs.length mg,[]⟩:=by
 refine⟨λk j b=>by simp at b,as9,⟨Dc 0,by show(0:Int)<=1099511627776;decide⟩,⟨Dc _,by show(-1:Int)<1099511627776;decide⟩,as9,λn a=>?_,as9,λp c=>by simp at c⟩;have a:n∈List.replicate vs.length mg:=a;rw[(Wp.1 a).2];decide
def Am2 {a f d:Nat} {vs:List ar} (o:lu w a f d vs) (c:Jr vs):CS prog 14 #[K (O ⟨a,0,I⟩)] w λe w'=>∃T:Tv,e=Y (K (O ⟨T.tb,0,I⟩))/\Dt w T w'/\T.vs=vs/\T.pl=⟨0,-1,[],List.replicate vs.length mg,[]⟩/\T.fb=a/\T.fm=f/\T.fl=d/\T.js=[]/\BW w.heap.size w w':=
 (Acs o c).mono λe w' h=>by
  obtain⟨T,n,q,i,p,h1,k,l,g,b⟩:=h;have m:(T.js.map λj=>j.2.pl)=[]:=by have:=Cv dq.ab b;exact this
  exact⟨T,n,⟨q,p,i,by rw[g,b];exact A1z vs⟩,g,b,h1,k,l,by simpa using m,i⟩
def Zz (x:de) (h:Dt w0 T w) (f:x.ok w) (d:∀g,Mod T.ax w g->Kv g x.so x.m x.dj) (a:x.n.kind=6->T.js.length<=20) {t':dq} {c:Cl} {r:Int} (b:Qs T.vs T.pl x.pl->Bi T.vs T.pl x.pl=(t',c,r)) :
  CS prog 15 #[K (O ⟨T.tb,0,I⟩),x.val] w λe w'=>∃T':Tv,e=Y (E #[Ir c,Z G r])/\Dt w0 T' w'/\T'.pl=t'/\Eb w T T' w':=
 (Zy x h f d a).mono λe w' o=>by
  obtain⟨T',j,h1,i,k,l⟩:=o;rw[b l]at j i;exact⟨T',j,h1,i,k⟩
def Am3 (h:Dt w0 T w) {k:Nat} {jp:Jb} (a:T.pl.ab[k]?=O jp) (d:Int) (m:d=(k:Int)+1) :
  CS prog 16 #[K (O ⟨T.tb,0,I⟩),Z G d] w λe w'=>∃y:aj,e=Y (E #[y.val,Q true])/\y.pl=jp/\BW w.heap.size w w':=
 (Azt h.tab h.rows.1 d).mono λe w' n=>by
  obtain⟨i,⟨f,_⟩|⟨g,j,y,o,b,l,f⟩⟩:=n
  .have:k<T.js.length:=by have:=(An.1 a).1;simpa[Tv.pl]using this
   omega
  .have c:g=k:=ao9;subst c;have a:(T.js.map λj=>j.2.pl)[g]?=O jp:=a;rw[A7,b]at a;injection a with a;exact⟨y,l,by rw[f.pl];exact a,i⟩
def A10 (h:Dt w0 T w) (node:Int):CS prog 17 #[K (O ⟨T.tb,0,I⟩),Z G node] w λe w'=>e=Y (Up T.pl.ab node).val/\BW w.heap.size w w':=
 Azy h.tab h.rows.2.1 (by have:=h.rows.2.2;omega) node
def Aeg (n:dm) (w:WD) (a:∀i,-9223372036854775808<=n.get i/\n.get i<=9223372036854775807):(⟨n,I,0,0,[]⟩:de).ok w:=⟨⟨rfl,As _,λi x b=>by simp at b⟩,Nat.le_refl _,a⟩
def Aeh (W:WD):Kv W I 0 []:=⟨rfl,ad9,λi x a=>by simp at a⟩
end
section
open Go.RowKit Go.Maps Go.Lib
def Ao.vl {w w':WD} {T:Tv} (h:Ao w T) {b:Nat} {c:Array VL} {g:TypeId} (p:w.heap[b]?=O (J c g (0,0))) (f:Mod (λk=>k=b) w w') (h1:g≠115) (n:g≠119) (u:g≠125) (v:g≠46) (x:g≠65) (y:g≠30)
  (hj:T.js=[]) (hl:b<T.fb/\b<T.fm/\b<T.fl):Ao w' T:=by
 have hn:=h.off p h1 n u v x;have m:∀k,T.ax k->k≠b:=λk c e=>hn (e▸c)
 have no:∀ {P:Nat×aj->Prop} j,j∈T.js->P j:=λj l=>by rw[hj]at l;cases l
 refine⟨f.au h.head (m _ (.inl rfl)),h.cls.mod f (m _ (.inr (.inl rfl))),Bd h.nodes f (λk e=>m k (.inr (.inr (.inl e)))),Bd h.ab f (λk e=>m k (.inr (.inr (.inr (.inl e))))),
  Bd h.az f (λk e c=>?_),no,no,h.one,h.two,?_,h.same⟩
 .subst c;exact Bv h.az p y.symm e
 .obtain ⟨a,s,i,t⟩:=h.dt.ex
  have q:∀k,k<a.heap.size->(w'.heap.extract 0 a.heap.size)[k]?=w'.heap[k]?:=λk d=>by
   have h1:=i.size;have n:=f.size;rw[Array.getElem?_extract,Ad ao9,Db]
  have hs:(w'.heap.extract 0 a.heap.size).size=a.heap.size:=by have h1:=i.size;have n:=f.size;simp;omega
  refine⟨⟨{ w' with heap:=w'.heap.extract 0 a.heap.size },?_,⟨rfl,rfl,rfl,?_,λk d=>?_⟩,λk d=>?_⟩,h.dt.ok⟩
  .refine s.other (by show _<=(w'.heap.extract 0 a.heap.size).size;omega) λk o r z=>?_;have d:=(R4.1 r).1;show(w'.heap.extract 0 a.heap.size)[k]?=O o;rw[q k d,f.block k (Bq d i.size) (by rcases z with c|c|c<;>omega),i.block k d];exact r
  .show (w'.heap.extract 0 a.heap.size).size<=_;have h1:=i.size;have n:=f.size;omega
  .have d:k<(w'.heap.extract 0 a.heap.size).size:=d;exact(q k ao9).symm
  .show (w'.heap.extract 0 a.heap.size).size<=k;have:=t k d;omega
def Rz:VL:=.agg #[V I 0 0,Z G 0,Z G 0,V I 0 0,V I 0 0,V I 0 0]
def A14 (w:WD) (e:Ending) (w':WD):Prop:=
 (e=Y (E #[K I,Rz,Q false])/\BW w.heap.size w w') \/
 ∃(T:Tv) (xs:List aq) (fo:Option Addr) (fn fc:Nat) (so:Option Addr) (n c:Nat),e=Y (E #[K (O ⟨T.tb,0,I⟩),.agg #[V fo fn fc,Z G 0,Z G (-1),V I 0 0,V so n c,V I 0 0],Q true]) /\
  Dt w T w'/\T.pl=⟨0,-1,[],List.replicate T.vs.length mg,[]⟩/\iz w' 0 (V fo fn fc) xs/\xs.map aq.pl=T.vs/\Jr T.vs
def Dt.back {d w1 w:WD} {T:Tv} (h:Dt w1 T w) (a:BW d.heap.size d w1):Dt d T w:=⟨h.tab,λb c=>A8 a.size (h.ax b c),a.trans (h.low.mono a.size),h.ft⟩
def Am4 {W:WD} {base:Nat} {a:VL} {xs:List aq} (h:iz W base a xs):∃d c,a=V d xs.length c:=by
 rcases h.row.2 with⟨e,h0⟩|⟨g,cap,b,e,_⟩
 .exact ⟨I,0,by rw[h0,<-e]⟩
 .exact ⟨_,_,e⟩
def A15 {W:WD} {base:Nat} {a:VL} {xs:List aq} (h:iz W base a xs):iz W 0 a xs:=⟨Abu h.row (As _),h.ok⟩
def Dt.oy {w a:WD} {T:Tv} {cs:Array VL} (h:Dt w T a) (l:a.heap[w.heap.size]?=O (J cs 59 (0,0))) (m:T.js=[]) (n:w.heap.size<T.fb/\w.heap.size<T.fm/\w.heap.size<T.fl) (c d f g i j:VL) :
  Dt w T ((((((a.setCell ⟨w.heap.size,0,I⟩ c).setCell ⟨w.heap.size,1,I⟩ d).setCell ⟨w.heap.size,2,I⟩ f).setCell ⟨w.heap.size,3,I⟩ g).setCell ⟨w.heap.size,4,I⟩ i).setCell ⟨w.heap.size,5,I⟩ j):=by
 have b:=((((((Mod.refl (λk=>k=w.heap.size) a).set _ 0 c rfl).set _ 1 d rfl).set _ 2 f rfl).set _ 3 g rfl).set _ 4 i rfl).set _ 5 j rfl;exact⟨h.tab.vl l b ad9 ad9 ad9 ad9 ad9 ad9 m n,h.ax,h.low.trans (b.below h.low.size λk e=>by omega),h.ft⟩
def iz.oy {w a:WD} {g:VL} {xs:List aq} {cs:Array VL} (h:iz a 0 g xs) (b:a.heap[w.heap.size]?=O (J cs 59 (0,0))) (i j k l m p:VL) :
  iz ((((((a.setCell ⟨w.heap.size,0,I⟩ i).setCell ⟨w.heap.size,1,I⟩ j).setCell ⟨w.heap.size,2,I⟩ k).setCell ⟨w.heap.size,3,I⟩ l).setCell ⟨w.heap.size,4,I⟩ m).setCell ⟨w.heap.size,5,I⟩ p) 0 g xs:=by
 have s:∀ {W:WD} {cs:Array VL} (o:Nat) (v:VL),W.heap[w.heap.size]?=O (J cs 59 (0,0))->(W.setCell ⟨w.heap.size,o,I⟩ v).heap[w.heap.size]?=O (J (cs.setIfInBounds o v) 59 (0,0)):=λo v h=>Ap h o v;have c:=s 0 i b;have d:=s 1 j c;have e:=s 2 k d;have f:=s 3 l e;have n:=s 4 m f;exact Q6 (Q6 (Q6 (Q6 (Q6 (Q6 h b ad9 ad9) c ad9 ad9) d ad9 ad9) e ad9 ad9) f ad9 ad9) n ad9 ad9
def Am5 (s:ByteArray) (w:WD) (hm:Mx w):CS prog 18 #[D s] w (A14 w):=by
 obtain⟨W0,r⟩:=Ex (w.alloc (J #[V I 0 0,Z G 0,Z G 0,V I 0 0,V I 0 0,V I 0 0] 59));have b0:BW w.heap.size w W0:=by rw[r];exact Bn
 have al:W0.heap[w.heap.size]?=O (J #[V I 0 0,Z G 0,Z G 0,V I 0 0,V I 0 0,V I 0 0] 59 (0,0)):=by rw[r];exact Ah _ _
 have aE:W0.heap.size=w.heap.size+1:=by rw[r];simp
 have kr:=Agi s W0 (hm.low b0)
 have k:Jr (E5 s).1:=by
  unfold E5;split
  .exact X8
  .exact Abq _ [] X8
 replace⟨b0,al,kr,hm,aE,k⟩:=H6 b0 al kr hm aE k;go_enter func18,ntmps18;go_upto_region 1 with fail;rw[<-r];clear r;go_wp2_with fail;refine kr.mono ?_;intro e w1 h1;obtain⟨p,rfl,b1,hc⟩:=h1;have a:=Ae b1 al.out (Ab al.out);have d:=b0.trans (b1.mono b0.size);obtain⟨e2,i⟩:=Ex ((E5 s).2.2);rw[<-i];by_cases u:(E5 s).2.1=0;rotate_left
 .obtain ⟨e1,ap⟩:=Ex ((E5 s).2.1);rw[<-ap]at u ⊢;have d1:(e1 != 0)=true:=by simpa using u
  have r0:=Bk a 0 (V I 0 0) rfl;have r1:=Bk a 1 (Z G 0) rfl;have r2:=Bk a 2 (Z G 0) rfl;have r3:=Bk a 3 (V I 0 0) rfl;have r4:=Bk a 4 (V I 0 0) rfl;have r5:=Bk a 5 (V I 0 0) rfl;have fr:=Ag a;clear u;replace⟨b1,hc,a,d,ap,i⟩:=H6 b1 hc a d ap i;go_wp2_with fail;refine Al (v:=E #[K I,Rz,Q false]) (by simp[results,results18,go_sem,r0,r1,r2,r3,r4,r5,Rz]) rfl (.inl ⟨rfl,?_⟩);exact E1 (E1 (E1 (E1 (E1 (E1 d.out Ln) Ln) Ln) Ln) Ln) Ln
 have kx:=Aq4 s w1;unfold Yd at kx;rw[u]at hc kx ⊢;by_cases aH:2000<s.size
 .have d1:decide ((2000:Int)<s.size)=true:=Az ao9;have r0:=Bk a 0 (V I 0 0) rfl;have r1:=Bk a 1 (Z G 0) rfl;have r2:=Bk a 2 (Z G 0) rfl;have r3:=Bk a 3 (V I 0 0) rfl;have r4:=Bk a 4 (V I 0 0) rfl;have r5:=Bk a 5 (V I 0 0) rfl;have fr:=Ag a;replace⟨b1,hc,a,d,u,i,kx⟩:=H7 b1 hc a d u i kx;go_wp2_with fail;refine Al (v:=E #[K I,Rz,Q false]) (by simp[results,results18,go_sem,r0,r1,r2,r3,r4,r5,Rz]) rfl (.inl ⟨rfl,?_⟩);exact E1 (E1 (E1 (E1 (E1 (E1 d.out Ln) Ln) Ln) Ln) Ln) Ln
 have d1:decide ((2000:Int)<s.size)=false:=A2 ao9
 obtain⟨hf,rfl⟩:lu w1 (W0.heap.size+4) (W0.heap.size+3) (W0.heap.size+7) (E5 s).1/\p=O ⟨W0.heap.size+4,0,I⟩:=by
  rcases hc with⟨c,_⟩|⟨_,c,hf⟩
  .exact absurd rfl c
  .exact ⟨hf,c⟩
 clear hc;replace⟨b1,a,d,u,i,kx,hf,aH⟩:=H8 b1 a d u i kx hf aH;go_wp2_with fail;refine kx.mono ?_;intro e w2 h2;obtain⟨nv,xs,rfl,b2,o,aC⟩:=h2;obtain⟨fo,fc,rfl⟩:=Am4 o;obtain⟨fn,ad⟩:=Ex (xs.length);rw[<-ad]at o ⊢;have am:=Ae b2 a.out (Ab a.out);replace⟨b2,o,aC,am,ad⟩:=H5 b2 o aC am ad;go_upto_region 5 with fail;obtain⟨q,y⟩:=Ex (w2.heap.size);obtain⟨z,ac⟩:=Ex (w2.alloc (J #[V fo fn fc] 54 (0,0)));have b3:BW w2.heap.size w2 z:=by rw[ac];exact Bn
 have l:z.heap[q]?=O (J #[V fo fn fc] 54 (0,0)):=by rw[ac,y];exact Ah _ _
 have a:=Ae b3 am.out (Ab am.out);have f:=d.trans ((b2.trans (b3.mono b2.size)).mono d.size);have av:=(hf.below b2.out).below b3;have ao:=A15 (o.below b3);have x:=k.out;have m:=aC (by first|trivial|exact u.out);have j:fn<=4096:=by have h1:=x.len;have h2:=Cv List.length m;rw[Ar]at h2;have h3:=ad.out;omega
 rw[<-ac,<-y];clear ac y
 have aF:∀W,BW z.heap.size z W->CS prog 14 #[K (O ⟨W0.heap.size+4,0,I⟩)] W λe w'=>∃T:Tv,e=Y (K (O ⟨T.tb,0,I⟩))/\Dt w T w'/\T.vs=(E5 s).1/\T.pl=⟨0,-1,[],List.replicate T.vs.length mg,[]⟩/\(w.heap.size<T.fb/\w.heap.size<T.fm/\w.heap.size<T.fl)/\T.js=[]/\BW W.heap.size W w':=λW hW=>
  (Am2 (av.below hW) x).mono λe w' h=>by
   obtain⟨T,u,hP,h1,h2,h3,h4,h5,h6,h7⟩:=h;have:=aE.out;exact⟨T,u,hP.back (f.trans (hW.mono f.size)),h1,by rw[h2,h1],ao9,h6,h7⟩
 have aG:=λW=>A13 fo fn fc j W;have b:=Below.refl z.heap.size z;have x0:=Bk l 0 (V fo fn fc) rfl;have r0:=Bk a 0 (V I 0 0) rfl;have r1:=Bk a 1 (Z G 0) rfl;have r2:=Bk a 2 (Z G 0) rfl;have r3:=Bk a 3 (V I 0 0) rfl;have r4:=Bk a 4 (V I 0 0) rfl;have r5:=Bk a 5 (V I 0 0) rfl;have fr:=Ag a;replace⟨b3,l,a,f,av,ao,x,m⟩:=H8 b3 l a f av ao x m;replace⟨j,aF,aG,b⟩:=H4 j aF aG b
 go_region_with (first
  | (go_at_call 14
     with_reducible refine(aF.out _ (by first|exact b.out|exact b.out.drew)).mono ?_
     rintro e wa ⟨T,rfl,hP,an,aD,aB,aA,t⟩;have y:=t.mono b.size
     replace b:Hid (BW z.heap.size z wa):=by first|exact Hh (b.trans y)|exact Hh (b.drew.trans y)
     clear y r0 r1 r2 r3 r4 r5 fr x0;have a:=Ae t a.out (Ab a.out);have l:=Ae t l.out (Ab l.out);have x0:=Bk l 0 (V fo fn fc) rfl;have r0:=Bk a 0 (V I 0 0) rfl;have r1:=Bk a 1 (Z G 0) rfl;have r2:=Bk a 2 (Z G 0) rfl;have r3:=Bk a 3 (V I 0 0) rfl;have r4:=Bk a 4 (V I 0 0) rfl;have r5:=Bk a 5 (V I 0 0) rfl;have fr:=Ag a;replace⟨hP,an,aD,aB,aA,t,a,l⟩:=H8 hP an aD aB aA t a l
     skip)
  | (go_at_call 48
     with_reducible refine(aG.out _).mono ?_
     rintro e wb ⟨so,n,c,rfl,g⟩;have y:=g.mono b.size
     (try (replace hP:Hid (Dt w T wb):=by first|exact Hh (hP.drop g)|exact Hh ((hP.drop (Below.refl _ _).drew).drop g)))
     replace b:Hid (BW z.heap.size z wb):=by first|exact Hh (b.trans y)|exact Hh (b.drew.trans y)
     clear y r0 r1 r2 r3 r4 r5 fr x0;have a:=Ae g a.out (Ab a.out);have l:=Ae g l.out (Ab l.out);have x0:=Bk l 0 (V fo fn fc) rfl;have r0:=Bk a 0 (V I 0 0) rfl;have r1:=Bk a 1 (Z G 0) rfl;have r2:=Bk a 2 (Z G 0) rfl;have r3:=Bk a 3 (V I 0 0) rfl;have r4:=Bk a 4 (V I 0 0) rfl;have r5:=Bk a 5 (V I 0 0) rfl;have fr:=Ag a;replace⟨g,a,l⟩:=H3 g a l
     skip))
 all_goals
  go_wp2_with fail;refine Al (v:=E #[K (O ⟨T.tb,0,I⟩),.agg #[V fo fn fc,Z G 0,Z G (-1),V I 0 0,V so n c,V I 0 0],Q true]) (by simp[results,results18,go_sem,r0,r1,r2,r3,r4,r5]) rfl (.inr ⟨T,xs,fo,fn,fc,so,n,c,rfl,hP.oy a.out aA.out aB.out _ _ _ _ _ _,aD.out,(ao.below b.out).oy a.out _ _ _ _ _ _,?_,?_⟩)
  .rw [m.out,an.out]
  .rw [an.out];exact x.out
def eo (i:Int) (j:Jb):Nat:=(j.parts.filter λp=>decide (p.1=i) && decide (p.2=0)).length
def Pm (n:Nat) (v:V4):V4:=⟨n*v.a,n*v.b,n*v.c,n*v.d⟩
def Dw:List V4->V4
 | []=>V4.zero
 | x :: xs=>Pl.Aq x (Dw xs)
def R1 (i:Int) (j:Jb):V4:=Pm (eo i j) j.sp.df
def Nr {a b c d:V4} (h:a.leq b) (k:c.leq d):(Pl.Aq a c).leq (Pl.Aq b d):=by
 simp only[V4.leq,Pl.Aq]at *;omega
def Tq {a b c:V4} (h:a.leq b) (k:b.leq c):a.leq c:=by
 simp only[V4.leq]at *;omega
def Jh (a:V4):a.leq a:=by
 simp only[V4.leq];omega
def Z1 {m n:Nat} {v:V4} (h:m<=n) (g:V4.zero.leq v):(Pm m v).leq (Pm n v):=by
 have e:∀a:Int,0<=a->(m:Int)*a<=(n:Int)*a:=λa f=>Int.mul_le_mul_of_nonneg_right ao9 f;obtain⟨h1,b,c,d⟩:=Pl.Oc.1 g;exact⟨e _ h1,e _ b,e _ c,e _ d⟩
def Aek (v:V4):Pm 0 v=V4.zero:=by simp[Pm,V4.zero]
def Ana (v:V4):Pm 1 v=v:=by simp[Pm]
def A2h (a b:Jb):Prop:=a.sp.df=b.sp.df/\∀i,eo i a<=eo i b
def Anb {P:Int×Int->Bool} {f:Int×Int->Int×Int} (a:∀p,P (f p)=false):∀(l:List (Int×Int)) (k:Nat),((l.modify k f).filter P).length<=(l.filter P).length
 | [],k=>by simp
 | p :: l,0=>by
  have e:(f p :: l).filter P=l.filter P:=by rw[Km,a p];rfl
  show((f p :: l).filter P).length<=_;rw[e,Km];split
  .exact D5 _
  .exact Nat.le_refl _
 | p :: l,k+1=>by
  show((p :: l.modify k f).filter P).length<=_;have:=Anb a l k;rw[Km,Km];by_cases c:P p=true
  .rw [Ad c,Ad c];exact Nat.succ_le_succ this
  .rw [Ac c,Ac c];exact this
def A2i (j:Jb) (k:Nat) {a:Int} (h:a≠0):A2h (Em j k a) j:=⟨rfl,λi=>Anb (λp=>by simp[h]) _ _⟩
def A2j {n:Nat} {zs:List Int} (h:Pl.Cy n zs):zs.Pairwise (·<·):=by
 have e:∀i,i<zs.length->∀d,zs[i]?=O d->Pl.zi zs i=d:=λi m d l=>by
  simp[Pl.zi,List.getD,l]
 have f:∀d a,a+d+1<zs.length->Pl.zi zs a<Pl.zi zs (a+d+1):=λd=>by
  induction d with
  | zero=>intro a c;exact h.aw a c
  | succ d ih=>
   intro a c;have h1:=ih a ao9;have j:=h.aw (a+d+1) ao9;exact Xl h1 j
 refine L1.2 λa b c g k=>?_;have:=f (b-a-1) a ao9;rw[show a+(b-a-1)+1=b by omega]at this;rw[e a c _ (A3 c),e b g _ (A3 g)]at this;exact this
def A2k {zs:List Int} {i:Nat} (h:(i:Int)∈zs):Pl.Bx zs zs.length i:=by
 obtain⟨k,a⟩:=B4 h;exact⟨k,(An.1 a).1,by simp[Pl.zi,List.getD,a]⟩
def Anc {i:Int}:∀ {zs:List Int},zs.Pairwise (·<·)->(zs.filter λz=>decide (z=i)).length<=(if i∈zs then 1 else 0)
 | [],_=>by simp
 | z :: zs,h=>by
  have b:=Pr.1 h;have a:=Anc (i:=i) b.2;rw[Km];by_cases e:z=i
  .have f:i∉zs:=λc=>by have:=b.1 i c;omega
   rw[Ac f]at a;rw[Ad (by simpa using e),Ad (by rw[e];exact Ci),Jl];omega
  .rw [Ac (by simpa using e)];by_cases c:i∈zs
   .rw [Ad c]at a;rw[Ad (B2 _ c)];exact a
   .rw [Ac c]at a;rw[Ac (λd=>by rcases Fm.1 d with d|d;exact e d.symm;exact c d)];exact a
def Ane {zs:List Int} (h:zs.Pairwise (·<·)) {v:V4} (b:V4.zero.leq v) (i:Nat) {fr u d:Int} (h1:fr<=u) (f:u<d):(Pm (zs.filter λz=>decide (z=(i:Int))).length v).leq (Pl.gg zs fr d v i u):=by
 have a:=Anc (i:=(i:Int)) h;unfold Pl.gg;by_cases c:(i:Int)∈zs
 .rw [Ad c]at a;rw[Ad ⟨A2k c,h1,f⟩];have:=Z1 a b;rw[Ana]at this;exact this
 .rw [Ac c]at a;have e:(zs.filter λz=>decide (z=(i:Int))).length=0:=ao9
  rw[e,Aek];split
  .exact b
  .exact Jh _
def Anf (j:Jb) (i:Int):eo i j=(((j.parts.filter λp=>decide (p.2=0)).map Prod.fst).filter λz=>decide (z=i)).length:=by
 unfold eo;rw[Uc,Ar,List.filter_filter];rfl
def A2l (i:Int) (j:Jb) (zs:List Int) (l:Lf) (st:Int) (g:List Int):eo i ⟨j.id,j.sp,l,st,g,j.parts++zs.map λn=>(n,0)⟩=eo i j+(zs.filter λz=>decide (z=i)).length:=by
 unfold eo;show((j.parts++zs.map λn=>(n,(0:Int))).filter _).length=_;rw[Nt,Cn,Uc,Ar]
 have e:((λp:Int×Int=>decide (p.1=i) && decide (p.2=0)) ∘ λn=>(n,(0:Int)))=λz=>decide (z=i):=by
  funext z
  simp
 rw[e]
def Ael {vs:List ar} {n k:Nat} {j:Jb} (h:Is vs n k j):V4.zero.leq j.sp.df:=by
 obtain⟨_,_,a,_⟩:=Gy (Jd h.gp);exact Pl.Ac6 (Uq.1 a).1
def Aem {vs:List ar} {js:List Jb} (h:Cs vs js):∀j,j∈js->V4.zero.leq j.sp.df:=λj a=>by
 obtain⟨k,b⟩:=B4 a;exact Ael (h k j b)
def Aen:∀(l:List Int),(∀x,x∈l->0<=x)->∀a:Int,a<=l.foldl (·+·) a
 | [],_,a=>Dc a
 | x :: l,h,a=>by
  have h1:=h x Ci;have c:=Aen l (λy b=>h y (B2 _ b)) (a+x);show a<=l.foldl (·+·) (a+x);omega
def Anh (l:List du):0<=Ly l:=Aen _ (λx a=>by
 obtain⟨s,_,rfl⟩:=A5.1 a
 exact(A2g s).1) 0
def Aeo (es:List dy) (i:Nat):Jg (es.take i)<=Jg es:=by
 have e:Jg es=((es.drop i).map λe=>Ly e.specs).foldl (·+·) (Jg (es.take i)):=by unfold Jg;rw[<-Mt,<-Dk,Mn]
 rw[e]
 exact Aen _ (λx a=>by
  obtain⟨s,_,rfl⟩:=A5.1 a
  exact Anh _) _
def Ani {vs:List ar} {t:dq} {e:dy}:((Bi vs t e).1.ab.length:Int)<=(t.ab.length:Int)+Ly e.specs:=by
 have h0:=Anh e.specs;unfold Bi;split
 .show (t.ab.length:Int)<=_;omega
 .rename_i c;have f:=Ry (vs:=vs) (t:=t) (e:=e) (by simpa using c)
  have a:((cq vs t e).1.ab.length:Int)<=(t.ab.length:Int)+Ly e.specs:=by
   unfold cq;split
   .show (t.ab.length:Int)<=_;omega
   split
   .rename_i q;obtain⟨g,_,b⟩:=Am0 (f.sub q)
    have h:Ly e.specs=I5 e.specs:=by unfold Ly I5;congr 1;refine Wn λs d=>?_;have:=b s d;unfold Tp;omega
    show((C2 (Es (e.specs.zip (Cm vs t.ab.length e.specs).1) t.ab)).length:Int)<=_;rw[U3];omega
   split
   .show ((Ky vs e.n.tick _ (Ck e.n.tick t.ab)).length:Int)<=_;rw[Amz,Amy];omega
   split
   .show ((Gk (C9 t.ab e.n.br (I6 e.n))).length:Int)<=_;unfold C9;rw[V3,Ic];omega
   split
   .unfold Md;split
    .show ((Gk _).length:Int)<=_;rw[V3,Ar];omega
    split
    .show (t.ab.length:Int)<=_;omega
    .show (t.ab.length:Int)<=_;omega
   .show ((C2 (C9 t.ab e.n.br (Ik (Fv e.n.kind)))).length:Int)<=_;unfold C9;rw[U3,Ic];omega
  show(((if B6 e.n.kind=true then { (cq vs t e).1 with cls:=G2 (cq vs t e).1.cls e.n.ag ⟨e.n.seq,(cq vs t e).2.e,(cq vs t e).2.first,(cq vs t e).2.last⟩ } else(cq vs t e).1).ab.length:Nat):Int)<=_;split
  .exact a
  .exact a
def A2n {W i:WD} {S:Nat->Prop} {B:Nat} {s:VL} {xs:List aq} (h:iz W B s xs) (n:Mod S W i) (r:∀b c f,(f=69\/f=9)->W.heap[b]?=O (J c f (0,0))->¬S b):iz i B s xs:=by
 refine⟨⟨h.row.1,?_⟩,λx o=>?_⟩
 .rcases h.row.2 with h|⟨g,cap,j,u,m,p,t⟩
  .exact .inl h
  .exact .inr ⟨g,cap,j,u,m,n.au p (r _ _ _ (.inl rfl) p),t⟩
 .have q:∀d a,x.po=O ⟨d,a,I⟩->∃c,W.heap[d]?=O (J c 9 (0,0))/\i.heap[d]?=O (J c 9 (0,0)):=λd a e=>by
   obtain⟨c,l⟩:=(h.ok x o).2 d a e;exact⟨c,l,n.au l (r _ _ _ (.inr rfl) l)⟩
  refine⟨⟨Oy (h.ok x o).1.parts n.size λd a e _=>?_,(h.ok x o).1.lr⟩,λd a e=>?_⟩
  .obtain ⟨c,h1,k⟩:=q d a e;rw[h1,k]
  .obtain ⟨c,_,k⟩:=q d a e;exact⟨c,k⟩
structure tz (w1:WD) (q:Nat) (bc:Array VL) (vs:List ar) (fv:VL) (ns:List aq) (es:List dy) (i:Nat) (T:Tv) (wr:WD):Prop where
 di:Dt w1 T wr
 vs:T.vs=vs
 box:wr.heap[q]?=O (J bc 59 (0,0))
 yd:iz wr 0 fv ns
 len:(T.js.length:Int)<=Jg (es.take i)
variable {w1 wr w':WD} {q i:Nat} {bc:Array VL} {vs:List ar} {fv:VL} {ns:List aq} {es:List dy} {T T':Tv}
def tz.drop (h:tz w1 q bc vs fv ns es i T wr) (a:BW wr.heap.size wr w'):tz w1 q bc vs fv ns es i T w':=
 ⟨h.di.drop a,h.vs,Ae a h.box (Ab h.box),h.yd.below a,h.len⟩
def tz.fy {e:dy} (h:tz w1 q bc vs fv ns es i T wr) (m:Dt w1 T' w') (f:Eb wr T T' w') (d:T'.pl=(Bi T.vs T.pl e).1) (l:es.take (i+1)=es.take i++[e]):tz w1 q bc vs fv ns es (i+1) T' w':=by
 refine⟨m,f.vs.trans h.vs,f.mod.au h.box (h.di.tab.off h.box ad9 ad9 ad9 ad9 ad9),A2n h.yd f.mod λb c n a g=>?_,?_⟩
 .rcases a with rfl|rfl
  .exact h.di.tab.off g ad9 ad9 ad9 ad9 ad9
  .exact h.di.tab.off g ad9 ad9 ad9 ad9 ad9
 .have h1:=Ani (vs:=T.vs) (t:=T.pl) (e:=e);rw[<-d]at h1;have j:T'.pl.ab.length=T'.js.length:=by simp[Tv.pl]
  have k:T.pl.ab.length=T.js.length:=by simp[Tv.pl]
  rw[j,k]at h1;have:=h.len;rw[l,Aej];omega
def Z2 {l a:WD} {js:List (Nat×aj)} {i:VL} {L:List aj} (h:Ph l js i L a) {k:Nat} {y:aj} (c:L[k]?=O y) :
  ∃g cap j,js[k]?=O j/\i=V (O ⟨g,0,I⟩) L.length cap/\Gt l a j.2 y/\∀W,BW a.heap.size a W->∀o,o<22->W.cell? ⟨g,k*22+o,I⟩=y.cells[o]?:=by
 have u:=(An.1 c).1;obtain⟨j,q,r⟩:=h.each k y c;rcases h.row.2 with⟨e,h0⟩|⟨g,cap,m,f,t,p,v⟩
 .have:L.length=0:=h0;omega
 .refine ⟨g,cap,j,q,f,r,λW n o s=>?_⟩;rw[Af n (Ab p)];have d:=h.row;rw[f]at d;have b:∀x:aj,(aj.cells x).size=22:=λ_=>rfl
  rw[F0 d (k*22+o) (by
   have:(k+1)*22<=L.length*22:=T5 _ ao9
   omega),Gw b L c s]
def Z3 {f i:WD} {js:List (Nat×aj)} {a:VL} {L:List aj} (h:Ph f js a L i):∃d c,a=V d L.length c:=by
 rcases h.row.2 with⟨e,h0⟩|⟨g,cap,b,e,_⟩
 .exact ⟨I,0,by rw[h0,<-e]⟩
 .exact ⟨_,_,e⟩
def A2o {s f:WD} {x y:aj} (h:Gt s f x y) {k:Nat} {p:Int×Int} (c:x.pl.parts[k]?=O p):∃d,y.po=O ⟨d,0,I⟩/\∀W,BW f.heap.size f W->W.cell? ⟨d,k*2,I⟩=O (Z G p.1)/\W.cell? ⟨d,k*2+1,I⟩=O (Z G p.2):=by
 have t:=(An.1 c).1;have b:∀x:Int×Int,(Fr x).size=2:=λ_=>rfl;have r:(Aw Fr x.pl.parts).length=x.pl.parts.length*2:=Ahz _;have a:=h.parts;have h1:=a.1;rw[r]at h1;rcases a.2 with⟨_,e⟩|⟨g,cap,n,e,_,j,_⟩
 .omega
 .injection e with e1 e2 e3;refine⟨g,e1,λW i=>?_⟩;rw[e1]at a;have l:=F0 a (k*2) ao9;have m:=F0 a (k*2+1) ao9;have o:=Gw b x.pl.parts c (show 0<2 by decide);have q:=Gw b x.pl.parts c (show 1<2 by decide);exact⟨(Af i (Ab j)).trans (l.trans o),(Af i (Ab j)).trans (m.trans q)⟩
def Anj {w W:WD} {b o i:Nat} {x:de} (h:∀j,j<10->w.cell? ⟨b,o+i*10+j,I⟩=x.cells[j]?) (f:BW w.heap.size w W) (p:b<w.heap.size) {k d t c s j a n e:Int} {so:Option Addr} {m sc:Nat} {r:List ay} (q:x=⟨⟨k,d,t,c,s,j,a,n,e⟩,so,m,sc,r⟩) :
  W.cell? ⟨b,o+i*10,I⟩=O (Z G k)/\W.cell? ⟨b,o+i*10+1,I⟩=O (Z G d)/\W.cell? ⟨b,o+i*10+2,I⟩=O (Z G t)/\W.cell? ⟨b,o+i*10+3,I⟩=O (Z G c)/\W.cell? ⟨b,o+i*10+4,I⟩=O (Z G s)/\W.cell? ⟨b,o+i*10+5,I⟩=O (Z G j)/\W.cell? ⟨b,o+i*10+6,I⟩=O (Z G a)/\W.cell? ⟨b,o+i*10+7,I⟩=O (Z G n)/\W.cell? ⟨b,o+i*10+8,I⟩=O (Z G e)/\W.cell? ⟨b,o+i*10+9,I⟩=O (V so m sc):=by
 subst q;have g:=λj l=>(Af (o:=o+i*10+j) f p).trans (h j l);exact⟨g 0 ao9,g 1 ao9,g 2 ao9,g 3 ao9,g 4 ao9,g 5 ao9,g 6 ao9,g 7 ao9,g 8 ao9,g 9 ao9⟩
end
section
open Go.RowKit Go.Maps Go.Lib
def Ank {w w':WD} {S:Nat->Prop} {so:Option Addr} {n:Nat} {l:List Int} (h:At w so n l) (d:Mod S w w') (g:∀k o,so=O ⟨k,o,I⟩->¬S k):At w' so n l:=
 ⟨h.len,h.max,λi x j=>by
  obtain⟨b,a,e,c,f⟩:=h.cell i x j
  exact⟨b,a,e,Bq c d.size,by rw[<-f];simp only[World.cell?,d.block b c (g b a e)]⟩⟩
structure Lz (lo hi:Nat) (J9q:List Jb) (wv:VL) (L:List aj) (T:Tv) (wr:WD):Prop where
 fi:L.map (·.pl)=J9q
 row:∀k y,L[k]?=O y->∃g cap,wv=V (O ⟨g,0,I⟩) L.length cap/\(lo<=g/\g<hi)/\∀o,o<22->wr.cell? ⟨g,k*22+o,I⟩=y.cells[o]?
 len:∃jo jc,wv=V jo L.length jc
 shown:∀y,y∈L->Tr wr y
 j5:∀y,y∈L->∀b o,y.so=O ⟨b,o,I⟩->lo<=b/\b<hi
 yz:∀y,y∈L->∀b o,y.go=O ⟨b,o,I⟩->lo<=b/\b<hi
 prt:∀y,y∈L->∀b o,y.po=O ⟨b,o,I⟩->y.pl.parts≠[]->lo<=b/\b<hi
 top:hi<=wr.heap.size
 ax:∀b,T.ax b->b<lo\/hi<=b
variable {lo hi:Nat} {J9q:List Jb} {wv:VL} {L:List aj} {T T':Tv} {wr w':WD}
def Lz.mod (h:Lz lo hi J9q wv L T wr) {S:Nat->Prop} (j:Mod S wr w') (v:∀b,S b->b<lo\/hi<=b) (s:∀b,T'.ax b->b<lo\/hi<=b):Lz lo hi J9q wv L T' w':=by
 have no:∀b,lo<=b/\b<hi->¬S b:=λb f c=>by have:=v b c;omega
 have d:∀b o,lo<=b/\b<hi->w'.cell? ⟨b,o,I⟩=wr.cell? ⟨b,o,I⟩:=λb o f=>by
  simp only[World.cell?,j.block b (Bq f.2 h.top) (no b f)]
 refine⟨h.fi,λk y i=>?_,h.len,λy i=>?_,h.j5,h.yz,h.prt,A8 h.top j.size,s⟩
 .obtain ⟨g,cap,e,m,r⟩:=h.row k y i;exact⟨g,cap,e,m,λo u=>by rw[d g _ m];exact r o u⟩
 .have a:=h.shown y i;refine⟨⟨Ank a.vp.after j λb o e=>no b (h.j5 y i b o e),a.vp.lr,a.vp.user,a.vp.part⟩,Ank a.ah j λb o e=>no b (h.yz y i b o e),a.pn,a.j8,λk p l=>?_⟩;obtain⟨b,e,t,n,q⟩:=a.part k p l;have f:=h.prt y i b 0 e (λc=>by rw[c]at l;cases l);exact⟨b,e,Bq t j.size,by rw[d b _ f];exact n,by rw[d b _ f];exact q⟩
def Lz.drop (h:Lz lo hi J9q wv L T wr) (a:BW wr.heap.size wr w'):Lz lo hi J9q wv L T w':=
 h.mod (S:=λ_=>False) (Mod.af a) (λ_ c=>c.elim) h.ax
def Lz.fy (h:Lz lo hi J9q wv L T wr) (a:Eb wr T T' w'):Lz lo hi J9q wv L T' w':=
 h.mod a.mod h.ax λb c=>by
  rcases a.ax b c with c|c
  .exact h.ax b c
  .exact .inr (A8 h.top c)
def A2q (w:WD) (T:Tv):Lz w.heap.size w.heap.size [] (V I 0 0) [] T w:=
 ⟨rfl,λk y a=>by simp at a,⟨I,0,rfl⟩,λy a=>(by cases a),λy a=>(by cases a),λy a=>(by cases a),λy a=>(by cases a),Nat.le_refl _,λb _=>by omega⟩
def Aep {n h:WD} {sv:VL} (x:Ao n T) (hr:(∀j,j∈T.js->Zp j.2)/\(∀j,j∈T.js->Ad2 j.2)) (q:Ph n T.js sv L h) (hl:L.length=T.js.length):Lz n.heap.size h.heap.size T.pl.ab sv L T h:=by
 have m:∀k y,L[k]?=O y->∃j:Nat×aj,T.js[k]?=O j/\Gt n h j.2 y/\j∈T.js:=λk y d=>by
  obtain⟨j,r,a⟩:=q.each k y d;exact⟨j,r,a,Ai r⟩
 have f:∀y,y∈L->∃j:Nat×aj,Gt n h j.2 y/\j∈T.js:=λy d=>by
  obtain⟨k,hk⟩:=B4 d;obtain⟨j,_,a,s⟩:=m k y hk;exact⟨j,a,s⟩
 refine⟨?_,λk y d=>?_,Z3 q,λy d=>?_,λy d b o e=>?_,λy d b o e=>?_,λy d b o e ac=>?_,Nat.le_refl _,λb c=>.inl (x.iu c)⟩
 .show L.map (·.pl)=T.js.map λj=>j.2.pl;apply Eh;intro k;rw[A7,A7]
  cases d:L[k]? with
  | none=>
   have:T.js[k]?=I:=by rw[Wf]at d ⊢;omega
   rw[this];rfl
  | some y=>
   obtain⟨j,r,a,_⟩:=m k y d;rw[r];show O y.pl=O j.2.pl;rw[a.pl]
 .obtain ⟨g,cap,j,_,e,_,i⟩:=Z2 q d;obtain⟨b1,b2⟩:=Oo q.row g (by rw[e];rfl);exact⟨g,cap,e,⟨b1,b2⟩,i h (Below.refl _ _)⟩
 .obtain ⟨j,a,s⟩:=f y d;have u:=x.ok j s;have hd:=(hr.2 j s).2;have v:=Ks u.parts;refine⟨⟨?_,a.om,?_,?_⟩,?_,?_,?_,λk p l=>?_⟩
  .show At h y.so y.sn y.pl.sp.after;rw[a.pl];exact a.after
  .show y.pl.sp.user.size<=maxLen;rw[a.pl];exact u.user
  .show y.pl.sp.part.size<=maxLen;rw[a.pl];exact u.part
  .rw [a.pl];exact a.ah
  .rw [a.pl,a.pn,v]
  .rw [a.pn];exact hd
  .rw [a.pl]at l;obtain⟨z,e,i⟩:=A2o a l;have t:=(Oo a.parts z (by rw[e];rfl)).2;obtain⟨c0,c1⟩:=i h (Below.refl _ _);exact⟨z,e,t,c0,c1⟩
 .obtain ⟨j,a,_⟩:=f y d;obtain⟨cc,i⟩:=a.we b o e;exact⟨a.ri b o e,Ab i⟩
 .obtain ⟨j,a,_⟩:=f y d;obtain⟨cc,i⟩:=a.wu b o e;exact⟨a.rm b o e,Ab i⟩
 .obtain ⟨j,a,_⟩:=f y d;have l:=a.parts;rw[e]at l;exact Oo l b rfl
end
section
open Go.RowKit Go.Maps Go.Lib
variable{s:Int}{vs:List ar}{t:dq}{e:dy}
structure B9 (a b:List Jb):Prop where
 len:b.length<=a.length
 each:∀(k:Nat) (j:Jb),b[k]?=O j->ia j.lf.st=true->j.parts=[]->a[k]?=O j
def B9.refl (a:List Jb):B9 a a:=⟨Nat.le_refl _,λ_ _ h _ _=>h⟩
def B9.trans {a b c:List Jb} (h:B9 a b) (k:B9 b c):B9 a c:=⟨A8 k.len h.len,λn j f d e=>h.each n j (k.each n j f d e) d e⟩
def B9.modify (l:List Jb) (i:Nat) {f:Jb->Jb} (b:∀j,l[i]?=O j->ia j.lf.st=true->j.parts=[]->f j=j):B9 (l.modify i f) l:=by
 refine⟨by rw[Ic];exact Nat.le_refl _,λk j a c d=>?_⟩;rw[Dj,a];show O (if i=k then f j else j)=O j;split
 .rename_i e;subst e;rw[b j a c d]
 .rfl
def B9.map (l:List Jb) {f:Jb->Jb} (a:∀j,ia j.lf.st=true->j.parts=[]->f j=j):B9 (l.map f) l:=by
 refine⟨by rw[Ar];exact Nat.le_refl _,λk j b c d=>?_⟩;rw[A7,b];show O (f j)=O j;rw[a j c d]
def V6:ia s=true↔5<=s/\s<=8:=by simp[ia]
def A2r (js:List Jb) (k:Nat):B9 (E7 js k) js:=by
 unfold E7;split
 .rename_i a;refine B9.modify js k λj b c _=>?_;unfold Gj at a;rw[b]at a;simp only[Da]at a;have h1:=a.1;unfold Jb.waits dz at h1;simp at h1;have:=V6.1 c;omega
 .exact B9.refl _
def Aeq (js:List Jb):∀n,B9 (Co js n).1 js
 | 0=>B9.refl _
 | n+1=>(A2r _ n).trans (Aeq js n)
def Anl:∀(n:Nat) (js:List Jb),B9 (I2 n js) js
 | 0,_=>B9.refl _
 | n+1,js=>by
  unfold I2;split
  .exact (Anl n _).trans (Aeq js _)
  .exact Aeq js _
def Aer (js:List Jb):B9 (C2 js) js:=Anl _ js
def Aes (js:List Jb):B9 (Gk js) js:=(Aer _).trans (B9.map _ λj _ a=>by
 unfold Do
 rw[Ad (.inl a)])
def Anm (j:Jb) (a:Int) (b:j.parts=[]):E8 j a=j:=by
 unfold E8;rw[b];rfl
def V7  (h:ia s=true):cu s=false:=by
 have:=V6.1 h
 cases c:cu s with
 | false=>rfl
 | true=>
  have:=I3.1 c;omega
def Ann (tick:Int) (js:List Jb):B9 (Ck tick js) js:=(Aes _).trans (B9.map _ λj a _=>by
 unfold Et Jb.live;rw[Ac];rw[V7 a]
 simp)
def Ano (s:du) (a:List Int) (js:List Jb):∀n,B9 (F6 s a js n) js
 | 0=>B9.refl _
 | n+1=>by
  have b:=Ano s a js n;refine⟨by show _<=(F6 s a js n++[_]).length;rw[Cn];have:=b.len;omega,λk j c d e=>?_⟩;have h1:=b.each k j c d e;show(F6 s a js n++[_])[k]?=O j;rw[Fb (An.1 h1).1];exact h1
def Anp:∀(l:List (du×List Int)) (js:List Jb),B9 (Es l js) js
 | [],_=>B9.refl _
 | _ :: l,_=>(Anp l _).trans (Ano _ _ _ _)
def A2s {l:Lf} (h:ia l.st=true) (s:Int):(Ay l s).2≠0:=by
 have:=V6.1 h;unfold Ay;split
 .show (1:Int)≠0;decide
 .rw [Ac (by unfold dz;simp;omega),Ac (by rw[V7 h];simp)];show(100:Int)≠0;decide
def Anq {vs:List ar} {tick:Int}:∀(l:List (Int×Int×List Int)) (js:List Jb),(l.map Prod.fst).Nodup->(∀x,x∈l->∃(k:Nat) (j:Jb),js[k]?=O j/\x.1=(k:Int)+1/\j.lf.st=1/\Zw vs tick j.sp x)->B9 (F7 tick l js) js
 | [],js,_,_=>B9.refl js
 | x :: l,js,hn,hx=>by
  obtain⟨k,j,n,e,h1,_⟩:=hx x Ci;have b:=Sc.1 hn;have o:(x.1-1).toNat=k:=ao9
  show B9 (F7 tick l (C9 js x.1 (Eu tick x.2.1 x.2.2))) js;unfold C9;rw[o];refine(Anq (vs:=vs) l _ b.2 λy h=>?_).trans (B9.modify js k λd a p _=>?_)
  .obtain ⟨i,d,a,m,f,g⟩:=hx y (B2 _ h);refine⟨i,d,?_,m,f,g⟩;rw[Dj,a];show O (if k=i then _ else d)=O d;rw[Ac];intro c;apply b.1
   have:x.1=y.1:=ao9
   rw[this];exact F1 h
  .rw [n]at a;injection a with a;subst a;have:=V6.1 p;omega
def Anr  {js:List Jb} (h:Cs vs js) (tick:Int) (bs:List Bool):B9 (Ky vs tick bs js) js:=by
 obtain⟨a,b⟩:=V1 h.b tick bs;unfold Ky;refine(Anq (vs:=vs) _ _ a λx i=>?_).trans (B9.map _ λj f _=>?_)
 .obtain ⟨k,j,d,e,c,g⟩:=b x i;have h1:j.lf.st=1:=by unfold Ey at c;simp at c;exact c.1
  refine⟨k,B8 j,by rw[A7,d];rfl,e,?_,?_⟩
  .unfold B8;rw[Ad h1];exact h1
  .unfold B8;rw[Ad h1];exact g
 .unfold B8;rw[Ac];have:=V6.1 f;omega
def Ans    (h:Ec vs t) (d:V5 vs t e):B9 (cq vs t e).1.ab t.ab:=by
 have f:=Nq d.may
 have a:∀ {j:Jb},t.ab[(e.n.br-1).toNat]?=O j->Fe t.ab e.n.br=j:=λb=>by
  unfold Fe;rw[b];rfl
 unfold cq;split
 .exact B9.refl _
 split
 .exact (Aer _).trans (Anp _ _)
 split
 .exact (Anr (Vv h.all _) _ _).trans (Ann _ _)
 split
 .refine (Aes _).trans (B9.modify _ _ λj _ c _=>?_);unfold I6 Gl Jb.live;rw[Ac (by rw[V7 c];simp)]
 split
 .unfold Md;split
  .exact (Aes _).trans (B9.map _ λj _ g=>Anm j _ g)
  split
  .exact B9.refl _
  .exact B9.refl _
 .rename_i k l m o p;refine(Aer _).trans (B9.modify _ _ λj b c _=>?_);have i:=f.kind;have h0:=d.br ao9;unfold J7 at h0;split at h0
  .cases h0
  .first|rw[Ad ao9,a b]at h0|rw[a b]at h0
   exact absurd h0 (A2s c _)
def A2t    (h:Ec vs t):t.ab.length<=(Bi vs t e).1.ab.length/\∀(k:Nat) (j:Jb),t.ab[k]?=O j->ia j.lf.st=true->(Bi vs t e).1.ab[k]?=O j:=by
 have a:B9 (Bi vs t e).1.ab t.ab:=by
  unfold Bi;split
  .exact B9.refl _
  .rename_i c;have b:=Ans h (Ry (vs:=vs) (t:=t) (e:=e) (by simpa using c));show B9 (if B6 e.n.kind=true then { (cq vs t e).1 with cls:=G2 (cq vs t e).1.cls e.n.ag ⟨e.n.seq,(cq vs t e).2.e,(cq vs t e).2.first,(cq vs t e).2.last⟩ } else(cq vs t e).1).ab t.ab;split
   .exact b
   .exact b
 exact⟨a.len,λk j d f=>a.each k j d f ((h.all k j d).toFz.idle (V7 f))⟩
structure Ant (vs:List ar) (k:Nat) (j:Jb):Prop where
 id:j.id=(k:Int)+1
 right:Kp j.lf=true
 bh:j.lf.bh<=j.sp.ae+1
 od:∀x,x∈j.ah->x∈B5 vs j.sp.part
 aw:j.ah.Pairwise (·<·)
 start:0<=j.start↔(j.ah.length:Int)=j.sp.nodes
 parts:cu j.lf.st=true↔j.parts≠[]
 ret:0<=j.sp.ae/\j.sp.ae<=5
 st:1<=j.lf.st/\j.lf.st<=8
def Anu  {n k:Nat} {j:Jb} (h:Is vs n k j):Ant vs k j:=by
 obtain⟨_,_,_,_,d,_,_,_,e⟩:=Gy (Jd h.gp);have d:1<=j.sp.nodes:=(Ig.1 d).1;have b:=h.ik.right;obtain⟨⟨f,g,_,i,_⟩,_⟩:=(S1 j.lf.st j.lf.bh j.lf.left j.lf.wall j.lf.stop).1 b;have l:=h.ik.ee;refine⟨h.id,b,ao9,λx a=>?_,?_,⟨λc=>(h.ah c).1.len,λc=>?_⟩,h.live,Ig.1 e,f,g⟩
 .by_cases q:j.start<0
  .rw [h.uw q]at a;cases a
  .exact (h.ah ao9).1.od x a
 .by_cases q:j.start<0
  .rw [h.uw q];exact List.Pairwise.nil
  .exact (h.ah ao9).1.aw
 .by_cases q:j.start<0
  .rw [h.uw q]at c;simp at c;omega
  .omega
end
namespace Pl
open Go.RowKit
variable{U:Bg}{bs:List Bool}{p q:List Nd}{c v:V4}
def An3 {a:List Nd} (e:a.length=1) (b:Int) (v:V4) (u:Int):ga a [0] b v u=if pick a [0] b v u 0=true then[0]else[]:=by
 have c:∀j,1<=j->pick a [0] b v u j=false:=λj d=>by
  unfold pick;rw[A2 ao9];rfl
 have h1:∀k,I8 a [0] b v u (k+1)=I8 a [0] b v u 1:=λk=>by
  induction k with
  | zero=>rfl
  | succ k ih=>rw[Tb,c (k+1) ao9,Ac as9,ih]
 unfold ga;rw[h1 15,Tb];rfl
def An4    (k:Be [c] U p) {a u:Int} (h0:0<=u) (h1:1<=a):pick p [0] a v u 0=true↔u+a<=1099511627776/\∀x,u<=x->x<u+a->(Aq (U 0 x) v).leq c:=by
 have b:p.length=1:=k.len;have:=Aka k (i:=0) ao9 (v:=v) h0 h1;rw[show vv [c] 0=c from rfl]at this;simp only[pick,Da,F2];rw[<-this];exact⟨λh=>h.2,λh=>⟨⟨ao9,⟨0,ad9,rfl⟩⟩,h⟩⟩
def Aet    {a:Ask} {b st T:Int} {zs:List Int} (k:Be [c] U p) (h:Qd b [true] a st zs p q) (h1:a.ie=[0]) (h2:a.nodes=1) (hc:a.can=true) (ac:0<=b) (hT:b<=T) (m:T+a.aa<=1099511627776)
  (g:∀x,T<=x->x<T+a.aa->(Aq (U 0 x) a.v).leq c) (o:∀u,b<=u->u<T->∃x,u<=x/\x<u+a.aa/\¬(Aq (U 0 x) a.v).leq c) :
  st=T/\zs=[0]/\Be [c] (Ak U (gg [0] T (T+a.aa) a.v)) q:=by
 obtain⟨_,p2,p3⟩:=Akh hc;rcases h with⟨z,_⟩|⟨_,t',xs,is,j,_,h4⟩
 .rw [hc]at z;cases z
 .have l:=j;rw[h1,show Bl (ji [true] [0])=[0]from by decide,h2]at j;have hl:p.length=1:=k.len;have f:ga p [0] a.aa a.v T=[0]:=by rw[An3 hl,Ad ((An4 k ao9 ao9).2 ⟨m,g⟩)]
  obtain⟨hi,ht,hx,r,e⟩:=Aw5 j ad9 ao9 p3 (T:=T) ao9 ao9 (by rw[f];decide) (λu x1 x2=>by
   rw[An3 hl,Ac (λd=>by
    obtain⟨x,y1,y2,y3⟩:=o u ao9 x2
    exact y3 (((An4 k ao9 ao9).1 d).2 x y1 y2))]
   decide)
  subst hi;obtain⟨h5,h6,r2,i⟩:=h4 rfl;have s:=(l.found.take k.loose i.1).1;subst s;rw[ht]at i
  have t:xs=[0]:=by
   rw[f]at e
   match xs,hx,e with
   | [y],_,e=>
    injection e with e _;rw[<-e]
  have n:Bl xs=[0]:=by rw[t];rfl
  rw[n]at h6 i;exact⟨h5.trans ht,h6,(Vd k i).1⟩
def Aeu (fr a:Int) (v:V4) (x:Int):gg [0] fr a v 0 x=if fr<=x/\x<a then v else V4.zero:=by
 unfold gg;have b:Bx [0] ([0]:List Int).length 0:=⟨0,ad9,rfl⟩;by_cases c:fr<=x/\x<a
 .rw [Ad c,Ad ⟨b,c⟩]
 .rw [Ac c,Ac (λd=>c d.2)]
structure V8 (a:Ask) (v:V4) (aa:Int):Prop where
 places:a.ie=[0]
 nodes:a.nodes=1
 v:a.v=v
 aa:a.aa=aa
 start:a.start=-1
def Aev {a:Ask}  {t:Int} (h:V8 a v t) (b:0<t) (c:v.right=true):a.can=true:=by
 simp only[Ask.can,h.nodes,h.aa,h.v,Da,F2];exact⟨⟨ad9,b⟩,c⟩
def Aew {b:Int}  {a:Ask} {s:Ax}  (h:Nl b bs ((a,false),s) p q):s.id=a.id/\Qd b bs a s.start s.dn p q:=by
 obtain⟨m,c,e,d⟩:=h;rcases c with⟨_,rfl⟩|⟨c,_⟩
 .exact ⟨e,d⟩
 .cases c
def Aex {e:Int}  {a:Ask} {b:Bool}  (f:a.start=-1) (h:Mi e bs (a,b) p q):q=p/\b=false:=by
 rcases h with⟨_,c,d⟩|⟨c,_⟩|⟨c,_⟩
 .exact ⟨d,c⟩
 .exact absurd c (by show ¬0<=a.start;rw[f];decide)
 .exact absurd c (by show ¬0<=a.start;rw[f];decide)
def An5 {α:Type} {l:List α} (h:l.length=3):∃a b c,l=[a,b,c]:=by
 match l,h with
 | [a,b,c],_=>exact⟨a,b,c,rfl⟩
def A3r {a1 a2 a3:Ask} {a:List Ax} (hp:Jv [⟨2,2,0,0⟩] 1 [true] [] [a1,a2,a3] a) (c:V8 a1 ⟨1,0,0,0⟩ 13) (b:V8 a2 ⟨1,0,0,0⟩ 13) (d:V8 a3 ⟨1,0,0,0⟩ 13) :
  a.map Ax.key=[(a1.id,1,[0]),(a2.id,1,[0]),(a3.id,14,[0])]:=by
 obtain⟨ps,q1,q2,st,rd,hl,z,e,hr,f,g⟩:=hp.go;obtain⟨_,h,_⟩:=Ve hl;obtain⟨x1,x2,x3,rfl⟩:=An5 (l:=st) (by have:=Cv List.length e;simpa using this);obtain⟨b1,c1⟩:=x1;obtain⟨b2,c2⟩:=x2;obtain⟨b3,c3⟩:=x3;simp at e;obtain⟨rfl,rfl,rfl⟩:=e;obtain⟨m1,r,m2,s,m3,t,y⟩:=z;obtain⟨rfl,rfl⟩:=Aex c.start r;obtain⟨rfl,rfl⟩:=Aex b.start s;obtain⟨rfl,rfl⟩:=Aex d.start t;cases y;obtain⟨y1,y2,y3,rfl⟩:=An5 (l:=rd) (by have:=Cv List.length f;simpa using this);obtain⟨x1,s1⟩:=y1;obtain⟨x2,s2⟩:=y2;obtain⟨x3,s3⟩:=y3;simp at f;obtain⟨rfl,rfl,rfl⟩:=f;obtain⟨n1,o,n2,p,n3,q,f4⟩:=hr;obtain⟨i1,k⟩:=Aew o;obtain⟨i2,m⟩:=Aew p;obtain⟨i3,n⟩:=Aew q;have h:Be [⟨2,2,0,0⟩] mr q1:=h;obtain⟨t1,z1,i⟩:=Aet h k c.places c.nodes (Aev c ad9 ad9) ad9 (T:=1) ad9 (by rw[c.aa];decide) (λx _ _=>by rw[c.v];simp[mr,Aq,V4.leq,V4.zero]) (λu x1 x2=>by omega);rw[c.v,c.aa]at i
 obtain⟨t2,z2,j⟩:=Aet i m b.places b.nodes (Aev b ad9 ad9) ad9 (T:=1) ad9 (by rw[b.aa];decide) (λx x1 x2=>by
  rw[b.aa]at x2;rw[b.v];simp only[Ak,mr,Aeu];rw[Ad ao9]
  simp[Aq,V4.leq,V4.zero]) (λu x1 x2=>by omega)
 rw[b.v,b.aa]at j
 obtain⟨t3,z3,k3⟩:=Aet j n d.places d.nodes (Aev d ad9 ad9) ad9 (T:=14) ad9 (by rw[d.aa];decide) (λx x1 x2=>by
  rw[d.v];simp only[Ak,mr,Aeu];rw[Ac ao9]
  simp[Aq,V4.leq,V4.zero]) (λu x1 x2=>⟨u,Dc _,by rw[d.aa];omega,by
  rw[d.v];simp only[Ak,mr,Aeu];rw[Ad ao9]
  simp[Aq,V4.leq,V4.zero]⟩)
 subst g;simp[Ax.key,i1,i2,i3,t1,t2,t3,z1,z2,z3]
def A3s  {a r:Int}  (g:I9 [c] 1 a [] r q) (e:c.right=true) (h1:0<=a) (b:a<1099511627776):r=0:=by
 rcases g with⟨d,_⟩|⟨_,j,l,⟨d,_⟩|⟨d,k,x,m,n,h,_,_⟩⟩
 .refine absurd ⟨as9,λi f=>?_,as9,h1,b⟩ d
  have:i=0:=by simpa using f
  subst this;exact e
 .exact d
 .simp at h
end Pl
section
open Go.RowKit Go.Maps Go.Lib
def xk:ByteArray:=⟨#[110,49,32,50,44,50,44,48,44,48,32,109,97,105,110,10]⟩
def Aey:ByteArray:=⟨#[109,97,105,110]⟩
def Ki:ByteArray:=⟨#[97,110,97]⟩
def gz:ar:=⟨⟨#[110,49]⟩,⟨2,2,0,0⟩,[Aey]⟩
def A3t:E5 xk=([gz],0,0):=by kernel_rfl
def o9:du:=⟨Ki,Aey,1,⟨1,0,0,0⟩,5,0,3,0,false,[]⟩
def qd (id:Int):Jb:=⟨id,{ o9 with array:=1,after:=[] },⟨1,0,0,false,false⟩,-1,[],[]⟩
def xw (id:Int):Jb:=⟨id,{ o9 with array:=1,after:=[] },⟨3,1,0,false,false⟩,1,[0],[(0,0)]⟩
def yy:Jb:=⟨1,{ o9 with array:=1,after:=[] },⟨5,1,0,false,false⟩,1,[0],[]⟩
def xu:Jb:=⟨3,{ o9 with array:=1,after:=[] },⟨1,0,0,false,false⟩,14,[0],[]⟩
def An6:dq:=⟨0,-1,[],[⟨false,false,-1⟩],[]⟩
def Qt:dq:=⟨0,-1,[],[⟨true,false,0⟩],[]⟩
def Gu:dq:=⟨0,-1,[(1,⟨1,0,1,3⟩)],[⟨true,false,0⟩],[qd 1,qd 2,qd 3]⟩
def Z4:dq:=⟨0,1,[(1,⟨1,0,1,3⟩)],[⟨true,false,0⟩],[xw 1,xw 2,xu]⟩
def Aez:dq:=⟨0,1,[(1,⟨1,0,1,3⟩)],[⟨true,false,0⟩],[yy,xw 2,xu]⟩
def A3u:dy:=⟨⟨9,0,0,0,0,0,0,0,0⟩,[]⟩
def Ae0:dy:=⟨⟨2,0,0,1,1,0,0,0,0⟩,[o9]⟩
def Z5:dy:=⟨⟨6,0,1,0,0,0,0,0,0⟩,[]⟩
def A3v:dy:=⟨⟨7,0,0,0,0,1,1,0,1⟩,[]⟩
def A3w:Bi [gz] An6 A3u=(Qt,⟨0,0,0,0⟩,0):=by kernel_rfl
def A3x:G9 1 [3] [[]]=([[]],0):=by
 have h1:Kf ([([]:List Int)].map (Lv 1 [3]))=true:=by kernel_rfl
 have a:(Di 1 [3] ([]:List Int) 0).2=[]:=by kernel_rfl
 unfold G9;rw[Ac ad9,Ac ad9,Ac ad9,Ac (by rw[h1];simp)];have b:K1 1 [3] []=[]:=by unfold K1;show Lib.compact (K0 (Di 1 [3] ([]:List Int) 0).2)=[];rw[a];simp[K0,Lib.compact,Lib.compactUpTo]
 simp[b]
def An7:Cm [gz] 0 [o9]=([[]],0):=by
 have h:Cm [gz] 0 [o9]=G9 1 [3] [[]]:=by kernel_rfl
 rw[h,A3x]
def A3y:Bi [gz] Qt Ae0=(Gu,⟨0,0,1,3⟩,0):=by
 have h1:Ea [gz] Qt Ae0=(Cm [gz] 0 [o9]).2:=by kernel_rfl
 have a:No [gz] Qt [o9]=(⟨0,-1,[],[⟨true,false,0⟩],[qd 1,qd 2,qd 3]⟩,⟨0,0,1,3⟩):=by
  unfold No;rw[show Cm [gz] Qt.ab.length [o9]=([[]],0)from An7]
  kernel_rfl
 have b:cq [gz] Qt Ae0=No [gz] Qt [o9]:=by kernel_rfl
 unfold Bi;rw[Ac (by rw[h1,An7];simp),b,a];rfl
def A3z:Bi [gz] Z4 A3v=(Aez,⟨0,0,0,0⟩,0):=by kernel_rfl
def A30:Up Aez.ab 0=⟨1,0,0,0⟩:=by kernel_rfl
def An8:Ck 1 Gu.ab=Gu.ab:=by kernel_rfl
def A31:Bs Gu.ab=[⟨1,Ki,0,⟨1,0,0,0⟩⟩,⟨2,Ki,0,⟨1,0,0,0⟩⟩,⟨3,Ki,0,⟨1,0,0,0⟩⟩]:=by kernel_rfl
def An9:Ce Gu.ab=[]:=by kernel_rfl
def A32:D1 Gu.ab=[]:=by kernel_rfl
def Aoa:jg { Gu with tick:=1 }=[true]:=by kernel_rfl
def R2:List dp:=[⟨1,Ki,0,⟨1,0,0,0⟩⟩,⟨2,Ki,0,⟨1,0,0,0⟩⟩,⟨3,Ki,0,⟨1,0,0,0⟩⟩]
def A33:Dp [] R2=[⟨Ki,V4.zero,[0,1,2]⟩]:=by
 have h1:Cq R2 R2.length=[⟨Ki,V4.zero,[0,1,2]⟩]:=by kernel_rfl
 have a:Ii R2 [0,1,2]=[0,1,2]:=by unfold Ii;simp[List.mergeSort,List.MergeSort.Internal.splitInTwo,wy,A9,R2]
 unfold Dp;rw[h1];simp[a]
def A34 (whole:V4) (b:whole=⟨2,2,0,0⟩):Le whole [] R2=[0,1,2]:=by
 subst b;have a:Gn [⟨Ki,V4.zero,[0,1,2]⟩]=[Ki]:=by unfold Gn;simp[List.mergeSort_singleton,Ki]
 unfold Le;rw[A33,a];rfl
def Aob:Cj [gz] Gu.ab=[Cu [gz] (qd 1),Cu [gz] (qd 2),Cu [gz] (qd 3)]:=by
 unfold Cj;rw[A31,A32];rw[show([⟨1,Ki,0,⟨1,0,0,0⟩⟩,⟨2,Ki,0,⟨1,0,0,0⟩⟩,⟨3,Ki,0,⟨1,0,0,0⟩⟩]:List dp)=R2 from rfl,A34 _ (by kernel_rfl)]
 kernel_rfl
def Ae1 (a:Int):Pl.V8 (Cu [gz] (qd a)) ⟨1,0,0,0⟩ 13:=⟨by show B5 [gz] Aey=[0];kernel_rfl,rfl,rfl,rfl,rfl⟩
def A35 (h:Rx [gz] 1 [true] Gu.ab):Fh [gz] 1 [true] Gu.ab=[(1,1,[0]),(2,1,[0]),(3,14,[0])]:=by
 unfold Rx at h;unfold Fh;rw[An9,Aob]at h;rw[An9,Aob];rcases h with⟨r,h1,d⟩|⟨a,c⟩
 .exact absurd (Pl.A3s d ad9 ad9 ad9) h1
 .have e:=Pl.A3r (a1:=Cu [gz] (qd 1)) (a2:=Cu [gz] (qd 2)) (a3:=Cu [gz] (qd 3)) c (Ae1 1) (Ae1 2) (Ae1 3);have b:=Ako c;rw[e]at b;exact b
def A36 (h:Qs [gz] Gu Z5):Bi [gz] Gu Z5=(Z4,⟨0,0,0,0⟩,0):=by
 have h1:Ea [gz] Gu Z5=0:=by kernel_rfl
 have a:=h h1 rfl;have a:Rx [gz] 1 (jg { Gu with tick:=1 }) (Ck 1 Gu.ab):=a;rw[Aoa,An8]at a;have b:cq [gz] Gu Z5=(Ro [gz] Gu 1,⟨0,0,0,0⟩):=by kernel_rfl
 have c:Ro [gz] Gu 1=Z4:=by
  unfold Ro Ky;rw[Aoa,An8,A35 a]
  kernel_rfl
 unfold Bi;rw[Ac (by rw[h1];simp),b,c];rfl
def A37:Jr [gz]:=by
 have h:=Abq (Gi xk) [] X8;have e:(Bo [] (Gi xk)).1=[gz]:=by kernel_rfl
 rw[e]at h;exact h
def A38 (w:WD) (f:Mx w):CS prog 13 #[D ⟨#[110,49,32,50,44,50,44,48,44,48,32,109,97,105,110,10]⟩] w λe w'=>e=Y (E #[K (O ⟨w.heap.size+4,0,I⟩),Z G 0,Z G 0])/\BW w.heap.size w w'/\lu w' (w.heap.size+4) (w.heap.size+3) (w.heap.size+7) [gz]:=
 (Agi xk w f).mono λe w' h=>by
  obtain⟨p,b,c,a⟩:=h;rw[A3t]at b a;rcases a with⟨h1,_⟩|⟨_,rfl,d⟩
  .exact absurd rfl h1
  .exact ⟨b,c,d⟩
def A39 {w:WD} {T:Tv} (h:Ao w T) {b:Nat} {xs:List ay} (f:w.heap[b]?=O (J (Aw ay.cells xs).toArray 33 (0,0))) (m:xs.length<=1000) (d:∀a,Mod T.ax w a->∀x,x∈xs->x.ok a):∀a,Mod T.ax w a->Kv a (O ⟨b,0,I⟩) xs.length xs:=λa k=>by
 have c:=k.au f (h.off f ad9 ad9 ad9 ad9 ad9);refine⟨rfl,ao9,λi x g=>⟨b,0,rfl,Ab c,λj l=>?_,d a k x (Ai g)⟩⟩;have e:∀x:ay,(ay.cells x).size=13:=λ_=>rfl;rw[Db,Aa c (i*13+j),Mo];exact Gw e xs g l
def Aoc (w:WD) (hm:Mx w):CS prog 12 #[] w λe w'=>e=Y (Q true)/\BW w.heap.size w w':=by
 have bn:=A38 w hm;have bp:=A37;replace⟨bn,bp⟩:=H2 bn bp;go_enter func12,ntmps12;go_wp2_with fail;refine bn.mono ?_;rintro e w1 ⟨rfl,aY,bl⟩;have bo:=Am2 bl bp.out;replace⟨aY,bl,bo⟩:=H3 aY bl bo;go_wp2_with fail;refine bo.mono ?_;rintro e w2 ⟨T,rfl,bb,a7,aM,bO,bP,bQ,bI,bG⟩;obtain⟨tb,ht⟩:=Ex (T.tb);rw[<-ht];replace aM:T.pl=An6:=aM;clear bO bP bQ;replace⟨bb,a7,aM,bI,bG,ht⟩:=H6 bb a7 aM bI bG ht;go_upto_region 6 with fail;obtain⟨sb,bv⟩:=Ex (w2.heap.size);obtain⟨W3,aW⟩:=Ex (w2.alloc (J #[D ⟨#[97,110,97]⟩,D ⟨#[109,97,105,110]⟩,Z G 1,Z G 1,Z G 0,Z G 0,Z G 0,Z G 5,Z G 0,Z G 3,Z G 0,Q false,V I 0 0] 33 (0,0)));have bi:BW w2.heap.size w2 W3:=by rw[aW];exact Bn
 have a8:W3.heap[sb]?=O (J (⟨o9,I,0,0⟩:ay).cells 33 (0,0)):=by rw[aW,bv];exact Ah _ _
 have aQ:=bb.drop bi;have f:=Zz ⟨⟨9,0,0,0,0,0,0,0,0⟩,I,0,0,[]⟩ aQ (Aeg _ _ (λi=>by unfold dm.get;split<;>simp)) (λW' _=>Aeh W') (λc=>absurd c ad9) (t':=Qt) (c:=⟨0,0,0,0⟩) (r:=0) (by rw[a7.out,aM.out];exact λ_=>A3w);rw[<-ht.out]at f;rw[<-aW,<-bv];clear aW bv;replace⟨bi,a8,aQ,f⟩:=H4 bi a8 aQ f;go_wp2_with fail;refine f.mono ?_;rintro e w4 ⟨T4,rfl,bc,aN,aU⟩;have bx:=aU.mod.au a8.out (aQ.tab.off a8.out ad9 ad9 ad9 ad9 ad9);have a5:=aU.vs.trans a7.out;have a3:tb=T4.tb:=by rw[aU.tb];exact ht.out
 clear aU;replace⟨bc,aN,bx,a5,a3⟩:=H5 bc aN bx a5 a3;obtain⟨y0,y1,y2,y3,y4,y5,y6,y7,y8,y9,bK,bL,bM⟩:=C13 bx.out;(try dsimp only at y0 y1 y2 y3 y4 y5 y6 y7 y8 y9 bK bL bM);have bk:BW w4.heap.size w4 (w4.alloc (J #[D ⟨#[97,110,97]⟩,D ⟨#[109,97,105,110]⟩,Z G 1,Z G 1,Z G 0,Z G 0,Z G 0,Z G 5,Z G 0,Z G 3,Z G 0,Q false,V I 0 0] 33 (0,0))):=Bn;have bA:(w4.alloc (J #[D ⟨#[97,110,97]⟩,D ⟨#[109,97,105,110]⟩,Z G 1,Z G 1,Z G 0,Z G 0,Z G 0,Z G 5,Z G 0,Z G 3,Z G 0,Q false,V I 0 0] 33 (0,0))).heap[w4.heap.size]?=O (J (Aw ay.cells [(⟨o9,I,0,0⟩:ay)]).toArray 33 (0,0)):=Ah _ _;have aT:=bc.drop bk
 have aA:=A39 aT.tab bA ad9 (λW' _ x hx=>by
  rw[Jj.1 hx]
  exact⟨Yi W',Nat.le_refl _,ad9,ad9⟩)
 have f:=Zz ⟨⟨2,0,0,1,1,0,0,0,0⟩,O ⟨w4.heap.size,0,I⟩,1,1,[⟨o9,I,0,0⟩]⟩ aT ⟨aA _ (Mod.refl _ _),Nat.le_refl _,λi=>by unfold dm.get;split<;>simp⟩ aA (λc=>absurd (show(2:Int)=6 from c) ad9) (t':=Gu) (c:=⟨0,0,1,3⟩) (r:=0) (by rw[a5.out,aN.out];exact λ_=>A3y);rw[<-a3.out]at f;replace⟨bk,bA,aT,aA,f⟩:=H5 bk bA aT aA f;go_wp2_with fail;refine f.mono ?_;rintro e w6 ⟨T6,rfl,bd,ad,bf⟩;have a6:=bf.vs.trans a5.out;have a4:tb=T6.tb:=by rw[bf.tb];exact a3.out
 clear bf y0 y1 y2 y3 y4 y5 y6 y7 y8 y9 bK bL bM;replace⟨bd,ad,a6,a4⟩:=H4 bd ad a6 a4;go_upto_region 8 with fail;obtain⟨rb,bs⟩:=Ex (w6.heap.size);obtain⟨W7,aX⟩:=Ex (w6.alloc (J #[Z G 0,Z G 1,Z G 3] 35 (0,0)));have bj:BW w6.heap.size w6 W7:=by rw[aX];exact Bn
 have a0:W7.heap[rb]?=O (J #[Z G 0,Z G 1,Z G 3] 35 (0,0)):=by rw[aX,bs];exact Ah _ _
 have aR:=bd.drop bj;have bH:T6.js.length=3:=by have:=Cv (λt:dq=>t.ab.length) ad.out;simpa[Tv.pl,Gu]using this
 have f:=Zz ⟨⟨6,0,1,0,0,0,0,0,0⟩,I,0,0,[]⟩ aR (Aeg _ _ (λi=>by unfold dm.get;split<;>simp)) (λW' _=>Aeh W') (λ_=>by omega) (t':=Z4) (c:=⟨0,0,0,0⟩) (r:=0) (by rw[a6.out,ad.out];exact A36);rw[<-a4.out]at f;rw[<-aX,<-bs];clear aX bs bH;replace⟨bj,a0,aR,f⟩:=H4 bj a0 aR f;go_wp2_with fail;refine f.mono ?_;rintro e w8 ⟨T8,rfl,be,al,aV⟩;have a1:=aV.mod.au a0.out (aR.tab.off a0.out ad9 ad9 ad9 ad9 ad9);have bw:=aV.vs.trans a6.out;have aP:tb=T8.tb:=by rw[aV.tb];exact a4.out
 clear aV;replace⟨be,al,a1,bw,aP⟩:=H5 be al a1 bw aP;go_upto_region 9 with fail;obtain⟨W9,bg⟩:=Ex (w8.alloc (J #[Z G 0,Z G 0,Z G 0] 35 (0,0)));have aZ:BW w8.heap.size w8 W9:=by rw[bg];exact Bn
 obtain⟨q8,bJ⟩:=Ex (w8.heap.size);have a2:=Ae aZ a1.out (Ab a1.out);have aS:=be.drop aZ;have kj:=Am3 aS (k:=2) (jp:=xu) (by rw[al.out];rfl) 3 rfl;rw[<-aP.out]at kj;rw[<-bg,<-bJ];clear bg bJ;replace⟨aZ,a2,aS,kj⟩:=H4 aZ a2 aS kj;go_wp2_with fail;refine kj.mono ?_;rintro e j ⟨y,rfl,hy,z⟩;have am:=Ae z a2.out (Ab a2.out);have o:=aS.drop z;have ys:y.pl.start=14:=by rw[hy];rfl
 have bD:y.pl.lf.st=1:=by rw[hy];rfl
 have aG:(j.alloc (J Jz 46 (0,0))).heap[j.heap.size]?=O (J aj.zero.cells 46 (0,0)):=Ah _ _;replace⟨am,o,z,hy,ys,bD,aG⟩:=H7 am o z hy ys bD aG;go_upto_region 10 with(refine L2 rfl 46 _ _ rfl j.heap.size y.cells rfl rfl 46 _ aG.out Fi rfl (Lw y) ?_);obtain⟨bF,hW⟩:=Ex ((j.alloc (J Jz 46 (0,0))).setRow j.heap.size y.cells);obtain⟨jb,m⟩:=Ex (j.heap.size);have b:BW j.heap.size j bF:=by rw[hW];exact Og Bn Ln _
 have a:bF.heap[jb]?=O (J y.cells 46 (0,0)):=by rw[hW,m];exact La _ _ _ _ 46 (0,0) aG.out
 have n:¬T8.ax jb:=λc=>by have:=o.tab.iu c;omega
 rw[<-hW,<-m];clear hW m;have an:=Ae b am.out (Ab am.out);have p:=o.drop b;have f:=Zz ⟨⟨7,0,0,0,0,1,1,0,1⟩,I,0,0,[]⟩ p (Aeg _ _ (λi=>by unfold dm.get;split<;>simp)) (λW' _=>Aeh W') (λc=>absurd c ad9) (t':=Aez) (c:=⟨0,0,0,0⟩) (r:=0) (by rw[bw.out,al.out];exact λ_=>A3z);rw[<-aP.out]at f;clear b;replace⟨an,p,a,f,n⟩:=H5 an p a f n;go_wp2_with fail;refine f.mono ?_;rintro e a9 ⟨bE,rfl,aJ,d,v⟩;have ao:=v.mod.au an.out (p.tab.off an.out ad9 ad9 ad9 ad9 ad9);have aC:=v.mod.au a.out n.out;have aB:tb=bE.tb:=by rw[v.tb];exact aP.out
 clear v;replace⟨aJ,d,ao,aC,aB⟩:=H5 aJ d ao aC aB;go_upto_region 11 with fail;obtain⟨bN,aK⟩:=Ex (a9.alloc (J #[Z G 0,Z G 0,Z G 0] 35 (0,0)));have g:BW a9.heap.size a9 bN:=by rw[aK];exact Bn
 obtain⟨bR,ba⟩:=Ex (a9.heap.size);have ap:=Ae g ao.out (Ab ao.out);have aD:=Ae g aC.out (Ab aC.out);have q:=aJ.drop g;have kj:=Am3 q (k:=0) (jp:=yy) (by rw[d.out];rfl) 1 rfl;rw[<-aB.out]at kj;rw[<-aK,<-ba];clear aK ba;replace⟨g,ap,aD,q,kj⟩:=H5 g ap aD q kj;go_wp2_with fail;refine kj.mono ?_;rintro e l ⟨y2,rfl,bB,h⟩;have av:=Ae h ap.out (Ab ap.out);have aE:=Ae h aD.out (Ab aD.out);have s:=q.drop h;have aH:(l.alloc (J Jz 46 (0,0))).heap[l.heap.size]?=O (J aj.zero.cells 46 (0,0)):=Ah _ _;replace⟨av,aE,s,h,bB,aH⟩:=H6 av aE s h bB aH;go_upto_region 12 with(refine L2 rfl 46 _ _ rfl l.heap.size y2.cells rfl rfl 46 _ aH.out Fi rfl (Lw y2) ?_);replace a:=a;clear a n;obtain⟨aI,hW⟩:=Ex ((l.alloc (J Jz 46 (0,0))).setRow l.heap.size y2.cells);obtain⟨bC,m⟩:=Ex (l.heap.size);have b:BW l.heap.size l aI:=by rw[hW];exact Og Bn Ln _
 have a:aI.heap[bC]?=O (J y2.cells 46 (0,0)):=by rw[hW,m];exact La _ _ _ _ 46 (0,0) aH.out
 have n:¬bE.ax bC:=λc=>by have:=s.tab.iu c;omega
 rw[<-hW,<-m];clear hW m;have aO:=Ae b av.out (Ab av.out);have aF:=Ae b aE.out (Ab aE.out);have u:=s.drop b;obtain⟨b0,b1,b2⟩:=C3 aO;(try dsimp only at b0 b1 b2);have b3:aI.cell? ⟨jb,19,I⟩=O (Z G 14):=by rw[<-ys.out];exact Aa aF 19
 have b4:aI.cell? ⟨jb,14,I⟩=O (Z G 1):=by rw[<-bD.out];exact Aa aF 14
 have b5:aI.cell? ⟨bC,14,I⟩=O (Z G 5):=by
  have e:y2.pl.lf.st=5:=by rw[bB.out];rfl
  rw[<-e];exact Aa a 14
 have kb:=A10 u 0;rw[d.out,<-aB.out,A30]at kb;have ac:=aY.trans (u.low.mono aY.size);replace⟨b,aO,aF,u,a,kb,n,ac⟩:=H8 b aO aF u a kb n ac
 have hq:∀W:WD,(Op.equalIn 10000 30 (.agg #[Z G 1,Z G 0,Z G 0,Z G 0]) (.agg #[Z G 1,Z G 0,Z G 0,Z G 0])).run prog W=.ok true W:=λW=>by
  have:=Abw ⟨1,0,0,0⟩ ⟨1,0,0,0⟩ W;simpa using this
 go_wp2_with (go_at_call 17;(with_reducible refine(kb.out).mono ?_);rintro e bS ⟨rfl,aL⟩;replace aL:=Hh aL);go_ret;exact⟨rfl,ac.trans (aL.mono ac.size)⟩
