/- Parts of a proof. No condition. -/
import Derived.Test.YtimlcnhcjndijaaGreatDoorJ27
import Derived.Test.YtimlcnhcjndijaaGreatDoorJ28
set_option linter.all false
set_option maxRecDepth 100000
set_option maxHeartbeats 3200000
namespace Go.Proofs.YtimlcnhcjndijaaGreatDoor
open Option renaming some->O,none->I
open Obj renaming cells->J
open IntKind renaming i64->G
open Value renaming int->Z,pointer->K,slice->V,string->D,tuple->E
open Ending renaming returned->Y
open Go renaming World->WD,Value->VL
open Go.RowKit renaming Below->BW
section
open Go.RowKit Go.Maps Go.Lib
def E2 (us:List bz):Nat:=(us.map λu=>u.left.length).sum
def Ad3 {us:List bz} {k:Nat} {u:bz} (f:bz->bz) (a:us[k]?=O u):E2 (us.modify k f)+u.left.length=E2 us+(f u).left.length:=by
 induction us generalizing k with
 | nil=>simp at a
 | cons x r ih=>
  cases k with
  | zero=>
   simp at a;subst a;simp[E2];omega
  | succ k=>
   have:=ih (k:=k) (by simpa using a);simp[E2]at this ⊢;omega
def Zs {us:List bz} {s:ByteArray} {k:Nat} (h:Ij us s=O k):∃u,us[k]?=O u/\u.name=s:=by
 unfold Ij at h;rcases Tk (uh s) us with⟨h1,_⟩|⟨c,u,h1,a,b⟩
 .rw [h1]at h;cases h
 .rw [h1]at h;injection h with h;subst h;have:=Ud b;exact⟨u,a,by simpa[uh]using this⟩
def Az4 (us:List bz) (s:ByteArray) (i:Nat):E2 (Ak us s i)=E2 us+1:=by
 unfold Ak
 cases h:Ij us s with
 | none=>simp[E2]
 | some k=>
  obtain⟨u,a,_⟩:=Zs h;have:=Ad3 (λu=>⟨u.name,u.has,u.left++[i]⟩) a;simp at this ⊢;omega
def Alz (a:List dp):∀j,E2 (Cq a j)=j
 | 0=>rfl
 | j+1=>by
  show E2 (Ak (Cq a j) _ j)=j+1;rw[Az4,Alz a j]
def Az5 (us:List bz) (h:fp):E2 (Dd us h)=E2 us:=by
 unfold Dd
 cases h2:Ij us h.user with
 | none=>rfl
 | some k=>
  obtain⟨u,a,_⟩:=Zs h2;have:=Ad3 (λu=>⟨u.name,Ld u.has h.has,u.left⟩) a;simp at this ⊢;omega
def Az6 (a:List fp) (b:List dp):E2 (Dp a b)=b.length:=by
 unfold Dp
 have c:∀(a:List fp) (l:List bz),E2 (a.foldl Dd l)=E2 l:=λa=>by
  induction a with
  | nil=>intro l;rfl
  | cons h r ih=>intro l;exact(ih _).trans (Az5 l h)
 have:E2 ((a.foldl Dd (Cq b b.length)).map λu=>⟨u.name,u.has,Ii b u.left⟩)=E2 (a.foldl Dd (Cq b b.length)):=by unfold E2;rw[Dm];congr 1;apply Wn;intro u _;simp[Ii,Wk]
 rw[this,c,Alz]
def Pj (n:Nat) (us:List bz):Prop:=∀u,u∈us->Pi u.has/\∀p,p∈u.left->p<n
def Al0 (u v:V4):Pi (Ld u v):=λd f=>by
 have a:=Qk (Fs u.a+Fs v.a);have b:=Qk (Fs u.b+Fs v.b);have c:=Qk (Fs u.c+Fs v.c);have e:=Qk (Fs u.d+Fs v.d)
 rcases(by omega:d=0\/d=1\/d=2\/d=3)with rfl|rfl|rfl|rfl<;>simp only[Ld,Kt,V4.get]<;>omega
def Az7:Pi ⟨0,0,0,0⟩:=λd a=>by
 rcases(by omega:d=0\/d=1\/d=2\/d=3)with rfl|rfl|rfl|rfl<;>simp[V4.get]
def Az8 (e:List fp) (b:List dp):Pj b.length (Dp e b):=by
 have h0:∀j,j<=b.length->Pj b.length (Cq b j):=λj=>by
  induction j with
  | zero=>intro _ u a;cases a
  | succ j ih=>
   intro m u a;have i:=ih ao9;have a:u∈Ak (Cq b j) (A9 b j).user j:=a;unfold Ak at a;split at a
   .rcases Dl.1 a with a|a
    .exact i u a
    .simp at a;subst a;exact⟨Az7,λp c=>by simp at c;omega⟩
   .rcases Pf a with a|⟨y,f,rfl⟩
    .exact i u a
    .refine ⟨(i y f).1,λp c=>?_⟩;rcases Dl.1 c with c|c
     .exact (i y f).2 p c
     .simp at c;omega
 have g:∀(l:List bz) (h:fp),Pj b.length l->Pj b.length (Dd l h):=λl h d u a=>by
  unfold Dd at a;split at a
  .exact d u a
  .rcases Pf a with a|⟨y,f,rfl⟩
   .exact d u a
   .exact ⟨Al0 _ _,(d y f).2⟩
 have k:∀(e:List fp) (l:List bz),Pj b.length l->Pj b.length (e.foldl Dd l):=λe=>by
  induction e with
  | nil=>intro l d;exact d
  | cons h r ih=>intro l d;exact ih _ (g l h d)
 intro u a;unfold Dp at a;obtain⟨y,f,rfl⟩:=A5.1 a;have:=k e _ (h0 b.length Ln) y f;exact⟨this.1,λp c=>this.2 p (by simpa[Ii,Ua]using c)⟩
def Az9 {n:Nat} {us:List bz} (h:Pj n us) (f:List dp) (k:Nat):Pj n (us.modify k (Ku f)):=λu b=>by
 rcases Pf b with b|⟨y,d,rfl⟩
 .exact h u b
 .have a:=h y d;unfold Ku;split
  .exact a
  .rename_i p l e;exact⟨Al0 _ _,λq c=>a.2 q (by rw[e];exact B2 _ c)⟩
def A0a (a:List dp) (us:List bz) (k:Nat):(us.modify k (Ku a)).map bz.name=us.map bz.name:=by
 apply Eh;intro j;simp only[A7,Dj];split
 .rename_i h;subst h
  cases us[k]? with
  | none=>rfl
  | some u=>
   show O (Ku a u).name=O u.name;unfold Ku
   split<;>rfl
 .cases us[j]?<;>rfl
def A0b {us:List bz} (i:(us.map bz.name).Nodup) {k:Nat} {u:bz} (c:us[k]?=O u):Ij us u.name=O k:=by
 unfold Ij;rcases Tk (uh u.name) us with⟨_,a⟩|⟨j,u',h1,a,f⟩
 .have:=R8.1 a u (Ai c);simp[uh]at this
 .rw [h1];have b:u'.name=u.name:=by have:=Ud f;simpa[uh]using this
  have g:(us.map bz.name)[k]?=O u.name:=by simp[c]
  have h:(us.map bz.name)[j]?=O u.name:=by simp[a,b]
  obtain⟨l,d⟩:=An.1 g;obtain⟨m,e⟩:=An.1 h;rw[(List.getElem_inj i).1 (e.trans d.symm)]
def A0c (whole:V4) {us:List bz} (q:(us.map bz.name).Nodup) (a:List ByteArray) (h:0<E2 us) (b:∀u,u∈us->u.name∈a):∃k s,De whole us a a.length=O (k,s):=by
 obtain⟨u,f,p⟩:∃u,u∈us/\u.left≠[]:=by
  false_or_by_contra
  rename_i n
  have:E2 us=0:=by
   unfold E2;rw[List.sum_eq_zero_iff_forall_eq_nat];intro x r;obtain⟨u,f,rfl⟩:=A5.1 r
   false_or_by_contra
   rename_i l;exact n ⟨u,f,λe=>l (by rw[e];rfl)⟩
  omega
 obtain⟨k,i⟩:=B4 f;obtain⟨j,g⟩:=B4 (b u f);have o:=(An.1 g).1
 have c:∀m,(∃k s,De whole us a m=O (k,s))->∃k s,De whole us a (m+1)=O (k,s):=λm ⟨k,s,e⟩=>by
  unfold De;rw[e];split
  .exact ⟨k,s,rfl⟩
  .split
   .exact ⟨k,s,rfl⟩
   .split
    .exact ⟨k,s,rfl⟩
    .simp only
     split<;>exact⟨_,_,rfl⟩
 have at_:∃k s,De whole us a (j+1)=O (k,s):=by
  unfold De;rw[g];simp only[Option.bind_some];rw[A0b q i];simp only[i];rw[Ac p];split
  .exact ⟨_,_,rfl⟩
  .split<;>exact⟨_,_,rfl⟩
 have t:∀d,∃k s,De whole us a (j+1+d)=O (k,s):=λd=>by
  induction d with
  | zero=>exact at_
  | succ d ih=>exact c _ ih
 have:=t (a.length-(j+1));rw[show j+1+(a.length-(j+1))=a.length by omega]at this;exact this
def Al1 (us:List bz) {u:bz} (a:u∈us):u.name∈Gn us:=by
 unfold Gn;refine A5.2 ⟨u.name.data.toList,?_,?_⟩
 .rw [Ua];exact A5.2 ⟨u,a,rfl⟩
 .simp
def Rw {whole:V4} {us:List bz} {a:List ByteArray}:∀ {m k:Nat} {s:gd},De whole us a m=O (k,s)->∃u,us[k]?=O u/\u.left≠[]/\s=P4 u.has whole
 | 0,k,s,h=>by cases h
 | m+1,k,s,h=>by
  unfold De at h;split at h
  .exact Rw h
  .rename_i e _;split at h
   .exact Rw h
   .rename_i u c;split at h
    .exact Rw h
    .rename_i b;split at h
     .injection h with h;injection h with h1 h2;subst h1 h2;exact⟨u,c,b,rfl⟩
     .rename_i i f d;split at h
      .injection h with h;injection h with h1 h2;subst h1 h2;exact⟨u,c,b,rfl⟩
      .injection h with h;injection h with h1 h2;subst h1 h2;exact Rw d
structure Vy (whole:V4) (ws:List dp) (names:List ByteArray) (P0:List bz) (t:List bz×List Nat) (r:Nat):Prop where
 left:E2 t.1+r=ws.length
 ok:Pj ws.length t.1
 nm:t.1.map bz.name=P0.map bz.name
 out:t.2.length=r
def Al2 {whole:V4} {b:List dp} {a:List ByteArray} {c:List bz} {r:Nat} (j:(c.map bz.name).Nodup) (i:∀u,u∈c->u.name∈a) (h:Vy whole b a c (C8 whole b c a r) r) (hr:r<b.length) :
  ∃k s u p l,De whole (C8 whole b c a r).1 a a.length=O (k,s)/\(C8 whole b c a r).1[k]?=O u/\u.left=p :: l/\p<b.length /\
   C8 whole b c a (r+1)=((C8 whole b c a r).1.set k ⟨u.name,Ld u.has (A9 b p).ox,l⟩,(C8 whole b c a r).2++[p])/\Vy whole b a c (C8 whole b c a (r+1)) (r+1):=by
 obtain⟨h1,o,n,z⟩:=h;generalize ht:C8 whole b c a r=t at h1 o n z;have f:(t.1.map bz.name).Nodup:=by rw[n];exact j
 obtain⟨k,s,q⟩:=A0c whole f a ao9 (λu g=>by
  have:u.name∈c.map bz.name:=by rw[<-n];exact F1 g
  obtain⟨u2,x,e⟩:=A5.1 this;rw[<-e]
  exact i u2 x)
 obtain⟨u,g,hl,_⟩:=Rw q
 cases hul:u.left with
 | nil=>exact absurd hul hl
 | cons p l=>
  have v:=(o u (Ai g)).2 p (by rw[hul];exact Ci ..);have d:C8 whole b c a (r+1)=(t.1.modify k (Ku b),t.2++[p]):=by unfold C8;rw[ht,q];simp only;rw[g];simp only;rw[hul];rfl
  have m:Ku b u=⟨u.name,Ld u.has (A9 b p).ox,l⟩:=by unfold Ku;rw[hul]
  refine⟨k,s,u,p,l,q,g,hul,v,?_,?_⟩
  .rw [d,Rt _ _ _ g,m]
  .rw [d];have y:=Ad3 (Ku b) g;rw[m,hul]at y;simp only[Jl]at y;exact⟨by show E2 (t.1.modify k (Ku b))+(r+1)=b.length;omega,Az9 o b k,by rw[A0a];exact n,by simp;omega⟩
def Al3 (whole:V4) (c:List fp) (b:List dp) (a:List ByteArray):Vy whole b a (Dp c b) (C8 whole b (Dp c b) a 0) 0:=⟨by show E2 (Dp c b)+0=_;rw[Az6];rfl,Az8 c b,rfl,rfl⟩
def C0 (us:List bz):List Nat:=(us.map bz.left).flatten
def Zt:∀ {us:List bz} {k:Nat} {u:bz} (f:bz->bz),us[k]?=O u->∃A B,C0 us=A++(u.left++B)/\C0 (us.modify k f)=A++((f u).left++B)
 | [],_,_,_,h=>by simp at h
 | v :: us,0,u,f,h=>by
  simp at h;subst h;exact⟨[],C0 us,by simp[C0],by simp[C0]⟩
 | v :: us,k+1,u,f,h=>by
  obtain⟨A,B,h1,a⟩:=Zt (us:=us) (k:=k) f (by simpa using h);refine⟨v.left++A,B,?_,?_⟩
  .show C0 (v :: us)=_
   have:C0 (v :: us)=v.left++C0 us:=by simp[C0]
   rw[this,h1,K6]
  .rw [Wi]
   have:C0 (v :: us.modify k f)=v.left++C0 (us.modify k f):=by simp[C0]
   rw[this,a,K6]
def A0d (us:List bz) (s:ByteArray) (i:Nat):(C0 (Ak us s i)).Perm (C0 us++[i]):=by
 unfold Ak
 cases h:Ij us s with
 | none=>simp[C0]
 | some k=>
  obtain⟨u,b,_⟩:=Zs h;obtain⟨A,B,h1,a⟩:=Zt (λu=>⟨u.name,u.has,u.left++[i]⟩) b;simp only;rw[h1,a];simp only[K6];refine Aam A (Aam u.left ?_);exact List.perm_append_comm
def Al4 (a:List dp):∀j,(C0 (Cq a j)).Perm (List.range j)
 | 0=>Uf _
 | j+1=>by
  show(C0 (Ak (Cq a j) _ j)).Perm _;rw[Wv];exact(A0d _ _ _).trans ((Al4 a j).append_right [j])
def A0e (us:List bz) (h:fp):C0 (Dd us h)=C0 us:=by
 unfold Dd
 cases h2:Ij us h.user with
 | none=>rfl
 | some k=>
  obtain⟨u,c,_⟩:=Zs h2;obtain⟨A,B,a,b⟩:=Zt (λu=>⟨u.name,Ld u.has h.has,u.left⟩) c;simp only;rw[a,b]
def Al5 (f:List Nat->List Nat) (a:∀l,(f l).Perm l):∀us:List bz,(C0 (us.map λu=>⟨u.name,u.has,f u.left⟩)).Perm (C0 us)
 | []=>Uf _
 | u :: us=>by
  have h1:C0 ((u :: us).map λu=>(⟨u.name,u.has,f u.left⟩:bz))=f u.left++C0 (us.map λu=>⟨u.name,u.has,f u.left⟩):=by simp[C0]
  have b:C0 (u :: us)=u.left++C0 us:=by simp[C0]
  rw[h1,b];exact(a u.left).append (Al5 f a us)
def A0f (a:List fp) (b:List dp):(C0 (Dp a b)).Perm (List.range b.length):=by
 have c:∀(a:List fp) (l:List bz),C0 (a.foldl Dd l)=C0 l:=λa=>by
  induction a with
  | nil=>intro l;rfl
  | cons h r ih=>intro l;exact(ih _).trans (A0e l h)
 unfold Dp;refine(Al5 (Ii b) (λl=>List.mergeSort_perm l _) _).trans ?_;rw[c];exact Al4 b b.length
def Al6 (whole:V4) (c:List dp) (us:List bz) (a:List ByteArray):∀r,(C0 (C8 whole c us a r).1++(C8 whole c us a r).2).Perm (C0 us)
 | 0=>by
  show(C0 us++[]).Perm _;rw[Nv]
 | r+1=>by
  have d:=Al6 whole c us a r;unfold C8;generalize C8 whole c us a r=t at d ⊢
  cases hp:De whole t.1 a a.length with
  | none=>exact d
  | some ks=>
   obtain⟨k,s⟩:=ks;simp only
   cases hk:t.1[k]? with
   | none=>exact d
   | some u=>
    obtain⟨j,b,i,_⟩:=Rw hp;rw[hk]at b;injection b with b;subst b;obtain⟨A,B,h1,h⟩:=Zt (Ku c) hk;simp only;refine List.Perm.trans ?_ d;rw[h1,h]
    cases hul:u.left with
    | nil=>exact absurd hul i
    | cons p l=>
     have e:(Ku c u).left=l:=(by unfold Ku;rw[hul]);rw[e];show((A++(l++B))++(t.2++[p])).Perm ((A++(p :: l++B))++t.2);have f:(A++(p :: l++B))++t.2=A++(p :: (l++B++t.2)):=as9;have g:(A++(l++B))++(t.2++[p])=A++(l++B++t.2++[p]):=as9;rw[f,g];refine Aam A ?_;exact List.perm_append_singleton p _
def Al7 (c:List dp):∀j,((Cq c j).map bz.name).Nodup
 | 0=>List.nodup_nil
 | j+1=>by
  have f:=Al7 c j;show((Ak (Cq c j) (A9 c j).user j).map bz.name).Nodup;unfold Ak
  cases h:Ij (Cq c j) (A9 c j).user with
  | none=>
   simp only[Dk,Ko,Uh];refine Sa.2 ⟨f,as9,λa g b d e=>?_⟩;simp at d;obtain⟨u,l,rfl⟩:=A5.1 g;unfold Ij at h;have:=List.findIdx?_eq_none_iff.1 h u l;simp[uh]at this;exact this (e.trans d)
  | some k=>
   simp only
   have e:((Cq c j).modify k λu=>(⟨u.name,u.has,u.left++[j]⟩:bz)).map bz.name=(Cq c j).map bz.name:=by
    apply Eh;intro i;simp only[A7,Dj]
    cases (Cq c j)[i]? with
    | none=>rfl
    | some u=>
     simp only[K9]
     split<;>rfl
   rw[e];exact f
def A0g (us:List bz) (h:fp):(Dd us h).map bz.name=us.map bz.name:=by
 unfold Dd
 cases h2:Ij us h.user with
 | none=>rfl
 | some k=>
  simp only;apply Eh;intro i;simp only[A7,Dj]
  cases us[i]? with
  | none=>rfl
  | some u=>
   simp only[K9]
   split<;>rfl
def A0h (a:List fp) (b:List dp):((Dp a b).map bz.name).Nodup:=by
 have c:∀(a:List fp) (l:List bz),(a.foldl Dd l).map bz.name=l.map bz.name:=λa=>by
  induction a with
  | nil=>intro l;rfl
  | cons h r ih=>intro l;exact(ih _).trans (A0g l h)
 unfold Dp;rw[Dm];show((a.foldl Dd (Cq b b.length)).map bz.name).Nodup;rw[c];exact Al7 b b.length
def Al8 (whole:V4) (b:List fp) (a:List dp):∀r,r<=a.length->Vy whole a (Gn (Dp b a)) (Dp b a) (C8 whole a (Dp b a) (Gn (Dp b a)) r) r
 | 0,_=>Al3 whole b a _
 | r+1,hr=>by
  obtain⟨_,_,_,_,_,_,_,_,_,_,h⟩:=Al2 (A0h b a) (λu c=>Al1 _ c) (Al8 whole b a r ao9) ao9;exact h
def Vz (whole:V4) (b:List fp) (a:List dp):(Le whole b a).Perm (List.range a.length):=by
 have h:=Al8 whole b a a.length Ln;have c:=(Al6 whole a (Dp b a) (Gn (Dp b a)) a.length).trans (A0f b a)
 have h0:C0 (C8 whole a (Dp b a) (Gn (Dp b a)) a.length).1=[]:=by
  apply Ib.1
  have e:∀us:List bz,(C0 us).length=E2 us:=λus=>by
   unfold C0 E2;rw[List.length_flatten,Dm];rfl
  rw[e];have:=h.left;omega
 rw[h0,Sb]at c;exact c
def A0i (whole:V4) (a:List fp) (b:List dp):(Le whole a b).Nodup:=(Vz whole a b).nodup_iff.2 List.nodup_range
def Zu (whole:V4) (b:List fp) (a:List dp) {i:Nat} (h:i∈Le whole b a):i<a.length:=Ot.1 ((Vz whole b a).mem_iff.1 h)
def xo (l:List ByteArray):List VL:=l.map Value.string
structure jm (w:WD) (ao:Option Addr) (n c:Nat) (us:List cn) (nv:VL) (names:List ByteArray) (ov:VL) (out:List Nat) (wr:WD):Prop where
 up:ir Ds w ao n c us wr
 nm:wr.ownsRow w.heap.size 9 1 nv names.length (xo names)
 out:Am wr w.heap.size ov (Dh out)
 oa:∀u,u∈us->∀k,ov.ownBlock=O k->u.lv.ownBlock≠O k
variable {w wr w1 w':WD} {ao:Option Addr} {n c:Nat} {nv:VL} {us:List cn} {names:List ByteArray} {ov:VL} {out:List Nat}
def jm.drop (h:jm w ao n c us nv names ov out wr) (a:BW wr.heap.size wr w'):jm w ao n c us nv names ov out w':=
 ⟨h.up.drop Vl a,Bd (S:=λ_=>False) h.nm (Mod.af a) (λ_ _ c=>c),h.out.mod (Mod.af (S:=λ_=>False) a) (λ_ _ c=>c),h.oa⟩
def jm.ubk (h:jm w ao n c us nv names ov out wr) {u:cn} (g:u∈us):∀k,(k=u.b\/u.lv.ownBlock=O k)->nv.ownBlock≠O k/\ov.ownBlock≠O k:=λk d=>by
 refine⟨λe=>?_,λe=>?_⟩
 .obtain ⟨i,f,_⟩:=C7 h.nm e;rcases d with d|d
  .have:=(h.up.us.box u g).1;rw[<-d,f]at this;injection this with this;injection this with _ this;exact absurd this ad9
  .obtain ⟨j,a⟩:=Vl.au (h.up.us.left u g) k d;rw[f]at a;injection a with a;injection a with _ a;exact absurd a ad9
 .rcases d with d|d
  .obtain ⟨i,f,_⟩:=C7 h.out.row e;have:=(h.up.us.box u g).1;rw[<-d,f]at this;injection this with this;injection this with _ this;exact absurd this ad9
  .exact h.oa u g k e d
def jm.xe (h:jm w ao n c us nv names ov out wr) {i:Nat} {u u':cn} (p:us[i]?=O u) (m:Mod (λb=>b=u.b) wr w') (q:u'.b=u.b) (r:u'.pl.name=u.pl.name) (d:w'.heap[u.b]?=O (J u'.cells 335 (0,0)))
  (g:Ds w' w.heap.size u'.lv (Dh u'.pl.left)) (f:u'.lv.ownBlock=u.lv.ownBlock):jm w ao n c (us.set i u') nv names ov out w':=by
 have l:=Ai p;have j:=h.ubk l;refine⟨h.up.set Vl p (m.mono λ_ _ e=>.inl e) q r d g λk a=>.inl (f▸a),Bd h.nm m (λk a e=>?_),h.out.mod m (λk a e=>(j k (.inl e)).2 a),λy o k a e=>?_⟩
 .exact (j k (.inl e)).1 a
 .rcases Wd o with o|rfl
  .exact h.oa y o k a e
  .rw [f]at e;exact h.oa u l k a e
def jm.vf (h:jm w ao n c us nv names ov out wr) {k:Nat} {u:cn} (l:us[k]?=O u) {w1:WD} (p:BW wr.heap.size wr w1) (v:V4) :
  jm w ao n c (us.set k ⟨u.b,u.lv,⟨u.pl.name,v,u.pl.left⟩⟩) nv names ov out ((((w1.setCell ⟨u.b,0,I⟩ (Z G v.a)).setCell ⟨u.b,1,I⟩ (Z G v.b)).setCell ⟨u.b,2,I⟩ (Z G v.c)).setCell ⟨u.b,3,I⟩ (Z G v.d)):=by
 have h1:=h.drop p;have f:=Ai l;obtain⟨j,_⟩:=h1.up.us.box u f;have m:∀(W:WD) (o:Nat) (x:VL),Mod (λb=>b=u.b) W (W.setCell ⟨u.b,o,I⟩ x):=λW o x=>Mod.setCell W u.b o x rfl;have i:Mod (λb=>b=u.b) w1 ((((w1.setCell ⟨u.b,0,I⟩ (Z G v.a)).setCell ⟨u.b,1,I⟩ (Z G v.b)).setCell ⟨u.b,2,I⟩ (Z G v.c)).setCell ⟨u.b,3,I⟩ (Z G v.d)):=(((m _ _ _).trans (m _ _ _)).trans (m _ _ _)).trans (m _ _ _)
 have q:u.lv.ownBlock≠O u.b:=λe=>by
  obtain⟨r,g⟩:=Vl.au (h1.up.us.left u f) _ e;rw[j]at g;injection g with g;injection g with _ g;exact absurd g ad9
 refine h1.xe l i rfl rfl ?_ ((h1.up.us.left u f).mod i (λk l e=>q (by rw[l,e]))) rfl;have:=Ap (Ap (Ap (Ap j 0 (Z G v.a)) 1 (Z G v.b)) 2 (Z G v.c)) 3 (Z G v.d);simpa using this
def jm.push (h:jm w ao n c us nv names ov out wr) (x:BW wr.heap.size wr w1) {m:VL} {g:List Nat} (y:w1.grownBy w' ov.ownBlock) (ho:Am w' w.heap.size m (Dh g)) (v:∀k,m.ownBlock=O k->ov.ownBlock=O k\/k=w1.heap.size):jm w ao n c us nv names m g w':=by
 have h1:=h.drop x;have p:=Mod.grown y (λk a=>a);obtain⟨s,cl,z⟩:=h1.up.us.qi
 have t:∀k,ov.ownBlock=O k->∃c,w1.heap[k]?=O (J c 3 (0,0)):=λk a=>by
  obtain⟨i,d,_⟩:=C7 h1.out.row a;exact⟨i,d⟩
 have j:∀(k:Nat) (o:Obj),w1.heap[k]?=O o->(∀c,o≠J c 3 (0,0))->w'.heap[k]?=O o:=λk o a r=>p.au a λe=>by
  obtain⟨i,d⟩:=t k e;rw[d]at a;injection a with a;exact r i a.symm
 refine⟨⟨⟨h1.up.us.low.trans (p.below h1.up.us.low.size (λk a=>(h1.out.lt k a).1)),?_,h1.up.us.mlt,λu f=>⟨j _ _ (h1.up.us.box u f).1 (λc e=>by injection e with _ e;exact absurd e ad9),(h1.up.us.box u f).2⟩,λu f=>(h1.up.us.left u f).mod p (λk a e=>h1.oa u f k e a),h1.up.us.names,h1.up.us.one⟩,j _ _ h1.up.pb (λc e=>by injection e with _ e;exact absurd e ad9)⟩,
  Bd h1.nm p (λk a e=>?_),ho,λu f k a e=>?_⟩
 .obtain ⟨s,l,q,rr⟩:=h1.up.us.map;exact⟨s,l,j _ _ q (λc e=>by cases e),rr⟩
 .obtain ⟨i,d⟩:=t k e;obtain⟨c2,b,_⟩:=C7 h1.nm a;rw[d]at b;injection b with b;injection b with _ b;exact absurd b ad9
 .rcases v k a with i|i
  .exact h1.oa u f k i e
  .have:=((h1.up.us.left u f).lt k e).2;omega
def jm.off (h:jm w ao n c us nv names ov out wr) {lb:Nat} {cs:Array VL} (i:wr.heap[lb]?=O (J cs 333 (0,0))) (p:w.heap.size<=lb) (j:Mod (λb=>b=lb) wr w'):jm w ao n c us nv names ov out w':=by
 obtain⟨t,z,x⟩:=h.up.us.qi
 have f:∀(k:Nat) (o:Obj),wr.heap[k]?=O o->(∀c,o≠J c 333 (0,0))->w'.heap[k]?=O o:=λk o a q=>j.au a λe=>by
  rw[e,i]at a;injection a with a;exact q cs a.symm
 have r:∀ {k:Nat} {c:Array VL} {T:TypeId},wr.heap[k]?=O (J c T (0,0))->T≠333->k≠lb:=λa v e=>by
  rw[e,i]at a;injection a with a;injection a with _ a;exact v a.symm
 refine⟨⟨⟨h.up.us.low.trans (j.below h.up.us.low.size (λk a=>by rw[a];exact p)),?_,h.up.us.mlt,λu l=>⟨f _ _ (h.up.us.box u l).1 (λc e=>by injection e with _ e;exact absurd e ad9),(h.up.us.box u l).2⟩,λu l=>(h.up.us.left u l).mod j (λk a e=>?_),h.up.us.names,h.up.us.one⟩,f _ _ h.up.pb (λc e=>by injection e with _ e;exact absurd e ad9)⟩,
  Bd h.nm j (λk a e=>?_),h.out.mod j (λk a e=>?_),h.oa⟩
 .obtain ⟨t,g,m,y⟩:=h.up.us.map;exact⟨t,g,f _ _ m (λc e=>by cases e),y⟩
 .obtain ⟨s,d⟩:=(h.up.us.left u l).au a;exact r d ad9 e
 .obtain ⟨s,d,_⟩:=C7 h.nm a;exact r d ad9 e
 .obtain ⟨s,d,_⟩:=C7 h.out.row a;exact r d ad9 e
def ir.toQ (h:ir Am w ao n c us wr):ir Ds w ao n c us wr:=⟨⟨h.us.low,h.us.map,h.us.mlt,h.us.box,λu a=>Ds.of (h.us.left u a),h.us.names,h.us.one⟩,h.pb⟩
def Amf (x:Lit×DU):∀l:List (Lit×DU),(DataW.insert x l).Perm (x :: l)
 | []=>Uf _
 | y :: r=>by
  unfold DataW.insert;split
  .exact Uf _
  .exact ((Amf x r).cons y).trans (List.Perm.swap x y r)
def A0q (l:List (ByteArray×Nat)) (h:(l.map Prod.fst).Nodup):∃a,In l=.map a/\(a.map λp=>p.1).Perm (l.map λp=>Cb p.1):=by
 induction l using Q4 with
 | h0=>exact⟨[],rfl,Uf _⟩
 | h1 l x ih=>
  rw[Dk,Sa]at h;obtain⟨a,e,g⟩:=ih h.1;refine⟨DataW.insert (Cb x.1,Ka x.2) a,?_,?_⟩
  .rw [Vk,e];simp only[DataW.put];rw[List.filter_eq_self.2];intro p d;have i:=g.mem_iff.1 (F1 d);obtain⟨q,j,f⟩:=A5.1 i;rw[<-f]
   have b:¬(Cb q.1).sameKey (Cb x.1)=true:=λc=>by
    have:=(Adi _ _).1 c;exact h.2.2 q.1 (F1 j) x.1 as9 this
   simp[b]
  .refine ((Amf _ a).map _).trans ?_;rw[Dk];simp only[Ko,Uh];exact(g.cons _).trans (List.perm_append_singleton _ _).symm
def Amg (l:List (ByteArray×Nat)) (h:(l.map Prod.fst).Nodup):(strKeys (In l)).Perm (l.map λp=>p.1.data.toList)/\Maps.size (In l)=l.length:=by
 obtain⟨b,e,a⟩:=A0q l h;rw[e];refine⟨?_,?_⟩
 .have:=a.map strOf;simp only[Dm]at this;exact this
 .have:=a.length_eq;simpa[Maps.size_eq]using this
end
section
open Go.RowKit Go.Maps Go.Lib
variable {w wr w1 w':WD} {ao:Option Addr} {n c:Nat} {nv ov:VL} {us:List cn} {names:List ByteArray} {out:List Nat}
def A0r {ss:List (List UInt8)} {us:List cn} (h:(us.map λu=>u.pl.name).Nodup) (c:ss.Perm (strKeys (In (us.map cn.key)))):(ss.mergeSort λx y=>decide (x<=y)).map encStr=xo (Gn (us.map cn.pl))/\(Gn (us.map cn.pl)).length=ss.length:=by
 have b:=(Amg (us.map cn.key) (by simpa[cn.key,Jk]using h)).1;have a:ss.Perm (us.map λu=>u.pl.name.data.toList):=by refine c.trans ?_;simpa[cn.key,Jk]using b
 have e:ss.mergeSort (λx y=>decide (x<=y))=(us.map λu=>u.pl.name.data.toList).mergeSort λx y=>decide (x<=y):=mergeSort_of_perm a;refine⟨?_,?_⟩
 .rw [e];simp[xo,Gn,Jk]
 .simp [Gn,Wk,a.length_eq]
def Amh (a:List fp) (b:List dp):(Dp a b).length<=b.length:=by
 have c:∀(a:List fp) (l:List bz),(a.foldl Dd l).length=l.length:=λa=>by
  induction a with
  | nil=>intro l;rfl
  | cons h r ih=>
   intro l;refine(ih _).trans ?_;unfold Dd
   split<;>simp
 unfold Dp;rw[Ar,c];exact(Vo b b.length).1
def Ami (b:List dp):∀j,j<=b.length->∀u,u∈Cq b j->∃x,x∈b/\u.name=x.user
 | 0,_,u,a=>by cases a
 | j+1,hj,u,a=>by
  have e:b[j]?=O b[j]:=A3 ao9;have c:A9 b j=b[j]:=by unfold A9;rw[Iq e]
  have a:u∈Ak (Cq b j) (A9 b j).user j:=a;have d:=Ami b j ao9;unfold Ak at a;split at a
  .rcases Dl.1 a with a|a
   .exact d u a
   .simp at a;subst a;exact⟨b[j],J1 _,by rw[c]⟩
  .rcases Pf a with a|⟨y,f,rfl⟩
   .exact d u a
   .exact d y f
def A0s (d:List fp) (b:List dp):∀u,u∈Dp d b->∃x,x∈b/\u.name=x.user:=λu a=>by
 unfold Dp at a;obtain⟨y,g,rfl⟩:=A5.1 a
 have e:∀(l:List bz) (h:fp),(∀u,u∈l->∃x,x∈b/\u.name=x.user)->∀u,u∈Dd l h->∃x,x∈b/\u.name=x.user:=λl h c u a=>by
  unfold Dd at a;split at a
  .exact c u a
  .rcases Pf a with a|⟨z,i,rfl⟩
   .exact c u a
   .exact c z i
 have f:∀(d:List fp) (l:List bz),(∀u,u∈l->∃x,x∈b/\u.name=x.user)->∀u,u∈d.foldl Dd l->∃x,x∈b/\u.name=x.user:=λd=>by
  induction d with
  | nil=>intro l c;exact c
  | cons h r ih=>intro l c;exact ih _ (e l h c)
 exact f d _ (Ami b b.length Ln) y g
def yu (us:List cn) (pk:Option (Nat×gd)) (nx:VL):Prop:=(pk=I/\nx=K I)\/∃p u,pk=O p/\us[p.1]?=O u/\nx=Mj u.b
structure mw (w:WD) (ao:Option Addr) (n c:Nat) (us:List cn) (nv:VL) (names:List ByteArray) (ov:VL) (out:List Nat) (lb:Nat) (pk:Option (Nat×gd)) (nx:VL) (wr:WD):Prop where
 tu:jm w ao n c us nv names ov out wr
 im:wr.heap[lb]?=O (J #[Z G ((pk.map Prod.snd).getD (0,0)).1,Z G ((pk.map Prod.snd).getD (0,0)).2] 333 (0,0))
 lw:w.heap.size<=lb
 nx:yu us pk nx
def mw.drop {lb:Nat} {d:Option (Nat×gd)} {b:VL} (h:mw w ao n c us nv names ov out lb d b wr) (a:BW wr.heap.size wr w'):mw w ao n c us nv names ov out lb d b w':=⟨h.tu.drop a,Ae a h.im (Ab h.im),h.lw,h.nx⟩
def mw.put {lb:Nat} {k a:Option (Nat×gd)} {j d:VL} {e f:Int} (h:mw w ao n c us nv names ov out lb k j wr) (g:(a.map Prod.snd).getD (0,0)=(e,f)) (i:yu us a d):mw w ao n c us nv names ov out lb a d ((wr.setCell ⟨lb,0,I⟩ (Z G e)).setCell ⟨lb,1,I⟩ (Z G f)):=by
 refine⟨h.tu.off h.im h.lw ((Mod.setCell (S:=λb=>b=lb) wr lb 0 _ rfl).trans (Mod.setCell (S:=λb=>b=lb) _ lb 1 _ rfl)),?_,h.lw,i⟩;have:=Ap (Ap h.im 0 (Z G e)) 1 (Z G f);rw[g];simpa using this
structure xq (w:WD) (ao:Option Addr) (n c:Nat) (us:List cn) (nv:VL) (names:List ByteArray) (ov:VL) (out:List Nat) (lb:Nat) (pk:Option (Nat×gd)) (nx:VL) (d1 d2:Int) (sv:VL) (wr:WD):Prop where
 pk:mw w ao n c us nv names ov out lb pk nx wr
 box:∃g,sv=K (O ⟨g,0,I⟩)/\wr.heap[g]?=O (J #[Z G d1,Z G d2] 333 (0,0))/\lb<g
def mw.s1 {lb:Nat} {e:Option (Nat×gd)} {d:VL} {a b:Int} (h:mw w ao n c us nv names ov out lb e d wr) (f:BW wr.drew.heap.size wr.drew w1):xq w ao n c us nv names ov out lb e d a b (K (O ⟨w1.heap.size,0,I⟩)) (w1.alloc (J #[Z G a,Z G b] 333)):=by
 have h1:=h.drop (Adj f);have g:=Ab h1.im;exact⟨h1.drop Bn,_,rfl,Ah _ _,g⟩
def mw.s2 {lb:Nat} {j:Option (Nat×gd)} {i:VL} {b d:Int} (h:mw w ao n c us nv names ov out lb j i wr) (g:BW (wr.alloc (J #[Z G 0,Z G 0] 333)).drew.heap.size (wr.alloc (J #[Z G 0,Z G 0] 333)).drew w1) :
  xq w ao n c us nv names ov out lb j i b d (K (O ⟨wr.heap.size,0,I⟩)) ((w1.setCell ⟨wr.heap.size,0,I⟩ (Z G b)).setCell ⟨wr.heap.size,1,I⟩ (Z G d)):=by
 have e:BW wr.heap.size wr (wr.alloc (J #[Z G 0,Z G 0] 333)).drew:=Bn.drew;have f:=e.trans (g.mono as9);have l:=Ae g (Ah _ _) as9;have k:=Ab h.im;have a:BW wr.heap.size wr ((w1.setCell ⟨wr.heap.size,0,I⟩ (Z G b)).setCell ⟨wr.heap.size,1,I⟩ (Z G d)):=Cr (Cr f Ln) Ln;refine⟨h.drop a,_,rfl,?_,k⟩;have:=Ap (Ap l 0 (Z G b)) 1 (Z G d);simpa using this
def A0t (whole:V4) (bK:Pi whole) (ho:Option Addr) (m hc:Nat) (hs:List fp) (ws:List dp) (hh:Qn w ho m hs) (hw:Ls w ao n ws) (hn:n<=20) (b0:∀x,x∈ws->x.user.size<=maxLen) (ch:∀x,x∈hs->x.user.size<=maxLen) (h1:Vh ws) :
  Calls Tryz.prog 190 #[whole.val,V ho m hc,V ao n c] w λe w'=>∃v,e=Y v/\Am w' w.heap.size v (Dh (Le whole hs ws))/\BW w.heap.size w w':=by
 obtain⟨W0,bl⟩:=Ex (w.alloc (J whole.cells 30));have aK:BW w.heap.size w W0:=by rw[bl];exact Bn
 have cl:W0.heap.size=w.heap.size+1:=by rw[bl];simp
 have co:W0.heap[w.heap.size]?=O (J whole.cells 30 (0,0)):=by rw[bl];exact Ah _ _
 have ku:=Ax6 (c:=c) ho m hc hs ws (hh.low aK) (hw.low aK) hn b0 ch h1;have aZ:=hw.len;replace⟨hh,hw,b0,ch,h1,aZ,aK,co⟩:=H8 hh hw b0 ch h1 aZ aK co;replace⟨ku,bK,cl⟩:=H3 ku bK cl;go_enter Tryz.func190,Tryz.ntmps190;go_upto_region 1 with fail;rw[<-bl];clear bl;go_upto_region 2 with(go_at_call 248;(with_reducible refine ku.out.mono ?_);rintro e w1 ⟨us,rfl,hU,am⟩;replace⟨hU,am⟩:=H2 hU am);have aT:=(Amg (us.map cn.key) (by have:=hU.out.us.names;simpa[cn.key,Jk]using this)).2;have a5:us.length<=20:=by have h9:=Cv List.length am.out;have:=Amh hs ws;have:=aZ.out;rw[Ar]at h9;omega
 have b2:=A0p (W0.heap.size+1) us.length (In (us.map cn.key)) Kc w1 hU.out.us.map (by rw[aT];unfold maxLen;simp;omega) (by rw[aT];simp;omega);replace⟨b2,aT,a5⟩:=H3 b2 aT a5;go_upto_region 4 with(go_at_call 249;(with_reducible refine b2.out.mono ?_);rintro e w2 ⟨nv,ss,rfl,aM,ak,bB,bT⟩;replace⟨aM,ak,bB,bT⟩:=H4 aM ak bB bT);obtain⟨P0,aJ⟩:=Ex (Dp hs ws);have aA:=A0r hU.out.us.names aM.out;rw[am.out,<-aJ]at aA;obtain⟨names,h⟩:=Ex (Gn P0);rw[<-h]at aA;have bC:(P0.map bz.name).Nodup:=by have:=hU.out.us.names;rw[aJ,<-am.out];simpa[Jk]using this
 have bn:∀u,u∈P0->u.name∈names:=λu hu=>by rw[h];exact Al1 P0 hu
 have b7:jm W0 ao n c us nv names (V I 0 0) [] w2:=by refine⟨hU.out.toQ.drop Vl bT.out,?_,Am.nil _ _,λu _ k hk=>by simp[Value.ownBlock]at hk⟩;have h9:=ak.out;rw[aA.1,<-aA.2]at h9;exact Joins.ownsRow_le h9 hU.out.us.low.size
 have bP:=Al3 whole hs ws names;rw[<-aJ]at bP;have bw:Le whole hs ws=(C8 whole ws P0 names ws.length).2:=by unfold Le;rw[<-aJ,<-h]
 have cU:names.length<=20:=by
  rw[aA.2,<-aA.2,h]
  have:(Gn P0).length=P0.length:=by simp[Gn,Wk]
  rw[this,aJ];have:=Amh hs ws;have:=aZ.out;omega
 have bG:us.map cn.pl=(C8 whole ws P0 names 0).1:=by rw[am.out,aJ];rfl
 obtain⟨N,hN⟩:=Ex (names.length);rw[<-hN]at cU;replace⟨aA,h,bC,bn,b7,bP,bw,bG⟩:=H8 aA h bC bn b7 bP bw bG;replace⟨hN,aJ⟩:=H2 hN aJ;go_wp2_with fail;clear hU am ak bB aM bT b2 aT a5 ku;go_loopw [9,10,11,13,14,15,16,17,25,29] (λov _ _ _ _ _ _ _ rv _ wr=>∃(r:Nat) (us:List cn),rv=Z G r/\r<=n/\Hid (jm W0 ao n c us nv names ov (C8 whole ws P0 names r).2 wr)/\Hid (us.map cn.pl=(C8 whole ws P0 names r).1)/\Hid (Vy whole ws names P0 (C8 whole ws P0 names r) r)) (λ_ _ _ _ _ _ _ _ rv _ _=>n-(intOf rv).toNat)
 case atStart=>exact⟨0,us,rfl,As _,b7,bG,bP⟩
 case round=>
  obtain⟨r,us,rfl,dH,hT,am,hI⟩:=hrel;by_cases dI:r<n
  .have cI:(r:Int)<n:=ao9;obtain⟨k,s,u,p,l,bX,bW,a5,bY,bD,b6⟩:=Al2 bC.out bn.out hI.out (by have:=aZ.out;omega);obtain⟨t,ht⟩:=Ex (C8 whole ws P0 names r);rw[<-ht]at hT am hI bX bW bD;obtain⟨lb,bA⟩:=Ex (wr.heap.size);obtain⟨W1,bR⟩:=Ex (wr.alloc (J #[Z G 0,Z G 0] 333));have a:BW wr.heap.size wr W1:=by rw[bR];exact Bn
   have cw:Hid (mw W0 ao n c us nv names u9 t.2 lb (De whole t.1 names 0) (K I) W1):=
    ⟨hT.out.drop a,by rw[bA,bR];exact Ah _ _,by rw[bA];exact hT.out.up.us.low.size,.inl ⟨rfl,rfl⟩⟩
   have aD:=hN.out.symm
   have bJ:∀(j:Nat) (x:ByteArray),names[j]?=O x->x.size<=maxLen:=λj x hx=>by
    have bL:x∈Gn P0:=(by rw[<-h.out];exact Ai hx);unfold Gn at bL;obtain⟨b,hb,rfl⟩:=A5.1 bL;rw[Ua]at hb;obtain⟨q,hq,rfl⟩:=A5.1 hb;rw[aJ.out]at hq;obtain⟨z,hz,e⟩:=A0s hs ws q hq;have:=b0.out z hz;rw[<-e]at this;exact this
   have aX:∀(j:Nat) (x:ByteArray),names[j]?=O x->∃k u,us[k]?=O u/\u.pl.name=x/\us.find? (λu=>decide (u.pl.name=x))=O u/\Ij t.1 x=O k:=λj x hx=>by
    have bL:x∈Gn P0:=(by rw[<-h.out];exact Ai hx);have cL:x∈P0.map bz.name:=(by unfold Gn at bL;obtain⟨b,hb,rfl⟩:=A5.1 bL;rw[Ua]at hb;obtain⟨q,hq,rfl⟩:=A5.1 hb;exact A5.2 ⟨q,hq,rfl⟩);rw[<-hI.out.nm,<-am.out,Dm]at cL;obtain⟨q,hq,cX⟩:=A5.1 cL;rcases Tk (λu:cn=>decide (u.pl.name=x)) us with⟨_,h2⟩|⟨k,u,h1,h2,h3⟩
    .have:=R8.1 h2 q hq;simp at this;exact absurd cX this
    .have cT:u.pl.name=x:=(by have:=Ud h3;simpa using this);exact⟨k,u,h2,cT,h3,by rw[<-am.out,Vn];exact h1⟩
   replace⟨bX,bW,a5,bY,bD,b6,ht,bA⟩:=H8 bX bW a5 bY bD b6 ht bA;replace⟨a,aX,bJ,hT⟩:=H4 a aX bJ hT;go_upto_region 8 with fail;rw[<-bR,<-bA.out];clear bR
   obtain⟨bN,aG,e0⟩:∃so c,nv=V so N c:=by
    rcases cw.out.tu.nm.2 with⟨e,h0⟩|⟨g,cap,dA,e,_⟩
    .exact ⟨I,0,by rw[e,<-aD,h0]⟩
    .exact ⟨_,_,by rw[e,aD]⟩
   subst e0;replace aD:=Hh aD;go_wp2_with fail;go_loopw [10,13,14,15,16,29] (λnx _ _ _ _ jv wr=>∃(j:Nat),jv=Z G j/\j<=N/\Hid (mw W0 ao n c us (V bN N aG) names u9 t.2 lb (De whole t.1 names j) nx wr)) (λ_ _ _ _ _ jv _=>N-(intOf jv).toNat)
   case atStart=>exact⟨0,rfl,As _,cw⟩
   case round=>
    obtain⟨j,rfl,dF,hK⟩:=hrel;by_cases dG:j<N
    .have cF:(j:Int)<N:=ao9;have dE:(0:Int)<=(j:Int):=ao9;have ak:=hK.out.tu.nm;obtain⟨ng,dw,e⟩:=Joins.ownsRow_form ak (by have:=aD.out;omega);injection e with e1 e2 e3;subst e1;clear e2 e3;obtain⟨x,hx⟩:=Ge names j (by have:=aD.out;omega);have cx:wr.cell? ⟨ng,j,I⟩=O (D x):=(by have:=ak.cells (g:=ng) rfl j (D x) (by simp[xo,hx]);rw[Xh,Db]at this;exact this);obtain⟨kk,⟨ub,cp,⟨aW,⟨ua,ac,uc,ud⟩,aO⟩⟩,hk,aL,bv,aQ⟩:=aX.out j x hx;have cG:=Ade hK.out.tu.up.us x (bJ.out j x hx);rw[bv]at cG;have ap:=Ai hk;obtain⟨ad,aU⟩:=hK.out.tu.up.us.box _ ap;obtain⟨so,cc,e,bQ,_⟩:=(hK.out.tu.up.us.left _ ap).form;have e':cp=V so (Dh aO).length cc:=e;obtain⟨L,hL⟩:=Ex ((Dh aO).length);rw[<-hL]at e';subst e';have ba:L=aO.length:=(by rw[hL,Qh]);have x4:=Bk ad 4 (V so L cc) rfl;have bg:t.1[kk]?=O ⟨aW,⟨ua,ac,uc,ud⟩,aO⟩:=by rw[<-am.out];simp[hk]
     have f:De whole t.1 names (j+1)=if aO=[]then De whole t.1 names j else match De whole t.1 names j with
       | none=>O (kk,P4 ⟨ua,ac,uc,ud⟩ whole)
       | some (i,s)=>if G5 (P4 ⟨ua,ac,uc,ud⟩ whole) s<0 then O (kk,P4 ⟨ua,ac,uc,ud⟩ whole)else O (i,s):=by
      show(match (names[j]?).bind (Ij t.1)with|none=>_|some k=>_)=_;rw[hx];simp only[Option.bind_some];rw[aQ];simp only;rw[bg];simp only;split
      .rfl
      .cases De whole t.1 names j with
       | none=>rfl
       | some p=>rfl
     by_cases aR:aO=[]
     .have cy:L=0:=(by rw[ba,aR];rfl);subst cy;have cP:Hid (mw W0 ao n c us (V (O ⟨ng,0,I⟩) N aG) names u9 t.2 lb (De whole t.1 names (j+1)) u10 wr):=(by rw[f,Ad aR];exact hK);replace⟨ak,hx,hk,aL,bv,aQ,ap,ad⟩:=H8 ak hx hk aL bv aQ ap ad;replace⟨aU,e,bQ,hL,ba,bg,f,aR⟩:=H8 aU e bQ hL ba bg f aR;go_wp2_with fail;go_roundw
      case rel=>exact⟨j+1,by go_num,ao9,cP⟩
      case measure=>simp[intOf];omega
     .have cy:¬L=0:=by rw[ba];exact λe=>aR (Ib.1 e)
      have dB:((L:Int) == 0)=false:=(by simp;omega);rw[Ac aR]at f;replace⟨ak,hx,hk,aL,bv,aQ,ap,e⟩:=H8 ak hx hk aL bv aQ ap e;replace⟨bQ,hL,ba,bg,aR⟩:=H5 bQ hL ba bg aR;obtain⟨⟨d1,d2⟩,hd⟩:∃d,d=P4 ⟨ua,ac,uc,ud⟩ whole:=⟨_,rfl⟩;obtain⟨cO,bp⟩:=Ex ((F4 ⟨ua,ac,uc,ud⟩ whole 4).2);have a7:=(hI.out.ok _ (Ai bg.out)).1;have bs:=Zr a7 bK.out 4 Ln;have kd:=λW=>Az3 ⟨ua,ac,uc,ud⟩ whole W a7 bK.out;have ce:(F4 ⟨ua,ac,uc,ud⟩ whole 4).1=(d1,d2):=hd.symm;rw[ce]at kd bs;rw[<-bp]at kd;rw[<-hd]at f;obtain⟨⟨wa,wb,cr,wd⟩,b1⟩:∃v,v=whole:=⟨_,rfl⟩;have a6:wr.heap[w.heap.size]?=O (J (⟨wa,wb,cr,wd⟩:V4).cells 30 (0,0)):=(by rw[b1];exact Ae hK.out.tu.up.us.low co.out (by have:=cl.out;omega));rw[<-b1]at kd;replace kd:∀W,Calls Tryz.prog 250 #[.agg #[Z G ua,Z G ac,Z G uc,Z G ud],.agg #[Z G wa,Z G wb,Z G cr,Z G wd]] W λe w'=>e=Y (E #[.agg #[Z G d1,Z G d2],Z G cO])/\BW W.heap.size W w':=kd;have b4:=Ab ad;have cK:=Ab a6;replace⟨ad,hd,bp,a7,bs,ce,b1,a6⟩:=H8 ad hd bp a7 bs ce b1 a6;replace⟨kd,f⟩:=H2 kd f;go_upto_region 13 with fail;clear cx x4 cG;have c5:=Bk ad.out 0 (Z G ua) rfl;have c6:=Bk ad.out 1 (Z G ac) rfl;have c7:=Bk ad.out 2 (Z G uc) rfl;have c8:=Bk ad.out 3 (Z G ud) rfl;have db:=Bk a6.out 0 (Z G wa) rfl;have dc:=Bk a6.out 1 (Z G wb) rfl;have dd:=Bk a6.out 2 (Z G cr) rfl;have dg:=Bk a6.out 3 (Z G wd) rfl;go_cut [15,16] (λsv av wx=>xq W0 ao n c us (V (O ⟨ng,0,I⟩) N aG) names u9 t.2 lb (De whole t.1 names j) u10 d1 d2 sv wx)
      case first=>
       go_region_law (first
        | (go_simp;go_at_call 250;refine(kd.out _).mono ?_;rintro e w1 ⟨rfl,a⟩;have s2:=a.size;obtain⟨cB,cR⟩:=S8 a
           (try simp at s2)
           (try simp at cB)
           (try simp at cR)
           (try have dJ:wr.heap.size<w1.heap.size:=by omega)
           replace a:=Hh a))
       all_goals
        go_wp2_with fail;go_meet
        first
         | exact hK.out.s1 a.out
         | exact hK.out.s2 a.out
      case rest=>
       obtain⟨y,g,rfl,hg,bd⟩:=hcut;clear c5 c6 c7 c8 db dc dd dg b4 cK;have c0:=Bk hg 0 (Z G d1) rfl;have c1:=Bk hg 1 (Z G d2) rfl;obtain⟨pk,aB⟩:=Ex (De whole t.1 names j);rw[<-aB]at y f;have fe:=Ag y.im;rcases y.nx with⟨rfl,aS⟩|⟨⟨pi,⟨p1,p2⟩⟩,u2,rfl,aN,aS⟩
       .have e0:=Bk y.im 0 (Z G 0) rfl;have e1:=Bk y.im 1 (Z G 0) rfl;have al:De whole t.1 names (j+1)=O (kk,(d1,d2)):=f.out
        have an:∀q,mw W0 ao n c us (V (O ⟨ng,0,I⟩) N aG) names u9 t.2 lb (De whole t.1 names (j+1)) (Mj ub) (((wc.drewN q).setCell ⟨lb,0,I⟩ (Z G d1)).setCell ⟨lb,1,I⟩ (Z G d2)):=λq=>by
         rw[al];exact(y.drop (A4 _ wc q)).put rfl (.inr ⟨_,_,rfl,hk.out,rfl⟩)
        subst aS;replace⟨y,hg,bd,aB,f,al,an⟩:=H7 y hg bd aB f al an;go_upto_region 15 with fail;go_region_with (fail)
        all_goals
         go_wp2_with fail;go_roundw
         case rel=>exact⟨j+1,by go_num,ao9,Hh (by first|exact an.out 1|exact an.out 0)⟩
         case measure=>simp[intOf];omega
       .have e0:=Bk y.im 0 (Z G p1) rfl;have e1:=Bk y.im 1 (Z G p2) rfl;have aH:p1<=9223372036854775807/\p2<=9223372036854775807:=(by obtain⟨u3,cZ,_,cY⟩:=Rw aB.symm;have:=Zr (hI.out.ok u3 (Ai cZ)).1 bK.out 4 Ln;have e9:(F4 u3.has whole 4).1=(p1,p2):=cY.symm;rw[e9]at this;exact this);have kc:∀W,Calls Tryz.prog 251 #[.agg #[Z G d1,Z G d2],.agg #[Z G p1,Z G p2]] W λe w'=>e=Y (Z G (G5 (d1,d2) (p1,p2)))/\BW W.heap.size W w':=λW=>Ak0 (d1,d2) (p1,p2) W bs.out.1 bs.out.2 aH.1 aH.2;obtain⟨cv,bc⟩:=Ex (G5 (d1,d2) (p1,p2));rw[<-bc]at kc;have al:De whole t.1 names (j+1)=if cv<0 then O (kk,(d1,d2))else O (pi,(p1,p2)):=(by rw[f.out,bc]);subst aS;by_cases cD:cv<0
        .have aE:De whole t.1 names (j+1)=O (kk,(d1,d2)):=by rw[al,Ad cD]
         have an:∀W q,BW wc.heap.size wc W->mw W0 ao n c us (V (O ⟨ng,0,I⟩) N aG) names u9 t.2 lb (De whole t.1 names (j+1)) (Mj ub) (((W.drewN q).setCell ⟨lb,0,I⟩ (Z G d1)).setCell ⟨lb,1,I⟩ (Z G d2)):=λW q hW=>by
          rw[aE];exact((y.drop hW).drop (A4 _ W q)).put rfl (.inr ⟨_,_,rfl,hk.out,rfl⟩)
         replace⟨y,hg,bd,aB,f,al,aE,an⟩:=H8 y hg bd aB f al aE an;replace⟨kc,bc,aH,aN⟩:=H4 kc bc aH aN;go_upto_region 15 with(go_at_call 251;(with_reducible refine(kc.out _).mono ?_);rintro e w1 ⟨rfl,a⟩;have c0:=(Af a (Ab hg.out)).trans c0;have c1:=(Af a (Ab hg.out)).trans c1;have e0:=(Af a (Ab y.out.im)).trans e0;have e1:=(Af a (Ab y.out.im)).trans e1;have fe:=Ag (Ae a y.out.im (Ab y.out.im));replace a:=Hh a);go_region_with (fail)
         all_goals
          go_wp2_with fail;go_roundw
          case rel=>exact⟨j+1,by go_num,ao9,Hh (by first|exact an.out w1 1 a.out|exact an.out w1 0 a.out)⟩
          case measure=>simp[intOf];omega
        .have aE:De whole t.1 names (j+1)=O (pi,(p1,p2)):=by rw[al,Ac cD]
         have an:∀W,BW wc.heap.size wc W->mw W0 ao n c us (V (O ⟨ng,0,I⟩) N aG) names u9 t.2 lb (De whole t.1 names (j+1)) (Mj u2.b) W:=λW hW=>by
          rw[aE];exact y.drop hW
         replace⟨y,hg,bd,aB,f,al,aE,an⟩:=H8 y hg bd aB f al aE an;replace⟨kc,bc,aH,aN⟩:=H4 kc bc aH aN;go_wp2_with (go_at_call 251;(with_reducible refine(kc.out _).mono ?_);rintro e w1 ⟨rfl,a⟩;replace a:=Hh a);go_roundw
         case rel=>exact⟨j+1,by go_num,ao9,Hh (an.out w1 a.out)⟩
         case measure=>simp[intOf];omega
    .have cF:¬(j:Int)<N:=ao9;have ci:j=N:=ao9;have bF:De whole t.1 names j=O (k,s):=(by rw[ci,<-aD.out];exact bX.out);have bi:=hK.out;rw[bF]at bi;have aP:=bi.tu;rcases bi.nx with⟨e,_⟩|⟨pr,u2,e,bf,aS⟩
     .cases e
     .injection e with e;subst e;obtain⟨ub,cp,⟨aW,⟨ua,ac,uc,ud⟩,aO⟩⟩:=u2;have aN:u=⟨aW,⟨ua,ac,uc,ud⟩,aO⟩:=(by have h9:=bW.out;rw[<-am.out]at h9;simp only[A7,bf,K9,Wq]at h9;exact h9.symm);have cJ:aO=p :: l:=(by have h9:=a5.out;rw[aN]at h9;exact h9);subst cJ;have ap:=Ai bf;obtain⟨ad,aU⟩:=aP.up.us.box _ ap;obtain⟨g,aV,cap,e,ct,cj,cC,cE,cd⟩:=(aP.up.us.left _ ap).pos (by simp[Dh]);have e':cp=V (O ⟨g,aV,I⟩) (Dh (p :: l)).length cap:=e;obtain⟨M,hM⟩:=Ex ((Dh (p :: l)).length);rw[<-hM]at e' cj;subst e';have cA:M=l.length+1:=(by rw[hM,Qh];rfl);have dC:0<M:=ao9;have dD:(1:Int)<=M:=ao9;have cB:1<=cap:=ao9;have c0:wr.cell? ⟨g,aV,I⟩=O (Z G (p:Int)):=cd 0 _ rfl;have x4:=Bk ad 4 (V (O ⟨g,aV,I⟩) M cap) rfl;have fu:=Ag ad;obtain⟨aI,bx⟩:=Ex (Value.slice (if cap=1 then O ⟨g,aV,I⟩else O ⟨g,aV+1,I⟩) (M-1) (cap-1));obtain⟨W3,bS⟩:=Ex (wr.setCell ⟨ub,4,I⟩ aI)
      have b3:g≠ub:=λe9=>by
       obtain⟨c9,bb⟩:=(aP.up.us.left _ ap).au (k:=g) rfl;rw[e9,ad]at bb;injection bb with bb;injection bb with _ bb;exact absurd bb ad9
      have bU:aI=V (O ⟨g,if cap=1 then aV else aV+1,I⟩) (Dh l).length (cap-1):=by
       rw[bx,Qh,show M-1=l.length by omega]
       split<;>rfl
      have bj:jm W0 ao n c (us.set k ⟨ub,aI,⟨aW,⟨ua,ac,uc,ud⟩,l⟩⟩) (V bN N aG) names u9 t.2 W3:=by
       have cH:Mod (λb=>b=ub) wr W3:=(by rw[bS];exact Mod.setCell wr ub 4 _ rfl);refine aP.xe bf cH rfl rfl ?_ ?_ (by rw[bU];rfl)
       .rw [bS];have:=Ap ad 4 aI;simpa using this
       .have hq:=aP.up.us.left _ ap;have cV:Ds wr W0.heap.size (V (O ⟨g,aV,I⟩) M cap) ((p:Int)::Dh l):=hq;have cW:=cV.tail;show Ds W3 W0.heap.size aI (Dh l);rw[bU];exact cW.mod cH (λk9 cS e9=>by simp[Value.ownBlock]at cS;omega)
      have bV:(us.set k (⟨ub,aI,⟨aW,⟨ua,ac,uc,ud⟩,l⟩⟩:cn))[k]?=O ⟨ub,aI,⟨aW,⟨ua,ac,uc,ud⟩,l⟩⟩:=(by rw[D3];simp[(An.1 bf).1]);obtain⟨⟨c3,da,c4,⟨na,nb,nc,nd⟩⟩,hx⟩:=Ge ws p bY.out;have dl:p<n:=(by have:=bY.out;have:=aZ.out;omega);have dr:(p:Int)<n:=ao9;have ds:(0:Int)<=(p:Int):=ao9;obtain⟨jb,aF,rfl,dk,be⟩:=(hw.out.low (aK.out.trans (bj.up.us.low.mono aK.out.size))).cell p _ hx;have z3:W3.cell? ⟨jb,aF+p*7+3,I⟩=O (Z G na):=be 3 ao9;have z4:W3.cell? ⟨jb,aF+p*7+4,I⟩=O (Z G nb):=be 4 ao9;have z5:W3.cell? ⟨jb,aF+p*7+5,I⟩=O (Z G nc):=be 5 ao9;have z6:W3.cell? ⟨jb,aF+p*7+6,I⟩=O (Z G nd):=be 6 ao9;have aC:=(bj.up.us.box _ (Ai bV)).1;have x0:=Bk aC 0 (Z G ua) rfl;have x1:=Bk aC 1 (Z G ac) rfl;have x2:=Bk aC 2 (Z G uc) rfl;have x3:=Bk aC 3 (Z G ud) rfl;have b5:=Ag aC;have b4:=Ab aC;obtain⟨⟨pa,bM,pc,pd⟩,bZ⟩:∃q,q=Ld ⟨ua,ac,uc,ud⟩ ⟨na,nb,nc,nd⟩:=⟨_,rfl⟩
      have kp:∀W,Calls Tryz.prog 252 #[.agg #[Z G ua,Z G ac,Z G uc,Z G ud],.agg #[Z G na,Z G nb,Z G nc,Z G nd]] W λe w'=>e=Y (.agg #[Z G pa,Z G bM,Z G pc,Z G pd])/\BW W.heap.size W w':=λW=>by
       have:=Ak1 ⟨ua,ac,uc,ud⟩ ⟨na,nb,nc,nd⟩ W;rw[<-bZ]at this;exact this
      obtain⟨bO,a9⟩:=Ex ((us.set k (⟨ub,aI,⟨aW,⟨ua,ac,uc,ud⟩,l⟩⟩:cn)).set k ⟨ub,aI,⟨aW,⟨pa,bM,pc,pd⟩,l⟩⟩)
      have b8:∀w1,BW W3.heap.size W3 w1->jm W0 (O ⟨jb,aF,I⟩) n c bO (V bN N aG) names u9 t.2 ((((w1.setCell ⟨ub,0,I⟩ (Z G pa)).setCell ⟨ub,1,I⟩ (Z G bM)).setCell ⟨ub,2,I⟩ (Z G pc)).setCell ⟨ub,3,I⟩ (Z G pd)):=λw1 hb=>by
       rw[a9];exact bj.vf bV hb ⟨pa,bM,pc,pd⟩
      have bH:bO.map cn.pl=(C8 whole ws P0 names (r+1)).1:=by
       rw[bD.out,a9,aN,<-am.out];simp only[Nx];rw[Qx];have c2:A9 ws p=⟨c3,da,c4,⟨na,nb,nc,nd⟩⟩:=(by unfold A9;rw[Iq hx]);rw[c2,bZ]
      have a0:(C8 whole ws P0 names (r+1)).2=t.2++[p]:=(by rw[bD.out]);have cm:=hI.out.out;obtain⟨cN,oL,cM,oe,ck⟩:=aP.out.len;subst oe;have a8:=ck.symm;have bE:oL<=1000000000:=(by rw[<-a8,Qh,cm];omega);have bo:∀Wx,jm W0 (O ⟨jb,aF,I⟩) n c bO (V bN N aG) names (V cN oL cM) t.2 Wx->BW Wx.heap.size Wx (Wx.alloc (J #[Z G (p:Int)] 3 (0,0)))/\Am (Wx.alloc (J #[Z G (p:Int)] 3 (0,0))) W0.heap.size (V cN oL cM) (Dh t.2) /\
        (Wx.alloc (J #[Z G (p:Int)] 3 (0,0))).cell? ⟨Wx.heap.size,0,I⟩=O (Z G (p:Int))/\W0.heap.size<=(Wx.alloc (J #[Z G (p:Int)] 3 (0,0))).heap.size:=λWx hT=>by
       have hb:BW Wx.heap.size Wx (Wx.alloc (J #[Z G (p:Int)] 3 (0,0))):=Bn;exact⟨hb,hT.out.mod (Mod.af (S:=λ_=>False) hb) (λ_ _ c=>c),Aa (Ah _ _) 0,by have:=hT.up.us.low.size;have:=hb.size;omega⟩
      subst aS;replace⟨bF,bi,aP,bf,aN,ap,ad,aU⟩:=H8 bF bi aP bf aN ap ad aU;replace⟨e,ct,cj,cC,cE,cd,hM,cA⟩:=H8 e ct cj cC cE cd hM cA;replace⟨bU,bj,bV,hx,be,aC,bZ,kp⟩:=H8 bU bj bV hx be aC bZ kp;replace⟨a9,b8,bH,a0,cm,ck,a8,bE⟩:=H8 a9 b8 bH a0 cm ck a8 bE;replace⟨bo,b3,hK,ci⟩:=H4 bo b3 hK ci;go_upto_region 19 with fail;rw[<-bx,<-bS];clear bS bx c0 x4 fu;go_region_with (go_at_call 252;((with_reducible refine(kp.out _).mono ?_);rintro e w1 ⟨rfl,a⟩;have x0:=(Af a (by first|omega|(simp;omega))).trans x0;have x1:=(Af a (by first|omega|(simp;omega))).trans x1;have x2:=(Af a (by first|omega|(simp;omega))).trans x2;have x3:=(Af a (by first|omega|(simp;omega))).trans x3;have b5:=λo=>(a.frozen (p:=⟨ub,o,I⟩) (by first|(show ub<_;omega)|(simp;omega))).trans (b5 o);replace a:=Hh a))
      all_goals
       have cb:BW W3.heap.size W3 w1:=by first|exact a.out|exact Adj a.out
       have bk:=b8.out w1 cb;obtain⟨Wx,b9⟩:=Ex ((((w1.setCell ⟨ub,0,I⟩ (Z G pa)).setCell ⟨ub,1,I⟩ (Z G bM)).setCell ⟨ub,2,I⟩ (Z G pc)).setCell ⟨ub,3,I⟩ (Z G pd));rw[<-b9]at bk;obtain⟨a1,a2,a3,a4⟩:=bo.out Wx bk;replace⟨cb,bk,a1,a2,a3,a4⟩:=H6 cb bk a1 a2 a3 a4;clear x0 x1 x2 x3 b5 z3 z4 z5 z6;go_upto_region 20 with fail;rw[<-b9];clear b9;go_wp2_with (at_builtin;refine Nm rfl _ _ rfl W0.heap.size oL _ rfl a2.out a8.out ⟨Wx.heap.size,0,I⟩ 1 rfl (p:Int) a3.out bE.out a4.out ?_;intro g7 cs w7 h7 cf ca;replace⟨h7,cf,ca⟩:=H3 h7 cf ca)
       have cQ:Hid (jm W0 (O ⟨jb,aF,I⟩) n c bO (V bN N aG) names (V (O ⟨g7,0,I⟩) (oL+1) cs) (C8 whole ws P0 names (r+1)).2 w7):=by
        rw[a0.out]
        refine bk.out.push a1.out cf.out ?_ (λk hk=>by
         simp[Value.ownBlock]at hk;subst hk;rcases ca.out with e|e
         .exact .inl e
         .exact .inr e)
        rw[Ak6];exact h7.out
       go_roundw
       case rel=>exact⟨r+1,bO,by go_num,ao9,cQ,bH,b6⟩
       case measure=>simp[intOf];omega
  .have cI:¬(r:Int)<n:=ao9;have bI:r=n:=ao9;have aY:Le whole hs ws=(C8 whole ws P0 names r).2:=(by rw[bw.out,aZ.out,bI]);replace⟨aY,bI⟩:=H2 aY bI;go_wp2;go_ret;refine⟨u9,rfl,?_,aK.out.trans (hT.out.up.us.low.mono aK.out.size)⟩;rw[aY.out];exact hT.out.out.le aK.out.size
