/- Parts Or2, Tpm, Trs, Trt. Plain theorems: no condition. -/
import Derived.Test.YtimlcnhcjndijaaGreatDoorQ31
import Derived.Test.YtimlcnhcjndijaaGreatDoorQ38
set_option linter.all false
set_option maxRecDepth 100000
set_option maxHeartbeats 3200000
namespace Go.Proofs.YtimlcnhcjndijaaGreatDoor
def Ed (us:List bq):Nat:=(us.map fun u=>u.left.length).sum
def Aal {us:List bq} {k:Nat} {u:bq} (f:bq->bq) (a:us[k]?=some u):Ed (us.modify k f)+u.left.length=Ed us+(f u).left.length:=by
 induction us generalizing k with
 | nil=>simp at a
 | cons x r ih=>
  cases k with
  | zero=>
   simp at a;subst a;simp [Ed];omega
  | succ k=>
   have:=ih (k:=k) (by simpa using a);simp [Ed] at this ⊢;omega
def Xa {us:List bq} {s:ByteArray} {k:Nat} (h:Gf us s=some k):∃ u,us[k]?=some u/\u.name=s:=by
 unfold Gf at h;rcases Sj (td s) us with ⟨h1,_⟩ | ⟨c,u,h1,a,b⟩
 .rw [h1] at h;cases h
 .rw [h1] at h;injection h with h;subst h;have:=S2 b;exact ⟨u,a,by simpa [td] using this⟩
def Auo (us:List bq) (s:ByteArray) (i:Nat):Ed (As us s i)=Ed us+1:=by
 unfold As
 cases h:Gf us s with
 | none=>simp [Ed]
 | some k=>
  obtain ⟨u,a,_⟩:=Xa h;have:=Aal (fun u=>⟨u.name,u.has,u.left++[i]⟩) a;simp at this ⊢;omega
def Ag8 (a:List cz):∀ j,Ed (B6 a j)=j
 | 0=>rfl
 | j+1=>by
  show Ed (As (B6 a j) _ j)=j+1;rw [Auo,Ag8 a j]
def Aup (us:List bq) (h:dy):Ed (Co us h)=Ed us:=by
 unfold Co
 cases h2:Gf us h.user with
 | none=>rfl
 | some k=>
  obtain ⟨u,a,_⟩:=Xa h2;have:=Aal (fun u=>⟨u.name,Ka u.has h.has,u.left⟩) a;simp at this ⊢;omega
def Auq (a:List dy) (b:List cz):Ed (Cq a b)=b.length:=by
 unfold Cq
 have c:∀ (a:List dy) (l:List bq),Ed (a.foldl Co l)=Ed l:=fun a=>by
  induction a with
  | nil=>intro l;rfl
  | cons h r ih=>intro l;exact (ih _).trans (Aup l h)
 have:Ed ((a.foldl Co (B6 b b.length)).map fun u=>⟨u.name,u.has,F3 b u.left⟩)=Ed (a.foldl Co (B6 b b.length)):=by unfold Ed;rw [Du];congr 1;apply List.map_congr_left;intro u _;simp [F3,Uy]
 rw [this,c,Ag8]
def Oh (n:Nat) (us:List bq):Prop:=∀ u,u∈us->Og u.has/\∀ p,p∈u.left->p<n
def Ag9 (u v:V4):Og (Ka u v):=fun d f=>by
 have a:=O9 (Es u.a+Es v.a);have b:=O9 (Es u.b+Es v.b);have c:=O9 (Es u.c+Es v.c);have e:=O9 (Es u.d+Es v.d)
 rcases (by omega:d=0\/d=1\/d=2\/d=3) with rfl | rfl | rfl | rfl<;>simp only [Ka,Jk,V4.get]<;>omega
def Aur:Og ⟨0,0,0,0⟩:=fun d a=>by
 rcases (by omega:d=0\/d=1\/d=2\/d=3) with rfl | rfl | rfl | rfl<;>simp [V4.get]
def Aus (e:List dy) (b:List cz):Oh b.length (Cq e b):=by
 have h0:∀ j,j<=b.length->Oh b.length (B6 b j):=fun j=>by
  induction j with
  | zero=>intro _ u a;cases a
  | succ j ih=>
   intro m u a;have i:=ih (by omega);have a:u∈As (B6 b j) (A5 b j).user j:=a;unfold As at a;split at a
   .rcases Dt.1 a with a | a
    .exact i u a
    .simp at a;subst a;exact ⟨Aur,fun p c=>by simp at c;omega⟩
   .rcases Oe a with a | ⟨y,f,rfl⟩
    .exact i u a
    .refine ⟨(i y f).1,fun p c=>?_⟩;rcases Dt.1 c with c | c
     .exact (i y f).2 p c
     .simp at c;omega
 have g:∀ (l:List bq) (h:dy),Oh b.length l->Oh b.length (Co l h):=fun l h d u a=>by
  unfold Co at a;split at a
  .exact d u a
  .rcases Oe a with a | ⟨y,f,rfl⟩
   .exact d u a
   .exact ⟨Ag9 _ _,(d y f).2⟩
 have k:∀ (e:List dy) (l:List bq),Oh b.length l->Oh b.length (e.foldl Co l):=fun e=>by
  induction e with
  | nil=>intro l d;exact d
  | cons h r ih=>intro l d;exact ih _ (g l h d)
 intro u a;unfold Cq at a;obtain ⟨y,f,rfl⟩:=Bd.1 a;have:=k e _ (h0 b.length Ln) y f;exact ⟨this.1,fun p c=>this.2 p (by simpa [F3,Sy] using c)⟩
def Aut {n:Nat} {us:List bq} (h:Oh n us) (c:List cz) (k:Nat):Oh n (us.modify k (Jl c)):=fun u b=>by
 rcases Oe b with b | ⟨y,d,rfl⟩
 .exact h u b
 .have a:=h y d;unfold Jl;split
  .exact a
  .rename_i p l e;exact ⟨Ag9 _ _,fun q f=>a.2 q (by rw [e];exact D1 _ f)⟩
def Auu (a:List cz) (us:List bq) (k:Nat):(us.modify k (Jl a)).map bq.name=us.map bq.name:=by
 apply Ee;intro j;simp only [Bx,Fe];split
 .rename_i h;subst h
  cases us[k]? with
  | none=>rfl
  | some u=>
   show some (Jl a u).name=some u.name;unfold Jl
   split<;>rfl
 .cases us[j]?<;>rfl
def Auv {us:List bq} (d:(us.map bq.name).Nodup) {k:Nat} {u:bq} (c:us[k]?=some u):Gf us u.name=some k:=by
 unfold Gf;rcases Sj (td u.name) us with ⟨_,a⟩ | ⟨e,u',h1,a,f⟩
 .have:=Q8.1 a u (Aj c);simp [td] at this
 .rw [h1];have b:u'.name=u.name:=by have:=S2 f;simpa [td] using this
  have g:(us.map bq.name)[k]?=some u.name:=by simp [c]
  have h:(us.map bq.name)[e]?=some u.name:=by simp [a,b]
  obtain ⟨l,i⟩:=Aq.1 g;obtain ⟨m,j⟩:=Aq.1 h;rw [(List.getElem_inj d).1 (j.trans i.symm)]
def Auw (whole:V4) {us:List bq} (l:(us.map bq.name).Nodup) (a:List ByteArray) (h:0<Ed us) (b:∀ u,u∈us->u.name∈a):∃ k s,Cs whole us a a.length=some (k,s):=by
 obtain ⟨u,f,n⟩:∃ u,u∈us/\u.left≠[]:=by
  false_or_by_contra
  rename_i o
  have:Ed us=0:=by
   unfold Ed;rw [List.sum_eq_zero_iff_forall_eq_nat];intro x p;obtain ⟨u,f,rfl⟩:=Bd.1 p
   false_or_by_contra
   rename_i q;exact o ⟨u,f,fun e=>q (by rw [e];rfl)⟩
  omega
 obtain ⟨k,g⟩:=Dr f;obtain ⟨j,i⟩:=Dr (b u f);have r:=(Aq.1 i).1
 have c:∀ m,(∃ k s,Cs whole us a m=some (k,s))->∃ k s,Cs whole us a (m+1)=some (k,s):=fun m ⟨k,s,e⟩=>by
  unfold Cs;rw [e];split
  .exact ⟨k,s,rfl⟩
  .split
   .exact ⟨k,s,rfl⟩
   .split
    .exact ⟨k,s,rfl⟩
    .simp only
     split<;>exact ⟨_,_,rfl⟩
 have at_:∃ k s,Cs whole us a (j+1)=some (k,s):=by
  unfold Cs;rw [i];simp only [Option.bind_some];rw [Auv l g];simp only [g];rw [Ac n];split
  .exact ⟨_,_,rfl⟩
  .split<;>exact ⟨_,_,rfl⟩
 have t:∀ d,∃ k s,Cs whole us a (j+1+d)=some (k,s):=fun d=>by
  induction d with
  | zero=>exact at_
  | succ d ih=>exact c _ ih
 have:=t (a.length-(j+1));rw [show j+1+(a.length-(j+1))=a.length by omega] at this;exact this
def Aha (us:List bq) {u:bq} (a:u∈us):u.name∈Et us:=by
 unfold Et;refine Bd.2 ⟨u.name.data.toList,?_,?_⟩
 .rw [Sy];exact Bd.2 ⟨u,a,rfl⟩
 .simp
def Qx {whole:V4} {us:List bq} {a:List ByteArray}:∀ {m k:Nat} {s:ee},Cs whole us a m=some (k,s)->∃ u,us[k]?=some u/\u.left≠[]/\s=Ox u.has whole
 | 0,k,s,h=>by cases h
 | m+1,k,s,h=>by
  unfold Cs at h;split at h
  .exact Qx h
  .rename_i e _;split at h
   .exact Qx h
   .rename_i u b;split at h
    .exact Qx h
    .rename_i c;split at h
     .injection h with h;injection h with h1 h2;subst h1 h2;exact ⟨u,b,c,rfl⟩
     .rename_i i f d;split at h
      .injection h with h;injection h with h1 h2;subst h1 h2;exact ⟨u,b,c,rfl⟩
      .injection h with h;injection h with h1 h2;subst h1 h2;exact Qx d
structure Uq (whole:V4) (ws:List cz) (names:List ByteArray) (P0:List bq) (t:List bq×List Nat) (r:Nat):Prop where
 left:Ed t.1+r=ws.length
 ok:Oh ws.length t.1
 nm:t.1.map bq.name=P0.map bq.name
 out:t.2.length=r
def Ahb {whole:V4} {b:List cz} {a:List ByteArray} {c:List bq} {r:Nat} (i:(c.map bq.name).Nodup) (j:∀ u,u∈c->u.name∈a) (h:Uq whole b a c (Cr whole b c a r) r) (hr:r<b.length) :
  ∃ k s u p l,Cs whole (Cr whole b c a r).1 a a.length=some (k,s)/\(Cr whole b c a r).1[k]?=some u/\u.left=p :: l/\p<b.length /\
   Cr whole b c a (r+1)=((Cr whole b c a r).1.set k ⟨u.name,Ka u.has (A5 b p).ml,l⟩,(Cr whole b c a r).2++[p])/\Uq whole b a c (Cr whole b c a (r+1)) (r+1):=by
 obtain ⟨h1,o,n,z⟩:=h;generalize ht:Cr whole b c a r=t at h1 o n z;have f:(t.1.map bq.name).Nodup:=by rw [n];exact i
 obtain ⟨k,s,q⟩:=Auw whole f a (by omega) (fun u g=>by
  have:u.name∈c.map bq.name:=by rw [<- n];exact Ks g
  obtain ⟨u2,v,e⟩:=Bd.1 this;rw [<- e]
  exact j u2 v)
 obtain ⟨u,g,hl,_⟩:=Qx q
 cases hul:u.left with
 | nil=>exact absurd hul hl
 | cons p l=>
  have x:=(o u (Aj g)).2 p (by rw [hul];exact E2 ..);have d:Cr whole b c a (r+1)=(t.1.modify k (Jl b),t.2++[p]):=by unfold Cr;rw [ht,q];simp only;rw [g];simp only;rw [hul];rfl
  have m:Jl b u=⟨u.name,Ka u.has (A5 b p).ml,l⟩:=by unfold Jl;rw [hul]
  refine ⟨k,s,u,p,l,q,g,hul,x,?_,?_⟩
  .rw [d,Qu _ _ _ g,m]
  .rw [d];have y:=Aal (Jl b) g;rw [m,hul] at y;simp only [Jy] at y;exact ⟨by show Ed (t.1.modify k (Jl b))+(r+1)=b.length;omega,Aut o b k,by rw [Auu];exact n,by simp;omega⟩
def Ahc (whole:V4) (c:List dy) (b:List cz) (a:List ByteArray):Uq whole b a (Cq c b) (Cr whole b (Cq c b) a 0) 0:=⟨by show Ed (Cq c b)+0=_;rw [Auq];rfl,Aus c b,rfl,rfl⟩
def Ck (us:List bq):List Nat:=(us.map bq.left).flatten
def Xb:∀ {us:List bq} {k:Nat} {u:bq} (f:bq->bq),us[k]?=some u->∃ A B,Ck us=A++(u.left++B)/\Ck (us.modify k f)=A++((f u).left++B)
 | [],_,_,_,h=>by simp at h
 | v :: us,0,u,f,h=>by
  simp at h;subst h;exact ⟨[],Ck us,by simp [Ck],by simp [Ck]⟩
 | v :: us,k+1,u,f,h=>by
  obtain ⟨A,B,h1,a⟩:=Xb (us:=us) (k:=k) f (by simpa using h);refine ⟨v.left++A,B,?_,?_⟩
  .show Ck (v :: us)=_
   have:Ck (v :: us)=v.left++Ck us:=by simp [Ck]
   rw [this,h1,Ku]
  .rw [Uw]
   have:Ck (v :: us.modify k f)=v.left++Ck (us.modify k f):=by simp [Ck]
   rw [this,a,Ku]
def Aux (us:List bq) (s:ByteArray) (i:Nat):(Ck (As us s i)).Perm (Ck us++[i]):=by
 unfold As
 cases h:Gf us s with
 | none=>simp [Ck]
 | some k=>
  obtain ⟨u,a,_⟩:=Xa h;obtain ⟨A,B,h1,b⟩:=Xb (fun u=>⟨u.name,u.has,u.left++[i]⟩) a;simp only;rw [h1,b];simp only [Ku];refine List.Perm.append_left A (List.Perm.append_left u.left ?_);exact List.perm_append_comm
def Ahd (a:List cz):∀ j,(Ck (B6 a j)).Perm (List.range j)
 | 0=>S5 _
 | j+1=>by
  show (Ck (As (B6 a j) _ j)).Perm _;rw [List.range_succ];exact (Aux _ _ _).trans ((Ahd a j).append_right [j])
def Auy (us:List bq) (h:dy):Ck (Co us h)=Ck us:=by
 unfold Co
 cases h2:Gf us h.user with
 | none=>rfl
 | some k=>
  obtain ⟨u,a,_⟩:=Xa h2;obtain ⟨A,B,b,c⟩:=Xb (fun u=>⟨u.name,Ka u.has h.has,u.left⟩) a;simp only;rw [b,c]
def Ahe (f:List Nat->List Nat) (a:∀ l,(f l).Perm l):∀ us:List bq,(Ck (us.map fun u=>⟨u.name,u.has,f u.left⟩)).Perm (Ck us)
 | []=>S5 _
 | u :: us=>by
  have h1:Ck ((u :: us).map fun u=>(⟨u.name,u.has,f u.left⟩:bq))=f u.left++Ck (us.map fun u=>⟨u.name,u.has,f u.left⟩):=by simp [Ck]
  have b:Ck (u :: us)=u.left++Ck us:=by simp [Ck]
  rw [h1,b];exact (a u.left).append (Ahe f a us)
def Auz (a:List dy) (b:List cz):(Ck (Cq a b)).Perm (List.range b.length):=by
 have c:∀ (a:List dy) (l:List bq),Ck (a.foldl Co l)=Ck l:=fun a=>by
  induction a with
  | nil=>intro l;rfl
  | cons h r ih=>intro l;exact (ih _).trans (Auy l h)
 unfold Cq;refine (Ahe (F3 b) (fun l=>List.mergeSort_perm l _) _).trans ?_;rw [c];exact Ahd b b.length
def Ahf (whole:V4) (c:List cz) (us:List bq) (a:List ByteArray):∀ r,(Ck (Cr whole c us a r).1++(Cr whole c us a r).2).Perm (Ck us)
 | 0=>by
  show (Ck us++[]).Perm _;rw [Ps]
 | r+1=>by
  have d:=Ahf whole c us a r;unfold Cr;generalize Cr whole c us a r=t at d ⊢
  cases hp:Cs whole t.1 a a.length with
  | none=>exact d
  | some ks=>
   obtain ⟨k,s⟩:=ks;simp only
   cases hk:t.1[k]? with
   | none=>exact d
   | some u=>
    obtain ⟨j,b,f,_⟩:=Qx hp;rw [hk] at b;injection b with b;subst b;obtain ⟨A,B,h1,g⟩:=Xb (Jl c) hk;simp only;refine List.Perm.trans ?_ d;rw [h1,g]
    cases hul:u.left with
    | nil=>exact absurd hul f
    | cons p l=>
     have e:(Jl c u).left=l:=(by unfold Jl;rw [hul]);rw [e];show ((A++(l++B))++(t.2++[p])).Perm ((A++(p :: l++B))++t.2);have h:(A++(p :: l++B))++t.2=A++(p :: (l++B++t.2)):=(by simp);have i:(A++(l++B))++(t.2++[p])=A++(l++B++t.2++[p]):=(by simp);rw [h,i];refine List.Perm.append_left A ?_;exact List.perm_append_singleton p _
def Ahg (c:List cz):∀ j,((B6 c j).map bq.name).Nodup
 | 0=>List.nodup_nil
 | j+1=>by
  have d:=Ahg c j;show ((As (B6 c j) (A5 c j).user j).map bq.name).Nodup;unfold As
  cases h:Gf (B6 c j) (A5 c j).user with
  | none=>
   simp only [Ds,J2,List.map_nil];refine Rc.2 ⟨d,by simp,fun a g b f e=>?_⟩;simp at f;obtain ⟨u,l,rfl⟩:=Bd.1 g;unfold Gf at h;have:=List.findIdx?_eq_none_iff.1 h u l;simp [td] at this;exact this (e.trans f)
  | some k=>
   simp only
   have e:((B6 c j).modify k fun u=>(⟨u.name,u.has,u.left++[j]⟩:bq)).map bq.name=(B6 c j).map bq.name:=by
    apply Ee;intro i;simp only [Bx,Fe]
    cases (B6 c j)[i]? with
    | none=>rfl
    | some u=>
     simp only [J1]
     split<;>rfl
   rw [e];exact d
def Au0 (us:List bq) (h:dy):(Co us h).map bq.name=us.map bq.name:=by
 unfold Co
 cases h2:Gf us h.user with
 | none=>rfl
 | some k=>
  simp only;apply Ee;intro i;simp only [Bx,Fe]
  cases us[i]? with
  | none=>rfl
  | some u=>
   simp only [J1]
   split<;>rfl
def Au1 (a:List dy) (b:List cz):((Cq a b).map bq.name).Nodup:=by
 have c:∀ (a:List dy) (l:List bq),(a.foldl Co l).map bq.name=l.map bq.name:=fun a=>by
  induction a with
  | nil=>intro l;rfl
  | cons h r ih=>intro l;exact (ih _).trans (Au0 l h)
 unfold Cq;rw [Du];show ((a.foldl Co (B6 b b.length)).map bq.name).Nodup;rw [c];exact Ahg b b.length
def Ahh (whole:V4) (b:List dy) (a:List cz):∀ r,r<=a.length->Uq whole a (Et (Cq b a)) (Cq b a) (Cr whole a (Cq b a) (Et (Cq b a)) r) r
 | 0,_=>Ahc whole b a _
 | r+1,hr=>by
  obtain ⟨_,_,_,_,_,_,_,_,_,_,h⟩:=Ahb (Au1 b a) (fun u c=>Aha _ c) (Ahh whole b a r (by omega)) (by omega);exact h
def Xc (whole:V4) (b:List dy) (a:List cz):(Jm whole b a).Perm (List.range a.length):=by
 have h:=Ahh whole b a a.length Ln;have c:=(Ahf whole a (Cq b a) (Et (Cq b a)) a.length).trans (Auz b a)
 have h0:Ck (Cr whole a (Cq b a) (Et (Cq b a)) a.length).1=[]:=by
  apply Fw.1
  have e:∀ us:List bq,(Ck us).length=Ed us:=fun us=>by
   unfold Ck Ed;rw [List.length_flatten,Du];rfl
  rw [e];have:=h.left;omega
 rw [h0,Rf] at c;exact c
def Au2 (whole:V4) (a:List dy) (b:List cz):(Jm whole a b).Nodup:=(Xc whole a b).nodup_iff.2 List.nodup_range
def Xd (whole:V4) (b:List dy) (a:List cz) {i:Nat} (h:i∈Jm whole b a):i<a.length:=List.mem_range.1 ((Xc whole b a).mem_iff.1 h)
open Go.RowKit Go.Maps Go.Lib
def ux (l:List ByteArray):List Value:=l.map Value.string
structure gw (w:World) (ao:Option Addr) (n c:Nat) (us:List bt) (nv:Value) (names:List ByteArray) (ov:Value) (out:List Nat) (wr:World):Prop where
 up:fy C4 w ao n c us wr
 nm:wr.ownsRow w.heap.size 9 1 nv names.length (ux names)
 out:Ak wr w.heap.size ov (Cy out)
 oa:∀ u,u∈us->∀ k,ov.ownBlock=some k->u.lv.ownBlock≠some k
variable {w wr w1 w':World} {ao:Option Addr} {n c:Nat} {nv:Value} {us:List bt} {names:List ByteArray} {ov:Value} {out:List Nat}
def gw.drop (h:gw w ao n c us nv names ov out wr) (a:Below wr.heap.size wr w'):gw w ao n c us nv names ov out w':=
 ⟨h.up.drop Uf a,Bb (S:=fun _=>False) h.nm (Mod.af a) (fun _ _ c=>c),h.out.mod (Mod.af (S:=fun _=>False) a) (fun _ _ c=>c),h.oa⟩
def gw.xw (h:gw w ao n c us nv names ov out wr) {u:bt} (g:u∈us):∀ k,(k=u.b\/u.lv.ownBlock=some k)->nv.ownBlock≠some k/\ov.ownBlock≠some k:=fun k d=>by
 refine ⟨fun e=>?_,fun e=>?_⟩
 .obtain ⟨i,f,_⟩:=C1 h.nm e;rcases d with d | d
  .have:=(h.up.us.box u g).1;rw [<- d,f] at this;injection this with this;injection this with _ this;exact absurd this (by decide)
  .obtain ⟨j,a⟩:=Uf.aq (h.up.us.left u g) k d;rw [f] at a;injection a with a;injection a with _ a;exact absurd a (by decide)
 .rcases d with d | d
  .obtain ⟨i,f,_⟩:=C1 h.out.row e;have:=(h.up.us.box u g).1;rw [<- d,f] at this;injection this with this;injection this with _ this;exact absurd this (by decide)
  .exact h.oa u g k e d
def gw.ui (h:gw w ao n c us nv names ov out wr) {i:Nat} {u u':bt} (p:us[i]?=some u) (m:Mod (fun b=>b=u.b) wr w') (q:u'.b=u.b) (r:u'.pl.name=u.pl.name) (d:w'.heap[u.b]?=some (.cells u'.cells 335 (0,0)))
  (f:C4 w' w.heap.size u'.lv (Cy u'.pl.left)) (g:u'.lv.ownBlock=u.lv.ownBlock):gw w ao n c (us.set i u') nv names ov out w':=by
 have j:=Aj p;have l:=h.xw j;refine ⟨h.up.set Uf p (m.mono fun _ _ e=>.inl e) q r d f fun k a=>.inl (g▸a),Bb h.nm m (fun k a e=>?_),h.out.mod m (fun k a e=>(l k (.inl e)).2 a),fun y o k a e=>?_⟩
 .exact (l k (.inl e)).1 a
 .rcases Uu o with o | rfl
  .exact h.oa y o k a e
  .rw [g] at e;exact h.oa u j k a e
def gw.th (h:gw w ao n c us nv names ov out wr) {k:Nat} {u:bt} (l:us[k]?=some u) {w1:World} (p:Below wr.heap.size wr w1) (v:V4) :
  gw w ao n c (us.set k ⟨u.b,u.lv,⟨u.pl.name,v,u.pl.left⟩⟩) nv names ov out ((((w1.setCell ⟨u.b,0,none⟩ (.int .i64 v.a)).setCell ⟨u.b,1,none⟩ (.int .i64 v.b)).setCell ⟨u.b,2,none⟩ (.int .i64 v.c)).setCell ⟨u.b,3,none⟩ (.int .i64 v.d)):=by
 have h1:=h.drop p;have f:=Aj l;obtain ⟨i,_⟩:=h1.up.us.box u f;have m:∀ (W:World) (o:Nat) (x:Value),Mod (fun b=>b=u.b) W (W.setCell ⟨u.b,o,none⟩ x):=fun W o x=>Mod.setCell W u.b o x rfl;have j:Mod (fun b=>b=u.b) w1 ((((w1.setCell ⟨u.b,0,none⟩ (.int .i64 v.a)).setCell ⟨u.b,1,none⟩ (.int .i64 v.b)).setCell ⟨u.b,2,none⟩ (.int .i64 v.c)).setCell ⟨u.b,3,none⟩ (.int .i64 v.d)):=(((m _ _ _).trans (m _ _ _)).trans (m _ _ _)).trans (m _ _ _)
 have q:u.lv.ownBlock≠some u.b:=fun e=>by
  obtain ⟨r,g⟩:=Uf.aq (h1.up.us.left u f) _ e;rw [i] at g;injection g with g;injection g with _ g;exact absurd g (by decide)
 refine h1.ui l j rfl rfl ?_ ((h1.up.us.left u f).mod j (fun k l e=>q (by rw [l,e]))) rfl;have:=Al (Al (Al (Al i 0 (.int .i64 v.a)) 1 (.int .i64 v.b)) 2 (.int .i64 v.c)) 3 (.int .i64 v.d);simpa using this
def gw.push (h:gw w ao n c us nv names ov out wr) (v:Below wr.heap.size wr w1) {i:Value} {f:List Nat} (x:w1.grownBy w' ov.ownBlock) (y:Ak w' w.heap.size i (Cy f)) (z:∀ k,i.ownBlock=some k->ov.ownBlock=some k\/k=w1.heap.size):gw w ao n c us nv names i f w':=by
 have h1:=h.drop v;have p:=Mod.grown x (fun k a=>a);obtain ⟨s,cl,ac⟩:=h1.up.us.om
 have t:∀ k,ov.ownBlock=some k->∃ c,w1.heap[k]?=some (.cells c 3 (0,0)):=fun k a=>by
  obtain ⟨j,d,_⟩:=C1 h1.out.row a;exact ⟨j,d⟩
 have l:∀ (k:Nat) (o:Obj),w1.heap[k]?=some o->(∀ c,o≠.cells c 3 (0,0))->w'.heap[k]?=some o:=fun k o a q=>p.aq a fun e=>by
  obtain ⟨j,d⟩:=t k e;rw [d] at a;injection a with a;exact q j a.symm
 refine ⟨⟨⟨h1.up.us.low.trans (p.below h1.up.us.low.size (fun k a=>(h1.out.lt k a).1)),?_,h1.up.us.mlt,fun u g=>⟨l _ _ (h1.up.us.box u g).1 (fun c e=>by injection e with _ e;exact absurd e (by decide)),(h1.up.us.box u g).2⟩,fun u g=>(h1.up.us.left u g).mod p (fun k a e=>h1.oa u g k e a),h1.up.us.names,h1.up.us.one⟩,l _ _ h1.up.pb (fun c e=>by injection e with _ e;exact absurd e (by decide))⟩,
  Bb h1.nm p (fun k a e=>?_),y,fun u g k a e=>?_⟩
 .obtain ⟨s,m,r,rr⟩:=h1.up.us.map;exact ⟨s,m,l _ _ r (fun c e=>by cases e),rr⟩
 .obtain ⟨j,d⟩:=t k e;obtain ⟨c2,b,_⟩:=C1 h1.nm a;rw [d] at b;injection b with b;injection b with _ b;exact absurd b (by decide)
 .rcases z k a with j | j
  .exact h1.oa u g k j e
  .have:=((h1.up.us.left u g).lt k e).2;omega
def gw.off (h:gw w ao n c us nv names ov out wr) {lb:Nat} {cs:Array Value} (i:wr.heap[lb]?=some (.cells cs 333 (0,0))) (m:w.heap.size<=lb) (j:Mod (fun b=>b=lb) wr w'):gw w ao n c us nv names ov out w':=by
 obtain ⟨s,z,v⟩:=h.up.us.om
 have f:∀ (k:Nat) (o:Obj),wr.heap[k]?=some o->(∀ c,o≠.cells c 333 (0,0))->w'.heap[k]?=some o:=fun k o a p=>j.aq a fun e=>by
  rw [e,i] at a;injection a with a;exact p cs a.symm
 have q:∀ {k:Nat} {c:Array Value} {T:TypeId},wr.heap[k]?=some (.cells c T (0,0))->T≠333->k≠lb:=fun a x e=>by
  rw [e,i] at a;injection a with a;injection a with _ a;exact x a.symm
 refine ⟨⟨⟨h.up.us.low.trans (j.below h.up.us.low.size (fun k a=>by rw [a];exact m)),?_,h.up.us.mlt,fun u l=>⟨f _ _ (h.up.us.box u l).1 (fun c e=>by injection e with _ e;exact absurd e (by decide)),(h.up.us.box u l).2⟩,fun u l=>(h.up.us.left u l).mod j (fun k a e=>?_),h.up.us.names,h.up.us.one⟩,f _ _ h.up.pb (fun c e=>by injection e with _ e;exact absurd e (by decide))⟩,
  Bb h.nm j (fun k a e=>?_),h.out.mod j (fun k a e=>?_),h.oa⟩
 .obtain ⟨s,g,r,y⟩:=h.up.us.map;exact ⟨s,g,f _ _ r (fun c e=>by cases e),y⟩
 .obtain ⟨t,d⟩:=(h.up.us.left u l).aq a;exact q d (by decide) e
 .obtain ⟨t,d,_⟩:=C1 h.nm a;exact q d (by decide) e
 .obtain ⟨t,d,_⟩:=C1 h.out.row a;exact q d (by decide) e
def fy.toQ (h:fy Ak w ao n c us wr):fy C4 w ao n c us wr:=⟨⟨h.us.low,h.us.map,h.us.mlt,h.us.box,fun u a=>C4.of (h.us.left u a),h.us.names,h.us.one⟩,h.pb⟩
def Ahn (x:Lit×DU):∀ l:List (Lit×DU),(DataW.insert x l).Perm (x :: l)
 | []=>S5 _
 | y :: r=>by
  unfold DataW.insert;split
  .exact S5 _
  .exact ((Ahn x r).cons y).trans (List.Perm.swap x y r)
def Ave (l:List (ByteArray×Nat)) (h:(l.map Prod.fst).Nodup):∃ a,Gk l=.map a/\(a.map fun p=>p.1).Perm (l.map fun p=>Bz p.1):=by
 induction l using Py with
 | h0=>exact ⟨[],rfl,S5 _⟩
 | h1 l x ih=>
  rw [Ds,Rc] at h;obtain ⟨a,e,g⟩:=ih h.1;refine ⟨DataW.insert (Bz x.1,I0 x.2) a,?_,?_⟩
  .rw [Ue,e];simp only [DataW.put];rw [List.filter_eq_self.2];intro p b;have i:=g.mem_iff.1 (Ks b);obtain ⟨q,j,d⟩:=Bd.1 i;rw [<- d]
   have f:¬ (Bz q.1).sameKey (Bz x.1)=true:=fun c=>by
    have:=(Z5 _ _).1 c;exact h.2.2 q.1 (Ks j) x.1 (by simp) this
   simp [f]
  .refine ((Ahn _ a).map _).trans ?_;rw [Ds];simp only [J2,List.map_nil];exact (g.cons _).trans (List.perm_append_singleton _ _).symm
def Aho (l:List (ByteArray×Nat)) (h:(l.map Prod.fst).Nodup):(strKeys (Gk l)).Perm (l.map fun p=>p.1.data.toList)/\Maps.size (Gk l)=l.length:=by
 obtain ⟨b,e,a⟩:=Ave l h;rw [e];refine ⟨?_,?_⟩
 .have:=a.map strOf;simp only [Du] at this;exact this
 .have:=a.length_eq;simpa [Maps.size_eq] using this
end Go.Proofs.YtimlcnhcjndijaaGreatDoor
namespace Go.Proofs.YtimlcnhcjndijaaGreatDoor
open Go.RowKit Go.Maps Go.Lib
variable {w wr w1 w':World} {ao:Option Addr} {n c:Nat} {nv ov:Value} {us:List bt} {names:List ByteArray} {out:List Nat}
def Avf {ss:List (List UInt8)} {us:List bt} (h:(us.map fun u=>u.pl.name).Nodup) (b:ss.Perm (strKeys (Gk (us.map bt.key)))):(ss.mergeSort fun x y=>decide (x<=y)).map encStr=ux (Et (us.map bt.pl))/\(Et (us.map bt.pl)).length=ss.length:=by
 have c:=(Aho (us.map bt.key) (by simpa [bt.key,G6] using h)).1;have a:ss.Perm (us.map fun u=>u.pl.name.data.toList):=by refine b.trans ?_;simpa [bt.key,G6] using c
 have e:ss.mergeSort (fun x y=>decide (x<=y))=(us.map fun u=>u.pl.name.data.toList).mergeSort fun x y=>decide (x<=y):=mergeSort_of_perm a;refine ⟨?_,?_⟩
 .rw [e];simp [ux,Et,G6]
 .simp [Et,Uy,a.length_eq]
def Ahp (a:List dy) (b:List cz):(Cq a b).length<=b.length:=by
 have c:∀ (a:List dy) (l:List bq),(a.foldl Co l).length=l.length:=fun a=>by
  induction a with
  | nil=>intro l;rfl
  | cons h r ih=>
   intro l;refine (ih _).trans ?_;unfold Co
   split<;>simp
 unfold Cq;rw [Ax,c];exact (Ui b b.length).1
def Ahq (b:List cz):∀ j,j<=b.length->∀ u,u∈B6 b j->∃ x,x∈b/\u.name=x.user
 | 0,_,u,a=>by cases a
 | j+1,hj,u,a=>by
  have e:b[j]?=some b[j]:=Am (by omega);have c:A5 b j=b[j]:=by unfold A5;rw [Gn e]
  have a:u∈As (B6 b j) (A5 b j).user j:=a;have d:=Ahq b j (by omega);unfold As at a;split at a
  .rcases Dt.1 a with a | a
   .exact d u a
   .simp at a;subst a;exact ⟨b[j],Ls _,by rw [c]⟩
  .rcases Oe a with a | ⟨y,f,rfl⟩
   .exact d u a
   .exact d y f
def Avg (d:List dy) (b:List cz):∀ u,u∈Cq d b->∃ x,x∈b/\u.name=x.user:=fun u a=>by
 unfold Cq at a;obtain ⟨y,g,rfl⟩:=Bd.1 a
 have e:∀ (l:List bq) (h:dy),(∀ u,u∈l->∃ x,x∈b/\u.name=x.user)->∀ u,u∈Co l h->∃ x,x∈b/\u.name=x.user:=fun l h c u a=>by
  unfold Co at a;split at a
  .exact c u a
  .rcases Oe a with a | ⟨z,i,rfl⟩
   .exact c u a
   .exact c z i
 have f:∀ (d:List dy) (l:List bq),(∀ u,u∈l->∃ x,x∈b/\u.name=x.user)->∀ u,u∈d.foldl Co l->∃ x,x∈b/\u.name=x.user:=fun d=>by
  induction d with
  | nil=>intro l c;exact c
  | cons h r ih=>intro l c;exact ih _ (e l h c)
 exact f d _ (Ahq b b.length Ln) y g
def xg (us:List bt) (pk:Option (Nat×ee)) (nx:Value):Prop:=(pk=none/\nx=.pointer none)\/∃ p u,pk=some p/\us[p.1]?=some u/\nx=Lj u.b
structure lq (w:World) (ao:Option Addr) (n c:Nat) (us:List bt) (nv:Value) (names:List ByteArray) (ov:Value) (out:List Nat) (lb:Nat) (pk:Option (Nat×ee)) (nx:Value) (wr:World):Prop where
 tu:gw w ao n c us nv names ov out wr
 fp:wr.heap[lb]?=some (.cells #[.int .i64 ((pk.map Prod.snd).getD (0,0)).1,.int .i64 ((pk.map Prod.snd).getD (0,0)).2] 333 (0,0))
 lw:w.heap.size<=lb
 nx:xg us pk nx
def lq.drop {lb:Nat} {a:Option (Nat×ee)} {b:Value} (h:lq w ao n c us nv names ov out lb a b wr) (d:Below wr.heap.size wr w'):lq w ao n c us nv names ov out lb a b w':=⟨h.tu.drop d,Ae d h.fp (Ab h.fp),h.lw,h.nx⟩
def lq.put {lb:Nat} {i a:Option (Nat×ee)} {j d:Value} {e f:Int} (h:lq w ao n c us nv names ov out lb i j wr) (g:(a.map Prod.snd).getD (0,0)=(e,f)) (k:xg us a d):lq w ao n c us nv names ov out lb a d ((wr.setCell ⟨lb,0,none⟩ (.int .i64 e)).setCell ⟨lb,1,none⟩ (.int .i64 f)):=by
 refine ⟨h.tu.off h.fp h.lw ((Mod.setCell (S:=fun b=>b=lb) wr lb 0 _ rfl).trans (Mod.setCell (S:=fun b=>b=lb) _ lb 1 _ rfl)),?_,h.lw,k⟩;have:=Al (Al h.fp 0 (.int .i64 e)) 1 (.int .i64 f);rw [g];simpa using this
structure we (w:World) (ao:Option Addr) (n c:Nat) (us:List bt) (nv:Value) (names:List ByteArray) (ov:Value) (out:List Nat) (lb:Nat) (pk:Option (Nat×ee)) (nx:Value) (d1 d2:Int) (sv:Value) (wr:World):Prop where
 pk:lq w ao n c us nv names ov out lb pk nx wr
 box:∃ g,sv=.pointer (some ⟨g,0,none⟩)/\wr.heap[g]?=some (.cells #[.int .i64 d1,.int .i64 d2] 333 (0,0))/\lb<g
def lq.s1 {lb:Nat} {a:Option (Nat×ee)} {b:Value} {d e:Int} (h:lq w ao n c us nv names ov out lb a b wr) (f:Below wr.drew.heap.size wr.drew w1):we w ao n c us nv names ov out lb a b d e (.pointer (some ⟨w1.heap.size,0,none⟩)) (w1.alloc (.cells #[.int .i64 d,.int .i64 e] 333)):=by
 have h1:=h.drop (Z6 f);have g:=Ab h1.fp;exact ⟨h1.drop Bn,_,rfl,Af _ _,g⟩
def lq.s2 {lb:Nat} {g:Option (Nat×ee)} {i:Value} {b d:Int} (h:lq w ao n c us nv names ov out lb g i wr) (j:Below (wr.alloc (.cells #[.int .i64 0,.int .i64 0] 333)).drew.heap.size (wr.alloc (.cells #[.int .i64 0,.int .i64 0] 333)).drew w1) :
  we w ao n c us nv names ov out lb g i b d (.pointer (some ⟨wr.heap.size,0,none⟩)) ((w1.setCell ⟨wr.heap.size,0,none⟩ (.int .i64 b)).setCell ⟨wr.heap.size,1,none⟩ (.int .i64 d)):=by
 have e:Below wr.heap.size wr (wr.alloc (.cells #[.int .i64 0,.int .i64 0] 333)).drew:=Bn.drew;have f:=e.trans (j.mono (by simp));have k:=Ae j (Af _ _) (by simp);have l:=Ab h.fp;have a:Below wr.heap.size wr ((w1.setCell ⟨wr.heap.size,0,none⟩ (.int .i64 b)).setCell ⟨wr.heap.size,1,none⟩ (.int .i64 d)):=C9 (C9 f Ln) Ln;refine ⟨h.drop a,_,rfl,?_,l⟩;have:=Al (Al k 0 (.int .i64 b)) 1 (.int .i64 d);simpa using this
def Avh (whole:V4) (bk:Og whole) (ho:Option Addr) (m hc:Nat) (hs:List dy) (ws:List cz) (hh:Pc w ho m hs) (hw:Kl w ao n ws) (hn:n<=20) (bT:∀ x,x∈ws->x.user.size<=maxLen) (b9:∀ x,x∈hs->x.user.size<=maxLen) (h1:Ub ws) :
  Calls Tryz.prog 190 #[whole.val,.slice ho m hc,.slice ao n c] w fun e w'=>∃ v,e=.returned v/\Ak w' w.heap.size v (Cy (Jm whole hs ws))/\Below w.heap.size w w':=by
 obtain ⟨W0,bl⟩:=Ex (w.alloc (.cells whole.cells 30));have aJ:Below w.heap.size w W0:=by rw [bl];exact Bn
 have ca:W0.heap.size=w.heap.size+1:=by rw [bl];simp
 have cb:W0.heap[w.heap.size]?=some (.cells whole.cells 30 (0,0)):=by rw [bl];exact Af _ _
 have ku:=Asj (c:=c) ho m hc hs ws (hh.low aJ) (hw.low aJ) hn bT b9 h1;have aY:=hw.len;replace ⟨hh,hw,bT,b9,h1,aY,aJ,cb⟩:=H8 hh hw bT b9 h1 aY aJ cb;replace ⟨ku,bk,ca⟩:=H3 ku bk ca;go_enter Tryz.func190,Tryz.ntmps190;go_upto_region 1 with fail;rw [<- bl];clear bl;go_upto_region 2 with (go_at_call 248;(with_reducible refine ku.out.mono ?_);rintro e w1 ⟨us,rfl,hU,an⟩;replace ⟨hU,an⟩:=H2 hU an);have aQ:=(Aho (us.map bt.key) (by have:=hU.out.us.names;simpa [bt.key,G6] using this)).2;have aZ:us.length<=20:=by have h9:=Ca List.length an.out;have:=Ahp hs ws;have:=aY.out;rw [Ax] at h9;omega
 have bU:=Avd (W0.heap.size+1) us.length (Gk (us.map bt.key)) I1 w1 hU.out.us.map (by rw [aQ];unfold maxLen;simp;omega) (by rw [aQ];simp;omega);replace ⟨bU,aQ,aZ⟩:=H3 bU aQ aZ;go_upto_region 4 with (go_at_call 249;(with_reducible refine bU.out.mono ?_);rintro e w2 ⟨nv,ss,rfl,aK,ak,bn,bV⟩;replace ⟨aK,ak,bn,bV⟩:=H4 aK ak bn bV);obtain ⟨P0,aL⟩:=Ex (Cq hs ws);have aB:=Avf hU.out.us.names aK.out;rw [an.out,<- aL] at aB;obtain ⟨a,y⟩:=Ex (Et P0);rw [<- y] at aB;have bs:(P0.map bq.name).Nodup:=by have:=hU.out.us.names;rw [aL,<- an.out];simpa [G6] using this
 have bv:∀ u,u∈P0->u.name∈a:=fun u hu=>by rw [y];exact Aha P0 hu
 have cd:gw W0 ao n c us nv a (.slice none 0 0) [] w2:=by refine ⟨hU.out.toQ.drop Uf bV.out,?_,Ak.nil _ _,fun u _ k hk=>by simp [Value.ownBlock] at hk⟩;have h9:=ak.out;rw [aB.1,<- aB.2] at h9;exact Joins.ownsRow_le h9 hU.out.us.low.size
 have bW:=Ahc whole hs ws a;rw [<- aL] at bW;have bw:Jm whole hs ws=(Cr whole ws P0 a ws.length).2:=by unfold Jm;rw [<- aL,<- y]
 have cS:a.length<=20:=by
  rw [aB.2,<- aB.2,y]
  have:(Et P0).length=P0.length:=by simp [Et,Uy]
  rw [this,aL];have:=Ahp hs ws;have:=aY.out;omega
 have bx:us.map bt.pl=(Cr whole ws P0 a 0).1:=by rw [an.out,aL];rfl
 obtain ⟨N,hN⟩:=Ex (a.length);rw [<- hN] at cS;replace ⟨aB,y,bs,bv,cd,bW,bw,bx⟩:=H8 aB y bs bv cd bW bw bx;replace ⟨hN,aL⟩:=H2 hN aL;go_wp2_with fail;clear hU an ak bn aK bV bU aQ aZ ku;go_loopw [9,10,11,13,14,15,16,17,25,29] (fun ov _ _ _ _ _ _ _ rv _ wr=>∃ (r:Nat) (us:List bt),rv=.int .i64 r/\r<=n/\Hid (gw W0 ao n c us nv a ov (Cr whole ws P0 a r).2 wr)/\Hid (us.map bt.pl=(Cr whole ws P0 a r).1)/\Hid (Uq whole ws a P0 (Cr whole ws P0 a r) r)) (fun _ _ _ _ _ _ _ _ rv _ _=>n-(intOf rv).toNat)
 case atStart=>exact ⟨0,us,rfl,Av _,cd,bx,bW⟩
 case round=>
  obtain ⟨r,us,rfl,dE,hT,an,hI⟩:=hrel;by_cases dF:r<n
  .have cA:(r:Int)<n:=(by omega);obtain ⟨k,s,u,p,l,bX,bY,aZ,bZ,bA,ce⟩:=Ahb bs.out bv.out hI.out (by have:=aY.out;omega);obtain ⟨t,ht⟩:=Ex (Cr whole ws P0 a r);rw [<- ht] at hT an hI bX bY bA;obtain ⟨lb,bB⟩:=Ex (wr.heap.size);obtain ⟨W1,b0⟩:=Ex (wr.alloc (.cells #[.int .i64 0,.int .i64 0] 333));have f:Below wr.heap.size wr W1:=by rw [b0];exact Bn
   have cB:Hid (lq W0 ao n c us nv a u9 t.2 lb (Cs whole t.1 a 0) (.pointer none) W1):=
    ⟨hT.out.drop f,by rw [bB,b0];exact Af _ _,by rw [bB];exact hT.out.up.us.low.size,.inl ⟨rfl,rfl⟩⟩
   have aE:=hN.out.symm
   have bC:∀ (j:Nat) (x:ByteArray),a[j]?=some x->x.size<=maxLen:=fun j x hx=>by
    have bD:x∈Et P0:=(by rw [<- y.out];exact Aj hx);unfold Et at bD;obtain ⟨b,hb,rfl⟩:=Bd.1 bD;rw [Sy] at hb;obtain ⟨q,hq,rfl⟩:=Bd.1 hb;rw [aL.out] at hq;obtain ⟨z,hz,e⟩:=Avg hs ws q hq;have:=bT.out z hz;rw [<- e] at this;exact this
   have a0:∀ (j:Nat) (x:ByteArray),a[j]?=some x->∃ k u,us[k]?=some u/\u.pl.name=x/\us.find? (fun u=>decide (u.pl.name=x))=some u/\Gf t.1 x=some k:=fun j x hx=>by
    have bD:x∈Et P0:=(by rw [<- y.out];exact Aj hx);have cC:x∈P0.map bq.name:=(by unfold Et at bD;obtain ⟨b,hb,rfl⟩:=Bd.1 bD;rw [Sy] at hb;obtain ⟨q,hq,rfl⟩:=Bd.1 hb;exact Bd.2 ⟨q,hq,rfl⟩);rw [<- hI.out.nm,<- an.out,Du] at cC;obtain ⟨q,hq,cT⟩:=Bd.1 cC;rcases Sj (fun u:bt=>decide (u.pl.name=x)) us with ⟨_,h2⟩ | ⟨k,u,h1,h2,h3⟩
    .have:=Q8.1 h2 q hq;simp at this;exact absurd cT this
    .have cU:u.pl.name=x:=(by have:=S2 h3;simpa using this);exact ⟨k,u,h2,cU,h3,by rw [<- an.out,Uh];exact h1⟩
   replace ⟨bX,bY,aZ,bZ,bA,ce,ht,bB⟩:=H8 bX bY aZ bZ bA ce ht bB;replace ⟨f,a0,bC,hT⟩:=H4 f a0 bC hT;go_upto_region 8 with fail;rw [<- b0,<- bB.out];clear b0
   obtain ⟨bE,aH,e0⟩:∃ so c,nv=.slice so N c:=by
    rcases cB.out.tu.nm.2 with ⟨e,h0⟩ | ⟨g,cap,dG,e,_⟩
    .exact ⟨none,0,by rw [e,<- aE,h0]⟩
    .exact ⟨_,_,by rw [e,aE]⟩
   subst e0;replace aE:=Hh aE;go_wp2_with fail;go_loopw [10,13,14,15,16,29] (fun nx _ _ _ _ jv wr=>∃ (j:Nat),jv=.int .i64 j/\j<=N/\Hid (lq W0 ao n c us (.slice bE N aH) a u9 t.2 lb (Cs whole t.1 a j) nx wr)) (fun _ _ _ _ _ jv _=>N-(intOf jv).toNat)
   case atStart=>exact ⟨0,rfl,Av _,cB⟩
   case round=>
    obtain ⟨j,rfl,dH,hK⟩:=hrel;by_cases dI:j<N
    .have cD:(j:Int)<N:=(by omega);have dJ:(0:Int)<=(j:Int):=(by omega);have ak:=hK.out.tu.nm;obtain ⟨ng,dw,e⟩:=Joins.ownsRow_form ak (by have:=aE.out;omega);injection e with e1 e2 e3;subst e1;clear e2 e3;obtain ⟨x,hx⟩:∃ x,a[j]?=some x:=⟨_,Am (by have:=aE.out;omega)⟩;have cx:wr.cell? ⟨ng,j,none⟩=some (.string x):=(by have:=ak.cells (g:=ng) rfl j (.string x) (by simp [ux,hx]);rw [Addr.add_lit,D2] at this;exact this);obtain ⟨kk,⟨ub,cf,⟨aR,⟨ua,ac,uc,ud⟩,aM⟩⟩,hk,aN,bF,aS⟩:=a0.out j x hx;have cE:=Z1 hK.out.tu.up.us x (bC.out j x hx);rw [bF] at cE;have ap:=Aj hk;obtain ⟨al,aT⟩:=hK.out.tu.up.us.box _ ap;obtain ⟨so,cc,e,b1,_⟩:=(hK.out.tu.up.us.left _ ap).form;have e':cf=.slice so (Cy aM).length cc:=e;obtain ⟨L,hL⟩:=Ex ((Cy aM).length);rw [<- hL] at e';subst e';have bb:L=aM.length:=(by rw [hL,O6]);have x4:=Bk al 4 (.slice so L cc) rfl;have bc:t.1[kk]?=some ⟨aR,⟨ua,ac,uc,ud⟩,aM⟩:=by rw [<- an.out];simp [hk]
     have h:Cs whole t.1 a (j+1)=if aM=[] then Cs whole t.1 a j else match Cs whole t.1 a j with
       | none=>some (kk,Ox ⟨ua,ac,uc,ud⟩ whole)
       | some (i,s)=>if F2 (Ox ⟨ua,ac,uc,ud⟩ whole) s<0 then some (kk,Ox ⟨ua,ac,uc,ud⟩ whole) else some (i,s):=by
      show (match (a[j]?).bind (Gf t.1) with | none=>_ | some k=>_)=_;rw [hx];simp only [Option.bind_some];rw [aS];simp only;rw [bc];simp only;split
      .rfl
      .cases Cs whole t.1 a j with
       | none=>rfl
       | some p=>rfl
     by_cases aU:aM=[]
     .have cF:L=0:=(by rw [bb,aU];rfl);subst cF;have cV:Hid (lq W0 ao n c us (.slice (some ⟨ng,0,none⟩) N aH) a u9 t.2 lb (Cs whole t.1 a (j+1)) u10 wr):=(by rw [h,Ad aU];exact hK);replace ⟨ak,hx,hk,aN,bF,aS,ap,al⟩:=H8 ak hx hk aN bF aS ap al;replace ⟨aT,e,b1,hL,bb,bc,h,aU⟩:=H8 aT e b1 hL bb bc h aU;go_wp2_with fail;go_roundw
      case rel=>exact ⟨j+1,by go_num,by omega,cV⟩
      case measure=>simp [intOf];omega
     .have cF:¬ L=0:=by rw [bb];exact fun e=>aU (Fw.1 e)
      have dK:((L:Int) == 0)=false:=(by simp;omega);rw [Ac aU] at h;replace ⟨ak,hx,hk,aN,bF,aS,ap,e⟩:=H8 ak hx hk aN bF aS ap e;replace ⟨b1,hL,bb,bc,aU⟩:=H5 b1 hL bb bc aU;obtain ⟨⟨d1,d2⟩,hd⟩:∃ d,d=Ox ⟨ua,ac,uc,ud⟩ whole:=⟨_,rfl⟩;obtain ⟨cW,bG⟩:=Ex ((E4 ⟨ua,ac,uc,ud⟩ whole 4).2);have a8:=(hI.out.ok _ (Aj bc.out)).1;have bH:=Wz a8 bk.out 4 Ln;have kd:=fun W=>Aun ⟨ua,ac,uc,ud⟩ whole W a8 bk.out;have ch:(E4 ⟨ua,ac,uc,ud⟩ whole 4).1=(d1,d2):=hd.symm;rw [ch] at kd bH;rw [<- bG] at kd;rw [<- hd] at h;obtain ⟨⟨wa,wb,ci,wd⟩,b2⟩:∃ v,v=whole:=⟨_,rfl⟩;have a5:wr.heap[w.heap.size]?=some (.cells (⟨wa,wb,ci,wd⟩:V4).cells 30 (0,0)):=(by rw [b2];exact Ae hK.out.tu.up.us.low cb.out (by have:=ca.out;omega));rw [<- b2] at kd;replace kd:∀ W,Calls Tryz.prog 250 #[.agg #[.int .i64 ua,.int .i64 ac,.int .i64 uc,.int .i64 ud],.agg #[.int .i64 wa,.int .i64 wb,.int .i64 ci,.int .i64 wd]] W fun e w'=>e=.returned (.tuple #[.agg #[.int .i64 d1,.int .i64 d2],.int .i64 cW])/\Below W.heap.size W w':=kd;have b7:=Ab al;have cG:=Ab a5;replace ⟨al,hd,bG,a8,bH,ch,b2,a5⟩:=H8 al hd bG a8 bH ch b2 a5;replace ⟨kd,h⟩:=H2 kd h;go_upto_region 13 with fail;clear cx x4 cE;have cX:=Bk al.out 0 (.int .i64 ua) rfl;have cY:=Bk al.out 1 (.int .i64 ac) rfl;have cZ:=Bk al.out 2 (.int .i64 uc) rfl;have c2:=Bk al.out 3 (.int .i64 ud) rfl;have c3:=Bk a5.out 0 (.int .i64 wa) rfl;have c4:=Bk a5.out 1 (.int .i64 wb) rfl;have c5:=Bk a5.out 2 (.int .i64 ci) rfl;have c6:=Bk a5.out 3 (.int .i64 wd) rfl;go_cut [15,16] (fun sv av wx=>we W0 ao n c us (.slice (some ⟨ng,0,none⟩) N aH) a u9 t.2 lb (Cs whole t.1 a j) u10 d1 d2 sv wx)
      case first=>
       go_region_law (first
        | (go_simp;go_at_call 250;refine (kd.out _).mono ?_;rintro e w1 ⟨rfl,f⟩;have s2:=f.size;obtain ⟨cH,c7⟩:=R5 f
           (try simp at s2)
           (try simp at cH)
           (try simp at c7)
           (try have dL:wr.heap.size<w1.heap.size:=by omega)
           replace f:=Hh f))
       all_goals
        go_wp2_with fail;go_meet
        first
         | exact hK.out.s1 f.out
         | exact hK.out.s2 f.out
      case rest=>
       obtain ⟨ad,g,rfl,hg,bd⟩:=hcut;clear cX cY cZ c2 c3 c4 c5 c6 b7 cG;have c0:=Bk hg 0 (.int .i64 d1) rfl;have c1:=Bk hg 1 (.int .i64 d2) rfl;obtain ⟨pk,aC⟩:=Ex (Cs whole t.1 a j);rw [<- aC] at ad h;have fe:=Ah ad.fp;rcases ad.nx with ⟨rfl,aV⟩ | ⟨⟨pi,⟨p1,p2⟩⟩,u2,rfl,aO,aV⟩
       .have e0:=Bk ad.fp 0 (.int .i64 0) rfl;have e1:=Bk ad.fp 1 (.int .i64 0) rfl;have am:Cs whole t.1 a (j+1)=some (kk,(d1,d2)):=h.out
        have aA:∀ q,lq W0 ao n c us (.slice (some ⟨ng,0,none⟩) N aH) a u9 t.2 lb (Cs whole t.1 a (j+1)) (Lj ub) (((wc.drewN q).setCell ⟨lb,0,none⟩ (.int .i64 d1)).setCell ⟨lb,1,none⟩ (.int .i64 d2)):=fun q=>by
         rw [am];exact (ad.drop (A8 _ wc q)).put rfl (.inr ⟨_,_,rfl,hk.out,rfl⟩)
        subst aV;replace ⟨ad,hg,bd,aC,h,am,aA⟩:=H7 ad hg bd aC h am aA;go_upto_region 15 with fail;go_region_with (fail)
        all_goals
         go_wp2_with fail;go_roundw
         case rel=>exact ⟨j+1,by go_num,by omega,Hh (by first | exact aA.out 1 | exact aA.out 0)⟩
         case measure=>simp [intOf];omega
       .have e0:=Bk ad.fp 0 (.int .i64 p1) rfl;have e1:=Bk ad.fp 1 (.int .i64 p2) rfl;have aI:p1<=9223372036854775807/\p2<=9223372036854775807:=(by obtain ⟨u3,c8,_,da⟩:=Qx aC.symm;have:=Wz (hI.out.ok u3 (Aj c8)).1 bk.out 4 Ln;have e9:(E4 u3.has whole 4).1=(p1,p2):=da.symm;rw [e9] at this;exact this);have kc:∀ W,Calls Tryz.prog 251 #[.agg #[.int .i64 d1,.int .i64 d2],.agg #[.int .i64 p1,.int .i64 p2]] W fun e w'=>e=.returned (.int .i64 (F2 (d1,d2) (p1,p2)))/\Below W.heap.size W w':=fun W=>Af5 (d1,d2) (p1,p2) W bH.out.1 bH.out.2 aI.1 aI.2;obtain ⟨cv,be⟩:=Ex (F2 (d1,d2) (p1,p2));rw [<- be] at kc;have am:Cs whole t.1 a (j+1)=if cv<0 then some (kk,(d1,d2)) else some (pi,(p1,p2)):=(by rw [h.out,be]);subst aV;by_cases cI:cv<0
        .have aF:Cs whole t.1 a (j+1)=some (kk,(d1,d2)):=by rw [am,Ad cI]
         have aA:∀ W q,Below wc.heap.size wc W->lq W0 ao n c us (.slice (some ⟨ng,0,none⟩) N aH) a u9 t.2 lb (Cs whole t.1 a (j+1)) (Lj ub) (((W.drewN q).setCell ⟨lb,0,none⟩ (.int .i64 d1)).setCell ⟨lb,1,none⟩ (.int .i64 d2)):=fun W q hW=>by
          rw [aF];exact ((ad.drop hW).drop (A8 _ W q)).put rfl (.inr ⟨_,_,rfl,hk.out,rfl⟩)
         replace ⟨ad,hg,bd,aC,h,am,aF,aA⟩:=H8 ad hg bd aC h am aF aA;replace ⟨kc,be,aI,aO⟩:=H4 kc be aI aO;go_upto_region 15 with (go_at_call 251;(with_reducible refine (kc.out _).mono ?_);rintro e w1 ⟨rfl,f⟩;have c0:=(Ag f (Ab hg.out)).trans c0;have c1:=(Ag f (Ab hg.out)).trans c1;have e0:=(Ag f (Ab ad.out.fp)).trans e0;have e1:=(Ag f (Ab ad.out.fp)).trans e1;have fe:=Ah (Ae f ad.out.fp (Ab ad.out.fp));replace f:=Hh f);go_region_with (fail)
         all_goals
          go_wp2_with fail;go_roundw
          case rel=>exact ⟨j+1,by go_num,by omega,Hh (by first | exact aA.out w1 1 f.out | exact aA.out w1 0 f.out)⟩
          case measure=>simp [intOf];omega
        .have aF:Cs whole t.1 a (j+1)=some (pi,(p1,p2)):=by rw [am,Ac cI]
         have aA:∀ W,Below wc.heap.size wc W->lq W0 ao n c us (.slice (some ⟨ng,0,none⟩) N aH) a u9 t.2 lb (Cs whole t.1 a (j+1)) (Lj u2.b) W:=fun W hW=>by
          rw [aF];exact ad.drop hW
         replace ⟨ad,hg,bd,aC,h,am,aF,aA⟩:=H8 ad hg bd aC h am aF aA;replace ⟨kc,be,aI,aO⟩:=H4 kc be aI aO;go_wp2_with (go_at_call 251;(with_reducible refine (kc.out _).mono ?_);rintro e w1 ⟨rfl,f⟩;replace f:=Hh f);go_roundw
         case rel=>exact ⟨j+1,by go_num,by omega,Hh (aA.out w1 f.out)⟩
         case measure=>simp [intOf];omega
    .have cD:¬ (j:Int)<N:=(by omega);have cj:j=N:=(by omega);have bI:Cs whole t.1 a j=some (k,s):=(by rw [cj,<- aE.out];exact bX.out);have bJ:=hK.out;rw [bI] at bJ;have aW:=bJ.tu;rcases bJ.nx with ⟨e,_⟩ | ⟨pr,u2,e,bf,aV⟩
     .cases e
     .injection e with e;subst e;obtain ⟨ub,cf,⟨aR,⟨ua,ac,uc,ud⟩,aM⟩⟩:=u2;have aO:u=⟨aR,⟨ua,ac,uc,ud⟩,aM⟩:=(by have h9:=bY.out;rw [<- an.out] at h9;simp only [Bx,bf,J1,Option.some.injEq] at h9;exact h9.symm);have cJ:aM=p :: l:=(by have h9:=aZ.out;rw [aO] at h9;exact h9);subst cJ;have ap:=Aj bf;obtain ⟨al,aT⟩:=aW.up.us.box _ ap;obtain ⟨g,aX,cap,e,cK,ck,cL,cM,cl⟩:=(aW.up.us.left _ ap).pos (by simp [Cy]);have e':cf=.slice (some ⟨g,aX,none⟩) (Cy (p :: l)).length cap:=e;obtain ⟨M,hM⟩:=Ex ((Cy (p :: l)).length);rw [<- hM] at e' ck;subst e';have cN:M=l.length+1:=(by rw [hM,O6];rfl);have dM:0<M:=(by omega);have dN:(1:Int)<=M:=(by omega);have cH:1<=cap:=(by omega);have c0:wr.cell? ⟨g,aX,none⟩=some (.int .i64 (p:Int)):=cl 0 _ rfl;have x4:=Bk al 4 (.slice (some ⟨g,aX,none⟩) M cap) rfl;have fu:=Ah al;obtain ⟨aP,bK⟩:=Ex (Value.slice (if cap=1 then some ⟨g,aX,none⟩ else some ⟨g,aX+1,none⟩) (M-1) (cap-1));obtain ⟨W3,b3⟩:=Ex (wr.setCell ⟨ub,4,none⟩ aP)
      have b8:g≠ub:=fun e9=>by
       obtain ⟨c9,bg⟩:=(aW.up.us.left _ ap).aq (k:=g) rfl;rw [e9,al] at bg;injection bg with bg;injection bg with _ bg;exact absurd bg (by decide)
      have b4:aP=.slice (some ⟨g,if cap=1 then aX else aX+1,none⟩) (Cy l).length (cap-1):=by
       rw [bK,O6,show M-1=l.length by omega]
       split<;>rfl
      have bL:gw W0 ao n c (us.set k ⟨ub,aP,⟨aR,⟨ua,ac,uc,ud⟩,l⟩⟩) (.slice bE N aH) a u9 t.2 W3:=by
       have cO:Mod (fun b=>b=ub) wr W3:=(by rw [b3];exact Mod.setCell wr ub 4 _ rfl);refine aW.ui bf cO rfl rfl ?_ ?_ (by rw [b4];rfl)
       .rw [b3];have:=Al al 4 aP;simpa using this
       .have hq:=aW.up.us.left _ ap;have db:C4 wr W0.heap.size (.slice (some ⟨g,aX,none⟩) M cap) ((p:Int) :: Cy l):=hq;have dc:=db.tail;show C4 W3 W0.heap.size aP (Cy l);rw [b4];exact dc.mod cO (fun k9 dd e9=>by simp [Value.ownBlock] at dd;omega)
      have b5:(us.set k (⟨ub,aP,⟨aR,⟨ua,ac,uc,ud⟩,l⟩⟩:bt))[k]?=some ⟨ub,aP,⟨aR,⟨ua,ac,uc,ud⟩,l⟩⟩:=(by rw [Do];simp [(Aq.1 bf).1]);obtain ⟨⟨dg,dk,dl,⟨na,nb,nc,nd⟩⟩,hx⟩:∃ x,ws[p]?=some x:=⟨_,Am bZ.out⟩;have dA:p<n:=(by have:=bZ.out;have:=aY.out;omega);have dB:(p:Int)<n:=(by omega);have dC:(0:Int)<=(p:Int):=(by omega);obtain ⟨jb,aG,rfl,dD,bi⟩:=(hw.out.low (aJ.out.trans (bL.up.us.low.mono aJ.out.size))).cell p _ hx;have z3:W3.cell? ⟨jb,aG+p*7+3,none⟩=some (.int .i64 na):=bi 3 (by omega);have z4:W3.cell? ⟨jb,aG+p*7+4,none⟩=some (.int .i64 nb):=bi 4 (by omega);have z5:W3.cell? ⟨jb,aG+p*7+5,none⟩=some (.int .i64 nc):=bi 5 (by omega);have z6:W3.cell? ⟨jb,aG+p*7+6,none⟩=some (.int .i64 nd):=bi 6 (by omega);have aD:=(bL.up.us.box _ (Aj b5)).1;have x0:=Bk aD 0 (.int .i64 ua) rfl;have x1:=Bk aD 1 (.int .i64 ac) rfl;have x2:=Bk aD 2 (.int .i64 uc) rfl;have x3:=Bk aD 3 (.int .i64 ud) rfl;have cm:=Ah aD;have b7:=Ab aD;obtain ⟨⟨pa,bM,pc,pd⟩,b6⟩:∃ q,q=Ka ⟨ua,ac,uc,ud⟩ ⟨na,nb,nc,nd⟩:=⟨_,rfl⟩
      have kp:∀ W,Calls Tryz.prog 252 #[.agg #[.int .i64 ua,.int .i64 ac,.int .i64 uc,.int .i64 ud],.agg #[.int .i64 na,.int .i64 nb,.int .i64 nc,.int .i64 nd]] W fun e w'=>e=.returned (.agg #[.int .i64 pa,.int .i64 bM,.int .i64 pc,.int .i64 pd])/\Below W.heap.size W w':=fun W=>by
       have:=Af6 ⟨ua,ac,uc,ud⟩ ⟨na,nb,nc,nd⟩ W;rw [<- b6] at this;exact this
      obtain ⟨bN,a9⟩:=Ex ((us.set k (⟨ub,aP,⟨aR,⟨ua,ac,uc,ud⟩,l⟩⟩:bt)).set k ⟨ub,aP,⟨aR,⟨pa,bM,pc,pd⟩,l⟩⟩)
      have co:∀ w1,Below W3.heap.size W3 w1->gw W0 (some ⟨jb,aG,none⟩) n c bN (.slice bE N aH) a u9 t.2 ((((w1.setCell ⟨ub,0,none⟩ (.int .i64 pa)).setCell ⟨ub,1,none⟩ (.int .i64 bM)).setCell ⟨ub,2,none⟩ (.int .i64 pc)).setCell ⟨ub,3,none⟩ (.int .i64 pd)):=fun w1 hb=>by
       rw [a9];exact bL.th b5 hb ⟨pa,bM,pc,pd⟩
      have bO:bN.map bt.pl=(Cr whole ws P0 a (r+1)).1:=by
       rw [bA.out,a9,aO,<- an.out];simp only [Mw];rw [Pv];have dr:A5 ws p=⟨dg,dk,dl,⟨na,nb,nc,nd⟩⟩:=(by unfold A5;rw [Gn hx]);rw [dr,b6]
      have a6:(Cr whole ws P0 a (r+1)).2=t.2++[p]:=(by rw [bA.out]);have cp:=hI.out.out;obtain ⟨cP,oL,cQ,oe,cr⟩:=aW.out.len;subst oe;have ba:=cr.symm;have bP:oL<=1000000000:=(by rw [<- ba,O6,cp];omega);have bQ:∀ Wx,gw W0 (some ⟨jb,aG,none⟩) n c bN (.slice bE N aH) a (.slice cP oL cQ) t.2 Wx->Below Wx.heap.size Wx (Wx.alloc (.cells #[.int .i64 (p:Int)] 3 (0,0)))/\Ak (Wx.alloc (.cells #[.int .i64 (p:Int)] 3 (0,0))) W0.heap.size (.slice cP oL cQ) (Cy t.2) /\
        (Wx.alloc (.cells #[.int .i64 (p:Int)] 3 (0,0))).cell? ⟨Wx.heap.size,0,none⟩=some (.int .i64 (p:Int))/\W0.heap.size<=(Wx.alloc (.cells #[.int .i64 (p:Int)] 3 (0,0))).heap.size:=fun Wx hT=>by
       have hb:Below Wx.heap.size Wx (Wx.alloc (.cells #[.int .i64 (p:Int)] 3 (0,0))):=Bn;exact ⟨hb,hT.out.mod (Mod.af (S:=fun _=>False) hb) (fun _ _ c=>c),Aa (Af _ _) 0,by have:=hT.up.us.low.size;have:=hb.size;omega⟩
      subst aV;replace ⟨bI,bJ,aW,bf,aO,ap,al,aT⟩:=H8 bI bJ aW bf aO ap al aT;replace ⟨e,cK,ck,cL,cM,cl,hM,cN⟩:=H8 e cK ck cL cM cl hM cN;replace ⟨b4,bL,b5,hx,bi,aD,b6,kp⟩:=H8 b4 bL b5 hx bi aD b6 kp;replace ⟨a9,co,bO,a6,cp,cr,ba,bP⟩:=H8 a9 co bO a6 cp cr ba bP;replace ⟨bQ,b8,hK,cj⟩:=H4 bQ b8 hK cj;go_upto_region 19 with fail;rw [<- bK,<- b3];clear b3 bK c0 x4 fu;go_region_with (go_at_call 252;((with_reducible refine (kp.out _).mono ?_);rintro e w1 ⟨rfl,f⟩;have x0:=(Ag f (by first | omega | (simp;omega))).trans x0;have x1:=(Ag f (by first | omega | (simp;omega))).trans x1;have x2:=(Ag f (by first | omega | (simp;omega))).trans x2;have x3:=(Ag f (by first | omega | (simp;omega))).trans x3;have cm:=fun o=>(f.frozen (p:=⟨ub,o,none⟩) (by first | (show ub<_;omega) | (simp;omega))).trans (cm o);replace f:=Hh f))
      all_goals
       have cs:Below W3.heap.size W3 w1:=by first | exact f.out | exact Z6 f.out
       have bR:=co.out w1 cs;obtain ⟨Wx,ct⟩:=Ex ((((w1.setCell ⟨ub,0,none⟩ (.int .i64 pa)).setCell ⟨ub,1,none⟩ (.int .i64 bM)).setCell ⟨ub,2,none⟩ (.int .i64 pc)).setCell ⟨ub,3,none⟩ (.int .i64 pd));rw [<- ct] at bR;obtain ⟨a1,a2,a3,a4⟩:=bQ.out Wx bR;replace ⟨cs,bR,a1,a2,a3,a4⟩:=H6 cs bR a1 a2 a3 a4;clear x0 x1 x2 x3 cm z3 z4 z5 z6;go_upto_region 20 with fail;rw [<- ct];clear ct;go_wp2_with (at_builtin;refine Mk rfl _ _ rfl W0.heap.size oL _ rfl a2.out ba.out ⟨Wx.heap.size,0,none⟩ 1 rfl (p:Int) a3.out bP.out a4.out ?_;intro g7 cR w7 h7 cw cy;replace ⟨h7,cw,cy⟩:=H3 h7 cw cy)
       have ds:Hid (gw W0 (some ⟨jb,aG,none⟩) n c bN (.slice bE N aH) a (.slice (some ⟨g7,0,none⟩) (oL+1) cR) (Cr whole ws P0 a (r+1)).2 w7):=by
        rw [a6.out]
        refine bR.out.push a1.out cw.out ?_ (fun k hk=>by
         simp [Value.ownBlock] at hk;subst hk;rcases cy.out with e | e
         .exact .inl e
         .exact .inr e)
        rw [Agb];exact h7.out
       go_roundw
       case rel=>exact ⟨r+1,bN,by go_num,by omega,ds,bO,ce⟩
       case measure=>simp [intOf];omega
  .have cA:¬ (r:Int)<n:=(by omega);have bS:r=n:=(by omega);have a7:Jm whole hs ws=(Cr whole ws P0 a r).2:=(by rw [bw.out,aY.out,bS]);replace ⟨a7,bS⟩:=H2 a7 bS;go_wp2;go_ret;refine ⟨u9,rfl,?_,aJ.out.trans (hT.out.up.us.low.mono aJ.out.size)⟩;rw [a7.out];exact hT.out.out.le aJ.out.size
end Go.Proofs.YtimlcnhcjndijaaGreatDoor
