/- Parts of a proof. No condition. -/
import Derived.Test.YtimlcnhcjndijaaGreatDoorF27
import Derived.Test.YtimlcnhcjndijaaGreatDoorF28
set_option linter.all false
set_option maxRecDepth 100000
set_option maxHeartbeats 3200000
namespace Go.Proofs.YtimlcnhcjndijaaGreatDoor
open Go renaming World->WD,Value->VL
open Go.RowKit renaming Below->BW
section
open Go.RowKit Go.Maps Go.Lib
def Ef (us:List bt):Nat:=(us.map fun u=>u.left.length).sum
def Ab5 {us:List bt} {k:Nat} {u:bt} (f:bt->bt) (a:us[k]?=some u):Ef (us.modify k f)+u.left.length=Ef us+(f u).left.length:=by
 induction us generalizing k with
 | nil=>simp at a
 | cons x r ih=>
  cases k with
  | zero=>
   simp at a;subst a;simp [Ef];omega
  | succ k=>
   have:=ih (k:=k) (by simpa using a);simp [Ef] at this ⊢;omega
def X9 {us:List bt} {s:ByteArray} {k:Nat} (h:Gp us s=some k):∃ u,us[k]?=some u/\u.name=s:=by
 unfold Gp at h;rcases Su (sj s) us with ⟨h1,_⟩ | ⟨c,u,h1,a,b⟩
 .rw [h1] at h;cases h
 .rw [h1] at h;injection h with h;subst h;have:=Tb b;exact ⟨u,a,by simpa [sj] using this⟩
def Awl (us:List bt) (s:ByteArray) (i:Nat):Ef (Aw us s i)=Ef us+1:=by
 unfold Aw
 cases h:Gp us s with
 | none=>simp [Ef]
 | some k=>
  obtain ⟨u,a,_⟩:=X9 h;have:=Ab5 (fun u=>⟨u.name,u.has,u.left++[i]⟩) a;simp at this ⊢;omega
def Aji (a:List df):∀ j,Ef (B8 a j)=j
 | 0=>rfl
 | j+1=>by
  show Ef (Aw (B8 a j) _ j)=j+1;rw [Awl,Aji a j]
def Awm (us:List bt) (h:eh):Ef (Ct us h)=Ef us:=by
 unfold Ct
 cases h2:Gp us h.user with
 | none=>rfl
 | some k=>
  obtain ⟨u,a,_⟩:=X9 h2;have:=Ab5 (fun u=>⟨u.name,Kg u.has h.has,u.left⟩) a;simp at this ⊢;omega
def Awn (a:List eh) (b:List df):Ef (C1 a b)=b.length:=by
 unfold C1
 have c:∀ (a:List eh) (l:List bt),Ef (a.foldl Ct l)=Ef l:=fun a=>by
  induction a with
  | nil=>intro l;rfl
  | cons h r ih=>intro l;exact (ih _).trans (Awm l h)
 have:Ef ((a.foldl Ct (B8 b b.length)).map fun u=>⟨u.name,u.has,Gn b u.left⟩)=Ef (a.foldl Ct (B8 b b.length)):=by unfold Ef;rw [Dn];congr 1;apply Va;intro u _;simp [Gn,U9]
 rw [this,c,Aji]
def Om (n:Nat) (us:List bt):Prop:=∀ u,u∈us->Ol u.has/\∀ p,p∈u.left->p<n
def Ajj (u v:V4):Ol (Kg u v):=fun d f=>by
 have a:=Pn (E2 u.a+E2 v.a);have b:=Pn (E2 u.b+E2 v.b);have c:=Pn (E2 u.c+E2 v.c);have e:=Pn (E2 u.d+E2 v.d)
 rcases (by omega:d=0\/d=1\/d=2\/d=3) with rfl | rfl | rfl | rfl<;>simp only [Kg,Ju,V4.get]<;>omega
def Awo:Ol ⟨0,0,0,0⟩:=fun d a=>by
 rcases (by omega:d=0\/d=1\/d=2\/d=3) with rfl | rfl | rfl | rfl<;>simp [V4.get]
def Awp (e:List eh) (b:List df):Om b.length (C1 e b):=by
 have h0:∀ j,j<=b.length->Om b.length (B8 b j):=fun j=>by
  induction j with
  | zero=>intro _ u a;cases a
  | succ j ih=>
   intro m u a;have i:=ih (by omega);have a:u∈Aw (B8 b j) (A6 b j).user j:=a;unfold Aw at a;split at a
   .rcases Dh.1 a with a | a
    .exact i u a
    .simp at a;subst a;exact ⟨Awo,fun p c=>by simp at c;omega⟩
   .rcases Oj a with a | ⟨y,f,rfl⟩
    .exact i u a
    .refine ⟨(i y f).1,fun p c=>?_⟩;rcases Dh.1 c with c | c
     .exact (i y f).2 p c
     .simp at c;omega
 have g:∀ (l:List bt) (h:eh),Om b.length l->Om b.length (Ct l h):=fun l h d u a=>by
  unfold Ct at a;split at a
  .exact d u a
  .rcases Oj a with a | ⟨y,f,rfl⟩
   .exact d u a
   .exact ⟨Ajj _ _,(d y f).2⟩
 have k:∀ (e:List eh) (l:List bt),Om b.length l->Om b.length (e.foldl Ct l):=fun e=>by
  induction e with
  | nil=>intro l d;exact d
  | cons h r ih=>intro l d;exact ih _ (g l h d)
 intro u a;unfold C1 at a;obtain ⟨y,f,rfl⟩:=Ba.1 a;have:=k e _ (h0 b.length Ln) y f;exact ⟨this.1,fun p c=>this.2 p (by simpa [Gn,S9] using c)⟩
def Awq {n:Nat} {us:List bt} (h:Om n us) (f:List df) (k:Nat):Om n (us.modify k (Jv f)):=fun u b=>by
 rcases Oj b with b | ⟨y,d,rfl⟩
 .exact h u b
 .have a:=h y d;unfold Jv;split
  .exact a
  .rename_i p l e;exact ⟨Ajj _ _,fun q c=>a.2 q (by rw [e];exact Ce _ c)⟩
def Awr (a:List df) (us:List bt) (k:Nat):(us.modify k (Jv a)).map bt.name=us.map bt.name:=by
 apply Ea;intro j;simp only [Bh,Ev];split
 .rename_i h;subst h
  cases us[k]? with
  | none=>rfl
  | some u=>
   show some (Jv a u).name=some u.name;unfold Jv
   split<;>rfl
 .cases us[j]?<;>rfl
def Aws {us:List bt} (i:(us.map bt.name).Nodup) {k:Nat} {u:bt} (c:us[k]?=some u):Gp us u.name=some k:=by
 unfold Gp;rcases Su (sj u.name) us with ⟨_,a⟩ | ⟨j,u',h1,a,f⟩
 .have:=Rb.1 a u (Ai c);simp [sj] at this
 .rw [h1];have b:u'.name=u.name:=by have:=Tb f;simpa [sj] using this
  have g:(us.map bt.name)[k]?=some u.name:=by simp [c]
  have h:(us.map bt.name)[j]?=some u.name:=by simp [a,b]
  obtain ⟨l,d⟩:=Ao.1 g;obtain ⟨m,e⟩:=Ao.1 h;rw [(List.getElem_inj i).1 (e.trans d.symm)]
def Awt (whole:V4) {us:List bt} (q:(us.map bt.name).Nodup) (a:List ByteArray) (h:0<Ef us) (b:∀ u,u∈us->u.name∈a):∃ k s,Cu whole us a a.length=some (k,s):=by
 obtain ⟨u,f,p⟩:∃ u,u∈us/\u.left≠[]:=by
  false_or_by_contra
  rename_i n
  have:Ef us=0:=by
   unfold Ef;rw [List.sum_eq_zero_iff_forall_eq_nat];intro x r;obtain ⟨u,f,rfl⟩:=Ba.1 r
   false_or_by_contra
   rename_i l;exact n ⟨u,f,fun e=>l (by rw [e];rfl)⟩
  omega
 obtain ⟨k,i⟩:=Dg f;obtain ⟨j,g⟩:=Dg (b u f);have o:=(Ao.1 g).1
 have c:∀ m,(∃ k s,Cu whole us a m=some (k,s))->∃ k s,Cu whole us a (m+1)=some (k,s):=fun m ⟨k,s,e⟩=>by
  unfold Cu;rw [e];split
  .exact ⟨k,s,rfl⟩
  .split
   .exact ⟨k,s,rfl⟩
   .split
    .exact ⟨k,s,rfl⟩
    .simp only
     split<;>exact ⟨_,_,rfl⟩
 have at_:∃ k s,Cu whole us a (j+1)=some (k,s):=by
  unfold Cu;rw [g];simp only [Option.bind_some];rw [Aws q i];simp only [i];rw [Ac p];split
  .exact ⟨_,_,rfl⟩
  .split<;>exact ⟨_,_,rfl⟩
 have t:∀ d,∃ k s,Cu whole us a (j+1+d)=some (k,s):=fun d=>by
  induction d with
  | zero=>exact at_
  | succ d ih=>exact c _ ih
 have:=t (a.length-(j+1));rw [show j+1+(a.length-(j+1))=a.length by omega] at this;exact this
def Ajk (us:List bt) {u:bt} (a:u∈us):u.name∈Fu us:=by
 unfold Fu;refine Ba.2 ⟨u.name.data.toList,?_,?_⟩
 .rw [S9];exact Ba.2 ⟨u,a,rfl⟩
 .simp
def Q3 {whole:V4} {us:List bt} {a:List ByteArray}:∀ {m k:Nat} {s:el},Cu whole us a m=some (k,s)->∃ u,us[k]?=some u/\u.left≠[]/\s=O9 u.has whole
 | 0,k,s,h=>by cases h
 | m+1,k,s,h=>by
  unfold Cu at h;split at h
  .exact Q3 h
  .rename_i e _;split at h
   .exact Q3 h
   .rename_i u c;split at h
    .exact Q3 h
    .rename_i b;split at h
     .injection h with h;injection h with h1 h2;subst h1 h2;exact ⟨u,c,b,rfl⟩
     .rename_i i f d;split at h
      .injection h with h;injection h with h1 h2;subst h1 h2;exact ⟨u,c,b,rfl⟩
      .injection h with h;injection h with h1 h2;subst h1 h2;exact Q3 d
structure Uy (whole:V4) (ws:List df) (names:List ByteArray) (P0:List bt) (t:List bt×List Nat) (r:Nat):Prop where
 left:Ef t.1+r=ws.length
 ok:Om ws.length t.1
 nm:t.1.map bt.name=P0.map bt.name
 out:t.2.length=r
def Ajl {whole:V4} {b:List df} {a:List ByteArray} {c:List bt} {r:Nat} (j:(c.map bt.name).Nodup) (i:∀ u,u∈c->u.name∈a) (h:Uy whole b a c (Cr whole b c a r) r) (hr:r<b.length) :
  ∃ k s u p l,Cu whole (Cr whole b c a r).1 a a.length=some (k,s)/\(Cr whole b c a r).1[k]?=some u/\u.left=p :: l/\p<b.length /\
   Cr whole b c a (r+1)=((Cr whole b c a r).1.set k ⟨u.name,Kg u.has (A6 b p).nf,l⟩,(Cr whole b c a r).2++[p])/\Uy whole b a c (Cr whole b c a (r+1)) (r+1):=by
 obtain ⟨h1,o,n,z⟩:=h;generalize ht:Cr whole b c a r=t at h1 o n z;have f:(t.1.map bt.name).Nodup:=by rw [n];exact j
 obtain ⟨k,s,q⟩:=Awt whole f a (by omega) (fun u g=>by
  have:u.name∈c.map bt.name:=by rw [<- n];exact Ku g
  obtain ⟨u2,x,e⟩:=Ba.1 this;rw [<- e]
  exact i u2 x)
 obtain ⟨u,g,hl,_⟩:=Q3 q
 cases hul:u.left with
 | nil=>exact absurd hul hl
 | cons p l=>
  have v:=(o u (Ai g)).2 p (by rw [hul];exact Dl ..);have d:Cr whole b c a (r+1)=(t.1.modify k (Jv b),t.2++[p]):=by unfold Cr;rw [ht,q];simp only;rw [g];simp only;rw [hul];rfl
  have m:Jv b u=⟨u.name,Kg u.has (A6 b p).nf,l⟩:=by unfold Jv;rw [hul]
  refine ⟨k,s,u,p,l,q,g,hul,v,?_,?_⟩
  .rw [d,Qz _ _ _ g,m]
  .rw [d];have y:=Ab5 (Jv b) g;rw [m,hul] at y;simp only [Il] at y;exact ⟨by show Ef (t.1.modify k (Jv b))+(r+1)=b.length;omega,Awq o b k,by rw [Awr];exact n,by simp;omega⟩
def Ajm (whole:V4) (c:List eh) (b:List df) (a:List ByteArray):Uy whole b a (C1 c b) (Cr whole b (C1 c b) a 0) 0:=⟨by show Ef (C1 c b)+0=_;rw [Awn];rfl,Awp c b,rfl,rfl⟩
def Ck (us:List bt):List Nat:=(us.map bt.left).flatten
def Ya:∀ {us:List bt} {k:Nat} {u:bt} (f:bt->bt),us[k]?=some u->∃ A B,Ck us=A++(u.left++B)/\Ck (us.modify k f)=A++((f u).left++B)
 | [],_,_,_,h=>by simp at h
 | v :: us,0,u,f,h=>by
  simp at h;subst h;exact ⟨[],Ck us,by simp [Ck],by simp [Ck]⟩
 | v :: us,k+1,u,f,h=>by
  obtain ⟨A,B,h1,a⟩:=Ya (us:=us) (k:=k) f (by simpa using h);refine ⟨v.left++A,B,?_,?_⟩
  .show Ck (v :: us)=_
   have:Ck (v :: us)=v.left++Ck us:=by simp [Ck]
   rw [this,h1,Ky]
  .rw [U7]
   have:Ck (v :: us.modify k f)=v.left++Ck (us.modify k f):=by simp [Ck]
   rw [this,a,Ky]
def Awu (us:List bt) (s:ByteArray) (i:Nat):(Ck (Aw us s i)).Perm (Ck us++[i]):=by
 unfold Aw
 cases h:Gp us s with
 | none=>simp [Ck]
 | some k=>
  obtain ⟨u,b,_⟩:=X9 h;obtain ⟨A,B,h1,a⟩:=Ya (fun u=>⟨u.name,u.has,u.left++[i]⟩) b;simp only;rw [h1,a];simp only [Ky];refine Yr A (Yr u.left ?_);exact List.perm_append_comm
def Ajn (a:List df):∀ j,(Ck (B8 a j)).Perm (List.range j)
 | 0=>Td _
 | j+1=>by
  show (Ck (Aw (B8 a j) _ j)).Perm _;rw [Vi];exact (Awu _ _ _).trans ((Ajn a j).append_right [j])
def Awv (us:List bt) (h:eh):Ck (Ct us h)=Ck us:=by
 unfold Ct
 cases h2:Gp us h.user with
 | none=>rfl
 | some k=>
  obtain ⟨u,c,_⟩:=X9 h2;obtain ⟨A,B,a,b⟩:=Ya (fun u=>⟨u.name,Kg u.has h.has,u.left⟩) c;simp only;rw [a,b]
def Ajo (f:List Nat->List Nat) (a:∀ l,(f l).Perm l):∀ us:List bt,(Ck (us.map fun u=>⟨u.name,u.has,f u.left⟩)).Perm (Ck us)
 | []=>Td _
 | u :: us=>by
  have h1:Ck ((u :: us).map fun u=>(⟨u.name,u.has,f u.left⟩:bt))=f u.left++Ck (us.map fun u=>⟨u.name,u.has,f u.left⟩):=by simp [Ck]
  have b:Ck (u :: us)=u.left++Ck us:=by simp [Ck]
  rw [h1,b];exact (a u.left).append (Ajo f a us)
def Aww (a:List eh) (b:List df):(Ck (C1 a b)).Perm (List.range b.length):=by
 have c:∀ (a:List eh) (l:List bt),Ck (a.foldl Ct l)=Ck l:=fun a=>by
  induction a with
  | nil=>intro l;rfl
  | cons h r ih=>intro l;exact (ih _).trans (Awv l h)
 unfold C1;refine (Ajo (Gn b) (fun l=>List.mergeSort_perm l _) _).trans ?_;rw [c];exact Ajn b b.length
def Ajp (whole:V4) (c:List df) (us:List bt) (a:List ByteArray):∀ r,(Ck (Cr whole c us a r).1++(Cr whole c us a r).2).Perm (Ck us)
 | 0=>by
  show (Ck us++[]).Perm _;rw [Oz]
 | r+1=>by
  have d:=Ajp whole c us a r;unfold Cr;generalize Cr whole c us a r=t at d ⊢
  cases hp:Cu whole t.1 a a.length with
  | none=>exact d
  | some ks=>
   obtain ⟨k,s⟩:=ks;simp only
   cases hk:t.1[k]? with
   | none=>exact d
   | some u=>
    obtain ⟨j,b,i,_⟩:=Q3 hp;rw [hk] at b;injection b with b;subst b;obtain ⟨A,B,h1,h⟩:=Ya (Jv c) hk;simp only;refine List.Perm.trans ?_ d;rw [h1,h]
    cases hul:u.left with
    | nil=>exact absurd hul i
    | cons p l=>
     have e:(Jv c u).left=l:=(by unfold Jv;rw [hul]);rw [e];show ((A++(l++B))++(t.2++[p])).Perm ((A++(p :: l++B))++t.2);have f:(A++(p :: l++B))++t.2=A++(p :: (l++B++t.2)):=(by simp);have g:(A++(l++B))++(t.2++[p])=A++(l++B++t.2++[p]):=(by simp);rw [f,g];refine Yr A ?_;exact List.perm_append_singleton p _
def Ajq (c:List df):∀ j,((B8 c j).map bt.name).Nodup
 | 0=>List.nodup_nil
 | j+1=>by
  have f:=Ajq c j;show ((Aw (B8 c j) (A6 c j).user j).map bt.name).Nodup;unfold Aw
  cases h:Gp (B8 c j) (A6 c j).user with
  | none=>
   simp only [C9,Ka,Tf];refine Rd.2 ⟨f,by simp,fun a g b d e=>?_⟩;simp at d;obtain ⟨u,l,rfl⟩:=Ba.1 g;unfold Gp at h;have:=List.findIdx?_eq_none_iff.1 h u l;simp [sj] at this;exact this (e.trans d)
  | some k=>
   simp only
   have e:((B8 c j).modify k fun u=>(⟨u.name,u.has,u.left++[j]⟩:bt)).map bt.name=(B8 c j).map bt.name:=by
    apply Ea;intro i;simp only [Bh,Ev]
    cases (B8 c j)[i]? with
    | none=>rfl
    | some u=>
     simp only [J9]
     split<;>rfl
   rw [e];exact f
def Awx (us:List bt) (h:eh):(Ct us h).map bt.name=us.map bt.name:=by
 unfold Ct
 cases h2:Gp us h.user with
 | none=>rfl
 | some k=>
  simp only;apply Ea;intro i;simp only [Bh,Ev]
  cases us[i]? with
  | none=>rfl
  | some u=>
   simp only [J9]
   split<;>rfl
def Awy (a:List eh) (b:List df):((C1 a b).map bt.name).Nodup:=by
 have c:∀ (a:List eh) (l:List bt),(a.foldl Ct l).map bt.name=l.map bt.name:=fun a=>by
  induction a with
  | nil=>intro l;rfl
  | cons h r ih=>intro l;exact (ih _).trans (Awx l h)
 unfold C1;rw [Dn];show ((a.foldl Ct (B8 b b.length)).map bt.name).Nodup;rw [c];exact Ajq b b.length
def Ajr (whole:V4) (b:List eh) (a:List df):∀ r,r<=a.length->Uy whole a (Fu (C1 b a)) (C1 b a) (Cr whole a (C1 b a) (Fu (C1 b a)) r) r
 | 0,_=>Ajm whole b a _
 | r+1,hr=>by
  obtain ⟨_,_,_,_,_,_,_,_,_,_,h⟩:=Ajl (Awy b a) (fun u c=>Ajk _ c) (Ajr whole b a r (by omega)) (by omega);exact h
def Yb (whole:V4) (b:List eh) (a:List df):(Lb whole b a).Perm (List.range a.length):=by
 have h:=Ajr whole b a a.length Ln;have c:=(Ajp whole a (C1 b a) (Fu (C1 b a)) a.length).trans (Aww b a)
 have h0:Ck (Cr whole a (C1 b a) (Fu (C1 b a)) a.length).1=[]:=by
  apply Gd.1
  have e:∀ us:List bt,(Ck us).length=Ef us:=fun us=>by
   unfold Ck Ef;rw [List.length_flatten,Dn];rfl
  rw [e];have:=h.left;omega
 rw [h0,Rg] at c;exact c
def Awz (whole:V4) (a:List eh) (b:List df):(Lb whole a b).Nodup:=(Yb whole a b).nodup_iff.2 List.nodup_range
def Yc (whole:V4) (b:List eh) (a:List df) {i:Nat} (h:i∈Lb whole b a):i<a.length:=Vm.1 ((Yb whole b a).mem_iff.1 h)
def vl (l:List ByteArray):List VL:=l.map Value.string
structure ik (w:WD) (ao:Option Addr) (n c:Nat) (us:List bz) (nv:VL) (names:List ByteArray) (ov:VL) (out:List Nat) (wr:WD):Prop where
 up:gp C7 w ao n c us wr
 nm:wr.ownsRow w.heap.size 9 1 nv names.length (vl names)
 out:Al wr w.heap.size ov (Cx out)
 oa:∀ u,u∈us->∀ k,ov.ownBlock=some k->u.lv.ownBlock≠some k
variable {w wr w1 w':WD} {ao:Option Addr} {n c:Nat} {nv:VL} {us:List bz} {names:List ByteArray} {ov:VL} {out:List Nat}
def ik.drop (h:ik w ao n c us nv names ov out wr) (a:BW wr.heap.size wr w'):ik w ao n c us nv names ov out w':=
 ⟨h.up.drop Un a,A7 (S:=fun _=>False) h.nm (Mod.af a) (fun _ _ c=>c),h.out.mod (Mod.af (S:=fun _=>False) a) (fun _ _ c=>c),h.oa⟩
def ik.yq (h:ik w ao n c us nv names ov out wr) {u:bz} (g:u∈us):∀ k,(k=u.b\/u.lv.ownBlock=some k)->nv.ownBlock≠some k/\ov.ownBlock≠some k:=fun k d=>by
 refine ⟨fun e=>?_,fun e=>?_⟩
 .obtain ⟨i,f,_⟩:=Cq h.nm e;rcases d with d | d
  .have:=(h.up.us.box u g).1;rw [<- d,f] at this;injection this with this;injection this with _ this;exact absurd this (by decide)
  .obtain ⟨j,a⟩:=Un.ar (h.up.us.left u g) k d;rw [f] at a;injection a with a;injection a with _ a;exact absurd a (by decide)
 .rcases d with d | d
  .obtain ⟨i,f,_⟩:=Cq h.out.row e;have:=(h.up.us.box u g).1;rw [<- d,f] at this;injection this with this;injection this with _ this;exact absurd this (by decide)
  .exact h.oa u g k e d
def ik.va (h:ik w ao n c us nv names ov out wr) {i:Nat} {u u':bz} (p:us[i]?=some u) (m:Mod (fun b=>b=u.b) wr w') (q:u'.b=u.b) (r:u'.pl.name=u.pl.name) (d:w'.heap[u.b]?=some (.cells u'.cells 335 (0,0)))
  (g:C7 w' w.heap.size u'.lv (Cx u'.pl.left)) (f:u'.lv.ownBlock=u.lv.ownBlock):ik w ao n c (us.set i u') nv names ov out w':=by
 have l:=Ai p;have j:=h.yq l;refine ⟨h.up.set Un p (m.mono fun _ _ e=>.inl e) q r d g fun k a=>.inl (f▸a),A7 h.nm m (fun k a e=>?_),h.out.mod m (fun k a e=>(j k (.inl e)).2 a),fun y o k a e=>?_⟩
 .exact (j k (.inl e)).1 a
 .rcases U4 o with o | rfl
  .exact h.oa y o k a e
  .rw [f] at e;exact h.oa u l k a e
def ik.tp (h:ik w ao n c us nv names ov out wr) {k:Nat} {u:bz} (l:us[k]?=some u) {w1:WD} (p:BW wr.heap.size wr w1) (v:V4) :
  ik w ao n c (us.set k ⟨u.b,u.lv,⟨u.pl.name,v,u.pl.left⟩⟩) nv names ov out ((((w1.setCell ⟨u.b,0,none⟩ (.int .i64 v.a)).setCell ⟨u.b,1,none⟩ (.int .i64 v.b)).setCell ⟨u.b,2,none⟩ (.int .i64 v.c)).setCell ⟨u.b,3,none⟩ (.int .i64 v.d)):=by
 have h1:=h.drop p;have f:=Ai l;obtain ⟨j,_⟩:=h1.up.us.box u f;have m:∀ (W:WD) (o:Nat) (x:VL),Mod (fun b=>b=u.b) W (W.setCell ⟨u.b,o,none⟩ x):=fun W o x=>Mod.setCell W u.b o x rfl;have i:Mod (fun b=>b=u.b) w1 ((((w1.setCell ⟨u.b,0,none⟩ (.int .i64 v.a)).setCell ⟨u.b,1,none⟩ (.int .i64 v.b)).setCell ⟨u.b,2,none⟩ (.int .i64 v.c)).setCell ⟨u.b,3,none⟩ (.int .i64 v.d)):=(((m _ _ _).trans (m _ _ _)).trans (m _ _ _)).trans (m _ _ _)
 have q:u.lv.ownBlock≠some u.b:=fun e=>by
  obtain ⟨r,g⟩:=Un.ar (h1.up.us.left u f) _ e;rw [j] at g;injection g with g;injection g with _ g;exact absurd g (by decide)
 refine h1.va l i rfl rfl ?_ ((h1.up.us.left u f).mod i (fun k l e=>q (by rw [l,e]))) rfl;have:=Am (Am (Am (Am j 0 (.int .i64 v.a)) 1 (.int .i64 v.b)) 2 (.int .i64 v.c)) 3 (.int .i64 v.d);simpa using this
def ik.push (h:ik w ao n c us nv names ov out wr) (x:BW wr.heap.size wr w1) {m:VL} {g:List Nat} (y:w1.grownBy w' ov.ownBlock) (ho:Al w' w.heap.size m (Cx g)) (v:∀ k,m.ownBlock=some k->ov.ownBlock=some k\/k=w1.heap.size):ik w ao n c us nv names m g w':=by
 have h1:=h.drop x;have p:=Mod.grown y (fun k a=>a);obtain ⟨s,cl,z⟩:=h1.up.us.oq
 have t:∀ k,ov.ownBlock=some k->∃ c,w1.heap[k]?=some (.cells c 3 (0,0)):=fun k a=>by
  obtain ⟨i,d,_⟩:=Cq h1.out.row a;exact ⟨i,d⟩
 have j:∀ (k:Nat) (o:Obj),w1.heap[k]?=some o->(∀ c,o≠.cells c 3 (0,0))->w'.heap[k]?=some o:=fun k o a r=>p.ar a fun e=>by
  obtain ⟨i,d⟩:=t k e;rw [d] at a;injection a with a;exact r i a.symm
 refine ⟨⟨⟨h1.up.us.low.trans (p.below h1.up.us.low.size (fun k a=>(h1.out.lt k a).1)),?_,h1.up.us.mlt,fun u f=>⟨j _ _ (h1.up.us.box u f).1 (fun c e=>by injection e with _ e;exact absurd e (by decide)),(h1.up.us.box u f).2⟩,fun u f=>(h1.up.us.left u f).mod p (fun k a e=>h1.oa u f k e a),h1.up.us.names,h1.up.us.one⟩,j _ _ h1.up.pb (fun c e=>by injection e with _ e;exact absurd e (by decide))⟩,
  A7 h1.nm p (fun k a e=>?_),ho,fun u f k a e=>?_⟩
 .obtain ⟨s,l,q,rr⟩:=h1.up.us.map;exact ⟨s,l,j _ _ q (fun c e=>by cases e),rr⟩
 .obtain ⟨i,d⟩:=t k e;obtain ⟨c2,b,_⟩:=Cq h1.nm a;rw [d] at b;injection b with b;injection b with _ b;exact absurd b (by decide)
 .rcases v k a with i | i
  .exact h1.oa u f k i e
  .have:=((h1.up.us.left u f).lt k e).2;omega
def ik.off (h:ik w ao n c us nv names ov out wr) {lb:Nat} {cs:Array VL} (i:wr.heap[lb]?=some (.cells cs 333 (0,0))) (p:w.heap.size<=lb) (j:Mod (fun b=>b=lb) wr w'):ik w ao n c us nv names ov out w':=by
 obtain ⟨t,z,x⟩:=h.up.us.oq
 have f:∀ (k:Nat) (o:Obj),wr.heap[k]?=some o->(∀ c,o≠.cells c 333 (0,0))->w'.heap[k]?=some o:=fun k o a q=>j.ar a fun e=>by
  rw [e,i] at a;injection a with a;exact q cs a.symm
 have r:∀ {k:Nat} {c:Array VL} {T:TypeId},wr.heap[k]?=some (.cells c T (0,0))->T≠333->k≠lb:=fun a v e=>by
  rw [e,i] at a;injection a with a;injection a with _ a;exact v a.symm
 refine ⟨⟨⟨h.up.us.low.trans (j.below h.up.us.low.size (fun k a=>by rw [a];exact p)),?_,h.up.us.mlt,fun u l=>⟨f _ _ (h.up.us.box u l).1 (fun c e=>by injection e with _ e;exact absurd e (by decide)),(h.up.us.box u l).2⟩,fun u l=>(h.up.us.left u l).mod j (fun k a e=>?_),h.up.us.names,h.up.us.one⟩,f _ _ h.up.pb (fun c e=>by injection e with _ e;exact absurd e (by decide))⟩,
  A7 h.nm j (fun k a e=>?_),h.out.mod j (fun k a e=>?_),h.oa⟩
 .obtain ⟨t,g,m,y⟩:=h.up.us.map;exact ⟨t,g,f _ _ m (fun c e=>by cases e),y⟩
 .obtain ⟨s,d⟩:=(h.up.us.left u l).ar a;exact r d (by decide) e
 .obtain ⟨s,d,_⟩:=Cq h.nm a;exact r d (by decide) e
 .obtain ⟨s,d,_⟩:=Cq h.out.row a;exact r d (by decide) e
def gp.toQ (h:gp Al w ao n c us wr):gp C7 w ao n c us wr:=⟨⟨h.us.low,h.us.map,h.us.mlt,h.us.box,fun u a=>C7.of (h.us.left u a),h.us.names,h.us.one⟩,h.pb⟩
def Ajz (x:Lit×DU):∀ l:List (Lit×DU),(DataW.insert x l).Perm (x :: l)
 | []=>Td _
 | y :: r=>by
  unfold DataW.insert;split
  .exact Td _
  .exact ((Ajz x r).cons y).trans (List.Perm.swap x y r)
def Aw9 (l:List (ByteArray×Nat)) (h:(l.map Prod.fst).Nodup):∃ a,Gr l=.map a/\(a.map fun p=>p.1).Perm (l.map fun p=>By p.1):=by
 induction l using P8 with
 | h0=>exact ⟨[],rfl,Td _⟩
 | h1 l x ih=>
  rw [C9,Rd] at h;obtain ⟨a,e,g⟩:=ih h.1;refine ⟨DataW.insert (By x.1,Je x.2) a,?_,?_⟩
  .rw [Um,e];simp only [DataW.put];rw [List.filter_eq_self.2];intro p d;have i:=g.mem_iff.1 (Ku d);obtain ⟨q,j,f⟩:=Ba.1 i;rw [<- f]
   have b:¬ (By q.1).sameKey (By x.1)=true:=fun c=>by
    have:=(Abl _ _).1 c;exact h.2.2 q.1 (Ku j) x.1 (by simp) this
   simp [b]
  .refine ((Ajz _ a).map _).trans ?_;rw [C9];simp only [Ka,Tf];exact (g.cons _).trans (List.perm_append_singleton _ _).symm
def Aj0 (l:List (ByteArray×Nat)) (h:(l.map Prod.fst).Nodup):(strKeys (Gr l)).Perm (l.map fun p=>p.1.data.toList)/\Maps.size (Gr l)=l.length:=by
 obtain ⟨b,e,a⟩:=Aw9 l h;rw [e];refine ⟨?_,?_⟩
 .have:=a.map strOf;simp only [Dn] at this;exact this
 .have:=a.length_eq;simpa [Maps.size_eq] using this
end
section
open Go.RowKit Go.Maps Go.Lib
variable {w wr w1 w':WD} {ao:Option Addr} {n c:Nat} {nv ov:VL} {us:List bz} {names:List ByteArray} {out:List Nat}
def Axa {ss:List (List UInt8)} {us:List bz} (h:(us.map fun u=>u.pl.name).Nodup) (c:ss.Perm (strKeys (Gr (us.map bz.key)))):(ss.mergeSort fun x y=>decide (x<=y)).map encStr=vl (Fu (us.map bz.pl))/\(Fu (us.map bz.pl)).length=ss.length:=by
 have b:=(Aj0 (us.map bz.key) (by simpa [bz.key,Ik] using h)).1;have a:ss.Perm (us.map fun u=>u.pl.name.data.toList):=by refine c.trans ?_;simpa [bz.key,Ik] using b
 have e:ss.mergeSort (fun x y=>decide (x<=y))=(us.map fun u=>u.pl.name.data.toList).mergeSort fun x y=>decide (x<=y):=mergeSort_of_perm a;refine ⟨?_,?_⟩
 .rw [e];simp [vl,Fu,Ik]
 .simp [Fu,U9,a.length_eq]
def Aj1 (a:List eh) (b:List df):(C1 a b).length<=b.length:=by
 have c:∀ (a:List eh) (l:List bt),(a.foldl Ct l).length=l.length:=fun a=>by
  induction a with
  | nil=>intro l;rfl
  | cons h r ih=>
   intro l;refine (ih _).trans ?_;unfold Ct
   split<;>simp
 unfold C1;rw [At,c];exact (Uq b b.length).1
def Aj2 (b:List df):∀ j,j<=b.length->∀ u,u∈B8 b j->∃ x,x∈b/\u.name=x.user
 | 0,_,u,a=>by cases a
 | j+1,hj,u,a=>by
  have e:b[j]?=some b[j]:=A4 (by omega);have c:A6 b j=b[j]:=by unfold A6;rw [Gu e]
  have a:u∈Aw (B8 b j) (A6 b j).user j:=a;have d:=Aj2 b j (by omega);unfold Aw at a;split at a
  .rcases Dh.1 a with a | a
   .exact d u a
   .simp at a;subst a;exact ⟨b[j],Lw _,by rw [c]⟩
  .rcases Oj a with a | ⟨y,f,rfl⟩
   .exact d u a
   .exact d y f
def Axb (d:List eh) (b:List df):∀ u,u∈C1 d b->∃ x,x∈b/\u.name=x.user:=fun u a=>by
 unfold C1 at a;obtain ⟨y,g,rfl⟩:=Ba.1 a
 have e:∀ (l:List bt) (h:eh),(∀ u,u∈l->∃ x,x∈b/\u.name=x.user)->∀ u,u∈Ct l h->∃ x,x∈b/\u.name=x.user:=fun l h c u a=>by
  unfold Ct at a;split at a
  .exact c u a
  .rcases Oj a with a | ⟨z,i,rfl⟩
   .exact c u a
   .exact c z i
 have f:∀ (d:List eh) (l:List bt),(∀ u,u∈l->∃ x,x∈b/\u.name=x.user)->∀ u,u∈d.foldl Ct l->∃ x,x∈b/\u.name=x.user:=fun d=>by
  induction d with
  | nil=>intro l c;exact c
  | cons h r ih=>intro l c;exact ih _ (e l h c)
 exact f d _ (Aj2 b b.length Ln) y g
def xp (us:List bz) (pk:Option (Nat×el)) (nx:VL):Prop:=(pk=none/\nx=.pointer none)\/∃ p u,pk=some p/\us[p.1]?=some u/\nx=Lk u.b
structure lj (w:WD) (ao:Option Addr) (n c:Nat) (us:List bz) (nv:VL) (names:List ByteArray) (ov:VL) (out:List Nat) (lb:Nat) (pk:Option (Nat×el)) (nx:VL) (wr:WD):Prop where
 tu:ik w ao n c us nv names ov out wr
 gi:wr.heap[lb]?=some (.cells #[.int .i64 ((pk.map Prod.snd).getD (0,0)).1,.int .i64 ((pk.map Prod.snd).getD (0,0)).2] 333 (0,0))
 lw:w.heap.size<=lb
 nx:xp us pk nx
def lj.drop {lb:Nat} {d:Option (Nat×el)} {b:VL} (h:lj w ao n c us nv names ov out lb d b wr) (a:BW wr.heap.size wr w'):lj w ao n c us nv names ov out lb d b w':=⟨h.tu.drop a,Ae a h.gi (Ab h.gi),h.lw,h.nx⟩
def lj.put {lb:Nat} {k a:Option (Nat×el)} {j d:VL} {e f:Int} (h:lj w ao n c us nv names ov out lb k j wr) (g:(a.map Prod.snd).getD (0,0)=(e,f)) (i:xp us a d):lj w ao n c us nv names ov out lb a d ((wr.setCell ⟨lb,0,none⟩ (.int .i64 e)).setCell ⟨lb,1,none⟩ (.int .i64 f)):=by
 refine ⟨h.tu.off h.gi h.lw ((Mod.setCell (S:=fun b=>b=lb) wr lb 0 _ rfl).trans (Mod.setCell (S:=fun b=>b=lb) _ lb 1 _ rfl)),?_,h.lw,i⟩;have:=Am (Am h.gi 0 (.int .i64 e)) 1 (.int .i64 f);rw [g];simpa using this
structure vp (w:WD) (ao:Option Addr) (n c:Nat) (us:List bz) (nv:VL) (names:List ByteArray) (ov:VL) (out:List Nat) (lb:Nat) (pk:Option (Nat×el)) (nx:VL) (d1 d2:Int) (sv:VL) (wr:WD):Prop where
 pk:lj w ao n c us nv names ov out lb pk nx wr
 box:∃ g,sv=.pointer (some ⟨g,0,none⟩)/\wr.heap[g]?=some (.cells #[.int .i64 d1,.int .i64 d2] 333 (0,0))/\lb<g
def lj.s1 {lb:Nat} {e:Option (Nat×el)} {d:VL} {a b:Int} (h:lj w ao n c us nv names ov out lb e d wr) (f:BW wr.drew.heap.size wr.drew w1):vp w ao n c us nv names ov out lb e d a b (.pointer (some ⟨w1.heap.size,0,none⟩)) (w1.alloc (.cells #[.int .i64 a,.int .i64 b] 333)):=by
 have h1:=h.drop (Abm f);have g:=Ab h1.gi;exact ⟨h1.drop Bn,_,rfl,Ah _ _,g⟩
def lj.s2 {lb:Nat} {j:Option (Nat×el)} {i:VL} {b d:Int} (h:lj w ao n c us nv names ov out lb j i wr) (g:BW (wr.alloc (.cells #[.int .i64 0,.int .i64 0] 333)).drew.heap.size (wr.alloc (.cells #[.int .i64 0,.int .i64 0] 333)).drew w1) :
  vp w ao n c us nv names ov out lb j i b d (.pointer (some ⟨wr.heap.size,0,none⟩)) ((w1.setCell ⟨wr.heap.size,0,none⟩ (.int .i64 b)).setCell ⟨wr.heap.size,1,none⟩ (.int .i64 d)):=by
 have e:BW wr.heap.size wr (wr.alloc (.cells #[.int .i64 0,.int .i64 0] 333)).drew:=Bn.drew;have f:=e.trans (g.mono (by simp));have l:=Ae g (Ah _ _) (by simp);have k:=Ab h.gi;have a:BW wr.heap.size wr ((w1.setCell ⟨wr.heap.size,0,none⟩ (.int .i64 b)).setCell ⟨wr.heap.size,1,none⟩ (.int .i64 d)):=B9 (B9 f Ln) Ln;refine ⟨h.drop a,_,rfl,?_,k⟩;have:=Am (Am l 0 (.int .i64 b)) 1 (.int .i64 d);simpa using this
def Axc (whole:V4) (bM:Ol whole) (ho:Option Addr) (m hc:Nat) (hs:List eh) (ws:List df) (hh:Pq w ho m hs) (hw:Ko w ao n ws) (hn:n<=20) (b2:∀ x,x∈ws->x.user.size<=maxLen) (cj:∀ x,x∈hs->x.user.size<=maxLen) (h1:Uj ws) :
  Calls Tryz.prog 190 #[whole.val,.slice ho m hc,.slice ao n c] w fun e w'=>∃ v,e=.returned v/\Al w' w.heap.size v (Cx (Lb whole hs ws))/\BW w.heap.size w w':=by
 obtain ⟨W0,bn⟩:=Ex (w.alloc (.cells whole.cells 30));have aK:BW w.heap.size w W0:=by rw [bn];exact Bn
 have co:W0.heap.size=w.heap.size+1:=by rw [bn];simp
 have cr:W0.heap[w.heap.size]?=some (.cells whole.cells 30 (0,0)):=by rw [bn];exact Ah _ _
 have ku:=Auo (c:=c) ho m hc hs ws (hh.low aK) (hw.low aK) hn b2 cj h1;have aZ:=hw.len;replace ⟨hh,hw,b2,cj,h1,aZ,aK,cr⟩:=H8 hh hw b2 cj h1 aZ aK cr;replace ⟨ku,bM,co⟩:=H3 ku bM co;go_enter Tryz.func190,Tryz.ntmps190;go_upto_region 1 with fail;rw [<- bn];clear bn;go_upto_region 2 with (go_at_call 248;(with_reducible refine ku.out.mono ?_);rintro e w1 ⟨us,rfl,hU,am⟩;replace ⟨hU,am⟩:=H2 hU am);have aT:=(Aj0 (us.map bz.key) (by have:=hU.us.names;simpa [bz.key,Ik] using this)).2;have a5:us.length<=20:=by have h9:=Ca List.length am.out;have:=Aj1 hs ws;have:=aZ.out;rw [At] at h9;omega
 have b4:=Aw8 (W0.heap.size+1) us.length (Gr (us.map bz.key)) Jf w1 hU.us.map (by rw [aT];unfold maxLen;simp;omega) (by rw [aT];simp;omega);replace ⟨b4,aT,a5⟩:=H3 b4 aT a5;go_upto_region 4 with (go_at_call 249;(with_reducible refine b4.out.mono ?_);rintro e w2 ⟨nv,ss,rfl,aM,ai,bD,bV⟩;replace ⟨aM,ai,bD,bV⟩:=H4 aM ai bD bV);obtain ⟨P0,aJ⟩:=Ex (C1 hs ws);have aA:=Axa hU.us.names aM.out;rw [am.out,<- aJ] at aA;obtain ⟨names,h⟩:=Ex (Fu P0);rw [<- h] at aA;have bE:(P0.map bt.name).Nodup:=by have:=hU.us.names;rw [aJ,<- am.out];simpa [Ik] using this
 have bo:∀ u,u∈P0->u.name∈names:=fun u hu=>by rw [h];exact Ajk P0 hu
 have b9:ik W0 ao n c us nv names (.slice none 0 0) [] w2:=by refine ⟨hU.toQ.drop Un bV.out,?_,Al.nil _ _,fun u _ k hk=>by simp [Value.ownBlock] at hk⟩;have h9:=ai.out;rw [aA.1,<- aA.2] at h9;exact Joins.ownsRow_le h9 hU.us.low.size
 have bR:=Ajm whole hs ws names;rw [<- aJ] at bR;have bA:Lb whole hs ws=(Cr whole ws P0 names ws.length).2:=by unfold Lb;rw [<- aJ,<- h]
 have cW:names.length<=20:=by
  rw [aA.2,<- aA.2,h]
  have:(Fu P0).length=P0.length:=by simp [Fu,U9]
  rw [this,aJ];have:=Aj1 hs ws;have:=aZ.out;omega
 have bI:us.map bz.pl=(Cr whole ws P0 names 0).1:=by rw [am.out,aJ];rfl
 obtain ⟨N,hN⟩:=Ex (names.length);rw [<- hN] at cW;replace ⟨aA,h,bE,bo,b9,bR,bA,bI⟩:=H8 aA h bE bo b9 bR bA bI;replace ⟨hN,aJ⟩:=H2 hN aJ;go_wp2_with fail;clear hU am ai bD aM bV b4 aT a5 ku;go_loopw [9,10,11,13,14,15,16,17,25,29] (fun ov _ _ _ _ _ _ _ rv _ wr=>∃ (r:Nat) (us:List bz),rv=.int .i64 r/\r<=n/\Hid (ik W0 ao n c us nv names ov (Cr whole ws P0 names r).2 wr)/\Hid (us.map bz.pl=(Cr whole ws P0 names r).1)/\Hid (Uy whole ws names P0 (Cr whole ws P0 names r) r)) (fun _ _ _ _ _ _ _ _ rv _ _=>n-(intOf rv).toNat)
 case atStart=>exact ⟨0,us,rfl,Aq _,b9,bI,bR⟩
 case round=>
  obtain ⟨r,us,rfl,dI,hT,am,hI⟩:=hrel;by_cases dJ:r<n
  .have cK:(r:Int)<n:=(by omega);obtain ⟨k,s,u,p,l,bZ,bY,a5,b0,bF,b8⟩:=Ajl bE.out bo.out hI.out (by have:=aZ.out;omega);obtain ⟨t,ht⟩:=Ex (Cr whole ws P0 names r);rw [<- ht] at hT am hI bZ bY bF;obtain ⟨lb,bC⟩:=Ex (wr.heap.size);obtain ⟨W1,bT⟩:=Ex (wr.alloc (.cells #[.int .i64 0,.int .i64 0] 333));have a:BW wr.heap.size wr W1:=by rw [bT];exact Bn
   have cA:Hid (lj W0 ao n c us nv names u9 t.2 lb (Cu whole t.1 names 0) (.pointer none) W1):=
    ⟨hT.drop a,by rw [bC,bT];exact Ah _ _,by rw [bC];exact hT.up.us.low.size,.inl ⟨rfl,rfl⟩⟩
   have aD:=hN.symm
   have bL:∀ (j:Nat) (x:ByteArray),names[j]?=some x->x.size<=maxLen:=fun j x hx=>by
    have bN:x∈Fu P0:=(by rw [<- h.out];exact Ai hx);unfold Fu at bN;obtain ⟨b,hb,rfl⟩:=Ba.1 bN;rw [S9] at hb;obtain ⟨q,hq,rfl⟩:=Ba.1 hb;rw [aJ.out] at hq;obtain ⟨z,hz,e⟩:=Axb hs ws q hq;have:=b2 z hz;rw [<- e] at this;exact this
   have aX:∀ (j:Nat) (x:ByteArray),names[j]?=some x->∃ k u,us[k]?=some u/\u.pl.name=x/\us.find? (fun u=>decide (u.pl.name=x))=some u/\Gp t.1 x=some k:=fun j x hx=>by
    have bN:x∈Fu P0:=(by rw [<- h.out];exact Ai hx);have cN:x∈P0.map bt.name:=(by unfold Fu at bN;obtain ⟨b,hb,rfl⟩:=Ba.1 bN;rw [S9] at hb;obtain ⟨q,hq,rfl⟩:=Ba.1 hb;exact Ba.2 ⟨q,hq,rfl⟩);rw [<- hI.nm,<- am.out,Dn] at cN;obtain ⟨q,hq,cZ⟩:=Ba.1 cN;rcases Su (fun u:bz=>decide (u.pl.name=x)) us with ⟨_,h2⟩ | ⟨k,u,h1,h2,h3⟩
    .have:=Rb.1 h2 q hq;simp at this;exact absurd cZ this
    .have cV:u.pl.name=x:=(by have:=Tb h3;simpa using this);exact ⟨k,u,h2,cV,h3,by rw [<- am.out,Up];exact h1⟩
   replace ⟨bZ,bY,a5,b0,bF,b8,ht,bC⟩:=H8 bZ bY a5 b0 bF b8 ht bC;replace ⟨a,aX,bL,hT⟩:=H4 a aX bL hT;go_upto_region 8 with fail;rw [<- bT,<- bC.out];clear bT
   obtain ⟨bP,aG,e0⟩:∃ so c,nv=.slice so N c:=by
    rcases cA.tu.nm.2 with ⟨e,h0⟩ | ⟨g,cap,dB,e,_⟩
    .exact ⟨none,0,by rw [e,<- aD,h0]⟩
    .exact ⟨_,_,by rw [e,aD]⟩
   subst e0;replace aD:=Hh aD;go_wp2_with fail;go_loopw [10,13,14,15,16,29] (fun nx _ _ _ _ jv wr=>∃ (j:Nat),jv=.int .i64 j/\j<=N/\Hid (lj W0 ao n c us (.slice bP N aG) names u9 t.2 lb (Cu whole t.1 names j) nx wr)) (fun _ _ _ _ _ jv _=>N-(intOf jv).toNat)
   case atStart=>exact ⟨0,rfl,Aq _,cA⟩
   case round=>
    obtain ⟨j,rfl,dG,hK⟩:=hrel;by_cases dH:j<N
    .have cH:(j:Int)<N:=(by omega);have dF:(0:Int)<=(j:Int):=(by omega);have ai:=hK.tu.nm;obtain ⟨ng,dA,e⟩:=Joins.ownsRow_form ai (by have:=aD.out;omega);injection e with e1 e2 e3;subst e1;clear e2 e3;obtain ⟨x,hx⟩:=Ge names j (by have:=aD.out;omega);have cx:wr.cell? ⟨ng,j,none⟩=some (.string x):=(by have:=ai.cells (g:=ng) rfl j (.string x) (by simp [vl,hx]);rw [Vt,Da] at this;exact this);obtain ⟨kk,⟨ub,cs,⟨aW,⟨ua,ac,uc,ud⟩,aO⟩⟩,hk,aL,bx,aQ⟩:=aX j x hx;have cI:=Abh hK.tu.up.us x (bL j x hx);rw [bx] at cI;have ap:=Ai hk;obtain ⟨ad,aU⟩:=hK.tu.up.us.box _ ap;obtain ⟨so,cc,e,bS,_⟩:=(hK.tu.up.us.left _ ap).form;have e':cs=.slice so (Cx aO).length cc:=e;obtain ⟨L,hL⟩:=Ex ((Cx aO).length);rw [<- hL] at e';subst e';have ba:L=aO.length:=(by rw [hL,Pj]);have x4:=Bk ad 4 (.slice so L cc) rfl;have bg:t.1[kk]?=some ⟨aW,⟨ua,ac,uc,ud⟩,aO⟩:=by rw [<- am.out];simp [hk]
     have f:Cu whole t.1 names (j+1)=if aO=[] then Cu whole t.1 names j else match Cu whole t.1 names j with
       | none=>some (kk,O9 ⟨ua,ac,uc,ud⟩ whole)
       | some (i,s)=>if F6 (O9 ⟨ua,ac,uc,ud⟩ whole) s<0 then some (kk,O9 ⟨ua,ac,uc,ud⟩ whole) else some (i,s):=by
      show (match (names[j]?).bind (Gp t.1) with | none=>_ | some k=>_)=_;rw [hx];simp only [Option.bind_some];rw [aQ];simp only;rw [bg];simp only;split
      .rfl
      .cases Cu whole t.1 names j with
       | none=>rfl
       | some p=>rfl
     by_cases aR:aO=[]
     .have cB:L=0:=(by rw [ba,aR];rfl);subst cB;have cR:Hid (lj W0 ao n c us (.slice (some ⟨ng,0,none⟩) N aG) names u9 t.2 lb (Cu whole t.1 names (j+1)) u10 wr):=(by rw [f,Ad aR];exact hK);replace ⟨ai,hx,hk,aL,bx,aQ,ap,ad⟩:=H8 ai hx hk aL bx aQ ap ad;replace ⟨aU,e,bS,hL,ba,bg,f,aR⟩:=H8 aU e bS hL ba bg f aR;go_wp2_with fail;go_roundw
      case rel=>exact ⟨j+1,by go_num,by omega,cR⟩
      case measure=>simp [intOf];omega
     .have cB:¬ L=0:=by rw [ba];exact fun e=>aR (Gd.1 e)
      have dC:((L:Int) == 0)=false:=(by simp;omega);rw [Ac aR] at f;replace ⟨ai,hx,hk,aL,bx,aQ,ap,e⟩:=H8 ai hx hk aL bx aQ ap e;replace ⟨bS,hL,ba,bg,aR⟩:=H5 bS hL ba bg aR;obtain ⟨⟨d1,d2⟩,hd⟩:∃ d,d=O9 ⟨ua,ac,uc,ud⟩ whole:=⟨_,rfl⟩;obtain ⟨cQ,bv⟩:=Ex ((Fd ⟨ua,ac,uc,ud⟩ whole 4).2);have a7:=(hI.ok _ (Ai bg.out)).1;have bw:=X8 a7 bM.out 4 Ln;have kd:=fun W=>Awk ⟨ua,ac,uc,ud⟩ whole W a7 bM.out;have ch:(Fd ⟨ua,ac,uc,ud⟩ whole 4).1=(d1,d2):=hd.symm;rw [ch] at kd bw;rw [<- bv] at kd;rw [<- hd] at f;obtain ⟨⟨wa,wb,ct,wd⟩,b3⟩:∃ v,v=whole:=⟨_,rfl⟩;have a6:wr.heap[w.heap.size]?=some (.cells (⟨wa,wb,ct,wd⟩:V4).cells 30 (0,0)):=(by rw [b3];exact Ae hK.tu.up.us.low cr.out (by have:=co.out;omega));rw [<- b3] at kd;replace kd:∀ W,Calls Tryz.prog 250 #[.agg #[.int .i64 ua,.int .i64 ac,.int .i64 uc,.int .i64 ud],.agg #[.int .i64 wa,.int .i64 wb,.int .i64 ct,.int .i64 wd]] W fun e w'=>e=.returned (.tuple #[.agg #[.int .i64 d1,.int .i64 d2],.int .i64 cQ])/\BW W.heap.size W w':=kd;have b6:=Ab ad;have cM:=Ab a6;replace ⟨ad,hd,bv,a7,bw,ch,b3,a6⟩:=H8 ad hd bv a7 bw ch b3 a6;replace ⟨kd,f⟩:=H2 kd f;go_upto_region 13 with fail;clear cx x4 cI;have c7:=Bk ad.out 0 (.int .i64 ua) rfl;have c8:=Bk ad.out 1 (.int .i64 ac) rfl;have da:=Bk ad.out 2 (.int .i64 uc) rfl;have db:=Bk ad.out 3 (.int .i64 ud) rfl;have dd:=Bk a6.out 0 (.int .i64 wa) rfl;have dg:=Bk a6.out 1 (.int .i64 wb) rfl;have dk:=Bk a6.out 2 (.int .i64 ct) rfl;have dl:=Bk a6.out 3 (.int .i64 wd) rfl;go_cut [15,16] (fun sv av wx=>vp W0 ao n c us (.slice (some ⟨ng,0,none⟩) N aG) names u9 t.2 lb (Cu whole t.1 names j) u10 d1 d2 sv wx)
      case first=>
       go_region_law (first
        | (go_simp;go_at_call 250;refine (kd _).mono ?_;rintro e w1 ⟨rfl,a⟩;have s2:=a.size;obtain ⟨cD,cT⟩:=Sc a
           (try simp at s2)
           (try simp at cD)
           (try simp at cT)
           (try have dK:wr.heap.size<w1.heap.size:=by omega)
           replace a:=Hh a))
       all_goals
        go_wp2_with fail;go_meet
        first
         | exact hK.s1 a.out
         | exact hK.s2 a.out
      case rest=>
       obtain ⟨y,g,rfl,hg,bd⟩:=hcut;clear c7 c8 da db dd dg dk dl b6 cM;have c0:=Bk hg 0 (.int .i64 d1) rfl;have c1:=Bk hg 1 (.int .i64 d2) rfl;obtain ⟨pk,aB⟩:=Ex (Cu whole t.1 names j);rw [<- aB] at y f;have fe:=Af y.gi;rcases y.nx with ⟨rfl,aS⟩ | ⟨⟨pi,⟨p1,p2⟩⟩,u2,rfl,aN,aS⟩
       .have e0:=Bk y.gi 0 (.int .i64 0) rfl;have e1:=Bk y.gi 1 (.int .i64 0) rfl;have al:Cu whole t.1 names (j+1)=some (kk,(d1,d2)):=f.out
        have an:∀ q,lj W0 ao n c us (.slice (some ⟨ng,0,none⟩) N aG) names u9 t.2 lb (Cu whole t.1 names (j+1)) (Lk ub) (((wc.drewN q).setCell ⟨lb,0,none⟩ (.int .i64 d1)).setCell ⟨lb,1,none⟩ (.int .i64 d2)):=fun q=>by
         rw [al];exact (y.drop (A9 _ wc q)).put rfl (.inr ⟨_,_,rfl,hk.out,rfl⟩)
        subst aS;replace ⟨y,hg,bd,aB,f,al,an⟩:=H7 y hg bd aB f al an;go_upto_region 15 with fail;go_region_with (fail)
        all_goals
         go_wp2_with fail;go_roundw
         case rel=>exact ⟨j+1,by go_num,by omega,Hh (by first | exact an.out 1 | exact an.out 0)⟩
         case measure=>simp [intOf];omega
       .have e0:=Bk y.gi 0 (.int .i64 p1) rfl;have e1:=Bk y.gi 1 (.int .i64 p2) rfl;have aH:p1<=9223372036854775807/\p2<=9223372036854775807:=(by obtain ⟨u3,c3,_,c2⟩:=Q3 aB.symm;have:=X8 (hI.ok u3 (Ai c3)).1 bM.out 4 Ln;have e9:(Fd u3.has whole 4).1=(p1,p2):=c2.symm;rw [e9] at this;exact this);have kc:∀ W,Calls Tryz.prog 251 #[.agg #[.int .i64 d1,.int .i64 d2],.agg #[.int .i64 p1,.int .i64 p2]] W fun e w'=>e=.returned (.int .i64 (F6 (d1,d2) (p1,p2)))/\BW W.heap.size W w':=fun W=>Aif (d1,d2) (p1,p2) W bw.1 bw.2 aH.1 aH.2;obtain ⟨cv,bc⟩:=Ex (F6 (d1,d2) (p1,p2));rw [<- bc] at kc;have al:Cu whole t.1 names (j+1)=if cv<0 then some (kk,(d1,d2)) else some (pi,(p1,p2)):=(by rw [f.out,bc]);subst aS;by_cases cF:cv<0
        .have aE:Cu whole t.1 names (j+1)=some (kk,(d1,d2)):=by rw [al,Ad cF]
         have an:∀ W q,BW wc.heap.size wc W->lj W0 ao n c us (.slice (some ⟨ng,0,none⟩) N aG) names u9 t.2 lb (Cu whole t.1 names (j+1)) (Lk ub) (((W.drewN q).setCell ⟨lb,0,none⟩ (.int .i64 d1)).setCell ⟨lb,1,none⟩ (.int .i64 d2)):=fun W q hW=>by
          rw [aE];exact ((y.drop hW).drop (A9 _ W q)).put rfl (.inr ⟨_,_,rfl,hk.out,rfl⟩)
         replace ⟨y,hg,bd,aB,f,al,aE,an⟩:=H8 y hg bd aB f al aE an;replace ⟨kc,bc,aH,aN⟩:=H4 kc bc aH aN;go_upto_region 15 with (go_at_call 251;(with_reducible refine (kc.out _).mono ?_);rintro e w1 ⟨rfl,a⟩;have c0:=(Ag a (Ab hg.out)).trans c0;have c1:=(Ag a (Ab hg.out)).trans c1;have e0:=(Ag a (Ab y.gi)).trans e0;have e1:=(Ag a (Ab y.gi)).trans e1;have fe:=Af (Ae a y.gi (Ab y.gi));replace a:=Hh a);go_region_with (fail)
         all_goals
          go_wp2_with fail;go_roundw
          case rel=>exact ⟨j+1,by go_num,by omega,Hh (by first | exact an.out w1 1 a.out | exact an.out w1 0 a.out)⟩
          case measure=>simp [intOf];omega
        .have aE:Cu whole t.1 names (j+1)=some (pi,(p1,p2)):=by rw [al,Ac cF]
         have an:∀ W,BW wc.heap.size wc W->lj W0 ao n c us (.slice (some ⟨ng,0,none⟩) N aG) names u9 t.2 lb (Cu whole t.1 names (j+1)) (Lk u2.b) W:=fun W hW=>by
          rw [aE];exact y.drop hW
         replace ⟨y,hg,bd,aB,f,al,aE,an⟩:=H8 y hg bd aB f al aE an;replace ⟨kc,bc,aH,aN⟩:=H4 kc bc aH aN;go_wp2_with (go_at_call 251;(with_reducible refine (kc.out _).mono ?_);rintro e w1 ⟨rfl,a⟩;replace a:=Hh a);go_roundw
         case rel=>exact ⟨j+1,by go_num,by omega,Hh (an w1 a.out)⟩
         case measure=>simp [intOf];omega
    .have cH:¬ (j:Int)<N:=(by omega);have ck:j=N:=(by omega);have bH:Cu whole t.1 names j=some (k,s):=(by rw [ck,<- aD.out];exact bZ.out);have bi:=hK.out;rw [bH] at bi;have aP:=bi.tu;rcases bi.nx with ⟨e,_⟩ | ⟨pr,u2,e,bf,aS⟩
     .cases e
     .injection e with e;subst e;obtain ⟨ub,cs,⟨aW,⟨ua,ac,uc,ud⟩,aO⟩⟩:=u2;have aN:u=⟨aW,⟨ua,ac,uc,ud⟩,aO⟩:=(by have h9:=bY.out;rw [<- am.out] at h9;simp only [Bh,bf,J9,Vd] at h9;exact h9.symm);have cL:aO=p :: l:=(by have h9:=a5.out;rw [aN] at h9;exact h9);subst cL;have ap:=Ai bf;obtain ⟨ad,aU⟩:=aP.up.us.box _ ap;obtain ⟨g,aV,cap,e,cy,cl,cE,cG,cf⟩:=(aP.up.us.left _ ap).pos (by simp [Cx]);have e':cs=.slice (some ⟨g,aV,none⟩) (Cx (p :: l)).length cap:=e;obtain ⟨M,hM⟩:=Ex ((Cx (p :: l)).length);rw [<- hM] at e' cl;subst e';have cC:M=l.length+1:=(by rw [hM,Pj];rfl);have dD:0<M:=(by omega);have dE:(1:Int)<=M:=(by omega);have cD:1<=cap:=(by omega);have c0:wr.cell? ⟨g,aV,none⟩=some (.int .i64 (p:Int)):=cf 0 _ rfl;have x4:=Bk ad 4 (.slice (some ⟨g,aV,none⟩) M cap) rfl;have fu:=Af ad;obtain ⟨aI,bB⟩:=Ex (Value.slice (if cap=1 then some ⟨g,aV,none⟩ else some ⟨g,aV+1,none⟩) (M-1) (cap-1));obtain ⟨W3,bU⟩:=Ex (wr.setCell ⟨ub,4,none⟩ aI)
      have b5:g≠ub:=fun e9=>by
       obtain ⟨c9,bb⟩:=(aP.up.us.left _ ap).ar (k:=g) rfl;rw [e9,ad] at bb;injection bb with bb;injection bb with _ bb;exact absurd bb (by decide)
      have bW:aI=.slice (some ⟨g,if cap=1 then aV else aV+1,none⟩) (Cx l).length (cap-1):=by
       rw [bB,Pj,show M-1=l.length by omega]
       split<;>rfl
      have bk:ik W0 ao n c (us.set k ⟨ub,aI,⟨aW,⟨ua,ac,uc,ud⟩,l⟩⟩) (.slice bP N aG) names u9 t.2 W3:=by
       have cJ:Mod (fun b=>b=ub) wr W3:=(by rw [bU];exact Mod.setCell wr ub 4 _ rfl);refine aP.va bf cJ rfl rfl ?_ ?_ (by rw [bW];rfl)
       .rw [bU];have:=Am ad 4 aI;simpa using this
       .have hq:=aP.up.us.left _ ap;have cX:C7 wr W0.heap.size (.slice (some ⟨g,aV,none⟩) M cap) ((p:Int) :: Cx l):=hq;have cY:=cX.tail;show C7 W3 W0.heap.size aI (Cx l);rw [bW];exact cY.mod cJ (fun k9 cU e9=>by simp [Value.ownBlock] at cU;omega)
      have bX:(us.set k (⟨ub,aI,⟨aW,⟨ua,ac,uc,ud⟩,l⟩⟩:bz))[k]?=some ⟨ub,aI,⟨aW,⟨ua,ac,uc,ud⟩,l⟩⟩:=(by rw [Do];simp [(Ao.1 bf).1]);obtain ⟨⟨c5,dc,c6,⟨na,nb,nc,nd⟩⟩,hx⟩:=Ge ws p b0.out;have ds:p<n:=(by have:=b0.out;have:=aZ.out;omega);have dv:(p:Int)<n:=(by omega);have dw:(0:Int)<=(p:Int):=(by omega);obtain ⟨jb,aF,rfl,dr,be⟩:=(hw.low (aK.trans (bk.up.us.low.mono aK.size))).cell p _ hx;have z3:W3.cell? ⟨jb,aF+p*7+3,none⟩=some (.int .i64 na):=be 3 (by omega);have z4:W3.cell? ⟨jb,aF+p*7+4,none⟩=some (.int .i64 nb):=be 4 (by omega);have z5:W3.cell? ⟨jb,aF+p*7+5,none⟩=some (.int .i64 nc):=be 5 (by omega);have z6:W3.cell? ⟨jb,aF+p*7+6,none⟩=some (.int .i64 nd):=be 6 (by omega);have aC:=(bk.up.us.box _ (Ai bX)).1;have x0:=Bk aC 0 (.int .i64 ua) rfl;have x1:=Bk aC 1 (.int .i64 ac) rfl;have x2:=Bk aC 2 (.int .i64 uc) rfl;have x3:=Bk aC 3 (.int .i64 ud) rfl;have b7:=Af aC;have b6:=Ab aC;obtain ⟨⟨pa,bO,pc,pd⟩,b1⟩:∃ q,q=Kg ⟨ua,ac,uc,ud⟩ ⟨na,nb,nc,nd⟩:=⟨_,rfl⟩
      have kp:∀ W,Calls Tryz.prog 252 #[.agg #[.int .i64 ua,.int .i64 ac,.int .i64 uc,.int .i64 ud],.agg #[.int .i64 na,.int .i64 nb,.int .i64 nc,.int .i64 nd]] W fun e w'=>e=.returned (.agg #[.int .i64 pa,.int .i64 bO,.int .i64 pc,.int .i64 pd])/\BW W.heap.size W w':=fun W=>by
       have:=Aig ⟨ua,ac,uc,ud⟩ ⟨na,nb,nc,nd⟩ W;rw [<- b1] at this;exact this
      obtain ⟨bQ,a9⟩:=Ex ((us.set k (⟨ub,aI,⟨aW,⟨ua,ac,uc,ud⟩,l⟩⟩:bz)).set k ⟨ub,aI,⟨aW,⟨pa,bO,pc,pd⟩,l⟩⟩)
      have ca:∀ w1,BW W3.heap.size W3 w1->ik W0 (some ⟨jb,aF,none⟩) n c bQ (.slice bP N aG) names u9 t.2 ((((w1.setCell ⟨ub,0,none⟩ (.int .i64 pa)).setCell ⟨ub,1,none⟩ (.int .i64 bO)).setCell ⟨ub,2,none⟩ (.int .i64 pc)).setCell ⟨ub,3,none⟩ (.int .i64 pd)):=fun w1 hb=>by
       rw [a9];exact bk.tp bX hb ⟨pa,bO,pc,pd⟩
      have bJ:bQ.map bz.pl=(Cr whole ws P0 names (r+1)).1:=by
       rw [bF.out,a9,aN,<- am.out];simp only [Mv];rw [P2];have c4:A6 ws p=⟨c5,dc,c6,⟨na,nb,nc,nd⟩⟩:=(by unfold A6;rw [Gu hx]);rw [c4,b1]
      have a0:(Cr whole ws P0 names (r+1)).2=t.2++[p]:=(by rw [bF.out]);have cp:=hI.out.out;obtain ⟨cP,oL,cO,oe,cm⟩:=aP.out.len;subst oe;have a8:=cm.symm;have bG:oL<=1000000000:=(by rw [<- a8,Pj,cp];omega);have bs:∀ Wx,ik W0 (some ⟨jb,aF,none⟩) n c bQ (.slice bP N aG) names (.slice cP oL cO) t.2 Wx->BW Wx.heap.size Wx (Wx.alloc (.cells #[.int .i64 (p:Int)] 3 (0,0)))/\Al (Wx.alloc (.cells #[.int .i64 (p:Int)] 3 (0,0))) W0.heap.size (.slice cP oL cO) (Cx t.2) /\
        (Wx.alloc (.cells #[.int .i64 (p:Int)] 3 (0,0))).cell? ⟨Wx.heap.size,0,none⟩=some (.int .i64 (p:Int))/\W0.heap.size<=(Wx.alloc (.cells #[.int .i64 (p:Int)] 3 (0,0))).heap.size:=fun Wx hT=>by
       have hb:BW Wx.heap.size Wx (Wx.alloc (.cells #[.int .i64 (p:Int)] 3 (0,0))):=Bn;exact ⟨hb,hT.out.mod (Mod.af (S:=fun _=>False) hb) (fun _ _ c=>c),Aa (Ah _ _) 0,by have:=hT.up.us.low.size;have:=hb.size;omega⟩
      subst aS;replace ⟨bH,bi,aP,bf,aN,ap,ad,aU⟩:=H8 bH bi aP bf aN ap ad aU;replace ⟨e,cy,cl,cE,cG,cf,hM,cC⟩:=H8 e cy cl cE cG cf hM cC;replace ⟨bW,bk,bX,hx,be,aC,b1,kp⟩:=H8 bW bk bX hx be aC b1 kp;replace ⟨a9,ca,bJ,a0,cp,cm,a8,bG⟩:=H8 a9 ca bJ a0 cp cm a8 bG;replace ⟨bs,b5,hK,ck⟩:=H4 bs b5 hK ck;go_upto_region 19 with fail;rw [<- bB,<- bU];clear bU bB c0 x4 fu;go_region_with (go_at_call 252;((with_reducible refine (kp.out _).mono ?_);rintro e w1 ⟨rfl,a⟩;have x0:=(Ag a (by first | omega | (simp;omega))).trans x0;have x1:=(Ag a (by first | omega | (simp;omega))).trans x1;have x2:=(Ag a (by first | omega | (simp;omega))).trans x2;have x3:=(Ag a (by first | omega | (simp;omega))).trans x3;have b7:=fun o=>(a.frozen (p:=⟨ub,o,none⟩) (by first | (show ub<_;omega) | (simp;omega))).trans (b7 o);replace a:=Hh a))
      all_goals
       have ce:BW W3.heap.size W3 w1:=by first | exact a.out | exact Abm a.out
       have bl:=ca w1 ce;obtain ⟨Wx,cb⟩:=Ex ((((w1.setCell ⟨ub,0,none⟩ (.int .i64 pa)).setCell ⟨ub,1,none⟩ (.int .i64 bO)).setCell ⟨ub,2,none⟩ (.int .i64 pc)).setCell ⟨ub,3,none⟩ (.int .i64 pd));rw [<- cb] at bl;obtain ⟨a1,a2,a3,a4⟩:=bs Wx bl;replace ⟨ce,bl,a1,a2,a3,a4⟩:=H6 ce bl a1 a2 a3 a4;clear x0 x1 x2 x3 b7 z3 z4 z5 z6;go_upto_region 20 with fail;rw [<- cb];clear cb;go_wp2_with (at_builtin;refine Mo rfl _ _ rfl W0.heap.size oL _ rfl a2.out a8.out ⟨Wx.heap.size,0,none⟩ 1 rfl (p:Int) a3.out bG.out a4.out ?_;intro g7 cw w7 h7 ci cd;replace ⟨h7,ci,cd⟩:=H3 h7 ci cd)
       have cS:Hid (ik W0 (some ⟨jb,aF,none⟩) n c bQ (.slice bP N aG) names (.slice (some ⟨g7,0,none⟩) (oL+1) cw) (Cr whole ws P0 names (r+1)).2 w7):=by
        rw [a0.out]
        refine bl.push a1.out ci.out ?_ (fun k hk=>by
         simp [Value.ownBlock] at hk;subst hk;rcases cd.out with e | e
         .exact .inl e
         .exact .inr e)
        rw [Ail];exact h7.out
       go_roundw
       case rel=>exact ⟨r+1,bQ,by go_num,by omega,cS,bJ,b8⟩
       case measure=>simp [intOf];omega
  .have cK:¬ (r:Int)<n:=(by omega);have bK:r=n:=(by omega);have aY:Lb whole hs ws=(Cr whole ws P0 names r).2:=(by rw [bA.out,aZ.out,bK]);replace ⟨aY,bK⟩:=H2 aY bK;go_wp2;go_ret;refine ⟨u9,rfl,?_,aK.trans (hT.up.us.low.mono aK.size)⟩;rw [aY.out];exact hT.out.out.le aK.size
