/- Parts of a proof. No condition. -/
import Derived.Test.YtimlcnhcjndijaaGreatDoorH26
import Derived.Test.YtimlcnhcjndijaaGreatDoorH32
set_option linter.all false
set_option maxRecDepth 100000
set_option maxHeartbeats 3200000
namespace Go.Proofs.YtimlcnhcjndijaaGreatDoor
open Option renaming some->O,none->I
open Obj renaming cells->J
open IntKind renaming i64->G
open Value renaming int->Z,pointer->K,slice->V,string->E,tuple->D
open Ending renaming returned->Q
open Go renaming World->WD,Value->VL,Calls->CS
open Go.RowKit renaming Below->BW
open Go.Proofs.Tryz
section
open Go.RowKit Go.Maps Go.Lib
def Ee (us:List bt):Nat:=(us.map λu=>u.left.length).sum
def Acy {us:List bt} {k:Nat} {u:bt} (f:bt->bt) (a:us[k]?=O u):Ee (us.modify k f)+u.left.length=Ee us+(f u).left.length:=by
 induction us generalizing k with
 | nil=>simp at a
 | cons x r ih=>
  cases k with
  | zero=>
   simp at a;subst a;simp[Ee];omega
  | succ k=>
   have:=ih (k:=k) (by simpa using a);simp[Ee]at this ⊢;omega
def Y3 {us:List bt} {s:ByteArray} {k:Nat} (h:Gm us s=O k):∃u,us[k]?=O u/\u.name=s:=by
 unfold Gm at h;rcases S9 (ti s) us with⟨h1,_⟩|⟨c,u,h1,a,b⟩
 .rw [h1]at h;cases h
 .rw [h1]at h;injection h with h;subst h;have:=Tn b;exact⟨u,a,by simpa[ti]using this⟩
def Axw (us:List bt) (s:ByteArray) (i:Nat):Ee (At us s i)=Ee us+1:=by
 unfold At
 cases h:Gm us s with
 | none=>simp[Ee]
 | some k=>
  obtain⟨u,a,_⟩:=Y3 h;have:=Acy (λu=>⟨u.name,u.has,u.left++[i]⟩) a;simp at this ⊢;omega
def Akh (ws:List dh):∀j,Ee (B8 ws j)=j
 | 0=>rfl
 | j+1=>by
  show Ee (At (B8 ws j) _ j)=j+1;rw[Axw,Akh ws j]
def Axx (us:List bt) (h:en):Ee (Cv us h)=Ee us:=by
 unfold Cv
 cases h2:Gm us h.user with
 | none=>rfl
 | some k=>
  obtain⟨u,a,_⟩:=Y3 h2;have:=Acy (λu=>⟨u.name,Kg u.has h.has,u.left⟩) a;simp at this ⊢;omega
def Axy (a:List en) (ws:List dh):Ee (C2 a ws)=ws.length:=by
 unfold C2
 have b:∀(a:List en) (l:List bt),Ee (a.foldl Cv l)=Ee l:=λa=>by
  induction a with
  | nil=>intro l;rfl
  | cons h r ih=>intro l;exact(ih _).trans (Axx l h)
 have:Ee ((a.foldl Cv (B8 ws ws.length)).map λu=>⟨u.name,u.has,Gl ws u.left⟩)=Ee (a.foldl Cv (B8 ws ws.length)):=by unfold Ee;rw[De];congr 1;apply Vz;intro u _;simp[Gl,Vx]
 rw[this,b,Akh]
def Oq (n:Nat) (us:List bt):Prop:=∀u,u∈us->Oo u.has/\∀p,p∈u.left->p<n
def Aki (u v:V4):Oo (Kg u v):=λd f=>by
 have a:=Pm (Eu u.a+Eu v.a);have b:=Pm (Eu u.b+Eu v.b);have c:=Pm (Eu u.c+Eu v.c);have e:=Pm (Eu u.d+Eu v.d)
 rcases(by omega:d=0\/d=1\/d=2\/d=3)with rfl|rfl|rfl|rfl<;>simp only[Kg,Jq,V4.get]<;>omega
def Axz:Oo ⟨0,0,0,0⟩:=λd a=>by
 rcases(by omega:d=0\/d=1\/d=2\/d=3)with rfl|rfl|rfl|rfl<;>simp[V4.get]
def Ax0 (d:List en) (ws:List dh):Oq ws.length (C2 d ws):=by
 have h0:∀j,j<=ws.length->Oq ws.length (B8 ws j):=λj=>by
  induction j with
  | zero=>intro _ u a;cases a
  | succ j ih=>
   intro k u a;have g:=ih ao9;have a:u∈At (B8 ws j) (A4 ws j).user j:=a;unfold At at a;split at a
   .rcases C7.1 a with a|a
    .exact g u a
    .simp at a;subst a;exact⟨Axz,λp b=>by simp at b;omega⟩
   .rcases Ol a with a|⟨y,e,rfl⟩
    .exact g u a
    .refine ⟨(g y e).1,λp b=>?_⟩;rcases C7.1 b with b|b
     .exact (g y e).2 p b
     .simp at b;omega
 have f:∀(l:List bt) (h:en),Oq ws.length l->Oq ws.length (Cv l h):=λl h c u a=>by
  unfold Cv at a;split at a
  .exact c u a
  .rcases Ol a with a|⟨y,e,rfl⟩
   .exact c u a
   .exact ⟨Aki _ _,(c y e).2⟩
 have i:∀(d:List en) (l:List bt),Oq ws.length l->Oq ws.length (d.foldl Cv l):=λd=>by
  induction d with
  | nil=>intro l c;exact c
  | cons h r ih=>intro l c;exact ih _ (f l h c)
 intro u a;unfold C2 at a;obtain⟨y,e,rfl⟩:=A7.1 a;have:=i d _ (h0 ws.length Ln) y e;exact⟨this.1,λp b=>this.2 p (by simpa[Gl,Tk]using b)⟩
def Ax1 {n:Nat} {us:List bt} (h:Oq n us) (ws:List dh) (k:Nat):Oq n (us.modify k (Jr ws)):=λu b=>by
 rcases Ol b with b|⟨y,d,rfl⟩
 .exact h u b
 .have a:=h y d;unfold Jr;split
  .exact a
  .rename_i p l e;exact⟨Aki _ _,λq c=>a.2 q (by rw[e];exact Dj _ c)⟩
def Ax2 (ws:List dh) (us:List bt) (k:Nat):(us.modify k (Jr ws)).map bt.name=us.map bt.name:=by
 apply Eg;intro j;simp only[Bm,Fc];split
 .rename_i h;subst h
  cases us[k]? with
  | none=>rfl
  | some u=>
   show O (Jr ws u).name=O u.name;unfold Jr
   split<;>rfl
 .cases us[j]?<;>rfl
def Ax3 {us:List bt} (i:(us.map bt.name).Nodup) {k:Nat} {u:bt} (c:us[k]?=O u):Gm us u.name=O k:=by
 unfold Gm;rcases S9 (ti u.name) us with⟨_,a⟩|⟨j,u',h1,a,f⟩
 .have:=Rk.1 a u (Ai c);simp[ti]at this
 .rw [h1];have b:u'.name=u.name:=by have:=Tn f;simpa[ti]using this
  have g:(us.map bt.name)[k]?=O u.name:=by simp[c]
  have h:(us.map bt.name)[j]?=O u.name:=by simp[a,b]
  obtain⟨l,d⟩:=Ap.1 g;obtain⟨m,e⟩:=Ap.1 h;rw[(List.getElem_inj i).1 (e.trans d.symm)]
def Ax4 (whole:V4) {us:List bt} (q:(us.map bt.name).Nodup) (a:List ByteArray) (h:0<Ee us) (b:∀u,u∈us->u.name∈a):∃k s,Cw whole us a a.length=O (k,s):=by
 obtain⟨u,f,p⟩:∃u,u∈us/\u.left≠[]:=by
  false_or_by_contra
  rename_i n
  have:Ee us=0:=by
   unfold Ee;rw[List.sum_eq_zero_iff_forall_eq_nat];intro x r;obtain⟨u,f,rfl⟩:=A7.1 r
   false_or_by_contra
   rename_i l;exact n ⟨u,f,λe=>l (by rw[e];rfl)⟩
  omega
 obtain⟨k,i⟩:=Dk f;obtain⟨j,g⟩:=Dk (b u f);have o:=(Ap.1 g).1
 have c:∀m,(∃k s,Cw whole us a m=O (k,s))->∃k s,Cw whole us a (m+1)=O (k,s):=λm ⟨k,s,e⟩=>by
  unfold Cw;rw[e];split
  .exact ⟨k,s,rfl⟩
  .split
   .exact ⟨k,s,rfl⟩
   .split
    .exact ⟨k,s,rfl⟩
    .simp only
     split<;>exact⟨_,_,rfl⟩
 have at_:∃k s,Cw whole us a (j+1)=O (k,s):=by
  unfold Cw;rw[g];simp only[Option.bind_some];rw[Ax3 q i];simp only[i];rw[Ab p];split
  .exact ⟨_,_,rfl⟩
  .split<;>exact⟨_,_,rfl⟩
 have t:∀d,∃k s,Cw whole us a (j+1+d)=O (k,s):=λd=>by
  induction d with
  | zero=>exact at_
  | succ d ih=>exact c _ ih
 have:=t (a.length-(j+1));rw[show j+1+(a.length-(j+1))=a.length by omega]at this;exact this
def Akj (us:List bt) {u:bt} (a:u∈us):u.name∈Fk us:=by
 unfold Fk;refine A7.2 ⟨u.name.data.toList,?_,?_⟩
 .rw [Tk];exact A7.2 ⟨u,a,rfl⟩
 .simp
def Rc {whole:V4} {us:List bt} {a:List ByteArray}:∀ {m k:Nat} {s:fi},Cw whole us a m=O (k,s)->∃u,us[k]?=O u/\u.left≠[]/\s=O9 u.has whole
 | 0,k,s,h=>by cases h
 | m+1,k,s,h=>by
  unfold Cw at h;split at h
  .exact Rc h
  .rename_i e _;split at h
   .exact Rc h
   .rename_i u c;split at h
    .exact Rc h
    .rename_i b;split at h
     .injection h with h;injection h with h1 h2;subst h1 h2;exact⟨u,c,b,rfl⟩
     .rename_i i f d;split at h
      .injection h with h;injection h with h1 h2;subst h1 h2;exact⟨u,c,b,rfl⟩
      .injection h with h;injection h with h1 h2;subst h1 h2;exact Rc d
structure Vg (whole:V4) (ws:List dh) (names:List ByteArray) (P0:List bt) (t:List bt×List Nat) (r:Nat):Prop where
 left:Ee t.1+r=ws.length
 ok:Oq ws.length t.1
 nm:t.1.map bt.name=P0.map bt.name
 out:t.2.length=r
def Akk {whole:V4} {ws:List dh} {a:List ByteArray} {b:List bt} {r:Nat} (i:(b.map bt.name).Nodup) (g:∀u,u∈b->u.name∈a) (h:Vg whole ws a b (Cr whole ws b a r) r) (hr:r<ws.length) :
  ∃k s u p l,Cw whole (Cr whole ws b a r).1 a a.length=O (k,s)/\(Cr whole ws b a r).1[k]?=O u/\u.left=p :: l/\p<ws.length /\
   Cr whole ws b a (r+1)=((Cr whole ws b a r).1.set k ⟨u.name,Kg u.has (A4 ws p).nj,l⟩,(Cr whole ws b a r).2++[p])/\Vg whole ws a b (Cr whole ws b a (r+1)) (r+1):=by
 obtain⟨h1,n,m,y⟩:=h;generalize ht:Cr whole ws b a r=t at h1 n m y;have d:(t.1.map bt.name).Nodup:=by rw[m];exact i
 obtain⟨k,s,o⟩:=Ax4 whole d a ao9 (λu f=>by
  have:u.name∈b.map bt.name:=by rw[<-m];exact It f
  obtain⟨u2,v,e⟩:=A7.1 this;rw[<-e]
  exact g u2 v)
 obtain⟨u,f,z,_⟩:=Rc o
 cases hul:u.left with
 | nil=>exact absurd hul z
 | cons p l=>
  have q:=(n u (Ai f)).2 p (by rw[hul];exact Ef ..);have c:Cr whole ws b a (r+1)=(t.1.modify k (Jr ws),t.2++[p]):=by unfold Cr;rw[ht,o];simp only;rw[f];simp only;rw[hul];rfl
  have j:Jr ws u=⟨u.name,Kg u.has (A4 ws p).nj,l⟩:=by unfold Jr;rw[hul]
  refine⟨k,s,u,p,l,o,f,hul,q,?_,?_⟩
  .rw [c,Q8 _ _ _ f,j]
  .rw [c];have x:=Acy (Jr ws) f;rw[j,hul]at x;simp only[D8]at x;exact⟨by show Ee (t.1.modify k (Jr ws))+(r+1)=ws.length;omega,Ax1 n ws k,by rw[Ax2];exact m,by simp;omega⟩
def Akl (whole:V4) (b:List en) (ws:List dh) (a:List ByteArray):Vg whole ws a (C2 b ws) (Cr whole ws (C2 b ws) a 0) 0:=⟨by show Ee (C2 b ws)+0=_;rw[Axy];rfl,Ax0 b ws,rfl,rfl⟩
def Cg (us:List bt):List Nat:=(us.map bt.left).flatten
def Y4:∀ {us:List bt} {k:Nat} {u:bt} (f:bt->bt),us[k]?=O u->∃A B,Cg us=A++(u.left++B)/\Cg (us.modify k f)=A++((f u).left++B)
 | [],_,_,_,h=>by simp at h
 | v :: us,0,u,f,h=>by
  simp at h;subst h;exact⟨[],Cg us,by simp[Cg],by simp[Cg]⟩
 | v :: us,k+1,u,f,h=>by
  obtain⟨A,B,h1,a⟩:=Y4 (us:=us) (k:=k) f (by simpa using h);refine⟨v.left++A,B,?_,?_⟩
  .show Cg (v :: us)=_
   have:Cg (v :: us)=v.left++Cg us:=by simp[Cg]
   rw[this,h1,Fd]
  .rw [Vv]
   have:Cg (v :: us.modify k f)=v.left++Cg (us.modify k f):=by simp[Cg]
   rw[this,a,Fd]
def Ax5 (us:List bt) (s:ByteArray) (i:Nat):(Cg (At us s i)).Perm (Cg us++[i]):=by
 unfold At
 cases h:Gm us s with
 | none=>simp[Cg]
 | some k=>
  obtain⟨u,b,_⟩:=Y3 h;obtain⟨A,B,h1,a⟩:=Y4 (λu=>⟨u.name,u.has,u.left++[i]⟩) b;simp only;rw[h1,a];simp only[Fd];refine Zj A (Zj u.left ?_);exact List.perm_append_comm
def Akm (ws:List dh):∀j,(Cg (B8 ws j)).Perm (List.range j)
 | 0=>Tp _
 | j+1=>by
  show(Cg (At (B8 ws j) _ j)).Perm _;rw[Wg];exact(Ax5 _ _ _).trans ((Akm ws j).append_right [j])
def Ax6 (us:List bt) (h:en):Cg (Cv us h)=Cg us:=by
 unfold Cv
 cases h2:Gm us h.user with
 | none=>rfl
 | some k=>
  obtain⟨u,c,_⟩:=Y3 h2;obtain⟨A,B,a,b⟩:=Y4 (λu=>⟨u.name,Kg u.has h.has,u.left⟩) c;simp only;rw[a,b]
def Akn (f:List Nat->List Nat) (a:∀l,(f l).Perm l):∀us:List bt,(Cg (us.map λu=>⟨u.name,u.has,f u.left⟩)).Perm (Cg us)
 | []=>Tp _
 | u :: us=>by
  have h1:Cg ((u :: us).map λu=>(⟨u.name,u.has,f u.left⟩:bt))=f u.left++Cg (us.map λu=>⟨u.name,u.has,f u.left⟩):=by simp[Cg]
  have b:Cg (u :: us)=u.left++Cg us:=by simp[Cg]
  rw[h1,b];exact(a u.left).append (Akn f a us)
def Ax7 (a:List en) (ws:List dh):(Cg (C2 a ws)).Perm (List.range ws.length):=by
 have b:∀(a:List en) (l:List bt),Cg (a.foldl Cv l)=Cg l:=λa=>by
  induction a with
  | nil=>intro l;rfl
  | cons h r ih=>intro l;exact(ih _).trans (Ax6 l h)
 unfold C2;refine(Akn (Gl ws) (λl=>List.mergeSort_perm l _) _).trans ?_;rw[b];exact Akm ws ws.length
def Ako (whole:V4) (ws:List dh) (us:List bt) (a:List ByteArray):∀r,(Cg (Cr whole ws us a r).1++(Cr whole ws us a r).2).Perm (Cg us)
 | 0=>by
  show(Cg us++[]).Perm _;rw[N3]
 | r+1=>by
  have c:=Ako whole ws us a r;unfold Cr;generalize Cr whole ws us a r=t at c ⊢
  cases hp:Cw whole t.1 a a.length with
  | none=>exact c
  | some ks=>
   obtain⟨k,s⟩:=ks;simp only
   cases hk:t.1[k]? with
   | none=>exact c
   | some u=>
    obtain⟨i,b,h,_⟩:=Rc hp;rw[hk]at b;injection b with b;subst b;obtain⟨A,B,h1,g⟩:=Y4 (Jr ws) hk;simp only;refine List.Perm.trans ?_ c;rw[h1,g]
    cases hul:u.left with
    | nil=>exact absurd hul h
    | cons p l=>
     have e:(Jr ws u).left=l:=(by unfold Jr;rw[hul]);rw[e];show((A++(l++B))++(t.2++[p])).Perm ((A++(p :: l++B))++t.2);have d:(A++(p :: l++B))++t.2=A++(p :: (l++B++t.2)):=as9;have f:(A++(l++B))++(t.2++[p])=A++(l++B++t.2++[p]):=as9;rw[d,f];refine Zj A ?_;exact List.perm_append_singleton p _
def Akp (ws:List dh):∀j,((B8 ws j).map bt.name).Nodup
 | 0=>List.nodup_nil
 | j+1=>by
  have d:=Akp ws j;show((At (B8 ws j) (A4 ws j).user j).map bt.name).Nodup;unfold At
  cases h:Gm (B8 ws j) (A4 ws j).user with
  | none=>
   simp only[Dw,Ic,Rr];refine Rm.2 ⟨d,as9,λa f b c e=>?_⟩;simp at c;obtain⟨u,g,rfl⟩:=A7.1 f;unfold Gm at h;have:=List.findIdx?_eq_none_iff.1 h u g;simp[ti]at this;exact this (e.trans c)
  | some k=>
   simp only
   have e:((B8 ws j).modify k λu=>(⟨u.name,u.has,u.left++[j]⟩:bt)).map bt.name=(B8 ws j).map bt.name:=by
    apply Eg;intro i;simp only[Bm,Fc]
    cases (B8 ws j)[i]? with
    | none=>rfl
    | some u=>
     simp only[J8]
     split<;>rfl
   rw[e];exact d
def Ax8 (us:List bt) (h:en):(Cv us h).map bt.name=us.map bt.name:=by
 unfold Cv
 cases h2:Gm us h.user with
 | none=>rfl
 | some k=>
  simp only;apply Eg;intro i;simp only[Bm,Fc]
  cases us[i]? with
  | none=>rfl
  | some u=>
   simp only[J8]
   split<;>rfl
def Ax9 (a:List en) (ws:List dh):((C2 a ws).map bt.name).Nodup:=by
 have b:∀(a:List en) (l:List bt),(a.foldl Cv l).map bt.name=l.map bt.name:=λa=>by
  induction a with
  | nil=>intro l;rfl
  | cons h r ih=>intro l;exact(ih _).trans (Ax8 l h)
 unfold C2;rw[De];show((a.foldl Cv (B8 ws ws.length)).map bt.name).Nodup;rw[b];exact Akp ws ws.length
def Akq (whole:V4) (a:List en) (ws:List dh):∀r,r<=ws.length->Vg whole ws (Fk (C2 a ws)) (C2 a ws) (Cr whole ws (C2 a ws) (Fk (C2 a ws)) r) r
 | 0,_=>Akl whole a ws _
 | r+1,hr=>by
  obtain⟨_,_,_,_,_,_,_,_,_,_,h⟩:=Akk (Ax9 a ws) (λu b=>Akj _ b) (Akq whole a ws r ao9) ao9;exact h
def Y5 (whole:V4) (a:List en) (ws:List dh):(K8 whole a ws).Perm (List.range ws.length):=by
 have h:=Akq whole a ws ws.length Ln;have b:=(Ako whole ws (C2 a ws) (Fk (C2 a ws)) ws.length).trans (Ax7 a ws)
 have h0:Cg (Cr whole ws (C2 a ws) (Fk (C2 a ws)) ws.length).1=[]:=by
  apply Fv.1
  have e:∀us:List bt,(Cg us).length=Ee us:=λus=>by
   unfold Cg Ee;rw[List.length_flatten,De];rfl
  rw[e];have:=h.left;omega
 rw[h0,Oz]at b;exact b
def Aya (whole:V4) (a:List en) (ws:List dh):(K8 whole a ws).Nodup:=(Y5 whole a ws).nodup_iff.2 List.nodup_range
def Y6 (whole:V4) (a:List en) (ws:List dh) {i:Nat} (h:i∈K8 whole a ws):i<ws.length:=Wl.1 ((Y5 whole a ws).mem_iff.1 h)
def xk (l:List ByteArray):List VL:=l.map Value.string
structure iq (w:WD) (ao:Option Addr) (n c:Nat) (us:List bz) (nv:VL) (names:List ByteArray) (ov:VL) (out:List Nat) (wr:WD):Prop where
 up:gp C6 w ao n c us wr
 nm:wr.ownsRow w.heap.size 9 1 nv names.length (xk names)
 out:Aj wr w.heap.size ov (Cz out)
 oa:∀u,u∈us->∀k,ov.ownBlock=O k->u.lv.ownBlock≠O k
variable {w wr w1 w':WD} {ao:Option Addr} {n c:Nat} {nv:VL} {us:List bz} {names:List ByteArray} {ov:VL} {out:List Nat}
def iq.drop (h:iq w ao n c us nv names ov out wr) (a:BW wr.heap.size wr w'):iq w ao n c us nv names ov out w':=
 ⟨h.up.drop U3 a,A8 (S:=λ_=>False) h.nm (Mod.ag a) (λ_ _ c=>c),h.out.mod (Mod.ag (S:=λ_=>False) a) (λ_ _ c=>c),h.oa⟩
def iq.ubk (h:iq w ao n c us nv names ov out wr) {u:bz} (g:u∈us):∀k,(k=u.b\/u.lv.ownBlock=O k)->nv.ownBlock≠O k/\ov.ownBlock≠O k:=λk d=>by
 refine⟨λe=>?_,λe=>?_⟩
 .obtain ⟨i,f,_⟩:=Cq h.nm e;rcases d with d|d
  .have:=(h.up.us.box u g).1;rw[<-d,f]at this;injection this with this;injection this with _ this;exact absurd this ad9
  .obtain ⟨j,a⟩:=U3.ar (h.up.us.left u g) k d;rw[f]at a;injection a with a;injection a with _ a;exact absurd a ad9
 .rcases d with d|d
  .obtain ⟨i,f,_⟩:=Cq h.out.row e;have:=(h.up.us.box u g).1;rw[<-d,f]at this;injection this with this;injection this with _ this;exact absurd this ad9
  .exact h.oa u g k e d
def iq.wt (h:iq w ao n c us nv names ov out wr) {i:Nat} {u u':bz} (p:us[i]?=O u) (m:Mod (λb=>b=u.b) wr w') (q:u'.b=u.b) (r:u'.pl.name=u.pl.name) (d:w'.heap[u.b]?=O (J u'.cells 335 (0,0)))
  (g:C6 w' w.heap.size u'.lv (Cz u'.pl.left)) (f:u'.lv.ownBlock=u.lv.ownBlock):iq w ao n c (us.set i u') nv names ov out w':=by
 have l:=Ai p;have j:=h.ubk l;refine⟨h.up.set U3 p (m.mono λ_ _ e=>.inl e) q r d g λk a=>.inl (f▸a),A8 h.nm m (λk a e=>?_),h.out.mod m (λk a e=>(j k (.inl e)).2 a),λy o k a e=>?_⟩
 .exact (j k (.inl e)).1 a
 .rcases Vo o with o|rfl
  .exact h.oa y o k a e
  .rw [f]at e;exact h.oa u l k a e
def iq.uq (h:iq w ao n c us nv names ov out wr) {k:Nat} {u:bz} (l:us[k]?=O u) {w1:WD} (p:BW wr.heap.size wr w1) (v:V4) :
  iq w ao n c (us.set k ⟨u.b,u.lv,⟨u.pl.name,v,u.pl.left⟩⟩) nv names ov out ((((w1.setCell ⟨u.b,0,I⟩ (Z G v.a)).setCell ⟨u.b,1,I⟩ (Z G v.b)).setCell ⟨u.b,2,I⟩ (Z G v.c)).setCell ⟨u.b,3,I⟩ (Z G v.d)):=by
 have h1:=h.drop p;have f:=Ai l;obtain⟨j,_⟩:=h1.up.us.box u f;have m:∀(W:WD) (o:Nat) (x:VL),Mod (λb=>b=u.b) W (W.setCell ⟨u.b,o,I⟩ x):=λW o x=>Mod.setCell W u.b o x rfl;have i:Mod (λb=>b=u.b) w1 ((((w1.setCell ⟨u.b,0,I⟩ (Z G v.a)).setCell ⟨u.b,1,I⟩ (Z G v.b)).setCell ⟨u.b,2,I⟩ (Z G v.c)).setCell ⟨u.b,3,I⟩ (Z G v.d)):=(((m _ _ _).trans (m _ _ _)).trans (m _ _ _)).trans (m _ _ _)
 have q:u.lv.ownBlock≠O u.b:=λe=>by
  obtain⟨r,g⟩:=U3.ar (h1.up.us.left u f) _ e;rw[j]at g;injection g with g;injection g with _ g;exact absurd g ad9
 refine h1.wt l i rfl rfl ?_ ((h1.up.us.left u f).mod i (λk l e=>q (by rw[l,e]))) rfl;have:=Am (Am (Am (Am j 0 (Z G v.a)) 1 (Z G v.b)) 2 (Z G v.c)) 3 (Z G v.d);simpa using this
def iq.push (h:iq w ao n c us nv names ov out wr) (x:BW wr.heap.size wr w1) {m:VL} {g:List Nat} (y:w1.grownBy w' ov.ownBlock) (ho:Aj w' w.heap.size m (Cz g)) (v:∀k,m.ownBlock=O k->ov.ownBlock=O k\/k=w1.heap.size):iq w ao n c us nv names m g w':=by
 have h1:=h.drop x;have p:=Mod.grown y (λk a=>a);obtain⟨s,cl,z⟩:=h1.up.us.ox
 have t:∀k,ov.ownBlock=O k->∃c,w1.heap[k]?=O (J c 3 (0,0)):=λk a=>by
  obtain⟨i,d,_⟩:=Cq h1.out.row a;exact⟨i,d⟩
 have j:∀(k:Nat) (o:Obj),w1.heap[k]?=O o->(∀c,o≠J c 3 (0,0))->w'.heap[k]?=O o:=λk o a r=>p.ar a λe=>by
  obtain⟨i,d⟩:=t k e;rw[d]at a;injection a with a;exact r i a.symm
 refine⟨⟨⟨h1.up.us.low.trans (p.below h1.up.us.low.size (λk a=>(h1.out.lt k a).1)),?_,h1.up.us.mlt,λu f=>⟨j _ _ (h1.up.us.box u f).1 (λc e=>by injection e with _ e;exact absurd e ad9),(h1.up.us.box u f).2⟩,λu f=>(h1.up.us.left u f).mod p (λk a e=>h1.oa u f k e a),h1.up.us.names,h1.up.us.one⟩,j _ _ h1.up.pb (λc e=>by injection e with _ e;exact absurd e ad9)⟩,
  A8 h1.nm p (λk a e=>?_),ho,λu f k a e=>?_⟩
 .obtain ⟨s,l,q,rr⟩:=h1.up.us.map;exact⟨s,l,j _ _ q (λc e=>by cases e),rr⟩
 .obtain ⟨i,d⟩:=t k e;obtain⟨c2,b,_⟩:=Cq h1.nm a;rw[d]at b;injection b with b;injection b with _ b;exact absurd b ad9
 .rcases v k a with i|i
  .exact h1.oa u f k i e
  .have:=((h1.up.us.left u f).lt k e).2;omega
def iq.off (h:iq w ao n c us nv names ov out wr) {lb:Nat} {cs:Array VL} (i:wr.heap[lb]?=O (J cs 333 (0,0))) (p:w.heap.size<=lb) (j:Mod (λb=>b=lb) wr w'):iq w ao n c us nv names ov out w':=by
 obtain⟨t,z,x⟩:=h.up.us.ox
 have f:∀(k:Nat) (o:Obj),wr.heap[k]?=O o->(∀c,o≠J c 333 (0,0))->w'.heap[k]?=O o:=λk o a q=>j.ar a λe=>by
  rw[e,i]at a;injection a with a;exact q cs a.symm
 have r:∀ {k:Nat} {c:Array VL} {T:TypeId},wr.heap[k]?=O (J c T (0,0))->T≠333->k≠lb:=λa v e=>by
  rw[e,i]at a;injection a with a;injection a with _ a;exact v a.symm
 refine⟨⟨⟨h.up.us.low.trans (j.below h.up.us.low.size (λk a=>by rw[a];exact p)),?_,h.up.us.mlt,λu l=>⟨f _ _ (h.up.us.box u l).1 (λc e=>by injection e with _ e;exact absurd e ad9),(h.up.us.box u l).2⟩,λu l=>(h.up.us.left u l).mod j (λk a e=>?_),h.up.us.names,h.up.us.one⟩,f _ _ h.up.pb (λc e=>by injection e with _ e;exact absurd e ad9)⟩,
  A8 h.nm j (λk a e=>?_),h.out.mod j (λk a e=>?_),h.oa⟩
 .obtain ⟨t,g,m,y⟩:=h.up.us.map;exact⟨t,g,f _ _ m (λc e=>by cases e),y⟩
 .obtain ⟨s,d⟩:=(h.up.us.left u l).ar a;exact r d ad9 e
 .obtain ⟨s,d,_⟩:=Cq h.nm a;exact r d ad9 e
 .obtain ⟨s,d,_⟩:=Cq h.out.row a;exact r d ad9 e
def gp.toQ (h:gp Aj w ao n c us wr):gp C6 w ao n c us wr:=⟨⟨h.us.low,h.us.map,h.us.mlt,h.us.box,λu a=>C6.of (h.us.left u a),h.us.names,h.us.one⟩,h.pb⟩
def Akv (x:Lit×DU):∀l:List (Lit×DU),(DataW.insert x l).Perm (x :: l)
 | []=>Tp _
 | y :: r=>by
  unfold DataW.insert;split
  .exact Tp _
  .exact ((Akv x r).cons y).trans (List.Perm.swap x y r)
def Ayn (l:List (ByteArray×Nat)) (h:(l.map Prod.fst).Nodup):∃a,Gq l=.map a/\(a.map λp=>p.1).Perm (l.map λp=>Bw p.1):=by
 induction l using P8 with
 | h0=>exact⟨[],rfl,Tp _⟩
 | h1 l x ih=>
  rw[Dw,Rm]at h;obtain⟨a,e,g⟩:=ih h.1;refine⟨DataW.insert (Bw x.1,Jf x.2) a,?_,?_⟩
  .rw [U2,e];simp only[DataW.put];rw[List.filter_eq_self.2];intro p d;have i:=g.mem_iff.1 (It d);obtain⟨q,j,f⟩:=A7.1 i;rw[<-f]
   have b:¬(Bw q.1).sameKey (Bw x.1)=true:=λc=>by
    have:=(Acf _ _).1 c;exact h.2.2 q.1 (It j) x.1 as9 this
   simp[b]
  .refine ((Akv _ a).map _).trans ?_;rw[Dw];simp only[Ic,Rr];exact(g.cons _).trans (List.perm_append_singleton _ _).symm
def Akw (l:List (ByteArray×Nat)) (h:(l.map Prod.fst).Nodup):(strKeys (Gq l)).Perm (l.map λp=>p.1.data.toList)/\Maps.size (Gq l)=l.length:=by
 obtain⟨b,e,a⟩:=Ayn l h;rw[e];refine⟨?_,?_⟩
 .have:=a.map strOf;simp only[De]at this;exact this
 .have:=a.length_eq;simpa[Maps.size_eq]using this
end
section
open Go.RowKit Go.Maps Go.Lib
variable {w wr w1 w':WD} {ao:Option Addr} {n c:Nat} {nv ov:VL} {us:List bz} {names:List ByteArray} {out:List Nat}
def Ayo {ss:List (List UInt8)} {us:List bz} (h:(us.map λu=>u.pl.name).Nodup) (c:ss.Perm (strKeys (Gq (us.map bz.key)))):(ss.mergeSort λx y=>decide (x<=y)).map encStr=xk (Fk (us.map bz.pl))/\(Fk (us.map bz.pl)).length=ss.length:=by
 have b:=(Akw (us.map bz.key) (by simpa[bz.key,Ia]using h)).1;have a:ss.Perm (us.map λu=>u.pl.name.data.toList):=by refine c.trans ?_;simpa[bz.key,Ia]using b
 have e:ss.mergeSort (λx y=>decide (x<=y))=(us.map λu=>u.pl.name.data.toList).mergeSort λx y=>decide (x<=y):=mergeSort_of_perm a;refine⟨?_,?_⟩
 .rw [e];simp[xk,Fk,Ia]
 .simp [Fk,Vx,a.length_eq]
def Akx (a:List en) (ws:List dh):(C2 a ws).length<=ws.length:=by
 have b:∀(a:List en) (l:List bt),(a.foldl Cv l).length=l.length:=λa=>by
  induction a with
  | nil=>intro l;rfl
  | cons h r ih=>
   intro l;refine(ih _).trans ?_;unfold Cv
   split<;>simp
 unfold C2;rw[As,b];exact(U6 ws ws.length).1
def Aky (ws:List dh):∀j,j<=ws.length->∀u,u∈B8 ws j->∃x,x∈ws/\u.name=x.user
 | 0,_,u,a=>by cases a
 | j+1,hj,u,a=>by
  have d:ws[j]?=O ws[j]:=Az ao9;have b:A4 ws j=ws[j]:=by unfold A4;rw[Gt d]
  have a:u∈At (B8 ws j) (A4 ws j).user j:=a;have c:=Aky ws j ao9;unfold At at a;split at a
  .rcases C7.1 a with a|a
   .exact c u a
   .simp at a;subst a;exact⟨ws[j],Kv _,by rw[b]⟩
  .rcases Ol a with a|⟨y,e,rfl⟩
   .exact c u a
   .exact c y e
def Ayp (c:List en) (ws:List dh):∀u,u∈C2 c ws->∃x,x∈ws/\u.name=x.user:=λu a=>by
 unfold C2 at a;obtain⟨y,f,rfl⟩:=A7.1 a
 have d:∀(l:List bt) (h:en),(∀u,u∈l->∃x,x∈ws/\u.name=x.user)->∀u,u∈Cv l h->∃x,x∈ws/\u.name=x.user:=λl h b u a=>by
  unfold Cv at a;split at a
  .exact b u a
  .rcases Ol a with a|⟨z,g,rfl⟩
   .exact b u a
   .exact b z g
 have e:∀(c:List en) (l:List bt),(∀u,u∈l->∃x,x∈ws/\u.name=x.user)->∀u,u∈c.foldl Cv l->∃x,x∈ws/\u.name=x.user:=λc=>by
  induction c with
  | nil=>intro l b;exact b
  | cons h r ih=>intro l b;exact ih _ (d l h b)
 exact e c _ (Aky ws ws.length Ln) y f
def yu (us:List bz) (pk:Option (Nat×fi)) (nx:VL):Prop:=(pk=I/\nx=K I)\/∃p u,pk=O p/\us[p.1]?=O u/\nx=Lk u.b
structure lr (w:WD) (ao:Option Addr) (n c:Nat) (us:List bz) (nv:VL) (names:List ByteArray) (ov:VL) (out:List Nat) (lb:Nat) (pk:Option (Nat×fi)) (nx:VL) (wr:WD):Prop where
 tu:iq w ao n c us nv names ov out wr
 gj:wr.heap[lb]?=O (J #[Z G ((pk.map Prod.snd).getD (0,0)).1,Z G ((pk.map Prod.snd).getD (0,0)).2] 333 (0,0))
 lw:w.heap.size<=lb
 nx:yu us pk nx
def lr.drop {lb:Nat} {d:Option (Nat×fi)} {b:VL} (h:lr w ao n c us nv names ov out lb d b wr) (a:BW wr.heap.size wr w'):lr w ao n c us nv names ov out lb d b w':=⟨h.tu.drop a,Ae a h.gj (Ac h.gj),h.lw,h.nx⟩
def lr.put {lb:Nat} {k a:Option (Nat×fi)} {j d:VL} {e f:Int} (h:lr w ao n c us nv names ov out lb k j wr) (g:(a.map Prod.snd).getD (0,0)=(e,f)) (i:yu us a d):lr w ao n c us nv names ov out lb a d ((wr.setCell ⟨lb,0,I⟩ (Z G e)).setCell ⟨lb,1,I⟩ (Z G f)):=by
 refine⟨h.tu.off h.gj h.lw ((Mod.setCell (S:=λb=>b=lb) wr lb 0 _ rfl).trans (Mod.setCell (S:=λb=>b=lb) _ lb 1 _ rfl)),?_,h.lw,i⟩;have:=Am (Am h.gj 0 (Z G e)) 1 (Z G f);rw[g];simpa using this
structure xo (w:WD) (ao:Option Addr) (n c:Nat) (us:List bz) (nv:VL) (names:List ByteArray) (ov:VL) (out:List Nat) (lb:Nat) (pk:Option (Nat×fi)) (nx:VL) (d1 d2:Int) (sv:VL) (wr:WD):Prop where
 pk:lr w ao n c us nv names ov out lb pk nx wr
 box:∃g,sv=K (O ⟨g,0,I⟩)/\wr.heap[g]?=O (J #[Z G d1,Z G d2] 333 (0,0))/\lb<g
def lr.s1 {lb:Nat} {e:Option (Nat×fi)} {d:VL} {a b:Int} (h:lr w ao n c us nv names ov out lb e d wr) (f:BW wr.drew.heap.size wr.drew w1):xo w ao n c us nv names ov out lb e d a b (K (O ⟨w1.heap.size,0,I⟩)) (w1.alloc (J #[Z G a,Z G b] 333)):=by
 have h1:=h.drop (Acg f);have g:=Ac h1.gj;exact⟨h1.drop Bn,_,rfl,Ah _ _,g⟩
def lr.s2 {lb:Nat} {j:Option (Nat×fi)} {i:VL} {b d:Int} (h:lr w ao n c us nv names ov out lb j i wr) (g:BW (wr.alloc (J #[Z G 0,Z G 0] 333)).drew.heap.size (wr.alloc (J #[Z G 0,Z G 0] 333)).drew w1) :
  xo w ao n c us nv names ov out lb j i b d (K (O ⟨wr.heap.size,0,I⟩)) ((w1.setCell ⟨wr.heap.size,0,I⟩ (Z G b)).setCell ⟨wr.heap.size,1,I⟩ (Z G d)):=by
 have e:BW wr.heap.size wr (wr.alloc (J #[Z G 0,Z G 0] 333)).drew:=Bn.drew;have f:=e.trans (g.mono as9);have l:=Ae g (Ah _ _) as9;have k:=Ac h.gj;have a:BW wr.heap.size wr ((w1.setCell ⟨wr.heap.size,0,I⟩ (Z G b)).setCell ⟨wr.heap.size,1,I⟩ (Z G d)):=Db (Db f Ln) Ln;refine⟨h.drop a,_,rfl,?_,k⟩;have:=Am (Am l 0 (Z G b)) 1 (Z G d);simpa using this
def Ayq (whole:V4) (bL:Oo whole) (ho:Option Addr) (m hc:Nat) (hs:List en) (ws:List dh) (hh:Pp w ho m hs) (hw:Ko w ao n ws) (hn:n<=20) (b1:∀x,x∈ws->x.user.size<=maxLen) (ch:∀x,x∈hs->x.user.size<=maxLen) (h1:Uz ws) :
  CS prog 190 #[whole.val,V ho m hc,V ao n c] w λe w'=>∃v,e=Q v/\Aj w' w.heap.size v (Cz (K8 whole hs ws))/\BW w.heap.size w w':=by
 obtain⟨W0,bl⟩:=Ex (w.alloc (J whole.cells 30));have aJ:BW w.heap.size w W0:=by rw[bl];exact Bn
 have cl:W0.heap.size=w.heap.size+1:=by rw[bl];simp
 have cn:W0.heap[w.heap.size]?=O (J whole.cells 30 (0,0)):=by rw[bl];exact Ah _ _
 have ku:=Avw (c:=c) ho m hc hs ws (hh.low aJ) (hw.low aJ) hn b1 ch h1;have aY:=hw.len;replace⟨hh,hw,b1,ch,h1,aY,aJ,cn⟩:=H8 hh hw b1 ch h1 aY aJ cn;replace⟨ku,bL,cl⟩:=H3 ku bL cl;go_enter func190,ntmps190;go_upto_region 1 with fail;rw[<-bl];clear bl;go_upto_region 2 with(go_at_call 248;(with_reducible refine ku.out.mono ?_);rintro e w1 ⟨us,rfl,hU,al⟩;replace⟨hU,al⟩:=H2 hU al);have aS:=(Akw (us.map bz.key) (by have:=hU.out.us.names;simpa[bz.key,Ia]using this)).2;have a0:us.length<=20:=by have h9:=Ca List.length al.out;have:=Akx hs ws;have:=aY.out;rw[As]at h9;omega
 have b3:=Aym (W0.heap.size+1) us.length (Gq (us.map bz.key)) Jg w1 hU.out.us.map (by rw[aS];unfold maxLen;simp;omega) (by rw[aS];simp;omega);replace⟨b3,aS,a0⟩:=H3 b3 aS a0;go_upto_region 4 with(go_at_call 249;(with_reducible refine b3.out.mono ?_);rintro e w2 ⟨nv,ss,rfl,aL,ak,bC,bU⟩;replace⟨aL,ak,bC,bU⟩:=H4 aL ak bC bU);obtain⟨P0,aI⟩:=Ex (C2 hs ws);have ap:=Ayo hU.out.us.names aL.out;rw[al.out,<-aI]at ap;obtain⟨names,h⟩:=Ex (Fk P0);rw[<-h]at ap;have bD:(P0.map bt.name).Nodup:=by have:=hU.out.us.names;rw[aI,<-al.out];simpa[Ia]using this
 have bn:∀u,u∈P0->u.name∈names:=λu hu=>by rw[h];exact Akj P0 hu
 have b8:iq W0 ao n c us nv names (V I 0 0) [] w2:=by refine⟨hU.out.toQ.drop U3 bU.out,?_,Aj.nil _ _,λu _ k hk=>by simp[Value.ownBlock]at hk⟩;have h9:=ak.out;rw[ap.1,<-ap.2]at h9;exact Joins.ownsRow_le h9 hU.out.us.low.size
 have bQ:=Akl whole hs ws names;rw[<-aI]at bQ;have bx:K8 whole hs ws=(Cr whole ws P0 names ws.length).2:=by unfold K8;rw[<-aI,<-h]
 have cT:names.length<=20:=by
  rw[ap.2,<-ap.2,h]
  have:(Fk P0).length=P0.length:=by simp[Fk,Vx]
  rw[this,aI];have:=Akx hs ws;have:=aY.out;omega
 have bH:us.map bz.pl=(Cr whole ws P0 names 0).1:=by rw[al.out,aI];rfl
 obtain⟨N,hN⟩:=Ex (names.length);rw[<-hN]at cT;replace⟨ap,h,bD,bn,b8,bQ,bx,bH⟩:=H8 ap h bD bn b8 bQ bx bH;replace⟨hN,aI⟩:=H2 hN aI;go_wp2_with fail;clear hU al ak bC aL bU b3 aS a0 ku;go_loopw [9,10,11,13,14,15,16,17,25,29] (λov _ _ _ _ _ _ _ rv _ wr=>∃(r:Nat) (us:List bz),rv=Z G r/\r<=n/\Hid (iq W0 ao n c us nv names ov (Cr whole ws P0 names r).2 wr)/\Hid (us.map bz.pl=(Cr whole ws P0 names r).1)/\Hid (Vg whole ws names P0 (Cr whole ws P0 names r) r)) (λ_ _ _ _ _ _ _ _ rv _ _=>n-(intOf rv).toNat)
 case atStart=>exact⟨0,us,rfl,Ar _,b8,bH,bQ⟩
 case round=>
  obtain⟨r,us,rfl,dG,hT,al,hI⟩:=hrel;by_cases dH:r<n
  .have cH:(r:Int)<n:=ao9;obtain⟨k,s,u,p,l,bY,bX,a0,bZ,bE,b7⟩:=Akk bD.out bn.out hI.out (by have:=aY.out;omega);obtain⟨t,ht⟩:=Ex (Cr whole ws P0 names r);rw[<-ht]at hT al hI bY bX bE;obtain⟨lb,bB⟩:=Ex (wr.heap.size);obtain⟨W1,bS⟩:=Ex (wr.alloc (J #[Z G 0,Z G 0] 333));have a:BW wr.heap.size wr W1:=by rw[bS];exact Bn
   have ct:Hid (lr W0 ao n c us nv names u9 t.2 lb (Cw whole t.1 names 0) (K I) W1):=
    ⟨hT.out.drop a,by rw[bB,bS];exact Ah _ _,by rw[bB];exact hT.out.up.us.low.size,.inl ⟨rfl,rfl⟩⟩
   have aC:=hN.out.symm
   have bK:∀(j:Nat) (x:ByteArray),names[j]?=O x->x.size<=maxLen:=λj x hx=>by
    have bM:x∈Fk P0:=(by rw[<-h.out];exact Ai hx);unfold Fk at bM;obtain⟨b,hb,rfl⟩:=A7.1 bM;rw[Tk]at hb;obtain⟨q,hq,rfl⟩:=A7.1 hb;rw[aI.out]at hq;obtain⟨z,hz,e⟩:=Ayp hs ws q hq;have:=b1.out z hz;rw[<-e]at this;exact this
   have aW:∀(j:Nat) (x:ByteArray),names[j]?=O x->∃k u,us[k]?=O u/\u.pl.name=x/\us.find? (λu=>decide (u.pl.name=x))=O u/\Gm t.1 x=O k:=λj x hx=>by
    have bM:x∈Fk P0:=(by rw[<-h.out];exact Ai hx);have cK:x∈P0.map bt.name:=(by unfold Fk at bM;obtain⟨b,hb,rfl⟩:=A7.1 bM;rw[Tk]at hb;obtain⟨q,hq,rfl⟩:=A7.1 hb;exact A7.2 ⟨q,hq,rfl⟩);rw[<-hI.out.nm,<-al.out,De]at cK;obtain⟨q,hq,cW⟩:=A7.1 cK;rcases S9 (λu:bz=>decide (u.pl.name=x)) us with⟨_,h2⟩|⟨k,u,h1,h2,h3⟩
    .have:=Rk.1 h2 q hq;simp at this;exact absurd cW this
    .have cS:u.pl.name=x:=(by have:=Tn h3;simpa using this);exact⟨k,u,h2,cS,h3,by rw[<-al.out,U5];exact h1⟩
   replace⟨bY,bX,a0,bZ,bE,b7,ht,bB⟩:=H8 bY bX a0 bZ bE b7 ht bB;replace⟨a,aW,bK,hT⟩:=H4 a aW bK hT;go_upto_region 8 with fail;rw[<-bS,<-bB.out];clear bS
   obtain⟨bO,aF,e0⟩:∃so c,nv=V so N c:=by
    rcases ct.out.tu.nm.2 with⟨e,h0⟩|⟨g,cap,dw,e,_⟩
    .exact ⟨I,0,by rw[e,<-aC,h0]⟩
    .exact ⟨_,_,by rw[e,aC]⟩
   subst e0;replace aC:=Hh aC;go_wp2_with fail;go_loopw [10,13,14,15,16,29] (λnx _ _ _ _ jv wr=>∃(j:Nat),jv=Z G j/\j<=N/\Hid (lr W0 ao n c us (V bO N aF) names u9 t.2 lb (Cw whole t.1 names j) nx wr)) (λ_ _ _ _ _ jv _=>N-(intOf jv).toNat)
   case atStart=>exact⟨0,rfl,Ar _,ct⟩
   case round=>
    obtain⟨j,rfl,dE,hK⟩:=hrel;by_cases dF:j<N
    .have cE:(j:Int)<N:=ao9;have dD:(0:Int)<=(j:Int):=ao9;have ak:=hK.out.tu.nm;obtain⟨ng,ds,e⟩:=Joins.ownsRow_form ak (by have:=aC.out;omega);injection e with e1 e2 e3;subst e1;clear e2 e3;obtain⟨x,hx⟩:=Ge names j (by have:=aC.out;omega);have cx:wr.cell? ⟨ng,j,I⟩=O (E x):=(by have:=ak.cells (g:=ng) rfl j (E x) (by simp[xk,hx]);rw[Tq,Dm]at this;exact this);obtain⟨kk,⟨ub,co,⟨aV,⟨ua,ac,uc,ud⟩,aN⟩⟩,hk,aK,bw,aP⟩:=aW.out j x hx;have cF:=Acb hK.out.tu.up.us x (bK.out j x hx);rw[bw]at cF;have an:=Ai hk;obtain⟨ad,aT⟩:=hK.out.tu.up.us.box _ an;obtain⟨so,cc,e,bR,_⟩:=(hK.out.tu.up.us.left _ an).form;have e':co=V so (Cz aN).length cc:=e;obtain⟨L,hL⟩:=Ex ((Cz aN).length);rw[<-hL]at e';subst e';have a9:L=aN.length:=(by rw[hL,Pi]);have x4:=Bk ad 4 (V so L cc) rfl;have bf:t.1[kk]?=O ⟨aV,⟨ua,ac,uc,ud⟩,aN⟩:=by rw[<-al.out];simp[hk]
     have f:Cw whole t.1 names (j+1)=if aN=[]then Cw whole t.1 names j else match Cw whole t.1 names j with
       | none=>O (kk,O9 ⟨ua,ac,uc,ud⟩ whole)
       | some (i,s)=>if F5 (O9 ⟨ua,ac,uc,ud⟩ whole) s<0 then O (kk,O9 ⟨ua,ac,uc,ud⟩ whole)else O (i,s):=by
      show(match (names[j]?).bind (Gm t.1)with|none=>_|some k=>_)=_;rw[hx];simp only[Option.bind_some];rw[aP];simp only;rw[bf];simp only;split
      .rfl
      .cases Cw whole t.1 names j with
       | none=>rfl
       | some p=>rfl
     by_cases aQ:aN=[]
     .have cw:L=0:=(by rw[a9,aQ];rfl);subst cw;have cO:Hid (lr W0 ao n c us (V (O ⟨ng,0,I⟩) N aF) names u9 t.2 lb (Cw whole t.1 names (j+1)) u10 wr):=(by rw[f,Ad aQ];exact hK);replace⟨ak,hx,hk,aK,bw,aP,an,ad⟩:=H8 ak hx hk aK bw aP an ad;replace⟨aT,e,bR,hL,a9,bf,f,aQ⟩:=H8 aT e bR hL a9 bf f aQ;go_wp2_with fail;go_roundw
      case rel=>exact⟨j+1,by go_num,ao9,cO⟩
      case measure=>simp[intOf];omega
     .have cw:¬L=0:=by rw[a9];exact λe=>aQ (Fv.1 e)
      have dA:((L:Int) == 0)=false:=(by simp;omega);rw[Ab aQ]at f;replace⟨ak,hx,hk,aK,bw,aP,an,e⟩:=H8 ak hx hk aK bw aP an e;replace⟨bR,hL,a9,bf,aQ⟩:=H5 bR hL a9 bf aQ;obtain⟨⟨d1,d2⟩,hd⟩:∃d,d=O9 ⟨ua,ac,uc,ud⟩ whole:=⟨_,rfl⟩;obtain⟨cN,bs⟩:=Ex ((E3 ⟨ua,ac,uc,ud⟩ whole 4).2);have a6:=(hI.out.ok _ (Ai bf.out)).1;have bv:=Y2 a6 bL.out 4 Ln;have kd:=λW=>Axv ⟨ua,ac,uc,ud⟩ whole W a6 bL.out;have cf:(E3 ⟨ua,ac,uc,ud⟩ whole 4).1=(d1,d2):=hd.symm;rw[cf]at kd bv;rw[<-bs]at kd;rw[<-hd]at f;obtain⟨⟨wa,wb,cp,wd⟩,b2⟩:∃v,v=whole:=⟨_,rfl⟩;have a5:wr.heap[w.heap.size]?=O (J (⟨wa,wb,cp,wd⟩:V4).cells 30 (0,0)):=(by rw[b2];exact Ae hK.out.tu.up.us.low cn.out (by have:=cl.out;omega));rw[<-b2]at kd;replace kd:∀W,CS prog 250 #[.agg #[Z G ua,Z G ac,Z G uc,Z G ud],.agg #[Z G wa,Z G wb,Z G cp,Z G wd]] W λe w'=>e=Q (D #[.agg #[Z G d1,Z G d2],Z G cN])/\BW W.heap.size W w':=kd;have b5:=Ac ad;have cJ:=Ac a5;replace⟨ad,hd,bs,a6,bv,cf,b2,a5⟩:=H8 ad hd bs a6 bv cf b2 a5;replace⟨kd,f⟩:=H2 kd f;go_upto_region 13 with fail;clear cx x4 cF;have c4:=Bk ad.out 0 (Z G ua) rfl;have c5:=Bk ad.out 1 (Z G ac) rfl;have c6:=Bk ad.out 2 (Z G uc) rfl;have c7:=Bk ad.out 3 (Z G ud) rfl;have da:=Bk a5.out 0 (Z G wa) rfl;have db:=Bk a5.out 1 (Z G wb) rfl;have dc:=Bk a5.out 2 (Z G cp) rfl;have dd:=Bk a5.out 3 (Z G wd) rfl;go_cut [15,16] (λsv av wx=>xo W0 ao n c us (V (O ⟨ng,0,I⟩) N aF) names u9 t.2 lb (Cw whole t.1 names j) u10 d1 d2 sv wx)
      case first=>
       go_region_law (first
        | (go_simp;go_at_call 250;refine(kd.out _).mono ?_;rintro e w1 ⟨rfl,a⟩;have s2:=a.size;obtain⟨cA,cQ⟩:=Sq a
           (try simp at s2)
           (try simp at cA)
           (try simp at cQ)
           (try have dI:wr.heap.size<w1.heap.size:=by omega)
           replace a:=Hh a))
       all_goals
        go_wp2_with fail;go_meet
        first
         | exact hK.out.s1 a.out
         | exact hK.out.s2 a.out
      case rest=>
       obtain⟨y,g,rfl,hg,bc⟩:=hcut;clear c4 c5 c6 c7 da db dc dd b5 cJ;have c0:=Bk hg 0 (Z G d1) rfl;have c1:=Bk hg 1 (Z G d2) rfl;obtain⟨pk,aA⟩:=Ex (Cw whole t.1 names j);rw[<-aA]at y f;have fe:=Ag y.gj;rcases y.nx with⟨rfl,aR⟩|⟨⟨pi,⟨p1,p2⟩⟩,u2,rfl,aM,aR⟩
       .have e0:=Bk y.gj 0 (Z G 0) rfl;have e1:=Bk y.gj 1 (Z G 0) rfl;have af:Cw whole t.1 names (j+1)=O (kk,(d1,d2)):=f.out
        have am:∀q,lr W0 ao n c us (V (O ⟨ng,0,I⟩) N aF) names u9 t.2 lb (Cw whole t.1 names (j+1)) (Lk ub) (((wc.drewN q).setCell ⟨lb,0,I⟩ (Z G d1)).setCell ⟨lb,1,I⟩ (Z G d2)):=λq=>by
         rw[af];exact(y.drop (A6 _ wc q)).put rfl (.inr ⟨_,_,rfl,hk.out,rfl⟩)
        subst aR;replace⟨y,hg,bc,aA,f,af,am⟩:=H7 y hg bc aA f af am;go_upto_region 15 with fail;go_region_with (fail)
        all_goals
         go_wp2_with fail;go_roundw
         case rel=>exact⟨j+1,by go_num,ao9,Hh (by first|exact am.out 1|exact am.out 0)⟩
         case measure=>simp[intOf];omega
       .have e0:=Bk y.gj 0 (Z G p1) rfl;have e1:=Bk y.gj 1 (Z G p2) rfl;have aG:p1<=9223372036854775807/\p2<=9223372036854775807:=(by obtain⟨u3,cY,_,cX⟩:=Rc aA.symm;have:=Y2 (hI.out.ok u3 (Ai cY)).1 bL.out 4 Ln;have e9:(E3 u3.has whole 4).1=(p1,p2):=cX.symm;rw[e9]at this;exact this);have kc:∀W,CS prog 251 #[.agg #[Z G d1,Z G d2],.agg #[Z G p1,Z G p2]] W λe w'=>e=Q (Z G (F5 (d1,d2) (p1,p2)))/\BW W.heap.size W w':=λW=>Ajg (d1,d2) (p1,p2) W bv.out.1 bv.out.2 aG.1 aG.2;obtain⟨cv,bb⟩:=Ex (F5 (d1,d2) (p1,p2));rw[<-bb]at kc;have af:Cw whole t.1 names (j+1)=if cv<0 then O (kk,(d1,d2))else O (pi,(p1,p2)):=(by rw[f.out,bb]);subst aR;by_cases cC:cv<0
        .have aD:Cw whole t.1 names (j+1)=O (kk,(d1,d2)):=by rw[af,Ad cC]
         have am:∀W q,BW wc.heap.size wc W->lr W0 ao n c us (V (O ⟨ng,0,I⟩) N aF) names u9 t.2 lb (Cw whole t.1 names (j+1)) (Lk ub) (((W.drewN q).setCell ⟨lb,0,I⟩ (Z G d1)).setCell ⟨lb,1,I⟩ (Z G d2)):=λW q hW=>by
          rw[aD];exact((y.drop hW).drop (A6 _ W q)).put rfl (.inr ⟨_,_,rfl,hk.out,rfl⟩)
         replace⟨y,hg,bc,aA,f,af,aD,am⟩:=H8 y hg bc aA f af aD am;replace⟨kc,bb,aG,aM⟩:=H4 kc bb aG aM;go_upto_region 15 with(go_at_call 251;(with_reducible refine(kc.out _).mono ?_);rintro e w1 ⟨rfl,a⟩;have c0:=(Af a (Ac hg.out)).trans c0;have c1:=(Af a (Ac hg.out)).trans c1;have e0:=(Af a (Ac y.out.gj)).trans e0;have e1:=(Af a (Ac y.out.gj)).trans e1;have fe:=Ag (Ae a y.out.gj (Ac y.out.gj));replace a:=Hh a);go_region_with (fail)
         all_goals
          go_wp2_with fail;go_roundw
          case rel=>exact⟨j+1,by go_num,ao9,Hh (by first|exact am.out w1 1 a.out|exact am.out w1 0 a.out)⟩
          case measure=>simp[intOf];omega
        .have aD:Cw whole t.1 names (j+1)=O (pi,(p1,p2)):=by rw[af,Ab cC]
         have am:∀W,BW wc.heap.size wc W->lr W0 ao n c us (V (O ⟨ng,0,I⟩) N aF) names u9 t.2 lb (Cw whole t.1 names (j+1)) (Lk u2.b) W:=λW hW=>by
          rw[aD];exact y.drop hW
         replace⟨y,hg,bc,aA,f,af,aD,am⟩:=H8 y hg bc aA f af aD am;replace⟨kc,bb,aG,aM⟩:=H4 kc bb aG aM;go_wp2_with (go_at_call 251;(with_reducible refine(kc.out _).mono ?_);rintro e w1 ⟨rfl,a⟩;replace a:=Hh a);go_roundw
         case rel=>exact⟨j+1,by go_num,ao9,Hh (am.out w1 a.out)⟩
         case measure=>simp[intOf];omega
    .have cE:¬(j:Int)<N:=ao9;have ci:j=N:=ao9;have bG:Cw whole t.1 names j=O (k,s):=(by rw[ci,<-aC.out];exact bY.out);have bg:=hK.out;rw[bG]at bg;have aO:=bg.tu;rcases bg.nx with⟨e,_⟩|⟨pr,u2,e,be,aR⟩
     .cases e
     .injection e with e;subst e;obtain⟨ub,co,⟨aV,⟨ua,ac,uc,ud⟩,aN⟩⟩:=u2;have aM:u=⟨aV,⟨ua,ac,uc,ud⟩,aN⟩:=(by have h9:=bX.out;rw[<-al.out]at h9;simp only[Bm,be,J8,Wb]at h9;exact h9.symm);have cI:aN=p :: l:=(by have h9:=a0.out;rw[aM]at h9;exact h9);subst cI;have an:=Ai be;obtain⟨ad,aT⟩:=aO.up.us.box _ an;obtain⟨g,aU,cap,e,cs,cj,cB,cD,ce⟩:=(aO.up.us.left _ an).pos (by simp[Cz]);have e':co=V (O ⟨g,aU,I⟩) (Cz (p :: l)).length cap:=e;obtain⟨M,hM⟩:=Ex ((Cz (p :: l)).length);rw[<-hM]at e' cj;subst e';have cy:M=l.length+1:=(by rw[hM,Pi];rfl);have dB:0<M:=ao9;have dC:(1:Int)<=M:=ao9;have cA:1<=cap:=ao9;have c0:wr.cell? ⟨g,aU,I⟩=O (Z G (p:Int)):=ce 0 _ rfl;have x4:=Bk ad 4 (V (O ⟨g,aU,I⟩) M cap) rfl;have fu:=Ag ad;obtain⟨aH,bA⟩:=Ex (Value.slice (if cap=1 then O ⟨g,aU,I⟩else O ⟨g,aU+1,I⟩) (M-1) (cap-1));obtain⟨W3,bT⟩:=Ex (wr.setCell ⟨ub,4,I⟩ aH)
      have b4:g≠ub:=λe9=>by
       obtain⟨c9,ba⟩:=(aO.up.us.left _ an).ar (k:=g) rfl;rw[e9,ad]at ba;injection ba with ba;injection ba with _ ba;exact absurd ba ad9
      have bV:aH=V (O ⟨g,if cap=1 then aU else aU+1,I⟩) (Cz l).length (cap-1):=by
       rw[bA,Pi,show M-1=l.length by omega]
       split<;>rfl
      have bi:iq W0 ao n c (us.set k ⟨ub,aH,⟨aV,⟨ua,ac,uc,ud⟩,l⟩⟩) (V bO N aF) names u9 t.2 W3:=by
       have cG:Mod (λb=>b=ub) wr W3:=(by rw[bT];exact Mod.setCell wr ub 4 _ rfl);refine aO.wt be cG rfl rfl ?_ ?_ (by rw[bV];rfl)
       .rw [bT];have:=Am ad 4 aH;simpa using this
       .have hq:=aO.up.us.left _ an;have cU:C6 wr W0.heap.size (V (O ⟨g,aU,I⟩) M cap) ((p:Int)::Cz l):=hq;have cV:=cU.tail;show C6 W3 W0.heap.size aH (Cz l);rw[bV];exact cV.mod cG (λk9 cR e9=>by simp[Value.ownBlock]at cR;omega)
      have bW:(us.set k (⟨ub,aH,⟨aV,⟨ua,ac,uc,ud⟩,l⟩⟩:bz))[k]?=O ⟨ub,aH,⟨aV,⟨ua,ac,uc,ud⟩,l⟩⟩:=(by rw[Do];simp[(Ap.1 be).1]);obtain⟨⟨c2,c8,c3,⟨na,nb,nc,nd⟩⟩,hx⟩:=Ge ws p bZ.out;have dk:p<n:=(by have:=bZ.out;have:=aY.out;omega);have dl:(p:Int)<n:=ao9;have dr:(0:Int)<=(p:Int):=ao9;obtain⟨jb,aE,rfl,dg,bd⟩:=(hw.out.low (aJ.out.trans (bi.up.us.low.mono aJ.out.size))).cell p _ hx;have z3:W3.cell? ⟨jb,aE+p*7+3,I⟩=O (Z G na):=bd 3 ao9;have z4:W3.cell? ⟨jb,aE+p*7+4,I⟩=O (Z G nb):=bd 4 ao9;have z5:W3.cell? ⟨jb,aE+p*7+5,I⟩=O (Z G nc):=bd 5 ao9;have z6:W3.cell? ⟨jb,aE+p*7+6,I⟩=O (Z G nd):=bd 6 ao9;have aB:=(bi.up.us.box _ (Ai bW)).1;have x0:=Bk aB 0 (Z G ua) rfl;have x1:=Bk aB 1 (Z G ac) rfl;have x2:=Bk aB 2 (Z G uc) rfl;have x3:=Bk aB 3 (Z G ud) rfl;have b6:=Ag aB;have b5:=Ac aB;obtain⟨⟨pa,bN,pc,pd⟩,b0⟩:∃q,q=Kg ⟨ua,ac,uc,ud⟩ ⟨na,nb,nc,nd⟩:=⟨_,rfl⟩
      have kp:∀W,CS prog 252 #[.agg #[Z G ua,Z G ac,Z G uc,Z G ud],.agg #[Z G na,Z G nb,Z G nc,Z G nd]] W λe w'=>e=Q (.agg #[Z G pa,Z G bN,Z G pc,Z G pd])/\BW W.heap.size W w':=λW=>by
       have:=Ajh ⟨ua,ac,uc,ud⟩ ⟨na,nb,nc,nd⟩ W;rw[<-b0]at this;exact this
      obtain⟨bP,a8⟩:=Ex ((us.set k (⟨ub,aH,⟨aV,⟨ua,ac,uc,ud⟩,l⟩⟩:bz)).set k ⟨ub,aH,⟨aV,⟨pa,bN,pc,pd⟩,l⟩⟩)
      have b9:∀w1,BW W3.heap.size W3 w1->iq W0 (O ⟨jb,aE,I⟩) n c bP (V bO N aF) names u9 t.2 ((((w1.setCell ⟨ub,0,I⟩ (Z G pa)).setCell ⟨ub,1,I⟩ (Z G bN)).setCell ⟨ub,2,I⟩ (Z G pc)).setCell ⟨ub,3,I⟩ (Z G pd)):=λw1 hb=>by
       rw[a8];exact bi.uq bW hb ⟨pa,bN,pc,pd⟩
      have bI:bP.map bz.pl=(Cr whole ws P0 names (r+1)).1:=by
       rw[bE.out,a8,aM,<-al.out];simp only[Mz];rw[P5];have cZ:A4 ws p=⟨c2,c8,c3,⟨na,nb,nc,nd⟩⟩:=(by unfold A4;rw[Gt hx]);rw[cZ,b0]
      have aZ:(Cr whole ws P0 names (r+1)).2=t.2++[p]:=(by rw[bE.out]);have cm:=hI.out.out;obtain⟨cM,oL,cL,oe,ck⟩:=aO.out.len;subst oe;have a7:=ck.symm;have bF:oL<=1000000000:=(by rw[<-a7,Pi,cm];omega);have bo:∀Wx,iq W0 (O ⟨jb,aE,I⟩) n c bP (V bO N aF) names (V cM oL cL) t.2 Wx->BW Wx.heap.size Wx (Wx.alloc (J #[Z G (p:Int)] 3 (0,0)))/\Aj (Wx.alloc (J #[Z G (p:Int)] 3 (0,0))) W0.heap.size (V cM oL cL) (Cz t.2) /\
        (Wx.alloc (J #[Z G (p:Int)] 3 (0,0))).cell? ⟨Wx.heap.size,0,I⟩=O (Z G (p:Int))/\W0.heap.size<=(Wx.alloc (J #[Z G (p:Int)] 3 (0,0))).heap.size:=λWx hT=>by
       have hb:BW Wx.heap.size Wx (Wx.alloc (J #[Z G (p:Int)] 3 (0,0))):=Bn;exact⟨hb,hT.out.mod (Mod.ag (S:=λ_=>False) hb) (λ_ _ c=>c),Aa (Ah _ _) 0,by have:=hT.up.us.low.size;have:=hb.size;omega⟩
      subst aR;replace⟨bG,bg,aO,be,aM,an,ad,aT⟩:=H8 bG bg aO be aM an ad aT;replace⟨e,cs,cj,cB,cD,ce,hM,cy⟩:=H8 e cs cj cB cD ce hM cy;replace⟨bV,bi,bW,hx,bd,aB,b0,kp⟩:=H8 bV bi bW hx bd aB b0 kp;replace⟨a8,b9,bI,aZ,cm,ck,a7,bF⟩:=H8 a8 b9 bI aZ cm ck a7 bF;replace⟨bo,b4,hK,ci⟩:=H4 bo b4 hK ci;go_upto_region 19 with fail;rw[<-bA,<-bT];clear bT bA c0 x4 fu;go_region_with (go_at_call 252;((with_reducible refine(kp.out _).mono ?_);rintro e w1 ⟨rfl,a⟩;have x0:=(Af a (by first|omega|(simp;omega))).trans x0;have x1:=(Af a (by first|omega|(simp;omega))).trans x1;have x2:=(Af a (by first|omega|(simp;omega))).trans x2;have x3:=(Af a (by first|omega|(simp;omega))).trans x3;have b6:=λo=>(a.frozen (p:=⟨ub,o,I⟩) (by first|(show ub<_;omega)|(simp;omega))).trans (b6 o);replace a:=Hh a))
      all_goals
       have cd:BW W3.heap.size W3 w1:=by first|exact a.out|exact Acg a.out
       have bk:=b9.out w1 cd;obtain⟨Wx,ca⟩:=Ex ((((w1.setCell ⟨ub,0,I⟩ (Z G pa)).setCell ⟨ub,1,I⟩ (Z G bN)).setCell ⟨ub,2,I⟩ (Z G pc)).setCell ⟨ub,3,I⟩ (Z G pd));rw[<-ca]at bk;obtain⟨a1,a2,a3,a4⟩:=bo.out Wx bk;replace⟨cd,bk,a1,a2,a3,a4⟩:=H6 cd bk a1 a2 a3 a4;clear x0 x1 x2 x3 b6 z3 z4 z5 z6;go_upto_region 20 with fail;rw[<-ca];clear ca;go_wp2_with (at_builtin;refine Mp rfl _ _ rfl W0.heap.size oL _ rfl a2.out a7.out ⟨Wx.heap.size,0,I⟩ 1 rfl (p:Int) a3.out bF.out a4.out ?_;intro g7 cr w7 h7 cg cb;replace⟨h7,cg,cb⟩:=H3 h7 cg cb)
       have cP:Hid (iq W0 (O ⟨jb,aE,I⟩) n c bP (V bO N aF) names (V (O ⟨g7,0,I⟩) (oL+1) cr) (Cr whole ws P0 names (r+1)).2 w7):=by
        rw[aZ.out]
        refine bk.out.push a1.out cg.out ?_ (λk hk=>by
         simp[Value.ownBlock]at hk;subst hk;rcases cb.out with e|e
         .exact .inl e
         .exact .inr e)
        rw[Ajm];exact h7.out
       go_roundw
       case rel=>exact⟨r+1,bP,by go_num,ao9,cP,bI,b7⟩
       case measure=>simp[intOf];omega
  .have cH:¬(r:Int)<n:=ao9;have bJ:r=n:=ao9;have aX:K8 whole hs ws=(Cr whole ws P0 names r).2:=(by rw[bx.out,aY.out,bJ]);replace⟨aX,bJ⟩:=H2 aX bJ;go_wp2;go_ret;refine⟨u9,rfl,?_,aJ.out.trans (hT.out.up.us.low.mono aJ.out.size)⟩;rw[aX.out];exact hT.out.out.le aJ.out.size
end
section
open Go.RowKit Go.Maps Go.Sort Go.Shelf
def A0v (m:Nat):AnyZI.SortsIn prog Tryz.ic Fence.wide m:=
 ⟨λd c cap ss W e a b=>Kw.2 (AnyM.slices_Sort_int Tryz.ug d c cap ss W e a b), λp cap W=>Kw.2 (AnyM.slices_Sort_int_none Tryz.ug p cap W)⟩
def A0w (a:Option Nat) (W:WD):CS prog 54 #[.map a] W λe w'=>e=Q (.func (.func 92) #[] #[K (O ⟨W.heap.size,0,I⟩)])/\w'=W.alloc (J #[.map a] 108):=
 (Kw (n:=5)).1 (AnyZI.keys_in Tryz.tj Fence.wide 5 trivial rfl a W)
def A0x {l ss:List Int} (f:l.Pairwise (·<·)) (e:ss.Perm l):ss.mergeSort (λx y=>decide (x<=y))=l:=by
 refine List.Perm.eq_of_pairwise (le:=λa b=>decide (a<=b)=true) (λa b _ _ h1 d=>by have:=G9 h1;have:=G9 d;omega) ?_ ?_ ((List.mergeSort_perm ss _).trans e)
 .exact List.pairwise_mergeSort (λa b c h1 d=>by have:=G9 h1;have:=G9 d;exact Bs ao9) (λa b=>by by_cases h:a<=b<;>simp[h];omega) ss
 .exact f.imp λh=>Bs ao9
def A0y (l:List (Int×Cl)):intKeys (Ja l)=l.map Prod.fst:=by
 show((l.map λp=>(Fi p.1,mq p.2)).map λp=>Go.intOf p.1)=_;rw[De];exact Vz λp _=>rfl
def A0z {d:Nat} {l:List (Int×Cl)} {w:WD} (h:K7 w d l) (r:(l.map Prod.fst).Pairwise (·<·)) (t:l.length<=1000) :
  CS prog 53 #[.func (.func 92) #[] #[K (O ⟨w.heap.size,0,I⟩)]] (w.alloc (J #[.map (O d)] 108)) λe w'=>∃v,e=Q v/\Aj w' w.heap.size v (l.map Prod.fst)/\BW w.heap.size w w':=by
 refine(Kw (n:=5)).1 ?_;have i:=h.lt;have u:maxLen=9223372036854775807:=by kernel_rfl
 have c:Maps.size (Ja l)=l.length:=by simp[Ja,Maps.size]
 have b:SeqGives Fence.wide 2 prog 92 #[K (O ⟨w.heap.size,0,I⟩)] encZ (λss=>ss.Perm (intKeys (Ja l))) (Maps.size (Ja l)) (w.alloc (J #[.map (O d)] 108)):=
  AnyZI.keys_gives (ρ:=Tryz.jr) { Tryz.tj with } Fence.wide _ trivial rfl ao9 w.heap.size d l.length (Ja l) _ as9 as9 (by
   obtain⟨p,a,g,o,s,q⟩:=h
   exact⟨p,a,(Gd _ _ d i).trans g,o,s,q⟩)
 have k:=AnyZI.sorted_in Tryz.sw Fence.wide 5 trivial trivial trivial trivial rfl ao9 (A0v _) (enters_of func91 (by kernel_rfl) rfl) 92 #[K (O ⟨w.heap.size,0,I⟩)] trivial (enters_of func92 (by kernel_rfl) rfl) _ _ (by rw[c];omega) (by rw[c];omega) _ b;change CallsIn _ _ prog 53 _ _ _ at k;refine k.mono ?_;rintro e w' ⟨v,ss,rfl,f,j,m,g⟩;rw[A0y]at f;rw[A0x r f,f.length_eq]at j;exact⟨v,rfl,⟨ownsRow_base_a j as9⟩,((Below.refl _ w).alloc Ln _).trans (g.mono as9)⟩
