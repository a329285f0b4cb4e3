/- Parts of a proof. No condition. -/
import Derived.Test.YtimlcnhcjndijaaGreatDoorG29
import Derived.Test.YtimlcnhcjndijaaGreatDoorG34
set_option linter.all false
set_option maxRecDepth 100000
set_option maxHeartbeats 3200000
namespace Go.Proofs.YtimlcnhcjndijaaGreatDoor
open Option renaming some->Z,none->I
open Obj renaming cells->V
open IntKind renaming i64->O
open Value renaming int->G,pointer->Q,slice->J,string->Y,tuple->E
open Ending renaming returned->K
open Go renaming World->WD,Value->VL,Calls->CS
open Go.RowKit renaming Below->BW
open Go.Proofs.Tryz
section
open Go.RowKit Go.Maps Go.Lib
def El (us:List bu):Nat:=(us.map λu=>u.left.length).sum
def Ady {us:List bu} {k:Nat} {u:bu} (f:bu->bu) (a:us[k]?=Z u):El (us.modify k f)+u.left.length=El us+(f u).left.length:=by
 induction us generalizing k with
 | nil=>simp at a
 | cons x r ih=>
  cases k with
  | zero=>
   simp at a;subst a;simp[El];omega
  | succ k=>
   have:=ih (k:=k) (by simpa using a);simp[El]at this ⊢;omega
def Zw {us:List bu} {s:ByteArray} {k:Nat} (h:Gx us s=Z k):∃u,us[k]?=Z u/\u.name=s:=by
 unfold Gx at h;rcases Tx (uq s) us with⟨h1,_⟩|⟨c,u,h1,a,b⟩
 .rw [h1]at h;cases h
 .rw [h1]at h;injection h with h;subst h;have:=Uk b;exact⟨u,a,by simpa[uq]using this⟩
def Azo (us:List bu) (s:ByteArray) (i:Nat):El (Aw us s i)=El us+1:=by
 unfold Aw
 cases h:Gx us s with
 | none=>simp[El]
 | some k=>
  obtain⟨u,a,_⟩:=Zw h;have:=Ady (λu=>⟨u.name,u.has,u.left++[i]⟩) a;simp at this ⊢;omega
def Al2 (ws:List dj):∀j,El (Cb ws j)=j
 | 0=>rfl
 | j+1=>by
  show El (Aw (Cb ws j) _ j)=j+1;rw[Azo,Al2 ws j]
def Azp (us:List bu) (h:eo):El (Cw us h)=El us:=by
 unfold Cw
 cases h2:Gx us h.user with
 | none=>rfl
 | some k=>
  obtain⟨u,a,_⟩:=Zw h2;have:=Ady (λu=>⟨u.name,Ko u.has h.has,u.left⟩) a;simp at this ⊢;omega
def Azq (a:List eo) (ws:List dj):El (C9 a ws)=ws.length:=by
 unfold C9
 have b:∀(a:List eo) (l:List bu),El (a.foldl Cw l)=El l:=λa=>by
  induction a with
  | nil=>intro l;rfl
  | cons h r ih=>intro l;exact(ih _).trans (Azp l h)
 have:El ((a.foldl Cw (Cb ws ws.length)).map λu=>⟨u.name,u.has,Gw ws u.left⟩)=El (a.foldl Cw (Cb ws ws.length)):=by unfold El;rw[Dg];congr 1;apply Uf;intro u _;simp[Gw,Wq]
 rw[this,b,Al2]
def O3 (n:Nat) (us:List bu):Prop:=∀u,u∈us->O2 u.has/\∀p,p∈u.left->p<n
def Al3 (u v:V4):O2 (Ko u v):=λd f=>by
 have a:=P9 (E9 u.a+E9 v.a);have b:=P9 (E9 u.b+E9 v.b);have c:=P9 (E9 u.c+E9 v.c);have e:=P9 (E9 u.d+E9 v.d)
 rcases(by omega:d=0\/d=1\/d=2\/d=3)with rfl|rfl|rfl|rfl<;>simp only[Ko,J3,V4.get]<;>omega
def Azr:O2 ⟨0,0,0,0⟩:=λd a=>by
 rcases(by omega:d=0\/d=1\/d=2\/d=3)with rfl|rfl|rfl|rfl<;>simp[V4.get]
def Azs (d:List eo) (ws:List dj):O3 ws.length (C9 d ws):=by
 have h0:∀j,j<=ws.length->O3 ws.length (Cb ws j):=λj=>by
  induction j with
  | zero=>intro _ u a;cases a
  | succ j ih=>
   intro k u a;have g:=ih ao9;have a:u∈Aw (Cb ws j) (A7 ws j).user j:=a;unfold Aw at a;split at a
   .rcases C4.1 a with a|a
    .exact g u a
    .simp at a;subst a;exact⟨Azr,λp b=>by simp at b;omega⟩
   .rcases O0 a with a|⟨y,e,rfl⟩
    .exact g u a
    .refine ⟨(g y e).1,λp b=>?_⟩;rcases C4.1 b with b|b
     .exact (g y e).2 p b
     .simp at b;omega
 have f:∀(l:List bu) (h:eo),O3 ws.length l->O3 ws.length (Cw l h):=λl h c u a=>by
  unfold Cw at a;split at a
  .exact c u a
  .rcases O0 a with a|⟨y,e,rfl⟩
   .exact c u a
   .exact ⟨Al3 _ _,(c y e).2⟩
 have i:∀(d:List eo) (l:List bu),O3 ws.length l->O3 ws.length (d.foldl Cw l):=λd=>by
  induction d with
  | nil=>intro l c;exact c
  | cons h r ih=>intro l c;exact ih _ (f l h c)
 intro u a;unfold C9 at a;obtain⟨y,e,rfl⟩:=A8.1 a;have:=i d _ (h0 ws.length Ln) y e;exact⟨this.1,λp b=>this.2 p (by simpa[Gw,Ug]using b)⟩
def Azt {n:Nat} {us:List bu} (h:O3 n us) (ws:List dj) (k:Nat):O3 n (us.modify k (J4 ws)):=λu b=>by
 rcases O0 b with b|⟨y,d,rfl⟩
 .exact h u b
 .have a:=h y d;unfold J4;split
  .exact a
  .rename_i p l e;exact⟨Al3 _ _,λq c=>a.2 q (by rw[e];exact Df _ c)⟩
def Azu (ws:List dj) (us:List bu) (k:Nat):(us.modify k (J4 ws)).map bu.name=us.map bu.name:=by
 apply Eg;intro j;simp only[Bg,Fp];split
 .rename_i h;subst h
  cases us[k]? with
  | none=>rfl
  | some u=>
   show Z (J4 ws u).name=Z u.name;unfold J4
   split<;>rfl
 .cases us[j]?<;>rfl
def Azv {us:List bu} (i:(us.map bu.name).Nodup) {k:Nat} {u:bu} (c:us[k]?=Z u):Gx us u.name=Z k:=by
 unfold Gx;rcases Tx (uq u.name) us with⟨_,a⟩|⟨j,u',h1,a,f⟩
 .have:=R4.1 a u (Ai c);simp[uq]at this
 .rw [h1];have b:u'.name=u.name:=by have:=Uk f;simpa[uq]using this
  have g:(us.map bu.name)[k]?=Z u.name:=by simp[c]
  have h:(us.map bu.name)[j]?=Z u.name:=by simp[a,b]
  obtain⟨l,d⟩:=Aq.1 g;obtain⟨m,e⟩:=Aq.1 h;rw[(List.getElem_inj i).1 (e.trans d.symm)]
def Azw (whole:V4) {us:List bu} (q:(us.map bu.name).Nodup) (a:List ByteArray) (h:0<El us) (b:∀u,u∈us->u.name∈a):∃k s,Cx whole us a a.length=Z (k,s):=by
 obtain⟨u,f,p⟩:∃u,u∈us/\u.left≠[]:=by
  false_or_by_contra
  rename_i n
  have:El us=0:=by
   unfold El;rw[List.sum_eq_zero_iff_forall_eq_nat];intro x r;obtain⟨u,f,rfl⟩:=A8.1 r
   false_or_by_contra
   rename_i l;exact n ⟨u,f,λe=>l (by rw[e];rfl)⟩
  omega
 obtain⟨k,i⟩:=Dn f;obtain⟨j,g⟩:=Dn (b u f);have o:=(Aq.1 g).1
 have c:∀m,(∃k s,Cx whole us a m=Z (k,s))->∃k s,Cx whole us a (m+1)=Z (k,s):=λm ⟨k,s,e⟩=>by
  unfold Cx;rw[e];split
  .exact ⟨k,s,rfl⟩
  .split
   .exact ⟨k,s,rfl⟩
   .split
    .exact ⟨k,s,rfl⟩
    .simp only
     split<;>exact⟨_,_,rfl⟩
 have at_:∃k s,Cx whole us a (j+1)=Z (k,s):=by
  unfold Cx;rw[g];simp only[Option.bind_some];rw[Azv q i];simp only[i];rw[Ac p];split
  .exact ⟨_,_,rfl⟩
  .split<;>exact⟨_,_,rfl⟩
 have t:∀d,∃k s,Cx whole us a (j+1+d)=Z (k,s):=λd=>by
  induction d with
  | zero=>exact at_
  | succ d ih=>exact c _ ih
 have:=t (a.length-(j+1));rw[show j+1+(a.length-(j+1))=a.length by omega]at this;exact this
def Al4 (us:List bu) {u:bu} (a:u∈us):u.name∈F2 us:=by
 unfold F2;refine A8.2 ⟨u.name.data.toList,?_,?_⟩
 .rw [Ug];exact A8.2 ⟨u,a,rfl⟩
 .simp
def Rw {whole:V4} {us:List bu} {a:List ByteArray}:∀ {m k:Nat} {s:fj},Cx whole us a m=Z (k,s)->∃u,us[k]?=Z u/\u.left≠[]/\s=Pt u.has whole
 | 0,k,s,h=>by cases h
 | m+1,k,s,h=>by
  unfold Cx at h;split at h
  .exact Rw h
  .rename_i e _;split at h
   .exact Rw h
   .rename_i u c;split at h
    .exact Rw h
    .rename_i b;split at h
     .injection h with h;injection h with h1 h2;subst h1 h2;exact⟨u,c,b,rfl⟩
     .rename_i i f d;split at h
      .injection h with h;injection h with h1 h2;subst h1 h2;exact⟨u,c,b,rfl⟩
      .injection h with h;injection h with h1 h2;subst h1 h2;exact Rw d
structure Wd (whole:V4) (ws:List dj) (names:List ByteArray) (P0:List bu) (t:List bu×List Nat) (r:Nat):Prop where
 left:El t.1+r=ws.length
 ok:O3 ws.length t.1
 nm:t.1.map bu.name=P0.map bu.name
 out:t.2.length=r
def Al5 {whole:V4} {ws:List dj} {a:List ByteArray} {b:List bu} {r:Nat} (i:(b.map bu.name).Nodup) (g:∀u,u∈b->u.name∈a) (h:Wd whole ws a b (Cu whole ws b a r) r) (hr:r<ws.length) :
  ∃k s u p l,Cx whole (Cu whole ws b a r).1 a a.length=Z (k,s)/\(Cu whole ws b a r).1[k]?=Z u/\u.left=p :: l/\p<ws.length /\
   Cu whole ws b a (r+1)=((Cu whole ws b a r).1.set k ⟨u.name,Ko u.has (A7 ws p).om,l⟩,(Cu whole ws b a r).2++[p])/\Wd whole ws a b (Cu whole ws b a (r+1)) (r+1):=by
 obtain⟨h1,n,m,y⟩:=h;generalize ht:Cu whole ws b a r=t at h1 n m y;have d:(t.1.map bu.name).Nodup:=by rw[m];exact i
 obtain⟨k,s,o⟩:=Azw whole d a ao9 (λu f=>by
  have:u.name∈b.map bu.name:=by rw[<-m];exact Kg f
  obtain⟨u2,v,e⟩:=A8.1 this;rw[<-e]
  exact g u2 v)
 obtain⟨u,f,z,_⟩:=Rw o
 cases hul:u.left with
 | nil=>exact absurd hul z
 | cons p l=>
  have q:=(n u (Ai f)).2 p (by rw[hul];exact D6 ..);have c:Cu whole ws b a (r+1)=(t.1.modify k (J4 ws),t.2++[p]):=by unfold Cu;rw[ht,o];simp only;rw[f];simp only;rw[hul];rfl
  have j:J4 ws u=⟨u.name,Ko u.has (A7 ws p).om,l⟩:=by unfold J4;rw[hul]
  refine⟨k,s,u,p,l,o,f,hul,q,?_,?_⟩
  .rw [c,Rr _ _ _ f,j]
  .rw [c];have x:=Ady (J4 ws) f;rw[j,hul]at x;simp only[D7]at x;exact⟨by show El (t.1.modify k (J4 ws))+(r+1)=ws.length;omega,Azt n ws k,by rw[Azu];exact m,by simp;omega⟩
def Al6 (whole:V4) (b:List eo) (ws:List dj) (a:List ByteArray):Wd whole ws a (C9 b ws) (Cu whole ws (C9 b ws) a 0) 0:=⟨by show El (C9 b ws)+0=_;rw[Azq];rfl,Azs b ws,rfl,rfl⟩
def Ck (us:List bu):List Nat:=(us.map bu.left).flatten
def Zx:∀ {us:List bu} {k:Nat} {u:bu} (f:bu->bu),us[k]?=Z u->∃A B,Ck us=A++(u.left++B)/\Ck (us.modify k f)=A++((f u).left++B)
 | [],_,_,_,h=>by simp at h
 | v :: us,0,u,f,h=>by
  simp at h;subst h;exact⟨[],Ck us,by simp[Ck],by simp[Ck]⟩
 | v :: us,k+1,u,f,h=>by
  obtain⟨A,B,h1,a⟩:=Zx (us:=us) (k:=k) f (by simpa using h);refine⟨v.left++A,B,?_,?_⟩
  .show Ck (v :: us)=_
   have:Ck (v :: us)=v.left++Ck us:=by simp[Ck]
   rw[this,h1,Fq]
  .rw [Wo]
   have:Ck (v :: us.modify k f)=v.left++Ck (us.modify k f):=by simp[Ck]
   rw[this,a,Fq]
def Azx (us:List bu) (s:ByteArray) (i:Nat):(Ck (Aw us s i)).Perm (Ck us++[i]):=by
 unfold Aw
 cases h:Gx us s with
 | none=>simp[Ck]
 | some k=>
  obtain⟨u,b,_⟩:=Zw h;obtain⟨A,B,h1,a⟩:=Zx (λu=>⟨u.name,u.has,u.left++[i]⟩) b;simp only;rw[h1,a];simp only[Fq];refine Aag A (Aag u.left ?_);exact List.perm_append_comm
def Al7 (ws:List dj):∀j,(Ck (Cb ws j)).Perm (List.range j)
 | 0=>Um _
 | j+1=>by
  show(Ck (Aw (Cb ws j) _ j)).Perm _;rw[Xd];exact(Azx _ _ _).trans ((Al7 ws j).append_right [j])
def Azy (us:List bu) (h:eo):Ck (Cw us h)=Ck us:=by
 unfold Cw
 cases h2:Gx us h.user with
 | none=>rfl
 | some k=>
  obtain⟨u,c,_⟩:=Zw h2;obtain⟨A,B,a,b⟩:=Zx (λu=>⟨u.name,Ko u.has h.has,u.left⟩) c;simp only;rw[a,b]
def Al8 (f:List Nat->List Nat) (a:∀l,(f l).Perm l):∀us:List bu,(Ck (us.map λu=>⟨u.name,u.has,f u.left⟩)).Perm (Ck us)
 | []=>Um _
 | u :: us=>by
  have h1:Ck ((u :: us).map λu=>(⟨u.name,u.has,f u.left⟩:bu))=f u.left++Ck (us.map λu=>⟨u.name,u.has,f u.left⟩):=by simp[Ck]
  have b:Ck (u :: us)=u.left++Ck us:=by simp[Ck]
  rw[h1,b];exact(a u.left).append (Al8 f a us)
def Azz (a:List eo) (ws:List dj):(Ck (C9 a ws)).Perm (List.range ws.length):=by
 have b:∀(a:List eo) (l:List bu),Ck (a.foldl Cw l)=Ck l:=λa=>by
  induction a with
  | nil=>intro l;rfl
  | cons h r ih=>intro l;exact(ih _).trans (Azy l h)
 unfold C9;refine(Al8 (Gw ws) (λl=>List.mergeSort_perm l _) _).trans ?_;rw[b];exact Al7 ws ws.length
def Al9 (whole:V4) (ws:List dj) (us:List bu) (a:List ByteArray):∀r,(Ck (Cu whole ws us a r).1++(Cu whole ws us a r).2).Perm (Ck us)
 | 0=>by
  show(Ck us++[]).Perm _;rw[Nf]
 | r+1=>by
  have c:=Al9 whole ws us a r;unfold Cu;generalize Cu whole ws us a r=t at c ⊢
  cases hp:Cx whole t.1 a a.length with
  | none=>exact c
  | some ks=>
   obtain⟨k,s⟩:=ks;simp only
   cases hk:t.1[k]? with
   | none=>exact c
   | some u=>
    obtain⟨i,b,h,_⟩:=Rw hp;rw[hk]at b;injection b with b;subst b;obtain⟨A,B,h1,g⟩:=Zx (J4 ws) hk;simp only;refine List.Perm.trans ?_ c;rw[h1,g]
    cases hul:u.left with
    | nil=>exact absurd hul h
    | cons p l=>
     have e:(J4 ws u).left=l:=(by unfold J4;rw[hul]);rw[e];show((A++(l++B))++(t.2++[p])).Perm ((A++(p :: l++B))++t.2);have d:(A++(p :: l++B))++t.2=A++(p :: (l++B++t.2)):=as9;have f:(A++(l++B))++(t.2++[p])=A++(l++B++t.2++[p]):=as9;rw[d,f];refine Aag A ?_;exact List.perm_append_singleton p _
def Ama (ws:List dj):∀j,((Cb ws j).map bu.name).Nodup
 | 0=>List.nodup_nil
 | j+1=>by
  have d:=Ama ws j;show((Aw (Cb ws j) (A7 ws j).user j).map bu.name).Nodup;unfold Aw
  cases h:Gx (Cb ws j) (A7 ws j).user with
  | none=>
   simp only[C2,It,Sb];refine R6.2 ⟨d,as9,λa f b c e=>?_⟩;simp at c;obtain⟨u,g,rfl⟩:=A8.1 f;unfold Gx at h;have:=List.findIdx?_eq_none_iff.1 h u g;simp[uq]at this;exact this (e.trans c)
  | some k=>
   simp only
   have e:((Cb ws j).modify k λu=>(⟨u.name,u.has,u.left++[j]⟩:bu)).map bu.name=(Cb ws j).map bu.name:=by
    apply Eg;intro i;simp only[Bg,Fp]
    cases (Cb ws j)[i]? with
    | none=>rfl
    | some u=>
     simp only[Kj]
     split<;>rfl
   rw[e];exact d
def Az0 (us:List bu) (h:eo):(Cw us h).map bu.name=us.map bu.name:=by
 unfold Cw
 cases h2:Gx us h.user with
 | none=>rfl
 | some k=>
  simp only;apply Eg;intro i;simp only[Bg,Fp]
  cases us[i]? with
  | none=>rfl
  | some u=>
   simp only[Kj]
   split<;>rfl
def Az1 (a:List eo) (ws:List dj):((C9 a ws).map bu.name).Nodup:=by
 have b:∀(a:List eo) (l:List bu),(a.foldl Cw l).map bu.name=l.map bu.name:=λa=>by
  induction a with
  | nil=>intro l;rfl
  | cons h r ih=>intro l;exact(ih _).trans (Az0 l h)
 unfold C9;rw[Dg];show((a.foldl Cw (Cb ws ws.length)).map bu.name).Nodup;rw[b];exact Ama ws ws.length
def Amb (whole:V4) (a:List eo) (ws:List dj):∀r,r<=ws.length->Wd whole ws (F2 (C9 a ws)) (C9 a ws) (Cu whole ws (C9 a ws) (F2 (C9 a ws)) r) r
 | 0,_=>Al6 whole a ws _
 | r+1,hr=>by
  obtain⟨_,_,_,_,_,_,_,_,_,_,h⟩:=Al5 (Az1 a ws) (λu b=>Al4 _ b) (Amb whole a ws r ao9) ao9;exact h
def Zy (whole:V4) (a:List eo) (ws:List dj):(Lj whole a ws).Perm (List.range ws.length):=by
 have h:=Amb whole a ws ws.length Ln;have b:=(Al9 whole ws (C9 a ws) (F2 (C9 a ws)) ws.length).trans (Azz a ws)
 have h0:Ck (Cu whole ws (C9 a ws) (F2 (C9 a ws)) ws.length).1=[]:=by
  apply Gb.1
  have e:∀us:List bu,(Ck us).length=El us:=λus=>by
   unfold Ck El;rw[List.length_flatten,Dg];rfl
  rw[e];have:=h.left;omega
 rw[h0,Ph]at b;exact b
def Az2 (whole:V4) (a:List eo) (ws:List dj):(Lj whole a ws).Nodup:=(Zy whole a ws).nodup_iff.2 List.nodup_range
def Zz (whole:V4) (a:List eo) (ws:List dj) {i:Nat} (h:i∈Lj whole a ws):i<ws.length:=Xi.1 ((Zy whole a ws).mem_iff.1 h)
def yk (l:List ByteArray):List VL:=l.map Value.string
structure ja (w:WD) (ao:Option Addr) (n c:Nat) (us:List cq) (nv:VL) (names:List ByteArray) (ov:VL) (out:List Nat) (wr:WD):Prop where
 up:ic De w ao n c us wr
 nm:wr.ownsRow w.heap.size 9 1 nv names.length (yk names)
 out:Al wr w.heap.size ov (C0 out)
 oa:∀u,u∈us->∀k,ov.ownBlock=Z k->u.lv.ownBlock≠Z k
variable {w wr w1 w':WD} {ao:Option Addr} {n c:Nat} {nv:VL} {us:List cq} {names:List ByteArray} {ov:VL} {out:List Nat}
def ja.drop (h:ja w ao n c us nv names ov out wr) (a:BW wr.heap.size wr w'):ja w ao n c us nv names ov out w':=
 ⟨h.up.drop Vv a,Bb (S:=λ_=>False) h.nm (Mod.ag a) (λ_ _ c=>c),h.out.mod (Mod.ag (S:=λ_=>False) a) (λ_ _ c=>c),h.oa⟩
def ja.ubk (h:ja w ao n c us nv names ov out wr) {u:cq} (g:u∈us):∀k,(k=u.b\/u.lv.ownBlock=Z k)->nv.ownBlock≠Z k/\ov.ownBlock≠Z k:=λk d=>by
 refine⟨λe=>?_,λe=>?_⟩
 .obtain ⟨i,f,_⟩:=C8 h.nm e;rcases d with d|d
  .have:=(h.up.us.box u g).1;rw[<-d,f]at this;injection this with this;injection this with _ this;exact absurd this ad9
  .obtain ⟨j,a⟩:=Vv.aw (h.up.us.left u g) k d;rw[f]at a;injection a with a;injection a with _ a;exact absurd a ad9
 .rcases d with d|d
  .obtain ⟨i,f,_⟩:=C8 h.out.row e;have:=(h.up.us.box u g).1;rw[<-d,f]at this;injection this with this;injection this with _ this;exact absurd this ad9
  .exact h.oa u g k e d
def ja.xy (h:ja w ao n c us nv names ov out wr) {i:Nat} {u u':cq} (p:us[i]?=Z u) (m:Mod (λb=>b=u.b) wr w') (q:u'.b=u.b) (r:u'.pl.name=u.pl.name) (d:w'.heap[u.b]?=Z (V u'.cells 335 (0,0)))
  (g:De w' w.heap.size u'.lv (C0 u'.pl.left)) (f:u'.lv.ownBlock=u.lv.ownBlock):ja w ao n c (us.set i u') nv names ov out w':=by
 have l:=Ai p;have j:=h.ubk l;refine⟨h.up.set Vv p (m.mono λ_ _ e=>.inl e) q r d g λk a=>.inl (f▸a),Bb h.nm m (λk a e=>?_),h.out.mod m (λk a e=>(j k (.inl e)).2 a),λy o k a e=>?_⟩
 .exact (j k (.inl e)).1 a
 .rcases Wk o with o|rfl
  .exact h.oa y o k a e
  .rw [f]at e;exact h.oa u l k a e
def ja.vr (h:ja w ao n c us nv names ov out wr) {k:Nat} {u:cq} (l:us[k]?=Z u) {w1:WD} (p:BW wr.heap.size wr w1) (v:V4) :
  ja w ao n c (us.set k ⟨u.b,u.lv,⟨u.pl.name,v,u.pl.left⟩⟩) nv names ov out ((((w1.setCell ⟨u.b,0,I⟩ (G O v.a)).setCell ⟨u.b,1,I⟩ (G O v.b)).setCell ⟨u.b,2,I⟩ (G O v.c)).setCell ⟨u.b,3,I⟩ (G O v.d)):=by
 have h1:=h.drop p;have f:=Ai l;obtain⟨j,_⟩:=h1.up.us.box u f;have m:∀(W:WD) (o:Nat) (x:VL),Mod (λb=>b=u.b) W (W.setCell ⟨u.b,o,I⟩ x):=λW o x=>Mod.setCell W u.b o x rfl;have i:Mod (λb=>b=u.b) w1 ((((w1.setCell ⟨u.b,0,I⟩ (G O v.a)).setCell ⟨u.b,1,I⟩ (G O v.b)).setCell ⟨u.b,2,I⟩ (G O v.c)).setCell ⟨u.b,3,I⟩ (G O v.d)):=(((m _ _ _).trans (m _ _ _)).trans (m _ _ _)).trans (m _ _ _)
 have q:u.lv.ownBlock≠Z u.b:=λe=>by
  obtain⟨r,g⟩:=Vv.aw (h1.up.us.left u f) _ e;rw[j]at g;injection g with g;injection g with _ g;exact absurd g ad9
 refine h1.xy l i rfl rfl ?_ ((h1.up.us.left u f).mod i (λk l e=>q (by rw[l,e]))) rfl;have:=Am (Am (Am (Am j 0 (G O v.a)) 1 (G O v.b)) 2 (G O v.c)) 3 (G O v.d);simpa using this
def ja.push (h:ja w ao n c us nv names ov out wr) (x:BW wr.heap.size wr w1) {m:VL} {g:List Nat} (y:w1.grownBy w' ov.ownBlock) (ho:Al w' w.heap.size m (C0 g)) (v:∀k,m.ownBlock=Z k->ov.ownBlock=Z k\/k=w1.heap.size):ja w ao n c us nv names m g w':=by
 have h1:=h.drop x;have p:=Mod.grown y (λk a=>a);obtain⟨s,cl,z⟩:=h1.up.us.qi
 have t:∀k,ov.ownBlock=Z k->∃c,w1.heap[k]?=Z (V c 3 (0,0)):=λk a=>by
  obtain⟨i,d,_⟩:=C8 h1.out.row a;exact⟨i,d⟩
 have j:∀(k:Nat) (o:Obj),w1.heap[k]?=Z o->(∀c,o≠V c 3 (0,0))->w'.heap[k]?=Z o:=λk o a r=>p.aw a λe=>by
  obtain⟨i,d⟩:=t k e;rw[d]at a;injection a with a;exact r i a.symm
 refine⟨⟨⟨h1.up.us.low.trans (p.below h1.up.us.low.size (λk a=>(h1.out.lt k a).1)),?_,h1.up.us.mlt,λu f=>⟨j _ _ (h1.up.us.box u f).1 (λc e=>by injection e with _ e;exact absurd e ad9),(h1.up.us.box u f).2⟩,λu f=>(h1.up.us.left u f).mod p (λk a e=>h1.oa u f k e a),h1.up.us.names,h1.up.us.one⟩,j _ _ h1.up.pb (λc e=>by injection e with _ e;exact absurd e ad9)⟩,
  Bb h1.nm p (λk a e=>?_),ho,λu f k a e=>?_⟩
 .obtain ⟨s,l,q,rr⟩:=h1.up.us.map;exact⟨s,l,j _ _ q (λc e=>by cases e),rr⟩
 .obtain ⟨i,d⟩:=t k e;obtain⟨c2,b,_⟩:=C8 h1.nm a;rw[d]at b;injection b with b;injection b with _ b;exact absurd b ad9
 .rcases v k a with i|i
  .exact h1.oa u f k i e
  .have:=((h1.up.us.left u f).lt k e).2;omega
def ja.off (h:ja w ao n c us nv names ov out wr) {lb:Nat} {cs:Array VL} (i:wr.heap[lb]?=Z (V cs 333 (0,0))) (p:w.heap.size<=lb) (j:Mod (λb=>b=lb) wr w'):ja w ao n c us nv names ov out w':=by
 obtain⟨t,z,x⟩:=h.up.us.qi
 have f:∀(k:Nat) (o:Obj),wr.heap[k]?=Z o->(∀c,o≠V c 333 (0,0))->w'.heap[k]?=Z o:=λk o a q=>j.aw a λe=>by
  rw[e,i]at a;injection a with a;exact q cs a.symm
 have r:∀ {k:Nat} {c:Array VL} {T:TypeId},wr.heap[k]?=Z (V c T (0,0))->T≠333->k≠lb:=λa v e=>by
  rw[e,i]at a;injection a with a;injection a with _ a;exact v a.symm
 refine⟨⟨⟨h.up.us.low.trans (j.below h.up.us.low.size (λk a=>by rw[a];exact p)),?_,h.up.us.mlt,λu l=>⟨f _ _ (h.up.us.box u l).1 (λc e=>by injection e with _ e;exact absurd e ad9),(h.up.us.box u l).2⟩,λu l=>(h.up.us.left u l).mod j (λk a e=>?_),h.up.us.names,h.up.us.one⟩,f _ _ h.up.pb (λc e=>by injection e with _ e;exact absurd e ad9)⟩,
  Bb h.nm j (λk a e=>?_),h.out.mod j (λk a e=>?_),h.oa⟩
 .obtain ⟨t,g,m,y⟩:=h.up.us.map;exact⟨t,g,f _ _ m (λc e=>by cases e),y⟩
 .obtain ⟨s,d⟩:=(h.up.us.left u l).aw a;exact r d ad9 e
 .obtain ⟨s,d,_⟩:=C8 h.nm a;exact r d ad9 e
 .obtain ⟨s,d,_⟩:=C8 h.out.row a;exact r d ad9 e
def ic.toQ (h:ic Al w ao n c us wr):ic De w ao n c us wr:=⟨⟨h.us.low,h.us.map,h.us.mlt,h.us.box,λu a=>De.of (h.us.left u a),h.us.names,h.us.one⟩,h.pb⟩
def Amg (x:Lit×DU):∀l:List (Lit×DU),(DataW.insert x l).Perm (x :: l)
 | []=>Um _
 | y :: r=>by
  unfold DataW.insert;split
  .exact Um _
  .exact ((Amg x r).cons y).trans (List.Perm.swap x y r)
def A0f (l:List (ByteArray×Nat)) (h:(l.map Prod.fst).Nodup):∃a,Gz l=.map a/\(a.map λp=>p.1).Perm (l.map λp=>B5 p.1):=by
 induction l using Qu with
 | h0=>exact⟨[],rfl,Um _⟩
 | h1 l x ih=>
  rw[C2,R6]at h;obtain⟨a,e,g⟩:=ih h.1;refine⟨DataW.insert (B5 x.1,Jo x.2) a,?_,?_⟩
  .rw [Vu,e];simp only[DataW.put];rw[List.filter_eq_self.2];intro p d;have i:=g.mem_iff.1 (Kg d);obtain⟨q,j,f⟩:=A8.1 i;rw[<-f]
   have b:¬(B5 q.1).sameKey (B5 x.1)=true:=λc=>by
    have:=(Adg _ _).1 c;exact h.2.2 q.1 (Kg j) x.1 as9 this
   simp[b]
  .refine ((Amg _ a).map _).trans ?_;rw[C2];simp only[It,Sb];exact(g.cons _).trans (List.perm_append_singleton _ _).symm
def Amh (l:List (ByteArray×Nat)) (h:(l.map Prod.fst).Nodup):(strKeys (Gz l)).Perm (l.map λp=>p.1.data.toList)/\Maps.size (Gz l)=l.length:=by
 obtain⟨b,e,a⟩:=A0f l h;rw[e];refine⟨?_,?_⟩
 .have:=a.map strOf;simp only[Dg]at this;exact this
 .have:=a.length_eq;simpa[Maps.size_eq]using this
end
section
open Go.RowKit Go.Maps Go.Lib
variable {w wr w1 w':WD} {ao:Option Addr} {n c:Nat} {nv ov:VL} {us:List cq} {names:List ByteArray} {out:List Nat}
def A0g {ss:List (List UInt8)} {us:List cq} (h:(us.map λu=>u.pl.name).Nodup) (c:ss.Perm (strKeys (Gz (us.map cq.key)))):(ss.mergeSort λx y=>decide (x<=y)).map encStr=yk (F2 (us.map cq.pl))/\(F2 (us.map cq.pl)).length=ss.length:=by
 have b:=(Amh (us.map cq.key) (by simpa[cq.key,Ip]using h)).1;have a:ss.Perm (us.map λu=>u.pl.name.data.toList):=by refine c.trans ?_;simpa[cq.key,Ip]using b
 have e:ss.mergeSort (λx y=>decide (x<=y))=(us.map λu=>u.pl.name.data.toList).mergeSort λx y=>decide (x<=y):=mergeSort_of_perm a;refine⟨?_,?_⟩
 .rw [e];simp[yk,F2,Ip]
 .simp [F2,Wq,a.length_eq]
def Ami (a:List eo) (ws:List dj):(C9 a ws).length<=ws.length:=by
 have b:∀(a:List eo) (l:List bu),(a.foldl Cw l).length=l.length:=λa=>by
  induction a with
  | nil=>intro l;rfl
  | cons h r ih=>
   intro l;refine(ih _).trans ?_;unfold Cw
   split<;>simp
 unfold C9;rw[Ar,b];exact(Vy ws ws.length).1
def Amj (ws:List dj):∀j,j<=ws.length->∀u,u∈Cb ws j->∃x,x∈ws/\u.name=x.user
 | 0,_,u,a=>by cases a
 | j+1,hj,u,a=>by
  have d:ws[j]?=Z ws[j]:=A4 ao9;have b:A7 ws j=ws[j]:=by unfold A7;rw[G4 d]
  have a:u∈Aw (Cb ws j) (A7 ws j).user j:=a;have c:=Amj ws j ao9;unfold Aw at a;split at a
  .rcases C4.1 a with a|a
   .exact c u a
   .simp at a;subst a;exact⟨ws[j],K4 _,by rw[b]⟩
  .rcases O0 a with a|⟨y,e,rfl⟩
   .exact c u a
   .exact c y e
def A0h (c:List eo) (ws:List dj):∀u,u∈C9 c ws->∃x,x∈ws/\u.name=x.user:=λu a=>by
 unfold C9 at a;obtain⟨y,f,rfl⟩:=A8.1 a
 have d:∀(l:List bu) (h:eo),(∀u,u∈l->∃x,x∈ws/\u.name=x.user)->∀u,u∈Cw l h->∃x,x∈ws/\u.name=x.user:=λl h b u a=>by
  unfold Cw at a;split at a
  .exact b u a
  .rcases O0 a with a|⟨z,g,rfl⟩
   .exact b u a
   .exact b z g
 have e:∀(c:List eo) (l:List bu),(∀u,u∈l->∃x,x∈ws/\u.name=x.user)->∀u,u∈c.foldl Cw l->∃x,x∈ws/\u.name=x.user:=λc=>by
  induction c with
  | nil=>intro l b;exact b
  | cons h r ih=>intro l b;exact ih _ (d l h b)
 exact e c _ (Amj ws ws.length Ln) y f
def PkN (us:List cq) (pk:Option (Nat×fj)) (nx:VL):Prop:=(pk=I/\nx=Q I)\/∃p u,pk=Z p/\us[p.1]?=Z u/\nx=L0 u.b
structure mm (w:WD) (ao:Option Addr) (n c:Nat) (us:List cq) (nv:VL) (names:List ByteArray) (ov:VL) (out:List Nat) (lb:Nat) (pk:Option (Nat×fj)) (nx:VL) (wr:WD):Prop where
 tu:ja w ao n c us nv names ov out wr
 gz:wr.heap[lb]?=Z (V #[G O ((pk.map Prod.snd).getD (0,0)).1,G O ((pk.map Prod.snd).getD (0,0)).2] 333 (0,0))
 lw:w.heap.size<=lb
 nx:PkN us pk nx
def mm.drop {lb:Nat} {d:Option (Nat×fj)} {b:VL} (h:mm w ao n c us nv names ov out lb d b wr) (a:BW wr.heap.size wr w'):mm w ao n c us nv names ov out lb d b w':=⟨h.tu.drop a,Ae a h.gz (Ab h.gz),h.lw,h.nx⟩
def mm.put {lb:Nat} {k a:Option (Nat×fj)} {j d:VL} {e f:Int} (h:mm w ao n c us nv names ov out lb k j wr) (g:(a.map Prod.snd).getD (0,0)=(e,f)) (i:PkN us a d):mm w ao n c us nv names ov out lb a d ((wr.setCell ⟨lb,0,I⟩ (G O e)).setCell ⟨lb,1,I⟩ (G O f)):=by
 refine⟨h.tu.off h.gz h.lw ((Mod.setCell (S:=λb=>b=lb) wr lb 0 _ rfl).trans (Mod.setCell (S:=λb=>b=lb) _ lb 1 _ rfl)),?_,h.lw,i⟩;have:=Am (Am h.gz 0 (G O e)) 1 (G O f);rw[g];simpa using this
structure ym (w:WD) (ao:Option Addr) (n c:Nat) (us:List cq) (nv:VL) (names:List ByteArray) (ov:VL) (out:List Nat) (lb:Nat) (pk:Option (Nat×fj)) (nx:VL) (d1 d2:Int) (sv:VL) (wr:WD):Prop where
 pk:mm w ao n c us nv names ov out lb pk nx wr
 box:∃g,sv=Q (Z ⟨g,0,I⟩)/\wr.heap[g]?=Z (V #[G O d1,G O d2] 333 (0,0))/\lb<g
def mm.s1 {lb:Nat} {e:Option (Nat×fj)} {d:VL} {a b:Int} (h:mm w ao n c us nv names ov out lb e d wr) (f:BW wr.drew.heap.size wr.drew w1):ym w ao n c us nv names ov out lb e d a b (Q (Z ⟨w1.heap.size,0,I⟩)) (w1.alloc (V #[G O a,G O b] 333)):=by
 have h1:=h.drop (Adh f);have g:=Ab h1.gz;exact⟨h1.drop Bn,_,rfl,Ah _ _,g⟩
def mm.s2 {lb:Nat} {j:Option (Nat×fj)} {i:VL} {b d:Int} (h:mm w ao n c us nv names ov out lb j i wr) (g:BW (wr.alloc (V #[G O 0,G O 0] 333)).drew.heap.size (wr.alloc (V #[G O 0,G O 0] 333)).drew w1) :
  ym w ao n c us nv names ov out lb j i b d (Q (Z ⟨wr.heap.size,0,I⟩)) ((w1.setCell ⟨wr.heap.size,0,I⟩ (G O b)).setCell ⟨wr.heap.size,1,I⟩ (G O d)):=by
 have e:BW wr.heap.size wr (wr.alloc (V #[G O 0,G O 0] 333)).drew:=Bn.drew;have f:=e.trans (g.mono as9);have l:=Ae g (Ah _ _) as9;have k:=Ab h.gz;have a:BW wr.heap.size wr ((w1.setCell ⟨wr.heap.size,0,I⟩ (G O b)).setCell ⟨wr.heap.size,1,I⟩ (G O d)):=Cc (Cc f Ln) Ln;refine⟨h.drop a,_,rfl,?_,k⟩;have:=Am (Am l 0 (G O b)) 1 (G O d);simpa using this
def A0i (whole:V4) (bL:O2 whole) (ho:Option Addr) (m hc:Nat) (hs:List eo) (ws:List dj) (hh:Qc w ho m hs) (hw:Kw w ao n ws) (hn:n<=20) (b1:∀x,x∈ws->x.user.size<=maxLen) (ch:∀x,x∈hs->x.user.size<=maxLen) (h1:Vr ws) :
  CS prog 190 #[whole.val,J ho m hc,J ao n c] w λe w'=>∃v,e=K v/\Al w' w.heap.size v (C0 (Lj whole hs ws))/\BW w.heap.size w w':=by
 obtain⟨W0,bl⟩:=Ex (w.alloc (V whole.cells 30));have aJ:BW w.heap.size w W0:=by rw[bl];exact Bn
 have cl:W0.heap.size=w.heap.size+1:=by rw[bl];simp
 have cn:W0.heap[w.heap.size]?=Z (V whole.cells 30 (0,0)):=by rw[bl];exact Ah _ _
 have ku:=Axp (c:=c) ho m hc hs ws (hh.low aJ) (hw.low aJ) hn b1 ch h1;have aY:=hw.len;replace⟨hh,hw,b1,ch,h1,aY,aJ,cn⟩:=H8 hh hw b1 ch h1 aY aJ cn;replace⟨ku,bL,cl⟩:=H3 ku bL cl;go_enter func190,ntmps190;go_upto_region 1 with fail;rw[<-bl];clear bl;go_upto_region 2 with(go_at_call 248;(with_reducible refine ku.out.mono ?_);rintro e w1 ⟨us,rfl,hU,al⟩;replace⟨hU,al⟩:=H2 hU al);have aS:=(Amh (us.map cq.key) (by have:=hU.out.us.names;simpa[cq.key,Ip]using this)).2;have a0:us.length<=20:=by have h9:=Cd List.length al.out;have:=Ami hs ws;have:=aY.out;rw[Ar]at h9;omega
 have b3:=A0e (W0.heap.size+1) us.length (Gz (us.map cq.key)) Jp w1 hU.out.us.map (by rw[aS];unfold maxLen;simp;omega) (by rw[aS];simp;omega);replace⟨b3,aS,a0⟩:=H3 b3 aS a0;go_upto_region 4 with(go_at_call 249;(with_reducible refine b3.out.mono ?_);rintro e w2 ⟨nv,ss,rfl,aL,aj,bC,bU⟩;replace⟨aL,aj,bC,bU⟩:=H4 aL aj bC bU);obtain⟨P0,aI⟩:=Ex (C9 hs ws);have ap:=A0g hU.out.us.names aL.out;rw[al.out,<-aI]at ap;obtain⟨names,h⟩:=Ex (F2 P0);rw[<-h]at ap;have bD:(P0.map bu.name).Nodup:=by have:=hU.out.us.names;rw[aI,<-al.out];simpa[Ip]using this
 have bn:∀u,u∈P0->u.name∈names:=λu hu=>by rw[h];exact Al4 P0 hu
 have b8:ja W0 ao n c us nv names (J I 0 0) [] w2:=by refine⟨hU.out.toQ.drop Vv bU.out,?_,Al.nil _ _,λu _ k hk=>by simp[Value.ownBlock]at hk⟩;have h9:=aj.out;rw[ap.1,<-ap.2]at h9;exact Joins.ownsRow_le h9 hU.out.us.low.size
 have bQ:=Al6 whole hs ws names;rw[<-aI]at bQ;have bx:Lj whole hs ws=(Cu whole ws P0 names ws.length).2:=by unfold Lj;rw[<-aI,<-h]
 have cT:names.length<=20:=by
  rw[ap.2,<-ap.2,h]
  have:(F2 P0).length=P0.length:=by simp[F2,Wq]
  rw[this,aI];have:=Ami hs ws;have:=aY.out;omega
 have bH:us.map cq.pl=(Cu whole ws P0 names 0).1:=by rw[al.out,aI];rfl
 obtain⟨N,hN⟩:=Ex (names.length);rw[<-hN]at cT;replace⟨ap,h,bD,bn,b8,bQ,bx,bH⟩:=H8 ap h bD bn b8 bQ bx bH;replace⟨hN,aI⟩:=H2 hN aI;go_wp2_with fail;clear hU al aj bC aL bU b3 aS a0 ku;go_loopw [9,10,11,13,14,15,16,17,25,29] (λov _ _ _ _ _ _ _ rv _ wr=>∃(r:Nat) (us:List cq),rv=G O r/\r<=n/\Hid (ja W0 ao n c us nv names ov (Cu whole ws P0 names r).2 wr)/\Hid (us.map cq.pl=(Cu whole ws P0 names r).1)/\Hid (Wd whole ws names P0 (Cu whole ws P0 names r) r)) (λ_ _ _ _ _ _ _ _ rv _ _=>n-(intOf rv).toNat)
 case atStart=>exact⟨0,us,rfl,As _,b8,bH,bQ⟩
 case round=>
  obtain⟨r,us,rfl,dG,hT,al,hI⟩:=hrel;by_cases dH:r<n
  .have cH:(r:Int)<n:=ao9;obtain⟨k,s,u,p,l,bY,bX,a0,bZ,bE,b7⟩:=Al5 bD.out bn.out hI.out (by have:=aY.out;omega);obtain⟨t,ht⟩:=Ex (Cu whole ws P0 names r);rw[<-ht]at hT al hI bY bX bE;obtain⟨lb,bB⟩:=Ex (wr.heap.size);obtain⟨W1,bS⟩:=Ex (wr.alloc (V #[G O 0,G O 0] 333));have a:BW wr.heap.size wr W1:=by rw[bS];exact Bn
   have ct:Hid (mm W0 ao n c us nv names u9 t.2 lb (Cx whole t.1 names 0) (Q I) W1):=
    ⟨hT.out.drop a,by rw[bB,bS];exact Ah _ _,by rw[bB];exact hT.out.up.us.low.size,.inl ⟨rfl,rfl⟩⟩
   have aC:=hN.out.symm
   have bK:∀(j:Nat) (x:ByteArray),names[j]?=Z x->x.size<=maxLen:=λj x hx=>by
    have bM:x∈F2 P0:=(by rw[<-h.out];exact Ai hx);unfold F2 at bM;obtain⟨b,hb,rfl⟩:=A8.1 bM;rw[Ug]at hb;obtain⟨q,hq,rfl⟩:=A8.1 hb;rw[aI.out]at hq;obtain⟨z,hz,e⟩:=A0h hs ws q hq;have:=b1.out z hz;rw[<-e]at this;exact this
   have aW:∀(j:Nat) (x:ByteArray),names[j]?=Z x->∃k u,us[k]?=Z u/\u.pl.name=x/\us.find? (λu=>decide (u.pl.name=x))=Z u/\Gx t.1 x=Z k:=λj x hx=>by
    have bM:x∈F2 P0:=(by rw[<-h.out];exact Ai hx);have cK:x∈P0.map bu.name:=(by unfold F2 at bM;obtain⟨b,hb,rfl⟩:=A8.1 bM;rw[Ug]at hb;obtain⟨q,hq,rfl⟩:=A8.1 hb;exact A8.2 ⟨q,hq,rfl⟩);rw[<-hI.out.nm,<-al.out,Dg]at cK;obtain⟨q,hq,cW⟩:=A8.1 cK;rcases Tx (λu:cq=>decide (u.pl.name=x)) us with⟨_,h2⟩|⟨k,u,h1,h2,h3⟩
    .have:=R4.1 h2 q hq;simp at this;exact absurd cW this
    .have cS:u.pl.name=x:=(by have:=Uk h3;simpa using this);exact⟨k,u,h2,cS,h3,by rw[<-al.out,Vx];exact h1⟩
   replace⟨bY,bX,a0,bZ,bE,b7,ht,bB⟩:=H8 bY bX a0 bZ bE b7 ht bB;replace⟨a,aW,bK,hT⟩:=H4 a aW bK hT;go_upto_region 8 with fail;rw[<-bS,<-bB.out];clear bS
   obtain⟨bO,aF,e0⟩:∃so c,nv=J so N c:=by
    rcases ct.out.tu.nm.2 with⟨e,h0⟩|⟨g,cap,dw,e,_⟩
    .exact ⟨I,0,by rw[e,<-aC,h0]⟩
    .exact ⟨_,_,by rw[e,aC]⟩
   subst e0;replace aC:=Hh aC;go_wp2_with fail;go_loopw [10,13,14,15,16,29] (λnx _ _ _ _ jv wr=>∃(j:Nat),jv=G O j/\j<=N/\Hid (mm W0 ao n c us (J bO N aF) names u9 t.2 lb (Cx whole t.1 names j) nx wr)) (λ_ _ _ _ _ jv _=>N-(intOf jv).toNat)
   case atStart=>exact⟨0,rfl,As _,ct⟩
   case round=>
    obtain⟨j,rfl,dE,hK⟩:=hrel;by_cases dF:j<N
    .have cE:(j:Int)<N:=ao9;have dD:(0:Int)<=(j:Int):=ao9;have aj:=hK.out.tu.nm;obtain⟨ng,ds,e⟩:=Joins.ownsRow_form aj (by have:=aC.out;omega);injection e with e1 e2 e3;subst e1;clear e2 e3;obtain⟨x,hx⟩:=Ge names j (by have:=aC.out;omega);have cx:wr.cell? ⟨ng,j,I⟩=Z (Y x):=(by have:=aj.cells (g:=ng) rfl j (Y x) (by simp[yk,hx]);rw[Un,Cn]at this;exact this);obtain⟨kk,⟨ub,co,⟨aV,⟨ua,ac,uc,ud⟩,aN⟩⟩,hk,aK,bw,aP⟩:=aW.out j x hx;have cF:=Adc hK.out.tu.up.us x (bK.out j x hx);rw[bw]at cF;have an:=Ai hk;obtain⟨ad,aT⟩:=hK.out.tu.up.us.box _ an;obtain⟨so,cc,e,bR,_⟩:=(hK.out.tu.up.us.left _ an).form;have e':co=J so (C0 aN).length cc:=e;obtain⟨L,hL⟩:=Ex ((C0 aN).length);rw[<-hL]at e';subst e';have a9:L=aN.length:=(by rw[hL,P6]);have x4:=Bk ad 4 (J so L cc) rfl;have bf:t.1[kk]?=Z ⟨aV,⟨ua,ac,uc,ud⟩,aN⟩:=by rw[<-al.out];simp[hk]
     have f:Cx whole t.1 names (j+1)=if aN=[]then Cx whole t.1 names j else match Cx whole t.1 names j with
       | none=>Z (kk,Pt ⟨ua,ac,uc,ud⟩ whole)
       | some (i,s)=>if Gg (Pt ⟨ua,ac,uc,ud⟩ whole) s<0 then Z (kk,Pt ⟨ua,ac,uc,ud⟩ whole)else Z (i,s):=by
      show(match (names[j]?).bind (Gx t.1)with|none=>_|some k=>_)=_;rw[hx];simp only[Option.bind_some];rw[aP];simp only;rw[bf];simp only;split
      .rfl
      .cases Cx whole t.1 names j with
       | none=>rfl
       | some p=>rfl
     by_cases aQ:aN=[]
     .have cw:L=0:=(by rw[a9,aQ];rfl);subst cw;have cO:Hid (mm W0 ao n c us (J (Z ⟨ng,0,I⟩) N aF) names u9 t.2 lb (Cx whole t.1 names (j+1)) u10 wr):=(by rw[f,Ad aQ];exact hK);replace⟨aj,hx,hk,aK,bw,aP,an,ad⟩:=H8 aj hx hk aK bw aP an ad;replace⟨aT,e,bR,hL,a9,bf,f,aQ⟩:=H8 aT e bR hL a9 bf f aQ;go_wp2_with fail;go_roundw
      case rel=>exact⟨j+1,by go_num,ao9,cO⟩
      case measure=>simp[intOf];omega
     .have cw:¬L=0:=by rw[a9];exact λe=>aQ (Gb.1 e)
      have dA:((L:Int) == 0)=false:=(by simp;omega);rw[Ac aQ]at f;replace⟨aj,hx,hk,aK,bw,aP,an,e⟩:=H8 aj hx hk aK bw aP an e;replace⟨bR,hL,a9,bf,aQ⟩:=H5 bR hL a9 bf aQ;obtain⟨⟨d1,d2⟩,hd⟩:∃d,d=Pt ⟨ua,ac,uc,ud⟩ whole:=⟨_,rfl⟩;obtain⟨cN,bs⟩:=Ex ((Fg ⟨ua,ac,uc,ud⟩ whole 4).2);have a6:=(hI.out.ok _ (Ai bf.out)).1;have bv:=Zv a6 bL.out 4 Ln;have kd:=λW=>Azn ⟨ua,ac,uc,ud⟩ whole W a6 bL.out;have cf:(Fg ⟨ua,ac,uc,ud⟩ whole 4).1=(d1,d2):=hd.symm;rw[cf]at kd bv;rw[<-bs]at kd;rw[<-hd]at f;obtain⟨⟨wa,wb,cp,wd⟩,b2⟩:∃v,v=whole:=⟨_,rfl⟩;have a5:wr.heap[w.heap.size]?=Z (V (⟨wa,wb,cp,wd⟩:V4).cells 30 (0,0)):=(by rw[b2];exact Ae hK.out.tu.up.us.low cn.out (by have:=cl.out;omega));rw[<-b2]at kd;replace kd:∀W,CS prog 250 #[.agg #[G O ua,G O ac,G O uc,G O ud],.agg #[G O wa,G O wb,G O cp,G O wd]] W λe w'=>e=K (E #[.agg #[G O d1,G O d2],G O cN])/\BW W.heap.size W w':=kd;have b5:=Ab ad;have cJ:=Ab a5;replace⟨ad,hd,bs,a6,bv,cf,b2,a5⟩:=H8 ad hd bs a6 bv cf b2 a5;replace⟨kd,f⟩:=H2 kd f;go_upto_region 13 with fail;clear cx x4 cF;have c4:=Bk ad.out 0 (G O ua) rfl;have c5:=Bk ad.out 1 (G O ac) rfl;have c6:=Bk ad.out 2 (G O uc) rfl;have c7:=Bk ad.out 3 (G O ud) rfl;have da:=Bk a5.out 0 (G O wa) rfl;have db:=Bk a5.out 1 (G O wb) rfl;have dc:=Bk a5.out 2 (G O cp) rfl;have dd:=Bk a5.out 3 (G O wd) rfl;go_cut [15,16] (λsv av wx=>ym W0 ao n c us (J (Z ⟨ng,0,I⟩) N aF) names u9 t.2 lb (Cx whole t.1 names j) u10 d1 d2 sv wx)
      case first=>
       go_region_law (first
        | (go_simp;go_at_call 250;refine(kd.out _).mono ?_;rintro e w1 ⟨rfl,a⟩;have s2:=a.size;obtain⟨cA,cQ⟩:=Tg a
           (try simp at s2)
           (try simp at cA)
           (try simp at cQ)
           (try have dI:wr.heap.size<w1.heap.size:=by omega)
           replace a:=Hh a))
       all_goals
        go_wp2_with fail;go_meet
        first
         | exact hK.out.s1 a.out
         | exact hK.out.s2 a.out
      case rest=>
       obtain⟨y,g,rfl,hg,bc⟩:=hcut;clear c4 c5 c6 c7 da db dc dd b5 cJ;have c0:=Bk hg 0 (G O d1) rfl;have c1:=Bk hg 1 (G O d2) rfl;obtain⟨pk,aA⟩:=Ex (Cx whole t.1 names j);rw[<-aA]at y f;have fe:=Af y.gz;rcases y.nx with⟨rfl,aR⟩|⟨⟨pi,⟨p1,p2⟩⟩,u2,rfl,aM,aR⟩
       .have e0:=Bk y.gz 0 (G O 0) rfl;have e1:=Bk y.gz 1 (G O 0) rfl;have af:Cx whole t.1 names (j+1)=Z (kk,(d1,d2)):=f.out
        have am:∀q,mm W0 ao n c us (J (Z ⟨ng,0,I⟩) N aF) names u9 t.2 lb (Cx whole t.1 names (j+1)) (L0 ub) (((wc.drewN q).setCell ⟨lb,0,I⟩ (G O d1)).setCell ⟨lb,1,I⟩ (G O d2)):=λq=>by
         rw[af];exact(y.drop (Ba _ wc q)).put rfl (.inr ⟨_,_,rfl,hk.out,rfl⟩)
        subst aR;replace⟨y,hg,bc,aA,f,af,am⟩:=H7 y hg bc aA f af am;go_upto_region 15 with fail;go_region_with (fail)
        all_goals
         go_wp2_with fail;go_roundw
         case rel=>exact⟨j+1,by go_num,ao9,Hh (by first|exact am.out 1|exact am.out 0)⟩
         case measure=>simp[intOf];omega
       .have e0:=Bk y.gz 0 (G O p1) rfl;have e1:=Bk y.gz 1 (G O p2) rfl;have aG:p1<=9223372036854775807/\p2<=9223372036854775807:=(by obtain⟨u3,cY,_,cX⟩:=Rw aA.symm;have:=Zv (hI.out.ok u3 (Ai cY)).1 bL.out 4 Ln;have e9:(Fg u3.has whole 4).1=(p1,p2):=cX.symm;rw[e9]at this;exact this);have kc:∀W,CS prog 251 #[.agg #[G O d1,G O d2],.agg #[G O p1,G O p2]] W λe w'=>e=K (G O (Gg (d1,d2) (p1,p2)))/\BW W.heap.size W w':=λW=>Ak2 (d1,d2) (p1,p2) W bv.out.1 bv.out.2 aG.1 aG.2;obtain⟨cv,bb⟩:=Ex (Gg (d1,d2) (p1,p2));rw[<-bb]at kc;have af:Cx whole t.1 names (j+1)=if cv<0 then Z (kk,(d1,d2))else Z (pi,(p1,p2)):=(by rw[f.out,bb]);subst aR;by_cases cC:cv<0
        .have aD:Cx whole t.1 names (j+1)=Z (kk,(d1,d2)):=by rw[af,Ad cC]
         have am:∀W q,BW wc.heap.size wc W->mm W0 ao n c us (J (Z ⟨ng,0,I⟩) N aF) names u9 t.2 lb (Cx whole t.1 names (j+1)) (L0 ub) (((W.drewN q).setCell ⟨lb,0,I⟩ (G O d1)).setCell ⟨lb,1,I⟩ (G O d2)):=λW q hW=>by
          rw[aD];exact((y.drop hW).drop (Ba _ W q)).put rfl (.inr ⟨_,_,rfl,hk.out,rfl⟩)
         replace⟨y,hg,bc,aA,f,af,aD,am⟩:=H8 y hg bc aA f af aD am;replace⟨kc,bb,aG,aM⟩:=H4 kc bb aG aM;go_upto_region 15 with(go_at_call 251;(with_reducible refine(kc.out _).mono ?_);rintro e w1 ⟨rfl,a⟩;have c0:=(Ag a (Ab hg.out)).trans c0;have c1:=(Ag a (Ab hg.out)).trans c1;have e0:=(Ag a (Ab y.out.gz)).trans e0;have e1:=(Ag a (Ab y.out.gz)).trans e1;have fe:=Af (Ae a y.out.gz (Ab y.out.gz));replace a:=Hh a);go_region_with (fail)
         all_goals
          go_wp2_with fail;go_roundw
          case rel=>exact⟨j+1,by go_num,ao9,Hh (by first|exact am.out w1 1 a.out|exact am.out w1 0 a.out)⟩
          case measure=>simp[intOf];omega
        .have aD:Cx whole t.1 names (j+1)=Z (pi,(p1,p2)):=by rw[af,Ac cC]
         have am:∀W,BW wc.heap.size wc W->mm W0 ao n c us (J (Z ⟨ng,0,I⟩) N aF) names u9 t.2 lb (Cx whole t.1 names (j+1)) (L0 u2.b) W:=λW hW=>by
          rw[aD];exact y.drop hW
         replace⟨y,hg,bc,aA,f,af,aD,am⟩:=H8 y hg bc aA f af aD am;replace⟨kc,bb,aG,aM⟩:=H4 kc bb aG aM;go_wp2_with (go_at_call 251;(with_reducible refine(kc.out _).mono ?_);rintro e w1 ⟨rfl,a⟩;replace a:=Hh a);go_roundw
         case rel=>exact⟨j+1,by go_num,ao9,Hh (am.out w1 a.out)⟩
         case measure=>simp[intOf];omega
    .have cE:¬(j:Int)<N:=ao9;have ci:j=N:=ao9;have bG:Cx whole t.1 names j=Z (k,s):=(by rw[ci,<-aC.out];exact bY.out);have bg:=hK.out;rw[bG]at bg;have aO:=bg.tu;rcases bg.nx with⟨e,_⟩|⟨pr,u2,e,be,aR⟩
     .cases e
     .injection e with e;subst e;obtain⟨ub,co,⟨aV,⟨ua,ac,uc,ud⟩,aN⟩⟩:=u2;have aM:u=⟨aV,⟨ua,ac,uc,ud⟩,aN⟩:=(by have h9:=bX.out;rw[<-al.out]at h9;simp only[Bg,be,Kj,Uh]at h9;exact h9.symm);have cI:aN=p :: l:=(by have h9:=a0.out;rw[aM]at h9;exact h9);subst cI;have an:=Ai be;obtain⟨ad,aT⟩:=aO.up.us.box _ an;obtain⟨g,aU,cap,e,cs,cj,cB,cD,ce⟩:=(aO.up.us.left _ an).pos (by simp[C0]);have e':co=J (Z ⟨g,aU,I⟩) (C0 (p :: l)).length cap:=e;obtain⟨M,hM⟩:=Ex ((C0 (p :: l)).length);rw[<-hM]at e' cj;subst e';have cy:M=l.length+1:=(by rw[hM,P6];rfl);have dB:0<M:=ao9;have dC:(1:Int)<=M:=ao9;have cA:1<=cap:=ao9;have c0:wr.cell? ⟨g,aU,I⟩=Z (G O (p:Int)):=ce 0 _ rfl;have x4:=Bk ad 4 (J (Z ⟨g,aU,I⟩) M cap) rfl;have fu:=Af ad;obtain⟨aH,bA⟩:=Ex (Value.slice (if cap=1 then Z ⟨g,aU,I⟩else Z ⟨g,aU+1,I⟩) (M-1) (cap-1));obtain⟨W3,bT⟩:=Ex (wr.setCell ⟨ub,4,I⟩ aH)
      have b4:g≠ub:=λe9=>by
       obtain⟨c9,ba⟩:=(aO.up.us.left _ an).aw (k:=g) rfl;rw[e9,ad]at ba;injection ba with ba;injection ba with _ ba;exact absurd ba ad9
      have bV:aH=J (Z ⟨g,if cap=1 then aU else aU+1,I⟩) (C0 l).length (cap-1):=by
       rw[bA,P6,show M-1=l.length by omega]
       split<;>rfl
      have bi:ja W0 ao n c (us.set k ⟨ub,aH,⟨aV,⟨ua,ac,uc,ud⟩,l⟩⟩) (J bO N aF) names u9 t.2 W3:=by
       have cG:Mod (λb=>b=ub) wr W3:=(by rw[bT];exact Mod.setCell wr ub 4 _ rfl);refine aO.xy be cG rfl rfl ?_ ?_ (by rw[bV];rfl)
       .rw [bT];have:=Am ad 4 aH;simpa using this
       .have hq:=aO.up.us.left _ an;have cU:De wr W0.heap.size (J (Z ⟨g,aU,I⟩) M cap) ((p:Int)::C0 l):=hq;have cV:=cU.tail;show De W3 W0.heap.size aH (C0 l);rw[bV];exact cV.mod cG (λk9 cR e9=>by simp[Value.ownBlock]at cR;omega)
      have bW:(us.set k (⟨ub,aH,⟨aV,⟨ua,ac,uc,ud⟩,l⟩⟩:cq))[k]?=Z ⟨ub,aH,⟨aV,⟨ua,ac,uc,ud⟩,l⟩⟩:=(by rw[Ds];simp[(Aq.1 be).1]);obtain⟨⟨c2,c8,c3,⟨na,nb,nc,nd⟩⟩,hx⟩:=Ge ws p bZ.out;have dk:p<n:=(by have:=bZ.out;have:=aY.out;omega);have dl:(p:Int)<n:=ao9;have dr:(0:Int)<=(p:Int):=ao9;obtain⟨jb,aE,rfl,dg,bd⟩:=(hw.out.low (aJ.out.trans (bi.up.us.low.mono aJ.out.size))).cell p _ hx;have z3:W3.cell? ⟨jb,aE+p*7+3,I⟩=Z (G O na):=bd 3 ao9;have z4:W3.cell? ⟨jb,aE+p*7+4,I⟩=Z (G O nb):=bd 4 ao9;have z5:W3.cell? ⟨jb,aE+p*7+5,I⟩=Z (G O nc):=bd 5 ao9;have z6:W3.cell? ⟨jb,aE+p*7+6,I⟩=Z (G O nd):=bd 6 ao9;have aB:=(bi.up.us.box _ (Ai bW)).1;have x0:=Bk aB 0 (G O ua) rfl;have x1:=Bk aB 1 (G O ac) rfl;have x2:=Bk aB 2 (G O uc) rfl;have x3:=Bk aB 3 (G O ud) rfl;have b6:=Af aB;have b5:=Ab aB;obtain⟨⟨pa,bN,pc,pd⟩,b0⟩:∃q,q=Ko ⟨ua,ac,uc,ud⟩ ⟨na,nb,nc,nd⟩:=⟨_,rfl⟩
      have kp:∀W,CS prog 252 #[.agg #[G O ua,G O ac,G O uc,G O ud],.agg #[G O na,G O nb,G O nc,G O nd]] W λe w'=>e=K (.agg #[G O pa,G O bN,G O pc,G O pd])/\BW W.heap.size W w':=λW=>by
       have:=Ak3 ⟨ua,ac,uc,ud⟩ ⟨na,nb,nc,nd⟩ W;rw[<-b0]at this;exact this
      obtain⟨bP,a8⟩:=Ex ((us.set k (⟨ub,aH,⟨aV,⟨ua,ac,uc,ud⟩,l⟩⟩:cq)).set k ⟨ub,aH,⟨aV,⟨pa,bN,pc,pd⟩,l⟩⟩)
      have b9:∀w1,BW W3.heap.size W3 w1->ja W0 (Z ⟨jb,aE,I⟩) n c bP (J bO N aF) names u9 t.2 ((((w1.setCell ⟨ub,0,I⟩ (G O pa)).setCell ⟨ub,1,I⟩ (G O bN)).setCell ⟨ub,2,I⟩ (G O pc)).setCell ⟨ub,3,I⟩ (G O pd)):=λw1 hb=>by
       rw[a8];exact bi.vr bW hb ⟨pa,bN,pc,pd⟩
      have bI:bP.map cq.pl=(Cu whole ws P0 names (r+1)).1:=by
       rw[bE.out,a8,aM,<-al.out];simp only[Nh];rw[Qo];have cZ:A7 ws p=⟨c2,c8,c3,⟨na,nb,nc,nd⟩⟩:=(by unfold A7;rw[G4 hx]);rw[cZ,b0]
      have aZ:(Cu whole ws P0 names (r+1)).2=t.2++[p]:=(by rw[bE.out]);have cm:=hI.out.out;obtain⟨cM,oL,cL,oe,ck⟩:=aO.out.len;subst oe;have a7:=ck.symm;have bF:oL<=1000000000:=(by rw[<-a7,P6,cm];omega);have bo:∀Wx,ja W0 (Z ⟨jb,aE,I⟩) n c bP (J bO N aF) names (J cM oL cL) t.2 Wx->BW Wx.heap.size Wx (Wx.alloc (V #[G O (p:Int)] 3 (0,0)))/\Al (Wx.alloc (V #[G O (p:Int)] 3 (0,0))) W0.heap.size (J cM oL cL) (C0 t.2) /\
        (Wx.alloc (V #[G O (p:Int)] 3 (0,0))).cell? ⟨Wx.heap.size,0,I⟩=Z (G O (p:Int))/\W0.heap.size<=(Wx.alloc (V #[G O (p:Int)] 3 (0,0))).heap.size:=λWx hT=>by
       have hb:BW Wx.heap.size Wx (Wx.alloc (V #[G O (p:Int)] 3 (0,0))):=Bn;exact⟨hb,hT.out.mod (Mod.ag (S:=λ_=>False) hb) (λ_ _ c=>c),Aa (Ah _ _) 0,by have:=hT.up.us.low.size;have:=hb.size;omega⟩
      subst aR;replace⟨bG,bg,aO,be,aM,an,ad,aT⟩:=H8 bG bg aO be aM an ad aT;replace⟨e,cs,cj,cB,cD,ce,hM,cy⟩:=H8 e cs cj cB cD ce hM cy;replace⟨bV,bi,bW,hx,bd,aB,b0,kp⟩:=H8 bV bi bW hx bd aB b0 kp;replace⟨a8,b9,bI,aZ,cm,ck,a7,bF⟩:=H8 a8 b9 bI aZ cm ck a7 bF;replace⟨bo,b4,hK,ci⟩:=H4 bo b4 hK ci;go_upto_region 19 with fail;rw[<-bA,<-bT];clear bT bA c0 x4 fu;go_region_with (go_at_call 252;((with_reducible refine(kp.out _).mono ?_);rintro e w1 ⟨rfl,a⟩;have x0:=(Ag a (by first|omega|(simp;omega))).trans x0;have x1:=(Ag a (by first|omega|(simp;omega))).trans x1;have x2:=(Ag a (by first|omega|(simp;omega))).trans x2;have x3:=(Ag a (by first|omega|(simp;omega))).trans x3;have b6:=λo=>(a.frozen (p:=⟨ub,o,I⟩) (by first|(show ub<_;omega)|(simp;omega))).trans (b6 o);replace a:=Hh a))
      all_goals
       have cd:BW W3.heap.size W3 w1:=by first|exact a.out|exact Adh a.out
       have bk:=b9.out w1 cd;obtain⟨Wx,ca⟩:=Ex ((((w1.setCell ⟨ub,0,I⟩ (G O pa)).setCell ⟨ub,1,I⟩ (G O bN)).setCell ⟨ub,2,I⟩ (G O pc)).setCell ⟨ub,3,I⟩ (G O pd));rw[<-ca]at bk;obtain⟨a1,a2,a3,a4⟩:=bo.out Wx bk;replace⟨cd,bk,a1,a2,a3,a4⟩:=H6 cd bk a1 a2 a3 a4;clear x0 x1 x2 x3 b6 z3 z4 z5 z6;go_upto_region 20 with fail;rw[<-ca];clear ca;go_wp2_with (at_builtin;refine M1 rfl _ _ rfl W0.heap.size oL _ rfl a2.out a7.out ⟨Wx.heap.size,0,I⟩ 1 rfl (p:Int) a3.out bF.out a4.out ?_;intro g7 cr w7 h7 cg cb;replace⟨h7,cg,cb⟩:=H3 h7 cg cb)
       have cP:Hid (ja W0 (Z ⟨jb,aE,I⟩) n c bP (J bO N aF) names (J (Z ⟨g7,0,I⟩) (oL+1) cr) (Cu whole ws P0 names (r+1)).2 w7):=by
        rw[aZ.out]
        refine bk.out.push a1.out cg.out ?_ (λk hk=>by
         simp[Value.ownBlock]at hk;subst hk;rcases cb.out with e|e
         .exact .inl e
         .exact .inr e)
        rw[Ak8];exact h7.out
       go_roundw
       case rel=>exact⟨r+1,bP,by go_num,ao9,cP,bI,b7⟩
       case measure=>simp[intOf];omega
  .have cH:¬(r:Int)<n:=ao9;have bJ:r=n:=ao9;have aX:Lj whole hs ws=(Cu whole ws P0 names r).2:=(by rw[bx.out,aY.out,bJ]);replace⟨aX,bJ⟩:=H2 aX bJ;go_wp2;go_ret;refine⟨u9,rfl,?_,aJ.out.trans (hT.out.up.us.low.mono aJ.out.size)⟩;rw[aX.out];exact hT.out.out.le aJ.out.size
end
section
open Go.RowKit Go.Maps Go.Sort Go.Shelf
def A2k (m:Nat):AnyZI.SortsIn prog Tryz.ir Fence.wide m:=
 ⟨λd c cap ss W e a b=>K6.2 (AnyM.slices_Sort_int Tryz.vh d c cap ss W e a b), λp cap W=>K6.2 (AnyM.slices_Sort_int_none Tryz.vh p cap W)⟩
def A2l (a:Option Nat) (W:WD):CS prog 54 #[.map a] W λe w'=>e=K (.func (.func 92) #[] #[Q (Z ⟨W.heap.size,0,I⟩)])/\w'=W.alloc (V #[.map a] 108):=
 (K6 (n:=5)).1 (AnyZI.keys_in Tryz.ur Fence.wide 5 trivial rfl a W)
def A2m {l ss:List Int} (f:l.Pairwise (·<·)) (e:ss.Perm l):ss.mergeSort (λx y=>decide (x<=y))=l:=by
 refine List.Perm.eq_of_pairwise (le:=λa b=>decide (a<=b)=true) (λa b _ _ h1 d=>by have:=Io h1;have:=Io d;omega) ?_ ?_ ((List.mergeSort_perm ss _).trans e)
 .exact List.pairwise_mergeSort (λa b c h1 d=>by have:=Io h1;have:=Io d;exact At ao9) (λa b=>by by_cases h:a<=b<;>simp[h];omega) ss
 .exact f.imp λh=>At ao9
def A2n (l:List (Int×Cl)):intKeys (Jj l)=l.map Prod.fst:=by
 show((l.map λp=>(F0 p.1,nw p.2)).map λp=>Go.intOf p.1)=_;rw[Dg];exact Uf λp _=>rfl
def A2o {d:Nat} {l:List (Int×Cl)} {w:WD} (h:Li w d l) (r:(l.map Prod.fst).Pairwise (·<·)) (t:l.length<=1000) :
  CS prog 53 #[.func (.func 92) #[] #[Q (Z ⟨w.heap.size,0,I⟩)]] (w.alloc (V #[.map (Z d)] 108)) λe w'=>∃v,e=K v/\Al w' w.heap.size v (l.map Prod.fst)/\BW w.heap.size w w':=by
 refine(K6 (n:=5)).1 ?_;have i:=h.lt;have u:maxLen=9223372036854775807:=by kernel_rfl
 have c:Maps.size (Jj l)=l.length:=by simp[Jj,Maps.size]
 have b:SeqGives Fence.wide 2 prog 92 #[Q (Z ⟨w.heap.size,0,I⟩)] encZ (λss=>ss.Perm (intKeys (Jj l))) (Maps.size (Jj l)) (w.alloc (V #[.map (Z d)] 108)):=
  AnyZI.keys_gives (ρ:=Tryz.j6) { Tryz.ur with } Fence.wide _ trivial rfl ao9 w.heap.size d l.length (Jj l) _ as9 as9 (by
   obtain⟨p,a,g,o,s,q⟩:=h
   exact⟨p,a,(Gm _ _ d i).trans g,o,s,q⟩)
 have k:=AnyZI.sorted_in Tryz.ug Fence.wide 5 trivial trivial trivial trivial rfl ao9 (A2k _) (enters_of func91 (by kernel_rfl) rfl) 92 #[Q (Z ⟨w.heap.size,0,I⟩)] trivial (enters_of func92 (by kernel_rfl) rfl) _ _ (by rw[c];omega) (by rw[c];omega) _ b;change CallsIn _ _ prog 53 _ _ _ at k;refine k.mono ?_;rintro e w' ⟨v,ss,rfl,f,j,m,g⟩;rw[A2n]at f;rw[A2m r f,f.length_eq]at j;exact⟨v,rfl,⟨ownsRow_base_a j as9⟩,((Below.refl _ w).alloc Ln _).trans (g.mono as9)⟩
