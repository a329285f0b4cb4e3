/- Parts of a proof. No condition. -/
import Derived.Test.YtimlcnhcjndijaaGreatDoorJ16
import Derived.Test.YtimlcnhcjndijaaGreatDoorJ26
set_option linter.all false
set_option maxRecDepth 100000
set_option maxHeartbeats 3200000
namespace Go.Proofs.YtimlcnhcjndijaaGreatDoor
open IntKind renaming i64->G
open Value renaming int->Z,string->D,slice->V,pointer->K
open Option renaming some->O,none->I
open Obj renaming cells->J
open Ending renaming returned->Y
open Go renaming World->WD,Value->VL,Calls->CS
open Go.RowKit renaming Below->BW
open Go.Proofs.Tryz
section
open Go.RowKit Go.Maps Go.Lib Go.Sort
variable{n:Nat}{w:WD}
abbrev Rp (x:dp):Array VL:=#[Z G x.id,D x.user,Z G x.prio,Z G x.ox.a,Z G x.ox.b,Z G x.ox.c,Z G x.ox.d]
structure Ls (w:WD) (ao:Option Addr) (n:Nat) (ws:List dp):Prop where
 len:ws.length=n
 max:n<=1000000
 cell:∀i x,ws[i]?=O x->∃b off,ao=O ⟨b,off,I⟩/\b<w.heap.size/\∀j,j<7->w.cell? ⟨b,off+i*7+j,I⟩=(Rp x)[j]?
def Ls.mod {S:Nat->Prop} {w w':WD} {d:Option Addr}  {g:List dp} (h:Ls w d n g) (f:Mod S w w') (k:∀b a,d=O ⟨b,a,I⟩->¬S b):Ls w' d n g:=
 ⟨h.len,h.max,λi x o=>by
  obtain⟨b,a,e,c,l⟩:=h.cell i x o;refine⟨b,a,e,Bq c f.size,λj m=>?_⟩;rw[<-l j m]
  simp only[World.cell?,f.block b c (k b a e)]⟩
def Rq (a b:dp):Int:=if compareInt b.prio a.prio≠0 then compareInt b.prio a.prio else compareInt a.id b.id
def Axk (ao:Option Addr) (n c:Nat) (ws:List dp) (z i j:Nat) (x y:dp) (w:WD) (h:Ls w ao n ws) (hp:w.heap[z]?=O (J #[V ao n c] 273 (0,0))) (s:ws[i]?=O x) (t:ws[j]?=O y) :
  CS prog 289 #[Z G (i:Int),Z G (j:Int),K (O ⟨z,0,I⟩)] w λe w'=>e=Y (Z G (Rq x y))/\∃q,w'=w.drewN q:=by
 obtain⟨b,a,rfl,al,g⟩:=h.cell i x s;obtain⟨b',ad,e,ac,k⟩:=h.cell j y t;injection e with e;injection e with e1 e2;subst e1 e2;have hi:=(An.1 s).1;have hj:=(An.1 t).1;have hl:=h.len;have p0:=Bk hp 0 (V (O ⟨b,a,I⟩) n c) rfl;have x0:w.cell? ⟨b,a+i*7,I⟩=O (Z G x.id):=g 0 ao9;have x2:w.cell? ⟨b,a+i*7+2,I⟩=O (Z G x.prio):=g 2 ao9;have y0:w.cell? ⟨b,a+j*7,I⟩=O (Z G y.id):=k 0 ao9;have y2:w.cell? ⟨b,a+j*7+2,I⟩=O (Z G y.prio):=k 2 ao9;have g1:(i:Int)<n:=ao9
 have g2:(j:Int)<n:=ao9
 have g3:(0:Int)<=i:=ao9
 have g4:(0:Int)<=j:=ao9
 have l:Rq x y=if compareInt y.prio x.prio≠0 then compareInt y.prio x.prio else compareInt x.id y.id:=rfl
 obtain⟨u,m⟩:=Ex (compareInt y.prio x.prio);obtain⟨v,o⟩:=Ex (compareInt x.id y.id);rw[<-m,<-o]at l;have p:=λW=>Tryz.cmp_Compare_int y.prio x.prio W;have r:=λW=>Tryz.cmp_Compare_int x.id y.id W;rw[<-m]at p;rw[<-o]at r;clear s t h hp g k;replace⟨l,p,r,m,o,hl⟩:=H6 l p r m o hl;go_enter func289,ntmps289;go_upto_region 1 with fail;go_quiet ((go_at_call 290;(with_reducible exact Gg (p.out _))));obtain⟨W,f⟩:=Ex (w.drewN nq);have an:W.cell? ⟨z,0,I⟩=O (V (O ⟨b,a,I⟩) n c):=by rw[f];exact p0
 have ap:W.cell? ⟨b,a+i*7,I⟩=O (Z G x.id):=by rw[f];exact x0
 have av:W.cell? ⟨b,a+j*7,I⟩=O (Z G y.id):=by rw[f];exact y0
 rw[<-f];clear p0 x0 x2 y0 y2;replace f:=Hh f;by_cases h0:u=0
 .subst h0;have d:Rq x y=v:=by rw[l.out,Ac as9]
  replace d:=Hh d;go_upto_region 4 with fail;go_quiet ((go_at_call 290;(with_reducible exact Gg (r.out _))));go_wp2_with fail;go_ret;exact⟨by rw[d.out];rfl,_,by rw[f.out,World.drewN_drewN]⟩
 .have d:Rq x y=u:=by rw[l.out,Ad h0]
  have am:(u != 0)=true:=by rw[Gh];exact h0
  replace d:=Hh d;go_wp2_with fail;go_ret;exact⟨by rw[d.out];rfl,_,f.out⟩
def Axl (a b:dp):Rq a b<0↔(b.prio<a.prio\/(a.prio=b.prio/\a.id<b.id)):=by
 unfold Rq compareInt;by_cases d:b.prio<a.prio
 .simp [d]
 .by_cases g:a.prio<b.prio
  .simp [d,g];omega
  .have e:a.prio=b.prio:=ao9;by_cases c:a.id<b.id
   .simp [e,c]
   .by_cases f:b.id<a.id
    .simp [e,c,f]
    .simp [e,c,f]
def Gb  (i:Fin n):VL:=Z G ((i.val:Nat):Int)
def mz (ws:List dp)  (i j:Fin n):Int:=Rq (A9 ws i) (A9 ws j)
def Vg (a:List dp)  (i j:Fin n):ltOf (mz a) i j=true↔((A9 a j).prio<(A9 a i).prio\/((A9 a i).prio=(A9 a j).prio/\(A9 a i).id<(A9 a j).id)):=by
 unfold ltOf mz;rw[decide_eq_true_iff,Axl]
def Tg (a:List dp)  (i j:Fin n):ltOf (mz a) i j=false↔¬((A9 a j).prio<(A9 a i).prio\/((A9 a i).prio=(A9 a j).prio/\(A9 a i).id<(A9 a j).id)):=by
 rw[<-Vg,Aa3]
def Adc (a:List dp) (n:Nat):SWO (ltOf (mz a):Fin n->Fin n->Bool) where
 irrefl x:=by rw[Tg];omega
 trans x y z:=by rw[Vg,Vg,Vg];omega
 ntrans x y z:=by rw[Tg,Tg,Tg];omega
def Axm (a:List dp)  (i j:Fin n):(!ltOf (mz a) j i)=wy (A9 a i) (A9 a j):=by
 cases h:ltOf (mz a) j i
 .rw [Tg]at h
  symm
  simp[wy];omega
 .rw [Vg]at h
  symm
  simp[wy];omega
def Vh (ws:List dp):Prop:=∀(i j:Nat) (x y:dp),ws[i]?=O x->ws[j]?=O y->x.id=y.id->i=j
def Axn (c:List dp) (n:Nat) (k:c.length=n) (h1:Vh c) [Inhabited (Fin n)] (d f:Array (Fin n)) (i:PermIn 0 d.size d f) (j:SortedIn (ltOf (mz c)) 0 d.size f):f.toList.map Fin.val=Ii c (d.toList.map Fin.val):=by
 rw[sorted_unique_holds (lt:=ltOf (mz c)) (Adc c n) (λx y a b=>by
  rw[Tg]at a b;have e:(A9 c x).id=(A9 c y).id:=ao9
  have g:c[x.val]?=O (A9 c x):=by have:=x.isLt;unfold A9;rw[A3 ao9];rfl
  have h:c[y.val]?=O (A9 c y):=by have:=y.isLt;unfold A9;rw[A3 ao9];rfl
  exact Fin.ext (h1 _ _ _ _ g h e)) d f i j]
 unfold Ii;exact List.map_mergeSort (λa _ b _=>Axm c a b)
def Axo  [Inhabited (Fin n)] (w:WD) (g m:Nat) (d:Array (Fin n)) (os:Array Obj):Mod (λb=>b=g) w (sortWorld Gb w g 0 m d os):=by
 refine⟨rfl,rfl,rfl,by simp[sortWorld,putRow,mapBlock,Sort.ahead],λk a c=>?_⟩;unfold sortWorld;rw[heap_grow_old _ _ (by simpa[putRow,mapBlock,Sort.ahead]using a)];have:g≠k:=λe=>c e.symm;simp[putRow,mapBlock,Sort.ahead,Wh,this]
def Dh (l:List Nat):List Int:=l.map λ(i:Nat)=>(i:Int)
def Akp  (d:Array (Fin n)):d.toList.map Gb=Bz (Dh (d.toList.map Fin.val)):=by
 simp[Bz,Dh,Gb,Jk]
def Akq  (j:Option Addr) (n c i:Nat) (f:List dp) (l:Ls w j n f) (hp:w.heap[i]?=O (J #[V j n c] 273 (0,0))) [Inhabited (Fin n)] (g cap a b:Nat) (d:Array (Fin n)) (t:Holds Gb w g 0 d)
  (z:i≠g) (u:∀b h,j=O ⟨b,h,I⟩->b≠g) (k:a<=b) (v:b<=d.size) (ac:d.size<=1000) :
  CS prog 334 #[V (O ⟨g,0,I⟩) d.size cap,Z G (a:Int),Z G (b:Int),.func (.func 289) #[] #[K (O ⟨i,0,I⟩)]] w λe w'=>e=Y (.tuple #[])/\∃q,w'=(putRow Gb w g 0 (Sort.insertionSort (ltOf (mz f)) d a b)).drewN q:=by
 refine Any.insertionSortCmpFunc_one Tryz.yh Gb (λ_=>rfl) (mz f) 289 #[K (O ⟨i,0,I⟩)] g 0 cap a b d w (J2 func289 ad9 (by simp[f289])) ?_ t k v ao9;intro m os p _ x y;have o:=Axo w g m p os;have r:f[x.val]?=O (A9 f x):=by have:=x.isLt;have:=l.len;unfold A9;rw[A3 ao9];rfl
 have s:f[y.val]?=O (A9 f y):=by have:=y.isLt;have:=l.len;unfold A9;rw[A3 ao9];rfl
 exact Axk j n c f i x y _ _ _ (l.mod o λb h e c=>u b h e c) (o.au hp z) r s
def Akr  [Inhabited (Fin n)] (w:WD) (g q:Nat) (d:Array (Fin n)):Mod (λb=>b=g) w ((putRow Gb w g 0 d).drewN q):=
 ⟨rfl,rfl,rfl,by simp[putRow,mapBlock,World.drewN],λk _ a=>by
  have:g≠k:=λe=>a e.symm
  simp[putRow,mapBlock,Wh,this,World.drewN]⟩
def Axp  (v:Option Addr) (n c l:Nat) (k:List dp) (u:Ls w v n k) (t:w.heap[l]?=O (J #[V v n c] 273 (0,0))) [Inhabited (Fin n)] (g cap m:Nat) (d:Array (Fin n)) (s:Holds Gb w g 0 d) (hd:d.size=m)
  (hg:l≠g) (o:∀b r,v=O ⟨b,r,I⟩->b≠g) (hm:m<=20) :
  CS prog 321 #[V (O ⟨g,0,I⟩) m cap,Z G (m:Int),.func (.func 289) #[] #[K (O ⟨l,0,I⟩)]] w λe w'=>e=Y (.tuple #[])/\∃q,w'=(putRow Gb w g 0 (Sort.insertionSort (ltOf (mz k)) d 0 m)).drewN q:=by
 subst hd
 have j:CS prog 334 #[V (O ⟨g,0,I⟩) d.size cap,Z G 0,Z G (d.size:Int),.func (.func 289) #[] #[K (O ⟨l,0,I⟩)]] w λe w'=>e=Y (.tuple #[])/\∃q,w'=(putRow Gb w g 0 (Sort.insertionSort (ltOf (mz k)) d 0 d.size)).drewN q:=
  Akq v n c l k u t g cap 0 d.size d s hg o (As _) Ln ao9
 obtain⟨i,a⟩:=Ex (Sort.insertionSort (ltOf (mz k)) d 0 d.size);have h:i.size=d.size:=by rw[a];exact(insertionSort_holds (lt:=ltOf (mz k)) (Adc k n) d 0 d.size (As _) Ln).1.1
 rw[<-a]at j ⊢;obtain⟨m,f⟩:=Ex (d.size);rw[<-f]at hm j h;rw[<-f];by_cases z:m=20
 .subst z
  have p:∀q,CS prog 334 #[V (O ⟨g,0,I⟩) 20 cap,Z G 20,Z G 20,.func (.func 289) #[] #[K (O ⟨l,0,I⟩)]] ((putRow Gb w g 0 i).drewN q) λe w'=>e=Y (.tuple #[])/\∃q,w'=(putRow Gb w g 0 i).drewN q:=λq=>by
   have y:=Akr w g q i;have x:Holds Gb ((putRow Gb w g 0 i).drewN q) g 0 i:=holds_putRow Gb w g 0 d i s ao9;have:=Akq v n c l k (u.mod y λb r e c=>o b r e c) (y.au t hg) g cap 20 20 i x hg o Ln ao9 ao9;rw[h]at this;refine this.mono ?_;rintro e w' ⟨rfl,q2,rfl⟩;have e1:Sort.insertionSort (ltOf (mz k)) i 20 20=i:=insOuter_stop _ _ _ _ _ ao9;rw[e1,putRow_self Gb _ g 0 i x,World.drewN_drewN];exact⟨rfl,_,rfl⟩
  replace j:CS prog 334 #[V (O ⟨g,0,I⟩) 20 cap,Z G 0,Z G 20,.func (.func 289) #[] #[K (O ⟨l,0,I⟩)]] w λe w'=>e=Y (.tuple #[])/\∃q,w'=(putRow Gb w g 0 i).drewN q:=j;replace⟨j,p,u,t,s,o,f,a⟩:=H8 j p u t s o f a;replace h:=Hh h;go_enter func321,ntmps321;go_wp2_with fail;refine Ue 2 ?_;rw[Nz];go_wp2_with (go_at_call 334;(with_reducible refine j.out.mono ?_);rintro e w1 ⟨rfl,q,rfl⟩);rw[Nz];go_wp2_with (go_at_call 334;(with_reducible refine(p.out _).mono ?_);rintro e w1 ⟨rfl,q,rfl⟩);refine Ue 1 ?_;rw[Nz];go_wp2;go_end0;exact⟨rfl,_,rfl⟩
 .have g1:¬(20:Int)<=(m:Int):=ao9
  replace⟨j,u,t,s,o,f,a,h⟩:=H8 j u t s o f a h;go_enter func321,ntmps321;go_wp2_with fail;refine Ue 1 ?_;rw[Nz];go_wp2_with (go_at_call 334;(with_reducible refine j.out.mono ?_);rintro e w1 ⟨rfl,q,rfl⟩);refine Ue 1 ?_;rw[Nz];go_wp2;go_end0;exact⟨rfl,_,rfl⟩
def Qh (l:List Nat):(Dh l).length=l.length:=Ar _
def Axq  {B:Nat} {v:VL} {l:List Nat} (h:Am w B v (Dh l)) (h0:l≠[]) (hl:l.length<=20) (ao:Option Addr) (n c pb:Nat) (s:List dp) (hw:Ls w ao n s) (hp:w.heap[pb]?=O (J #[V ao n c] 273 (0,0)))
  (y:∀i,i∈l->i<n) (h1:Vh s) (ha:∀b ad,ao=O ⟨b,ad,I⟩->v.ownBlock≠O b) :
  CS prog 288 #[v,.func (.func 289) #[] #[K (O ⟨pb,0,I⟩)]] w λe w'=>e=Y (.tuple #[])/\Am w' B v (Dh (Ii s l))/\Mod (λb=>v.ownBlock=O b) w w':=by
 obtain⟨i0,am⟩:∃i,i∈l:=by
  cases l with
  | nil=>exact absurd rfl h0
  | cons x r=>exact⟨x,Ci ..⟩
 haveI:Inhabited (Fin n):=⟨⟨i0,y i0 am⟩⟩
 obtain⟨d,hd⟩:∃d:Array (Fin n),d=(l.pmap (λi hi=>(⟨i,hi⟩:Fin n)) y).toArray:=⟨_,rfl⟩;have o:d.toList.map Fin.val=l:=by rw[hd];simp[List.map_pmap]
 have u:d.size=l.length:=by rw[hd];simp
 have ak:w.ownsRow B 3 1 v l.length (d.toList.map Gb):=by rw[Akp,o];have:=h.row;rw[Qh]at this;exact this
 obtain⟨g,cap,rfl,av,aC,aB,aA,_,hH⟩:=holds_of_ownsRow (enc:=Gb) (zs:=d.toList) ak (λe=>by
  obtain⟨so,m,c',e',hm⟩:=h.len;rw[e]at e';injection e' with _ e';rw[Qh]at hm
  exact h0 (Ib.1 ao9))
 have hH:Holds Gb w g 0 d:=hH
 have al:pb≠g:=λe=>by
  obtain⟨ap,a,_⟩:=C7 h.row (g:=g) rfl;rw[<-e,hp]at a;injection a with a;injection a with _ a;exact absurd a ad9
 have p:=Axp ao n c pb s hw hp g cap l.length d hH u al (λb ad e c=>ha b ad e (by rw[c];rfl)) hl;obtain⟨z,hS⟩:=insertionSort_holds (lt:=ltOf (mz s)) (Adc s n) d 0 d.size (As _) Ln;have j:=Axn s n hw.len h1 d _ z hS;rw[u]at j z;obtain⟨t,ac⟩:=Ex (Sort.insertionSort (ltOf (mz s)) d 0 l.length);rw[<-ac]at p j z
 have f:∀q,Am ((putRow Gb w g 0 t).drewN q) B (V (O ⟨g,0,I⟩) l.length cap) (Dh (Ii s l)):=λq=>by
  have an:(Ii s l).length=l.length:=by rw[<-o,<-j];simp only[Ar];have:=z.1;have e1:t.toList.length=t.size:=rfl;omega
  have:=ownsRow_putRow (q:=q) (k:=l.length) (ys:=t.toList) ak (by have:=z.1;have e1:t.toList.length=t.size:=rfl;omega) Ln;rw[C4 (by have:=z.1;have e1:t.toList.length=t.size:=rfl;omega),Akp,j,o]at this;refine⟨?_⟩;rw[Qh,an];exact this
 obtain⟨m,hm⟩:=Ex (l.length);rw[<-hm]at p f ⊢;replace⟨p,f,hw,hp,h,hd,o,u⟩:=H8 p f hw hp h hd o u;replace⟨ak,hH,z,hS,j,ac,hm,ha⟩:=H8 ak hH z hS j ac hm ha;replace⟨y,h1⟩:=H2 y h1;go_enter func288,ntmps288;go_wp2_with (go_at_call 321;(with_reducible refine p.out.mono ?_);rintro e w1 ⟨rfl,q,rfl⟩);go_end0;exact⟨rfl,f q,(Akr w g q t).mono λb _ e=>by rw[e];rfl⟩
end
section
open Go.RowKit Go.Maps Go.Lib
variable {w w1 w':WD} {B:Nat}
structure Ds (w:WD) (B:Nat) (v:VL) (l:List Int):Prop where
 is:(v=V I 0 0/\l=[])\/∃g off cap cur,v=V (O ⟨g,off,I⟩) l.length cap/\B<=g/\w.heap[g]?=O (J cur 3 (0,0))/\l.length<=cap/\off+cap<=cur.size/\cap<=maxLen/\∀i x,l[i]?=O x->cur[off+i]?=O (Z G x)
def Ds.of {v:VL} {l:List Int} (h:Am w B v l):Ds w B v l:=by
 rcases h.row.2 with⟨rfl,h0⟩|⟨g,cap,a,rfl,e,f,h1,c,j,d⟩
 .exact ⟨.inl ⟨rfl,Ib.1 h0⟩⟩
 .refine ⟨.inr ⟨g,0,cap,a,rfl,e,f,h1,ao9,c,λi x b=>?_⟩⟩;have k:=(An.1 b).1
  have:(a.toList.take (l.length*1))[i]?=O (Z G x):=by rw[d];simp[Bz,b]
  rw[Mp,Ad ao9]at this;simpa using this
def Ds.form {v:VL} {l:List Int} (h:Ds w B v l):∃so c,v=V so l.length c/\l.length<=c/\c<=maxLen/\∀b o,so=O ⟨b,o,I⟩->B<=b/\b<w.heap.size:=by
 rcases h.is with⟨rfl,rfl⟩|⟨g,j,cap,a,rfl,f,i,h1,k,d,m⟩
 .exact ⟨I,0,rfl,Nat.le_refl _,by unfold maxLen;omega,λb o e=>by cases e⟩
 .refine ⟨_,_,rfl,h1,d,λb o e=>?_⟩;injection e with e;injection e with e1 e2;subst e1;exact⟨f,Ab i⟩
def Ds.pos {v:VL} {l:List Int} (h:Ds w B v l) (j:0<l.length):∃g a cap,v=V (O ⟨g,a,I⟩) l.length cap/\B<=g/\l.length<=cap/\cap<=maxLen/\(∀o,w.frozen? ⟨g,o,I⟩=false)/\∀i x,l[i]?=O x->w.cell? ⟨g,a+i,I⟩=O (Z G x):=by
 rcases h.is with⟨rfl,rfl⟩|⟨g,a,cap,c,rfl,f,b,h1,m,d,e⟩
 .simp at j
 .refine ⟨g,a,cap,rfl,f,h1,d,Ag b,λi x k=>?_⟩;rw[<-e i x k];simp[World.cell?,b]
def Ds.lt {v:VL} {l:List Int} (h:Ds w B v l):∀k,v.ownBlock=O k->B<=k/\k<w.heap.size:=λk a=>by
 rcases h.is with⟨rfl,rfl⟩|⟨g,e,cap,b,rfl,c,d,_⟩
 .simp [Value.ownBlock]at a
 .simp [Value.ownBlock]at a;subst a;exact⟨c,Ab d⟩
def Ds.au {v:VL} {l:List Int} (h:Ds w B v l) {k:Nat} (a:v.ownBlock=O k):∃c,w.heap[k]?=O (J c 3 (0,0)):=by
 rcases h.is with⟨rfl,rfl⟩|⟨g,e,cap,b,rfl,f,d,_⟩
 .simp [Value.ownBlock]at a
 .simp [Value.ownBlock]at a;subst a;exact⟨_,d⟩
def Ds.mod {S:Nat->Prop} {v:VL} {l:List Int} (h:Ds w B v l) (e:Mod S w w') (f:∀k,v.ownBlock=O k->¬S k):Ds w' B v l:=by
 rcases h.is with⟨rfl,rfl⟩|⟨g,b,cap,a,rfl,c,d,r⟩
 .exact ⟨.inl ⟨rfl,rfl⟩⟩
 .exact ⟨.inr ⟨g,b,cap,a,rfl,c,e.au d (f g rfl),r⟩⟩
def Ds.tail {g a n cap:Nat} {x:Int} {l:List Int} (h:Ds w B (V (O ⟨g,a,I⟩) n cap) (x :: l)):Ds w B (V (O ⟨g,if cap=1 then a else a+1,I⟩) l.length (cap-1)) l:=by
 rcases h.is with⟨h,_⟩|⟨o,f,c,b,e,k,m,h1,p,q,j⟩
 .cases h
 .injection e with e1 e2 e3;injection e1 with e1;injection e1 with e1 e4;subst e1 e3 e4;simp at h1;refine⟨.inr ⟨g,_,cap-1,b,rfl,k,m,ao9,by split<;>omega,ao9,λi y d=>?_⟩⟩;have r:=(An.1 d).1;have:=j (i+1) y (by simpa using d);split
  .omega
  .rw [<-this];congr 1;omega
def Zc (w:WD) (B:Nat) (v:VL) (l:List Int) (e:Ending) (w':WD):Prop:=
 ∃v',e=Y v'/\Ds w' B v' l/\Mod (λb=>v.ownBlock=O b) w w'/\(v'.ownBlock=v.ownBlock\/v'.ownBlock=O w.heap.size)
def Vi {w:WD} {g:Nat} {d:Array VL} {T:TypeId} (h:w.heap[g]?=O (J d T (0,0))) (a:Nat) (xs:List VL) (j:a+xs.length<=d.size) :
  ∃c,(w.setCells g a xs).heap[g]?=O (J c T (0,0))/\c.size=d.size/\(∀i x,xs[i]?=O x->c[a+i]?=O x)/\(∀i,(i<a\/a+xs.length<=i)->c[i]?=d[i]?)/\Mod (λb=>b=g) w (w.setCells g a xs):=by
 induction xs generalizing w d a with
 | nil=>exact⟨d,by simpa[World.setCells]using h,rfl,λi x j=>by simp at j,λ_ _=>rfl,by simpa[World.setCells]using Mod.refl _ w⟩
 | cons x l ih=>
  have h1:=Ap h a x;obtain⟨c,a1,a2,a3,k,m⟩:=ih h1 (a+1) (by simp at j ⊢;omega);have e:w.setCells g a (x :: l)=(w.setCell ⟨g,a,I⟩ x).setCells g (a+1) l:=rfl;refine⟨c,by rw[e];exact a1,by simpa using a2,λi y f=>?_,λi n=>?_,by rw[e];exact(Mod.setCell (S:=λb=>b=g) w g a x rfl).trans m⟩
  .match i,f with
   | 0,f=>
    simp at f j;subst f;have o:a<d.size:=ao9;rw[Jo,k a (.inl ao9),Oj];simp[o]
   | i+1,f=>
    have:=a3 i y (by simpa using f);rw[<-this];congr 1;omega
  .simp only[Jl]at n;rw[k i ao9];simp[Oj];omega
def Vj (l:List Int) (i:Nat):(Bz l)[i]?=(l[i]?).map (Value.int G):=by simp[Bz]
def Aks (l:List Int):∀v,v∈Bz l->v.oneCell'=true:=λv a=>by
 obtain⟨x,_,rfl⟩:=A5.1 a;rfl
def Zd (l:List Int) (k:Int) {at_:Nat} (a:at_<=l.length) (i:Nat):(l.take at_++k :: l.drop at_)[i]?=if i<at_ then l[i]? else if i=at_ then O k else l[i-1]?:=by
 by_cases h1:i<at_
 .rw [Ad h1,Fb (by simp;omega),Mp,Ad h1]
 .rw [Ac h1,Ia (by simp;omega),Fl,Mu a];by_cases b:i=at_
  .subst b;simp
  .rw [Ac b,show i-at_=(i-at_-1)+1 by omega,List.getElem?_cons_succ,Om];congr 1;omega
def Axr {v:VL} {l:List Int} (hq:Ds w B v l) (k:Int) (at_:Nat) (s:at_<=l.length) (hl:l.length<=1000000) (vb:Nat) (ad:w.heap[vb]?=O (J #[Z G k] 3 (0,0))) (av:v.ownBlock≠O vb) (hB:B<=w.heap.size) :
  CS prog 265 #[v,Z G (at_:Int),V (O ⟨vb,0,I⟩) 1 1] w (Zc w B v (l.take at_++k :: l.drop at_)):=by
 have z:∀(j:Nat) (u:VL),([Z G k]:List VL)[j]?=O u->w.cell? ⟨vb,0+j,I⟩=O u:=λj u p=>by
  match j,p with
  | 0,p=>
   simp at p;subst p;exact Aa ad 0
 have y:∀u,u∈([Z G k]:List VL)->u.oneCell'=true:=by simp[Value.oneCell']
 have n:(l.take at_++k :: l.drop at_).length=l.length+1:=by simp;omega
 have m:∀(cap:Nat) (h:Array VL) (w':WD),w'.heap[w.heap.size]?=O (J h 3 (0,0))->Mod (λb=>v.ownBlock=O b) w w'->l.length+1<=cap->cap<=maxLen->cap<=h.size->(∀(i:Nat) (x:Int),(l.take at_++k :: l.drop at_)[i]?=O x->h[i]?=O (Z G x)) ->
   Zc w B v (l.take at_++k :: l.drop at_) (Y (V (O ⟨w.heap.size,0,I⟩) (l.length+1) cap)) w':=λcap h w' h1 h2 h3 h4 h5 h6=>
  ⟨_,rfl,⟨.inr ⟨w.heap.size,0,cap,h,by rw[n],hB,h1,by rw[n];exact h3,ao9,h4,λi x c=>by simpa using h6 i x c⟩⟩,h2,.inr rfl⟩
 rcases hq.is with⟨rfl,rfl⟩|⟨g,d,cap,h,rfl,hb,hg,h1,h2,h3,h4⟩
 .obtain rfl:at_=0:=by simpa using s
  refine(Any2.slices_Insert_int_end_grow Tryz.ij I 0 0 vb 0 1 1 [] [Value.int G k] w ao9 Ln ao9 ao9 rfl rfl (λ_=>rfl) (λa e=>by cases e) z y).mono ?_;rintro e w' ⟨rfl,rfl⟩;refine m _ _ _ (Ah _ _) ((Mod.refl _ w).drew.trans (Mod.alloc _ _ _)) (Uj _ _ _ _) (Aav _ _ _ _ (by unfold maxLen;omega)) ?_ ?_
  .have:=Uj w (0+1) 0 3;simp[Xa,Value.cells];omega
  .intro i x c
   match i,c with
   | 0,c=>
    simp at c;subst c;rw[Wc as9];rfl
 .have al:∀(j:Nat) (u:VL),(Bz l)[j]?=O u->w.cell? ⟨g,d+j,I⟩=O u:=λj u p=>by
   rw[Vj]at p
   cases c:l[j]? with
   | none=>rw[c]at p;cases p
   | some x=>
    rw[c]at p;simp at p;subst p;rw[<-h4 j x c];simp[World.cell?,hg]
  have ap:g≠vb:=λe=>av (by rw[e];rfl);have an:=Ag hg
  have t:∀o,o<h.size->(w.cell? ⟨g,o,I⟩).isSome=true:=λo ho=>by
   simp[World.cell?,hg,ho]
  by_cases f:l.length+1<=cap
  .by_cases he:at_=l.length
   .subst he;refine(Any2.slices_Insert_int_end_room Tryz.ij g d l.length cap vb 0 1 1 [Z G k] w ao9 f (by unfold maxLen at h3;omega) rfl (λj hj=>t _ ao9) (λj _=>an _) z y).mono ?_;rintro e w' ⟨rfl,rfl⟩;obtain⟨q,a1,a2,a3,a4,a5⟩:=Vi hg (d+l.length) [Z G k] (by simp;omega);refine⟨_,rfl,⟨.inr ⟨g,d,cap,q,by rw[n],hb,a1,by rw[n];exact f,ao9,h3,λi x c=>?_⟩⟩,a5.mono (λb _ e=>by rw[e];rfl),.inl rfl⟩;rw[Zd l k s]at c;split at c
    .rw [a4 _ (.inl ao9)];exact h4 i x c
    .split at c
     .rename_i e;subst e;injection c with c;subst c;exact a3 0 _ rfl
     .rw [Pq ao9]at c;cases c
   .have ac:at_<l.length:=ao9
    refine(Any2.slices_Insert_int_shift Tryz.ij g d l.length cap at_ vb 0 1 1 (Bz l) [Z G k] w ac ao9 f (by unfold maxLen at h3;omega) (λe=>ap e.symm) (by simp[Bz]) rfl al (λj hj=>t _ ao9) (λj _=>an _) z (Aks l) y 3 3 1 h.size
     (by simp[World.shape?,ad]) (by simp[World.shape?,hg]) ao9 (by simp[World.frozen?,ad]) (by simp[World.frozen?,ad])).mono ?_
    rintro e w' ⟨rfl,rfl⟩;obtain⟨q,a1,a2,a3,a4,a5⟩:=Vi (w:=w.drew) hg (d+(at_+1)) ((Bz l).drop at_) (by simp[Bz];omega);obtain⟨r,b1,b2,b3,b4,b5⟩:=Vi a1 (d+at_) [Z G k] (by simp;omega);have am:Mod (λb=>b=g) w w.drew:=(Mod.refl _ _).drew;refine⟨_,rfl,⟨.inr ⟨g,d,cap,r,by rw[n],hb,b1,by rw[n];exact f,ao9,h3,λi x c=>?_⟩⟩,((am.trans a5).trans b5).mono (λb _ e=>by rw[e];rfl),.inl rfl⟩;rw[Zd l k s]at c;split at c
    .rw [b4 _ (.inl ao9),a4 _ (.inl ao9)];exact h4 i x c
    .split at c
     .rename_i e;subst e;injection c with c;subst c;exact b3 0 _ rfl
     .rename_i n1 n2;rw[b4 _ (.inr (by simp;omega))];have:=a3 (i-1-at_) (Z G x) (by rw[Om,Vj,show at_+(i-1-at_)=i-1 by omega,c];rfl);rw[<-this];congr 1;omega
  .by_cases he:at_=l.length
   .subst he;refine(Any2.slices_Insert_int_end_grow Tryz.ij (O ⟨g,d,I⟩) l.length cap vb 0 1 1 (Bz l) [Z G k] w ao9 h1 ao9 ao9 (by simp[Bz]) rfl (λe=>by cases e) (λa e j u p=>by injection e with e;subst e;rw[Xh];exact al j u p) z y).mono ?_;rintro e w' ⟨rfl,rfl⟩;refine m _ _ _ (Ah _ _) ((Mod.refl _ w).drew.trans (Mod.alloc _ _ _)) (Uj _ _ _ _) (Aav _ _ _ _ (by unfold maxLen;omega)) ?_ ?_
    .have:=Uj w (l.length+1) cap 3;simp[Xa,Value.cells,Bz];omega
    .intro i x c;rw[Zd l k s]at c
     have hi:i<l.length+1:=by
      split at c
      .omega
      .split at c
       .omega
       .have:=(An.1 c).1;omega
     rw[Wc (by simp[Bz];omega)];simp only[Mo];split at c
     .rw [Fb (by simp[Bz];omega),Vj,c];rfl
     .split at c
      .rename_i e;subst e;injection c with c;subst c;rw[Ia (by simp[Bz])];simp[Bz]
      .rw [Pq ao9]at c;cases c
   .have ac:at_<l.length:=ao9;refine(Any2.slices_Insert_int_grow Tryz.ij g d l.length cap at_ vb 0 1 1 (Bz l) [Z G k] w ac ao9 h1 ao9 ao9 (by simp[Bz]) rfl al z (Aks l) y).mono ?_;rintro e w' ⟨rfl,aA⟩;have hG:=Uj w (l.length+1) cap 3;obtain⟨C,hC⟩:=Ex ((((Bz l).take at_).toArray++Builtin.zeroCells (Value.int G 0).cells (l.length+1-at_)++Builtin.zeroCells (Value.int G 0).cells (grownCap w (l.length+1) cap 3-(l.length+1))));have aC:=Ah w (J C 3 (0,0));have aD:C.size=grownCap w (l.length+1) cap 3:=by rw[hC];simp[Xa,Value.cells,Bz];omega
    have ao:∀i,i<at_->C[i]?=(l[i]?).map (Value.int G):=λi hi=>by
     rw[hC,Wc (by simp[Xa,Value.cells,Bz];omega),Wc (by simp[Bz];omega),Mo,Mp,Ad hi,Vj]
    have aB:w'=(((w.alloc (J C 3 (0,0))).drew.setCells w.heap.size at_ [Z G k]).drew).setCells w.heap.size (at_+1) ((Bz l).drop at_):=(by rw[hC];exact aA);subst aB;obtain⟨q,a1,a2,a3,a4,a5⟩:=Vi (w:=(w.alloc (J C 3 (0,0))).drew) aC at_ [Z G k] (by simp;omega);obtain⟨r,b1,b2,b3,b4,b5⟩:=Vi (w:=(((w.alloc (J C 3 (0,0))).drew).setCells w.heap.size at_ [Z G k]).drew) a1 (at_+1) ((Bz l).drop at_) (by simp[Bz];omega);have am:Mod (λb=>b=w.heap.size) w (w.alloc (J C 3 (0,0))).drew:=(Mod.alloc _ _ _).drew;have hm:Mod (λb=>(Value.slice (O ⟨g,d,I⟩) l.length cap).ownBlock=O b) w (((((w.alloc (J C 3 (0,0))).drew).setCells w.heap.size at_ [Z G k]).drew).setCells w.heap.size (at_+1) ((Bz l).drop at_)):=(((am.trans a5).drew).trans b5).mono (λb ac e=>by omega);refine m (grownCap w (l.length+1) cap 3) r _ b1 hm hG (Aav _ _ _ _ (by unfold maxLen;omega)) ao9 ?_;intro i x c;rw[Zd l k s]at c;split at c
    .rename_i hi;rw[b4 i (.inl ao9),a4 i (.inl ao9),ao i hi,c];rfl
    .split at c
     .rename_i e;subst e;injection c with c;subst c;rw[b4 i (.inl ao9)];exact a3 0 _ rfl
     .rename_i n1 n2;have:=b3 (i-1-at_) (Z G x) (by rw[Om,Vj,show at_+(i-1-at_)=i-1 by omega,c];rfl);rw[<-this];congr 1;omega
end
section
open Go.RowKit Go.Maps Go.Lib
def Ka (b:Nat):DU:=.lit (.int G (b:Int))
def Qi:DU:=.lit (.int G (-1))
abbrev Mj (b:Nat):VL:=K (O ⟨b,0,I⟩)
open Classical in
noncomputable def Kc (v:VL):Option (DU×List MemPlace):=if h:∃b,v=Mj b then O (Ka h.choose,[])else if v=K I then O (Qi,[])else I
def Axs {a b:Nat} (h:Mj a=Mj b):a=b:=by
 injection h with h;injection h with h;injection h
def Axt (b:Nat):Kc (Mj b)=O (Ka b,[]):=by
 unfold Kc;have h:∃d,Mj b=Mj d:=⟨b,rfl⟩;rw[dif_pos h];rw[<-Axs h.choose_spec]
def Axu:Kc (K I)=O (Qi,[]):=by
 unfold Kc;rw[dif_neg (by rintro⟨b,h⟩;simp[Mj]at h),Ad rfl]
def Axv {a b:Nat} (h:Ka a=Ka b):a=b:=by
 simp[Ka]at h;omega
def Add {a:Nat} (h:Ka a=Qi):False:=by
 simp[Ka,Qi]at h
def Akt {v:VL} {b:Nat} {c:List MemPlace} (h:Kc v=O (Ka b,c)):v=Mj b:=by
 unfold Kc at h;split at h
 .rename_i a;injection h with h;injection h with h _;rw[<-Axv h];exact a.choose_spec
 .split at h
  .injection h with h;injection h with h _;exact(Add h.symm).elim
  .cases h
def Axw {v:VL} {b:List MemPlace} (h:Kc v=O (Qi,b)):v=K I:=by
 unfold Kc at h;split at h
 .injection h with h;injection h with h _;exact(Add h).elim
 .split at h
  .rename_i a;exact a
  .cases h
def In (l:List (ByteArray×Nat)):DU:=l.foldl (λm p=>m.put (Cb p.1) (Ka p.2)) (.map [])
def Vk (l:List (ByteArray×Nat)) (x:ByteArray×Nat):In (l++[x])=(In l).put (Cb x.1) (Ka x.2):=by simp[In]
def Aku (l:List (ByteArray×Nat)):IsMap (In l):=by
 induction l using Q4 with
 | h0=>exact isMap_empty
 | h1 l x ih=>rw[Vk];exact ih.put _ _
def Th (l:List (ByteArray×Nat)) (s:ByteArray):Option Nat:=(l.find? λp=>decide (p.1=s)).map Prod.snd
def Akv (a:DU) (l:List (ByteArray×Nat)) (h:(l.map Prod.fst).Nodup) (s:ByteArray):(In l).atKey (Cb s) a=match Th l s with|some b=>Ka b|none=>a:=by
 induction l using Q4 with
 | h0=>rfl
 | h1 l x ih=>
  rw[Dk,Sa]at h;rw[Vk];unfold Th at *;rw[List.find?_append];by_cases e:s=x.1
  .subst e;rw[atKey_put_same (Aku l) (Abh _)]
   have:l.find? (λp=>decide (p.1=x.1))=I:=by rw[R8];intro p f c;simp at c;exact h.2.2 p.1 (F1 f) x.1 as9 c
   rw[this];simp
  .rw [atKey_put_other (λc=>e (Xv c)),ih h.1];have d:¬x.1=s:=λc=>e c.symm
   cases hf:l.find? (λp=>decide (p.1=s))<;>simp[d]
structure Of (Own:WD->Nat->VL->List Int->Prop):Prop where
 mod:∀ {S:Nat->Prop} {w w':WD} {B:Nat} {v:VL} {l:List Int},Own w B v l->Mod S w w'->(∀k,v.ownBlock=O k->¬S k)->Own w' B v l
 lt:∀ {w:WD} {B:Nat} {v:VL} {l:List Int},Own w B v l->∀k,v.ownBlock=O k->B<=k/\k<w.heap.size
 au:∀ {w:WD} {B:Nat} {v:VL} {l:List Int},Own w B v l->∀k,v.ownBlock=O k->∃c,w.heap[k]?=O (J c 3 (0,0))
def Kd:Of Am:=⟨λh d e=>h.mod d e,λh=>h.lt,λh k b=>by obtain⟨c,a,_⟩:=C7 h.row b;exact⟨c,a⟩⟩
def Vl:Of Ds:=⟨λh b c=>h.mod b c,λh=>h.lt,λh _ a=>h.au a⟩
structure cn where
 b:Nat
 lv:VL
 pl:bz
abbrev cn.cells (u:cn):Array VL:=#[Z G u.pl.has.a,Z G u.pl.has.b,Z G u.pl.has.c,Z G u.pl.has.d,u.lv]
def cn.key (u:cn):ByteArray×Nat:=(u.pl.name,u.b)
structure my (Own:WD->Nat->VL->List Int->Prop) (w:WD) (mb:Nat) (us:List cn) (wr:WD):Prop where
 low:BW w.heap.size w wr
 map:wr.ownsMap (H:=Unit) prog 9 Kc mb us.length (In (us.map cn.key))
 mlt:w.heap.size<=mb
 box:∀u,u∈us->wr.heap[u.b]?=O (J u.cells 335 (0,0))/\w.heap.size<=u.b
 left:∀u,u∈us->Own wr w.heap.size u.lv (Dh u.pl.left)
 names:(us.map λu=>u.pl.name).Nodup
 one:us.Pairwise λx y=>x.b≠y.b/\∀k,x.lv.ownBlock=O k->y.lv.ownBlock≠O k
variable {Own:WD->Nat->VL->List Int->Prop} {w wr w':WD} {mb:Nat} {us:List cn}
def my.qi (h:my Own w mb us wr):∃b c,wr.heap[mb]?=O (.map b c):=by
 obtain⟨b,a,d,_⟩:=h.map;exact⟨b,a,d⟩
def my.mod (L:Of Own) (h:my Own w mb us wr) {S:Nat->Prop} (d:Mod S wr w') (e:∀k,S k->wr.heap.size<=k):my Own w mb us w':=by
 have no:∀k,k<wr.heap.size->¬S k:=λk g c=>by have:=e k c;omega
 refine⟨h.low.trans ((d.below Ln e).mono h.low.size),?_,h.mlt,λu b=>⟨d.au (h.box u b).1 (no _ (Ab (h.box u b).1)),(h.box u b).2⟩,λu b=>L.mod (h.left u b) d (λk g=>no k (L.lt (h.left u b) k g).2),h.names,h.one⟩;obtain⟨i,a,f,r⟩:=h.map;exact⟨i,a,d.au f (no _ (Ab f)),r⟩
def my.drop (L:Of Own) (h:my Own w mb us wr) (a:BW wr.heap.size wr w'):my Own w mb us w':=h.mod L (Mod.af (S:=λ_=>False) a) (λ_ c=>c.elim)
def my.set (L:Of Own) (h:my Own w mb us wr) {i:Nat} {u u':cn} (z:us[i]?=O u) (hm:Mod (λb=>b=u.b\/u.lv.ownBlock=O b) wr w') (hb:u'.b=u.b) (hn:u'.pl.name=u.pl.name) (ac:w'.heap[u.b]?=O (J u'.cells 335 (0,0)))
  (ad:Own w' w.heap.size u'.lv (Dh u'.pl.left)) (aC:∀k,u'.lv.ownBlock=O k->u.lv.ownBlock=O k\/wr.heap.size<=k):my Own w mb (us.set i u') w':=by
 have an:=Ai z;obtain⟨al,am⟩:=h.box u an;have x:=h.left u an;obtain⟨es,cl,s⟩:=h.qi
 have ao:(us.set i u').map cn.key=us.map cn.key:=by
  rw[Nx];have e:u'.key=u.key:=by simp[cn.key,hb,hn]
  rw[e];apply Eh;intro k;rw[D3];split
  .rename_i aB;subst aB;obtain⟨q,hx⟩:=An.1 z;simp[q,hx]
  .rfl
 have aD:(us.set i u').map (λu=>u.pl.name)=us.map λu=>u.pl.name:=by have:=Cv (List.map Prod.fst) ao;simpa[cn.key,Jk]using this
 have nm:mb≠u.b:=λe=>by rw[e,al]at s;cases s
 have aE:u.lv.ownBlock≠O mb:=λe=>by
  obtain⟨c,d⟩:=L.au x mb e;rw[d]at s;cases s
 have o:∀k y,us[k]?=O y->k≠i->w'.heap[y.b]?=O (J y.cells 335 (0,0))/\Own w' w.heap.size y.lv (Dh y.pl.left):=λk y g f=>by
  have t:=Ai g
  have n:y.b≠u.b/\∀b,y.lv.ownBlock=O b->u.lv.ownBlock≠O b:=by
   rcases R7 f with q|q
   .exact Gm h.one g z q
   .have:=Gm h.one z g q;exact⟨λe=>this.1 e.symm,λb e1 e2=>this.2 b e2 e1⟩
  refine⟨hm.au (h.box y t).1 λc=>?_,L.mod (h.left y t) hm λb p c=>?_⟩
  .rcases c with c|c
   .exact n.1 c
   .obtain ⟨c',d⟩:=L.au x _ c;rw[(h.box y t).1]at d;injection d with d;injection d with _ d;exact absurd d ad9
  .rcases c with rfl|c
   .obtain ⟨c',d⟩:=L.au (h.left y t) _ p;rw[al]at d;injection d with d;injection d with _ d;exact absurd d ad9
   .exact n.2 b p c
 have ap:∀y,y∈us.set i u'->y=u'\/∃k,us[k]?=O y/\k≠i:=λy g=>by
  obtain⟨k,f⟩:=B4 g;rw[D3]at f;split at f
  .split at f
   .injection f with f;exact .inl f.symm
   .cases f
  .rename_i m;exact .inr ⟨k,f,λe=>m e.symm⟩
 refine⟨?_,?_,h.mlt,λy g=>?_,λy g=>?_,by rw[aD];exact h.names,?_⟩
 .exact h.low.trans (hm.below h.low.size (λk c=>by
   rcases c with rfl|c
   .exact am
   .exact (L.lt x k c).1))
 .rw [ao,Dy];obtain⟨es,v,aA,r⟩:=h.map;exact⟨es,v,hm.au aA (λc=>c.elim nm aE),r⟩
 .rcases ap y g with rfl|⟨k,f,m⟩
  .rw [hb];exact⟨ac,am⟩
  .exact ⟨(o k y f m).1,(h.box y (Ai f)).2⟩
 .rcases ap y g with rfl|⟨k,f,m⟩
  .exact ad
  .exact (o k y f m).2
 .refine L1.2 λa b ha p av=>?_;have l:=A3 ha;have j:=A3 p;generalize (us.set i u')[a]=ya at l ⊢;generalize (us.set i u')[b]=yb at j ⊢
  have kk:∀k y,us[k]?=O y->k≠i->y.b≠u'.b/\∀c,y.lv.ownBlock=O c->u'.lv.ownBlock≠O c:=λk y g f=>by
   have n:y.b≠u.b/\∀b,y.lv.ownBlock=O b->u.lv.ownBlock≠O b:=by
    rcases R7 f with q|q
    .exact Gm h.one g z q
    .have:=Gm h.one z g q;exact⟨λe=>this.1 e.symm,λb e1 e2=>this.2 b e2 e1⟩
   refine⟨by rw[hb];exact n.1,λc d e=>?_⟩;rcases aC c e with e|e
   .exact n.2 c d e
   .have:=(L.lt (h.left y (Ai g)) c d).2;omega
  rw[D3]at l j;by_cases g1:i=a
  .have g2:i≠b:=ao9;rw[Ac g2]at j;rw[Ad g1]at l;split at l
   .injection l with l;subst l;have:=kk b yb j (λe=>g2 e.symm);exact⟨λe=>this.1 e.symm,λc e1 e2=>this.2 c e2 e1⟩
   .cases l
  .rw [Ac g1]at l;by_cases g2:i=b
   .rw [Ad g2]at j;split at j
    .injection j with j;subst j;exact kk a ya l (λe=>g1 e.symm)
    .cases j
   .rw [Ac g2]at j;exact Gm h.one l j av
def Akw (us:List cn) (s:ByteArray):Th (us.map cn.key) s=(us.find? λu=>decide (u.pl.name=s)).map cn.b:=by
 unfold Th;rw[List.find?_map]
 cases h:us.find? ((λp:ByteArray×Nat=>decide (p.1=s)) ∘ cn.key)with
 | none=>
  have:us.find? (λu=>decide (u.pl.name=s))=I:=h;rw[this];rfl
 | some u=>
  have:us.find? (λu=>decide (u.pl.name=s))=O u:=h;rw[this];rfl
def Axx (w:WD):(zeroValue 331).run prog w=.ok (K I) w:=by kernel_rfl
def Ade (h:my Own w mb us wr) (s:ByteArray) (d:s.size<=maxLen):(Instr.lookup 328 (.map (O mb)) (D s) false).run prog wr=.ok (.pointer ((us.find? λu=>decide (u.pl.name=s)).map λu=>⟨u.b,0,I⟩)) wr:=by
 obtain⟨v,f,a,c⟩:=World.ownsMap.lookup h.map (string_keyed Ev) Aah (Axx wr) Axu (Wg Ev d);have e:=Akv Qi (us.map cn.key) (by have:=h.names;simpa[cn.key,Jk]using this) s;rw[Akw]at e;unfold Cb at e;rw[e]at c;rw[a]
 cases hf:us.find? (λu=>decide (u.pl.name=s))with
 | none=>
  rw[hf]at c;rw[Axw c];rfl
 | some u=>
  rw[hf]at c;rw[Akt c];rfl
def my.add (L:Of Own) (q:∀w B,Own w B (V I 0 0) []) (h:my Own w mb us wr) (s:ByteArray) (v:us.find? (λu=>decide (u.pl.name=s))=I) {l:WD}
  (i:l.ownsMap (H:=Unit) prog 9 Kc mb (us.length+1) ((In (us.map cn.key)).put (Cb s) (Ka wr.heap.size)))
  (t:(wr.alloc (J #[Z G 0,Z G 0,Z G 0,Z G 0,V I 0 0] 335 (0,0))).grownBy l (O mb)) :
  my Own w mb (us++[⟨wr.heap.size,V I 0 0,⟨s,⟨0,0,0,0⟩,[]⟩⟩]) l:=by
 obtain⟨es,cl,j⟩:=h.qi;have h1:my Own w mb us (wr.alloc (J #[Z G 0,Z G 0,Z G 0,Z G 0,V I 0 0] 335 (0,0))):=h.drop L Bn;have m:Mod (λb=>b=mb) (wr.alloc (J #[Z G 0,Z G 0,Z G 0,Z G 0,V I 0 0] 335 (0,0))) l:=Mod.grown t (λk f=>by injection f with f;exact f.symm)
 have g:∀(k:Nat) (c:Array VL) (T:TypeId) (fr:Nat×Nat),(wr.alloc (J #[Z G 0,Z G 0,Z G 0,Z G 0,V I 0 0] 335 (0,0))).heap[k]?=O (J c T fr)->l.heap[k]?=O (J c T fr):=λk c T fr f=>m.au f λe=>by
  have:=Aj (J #[Z G 0,Z G 0,Z G 0,Z G 0,V I 0 0] 335 (0,0)) j;rw[e,this]at f;cases f
 refine⟨h1.low.trans (m.below h1.low.size (λk f=>by rw[f];exact h.mlt)),?_,h.mlt,λu d=>?_,λu d=>?_,?_,?_⟩
 .rw [Cn,Dk,Ko,Uh,Vk];exact i
 .rcases Dl.1 d with d|d
  .exact ⟨g _ _ _ _ (h1.box u d).1,(h1.box u d).2⟩
  .simp at d;subst d;exact⟨g _ _ _ _ (Ah _ _),h.low.size⟩
 .rcases Dl.1 d with d|d
  .refine L.mod (h1.left u d) m λk f e=>?_;obtain⟨c,o⟩:=L.au (h1.left u d) k f;have:=Aj (J #[Z G 0,Z G 0,Z G 0,Z G 0,V I 0 0] 335 (0,0)) j;rw[e,this]at o;cases o
  .simp at d;subst d;exact q _ _
 .rw [Dk,Sa];refine⟨h.names,as9,λa r b n=>?_⟩;simp at n;subst n;obtain⟨u,d,rfl⟩:=A5.1 r;intro e;have:=R8.1 v u d;simp at this;exact this e
 .rw [T7];refine⟨h.one,List.pairwise_singleton _ _,λx z y p=>?_⟩;simp at p;subst p;refine⟨λe=>?_,λk f=>by simp[Value.ownBlock]⟩;have:=Ab (h.box x z).1;have e':x.b=wr.heap.size:=e;omega
end
section
open Go.RowKit Go.Maps Go.Lib
def Tk {α:Type} (p:α->Bool) (l:List α):(l.findIdx? p=I/\l.find? p=I)\/∃k u,l.findIdx? p=O k/\l[k]?=O u/\l.find? p=O u:=by
 induction l with
 | nil=>exact .inl ⟨rfl,rfl⟩
 | cons x r ih=>
  by_cases a:p x=true
  .exact .inr ⟨0,x,by simp[Aaw,a],rfl,by simp[a]⟩
  .rcases ih with⟨h1,b⟩|⟨k,u,h1,b,c⟩
   .exact .inl ⟨by simp[Aaw,a,h1],by simp[a,b]⟩
   .exact .inr ⟨k+1,u,by simp[Aaw,a,h1],by simpa using b,by simp[a,c]⟩
def Vn (us:List cn) (s:ByteArray):Ij (us.map cn.pl) s=us.findIdx? λu=>decide (u.pl.name=s):=by
 unfold Ij;rw[List.findIdx?_map];congr 1
 funext u
 simp[uh]
abbrev Tl (x:fp):Array VL:=#[D x.user,Z G x.has.a,Z G x.has.b,Z G x.has.c,Z G x.has.d]
structure Qn (w:WD) (ao:Option Addr) (n:Nat) (hs:List fp):Prop where
 len:hs.length=n
 max:n<=1000000
 cell:∀i x,hs[i]?=O x->∃b off,ao=O ⟨b,off,I⟩/\b<w.heap.size/\∀j,j<5->w.cell? ⟨b,off+i*5+j,I⟩=(Tl x)[j]?
def Qn.low {w w':WD} {ao:Option Addr} {n:Nat} {f:List fp} (h:Qn w ao n f) (d:BW w.heap.size w w'):Qn w' ao n f:=
 ⟨h.len,h.max,λi x l=>by
  obtain⟨b,c,e,a,g⟩:=h.cell i x l
  exact⟨b,c,e,Bq a d.size,λj k=>(Af d a).trans (g j k)⟩⟩
def Ls.low {w w':WD} {ao:Option Addr} {n:Nat} {a:List dp} (h:Ls w ao n a) (b:BW w.heap.size w w'):Ls w' ao n a:=h.mod (Mod.af (S:=λ_=>False) b) (λ_ _ _ c=>c)
structure ir (Own:WD->Nat->VL->List Int->Prop) (w:WD) (ao:Option Addr) (n c:Nat) (us:List cn) (wr:WD):Prop where
 us:my Own w (w.heap.size+1) us wr
 pb:wr.heap[w.heap.size]?=O (J #[V ao n c] 273 (0,0))
variable {Own:WD->Nat->VL->List Int->Prop} {w wr w':WD} {ao:Option Addr} {n c:Nat} {us:List cn}
def ir.drop (L:Of Own) (h:ir Own w ao n c us wr) (a:BW wr.heap.size wr w'):ir Own w ao n c us w':=⟨h.us.drop L a,Ae a h.pb (Ab h.pb)⟩
def ir.set (L:Of Own) (h:ir Own w ao n c us wr) {i:Nat} {u u':cn} (j:us[i]?=O u) (l:Mod (λb=>b=u.b\/u.lv.ownBlock=O b) wr w') (m:u'.b=u.b) (o:u'.pl.name=u.pl.name) (d:w'.heap[u.b]?=O (J u'.cells 335 (0,0)))
  (e:Own w' w.heap.size u'.lv (Dh u'.pl.left)) (g:∀k,u'.lv.ownBlock=O k->u.lv.ownBlock=O k\/wr.heap.size<=k):ir Own w ao n c (us.set i u') w':=by
 refine⟨h.us.set L j l m o d e g,l.au h.pb λc=>?_⟩;have f:=Ai j;rcases c with c|c
 .have:=(h.us.box u f).1;rw[<-c,h.pb]at this;injection this with this;injection this with _ this;exact absurd this ad9
 .obtain ⟨p,a⟩:=L.au (h.us.left u f) _ c;rw[h.pb]at a;injection a with a;injection a with _ a;exact absurd a ad9
def Ax3 {us:List bz} {s:ByteArray} {i N:Nat} (h:us.length<=N/\∀u,u∈us->u.left.length<=N/\u.left≠[]/\∀p,p∈u.left->p<i):(Ak us s i).length<=N+1/\∀u,u∈Ak us s i->u.left.length<=N+1/\u.left≠[]/\∀p,p∈u.left->p<i+1:=by
 unfold Ak;split
 .refine ⟨by simp;omega,λu b=>?_⟩;rcases Dl.1 b with b|b
  .have:=h.2 u b;exact⟨ao9,this.2.1,λp a=>by have:=this.2.2 p a;omega⟩
  .simp at b;subst b;exact⟨as9,as9,λp a=>by simp at a;omega⟩
 .refine ⟨by simp;omega,λu b=>?_⟩;rcases Pf b with b|⟨y,c,rfl⟩
  .have:=h.2 u b;exact⟨ao9,this.2.1,λp a=>by have:=this.2.2 p a;omega⟩
  .have:=h.2 y c;refine⟨by simp;omega,as9,λp a=>?_⟩;rcases Dl.1 a with a|a
   .have:=this.2.2 p a;omega
   .simp at a;omega
def Vo (a:List dp):∀j,(Cq a j).length<=j/\∀u,u∈Cq a j->u.left.length<=j/\u.left≠[]/\∀p,p∈u.left->p<j
 | 0=>⟨Nat.le_refl _,λu b=>by cases b⟩
 | j+1=>Ax3 (Vo a j)
def Ak6 (l:List Nat) (i:Nat):Dh (l++[i])=Dh l++[(i:Int)]:=by simp[Dh]
def ir.push (h:ir Am w ao n c us wr) {k:Nat} {u:cn} (d:us[k]?=O u) (i:Nat) {w1 j:WD} (l:BW wr.heap.size wr w1) {f:VL} (r:w1.grownBy j u.lv.ownBlock) (v:Am j w.heap.size f (Dh u.pl.left++[(i:Int)])) (q:∀k,f.ownBlock=O k->u.lv.ownBlock=O k\/k=w1.heap.size) :
  ir Am w ao n c (us.set k ⟨u.b,f,⟨u.pl.name,u.pl.has,u.pl.left++[i]⟩⟩) (j.setCell ⟨u.b,4,I⟩ f):=by
 have o:=Ai d;obtain⟨a,x⟩:=h.us.box u o;have p:Mod (λb=>b=u.b\/u.lv.ownBlock=O b) w1 j:=(Mod.grown r (S:=λb=>u.lv.ownBlock=O b) (λk d=>d)).mono λ_ _ c=>.inr c;have t:=((Mod.af l).trans (p.mono λ_ _ c=>c)).trans (Mod.setCell j u.b 4 f (.inl rfl))
 have s:u.lv.ownBlock≠O u.b:=λe=>by
  obtain⟨z,g⟩:=Kd.au (h.us.left u o) _ e;rw[a]at g;injection g with g;injection g with _ g;exact absurd g ad9
 have m:=(r.block _ (Bq (Ab a) l.size) (λe=>s e.symm)).trans (Ae l a (Ab a))
 have y:f.ownBlock≠O u.b:=λe=>by
  rcases q _ e with c|c
  .exact s c
  .have:=Ab a;have:=l.size;omega
 refine h.set Kd d t rfl rfl ?_ ?_ λk d=>(q k d).imp id λe=>by have:=l.size;omega
 .have:=Ap m 4 f;simpa using this
 .rw [Ak6];exact v.mod (Mod.setCell (S:=λb=>b=u.b) j u.b 4 f rfl) (λk d e=>y (by rw[d,e]))
def Ax4 (l:List (ByteArray×Nat)) (s:ByteArray):has (In l) (Cb s)=true↔s∈l.map Prod.fst:=by
 induction l using Q4 with
 | h0=>simp[In,has]
 | h1 l x ih=>
  rw[Vk];by_cases e:s=x.1
  .subst e;rw[has_put_same (Aku l) (Abh _)];simp
  .rw [has_put_other (λc=>e (Xv c)),ih];simp[e]
def ir.iter (L:Of Own) (h:ir Own w ao n c us wr) {r:Nat} {m:Option Nat} {a1:Nat} {a2:Array Nat} {a3:Nat} (d:wr.heap[r]?=O (.mapIter m a1 a2 a3)) (s:w.heap.size<=r) (j:Mod (λb=>b=r) wr w'):ir Own w ao n c us w':=by
 have g:∀(k:Nat) (c:Array VL) (T:TypeId) (fr:Nat×Nat),wr.heap[k]?=O (J c T fr)->w'.heap[k]?=O (J c T fr):=λk c T fr f=>j.au f λe=>by
  rw[e,d]at f;cases f
 obtain⟨o,x,q⟩:=h.us.qi;refine⟨⟨h.us.low.trans (j.below h.us.low.size (λk f=>by rw[f];exact s)),?_,h.us.mlt,λu i=>⟨g _ _ _ _ (h.us.box u i).1,(h.us.box u i).2⟩,λu i=>L.mod (h.us.left u i) j λk f e=>?_,h.us.names,h.us.one⟩,g _ _ _ _ h.pb⟩
 .obtain ⟨o,a,l,t⟩:=h.us.map;exact⟨o,a,j.au l (λe=>by rw[e,d]at l;cases l),t⟩
 .obtain ⟨v,p⟩:=L.au (h.us.left u i) k f;rw[e,d]at p;cases p
def Adi (a b:ByteArray):(Cb a).sameKey (Cb b)=true↔a=b:=by
 constructor
 .intro h;apply Xv;simpa[Cb,Lit.sameKey]using h
 .rintro rfl;simp[Cb,Lit.sameKey]
def Ax5 {us:List cn} {k:Nat} {u u':cn} (b:us[k]?=O u) (e:u'.key=u.key):(us.set k u').map cn.key=us.map cn.key:=by
 rw[Nx,e];apply Eh;intro j;rw[D3];split
 .rename_i a;subst a;obtain⟨c,d⟩:=An.1 b;simp[c,d]
 .rfl
def Mod.grownBy {v:VL} {w w':WD} (h:Mod (λb=>v.ownBlock=O b) w w'):w.grownBy w' v.ownBlock:=⟨h.os,h.tape,h.output,h.size,λk c a=>h.block k c (λe=>a e.symm)⟩
def Ze (ws:List dp) (u:bz):bz:=⟨u.name,u.has,Ii ws u.left⟩
def Adj {W w1:WD} (h:BW W.drew.heap.size W.drew w1):BW W.heap.size W w1:=⟨h.os,h.tape,h.output,h.size,h.block⟩
def ir.vf (L:Of Own) (h:ir Own w ao n c us wr) {k:Nat} {u:cn} (j:us[k]?=O u) {w1:WD} (p:BW wr.heap.size wr w1) (v:V4) :
  ir Own w ao n c (us.set k ⟨u.b,u.lv,⟨u.pl.name,v,u.pl.left⟩⟩) ((((w1.setCell ⟨u.b,0,I⟩ (Z G v.a)).setCell ⟨u.b,1,I⟩ (Z G v.b)).setCell ⟨u.b,2,I⟩ (Z G v.c)).setCell ⟨u.b,3,I⟩ (Z G v.d)):=by
 have g:=Ai j;obtain⟨f,q⟩:=h.us.box u g;have m:∀(W:WD) (o:Nat) (x:VL),Mod (λb=>b=u.b) W (W.setCell ⟨u.b,o,I⟩ x):=λW o x=>Mod.setCell W u.b o x rfl;have l:Mod (λb=>b=u.b) wr ((((w1.setCell ⟨u.b,0,I⟩ (Z G v.a)).setCell ⟨u.b,1,I⟩ (Z G v.b)).setCell ⟨u.b,2,I⟩ (Z G v.c)).setCell ⟨u.b,3,I⟩ (Z G v.d)):=((((Mod.af p).trans (m _ _ _)).trans (m _ _ _)).trans (m _ _ _)).trans (m _ _ _)
 have r:u.lv.ownBlock≠O u.b:=λe=>by
  obtain⟨s,i⟩:=L.au (h.us.left u g) _ e;rw[f]at i;injection i with i;injection i with _ i;exact absurd i ad9
 refine h.set L j (l.mono λ_ _ e=>.inl e) rfl rfl ?_ ?_ λk j=>.inl j
 .have:=Ap (Ap (Ap (Ap (Ae p f (Ab f)) 0 (Z G v.a)) 1 (Z G v.b)) 2 (Z G v.c)) 3 (Z G v.d);simpa using this
 .exact L.mod (h.us.left u g) l (λk j e=>r (by rw[j,e]))
def Ax6 (ho:Option Addr) (m hc:Nat) (hs:List fp) (ws:List dp) (hh:Qn w ho m hs) (hw:Ls w ao n ws) (hn:n<=20) (bN:∀x,x∈ws->x.user.size<=maxLen) (bx:∀x,x∈hs->x.user.size<=maxLen) (h1:Vh ws) :
  CS prog 248 #[V ho m hc,V ao n c] w λe w'=>∃us,e=Y (.map (O (w.heap.size+1)))/\ir Am w ao n c us w'/\us.map cn.pl=Dp hs ws:=by
 have ce:=@run_makeMap prog;obtain⟨W0,bs⟩:=Ex ((w.alloc (J #[V ao n c] 273 (0,0))).alloc (.map #[] 0));have a7:ir Am w ao n c [] W0:=by rw[bs];refine⟨⟨Bn.alloc as9 _,?_,ao9,λu hu=>(by cases hu),λu hu=>(by cases hu),List.nodup_nil,List.Pairwise.nil⟩,Aj _ (Ah _ _)⟩;have:=Aat (H:=Unit) (w.alloc (J #[V ao n c] 273 (0,0))) prog 9 Kc;simpa[In]using this
 have a9:=hw.len;replace⟨a7,hh,hw,bN,bx,h1,a9⟩:=H7 a7 hh hw bN bx h1 a9;go_enter func248,ntmps248;go_upto_region 2 with fail;rw[<-bs];clear bs ce;have b0:=Bk a7.pb 0 (V ao n c) rfl;go_wp2_with fail;clear b0;go_loopw [6,7,8,17] (λ_ _ _ iv wr=>∃(i:Nat) (us:List cn),iv=Z G i/\i<=n/\Hid (ir Am w ao n c us wr)/\Hid (us.map cn.pl=Cq ws i)) (λ_ _ _ iv _=>n-(intOf iv).toNat)
 case atStart=>exact⟨0,[],rfl,As _,a7,rfl⟩
 case round=>
  obtain⟨i,us,rfl,cB,hU,av⟩:=hrel;by_cases cx:i<n
  .have cb:(i:Int)<n:=ao9;have cA:(0:Int)<=(i:Int):=ao9;obtain⟨⟨b5,f,b6,⟨na,nb,nc,nd⟩⟩,hx⟩:=Ge ws i (by have:=a9.out;omega);obtain⟨b,aA,rfl,bb,am⟩:=(hw.low hU.us.low).cell i _ hx;have z0:wr.cell? ⟨b,aA+i*7,I⟩=O (Z G b5):=am 0 ao9;have z1:wr.cell? ⟨b,aA+i*7+1,I⟩=O (D f):=am 1 ao9;have z2:wr.cell? ⟨b,aA+i*7+2,I⟩=O (Z G b6):=am 2 ao9;have z3:wr.cell? ⟨b,aA+i*7+3,I⟩=O (Z G na):=am 3 ao9;have z4:wr.cell? ⟨b,aA+i*7+4,I⟩=O (Z G nb):=am 4 ao9;have z5:wr.cell? ⟨b,aA+i*7+5,I⟩=O (Z G nc):=am 5 ao9;have z6:wr.cell? ⟨b,aA+i*7+6,I⟩=O (Z G nd):=am 6 ao9;obtain⟨W1,aE⟩:=Ex (wr.alloc (J #[Z G b5,D f,Z G b6,Z G na,Z G nb,Z G nc,Z G nd] 275 (0,0)));have al:BW wr.heap.size wr W1:=(by rw[aE];exact Bn);have d:=hU.drop Kd al;have y1:W1.cell? ⟨wr.heap.size,1,I⟩=O (D f):=(by rw[aE];exact Aa (Ah _ _) 1);have aU:=bN _ (Ai hx);have aP:=Ade d.us f aU;have aQ:Cq ws (i+1)=Ak (Cq ws i) f i:=(by show Ak (Cq ws i) (A9 ws i).user i=_;unfold A9;rw[Iq hx]);replace⟨hx,am,al,d,aU,aQ,hU⟩:=H7 hx am al d aU aQ hU;go_upto_region 5 with fail;rcases Tk (λu:cn=>decide (u.pl.name=f)) us with⟨ac,aL⟩|⟨k,u,ac,t,aF⟩
   .rw [aL]at aP;have bV:=hn;have aJ:Ak (Cq ws i) f i=Cq ws i++[⟨f,⟨0,0,0,0⟩,[i]⟩]:=by rw[<-av.out];unfold Ak;rw[Vn,ac]
    have bf:us.length<=20:=by
     have h9:us.length=(Cq ws i).length:=(by rw[<-av.out,Ar]);have:=(Vo ws i).1;omega
    have a4:BW W1.heap.size W1 (W1.alloc (J #[Z G 0,Z G 0,Z G 0,Z G 0,V I 0 0] 335 (0,0))):=Bn;have aC:=(d.us.drop Kd a4).map;have bd:us.length<maxLen:=(by have:maxLen=9223372036854775807:=rfl;omega);have aB:keyOf prog 9 (D f)=O (Cb f):=Wg Ev aU.out;have y2:=(Af a4 (by rw[aE];simp)).trans y1;replace⟨ac,aL,aJ,bf,a4,aC,bd,aB⟩:=H8 ac aL aJ bf a4 aC bd aB;rw[<-aE];clear aE z0 z1 z2 z3 z4 z5 z6;go_upto_region 9 with(at_mapUpdate;refine Aan _ rfl _ _ _ 328 rfl 9 331 (string_keyed Ev) Aah _ (w.heap.size+1) us.length _ rfl aC.out bd.out _ _ (Cb f) rfl rfl aB.out _ [] (Axt _) ?_;intro w5 a1 aG;replace⟨a1,aG⟩:=H2 a1 aG);simp only[Act.put];have hA:=d.us.add Kd (λw B=>Am.nil w B) f aL.out a1.out aG.out;have aH:Hid (ir Am w (O ⟨b,aA,I⟩) n c (us++[⟨W1.heap.size,V I 0 0,⟨f,⟨0,0,0,0⟩,[]⟩⟩]) w5):=(by refine⟨hA,?_⟩;have bH:=d.pb;refine(aG.block _ (Bq (Ab bH) a4.size) (λe=>?_)).trans (Ae a4.out bH (Ab bH));injection e with e;omega);have aZ:(us++[(⟨W1.heap.size,V I 0 0,⟨f,⟨0,0,0,0⟩,[]⟩⟩:cn)])[us.length]?=O ⟨W1.heap.size,V I 0 0,⟨f,⟨0,0,0,0⟩,[]⟩⟩:=as9;have x4:w5.cell? ⟨W1.heap.size,4,I⟩=O (V I 0 0:VL):=Aa (aH.us.box _ (Ai aZ)).1 4;have ap:BW w5.heap.size w5 (w5.alloc (J #[Z G (i:Int)] 3 (0,0))):=Bn;have ax:Am (w5.alloc (J #[Z G (i:Int)] 3 (0,0))) w.heap.size (V I 0 0:VL) (Dh ([]:List Nat)):=(aH.us.left _ (Ai aZ)).mod (Mod.af (S:=λ_=>False) ap) (λ_ _ c=>c);have cw:(w5.alloc (J #[Z G (i:Int)] 3 (0,0))).cell? ⟨w5.heap.size,0,I⟩=O (Z G (i:Int)):=Aa (Ah _ _) 0;have aW:w.heap.size<=(w5.alloc (J #[Z G (i:Int)] 3 (0,0))).heap.size:=by have:=aH.us.low.size;have:=ap.size;omega
    have a0:∀w7,(w5.alloc (J #[Z G (i:Int)] 3 (0,0))).grownBy w7 ((V I 0 0:VL)).ownBlock->w7.cell? ⟨W1.heap.size,4,I⟩=O (V I 0 0:VL)/\w7.frozen? ⟨W1.heap.size,4,I⟩=false:=λw7 hg=>by
     have aN:=(aH.us.box _ (Ai aZ)).1
     have a5:((V I 0 0:VL)).ownBlock≠O (W1.heap.size):=λe=>by
      obtain⟨c',hc⟩:=Kd.au (aH.us.left _ (Ai aZ)) _ e;rw[aN]at hc;injection hc with hc;injection hc with _ hc;exact absurd hc ad9
     have hb:=(hg.block (W1.heap.size) (Bq (Ab aN) ap.size) (λe=>a5 e.symm)).trans (ap.block _ (Ab aN));exact⟨(By (a:=⟨W1.heap.size,4,I⟩) hb).trans x4,(Po (a:=⟨W1.heap.size,4,I⟩) hb).trans (Ag aN 4)⟩
    replace⟨ap,ax,cw,aW,a0⟩:=H5 ap ax cw aW a0;clear y1 y2 hA;replace aZ:=Hh aZ;go_wp2_with (at_builtin;refine Nm rfl _ _ rfl w.heap.size 0 _ rfl ax.out rfl ⟨w5.heap.size,0,I⟩ 1 rfl (i:Int) cw.out ao9 aW.out ?_;intro g7 a6 w7 h7 aO aX;obtain⟨k7,f7⟩:=a0 w7 aO;replace⟨h7,aO,aX⟩:=H3 h7 aO aX)
    have aI:=aH.push aZ.out i ap.out aO.out h7.out (λk t=>by
     simp[Value.ownBlock]at t;subst t;rcases aX.out with e|e
     .exact .inl e
     .exact .inr e)
    have an:Hid (((us++[(⟨W1.heap.size,V I 0 0,⟨f,⟨0,0,0,0⟩,[]⟩⟩:cn)]).set us.length ⟨W1.heap.size,V (O ⟨g7,0,I⟩) (0+1) a6,⟨f,⟨0,0,0,0⟩,[]++[i]⟩⟩).map cn.pl=Cq ws (i+1)):=Hh (by
     rw[aQ.out,aJ.out,<-av.out]
     simp)
    replace aI:=Hh aI;go_roundw
    case rel=>exact⟨i+1,_,by go_num,ao9,aI,an⟩
    case measure=>simp[intOf];omega
   .rw [aF]at aP;obtain⟨ub,aK,⟨g,aM,ad⟩⟩:=u;have aJ:Ak (Cq ws i) f i=(us.set k ⟨ub,aK,⟨g,aM,ad++[i]⟩⟩).map cn.pl:=(by rw[<-av.out];unfold Ak;rw[Vn,ac];simp only;rw[Rt _ _ _ (x:=⟨g,aM,ad⟩) (by simp[t]),Nx]);have bl:ad.length<=i:=((Vo ws i).2 ⟨g,aM,ad⟩ (by rw[<-av.out];exact F1 (Ai t))).1;obtain⟨so,L,cc,e,hL⟩:=(d.us.left _ (Ai t)).len;have e':aK=V so L cc:=e;subst e';have bi:(Dh ad).length=L:=hL.symm;have bp:L<=1000000000:=(by rw[<-bi,Qh];omega);rw[<-aE];clear aE z0 z1 z2 z3 z4 z5 z6;have x4:W1.cell? ⟨ub,4,I⟩=O (Value.slice so L cc):=Aa (d.us.box _ (Ai t)).1 4;have ap:BW W1.heap.size W1 (W1.alloc (J #[Z G (i:Int)] 3 (0,0))):=Bn;have ax:Am (W1.alloc (J #[Z G (i:Int)] 3 (0,0))) w.heap.size (Value.slice so L cc) (Dh ad):=(d.us.left _ (Ai t)).mod (Mod.af (S:=λ_=>False) ap) (λ_ _ c=>c);have cw:(W1.alloc (J #[Z G (i:Int)] 3 (0,0))).cell? ⟨W1.heap.size,0,I⟩=O (Z G (i:Int)):=Aa (Ah _ _) 0;have aW:w.heap.size<=(W1.alloc (J #[Z G (i:Int)] 3 (0,0))).heap.size:=by have:=d.us.low.size;have:=ap.size;omega
    have a0:∀w7,(W1.alloc (J #[Z G (i:Int)] 3 (0,0))).grownBy w7 ((Value.slice so L cc)).ownBlock->w7.cell? ⟨ub,4,I⟩=O (Value.slice so L cc)/\w7.frozen? ⟨ub,4,I⟩=false:=λw7 hg=>by
     have aN:=(d.us.box _ (Ai t)).1
     have a5:((Value.slice so L cc)).ownBlock≠O (ub):=λe=>by
      obtain⟨c',hc⟩:=Kd.au (d.us.left _ (Ai t)) _ e;rw[aN]at hc;injection hc with hc;injection hc with _ hc;exact absurd hc ad9
     have hb:=(hg.block (ub) (Bq (Ab aN) ap.size) (λe=>a5 e.symm)).trans (ap.block _ (Ab aN));exact⟨(By (a:=⟨ub,4,I⟩) hb).trans x4,(Po (a:=⟨ub,4,I⟩) hb).trans (Ag aN 4)⟩
    replace⟨ap,ax,cw,aW,a0,ac,aF,t⟩:=H8 ap ax cw aW a0 ac aF t;replace⟨aJ,bl,e,hL,bi,bp⟩:=H6 aJ bl e hL bi bp;go_wp2_with (at_builtin;refine Nm rfl _ _ rfl w.heap.size L _ rfl ax.out bi.out ⟨W1.heap.size,0,I⟩ 1 rfl (i:Int) cw.out bp.out aW.out ?_;intro g7 a6 w7 h7 aO aX;obtain⟨k7,f7⟩:=a0 w7 aO;replace⟨h7,aO,aX⟩:=H3 h7 aO aX)
    have aI:=d.push t.out i ap.out aO.out h7.out (λk t=>by
     simp[Value.ownBlock]at t;subst t;rcases aX.out with e|e
     .exact .inl e
     .exact .inr e)
    have an:Hid ((us.set k ⟨ub,V (O ⟨g7,0,I⟩) (L+1) a6,⟨g,aM,ad++[i]⟩⟩).map cn.pl=Cq ws (i+1)):=Hh (by
     rw[aQ.out,aJ.out]
     simp)
    replace aI:=Hh aI;go_roundw
    case rel=>exact⟨i+1,_,by go_num,ao9,aI,an⟩
    case measure=>simp[intOf];omega
  .have cb:¬(i:Int)<n:=ao9;have bA:i=n:=ao9;have aH:=hU;have a2:Hid (us.map cn.pl=(hs.take 0).foldl Dd (Cq ws n)):=(by rw[av.out,bA];rfl);clear hU av a7;replace bA:=Hh bA;go_wp2_with fail;go_loopw [10,11,47] (λ_ _ jv wr=>∃(j:Nat) (us:List cn),jv=Z G j/\j<=m/\Hid (ir Am w ao n c us wr)/\Hid (us.map cn.pl=(hs.take j).foldl Dd (Cq ws n))) (λ_ _ jv _=>m-(intOf jv).toNat)
   case atStart=>exact⟨0,us,rfl,As _,aH,a2⟩
   case round=>
    obtain⟨j,us,rfl,cD,hU,av⟩:=hrel;have cE:=hh.max;by_cases hd:j<m
    .have cd:(j:Int)<m:=ao9;have cC:(0:Int)<=(j:Int):=ao9;obtain⟨⟨f,⟨na,nb,nc,nd⟩⟩,hx⟩:=Ge hs j (by have:=hh.len;omega);obtain⟨b,aA,rfl,bb,am⟩:=(hh.low hU.us.low).cell j _ hx;have z0:wr.cell? ⟨b,aA+j*5,I⟩=O (D f):=am 0 ao9;have z1:wr.cell? ⟨b,aA+j*5+1,I⟩=O (Z G na):=am 1 ao9;have z2:wr.cell? ⟨b,aA+j*5+2,I⟩=O (Z G nb):=am 2 ao9;have z3:wr.cell? ⟨b,aA+j*5+3,I⟩=O (Z G nc):=am 3 ao9;have z4:wr.cell? ⟨b,aA+j*5+4,I⟩=O (Z G nd):=am 4 ao9;obtain⟨W1,aE⟩:=Ex (wr.alloc (J #[D f,Z G na,Z G nb,Z G nc,Z G nd] 259 (0,0)));have al:BW wr.heap.size wr W1:=(by rw[aE];exact Bn);have d:=hU.drop Kd al;have bP:W1.heap[wr.heap.size]?=O (J #[D f,Z G na,Z G nb,Z G nc,Z G nd] 259 (0,0)):=(by rw[aE];exact Ah _ _);obtain⟨y0,y1,y2,y3,y4⟩:=C5 bP;(try dsimp only at y0 y1 y2 y3 y4);have aU:=bx _ (Ai hx);have aP:=Ade d.us f aU;have aQ:(hs.take (j+1)).foldl Dd (Cq ws n)=Dd (us.map cn.pl) ⟨f,⟨na,nb,nc,nd⟩⟩:=(by rw[On,hx,Mt,<-av.out];rfl);replace⟨hx,am,al,d,aU,aQ,hU,bP⟩:=H8 hx am al d aU aQ hU bP;go_upto_region 14 with fail;rw[<-aE];clear aE z0 z1 z2 z3 z4;rcases Tk (λu:cn=>decide (u.pl.name=f)) us with⟨ac,aL⟩|⟨k,u,ac,t,aF⟩
     .rw [aL]at aP;have an:Hid (us.map cn.pl=(hs.take (j+1)).foldl Dd (Cq ws n)):=(by rw[aQ.out];unfold Dd;rw[Vn,ac];rfl);clear y1 y2 y3 y4;replace⟨ac,aL⟩:=H2 ac aL;go_wp2_with fail;go_roundw
      case rel=>exact⟨j+1,_,by go_num,ao9,d,an⟩
      case measure=>simp[intOf];omega
     .rw [aF]at aP;obtain⟨ub,aK,⟨g,⟨ua,bg,uc,ud⟩,ad⟩⟩:=u;have aV:=(d.us.box _ (Ai t)).1;have x0:=Bk aV 0 (Z G ua) rfl;have x1:=Bk aV 1 (Z G bg) rfl;have x2:=Bk aV 2 (Z G uc) rfl;have x3:=Bk aV 3 (Z G ud) rfl;have fu:=Ag aV;have cF:=Ab aV;obtain⟨⟨pa,bQ,pc,pd⟩,bj⟩:∃p,p=Ld ⟨ua,bg,uc,ud⟩ ⟨na,nb,nc,nd⟩:=⟨_,rfl⟩
      have kp:∀W,CS prog 252 #[.agg #[Z G ua,Z G bg,Z G uc,Z G ud],.agg #[Z G na,Z G nb,Z G nc,Z G nd]] W λe w'=>e=Y (.agg #[Z G pa,Z G bQ,Z G pc,Z G pd])/\BW W.heap.size W w':=λW=>by
       have:=Ak1 ⟨ua,bg,uc,ud⟩ ⟨na,nb,nc,nd⟩ W;rw[<-bj]at this;exact this
      have an:Hid ((us.set k ⟨ub,aK,⟨g,⟨pa,bQ,pc,pd⟩,ad⟩⟩).map cn.pl=(hs.take (j+1)).foldl Dd (Cq ws n)):=(by rw[aQ.out];unfold Dd;rw[Vn,ac];simp only;rw[Rt _ _ _ (x:=⟨g,⟨ua,bg,uc,ud⟩,ad⟩) (by simp[t]),Nx,bj];rfl);replace⟨ac,aF,t,aV,kp,bj⟩:=H6 ac aF t aV kp bj;go_upto_region 16 with fail;go_region_with (go_at_call 252;((with_reducible refine(kp.out _).mono ?_);rintro e w1 ⟨rfl,al⟩;have x0:=(Af al (by first|omega|(simp;omega))).trans x0;have x1:=(Af al (by first|omega|(simp;omega))).trans x1;have x2:=(Af al (by first|omega|(simp;omega))).trans x2;have x3:=(Af al (by first|omega|(simp;omega))).trans x3;have fu:=λo=>(al.frozen (p:=⟨ub,o,I⟩) (by first|(show ub<_;omega)|(simp;omega))).trans (fu o);replace al:=Hh al))
      all_goals
       go_wp2_with fail
       have ca:BW W1.heap.size W1 w1:=by first|exact al.out|exact Adj al.out
       have aI:=d.vf Kd t.out ca ⟨pa,bQ,pc,pd⟩;replace aI:=Hh aI;go_roundw
       case rel=>exact⟨j+1,_,by go_num,ao9,aI,an⟩
       case measure=>simp[intOf];omega
    .have cd:¬(j:Int)<m:=ao9;obtain⟨fi,aS⟩:=Ex (hs.foldl Dd (Cq ws n));have an:us.map cn.pl=fi:=by rw[av.out,aS,C4 (by have:=hh.len;omega)]
     have a8:Dp hs ws=fi.map λu=>⟨u.name,u.has,Ii ws u.left⟩:=by unfold Dp;rw[a9.out,aS]
     have aC:=hU.us.map;obtain⟨D0,hD⟩:=Ex (In (us.map cn.key));rw[<-hD]at aC;clear aH a2 av;replace⟨an,a8,aS,aC,hD⟩:=H5 an a8 aS aC hD
     go_wp2_with (first
      | (at_range;refine wpList_range_own _ rfl _ 328 rfl 9 331 (string_keyed Ev) Aah _ (w.heap.size+1) us.length _ rfl aC.out ?_;intro w0 aT aR bL;replace⟨aT,aR,bL⟩:=H3 aT aR bL)
      | fail)
     obtain⟨rI,bI⟩:=Ex (wr.heap.size);rw[<-bI]at aT ⊢;have b9:Hid (ir Am w ao n c us w0):=(by have hb:BW wr.heap.size wr w0:=⟨aR.os,aR.tape,aR.output,aR.size,λk t=>aR.block k t as9⟩;exact hU.drop Kd hb);have bK:w.heap.size<=rI:=by have:=hU.us.low.size;omega
     have bW:Hid (us.map cn.pl=fi.map λu=>if has D0 (Cb u.name)=true then u else Ze ws u):=Hh (by
      rw[<-an.out];simp only[Dm];apply Wn;intro u hu
      have:has D0 (Cb u.pl.name)=true:=by rw[hD.out,Ax4];simp only[Dm,A5];exact⟨u,hu,rfl⟩
      simp[this])
     have bS:Hid (∀u,u∈fi->u.left.length<=n/\u.left≠[]/\∀p,p∈u.left->p<n):=Hh (by
      rw[aS.out];have h0:=(Vo ws n).2
      have b4:∀(l:List bz) (h:fp),(∀u,u∈l->u.left.length<=n/\u.left≠[]/\∀p,p∈u.left->p<n)->∀u,u∈Dd l h->u.left.length<=n/\u.left≠[]/\∀p,p∈u.left->p<n:=λl h hl u hu=>by
       unfold Dd at hu;split at hu
       .exact hl u hu
       .rcases Pf hu with hu|⟨y,hy,rfl⟩
        .exact hl u hu
        .exact hl y hy
      have bZ:∀(hs:List fp) (l:List bz),(∀u,u∈l->u.left.length<=n/\u.left≠[]/\∀p,p∈u.left->p<n)->∀u,u∈hs.foldl Dd l->u.left.length<=n/\u.left≠[]/\∀p,p∈u.left->p<n:=λhs=>by
       induction hs with
       | nil=>intro l hl;exact hl
       | cons h r ih=>intro l hl;exact ih _ (b4 l h hl)
      exact bZ hs _ h0)
     have bC:=hD;obtain⟨N,hN⟩:=Ex (us.length);rw[<-hN]at aT;clear hU aC aR bL;replace⟨bI,bK,hN⟩:=H3 bI bK hN;go_loopw [13] (λ_ wr=>∃(left:Lit->Bool) (eo:Nat) (us:List cn),Hid (wr.ranges prog 9 Kc (w.heap.size+1) rI N D0 left eo)/\Hid (ir Am w ao n c us wr)/\Hid (D0=In (us.map cn.key))/\Hid (us.map cn.pl=fi.map λu=>if left (Cb u.name)=true then u else Ze ws u)) (λ_ wr=>wr.rangeLeft (w.heap.size+1) rI)
     case atStart=>exact⟨_,_,us,aT,b9,bC,bW⟩
     case round=>
      obtain⟨left,eo,us,bJ,hU,bR,av⟩:=hrel
      go_wp2_with (first
       | (at_next;refine wpList_next_ranges _ rfl _ rfl 9 (string_keyed Ev) Kc Value.string id (λbZ kl aB=>by obtain⟨s,e,_⟩:=WideMaps.string_of_keyOf Ev aB;exact⟨s,e⟩) (λv y _=>⟨v,rfl⟩) (w.heap.size+1) rI N D0 left eo rfl bJ.out ?_ ?_)
       | fail)
      .intro _ bE;have aY:us.map cn.pl=Dp hs ws:=(by rw[a8.out,av.out];apply Wn;intro u _;rw[bE];rfl);replace⟨bE,aY⟩:=H2 bE aY;go_wp2;go_ret;exact⟨us,rfl,hU.out,aY.out⟩
      .intro x v kl y1 y2 w1 bk aB aP hv bv a3 bb bw bX cy;obtain⟨s',e1,e2,bY⟩:=WideMaps.string_of_keyOf Ev aB;injection e1 with e1;subst e1;have e3:kl=Cb x:=e2;subst e3;clear e2;have be:((us.map cn.key).map Prod.fst).Nodup:=by have:=hU.us.names;simpa[cn.key,Jk]using this
       have aD:∀zd,(match Th (us.map cn.key) x with|some b=>Ka b|none=>zd)=y1:=λzd=>by
        rw[<-bv zd,bR.out,Akv zd _ be]
        try cases Th (us.map cn.key) x<;>rfl
       rw[Akw]at aD;rcases Tk (λu:cn=>decide (u.pl.name=x)) us with⟨ac,aL⟩|⟨k,u,ac,t,aF⟩
       .exfalso;rw[aL]at aD;exact Add (a:=0) ((aD (Ka 0)).trans (aD Qi).symm)
       .rw [aF]at aD;have hy:=aD Qi;simp only[K9]at hy;have ck:=Akt (by rw[hv,hy]);subst ck;obtain⟨ub,aK,⟨g,aM,ad⟩⟩:=u;have bF:g=x:=(by have:=Ud aF;simpa using this);subst bF;obtain⟨cv,cr,cI,cG,co,_,_,_,_,bB,_⟩:=bJ.out;have d:=hU.iter Kd bB bK.out (Mod.grown bw (S:=λb=>b=rI) (λk t=>by injection t with t;exact t.symm))
        have ci:∃q,fi[k]?=O q/\(⟨g,aM,ad⟩:bz)=q:=by
         have:=Cv (λl=>l[k]?) av.out;simp only[A7,t,K9]at this
         cases hq:fi[k]? with
         | none=>rw[hq]at this;cases this
         | some q=>
          rw[hq]at this;simp only[K9,Wq]at this;refine⟨q,rfl,?_⟩;by_cases hl:left (Cb q.name)=true
          .rw [Ad hl]at this;exact this
          .exfalso;rw[Ac hl]at this;have cf:g=q.name:=Cv bz.name this;rw[<-cf]at hl;exact hl aP
        obtain⟨q,hq,cj⟩:=ci;subst cj;obtain⟨b1,b2,b3⟩:=bS _ (Ai hq);simp only at b1 b2 b3;have bO:=hw.low d.us.low
        have bM:=Axq (d.us.left _ (Ai t)) b2 (by show ad.length<=20;omega) ao n c w.heap.size ws bO d.pb b3 h1.out (λb aA e c2=>by
         have h0:0<n:=by
          cases ad with
          | nil=>exact absurd rfl b2
          | cons p r=>have:=b3 p (Ci ..);omega
         obtain⟨b',cm,e',cl,_⟩:=hw.cell 0 _ (A3 (by have:=a9.out;omega));rw[e]at e';injection e' with e';injection e' with e';have:=(d.us.left _ (Ai t)).lt _ c2
         omega)
        have x4:w1.cell? ⟨ub,4,I⟩=O aK:=Aa (d.us.box _ (Ai t)).1 4;replace⟨aB,aP,hv,bv,a3,bb,bw,bX⟩:=H8 aB aP hv bv a3 bb bw bX;replace⟨bY,be,aD,ac,t,aF,hy,bB⟩:=H8 bY be aD ac t aF hy bB;replace⟨d,hq,b1,b2,b3,bO,bM⟩:=H7 d hq b1 b2 b3 bO bM;go_wp2_with (go_at_call 288;(with_reducible refine bM.out.mono ?_);rintro e w2 ⟨rfl,bG,bc⟩;replace⟨bG,bc⟩:=H2 bG bc);have bo:=d.us.box _ (Ai t.out);have ba:=d.us.left _ (Ai t.out)
        have nb:aK.ownBlock≠O ub:=λe=>by
         obtain⟨c',hc⟩:=Kd.au ba _ e;rw[bo.1]at hc;injection hc with hc;injection hc with _ hc;exact absurd hc ad9
        have bn:Hid (w2.ranges prog 9 Kc (w.heap.size+1) rI N D0 (λz=>left z && !z.sameKey (Cb g)) bk):=by
         refine a3.kept bc.grownBy (λe=>?_) (λe=>?_)
         .obtain ⟨c',hc⟩:=Kd.au ba _ e.symm;obtain⟨b7,ct,bU⟩:=d.us.qi;rw[bU]at hc;cases hc
         .obtain ⟨c',hc⟩:=Kd.au ba _ e.symm;obtain⟨b7,cs,cJ,cH,cp,_,_,_,_,bT,_⟩:=a3.out;rw[bT]at hc;cases hc
        have aH:Hid (ir Am w ao n c (us.set k ⟨ub,aK,⟨g,aM,Ii ws ad⟩⟩) w2):=d.set Kd t.out (bc.mono λ_ _ e=>.inr e) rfl rfl (bc.au bo.1 nb) bG.out (λk t=>.inl t);have b8:Hid (D0=In ((us.set k ⟨ub,aK,⟨g,aM,Ii ws ad⟩⟩).map cn.key)):=Hh (by rw[Ax5 (u':=⟨ub,aK,⟨g,aM,Ii ws ad⟩⟩) t.out rfl];exact bR.out)
        have a2:Hid ((us.set k ⟨ub,aK,⟨g,aM,Ii ws ad⟩⟩).map cn.pl=fi.map λu=>if (left (Cb u.name) && !(Cb u.name).sameKey (Cb g))=true then u else Ze ws u):=Hh (by
         apply Eh;intro j;have hj:=Cv (λl=>l[j]?) av.out;simp only[A7]at hj ⊢;rw[D3];by_cases bD:k=j
         .subst bD;rw[Ad rfl,Ad (An.1 t.out).1,hq.out];have:(Cb g).sameKey (Cb g)=true:=(Adi g g).2 rfl;simp[this,Ze]
         .rw [Ac bD,hj]
          cases hqj:fi[j]? with
          | none=>rfl
          | some q2=>
           simp only[K9]
           have a5:¬(Cb q2.name).sameKey (Cb g)=true:=λe=>by
            have e2:=(Adi _ _).1 e;rw[hqj]at hj
            cases huj:us[j]? with
            | none=>rw[huj]at hj;cases hj
            | some u2=>
             rw[huj]at hj;simp only[K9,Wq]at hj
             have bV:u2.pl.name=q2.name:=by rw[hj];split<;>rfl
             have ch:=hU.us.names;have h6:(us.map λu=>u.pl.name)[k]?=O g:=(by simp[t.out]);have h7:(us.map λu=>u.pl.name)[j]?=O g:=(by simp[huj,bV,e2]);obtain⟨i6,e6⟩:=An.1 h6;obtain⟨i7,e7⟩:=An.1 h7;exact bD ((List.getElem_inj ch).1 (e6.trans e7.symm))
           rw[Aa3]at a5;rw[a5]
           simp)
        refine⟨⟨_,bk,_,bn,aH,b8,a2⟩,?_⟩;rw[bn.left_eq,bJ.left_eq];exact bb.out
end
section
open Go.RowKit Go.Maps Go.Sort Go.Shelf
def A0o (m:Nat):AnyZ.SortsIn prog Tryz.jf Fence.wide m:=
 ⟨λd c cap ss W e a b=>Pw.2 (AnyM.slices_Sort_string Tryz.va d c cap ss W e a b), λp cap W=>Pw.2 (AnyM.slices_Sort_string_none Tryz.va p cap W)⟩
def A0p {H:Type} (b nn:Nat) (d:DataW H) (R:VL->Option (DataW H×List MemPlace)) (w:WD) (c:w.ownsMap prog 9 R b nn d) (g:Maps.size d<=maxLen) (a:Maps.size d*16<=140737488355328) :
  CS prog 249 #[.map (O b)] w λe w'=>∃(v:VL) (ss:List (List UInt8)),e=Y v/\ss.Perm (strKeys d) /\
   w'.ownsRow w.heap.size 9 1 v ss.length ((ss.mergeSort (λx y=>decide (x<=y))).map encStr)/\(v=V I 0 0↔ss=[])/\BW w.heap.size w w':=by
 refine(Pw (n:=6)).1 ?_;have l:=c.lt
 have i:SeqGives Fence.wide 2 prog 324 #[K (O ⟨w.heap.size,0,I⟩)] encStr (λss=>ss.Perm (strKeys d)) (Maps.size d) (w.alloc (J #[.map (O b)] 328)):=
  AnyZ.keys_gives (ρ:=Tryz.lj) { Tryz.ui with } Fence.wide _ trivial rfl ao9 w.heap.size b nn d _ as9 as9 (by
   obtain⟨r,f,k,o,hs,s⟩:=c
   exact⟨r,f,(Iv _ _ b l).trans k,o,hs,s⟩)
 have q:∀j W,CallsIn Fence.wide 5 prog 292 #[.map j] W λe w'=>e=Y (.func (.func 324) #[] #[K (O ⟨W.heap.size,0,I⟩)])/\w'=W.alloc (J #[.map j] 328):=λj W=>AnyZ.keys_in Tryz.ui Fence.wide 5 trivial rfl j W;have m:=AnyZ.sorted_in Tryz.tw Fence.wide 5 trivial trivial trivial trivial rfl ao9 (A0o _) (enters_of func323 (by kernel_rfl) rfl) 324 #[K (O ⟨w.heap.size,0,I⟩)] trivial (enters_of func324 (by kernel_rfl) rfl) _ _ g a _ i;change CallsIn _ _ prog 291 _ _ _ at m;have u:Fence.wide.fn 292:=trivial;have z:Fence.wide.fn 291:=trivial;refine callsIn_of_wp func249 rfl trivial ?_ rfl;simp only[ntmps249,Wr,Jl,Qw,Nat.reduceAdd,Nat.reduceSub,Aao,Aap,Aax,Aar,Sb,Pt]
 gi_wp2_with (first
  | (gi_at_call 292;refine(q _ _).mono ?_;rintro e w' ⟨rfl,rfl⟩)
  | (gi_at_call 291;refine m.mono ?_;rintro e w' ⟨v,ss,rfl,t,p,h,k⟩))
 go_ret;exact⟨v,ss,rfl,t,ownsRow_base_a p as9,h,((Below.refl _ w).alloc Ln _).trans (k.mono as9)⟩
