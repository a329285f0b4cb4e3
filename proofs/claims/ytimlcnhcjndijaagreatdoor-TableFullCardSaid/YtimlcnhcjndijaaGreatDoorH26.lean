/- Parts of a proof. No condition. -/
import Derived.Test.YtimlcnhcjndijaaGreatDoorH14
import Derived.Test.YtimlcnhcjndijaaGreatDoorH25
set_option linter.all false
set_option maxRecDepth 100000
set_option maxHeartbeats 3200000
namespace Go.Proofs.YtimlcnhcjndijaaGreatDoor
open IntKind renaming i64->G
open Value renaming int->Z,string->E,slice->V,pointer->K
open Option renaming some->O,none->I
open Obj renaming cells->J
open Ending renaming returned->Q
open Go renaming World->WD,Value->VL,Calls->CS
open Go.RowKit renaming Below->BW
open Go.Proofs.Tryz
section
open Go.RowKit Go.Maps Go.Lib Go.Sort
variable{n:Nat}{w:WD}
abbrev Q4 (x:dh):Array VL:=#[Z G x.id,E x.user,Z G x.prio,Z G x.nj.a,Z G x.nj.b,Z G x.nj.c,Z G x.nj.d]
structure Ko (w:WD) (ao:Option Addr) (n:Nat) (ws:List dh):Prop where
 len:ws.length=n
 max:n<=1000000
 cell:∀i x,ws[i]?=O x->∃b off,ao=O ⟨b,off,I⟩/\b<w.heap.size/\∀j,j<7->w.cell? ⟨b,off+i*7+j,I⟩=(Q4 x)[j]?
def Ko.mod {S:Nat->Prop} {w w':WD} {d:Option Addr}  {ws:List dh} (h:Ko w d n ws) (f:Mod S w w') (g:∀b a,d=O ⟨b,a,I⟩->¬S b):Ko w' d n ws:=
 ⟨h.len,h.max,λi x m=>by
  obtain⟨b,a,e,c,k⟩:=h.cell i x m;refine⟨b,a,e,B4 c f.size,λj l=>?_⟩;rw[<-k j l]
  simp only[World.cell?,f.block b c (g b a e)]⟩
def Q5 (a b:dh):Int:=if compareInt b.prio a.prio≠0 then compareInt b.prio a.prio else compareInt a.id b.id
def Ava (ao:Option Addr) (n c:Nat) (ws:List dh) (z i j:Nat) (x y:dh) (w:WD) (h:Ko w ao n ws) (hp:w.heap[z]?=O (J #[V ao n c] 273 (0,0))) (s:ws[i]?=O x) (t:ws[j]?=O y) :
  CS prog 289 #[Z G (i:Int),Z G (j:Int),K (O ⟨z,0,I⟩)] w λe w'=>e=Q (Z G (Q5 x y))/\∃q,w'=w.drewN q:=by
 obtain⟨b,a,rfl,af,g⟩:=h.cell i x s;obtain⟨b',ad,e,ac,k⟩:=h.cell j y t;injection e with e;injection e with e1 e2;subst e1 e2;have hi:=(Ap.1 s).1;have hj:=(Ap.1 t).1;have hl:=h.len;have p0:=Bk hp 0 (V (O ⟨b,a,I⟩) n c) rfl;have x0:w.cell? ⟨b,a+i*7,I⟩=O (Z G x.id):=g 0 ao9;have x2:w.cell? ⟨b,a+i*7+2,I⟩=O (Z G x.prio):=g 2 ao9;have y0:w.cell? ⟨b,a+j*7,I⟩=O (Z G y.id):=k 0 ao9;have y2:w.cell? ⟨b,a+j*7+2,I⟩=O (Z G y.prio):=k 2 ao9;have g1:(i:Int)<n:=ao9
 have g2:(j:Int)<n:=ao9
 have g3:(0:Int)<=i:=ao9
 have g4:(0:Int)<=j:=ao9
 have l:Q5 x y=if compareInt y.prio x.prio≠0 then compareInt y.prio x.prio else compareInt x.id y.id:=rfl
 obtain⟨u,m⟩:=Ex (compareInt y.prio x.prio);obtain⟨v,o⟩:=Ex (compareInt x.id y.id);rw[<-m,<-o]at l;have p:=λW=>Tryz.cmp_Compare_int y.prio x.prio W;have r:=λW=>Tryz.cmp_Compare_int x.id y.id W;rw[<-m]at p;rw[<-o]at r;clear s t h hp g k;replace⟨l,p,r,m,o,hl⟩:=H6 l p r m o hl;go_enter func289,ntmps289;go_upto_region 1 with fail;go_quiet ((go_at_call 290;(with_reducible exact Ks (p.out _))));obtain⟨W,f⟩:=Ex (w.drewN nq);have am:W.cell? ⟨z,0,I⟩=O (V (O ⟨b,a,I⟩) n c):=by rw[f];exact p0
 have an:W.cell? ⟨b,a+i*7,I⟩=O (Z G x.id):=by rw[f];exact x0
 have ap:W.cell? ⟨b,a+j*7,I⟩=O (Z G y.id):=by rw[f];exact y0
 rw[<-f];clear p0 x0 x2 y0 y2;replace f:=Hh f;by_cases h0:u=0
 .subst h0;have d:Q5 x y=v:=by rw[l.out,Ab as9]
  replace d:=Hh d;go_upto_region 4 with fail;go_quiet ((go_at_call 290;(with_reducible exact Ks (r.out _))));go_wp2_with fail;go_ret;exact⟨by rw[d.out];rfl,_,by rw[f.out,World.drewN_drewN]⟩
 .have d:Q5 x y=u:=by rw[l.out,Ad h0]
  have al:(u != 0)=true:=by rw[Gf];exact h0
  replace d:=Hh d;go_wp2_with fail;go_ret;exact⟨by rw[d.out];rfl,_,f.out⟩
def Avb (a b:dh):Q5 a b<0↔(b.prio<a.prio\/(a.prio=b.prio/\a.id<b.id)):=by
 unfold Q5 compareInt;by_cases d:b.prio<a.prio
 .simp [d]
 .by_cases g:a.prio<b.prio
  .simp [d,g];omega
  .have e:a.prio=b.prio:=ao9;by_cases c:a.id<b.id
   .simp [e,c]
   .by_cases f:b.id<a.id
    .simp [e,c,f]
    .simp [e,c,f]
def E8  (i:Fin n):VL:=Z G ((i.val:Nat):Int)
def ly (ws:List dh)  (i j:Fin n):Int:=Q5 (A4 ws i) (A4 ws j)
def Uy (ws:List dh)  (i j:Fin n):ltOf (ly ws) i j=true↔((A4 ws j).prio<(A4 ws i).prio\/((A4 ws i).prio=(A4 ws j).prio/\(A4 ws i).id<(A4 ws j).id)):=by
 unfold ltOf ly;rw[decide_eq_true_iff,Avb]
def S5 (ws:List dh)  (i j:Fin n):ltOf (ly ws) i j=false↔¬((A4 ws j).prio<(A4 ws i).prio\/((A4 ws i).prio=(A4 ws j).prio/\(A4 ws i).id<(A4 ws j).id)):=by
 rw[<-Uy,Zz]
def Ab9 (ws:List dh) (n:Nat):SWO (ltOf (ly ws):Fin n->Fin n->Bool) where
 irrefl x:=by rw[S5];omega
 trans x y z:=by rw[Uy,Uy,Uy];omega
 ntrans x y z:=by rw[S5,S5,S5];omega
def Avc (ws:List dh)  (i j:Fin n):(!ltOf (ly ws) j i)=vy (A4 ws i) (A4 ws j):=by
 cases h:ltOf (ly ws) j i
 .rw [S5]at h
  symm
  simp[vy];omega
 .rw [Uy]at h
  symm
  simp[vy];omega
def Uz (ws:List dh):Prop:=∀(i j:Nat) (x y:dh),ws[i]?=O x->ws[j]?=O y->x.id=y.id->i=j
def Avd (ws:List dh) (n:Nat) (j:ws.length=n) (h1:Uz ws) [Inhabited (Fin n)] (d c:Array (Fin n)) (h:PermIn 0 d.size d c) (i:SortedIn (ltOf (ly ws)) 0 d.size c):c.toList.map Fin.val=Gl ws (d.toList.map Fin.val):=by
 rw[sorted_unique_holds (lt:=ltOf (ly ws)) (Ab9 ws n) (λx y a b=>by
  rw[S5]at a b;have e:(A4 ws x).id=(A4 ws y).id:=ao9
  have f:ws[x.val]?=O (A4 ws x):=by have:=x.isLt;unfold A4;rw[Az ao9];rfl
  have g:ws[y.val]?=O (A4 ws y):=by have:=y.isLt;unfold A4;rw[Az ao9];rfl
  exact Fin.ext (h1 _ _ _ _ f g e)) d c h i]
 unfold Gl;exact List.map_mergeSort (λa _ b _=>Avc ws a b)
def Ave  [Inhabited (Fin n)] (w:WD) (g m:Nat) (d:Array (Fin n)) (os:Array Obj):Mod (λb=>b=g) w (sortWorld E8 w g 0 m d os):=by
 refine⟨rfl,rfl,rfl,by simp[sortWorld,putRow,mapBlock,Sort.ahead],λk a c=>?_⟩;unfold sortWorld;rw[heap_grow_old _ _ (by simpa[putRow,mapBlock,Sort.ahead]using a)];have:g≠k:=λe=>c e.symm;simp[putRow,mapBlock,Sort.ahead,Vs,this]
def Cz (l:List Nat):List Int:=l.map λ(i:Nat)=>(i:Int)
def Ai5  (d:Array (Fin n)):d.toList.map E8=Bj (Cz (d.toList.map Fin.val)):=by
 simp[Bj,Cz,E8,Ia]
def Ai6  (i:Option Addr) (n c h:Nat) (ws:List dh) (k:Ko w i n ws) (z:w.heap[h]?=O (J #[V i n c] 273 (0,0))) [Inhabited (Fin n)] (g cap a b:Nat) (d:Array (Fin n)) (s:Holds E8 w g 0 d)
  (v:h≠g) (t:∀b f,i=O ⟨b,f,I⟩->b≠g) (j:a<=b) (u:b<=d.size) (ac:d.size<=1000) :
  CS prog 334 #[V (O ⟨g,0,I⟩) d.size cap,Z G (a:Int),Z G (b:Int),.func (.func 289) #[] #[K (O ⟨h,0,I⟩)]] w λe w'=>e=Q (.tuple #[])/\∃q,w'=(putRow E8 w g 0 (Sort.insertionSort (ltOf (ly ws)) d a b)).drewN q:=by
 refine Any.insertionSortCmpFunc_one Tryz.ye E8 (λ_=>rfl) (ly ws) 289 #[K (O ⟨h,0,I⟩)] g 0 cap a b d w (Iy func289 ad9 (by simp[f289])) ?_ s j u ao9;intro m os o _ x y;have l:=Ave w g m o os;have p:ws[x.val]?=O (A4 ws x):=by have:=x.isLt;have:=k.len;unfold A4;rw[Az ao9];rfl
 have r:ws[y.val]?=O (A4 ws y):=by have:=y.isLt;have:=k.len;unfold A4;rw[Az ao9];rfl
 exact Ava i n c ws h x y _ _ _ (k.mod l λb f e c=>t b f e c) (l.ar z v) p r
def Ai7  [Inhabited (Fin n)] (w:WD) (g q:Nat) (d:Array (Fin n)):Mod (λb=>b=g) w ((putRow E8 w g 0 d).drewN q):=
 ⟨rfl,rfl,rfl,by simp[putRow,mapBlock,World.drewN],λk _ a=>by
  have:g≠k:=λe=>a e.symm
  simp[putRow,mapBlock,Vs,this,World.drewN]⟩
def Avf  (u:Option Addr) (n c k:Nat) (ws:List dh) (t:Ko w u n ws) (s:w.heap[k]?=O (J #[V u n c] 273 (0,0))) [Inhabited (Fin n)] (g cap m:Nat) (d:Array (Fin n)) (r:Holds E8 w g 0 d) (hd:d.size=m)
  (z:k≠g) (l:∀b p,u=O ⟨b,p,I⟩->b≠g) (hm:m<=20) :
  CS prog 321 #[V (O ⟨g,0,I⟩) m cap,Z G (m:Int),.func (.func 289) #[] #[K (O ⟨k,0,I⟩)]] w λe w'=>e=Q (.tuple #[])/\∃q,w'=(putRow E8 w g 0 (Sort.insertionSort (ltOf (ly ws)) d 0 m)).drewN q:=by
 subst hd
 have j:CS prog 334 #[V (O ⟨g,0,I⟩) d.size cap,Z G 0,Z G (d.size:Int),.func (.func 289) #[] #[K (O ⟨k,0,I⟩)]] w λe w'=>e=Q (.tuple #[])/\∃q,w'=(putRow E8 w g 0 (Sort.insertionSort (ltOf (ly ws)) d 0 d.size)).drewN q:=
  Ai6 u n c k ws t s g cap 0 d.size d r z l (Ar _) Ln ao9
 obtain⟨i,a⟩:=Ex (Sort.insertionSort (ltOf (ly ws)) d 0 d.size);have h:i.size=d.size:=by rw[a];exact(insertionSort_holds (lt:=ltOf (ly ws)) (Ab9 ws n) d 0 d.size (Ar _) Ln).1.1
 rw[<-a]at j ⊢;obtain⟨m,f⟩:=Ex (d.size);rw[<-f]at hm j h;rw[<-f];by_cases y:m=20
 .subst y
  have o:∀q,CS prog 334 #[V (O ⟨g,0,I⟩) 20 cap,Z G 20,Z G 20,.func (.func 289) #[] #[K (O ⟨k,0,I⟩)]] ((putRow E8 w g 0 i).drewN q) λe w'=>e=Q (.tuple #[])/\∃q,w'=(putRow E8 w g 0 i).drewN q:=λq=>by
   have x:=Ai7 w g q i;have v:Holds E8 ((putRow E8 w g 0 i).drewN q) g 0 i:=holds_putRow E8 w g 0 d i r ao9;have:=Ai6 u n c k ws (t.mod x λb p e c=>l b p e c) (x.ar s z) g cap 20 20 i v z l Ln ao9 ao9;rw[h]at this;refine this.mono ?_;rintro e w' ⟨rfl,q2,rfl⟩;have e1:Sort.insertionSort (ltOf (ly ws)) i 20 20=i:=insOuter_stop _ _ _ _ _ ao9;rw[e1,putRow_self E8 _ g 0 i v,World.drewN_drewN];exact⟨rfl,_,rfl⟩
  replace j:CS prog 334 #[V (O ⟨g,0,I⟩) 20 cap,Z G 0,Z G 20,.func (.func 289) #[] #[K (O ⟨k,0,I⟩)]] w λe w'=>e=Q (.tuple #[])/\∃q,w'=(putRow E8 w g 0 i).drewN q:=j;replace⟨j,o,t,s,r,l,f,a⟩:=H8 j o t s r l f a;replace h:=Hh h;go_enter func321,ntmps321;go_wp2_with fail;refine To 2 ?_;rw[M1];go_wp2_with (go_at_call 334;(with_reducible refine j.out.mono ?_);rintro e w1 ⟨rfl,q,rfl⟩);rw[M1];go_wp2_with (go_at_call 334;(with_reducible refine(o.out _).mono ?_);rintro e w1 ⟨rfl,q,rfl⟩);refine To 1 ?_;rw[M1];go_wp2;go_end0;exact⟨rfl,_,rfl⟩
 .have g1:¬(20:Int)<=(m:Int):=ao9
  replace⟨j,t,s,r,l,f,a,h⟩:=H8 j t s r l f a h;go_enter func321,ntmps321;go_wp2_with fail;refine To 1 ?_;rw[M1];go_wp2_with (go_at_call 334;(with_reducible refine j.out.mono ?_);rintro e w1 ⟨rfl,q,rfl⟩);refine To 1 ?_;rw[M1];go_wp2;go_end0;exact⟨rfl,_,rfl⟩
def Pi (l:List Nat):(Cz l).length=l.length:=As _
def Avg  {B:Nat} {v:VL} {l:List Nat} (h:Aj w B v (Cz l)) (h0:l≠[]) (hl:l.length<=20) (ao:Option Addr) (n c pb:Nat) (ws:List dh) (hw:Ko w ao n ws) (hp:w.heap[pb]?=O (J #[V ao n c] 273 (0,0)))
  (u:∀i,i∈l->i<n) (h1:Uz ws) (ha:∀b ac,ao=O ⟨b,ac,I⟩->v.ownBlock≠O b) :
  CS prog 288 #[v,.func (.func 289) #[] #[K (O ⟨pb,0,I⟩)]] w λe w'=>e=Q (.tuple #[])/\Aj w' B v (Cz (Gl ws l))/\Mod (λb=>v.ownBlock=O b) w w':=by
 obtain⟨i0,af⟩:∃i,i∈l:=by
  cases l with
  | nil=>exact absurd rfl h0
  | cons x r=>exact⟨x,Ef ..⟩
 haveI:Inhabited (Fin n):=⟨⟨i0,u i0 af⟩⟩
 obtain⟨d,hd⟩:∃d:Array (Fin n),d=(l.pmap (λi hi=>(⟨i,hi⟩:Fin n)) u).toArray:=⟨_,rfl⟩;have o:d.toList.map Fin.val=l:=by rw[hd];simp[List.map_pmap]
 have t:d.size=l.length:=by rw[hd];simp
 have ak:w.ownsRow B 3 1 v l.length (d.toList.map E8):=by rw[Ai5,o];have:=h.row;rw[Pi]at this;exact this
 obtain⟨g,cap,rfl,an,aA,av,ap,_,hH⟩:=holds_of_ownsRow (enc:=E8) (zs:=d.toList) ak (λe=>by
  obtain⟨so,m,c',e',hm⟩:=h.len;rw[e]at e';injection e' with _ e';rw[Pi]at hm
  exact h0 (Fv.1 ao9))
 have hH:Holds E8 w g 0 d:=hH
 have ad:pb≠g:=λe=>by
  obtain⟨am,a,_⟩:=Cq h.row (g:=g) rfl;rw[<-e,hp]at a;injection a with a;injection a with _ a;exact absurd a ad9
 have p:=Avf ao n c pb ws hw hp g cap l.length d hH t ad (λb ac e c=>ha b ac e (by rw[c];rfl)) hl;obtain⟨y,hS⟩:=insertionSort_holds (lt:=ltOf (ly ws)) (Ab9 ws n) d 0 d.size (Ar _) Ln;have j:=Avd ws n hw.len h1 d _ y hS;rw[t]at j y;obtain⟨s,z⟩:=Ex (Sort.insertionSort (ltOf (ly ws)) d 0 l.length);rw[<-z]at p j y
 have f:∀q,Aj ((putRow E8 w g 0 s).drewN q) B (V (O ⟨g,0,I⟩) l.length cap) (Cz (Gl ws l)):=λq=>by
  have al:(Gl ws l).length=l.length:=by rw[<-o,<-j];simp only[As];have:=y.1;have e1:s.toList.length=s.size:=rfl;omega
  have:=ownsRow_putRow (q:=q) (k:=l.length) (ys:=s.toList) ak (by have:=y.1;have e1:s.toList.length=s.size:=rfl;omega) Ln;rw[Dd (by have:=y.1;have e1:s.toList.length=s.size:=rfl;omega),Ai5,j,o]at this;refine⟨?_⟩;rw[Pi,al];exact this
 obtain⟨m,hm⟩:=Ex (l.length);rw[<-hm]at p f ⊢;replace⟨p,f,hw,hp,h,hd,o,t⟩:=H8 p f hw hp h hd o t;replace⟨ak,hH,y,hS,j,z,hm,ha⟩:=H8 ak hH y hS j z hm ha;replace⟨u,h1⟩:=H2 u h1;go_enter func288,ntmps288;go_wp2_with (go_at_call 321;(with_reducible refine p.out.mono ?_);rintro e w1 ⟨rfl,q,rfl⟩);go_end0;exact⟨rfl,f q,(Ai7 w g q s).mono λb _ e=>by rw[e];rfl⟩
end
section
open Go.RowKit Go.Maps Go.Lib
variable {w w1 w':WD} {B:Nat}
structure C6 (w:WD) (B:Nat) (v:VL) (l:List Int):Prop where
 is:(v=V I 0 0/\l=[])\/∃g off cap cur,v=V (O ⟨g,off,I⟩) l.length cap/\B<=g/\w.heap[g]?=O (J cur 3 (0,0))/\l.length<=cap/\off+cap<=cur.size/\cap<=maxLen/\∀i x,l[i]?=O x->cur[off+i]?=O (Z G x)
def C6.of {v:VL} {l:List Int} (h:Aj w B v l):C6 w B v l:=by
 rcases h.row.2 with⟨rfl,h0⟩|⟨g,cap,a,rfl,e,f,h1,c,j,d⟩
 .exact ⟨.inl ⟨rfl,Fv.1 h0⟩⟩
 .refine ⟨.inr ⟨g,0,cap,a,rfl,e,f,h1,ao9,c,λi x b=>?_⟩⟩;have k:=(Ap.1 b).1
  have:(a.toList.take (l.length*1))[i]?=O (Z G x):=by rw[d];simp[Bj,b]
  rw[Lr,Ad ao9]at this;simpa using this
def C6.form {v:VL} {l:List Int} (h:C6 w B v l):∃so c,v=V so l.length c/\l.length<=c/\c<=maxLen/\∀b o,so=O ⟨b,o,I⟩->B<=b/\b<w.heap.size:=by
 rcases h.is with⟨rfl,rfl⟩|⟨g,j,cap,a,rfl,f,i,h1,k,d,m⟩
 .exact ⟨I,0,rfl,Nat.le_refl _,by unfold maxLen;omega,λb o e=>by cases e⟩
 .refine ⟨_,_,rfl,h1,d,λb o e=>?_⟩;injection e with e;injection e with e1 e2;subst e1;exact⟨f,Ac i⟩
def C6.pos {v:VL} {l:List Int} (h:C6 w B v l) (j:0<l.length):∃g a cap,v=V (O ⟨g,a,I⟩) l.length cap/\B<=g/\l.length<=cap/\cap<=maxLen/\(∀o,w.frozen? ⟨g,o,I⟩=false)/\∀i x,l[i]?=O x->w.cell? ⟨g,a+i,I⟩=O (Z G x):=by
 rcases h.is with⟨rfl,rfl⟩|⟨g,a,cap,c,rfl,f,b,h1,m,d,e⟩
 .simp at j
 .refine ⟨g,a,cap,rfl,f,h1,d,Ag b,λi x k=>?_⟩;rw[<-e i x k];simp[World.cell?,b]
def C6.lt {v:VL} {l:List Int} (h:C6 w B v l):∀k,v.ownBlock=O k->B<=k/\k<w.heap.size:=λk a=>by
 rcases h.is with⟨rfl,rfl⟩|⟨g,e,cap,b,rfl,c,d,_⟩
 .simp [Value.ownBlock]at a
 .simp [Value.ownBlock]at a;subst a;exact⟨c,Ac d⟩
def C6.ar {v:VL} {l:List Int} (h:C6 w B v l) {k:Nat} (a:v.ownBlock=O k):∃c,w.heap[k]?=O (J c 3 (0,0)):=by
 rcases h.is with⟨rfl,rfl⟩|⟨g,e,cap,b,rfl,f,d,_⟩
 .simp [Value.ownBlock]at a
 .simp [Value.ownBlock]at a;subst a;exact⟨_,d⟩
def C6.mod {S:Nat->Prop} {v:VL} {l:List Int} (h:C6 w B v l) (e:Mod S w w') (f:∀k,v.ownBlock=O k->¬S k):C6 w' B v l:=by
 rcases h.is with⟨rfl,rfl⟩|⟨g,b,cap,a,rfl,c,d,r⟩
 .exact ⟨.inl ⟨rfl,rfl⟩⟩
 .exact ⟨.inr ⟨g,b,cap,a,rfl,c,e.ar d (f g rfl),r⟩⟩
def C6.tail {g a n cap:Nat} {x:Int} {l:List Int} (h:C6 w B (V (O ⟨g,a,I⟩) n cap) (x :: l)):C6 w B (V (O ⟨g,if cap=1 then a else a+1,I⟩) l.length (cap-1)) l:=by
 rcases h.is with⟨h,_⟩|⟨o,f,c,b,e,k,m,h1,p,q,j⟩
 .cases h
 .injection e with e1 e2 e3;injection e1 with e1;injection e1 with e1 e4;subst e1 e3 e4;simp at h1;refine⟨.inr ⟨g,_,cap-1,b,rfl,k,m,ao9,by split<;>omega,ao9,λi y d=>?_⟩⟩;have r:=(Ap.1 d).1;have:=j (i+1) y (by simpa using d);split
  .omega
  .rw [<-this];congr 1;omega
def Yp (w:WD) (B:Nat) (v:VL) (l:List Int) (e:Ending) (w':WD):Prop:=
 ∃v',e=Q v'/\C6 w' B v' l/\Mod (λb=>v.ownBlock=O b) w w'/\(v'.ownBlock=v.ownBlock\/v'.ownBlock=O w.heap.size)
def U0 {w:WD} {g:Nat} {d:Array VL} {T:TypeId} (h:w.heap[g]?=O (J d T (0,0))) (a:Nat) (xs:List VL) (j:a+xs.length<=d.size) :
  ∃c,(w.setCells g a xs).heap[g]?=O (J c T (0,0))/\c.size=d.size/\(∀i x,xs[i]?=O x->c[a+i]?=O x)/\(∀i,(i<a\/a+xs.length<=i)->c[i]?=d[i]?)/\Mod (λb=>b=g) w (w.setCells g a xs):=by
 induction xs generalizing w d a with
 | nil=>exact⟨d,by simpa[World.setCells]using h,rfl,λi x j=>by simp at j,λ_ _=>rfl,by simpa[World.setCells]using Mod.refl _ w⟩
 | cons x l ih=>
  have h1:=Am h a x;obtain⟨c,a1,a2,a3,k,m⟩:=ih h1 (a+1) (by simp at j ⊢;omega);have e:w.setCells g a (x :: l)=(w.setCell ⟨g,a,I⟩ x).setCells g (a+1) l:=rfl;refine⟨c,by rw[e];exact a1,by simpa using a2,λi y f=>?_,λi n=>?_,by rw[e];exact(Mod.setCell (S:=λb=>b=g) w g a x rfl).trans m⟩
  .match i,f with
   | 0,f=>
    simp at f j;subst f;have o:a<d.size:=ao9;rw[O0,k a (.inl ao9),Ny];simp[o]
   | i+1,f=>
    have:=a3 i y (by simpa using f);rw[<-this];congr 1;omega
  .simp only[D8]at n;rw[k i ao9];simp[Ny];omega
def U1 (l:List Int) (i:Nat):(Bj l)[i]?=(l[i]?).map (Value.int G):=by simp[Bj]
def Ai8 (l:List Int):∀v,v∈Bj l->v.oneCell'=true:=λv a=>by
 obtain⟨x,_,rfl⟩:=A7.1 a;rfl
def Yq (l:List Int) (k:Int) {at_:Nat} (a:at_<=l.length) (i:Nat):(l.take at_++k :: l.drop at_)[i]?=if i<at_ then l[i]? else if i=at_ then O k else l[i-1]?:=by
 by_cases h1:i<at_
 .rw [Ad h1,Es (by simp;omega),Lr,Ad h1]
 .rw [Ab h1,Gb (by simp;omega),Dt,Mw a];by_cases b:i=at_
  .subst b;simp
  .rw [Ab b,show i-at_=(i-at_-1)+1 by omega,List.getElem?_cons_succ,Py];congr 1;omega
def Avh {v:VL} {l:List Int} (hq:C6 w B v l) (k:Int) (at_:Nat) (s:at_<=l.length) (hl:l.length<=1000000) (vb:Nat) (ad:w.heap[vb]?=O (J #[Z G k] 3 (0,0))) (ap:v.ownBlock≠O vb) (hB:B<=w.heap.size) :
  CS prog 265 #[v,Z G (at_:Int),V (O ⟨vb,0,I⟩) 1 1] w (Yp w B v (l.take at_++k :: l.drop at_)):=by
 have z:∀(j:Nat) (u:VL),([Z G k]:List VL)[j]?=O u->w.cell? ⟨vb,0+j,I⟩=O u:=λj u p=>by
  match j,p with
  | 0,p=>
   simp at p;subst p;exact Aa ad 0
 have y:∀u,u∈([Z G k]:List VL)->u.oneCell'=true:=by simp[Value.oneCell']
 have n:(l.take at_++k :: l.drop at_).length=l.length+1:=by simp;omega
 have m:∀(cap:Nat) (h:Array VL) (w':WD),w'.heap[w.heap.size]?=O (J h 3 (0,0))->Mod (λb=>v.ownBlock=O b) w w'->l.length+1<=cap->cap<=maxLen->cap<=h.size->(∀(i:Nat) (x:Int),(l.take at_++k :: l.drop at_)[i]?=O x->h[i]?=O (Z G x)) ->
   Yp w B v (l.take at_++k :: l.drop at_) (Q (V (O ⟨w.heap.size,0,I⟩) (l.length+1) cap)) w':=λcap h w' h1 h2 h3 h4 h5 h6=>
  ⟨_,rfl,⟨.inr ⟨w.heap.size,0,cap,h,by rw[n],hB,h1,by rw[n];exact h3,ao9,h4,λi x c=>by simpa using h6 i x c⟩⟩,h2,.inr rfl⟩
 rcases hq.is with⟨rfl,rfl⟩|⟨g,d,cap,h,rfl,hb,hg,h1,h2,h3,h4⟩
 .obtain rfl:at_=0:=by simpa using s
  refine(Any2.slices_Insert_int_end_grow Tryz.gi I 0 0 vb 0 1 1 [] [Value.int G k] w ao9 Ln ao9 ao9 rfl rfl (λ_=>rfl) (λa e=>by cases e) z y).mono ?_;rintro e w' ⟨rfl,rfl⟩;refine m _ _ _ (Ah _ _) ((Mod.refl _ w).drew.trans (Mod.alloc _ _ _)) (Tt _ _ _ _) (Zt _ _ _ _ (by unfold maxLen;omega)) ?_ ?_
  .have:=Tt w (0+1) 0 3;simp[Wk,Value.cells];omega
  .intro i x c
   match i,c with
   | 0,c=>
    simp at c;subst c;rw[Vn as9];rfl
 .have af:∀(j:Nat) (u:VL),(Bj l)[j]?=O u->w.cell? ⟨g,d+j,I⟩=O u:=λj u p=>by
   rw[U1]at p
   cases c:l[j]? with
   | none=>rw[c]at p;cases p
   | some x=>
    rw[c]at p;simp at p;subst p;rw[<-h4 j x c];simp[World.cell?,hg]
  have ao:g≠vb:=λe=>ap (by rw[e];rfl);have am:=Ag hg
  have t:∀o,o<h.size->(w.cell? ⟨g,o,I⟩).isSome=true:=λo ho=>by
   simp[World.cell?,hg,ho]
  by_cases f:l.length+1<=cap
  .by_cases he:at_=l.length
   .subst he;refine(Any2.slices_Insert_int_end_room Tryz.gi g d l.length cap vb 0 1 1 [Z G k] w ao9 f (by unfold maxLen at h3;omega) rfl (λj hj=>t _ ao9) (λj _=>am _) z y).mono ?_;rintro e w' ⟨rfl,rfl⟩;obtain⟨q,a1,a2,a3,a4,a5⟩:=U0 hg (d+l.length) [Z G k] (by simp;omega);refine⟨_,rfl,⟨.inr ⟨g,d,cap,q,by rw[n],hb,a1,by rw[n];exact f,ao9,h3,λi x c=>?_⟩⟩,a5.mono (λb _ e=>by rw[e];rfl),.inl rfl⟩;rw[Yq l k s]at c;split at c
    .rw [a4 _ (.inl ao9)];exact h4 i x c
    .split at c
     .rename_i e;subst e;injection c with c;subst c;exact a3 0 _ rfl
     .rw [Rh ao9]at c;cases c
   .have ac:at_<l.length:=ao9
    refine(Any2.slices_Insert_int_shift Tryz.gi g d l.length cap at_ vb 0 1 1 (Bj l) [Z G k] w ac ao9 f (by unfold maxLen at h3;omega) (λe=>ao e.symm) (by simp[Bj]) rfl af (λj hj=>t _ ao9) (λj _=>am _) z (Ai8 l) y 3 3 1 h.size
     (by simp[World.shape?,ad]) (by simp[World.shape?,hg]) ao9 (by simp[World.frozen?,ad]) (by simp[World.frozen?,ad])).mono ?_
    rintro e w' ⟨rfl,rfl⟩;obtain⟨q,a1,a2,a3,a4,a5⟩:=U0 (w:=w.drew) hg (d+(at_+1)) ((Bj l).drop at_) (by simp[Bj];omega);obtain⟨r,b1,b2,b3,b4,b5⟩:=U0 a1 (d+at_) [Z G k] (by simp;omega);have al:Mod (λb=>b=g) w w.drew:=(Mod.refl _ _).drew;refine⟨_,rfl,⟨.inr ⟨g,d,cap,r,by rw[n],hb,b1,by rw[n];exact f,ao9,h3,λi x c=>?_⟩⟩,((al.trans a5).trans b5).mono (λb _ e=>by rw[e];rfl),.inl rfl⟩;rw[Yq l k s]at c;split at c
    .rw [b4 _ (.inl ao9),a4 _ (.inl ao9)];exact h4 i x c
    .split at c
     .rename_i e;subst e;injection c with c;subst c;exact b3 0 _ rfl
     .rename_i n1 n2;rw[b4 _ (.inr (by simp;omega))];have:=a3 (i-1-at_) (Z G x) (by rw[Py,U1,show at_+(i-1-at_)=i-1 by omega,c];rfl);rw[<-this];congr 1;omega
  .by_cases he:at_=l.length
   .subst he;refine(Any2.slices_Insert_int_end_grow Tryz.gi (O ⟨g,d,I⟩) l.length cap vb 0 1 1 (Bj l) [Z G k] w ao9 h1 ao9 ao9 (by simp[Bj]) rfl (λe=>by cases e) (λa e j u p=>by injection e with e;subst e;rw[Tq];exact af j u p) z y).mono ?_;rintro e w' ⟨rfl,rfl⟩;refine m _ _ _ (Ah _ _) ((Mod.refl _ w).drew.trans (Mod.alloc _ _ _)) (Tt _ _ _ _) (Zt _ _ _ _ (by unfold maxLen;omega)) ?_ ?_
    .have:=Tt w (l.length+1) cap 3;simp[Wk,Value.cells,Bj];omega
    .intro i x c;rw[Yq l k s]at c
     have hi:i<l.length+1:=by
      split at c
      .omega
      .split at c
       .omega
       .have:=(Ap.1 c).1;omega
     rw[Vn (by simp[Bj];omega)];simp only[Lp];split at c
     .rw [Es (by simp[Bj];omega),U1,c];rfl
     .split at c
      .rename_i e;subst e;injection c with c;subst c;rw[Gb (by simp[Bj])];simp[Bj]
      .rw [Rh ao9]at c;cases c
   .have ac:at_<l.length:=ao9;refine(Any2.slices_Insert_int_grow Tryz.gi g d l.length cap at_ vb 0 1 1 (Bj l) [Z G k] w ac ao9 h1 ao9 ao9 (by simp[Bj]) rfl af z (Ai8 l) y).mono ?_;rintro e w' ⟨rfl,av⟩;have hG:=Tt w (l.length+1) cap 3;obtain⟨C,hC⟩:=Ex ((((Bj l).take at_).toArray++Builtin.zeroCells (Value.int G 0).cells (l.length+1-at_)++Builtin.zeroCells (Value.int G 0).cells (grownCap w (l.length+1) cap 3-(l.length+1))));have aB:=Ah w (J C 3 (0,0));have aC:C.size=grownCap w (l.length+1) cap 3:=by rw[hC];simp[Wk,Value.cells,Bj];omega
    have an:∀i,i<at_->C[i]?=(l[i]?).map (Value.int G):=λi hi=>by
     rw[hC,Vn (by simp[Wk,Value.cells,Bj];omega),Vn (by simp[Bj];omega),Lp,Lr,Ad hi,U1]
    have aA:w'=(((w.alloc (J C 3 (0,0))).drew.setCells w.heap.size at_ [Z G k]).drew).setCells w.heap.size (at_+1) ((Bj l).drop at_):=(by rw[hC];exact av);subst aA;obtain⟨q,a1,a2,a3,a4,a5⟩:=U0 (w:=(w.alloc (J C 3 (0,0))).drew) aB at_ [Z G k] (by simp;omega);obtain⟨r,b1,b2,b3,b4,b5⟩:=U0 (w:=(((w.alloc (J C 3 (0,0))).drew).setCells w.heap.size at_ [Z G k]).drew) a1 (at_+1) ((Bj l).drop at_) (by simp[Bj];omega);have al:Mod (λb=>b=w.heap.size) w (w.alloc (J C 3 (0,0))).drew:=(Mod.alloc _ _ _).drew;have hm:Mod (λb=>(Value.slice (O ⟨g,d,I⟩) l.length cap).ownBlock=O b) w (((((w.alloc (J C 3 (0,0))).drew).setCells w.heap.size at_ [Z G k]).drew).setCells w.heap.size (at_+1) ((Bj l).drop at_)):=(((al.trans a5).drew).trans b5).mono (λb ac e=>by omega);refine m (grownCap w (l.length+1) cap 3) r _ b1 hm hG (Zt _ _ _ _ (by unfold maxLen;omega)) ao9 ?_;intro i x c;rw[Yq l k s]at c;split at c
    .rename_i hi;rw[b4 i (.inl ao9),a4 i (.inl ao9),an i hi,c];rfl
    .split at c
     .rename_i e;subst e;injection c with c;subst c;rw[b4 i (.inl ao9)];exact a3 0 _ rfl
     .rename_i n1 n2;have:=b3 (i-1-at_) (Z G x) (by rw[Py,U1,show at_+(i-1-at_)=i-1 by omega,c];rfl);rw[<-this];congr 1;omega
end
section
open Go.RowKit Go.Maps Go.Lib
def Jf (b:Nat):DU:=.lit (.int G (b:Int))
def Pj:DU:=.lit (.int G (-1))
abbrev Lk (b:Nat):VL:=K (O ⟨b,0,I⟩)
open Classical in
noncomputable def Jg (v:VL):Option (DU×List MemPlace):=if h:∃b,v=Lk b then O (Jf h.choose,[])else if v=K I then O (Pj,[])else I
def Avi {a b:Nat} (h:Lk a=Lk b):a=b:=by
 injection h with h;injection h with h;injection h
def Avj (b:Nat):Jg (Lk b)=O (Jf b,[]):=by
 unfold Jg;have h:∃d,Lk b=Lk d:=⟨b,rfl⟩;rw[M7 h];rw[<-Avi h.choose_spec]
def Avk:Jg (K I)=O (Pj,[]):=by
 unfold Jg;rw[dif_neg (by rintro⟨b,h⟩;simp[Lk]at h),Ad rfl]
def Avl {a b:Nat} (h:Jf a=Jf b):a=b:=by
 simp[Jf]at h;omega
def Aca {a:Nat} (h:Jf a=Pj):False:=by
 simp[Jf,Pj]at h
def Ai9 {v:VL} {b:Nat} {c:List MemPlace} (h:Jg v=O (Jf b,c)):v=Lk b:=by
 unfold Jg at h;split at h
 .rename_i a;injection h with h;injection h with h _;rw[<-Avl h];exact a.choose_spec
 .split at h
  .injection h with h;injection h with h _;exact(Aca h.symm).elim
  .cases h
def Avm {v:VL} {b:List MemPlace} (h:Jg v=O (Pj,b)):v=K I:=by
 unfold Jg at h;split at h
 .injection h with h;injection h with h _;exact(Aca h).elim
 .split at h
  .rename_i a;exact a
  .cases h
def Gq (l:List (ByteArray×Nat)):DU:=l.foldl (λm p=>m.put (Bw p.1) (Jf p.2)) (.map [])
def U2 (l:List (ByteArray×Nat)) (x:ByteArray×Nat):Gq (l++[x])=(Gq l).put (Bw x.1) (Jf x.2):=by simp[Gq]
def Aja (l:List (ByteArray×Nat)):IsMap (Gq l):=by
 induction l using P8 with
 | h0=>exact isMap_empty
 | h1 l x ih=>rw[U2];exact ih.put _ _
def S6 (l:List (ByteArray×Nat)) (s:ByteArray):Option Nat:=(l.find? λp=>decide (p.1=s)).map Prod.snd
def Ajb (a:DU) (l:List (ByteArray×Nat)) (h:(l.map Prod.fst).Nodup) (s:ByteArray):(Gq l).atKey (Bw s) a=match S6 l s with|some b=>Jf b|none=>a:=by
 induction l using P8 with
 | h0=>rfl
 | h1 l x ih=>
  rw[Dw,Rm]at h;rw[U2];unfold S6 at *;rw[List.find?_append];by_cases e:s=x.1
  .subst e;rw[atKey_put_same (Aja l) (Aaf _)]
   have:l.find? (λp=>decide (p.1=x.1))=I:=by rw[Rk];intro p d c;simp at c;exact h.2.2 p.1 (It d) x.1 as9 c
   rw[this];simp
  .rw [atKey_put_other (λc=>e (Xc c)),ih h.1];have e':¬x.1=s:=λc=>e c.symm
   cases hf:l.find? (λp=>decide (p.1=s))<;>simp[e']
structure Ns (Own:WD->Nat->VL->List Int->Prop):Prop where
 mod:∀ {S:Nat->Prop} {w w':WD} {B:Nat} {v:VL} {l:List Int},Own w B v l->Mod S w w'->(∀k,v.ownBlock=O k->¬S k)->Own w' B v l
 lt:∀ {w:WD} {B:Nat} {v:VL} {l:List Int},Own w B v l->∀k,v.ownBlock=O k->B<=k/\k<w.heap.size
 ar:∀ {w:WD} {B:Nat} {v:VL} {l:List Int},Own w B v l->∀k,v.ownBlock=O k->∃c,w.heap[k]?=O (J c 3 (0,0))
def Jh:Ns Aj:=⟨λh d e=>h.mod d e,λh=>h.lt,λh k b=>by obtain⟨c,a,_⟩:=Cq h.row b;exact⟨c,a⟩⟩
def U3:Ns C6:=⟨λh b c=>h.mod b c,λh=>h.lt,λh _ a=>h.ar a⟩
structure bz where
 b:Nat
 lv:VL
 pl:bt
abbrev bz.cells (u:bz):Array VL:=#[Z G u.pl.has.a,Z G u.pl.has.b,Z G u.pl.has.c,Z G u.pl.has.d,u.lv]
def bz.key (u:bz):ByteArray×Nat:=(u.pl.name,u.b)
structure lu (Own:WD->Nat->VL->List Int->Prop) (w:WD) (mb:Nat) (us:List bz) (wr:WD):Prop where
 low:BW w.heap.size w wr
 map:wr.ownsMap (H:=Unit) prog 9 Jg mb us.length (Gq (us.map bz.key))
 mlt:w.heap.size<=mb
 box:∀u,u∈us->wr.heap[u.b]?=O (J u.cells 335 (0,0))/\w.heap.size<=u.b
 left:∀u,u∈us->Own wr w.heap.size u.lv (Cz u.pl.left)
 names:(us.map λu=>u.pl.name).Nodup
 one:us.Pairwise λx y=>x.b≠y.b/\∀k,x.lv.ownBlock=O k->y.lv.ownBlock≠O k
variable {Own:WD->Nat->VL->List Int->Prop} {w wr w':WD} {mb:Nat} {us:List bz}
def lu.ox (h:lu Own w mb us wr):∃b c,wr.heap[mb]?=O (.map b c):=by
 obtain⟨b,a,d,_⟩:=h.map;exact⟨b,a,d⟩
def lu.mod (L:Ns Own) (h:lu Own w mb us wr) {S:Nat->Prop} (d:Mod S wr w') (e:∀k,S k->wr.heap.size<=k):lu Own w mb us w':=by
 have no:∀k,k<wr.heap.size->¬S k:=λk g c=>by have:=e k c;omega
 refine⟨h.low.trans ((d.below Ln e).mono h.low.size),?_,h.mlt,λu b=>⟨d.ar (h.box u b).1 (no _ (Ac (h.box u b).1)),(h.box u b).2⟩,λu b=>L.mod (h.left u b) d (λk g=>no k (L.lt (h.left u b) k g).2),h.names,h.one⟩;obtain⟨i,a,f,r⟩:=h.map;exact⟨i,a,d.ar f (no _ (Ac f)),r⟩
def lu.drop (L:Ns Own) (h:lu Own w mb us wr) (a:BW wr.heap.size wr w'):lu Own w mb us w':=h.mod L (Mod.ag (S:=λ_=>False) a) (λ_ c=>c.elim)
def lu.set (L:Ns Own) (h:lu Own w mb us wr) {i:Nat} {u u':bz} (z:us[i]?=O u) (hm:Mod (λb=>b=u.b\/u.lv.ownBlock=O b) wr w') (hb:u'.b=u.b) (hn:u'.pl.name=u.pl.name) (ac:w'.heap[u.b]?=O (J u'.cells 335 (0,0)))
  (ad:Own w' w.heap.size u'.lv (Cz u'.pl.left)) (aB:∀k,u'.lv.ownBlock=O k->u.lv.ownBlock=O k\/wr.heap.size<=k):lu Own w mb (us.set i u') w':=by
 have am:=Ai z;obtain⟨af,al⟩:=h.box u am;have x:=h.left u am;obtain⟨es,cl,s⟩:=h.ox
 have an:(us.set i u').map bz.key=us.map bz.key:=by
  rw[Mz];have e:u'.key=u.key:=by simp[bz.key,hb,hn]
  rw[e];apply Eg;intro k;rw[Do];split
  .rename_i aA;subst aA;obtain⟨q,hx⟩:=Ap.1 z;simp[q,hx]
  .rfl
 have aC:(us.set i u').map (λu=>u.pl.name)=us.map λu=>u.pl.name:=by have:=Ca (List.map Prod.fst) an;simpa[bz.key,Ia]using this
 have nm:mb≠u.b:=λe=>by rw[e,af]at s;cases s
 have aD:u.lv.ownBlock≠O mb:=λe=>by
  obtain⟨c,d⟩:=L.ar x mb e;rw[d]at s;cases s
 have o:∀k y,us[k]?=O y->k≠i->w'.heap[y.b]?=O (J y.cells 335 (0,0))/\Own w' w.heap.size y.lv (Cz y.pl.left):=λk y g f=>by
  have t:=Ai g
  have n:y.b≠u.b/\∀b,y.lv.ownBlock=O b->u.lv.ownBlock≠O b:=by
   rcases Rj f with q|q
   .exact Fj h.one g z q
   .have:=Fj h.one z g q;exact⟨λe=>this.1 e.symm,λb e1 e2=>this.2 b e2 e1⟩
  refine⟨hm.ar (h.box y t).1 λc=>?_,L.mod (h.left y t) hm λb p c=>?_⟩
  .rcases c with c|c
   .exact n.1 c
   .obtain ⟨c',d⟩:=L.ar x _ c;rw[(h.box y t).1]at d;injection d with d;injection d with _ d;exact absurd d ad9
  .rcases c with rfl|c
   .obtain ⟨c',d⟩:=L.ar (h.left y t) _ p;rw[af]at d;injection d with d;injection d with _ d;exact absurd d ad9
   .exact n.2 b p c
 have ao:∀y,y∈us.set i u'->y=u'\/∃k,us[k]?=O y/\k≠i:=λy g=>by
  obtain⟨k,f⟩:=Dk g;rw[Do]at f;split at f
  .split at f
   .injection f with f;exact .inl f.symm
   .cases f
  .rename_i m;exact .inr ⟨k,f,λe=>m e.symm⟩
 refine⟨?_,?_,h.mlt,λy g=>?_,λy g=>?_,by rw[aC];exact h.names,?_⟩
 .exact h.low.trans (hm.below h.low.size (λk c=>by
   rcases c with rfl|c
   .exact al
   .exact (L.lt x k c).1))
 .rw [an,Dl];obtain⟨es,v,av,r⟩:=h.map;exact⟨es,v,hm.ar av (λc=>c.elim nm aD),r⟩
 .rcases ao y g with rfl|⟨k,f,m⟩
  .rw [hb];exact⟨ac,al⟩
  .exact ⟨(o k y f m).1,(h.box y (Ai f)).2⟩
 .rcases ao y g with rfl|⟨k,f,m⟩
  .exact ad
  .exact (o k y f m).2
 .refine Ot.2 λa b ha p ap=>?_;have l:=Az ha;have j:=Az p;generalize (us.set i u')[a]=ya at l ⊢;generalize (us.set i u')[b]=yb at j ⊢
  have kk:∀k y,us[k]?=O y->k≠i->y.b≠u'.b/\∀c,y.lv.ownBlock=O c->u'.lv.ownBlock≠O c:=λk y g f=>by
   have n:y.b≠u.b/\∀b,y.lv.ownBlock=O b->u.lv.ownBlock≠O b:=by
    rcases Rj f with q|q
    .exact Fj h.one g z q
    .have:=Fj h.one z g q;exact⟨λe=>this.1 e.symm,λb e1 e2=>this.2 b e2 e1⟩
   refine⟨by rw[hb];exact n.1,λc d e=>?_⟩;rcases aB c e with e|e
   .exact n.2 c d e
   .have:=(L.lt (h.left y (Ai g)) c d).2;omega
  rw[Do]at l j;by_cases g1:i=a
  .have g2:i≠b:=ao9;rw[Ab g2]at j;rw[Ad g1]at l;split at l
   .injection l with l;subst l;have:=kk b yb j (λe=>g2 e.symm);exact⟨λe=>this.1 e.symm,λc e1 e2=>this.2 c e2 e1⟩
   .cases l
  .rw [Ab g1]at l;by_cases g2:i=b
   .rw [Ad g2]at j;split at j
    .injection j with j;subst j;exact kk a ya l (λe=>g1 e.symm)
    .cases j
   .rw [Ab g2]at j;exact Fj h.one l j ap
def Ajc (us:List bz) (s:ByteArray):S6 (us.map bz.key) s=(us.find? λu=>decide (u.pl.name=s)).map bz.b:=by
 unfold S6;rw[List.find?_map]
 cases h:us.find? ((λp:ByteArray×Nat=>decide (p.1=s)) ∘ bz.key)with
 | none=>
  have:us.find? (λu=>decide (u.pl.name=s))=I:=h;rw[this];rfl
 | some u=>
  have:us.find? (λu=>decide (u.pl.name=s))=O u:=h;rw[this];rfl
def Avn (w:WD):(zeroValue 331).run prog w=.ok (K I) w:=by kernel_rfl
def Acb (h:lu Own w mb us wr) (s:ByteArray) (d:s.size<=maxLen):(Instr.lookup 328 (.map (O mb)) (E s) false).run prog wr=.ok (.pointer ((us.find? λu=>decide (u.pl.name=s)).map λu=>⟨u.b,0,I⟩)) wr:=by
 obtain⟨v,f,a,c⟩:=World.ownsMap.lookup h.map (string_keyed Fu) Zg (Avn wr) Avk (Vp Fu d);have e:=Ajb Pj (us.map bz.key) (by have:=h.names;simpa[bz.key,Ia]using this) s;rw[Ajc]at e;unfold Bw at e;rw[e]at c;rw[a]
 cases hf:us.find? (λu=>decide (u.pl.name=s))with
 | none=>
  rw[hf]at c;rw[Avm c];rfl
 | some u=>
  rw[hf]at c;rw[Ai9 c];rfl
def lu.add (L:Ns Own) (q:∀w B,Own w B (V I 0 0) []) (h:lu Own w mb us wr) (s:ByteArray) (v:us.find? (λu=>decide (u.pl.name=s))=I) {l:WD}
  (i:l.ownsMap (H:=Unit) prog 9 Jg mb (us.length+1) ((Gq (us.map bz.key)).put (Bw s) (Jf wr.heap.size)))
  (t:(wr.alloc (J #[Z G 0,Z G 0,Z G 0,Z G 0,V I 0 0] 335 (0,0))).grownBy l (O mb)) :
  lu Own w mb (us++[⟨wr.heap.size,V I 0 0,⟨s,⟨0,0,0,0⟩,[]⟩⟩]) l:=by
 obtain⟨es,cl,j⟩:=h.ox;have h1:lu Own w mb us (wr.alloc (J #[Z G 0,Z G 0,Z G 0,Z G 0,V I 0 0] 335 (0,0))):=h.drop L Bn;have m:Mod (λb=>b=mb) (wr.alloc (J #[Z G 0,Z G 0,Z G 0,Z G 0,V I 0 0] 335 (0,0))) l:=Mod.grown t (λk f=>by injection f with f;exact f.symm)
 have g:∀(k:Nat) (c:Array VL) (T:TypeId) (fr:Nat×Nat),(wr.alloc (J #[Z G 0,Z G 0,Z G 0,Z G 0,V I 0 0] 335 (0,0))).heap[k]?=O (J c T fr)->l.heap[k]?=O (J c T fr):=λk c T fr f=>m.ar f λe=>by
  have:=Ak (J #[Z G 0,Z G 0,Z G 0,Z G 0,V I 0 0] 335 (0,0)) j;rw[e,this]at f;cases f
 refine⟨h1.low.trans (m.below h1.low.size (λk f=>by rw[f];exact h.mlt)),?_,h.mlt,λu d=>?_,λu d=>?_,?_,?_⟩
 .rw [Av,Dw,Ic,Rr,U2];exact i
 .rcases C7.1 d with d|d
  .exact ⟨g _ _ _ _ (h1.box u d).1,(h1.box u d).2⟩
  .simp at d;subst d;exact⟨g _ _ _ _ (Ah _ _),h.low.size⟩
 .rcases C7.1 d with d|d
  .refine L.mod (h1.left u d) m λk f e=>?_;obtain⟨c,o⟩:=L.ar (h1.left u d) k f;have:=Ak (J #[Z G 0,Z G 0,Z G 0,Z G 0,V I 0 0] 335 (0,0)) j;rw[e,this]at o;cases o
  .simp at d;subst d;exact q _ _
 .rw [Dw,Rm];refine⟨h.names,as9,λa r b n=>?_⟩;simp at n;subst n;obtain⟨u,d,rfl⟩:=A7.1 r;intro e;have:=Rk.1 v u d;simp at this;exact this e
 .rw [Tj];refine⟨h.one,List.pairwise_singleton _ _,λx z y p=>?_⟩;simp at p;subst p;refine⟨λe=>?_,λk f=>by simp[Value.ownBlock]⟩;have:=Ac (h.box x z).1;have e':x.b=wr.heap.size:=e;omega
end
section
open Go.RowKit Go.Maps Go.Lib
def S9 {α:Type} (p:α->Bool) (l:List α):(l.findIdx? p=I/\l.find? p=I)\/∃k u,l.findIdx? p=O k/\l[k]?=O u/\l.find? p=O u:=by
 induction l with
 | nil=>exact .inl ⟨rfl,rfl⟩
 | cons x r ih=>
  by_cases a:p x=true
  .exact .inr ⟨0,x,by simp[Zu,a],rfl,by simp[a]⟩
  .rcases ih with⟨h1,b⟩|⟨k,u,h1,b,c⟩
   .exact .inl ⟨by simp[Zu,a,h1],by simp[a,b]⟩
   .exact .inr ⟨k+1,u,by simp[Zu,a,h1],by simpa using b,by simp[a,c]⟩
def U5 (us:List bz) (s:ByteArray):Gm (us.map bz.pl) s=us.findIdx? λu=>decide (u.pl.name=s):=by
 unfold Gm;rw[List.findIdx?_map];congr 1
 funext u
 simp[ti]
abbrev Ta (x:en):Array VL:=#[E x.user,Z G x.has.a,Z G x.has.b,Z G x.has.c,Z G x.has.d]
structure Pp (w:WD) (ao:Option Addr) (n:Nat) (hs:List en):Prop where
 len:hs.length=n
 max:n<=1000000
 cell:∀i x,hs[i]?=O x->∃b off,ao=O ⟨b,off,I⟩/\b<w.heap.size/\∀j,j<5->w.cell? ⟨b,off+i*5+j,I⟩=(Ta x)[j]?
def Pp.low {w w':WD} {ao:Option Addr} {n:Nat} {f:List en} (h:Pp w ao n f) (d:BW w.heap.size w w'):Pp w' ao n f:=
 ⟨h.len,h.max,λi x l=>by
  obtain⟨b,c,e,a,g⟩:=h.cell i x l
  exact⟨b,c,e,B4 a d.size,λj k=>(Af d a).trans (g j k)⟩⟩
def Ko.low {w w':WD} {ao:Option Addr} {n:Nat} {ws:List dh} (h:Ko w ao n ws) (a:BW w.heap.size w w'):Ko w' ao n ws:=h.mod (Mod.ag (S:=λ_=>False) a) (λ_ _ _ c=>c)
structure gp (Own:WD->Nat->VL->List Int->Prop) (w:WD) (ao:Option Addr) (n c:Nat) (us:List bz) (wr:WD):Prop where
 us:lu Own w (w.heap.size+1) us wr
 pb:wr.heap[w.heap.size]?=O (J #[V ao n c] 273 (0,0))
variable {Own:WD->Nat->VL->List Int->Prop} {w wr w':WD} {ao:Option Addr} {n c:Nat} {us:List bz}
def gp.drop (L:Ns Own) (h:gp Own w ao n c us wr) (a:BW wr.heap.size wr w'):gp Own w ao n c us w':=⟨h.us.drop L a,Ae a h.pb (Ac h.pb)⟩
def gp.set (L:Ns Own) (h:gp Own w ao n c us wr) {i:Nat} {u u':bz} (j:us[i]?=O u) (l:Mod (λb=>b=u.b\/u.lv.ownBlock=O b) wr w') (m:u'.b=u.b) (o:u'.pl.name=u.pl.name) (d:w'.heap[u.b]?=O (J u'.cells 335 (0,0)))
  (e:Own w' w.heap.size u'.lv (Cz u'.pl.left)) (g:∀k,u'.lv.ownBlock=O k->u.lv.ownBlock=O k\/wr.heap.size<=k):gp Own w ao n c (us.set i u') w':=by
 refine⟨h.us.set L j l m o d e g,l.ar h.pb λc=>?_⟩;have f:=Ai j;rcases c with c|c
 .have:=(h.us.box u f).1;rw[<-c,h.pb]at this;injection this with this;injection this with _ this;exact absurd this ad9
 .obtain ⟨p,a⟩:=L.ar (h.us.left u f) _ c;rw[h.pb]at a;injection a with a;injection a with _ a;exact absurd a ad9
def Avt {us:List bt} {s:ByteArray} {i N:Nat} (h:us.length<=N/\∀u,u∈us->u.left.length<=N/\u.left≠[]/\∀p,p∈u.left->p<i):(At us s i).length<=N+1/\∀u,u∈At us s i->u.left.length<=N+1/\u.left≠[]/\∀p,p∈u.left->p<i+1:=by
 unfold At;split
 .refine ⟨by simp;omega,λu b=>?_⟩;rcases C7.1 b with b|b
  .have:=h.2 u b;exact⟨ao9,this.2.1,λp a=>by have:=this.2.2 p a;omega⟩
  .simp at b;subst b;exact⟨as9,as9,λp a=>by simp at a;omega⟩
 .refine ⟨by simp;omega,λu b=>?_⟩;rcases Ol b with b|⟨y,c,rfl⟩
  .have:=h.2 u b;exact⟨ao9,this.2.1,λp a=>by have:=this.2.2 p a;omega⟩
  .have:=h.2 y c;refine⟨by simp;omega,as9,λp a=>?_⟩;rcases C7.1 a with a|a
   .have:=this.2.2 p a;omega
   .simp at a;omega
def U6 (ws:List dh):∀j,(B8 ws j).length<=j/\∀u,u∈B8 ws j->u.left.length<=j/\u.left≠[]/\∀p,p∈u.left->p<j
 | 0=>⟨Nat.le_refl _,λu a=>by cases a⟩
 | j+1=>Avt (U6 ws j)
def Ajm (l:List Nat) (i:Nat):Cz (l++[i])=Cz l++[(i:Int)]:=by simp[Cz]
def gp.push (h:gp Aj w ao n c us wr) {k:Nat} {u:bz} (d:us[k]?=O u) (i:Nat) {w1 j:WD} (l:BW wr.heap.size wr w1) {f:VL} (r:w1.grownBy j u.lv.ownBlock) (v:Aj j w.heap.size f (Cz u.pl.left++[(i:Int)])) (q:∀k,f.ownBlock=O k->u.lv.ownBlock=O k\/k=w1.heap.size) :
  gp Aj w ao n c (us.set k ⟨u.b,f,⟨u.pl.name,u.pl.has,u.pl.left++[i]⟩⟩) (j.setCell ⟨u.b,4,I⟩ f):=by
 have o:=Ai d;obtain⟨a,x⟩:=h.us.box u o;have p:Mod (λb=>b=u.b\/u.lv.ownBlock=O b) w1 j:=(Mod.grown r (S:=λb=>u.lv.ownBlock=O b) (λk d=>d)).mono λ_ _ c=>.inr c;have t:=((Mod.ag l).trans (p.mono λ_ _ c=>c)).trans (Mod.setCell j u.b 4 f (.inl rfl))
 have s:u.lv.ownBlock≠O u.b:=λe=>by
  obtain⟨z,g⟩:=Jh.ar (h.us.left u o) _ e;rw[a]at g;injection g with g;injection g with _ g;exact absurd g ad9
 have m:=(r.block _ (B4 (Ac a) l.size) (λe=>s e.symm)).trans (Ae l a (Ac a))
 have y:f.ownBlock≠O u.b:=λe=>by
  rcases q _ e with c|c
  .exact s c
  .have:=Ac a;have:=l.size;omega
 refine h.set Jh d t rfl rfl ?_ ?_ λk d=>(q k d).imp id λe=>by have:=l.size;omega
 .have:=Am m 4 f;simpa using this
 .rw [Ajm];exact v.mod (Mod.setCell (S:=λb=>b=u.b) j u.b 4 f rfl) (λk d e=>y (by rw[d,e]))
def Avu (l:List (ByteArray×Nat)) (s:ByteArray):has (Gq l) (Bw s)=true↔s∈l.map Prod.fst:=by
 induction l using P8 with
 | h0=>simp[Gq,has]
 | h1 l x ih=>
  rw[U2];by_cases e:s=x.1
  .subst e;rw[has_put_same (Aja l) (Aaf _)];simp
  .rw [has_put_other (λc=>e (Xc c)),ih];simp[e]
def gp.iter (L:Ns Own) (h:gp Own w ao n c us wr) {r:Nat} {m:Option Nat} {a1:Nat} {a2:Array Nat} {a3:Nat} (d:wr.heap[r]?=O (.mapIter m a1 a2 a3)) (s:w.heap.size<=r) (j:Mod (λb=>b=r) wr w'):gp Own w ao n c us w':=by
 have g:∀(k:Nat) (c:Array VL) (T:TypeId) (fr:Nat×Nat),wr.heap[k]?=O (J c T fr)->w'.heap[k]?=O (J c T fr):=λk c T fr f=>j.ar f λe=>by
  rw[e,d]at f;cases f
 obtain⟨o,x,q⟩:=h.us.ox;refine⟨⟨h.us.low.trans (j.below h.us.low.size (λk f=>by rw[f];exact s)),?_,h.us.mlt,λu i=>⟨g _ _ _ _ (h.us.box u i).1,(h.us.box u i).2⟩,λu i=>L.mod (h.us.left u i) j λk f e=>?_,h.us.names,h.us.one⟩,g _ _ _ _ h.pb⟩
 .obtain ⟨o,a,l,t⟩:=h.us.map;exact⟨o,a,j.ar l (λe=>by rw[e,d]at l;cases l),t⟩
 .obtain ⟨v,p⟩:=L.ar (h.us.left u i) k f;rw[e,d]at p;cases p
def Acf (a b:ByteArray):(Bw a).sameKey (Bw b)=true↔a=b:=by
 constructor
 .intro h;apply Xc;simpa[Bw,Lit.sameKey]using h
 .rintro rfl;simp[Bw,Lit.sameKey]
def Avv {us:List bz} {k:Nat} {u u':bz} (b:us[k]?=O u) (e:u'.key=u.key):(us.set k u').map bz.key=us.map bz.key:=by
 rw[Mz,e];apply Eg;intro j;rw[Do];split
 .rename_i a;subst a;obtain⟨c,d⟩:=Ap.1 b;simp[c,d]
 .rfl
def Mod.grownBy {v:VL} {w w':WD} (h:Mod (λb=>v.ownBlock=O b) w w'):w.grownBy w' v.ownBlock:=⟨h.os,h.tape,h.output,h.size,λk c a=>h.block k c (λe=>a e.symm)⟩
def Yr (ws:List dh) (u:bt):bt:=⟨u.name,u.has,Gl ws u.left⟩
def Acg {W w1:WD} (h:BW W.drew.heap.size W.drew w1):BW W.heap.size W w1:=⟨h.os,h.tape,h.output,h.size,h.block⟩
def gp.uq (L:Ns Own) (h:gp Own w ao n c us wr) {k:Nat} {u:bz} (j:us[k]?=O u) {w1:WD} (p:BW wr.heap.size wr w1) (v:V4) :
  gp Own w ao n c (us.set k ⟨u.b,u.lv,⟨u.pl.name,v,u.pl.left⟩⟩) ((((w1.setCell ⟨u.b,0,I⟩ (Z G v.a)).setCell ⟨u.b,1,I⟩ (Z G v.b)).setCell ⟨u.b,2,I⟩ (Z G v.c)).setCell ⟨u.b,3,I⟩ (Z G v.d)):=by
 have g:=Ai j;obtain⟨f,q⟩:=h.us.box u g;have m:∀(W:WD) (o:Nat) (x:VL),Mod (λb=>b=u.b) W (W.setCell ⟨u.b,o,I⟩ x):=λW o x=>Mod.setCell W u.b o x rfl;have l:Mod (λb=>b=u.b) wr ((((w1.setCell ⟨u.b,0,I⟩ (Z G v.a)).setCell ⟨u.b,1,I⟩ (Z G v.b)).setCell ⟨u.b,2,I⟩ (Z G v.c)).setCell ⟨u.b,3,I⟩ (Z G v.d)):=((((Mod.ag p).trans (m _ _ _)).trans (m _ _ _)).trans (m _ _ _)).trans (m _ _ _)
 have r:u.lv.ownBlock≠O u.b:=λe=>by
  obtain⟨s,i⟩:=L.ar (h.us.left u g) _ e;rw[f]at i;injection i with i;injection i with _ i;exact absurd i ad9
 refine h.set L j (l.mono λ_ _ e=>.inl e) rfl rfl ?_ ?_ λk j=>.inl j
 .have:=Am (Am (Am (Am (Ae p f (Ac f)) 0 (Z G v.a)) 1 (Z G v.b)) 2 (Z G v.c)) 3 (Z G v.d);simpa using this
 .exact L.mod (h.us.left u g) l (λk j e=>r (by rw[j,e]))
def Avw (ho:Option Addr) (m hc:Nat) (hs:List en) (ws:List dh) (hh:Pp w ho m hs) (hw:Ko w ao n ws) (hn:n<=20) (bP:∀x,x∈ws->x.user.size<=maxLen) (bB:∀x,x∈hs->x.user.size<=maxLen) (h1:Uz ws) :
  CS prog 248 #[V ho m hc,V ao n c] w λe w'=>∃us,e=Q (.map (O (w.heap.size+1)))/\gp Aj w ao n c us w'/\us.map bz.pl=C2 hs ws:=by
 have cg:=@run_makeMap prog;obtain⟨W0,bw⟩:=Ex ((w.alloc (J #[V ao n c] 273 (0,0))).alloc (.map #[] 0));have a7:gp Aj w ao n c [] W0:=by rw[bw];refine⟨⟨Bn.alloc as9 _,?_,ao9,λu hu=>(by cases hu),λu hu=>(by cases hu),List.nodup_nil,List.Pairwise.nil⟩,Ak _ (Ah _ _)⟩;have:=Zr (H:=Unit) (w.alloc (J #[V ao n c] 273 (0,0))) prog 9 Jg;simpa[Gq]using this
 have a9:=hw.len;replace⟨a7,hh,hw,bP,bB,h1,a9⟩:=H7 a7 hh hw bP bB h1 a9;go_enter func248,ntmps248;go_upto_region 2 with fail;rw[<-bw];clear bw cg;have b0:=Bk a7.pb 0 (V ao n c) rfl;go_wp2_with fail;clear b0;go_loopw [6,7,8,17] (λ_ _ _ iv wr=>∃(i:Nat) (us:List bz),iv=Z G i/\i<=n/\Hid (gp Aj w ao n c us wr)/\Hid (us.map bz.pl=B8 ws i)) (λ_ _ _ iv _=>n-(intOf iv).toNat)
 case atStart=>exact⟨0,[],rfl,Ar _,a7,rfl⟩
 case round=>
  obtain⟨i,us,rfl,cB,hU,ap⟩:=hrel;by_cases cx:i<n
  .have ce:(i:Int)<n:=ao9;have cA:(0:Int)<=(i:Int):=ao9;obtain⟨⟨b7,f,b8,⟨na,nb,nc,nd⟩⟩,hx⟩:=Ge ws i (by have:=a9.out;omega);obtain⟨b,av,rfl,bb,al⟩:=(hw.low hU.us.low).cell i _ hx;have z0:wr.cell? ⟨b,av+i*7,I⟩=O (Z G b7):=al 0 ao9;have z1:wr.cell? ⟨b,av+i*7+1,I⟩=O (E f):=al 1 ao9;have z2:wr.cell? ⟨b,av+i*7+2,I⟩=O (Z G b8):=al 2 ao9;have z3:wr.cell? ⟨b,av+i*7+3,I⟩=O (Z G na):=al 3 ao9;have z4:wr.cell? ⟨b,av+i*7+4,I⟩=O (Z G nb):=al 4 ao9;have z5:wr.cell? ⟨b,av+i*7+5,I⟩=O (Z G nc):=al 5 ao9;have z6:wr.cell? ⟨b,av+i*7+6,I⟩=O (Z G nd):=al 6 ao9;obtain⟨W1,aD⟩:=Ex (wr.alloc (J #[Z G b7,E f,Z G b8,Z G na,Z G nb,Z G nc,Z G nd] 275 (0,0)));have af:BW wr.heap.size wr W1:=(by rw[aD];exact Bn);have d:=hU.drop Jh af;have y1:W1.cell? ⟨wr.heap.size,1,I⟩=O (E f):=(by rw[aD];exact Aa (Ah _ _) 1);have aU:=bP _ (Ai hx);have aO:=Acb d.us f aU;have aP:B8 ws (i+1)=At (B8 ws i) f i:=(by show At (B8 ws i) (A4 ws i).user i=_;unfold A4;rw[Gt hx]);replace⟨hx,al,af,d,aU,aP,hU⟩:=H7 hx al af d aU aP hU;go_upto_region 5 with fail;rcases S9 (λu:bz=>decide (u.pl.name=f)) us with⟨ac,aK⟩|⟨k,u,ac,t,aE⟩
   .rw [aK]at aO;have bX:=hn;have aI:At (B8 ws i) f i=B8 ws i++[⟨f,⟨0,0,0,0⟩,[i]⟩]:=by rw[<-ap.out];unfold At;rw[U5,ac]
    have bf:us.length<=20:=by
     have h9:us.length=(B8 ws i).length:=(by rw[<-ap.out,As]);have:=(U6 ws i).1;omega
    have a4:BW W1.heap.size W1 (W1.alloc (J #[Z G 0,Z G 0,Z G 0,Z G 0,V I 0 0] 335 (0,0))):=Bn;have aB:=(d.us.drop Jh a4).map;have bd:us.length<maxLen:=(by have:maxLen=9223372036854775807:=rfl;omega);have aA:keyOf prog 9 (E f)=O (Bw f):=Vp Fu aU.out;have y2:=(Af a4 (by rw[aD];simp)).trans y1;replace⟨ac,aK,aI,bf,a4,aB,bd,aA⟩:=H8 ac aK aI bf a4 aB bd aA;rw[<-aD];clear aD z0 z1 z2 z3 z4 z5 z6;go_upto_region 9 with(at_mapUpdate;refine Zl _ rfl _ _ _ 328 rfl 9 331 (string_keyed Fu) Zg _ (w.heap.size+1) us.length _ rfl aB.out bd.out _ _ (Bw f) rfl rfl aA.out _ [] (Avj _) ?_;intro w5 a1 aF;replace⟨a1,aF⟩:=H2 a1 aF);simp only[Act.put];have hA:=d.us.add Jh (λw B=>Aj.nil w B) f aK.out a1.out aF.out;have aG:Hid (gp Aj w (O ⟨b,av,I⟩) n c (us++[⟨W1.heap.size,V I 0 0,⟨f,⟨0,0,0,0⟩,[]⟩⟩]) w5):=(by refine⟨hA,?_⟩;have bJ:=d.pb;refine(aF.block _ (B4 (Ac bJ) a4.size) (λe=>?_)).trans (Ae a4.out bJ (Ac bJ));injection e with e;omega);have aZ:(us++[(⟨W1.heap.size,V I 0 0,⟨f,⟨0,0,0,0⟩,[]⟩⟩:bz)])[us.length]?=O ⟨W1.heap.size,V I 0 0,⟨f,⟨0,0,0,0⟩,[]⟩⟩:=as9;have x4:w5.cell? ⟨W1.heap.size,4,I⟩=O (V I 0 0:VL):=Aa (aG.us.box _ (Ai aZ)).1 4;have an:BW w5.heap.size w5 (w5.alloc (J #[Z G (i:Int)] 3 (0,0))):=Bn;have bh:Aj (w5.alloc (J #[Z G (i:Int)] 3 (0,0))) w.heap.size (V I 0 0:VL) (Cz ([]:List Nat)):=(aG.us.left _ (Ai aZ)).mod (Mod.ag (S:=λ_=>False) an) (λ_ _ c=>c);have cw:(w5.alloc (J #[Z G (i:Int)] 3 (0,0))).cell? ⟨w5.heap.size,0,I⟩=O (Z G (i:Int)):=Aa (Ah _ _) 0;have aW:w.heap.size<=(w5.alloc (J #[Z G (i:Int)] 3 (0,0))).heap.size:=by have:=aG.us.low.size;have:=an.size;omega
    have a0:∀w7,(w5.alloc (J #[Z G (i:Int)] 3 (0,0))).grownBy w7 ((V I 0 0:VL)).ownBlock->w7.cell? ⟨W1.heap.size,4,I⟩=O (V I 0 0:VL)/\w7.frozen? ⟨W1.heap.size,4,I⟩=false:=λw7 hg=>by
     have aM:=(aG.us.box _ (Ai aZ)).1
     have a5:((V I 0 0:VL)).ownBlock≠O (W1.heap.size):=λe=>by
      obtain⟨c',hc⟩:=Jh.ar (aG.us.left _ (Ai aZ)) _ e;rw[aM]at hc;injection hc with hc;injection hc with _ hc;exact absurd hc ad9
     have hb:=(hg.block (W1.heap.size) (B4 (Ac aM) an.size) (λe=>a5 e.symm)).trans (an.block _ (Ac aM));exact⟨(Bl (a:=⟨W1.heap.size,4,I⟩) hb).trans x4,(Ov (a:=⟨W1.heap.size,4,I⟩) hb).trans (Ag aM 4)⟩
    replace⟨an,bh,cw,aW,a0⟩:=H5 an bh cw aW a0;clear y1 y2 hA;replace aZ:=Hh aZ;go_wp2_with (at_builtin;refine Mp rfl _ _ rfl w.heap.size 0 _ rfl bh.out rfl ⟨w5.heap.size,0,I⟩ 1 rfl (i:Int) cw.out ao9 aW.out ?_;intro g7 a6 w7 h7 aN aX;obtain⟨k7,f7⟩:=a0 w7 aN;replace⟨h7,aN,aX⟩:=H3 h7 aN aX)
    have aH:=aG.push aZ.out i an.out aN.out h7.out (λk t=>by
     simp[Value.ownBlock]at t;subst t;rcases aX.out with e|e
     .exact .inl e
     .exact .inr e)
    have am:Hid (((us++[(⟨W1.heap.size,V I 0 0,⟨f,⟨0,0,0,0⟩,[]⟩⟩:bz)]).set us.length ⟨W1.heap.size,V (O ⟨g7,0,I⟩) (0+1) a6,⟨f,⟨0,0,0,0⟩,[]++[i]⟩⟩).map bz.pl=B8 ws (i+1)):=Hh (by
     rw[aP.out,aI.out,<-ap.out]
     simp)
    replace aH:=Hh aH;go_roundw
    case rel=>exact⟨i+1,_,by go_num,ao9,aH,am⟩
    case measure=>simp[intOf];omega
   .rw [aE]at aO;obtain⟨ub,aJ,⟨g,aL,ad⟩⟩:=u;have aI:At (B8 ws i) f i=(us.set k ⟨ub,aJ,⟨g,aL,ad++[i]⟩⟩).map bz.pl:=(by rw[<-ap.out];unfold At;rw[U5,ac];simp only;rw[Q8 _ _ _ (x:=⟨g,aL,ad⟩) (by simp[t]),Mz]);have bn:ad.length<=i:=((U6 ws i).2 ⟨g,aL,ad⟩ (by rw[<-ap.out];exact It (Ai t))).1;obtain⟨so,L,cc,e,hL⟩:=(d.us.left _ (Ai t)).len;have e':aJ=V so L cc:=e;subst e';have bi:(Cz ad).length=L:=hL.symm;have bv:L<=1000000000:=(by rw[<-bi,Pi];omega);rw[<-aD];clear aD z0 z1 z2 z3 z4 z5 z6;have x4:W1.cell? ⟨ub,4,I⟩=O (Value.slice so L cc):=Aa (d.us.box _ (Ai t)).1 4;have an:BW W1.heap.size W1 (W1.alloc (J #[Z G (i:Int)] 3 (0,0))):=Bn;have bh:Aj (W1.alloc (J #[Z G (i:Int)] 3 (0,0))) w.heap.size (Value.slice so L cc) (Cz ad):=(d.us.left _ (Ai t)).mod (Mod.ag (S:=λ_=>False) an) (λ_ _ c=>c);have cw:(W1.alloc (J #[Z G (i:Int)] 3 (0,0))).cell? ⟨W1.heap.size,0,I⟩=O (Z G (i:Int)):=Aa (Ah _ _) 0;have aW:w.heap.size<=(W1.alloc (J #[Z G (i:Int)] 3 (0,0))).heap.size:=by have:=d.us.low.size;have:=an.size;omega
    have a0:∀w7,(W1.alloc (J #[Z G (i:Int)] 3 (0,0))).grownBy w7 ((Value.slice so L cc)).ownBlock->w7.cell? ⟨ub,4,I⟩=O (Value.slice so L cc)/\w7.frozen? ⟨ub,4,I⟩=false:=λw7 hg=>by
     have aM:=(d.us.box _ (Ai t)).1
     have a5:((Value.slice so L cc)).ownBlock≠O (ub):=λe=>by
      obtain⟨c',hc⟩:=Jh.ar (d.us.left _ (Ai t)) _ e;rw[aM]at hc;injection hc with hc;injection hc with _ hc;exact absurd hc ad9
     have hb:=(hg.block (ub) (B4 (Ac aM) an.size) (λe=>a5 e.symm)).trans (an.block _ (Ac aM));exact⟨(Bl (a:=⟨ub,4,I⟩) hb).trans x4,(Ov (a:=⟨ub,4,I⟩) hb).trans (Ag aM 4)⟩
    replace⟨an,bh,cw,aW,a0,ac,aE,t⟩:=H8 an bh cw aW a0 ac aE t;replace⟨aI,bn,e,hL,bi,bv⟩:=H6 aI bn e hL bi bv;go_wp2_with (at_builtin;refine Mp rfl _ _ rfl w.heap.size L _ rfl bh.out bi.out ⟨W1.heap.size,0,I⟩ 1 rfl (i:Int) cw.out bv.out aW.out ?_;intro g7 a6 w7 h7 aN aX;obtain⟨k7,f7⟩:=a0 w7 aN;replace⟨h7,aN,aX⟩:=H3 h7 aN aX)
    have aH:=d.push t.out i an.out aN.out h7.out (λk t=>by
     simp[Value.ownBlock]at t;subst t;rcases aX.out with e|e
     .exact .inl e
     .exact .inr e)
    have am:Hid ((us.set k ⟨ub,V (O ⟨g7,0,I⟩) (L+1) a6,⟨g,aL,ad++[i]⟩⟩).map bz.pl=B8 ws (i+1)):=Hh (by
     rw[aP.out,aI.out]
     simp)
    replace aH:=Hh aH;go_roundw
    case rel=>exact⟨i+1,_,by go_num,ao9,aH,am⟩
    case measure=>simp[intOf];omega
  .have ce:¬(i:Int)<n:=ao9;have bC:i=n:=ao9;have aG:=hU;have a2:Hid (us.map bz.pl=(hs.take 0).foldl Cv (B8 ws n)):=(by rw[ap.out,bC];rfl);clear hU ap a7;replace bC:=Hh bC;go_wp2_with fail;go_loopw [10,11,47] (λ_ _ jv wr=>∃(j:Nat) (us:List bz),jv=Z G j/\j<=m/\Hid (gp Aj w ao n c us wr)/\Hid (us.map bz.pl=(hs.take j).foldl Cv (B8 ws n))) (λ_ _ jv _=>m-(intOf jv).toNat)
   case atStart=>exact⟨0,us,rfl,Ar _,aG,a2⟩
   case round=>
    obtain⟨j,us,rfl,cD,hU,ap⟩:=hrel;have cE:=hh.max;by_cases hd:j<m
    .have cf:(j:Int)<m:=ao9;have cC:(0:Int)<=(j:Int):=ao9;obtain⟨⟨f,⟨na,nb,nc,nd⟩⟩,hx⟩:=Ge hs j (by have:=hh.len;omega);obtain⟨b,av,rfl,bb,al⟩:=(hh.low hU.us.low).cell j _ hx;have z0:wr.cell? ⟨b,av+j*5,I⟩=O (E f):=al 0 ao9;have z1:wr.cell? ⟨b,av+j*5+1,I⟩=O (Z G na):=al 1 ao9;have z2:wr.cell? ⟨b,av+j*5+2,I⟩=O (Z G nb):=al 2 ao9;have z3:wr.cell? ⟨b,av+j*5+3,I⟩=O (Z G nc):=al 3 ao9;have z4:wr.cell? ⟨b,av+j*5+4,I⟩=O (Z G nd):=al 4 ao9;obtain⟨W1,aD⟩:=Ex (wr.alloc (J #[E f,Z G na,Z G nb,Z G nc,Z G nd] 259 (0,0)));have af:BW wr.heap.size wr W1:=(by rw[aD];exact Bn);have d:=hU.drop Jh af;have bR:W1.heap[wr.heap.size]?=O (J #[E f,Z G na,Z G nb,Z G nc,Z G nd] 259 (0,0)):=(by rw[aD];exact Ah _ _);obtain⟨y0,y1,y2,y3,y4⟩:=C5 bR;(try dsimp only at y0 y1 y2 y3 y4);have aU:=bB _ (Ai hx);have aO:=Acb d.us f aU;have aP:(hs.take (j+1)).foldl Cv (B8 ws n)=Cv (us.map bz.pl) ⟨f,⟨na,nb,nc,nd⟩⟩:=(by rw[Mt,hx,N1,<-ap.out];rfl);replace⟨hx,al,af,d,aU,aP,hU,bR⟩:=H8 hx al af d aU aP hU bR;go_upto_region 14 with fail;rw[<-aD];clear aD z0 z1 z2 z3 z4;rcases S9 (λu:bz=>decide (u.pl.name=f)) us with⟨ac,aK⟩|⟨k,u,ac,t,aE⟩
     .rw [aK]at aO;have am:Hid (us.map bz.pl=(hs.take (j+1)).foldl Cv (B8 ws n)):=(by rw[aP.out];unfold Cv;rw[U5,ac];rfl);clear y1 y2 y3 y4;replace⟨ac,aK⟩:=H2 ac aK;go_wp2_with fail;go_roundw
      case rel=>exact⟨j+1,_,by go_num,ao9,d,am⟩
      case measure=>simp[intOf];omega
     .rw [aE]at aO;obtain⟨ub,aJ,⟨g,⟨ua,bg,uc,ud⟩,ad⟩⟩:=u;have aV:=(d.us.box _ (Ai t)).1;have x0:=Bk aV 0 (Z G ua) rfl;have x1:=Bk aV 1 (Z G bg) rfl;have x2:=Bk aV 2 (Z G uc) rfl;have x3:=Bk aV 3 (Z G ud) rfl;have fu:=Ag aV;have cF:=Ac aV;obtain⟨⟨pa,bS,pc,pd⟩,bk⟩:∃p,p=Kg ⟨ua,bg,uc,ud⟩ ⟨na,nb,nc,nd⟩:=⟨_,rfl⟩
      have kp:∀W,CS prog 252 #[.agg #[Z G ua,Z G bg,Z G uc,Z G ud],.agg #[Z G na,Z G nb,Z G nc,Z G nd]] W λe w'=>e=Q (.agg #[Z G pa,Z G bS,Z G pc,Z G pd])/\BW W.heap.size W w':=λW=>by
       have:=Ajh ⟨ua,bg,uc,ud⟩ ⟨na,nb,nc,nd⟩ W;rw[<-bk]at this;exact this
      have am:Hid ((us.set k ⟨ub,aJ,⟨g,⟨pa,bS,pc,pd⟩,ad⟩⟩).map bz.pl=(hs.take (j+1)).foldl Cv (B8 ws n)):=(by rw[aP.out];unfold Cv;rw[U5,ac];simp only;rw[Q8 _ _ _ (x:=⟨g,⟨ua,bg,uc,ud⟩,ad⟩) (by simp[t]),Mz,bk];rfl);replace⟨ac,aE,t,aV,kp,bk⟩:=H6 ac aE t aV kp bk;go_upto_region 16 with fail;go_region_with (go_at_call 252;((with_reducible refine(kp.out _).mono ?_);rintro e w1 ⟨rfl,af⟩;have x0:=(Af af (by first|omega|(simp;omega))).trans x0;have x1:=(Af af (by first|omega|(simp;omega))).trans x1;have x2:=(Af af (by first|omega|(simp;omega))).trans x2;have x3:=(Af af (by first|omega|(simp;omega))).trans x3;have fu:=λo=>(af.frozen (p:=⟨ub,o,I⟩) (by first|(show ub<_;omega)|(simp;omega))).trans (fu o);replace af:=Hh af))
      all_goals
       go_wp2_with fail
       have cd:BW W1.heap.size W1 w1:=by first|exact af.out|exact Acg af.out
       have aH:=d.uq Jh t.out cd ⟨pa,bS,pc,pd⟩;replace aH:=Hh aH;go_roundw
       case rel=>exact⟨j+1,_,by go_num,ao9,aH,am⟩
       case measure=>simp[intOf];omega
    .have cf:¬(j:Int)<m:=ao9;obtain⟨aQ,aS⟩:=Ex (hs.foldl Cv (B8 ws n));have am:us.map bz.pl=aQ:=by rw[ap.out,aS,Dd (by have:=hh.len;omega)]
     have a8:C2 hs ws=aQ.map λu=>⟨u.name,u.has,Gl ws u.left⟩:=by unfold C2;rw[a9.out,aS]
     have aB:=hU.us.map;obtain⟨D0,hD⟩:=Ex (Gq (us.map bz.key));rw[<-hD]at aB;clear aG a2 ap;replace⟨am,a8,aS,aB,hD⟩:=H5 am a8 aS aB hD
     go_wp2_with (first
      | (at_range;refine wpList_range_own _ rfl _ 328 rfl 9 331 (string_keyed Fu) Zg _ (w.heap.size+1) us.length _ rfl aB.out ?_;intro w0 aT aR bN;replace⟨aT,aR,bN⟩:=H3 aT aR bN)
      | fail)
     obtain⟨rI,bK⟩:=Ex (wr.heap.size);rw[<-bK]at aT ⊢;have cb:Hid (gp Aj w ao n c us w0):=(by have hb:BW wr.heap.size wr w0:=⟨aR.os,aR.tape,aR.output,aR.size,λk t=>aR.block k t as9⟩;exact hU.drop Jh hb);have bM:w.heap.size<=rI:=by have:=hU.us.low.size;omega
     have bY:Hid (us.map bz.pl=aQ.map λu=>if has D0 (Bw u.name)=true then u else Yr ws u):=Hh (by
      rw[<-am.out];simp only[De];apply Vz;intro u hu
      have:has D0 (Bw u.pl.name)=true:=by rw[hD.out,Avu];simp only[De,A7];exact⟨u,hu,rfl⟩
      simp[this])
     have bU:Hid (∀u,u∈aQ->u.left.length<=n/\u.left≠[]/\∀p,p∈u.left->p<n):=Hh (by
      rw[aS.out];have h0:=(U6 ws n).2
      have b6:∀(l:List bt) (h:en),(∀u,u∈l->u.left.length<=n/\u.left≠[]/\∀p,p∈u.left->p<n)->∀u,u∈Cv l h->u.left.length<=n/\u.left≠[]/\∀p,p∈u.left->p<n:=λl h hl u hu=>by
       unfold Cv at hu;split at hu
       .exact hl u hu
       .rcases Ol hu with hu|⟨y,hy,rfl⟩
        .exact hl u hu
        .exact hl y hy
      have b5:∀(hs:List en) (l:List bt),(∀u,u∈l->u.left.length<=n/\u.left≠[]/\∀p,p∈u.left->p<n)->∀u,u∈hs.foldl Cv l->u.left.length<=n/\u.left≠[]/\∀p,p∈u.left->p<n:=λhs=>by
       induction hs with
       | nil=>intro l hl;exact hl
       | cons h r ih=>intro l hl;exact ih _ (b6 l h hl)
      exact b5 hs _ h0)
     have bE:=hD;obtain⟨N,hN⟩:=Ex (us.length);rw[<-hN]at aT;clear hU aB aR bN;replace⟨bK,bM,hN⟩:=H3 bK bM hN;go_loopw [13] (λ_ wr=>∃(left:Lit->Bool) (je:Nat) (us:List bz),Hid (wr.ranges prog 9 Jg (w.heap.size+1) rI N D0 left je)/\Hid (gp Aj w ao n c us wr)/\Hid (D0=Gq (us.map bz.key))/\Hid (us.map bz.pl=aQ.map λu=>if left (Bw u.name)=true then u else Yr ws u)) (λ_ wr=>wr.rangeLeft (w.heap.size+1) rI)
     case atStart=>exact⟨_,_,us,aT,cb,bE,bY⟩
     case round=>
      obtain⟨left,je,us,bL,hU,bT,ap⟩:=hrel
      go_wp2_with (first
       | (at_next;refine wpList_next_ranges _ rfl _ rfl 9 (string_keyed Fu) Jg Value.string id (λb5 kl aA=>by obtain⟨s,e,_⟩:=WideMaps.string_of_keyOf Fu aA;exact⟨s,e⟩) (λv y _=>⟨v,rfl⟩) (w.heap.size+1) rI N D0 left je rfl bL.out ?_ ?_)
       | fail)
      .intro _ bG;have aY:us.map bz.pl=C2 hs ws:=(by rw[a8.out,ap.out];apply Vz;intro u _;rw[bG];rfl);replace⟨bG,aY⟩:=H2 bG aY;go_wp2;go_ret;exact⟨us,rfl,hU.out,aY.out⟩
      .intro x v kl y1 y2 w1 bl aA aO hv bx a3 bb bA bZ cy;obtain⟨s',e1,e2,b4⟩:=WideMaps.string_of_keyOf Fu aA;injection e1 with e1;subst e1;have e3:kl=Bw x:=e2;subst e3;clear e2;have be:((us.map bz.key).map Prod.fst).Nodup:=by have:=hU.us.names;simpa[bz.key,Ia]using this
       have aC:∀zd,(match S6 (us.map bz.key) x with|some b=>Jf b|none=>zd)=y1:=λzd=>by
        rw[<-bx zd,bT.out,Ajb zd _ be]
        try cases S6 (us.map bz.key) x<;>rfl
       rw[Ajc]at aC;rcases S9 (λu:bz=>decide (u.pl.name=x)) us with⟨ac,aK⟩|⟨k,u,ac,t,aE⟩
       .exfalso;rw[aK]at aC;exact Aca (a:=0) ((aC (Jf 0)).trans (aC Pj).symm)
       .rw [aE]at aC;have hy:=aC Pj;simp only[J8]at hy;have cl:=Ai9 (by rw[hv,hy]);subst cl;obtain⟨ub,aJ,⟨g,aL,ad⟩⟩:=u;have bH:g=x:=(by have:=Tn aE;simpa using this);subst bH;obtain⟨cv,cr,cI,cG,co,_,_,_,_,bD,_⟩:=bL.out;have d:=hU.iter Jh bD bM.out (Mod.grown bA (S:=λb=>b=rI) (λk t=>by injection t with t;exact t.symm))
        have cj:∃q,aQ[k]?=O q/\(⟨g,aL,ad⟩:bt)=q:=by
         have:=Ca (λl=>l[k]?) ap.out;simp only[Bm,t,J8]at this
         cases hq:aQ[k]? with
         | none=>rw[hq]at this;cases this
         | some q=>
          rw[hq]at this;simp only[J8,Wb]at this;refine⟨q,rfl,?_⟩;by_cases hl:left (Bw q.name)=true
          .rw [Ad hl]at this;exact this
          .exfalso;rw[Ab hl]at this;have ch:g=q.name:=Ca bt.name this;rw[<-ch]at hl;exact hl aO
        obtain⟨q,hq,ck⟩:=cj;subst ck;obtain⟨b1,b2,b3⟩:=bU _ (Ai hq);simp only at b1 b2 b3;have bQ:=hw.low d.us.low
        have bO:=Avg (d.us.left _ (Ai t)) b2 (by show ad.length<=20;omega) ao n c w.heap.size ws bQ d.pb b3 h1.out (λb av e c2=>by
         have h0:0<n:=by
          cases ad with
          | nil=>exact absurd rfl b2
          | cons p r=>have:=b3 p (Ef ..);omega
         obtain⟨b',cn,e',cm,_⟩:=hw.cell 0 _ (Az (by have:=a9.out;omega));rw[e]at e';injection e' with e';injection e' with e';have:=(d.us.left _ (Ai t)).lt _ c2
         omega)
        have x4:w1.cell? ⟨ub,4,I⟩=O aJ:=Aa (d.us.box _ (Ai t)).1 4;replace⟨aA,aO,hv,bx,a3,bb,bA,bZ⟩:=H8 aA aO hv bx a3 bb bA bZ;replace⟨b4,be,aC,ac,t,aE,hy,bD⟩:=H8 b4 be aC ac t aE hy bD;replace⟨d,hq,b1,b2,b3,bQ,bO⟩:=H7 d hq b1 b2 b3 bQ bO;go_wp2_with (go_at_call 288;(with_reducible refine bO.out.mono ?_);rintro e w2 ⟨rfl,bI,bc⟩;replace⟨bI,bc⟩:=H2 bI bc);have bs:=d.us.box _ (Ai t.out);have ba:=d.us.left _ (Ai t.out)
        have nb:aJ.ownBlock≠O ub:=λe=>by
         obtain⟨c',hc⟩:=Jh.ar ba _ e;rw[bs.1]at hc;injection hc with hc;injection hc with _ hc;exact absurd hc ad9
        have bo:Hid (w2.ranges prog 9 Jg (w.heap.size+1) rI N D0 (λz=>left z && !z.sameKey (Bw g)) bl):=by
         refine a3.kept bc.grownBy (λe=>?_) (λe=>?_)
         .obtain ⟨c',hc⟩:=Jh.ar ba _ e.symm;obtain⟨b9,ct,bW⟩:=d.us.ox;rw[bW]at hc;cases hc
         .obtain ⟨c',hc⟩:=Jh.ar ba _ e.symm;obtain⟨b9,cs,cJ,cH,cp,_,_,_,_,bV,_⟩:=a3.out;rw[bV]at hc;cases hc
        have aG:Hid (gp Aj w ao n c (us.set k ⟨ub,aJ,⟨g,aL,Gl ws ad⟩⟩) w2):=d.set Jh t.out (bc.mono λ_ _ e=>.inr e) rfl rfl (bc.ar bs.1 nb) bI.out (λk t=>.inl t);have ca:Hid (D0=Gq ((us.set k ⟨ub,aJ,⟨g,aL,Gl ws ad⟩⟩).map bz.key)):=Hh (by rw[Avv (u':=⟨ub,aJ,⟨g,aL,Gl ws ad⟩⟩) t.out rfl];exact bT.out)
        have a2:Hid ((us.set k ⟨ub,aJ,⟨g,aL,Gl ws ad⟩⟩).map bz.pl=aQ.map λu=>if (left (Bw u.name) && !(Bw u.name).sameKey (Bw g))=true then u else Yr ws u):=Hh (by
         apply Eg;intro j;have hj:=Ca (λl=>l[j]?) ap.out;simp only[Bm]at hj ⊢;rw[Do];by_cases bF:k=j
         .subst bF;rw[Ad rfl,Ad (Ap.1 t.out).1,hq.out];have:(Bw g).sameKey (Bw g)=true:=(Acf g g).2 rfl;simp[this,Yr]
         .rw [Ab bF,hj]
          cases hqj:aQ[j]? with
          | none=>rfl
          | some q2=>
           simp only[J8]
           have a5:¬(Bw q2.name).sameKey (Bw g)=true:=λe=>by
            have e2:=(Acf _ _).1 e;rw[hqj]at hj
            cases huj:us[j]? with
            | none=>rw[huj]at hj;cases hj
            | some u2=>
             rw[huj]at hj;simp only[J8,Wb]at hj
             have bX:u2.pl.name=q2.name:=by rw[hj];split<;>rfl
             have ci:=hU.us.names;have h6:(us.map λu=>u.pl.name)[k]?=O g:=(by simp[t.out]);have h7:(us.map λu=>u.pl.name)[j]?=O g:=(by simp[huj,bX,e2]);obtain⟨i6,e6⟩:=Ap.1 h6;obtain⟨i7,e7⟩:=Ap.1 h7;exact bF ((List.getElem_inj ci).1 (e6.trans e7.symm))
           rw[Zz]at a5;rw[a5]
           simp)
        refine⟨⟨_,bl,_,bo,aG,ca,a2⟩,?_⟩;rw[bo.left_eq,bL.left_eq];exact bb.out
end
section
open Go.RowKit Go.Maps Go.Sort Go.Shelf
def Ayl (m:Nat):AnyZ.SortsIn prog Tryz.ie Fence.wide m:=
 ⟨λd c cap ss W e a b=>Kw.2 (AnyM.slices_Sort_string Tryz.uh d c cap ss W e a b), λp cap W=>Kw.2 (AnyM.slices_Sort_string_none Tryz.uh p cap W)⟩
def Aym {H:Type} (b nn:Nat) (d:DataW H) (R:VL->Option (DataW H×List MemPlace)) (w:WD) (c:w.ownsMap prog 9 R b nn d) (g:Maps.size d<=maxLen) (a:Maps.size d*16<=140737488355328) :
  CS prog 249 #[.map (O b)] w λe w'=>∃(v:VL) (ss:List (List UInt8)),e=Q v/\ss.Perm (strKeys d) /\
   w'.ownsRow w.heap.size 9 1 v ss.length ((ss.mergeSort (λx y=>decide (x<=y))).map encStr)/\(v=V I 0 0↔ss=[])/\BW w.heap.size w w':=by
 refine(Kw (n:=6)).1 ?_;have l:=c.lt
 have i:SeqGives Fence.wide 2 prog 324 #[K (O ⟨w.heap.size,0,I⟩)] encStr (λss=>ss.Perm (strKeys d)) (Maps.size d) (w.alloc (J #[.map (O b)] 328)):=
  AnyZ.keys_gives (ρ:=Tryz.jt) { Tryz.tl with } Fence.wide _ trivial rfl ao9 w.heap.size b nn d _ as9 as9 (by
   obtain⟨r,f,k,o,hs,s⟩:=c
   exact⟨r,f,(Gd _ _ b l).trans k,o,hs,s⟩)
 have q:∀j W,CallsIn Fence.wide 5 prog 292 #[.map j] W λe w'=>e=Q (.func (.func 324) #[] #[K (O ⟨W.heap.size,0,I⟩)])/\w'=W.alloc (J #[.map j] 328):=λj W=>AnyZ.keys_in Tryz.tl Fence.wide 5 trivial rfl j W;have m:=AnyZ.sorted_in Tryz.sy Fence.wide 5 trivial trivial trivial trivial rfl ao9 (Ayl _) (enters_of func323 (by kernel_rfl) rfl) 324 #[K (O ⟨w.heap.size,0,I⟩)] trivial (enters_of func324 (by kernel_rfl) rfl) _ _ g a _ i;change CallsIn _ _ prog 291 _ _ _ at m;have u:Fence.wide.fn 292:=trivial;have z:Fence.wide.fn 291:=trivial;refine callsIn_of_wp func249 rfl trivial ?_ rfl;simp only[ntmps249,Tm,D8,Ib,Nat.reduceAdd,Nat.reduceSub,Zm,Zn,Zv,Zo,Oz,P1]
 gi_wp2_with (first
  | (gi_at_call 292;refine(q _ _).mono ?_;rintro e w' ⟨rfl,rfl⟩)
  | (gi_at_call 291;refine m.mono ?_;rintro e w' ⟨v,ss,rfl,t,p,h,k⟩))
 go_ret;exact⟨v,ss,rfl,t,ownsRow_base_a p as9,h,((Below.refl _ w).alloc Ln _).trans (k.mono as9)⟩
