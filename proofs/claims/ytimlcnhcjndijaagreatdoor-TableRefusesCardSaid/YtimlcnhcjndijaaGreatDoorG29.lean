/- Parts of a proof. No condition. -/
import Derived.Test.YtimlcnhcjndijaaGreatDoorG17
import Derived.Test.YtimlcnhcjndijaaGreatDoorG28
set_option linter.all false
set_option maxRecDepth 100000
set_option maxHeartbeats 3200000
namespace Go.Proofs.YtimlcnhcjndijaaGreatDoor
open IntKind renaming i64->O
open Value renaming int->G,string->Y,slice->J,pointer->Q
open Option renaming some->Z,none->I
open Obj renaming cells->V
open Ending renaming returned->K
open Go renaming World->WD,Value->VL,Calls->CS
open Go.RowKit renaming Below->BW
open Go.Proofs.Tryz
section
open Go.RowKit Go.Maps Go.Lib Go.Sort
variable{n:Nat}{w:WD}
abbrev Rn (x:dj):Array VL:=#[G O x.id,Y x.user,G O x.prio,G O x.om.a,G O x.om.b,G O x.om.c,G O x.om.d]
structure Kw (w:WD) (ao:Option Addr) (n:Nat) (ws:List dj):Prop where
 len:ws.length=n
 max:n<=1000000
 cell:∀i x,ws[i]?=Z x->∃b off,ao=Z ⟨b,off,I⟩/\b<w.heap.size/\∀j,j<7->w.cell? ⟨b,off+i*7+j,I⟩=(Rn x)[j]?
def Kw.mod {S:Nat->Prop} {w w':WD} {d:Option Addr}  {ws:List dj} (h:Kw w d n ws) (f:Mod S w w') (g:∀b a,d=Z ⟨b,a,I⟩->¬S b):Kw w' d n ws:=
 ⟨h.len,h.max,λi x m=>by
  obtain⟨b,a,e,c,k⟩:=h.cell i x m;refine⟨b,a,e,By c f.size,λj l=>?_⟩;rw[<-k j l]
  simp only[World.cell?,f.block b c (g b a e)]⟩
def Ro (a b:dj):Int:=if compareInt b.prio a.prio≠0 then compareInt b.prio a.prio else compareInt a.id b.id
def Aw3 (ao:Option Addr) (n c:Nat) (ws:List dj) (z i j:Nat) (x y:dj) (w:WD) (h:Kw w ao n ws) (hp:w.heap[z]?=Z (V #[J ao n c] 273 (0,0))) (s:ws[i]?=Z x) (t:ws[j]?=Z y) :
  CS prog 289 #[G O (i:Int),G O (j:Int),Q (Z ⟨z,0,I⟩)] w λe w'=>e=K (G O (Ro x y))/\∃q,w'=w.drewN q:=by
 obtain⟨b,a,rfl,af,g⟩:=h.cell i x s;obtain⟨b',ad,e,ac,k⟩:=h.cell j y t;injection e with e;injection e with e1 e2;subst e1 e2;have hi:=(Aq.1 s).1;have hj:=(Aq.1 t).1;have hl:=h.len;have p0:=Bk hp 0 (J (Z ⟨b,a,I⟩) n c) rfl;have x0:w.cell? ⟨b,a+i*7,I⟩=Z (G O x.id):=g 0 ao9;have x2:w.cell? ⟨b,a+i*7+2,I⟩=Z (G O x.prio):=g 2 ao9;have y0:w.cell? ⟨b,a+j*7,I⟩=Z (G O y.id):=k 0 ao9;have y2:w.cell? ⟨b,a+j*7+2,I⟩=Z (G O y.prio):=k 2 ao9;have g1:(i:Int)<n:=ao9
 have g2:(j:Int)<n:=ao9
 have g3:(0:Int)<=i:=ao9
 have g4:(0:Int)<=j:=ao9
 have l:Ro x y=if compareInt y.prio x.prio≠0 then compareInt y.prio x.prio else compareInt x.id y.id:=rfl
 obtain⟨u,m⟩:=Ex (compareInt y.prio x.prio);obtain⟨v,o⟩:=Ex (compareInt x.id y.id);rw[<-m,<-o]at l;have p:=λW=>Tryz.cmp_Compare_int y.prio x.prio W;have r:=λW=>Tryz.cmp_Compare_int x.id y.id W;rw[<-m]at p;rw[<-o]at r;clear s t h hp g k;replace⟨l,p,r,m,o,hl⟩:=H6 l p r m o hl;go_enter func289,ntmps289;go_upto_region 1 with fail;go_quiet ((go_at_call 290;(with_reducible exact K2 (p.out _))));obtain⟨W,f⟩:=Ex (w.drewN nq);have am:W.cell? ⟨z,0,I⟩=Z (J (Z ⟨b,a,I⟩) n c):=by rw[f];exact p0
 have an:W.cell? ⟨b,a+i*7,I⟩=Z (G O x.id):=by rw[f];exact x0
 have ap:W.cell? ⟨b,a+j*7,I⟩=Z (G O y.id):=by rw[f];exact y0
 rw[<-f];clear p0 x0 x2 y0 y2;replace f:=Hh f;by_cases h0:u=0
 .subst h0;have d:Ro x y=v:=by rw[l.out,Ac as9]
  replace d:=Hh d;go_upto_region 4 with fail;go_quiet ((go_at_call 290;(with_reducible exact K2 (r.out _))));go_wp2_with fail;go_ret;exact⟨by rw[d.out];rfl,_,by rw[f.out,World.drewN_drewN]⟩
 .have d:Ro x y=u:=by rw[l.out,Ad h0]
  have al:(u != 0)=true:=by rw[Fs];exact h0
  replace d:=Hh d;go_wp2_with fail;go_ret;exact⟨by rw[d.out];rfl,_,f.out⟩
def Aw4 (a b:dj):Ro a b<0↔(b.prio<a.prio\/(a.prio=b.prio/\a.id<b.id)):=by
 unfold Ro compareInt;by_cases d:b.prio<a.prio
 .simp [d]
 .by_cases g:a.prio<b.prio
  .simp [d,g];omega
  .have e:a.prio=b.prio:=ao9;by_cases c:a.id<b.id
   .simp [e,c]
   .by_cases f:b.id<a.id
    .simp [e,c,f]
    .simp [e,c,f]
def Fl  (i:Fin n):VL:=G O ((i.val:Nat):Int)
def mq (ws:List dj)  (i j:Fin n):Int:=Ro (A7 ws i) (A7 ws j)
def Vq (ws:List dj)  (i j:Fin n):ltOf (mq ws) i j=true↔((A7 ws j).prio<(A7 ws i).prio\/((A7 ws i).prio=(A7 ws j).prio/\(A7 ws i).id<(A7 ws j).id)):=by
 unfold ltOf mq;rw[decide_eq_true_iff,Aw4]
def Ts (ws:List dj)  (i j:Fin n):ltOf (mq ws) i j=false↔¬((A7 ws j).prio<(A7 ws i).prio\/((A7 ws i).prio=(A7 ws j).prio/\(A7 ws i).id<(A7 ws j).id)):=by
 rw[<-Vq,Aax]
def Ada (ws:List dj) (n:Nat):SWO (ltOf (mq ws):Fin n->Fin n->Bool) where
 irrefl x:=by rw[Ts];omega
 trans x y z:=by rw[Vq,Vq,Vq];omega
 ntrans x y z:=by rw[Ts,Ts,Ts];omega
def Aw5 (ws:List dj)  (i j:Fin n):(!ltOf (mq ws) j i)=xq (A7 ws i) (A7 ws j):=by
 cases h:ltOf (mq ws) j i
 .rw [Ts]at h
  symm
  simp[xq];omega
 .rw [Vq]at h
  symm
  simp[xq];omega
def Vr (ws:List dj):Prop:=∀(i j:Nat) (x y:dj),ws[i]?=Z x->ws[j]?=Z y->x.id=y.id->i=j
def Aw6 (ws:List dj) (n:Nat) (j:ws.length=n) (h1:Vr ws) [Inhabited (Fin n)] (d c:Array (Fin n)) (h:PermIn 0 d.size d c) (i:SortedIn (ltOf (mq ws)) 0 d.size c):c.toList.map Fin.val=Gw ws (d.toList.map Fin.val):=by
 rw[sorted_unique_holds (lt:=ltOf (mq ws)) (Ada ws n) (λx y a b=>by
  rw[Ts]at a b;have e:(A7 ws x).id=(A7 ws y).id:=ao9
  have f:ws[x.val]?=Z (A7 ws x):=by have:=x.isLt;unfold A7;rw[A4 ao9];rfl
  have g:ws[y.val]?=Z (A7 ws y):=by have:=y.isLt;unfold A7;rw[A4 ao9];rfl
  exact Fin.ext (h1 _ _ _ _ f g e)) d c h i]
 unfold Gw;exact List.map_mergeSort (λa _ b _=>Aw5 ws a b)
def Aw7  [Inhabited (Fin n)] (w:WD) (g m:Nat) (d:Array (Fin n)) (os:Array Obj):Mod (λb=>b=g) w (sortWorld Fl w g 0 m d os):=by
 refine⟨rfl,rfl,rfl,by simp[sortWorld,putRow,mapBlock,Sort.ahead],λk a c=>?_⟩;unfold sortWorld;rw[heap_grow_old _ _ (by simpa[putRow,mapBlock,Sort.ahead]using a)];have:g≠k:=λe=>c e.symm;simp[putRow,mapBlock,Sort.ahead,Wm,this]
def C0 (l:List Nat):List Int:=l.map λ(i:Nat)=>(i:Int)
def Akr  (d:Array (Fin n)):d.toList.map Fl=Bu (C0 (d.toList.map Fin.val)):=by
 simp[Bu,C0,Fl,Ip]
def Aks  (i:Option Addr) (n c h:Nat) (ws:List dj) (k:Kw w i n ws) (z:w.heap[h]?=Z (V #[J i n c] 273 (0,0))) [Inhabited (Fin n)] (g cap a b:Nat) (d:Array (Fin n)) (s:Holds Fl w g 0 d)
  (v:h≠g) (t:∀b f,i=Z ⟨b,f,I⟩->b≠g) (j:a<=b) (u:b<=d.size) (ac:d.size<=1000) :
  CS prog 334 #[J (Z ⟨g,0,I⟩) d.size cap,G O (a:Int),G O (b:Int),.func (.func 289) #[] #[Q (Z ⟨h,0,I⟩)]] w λe w'=>e=K (.tuple #[])/\∃q,w'=(putRow Fl w g 0 (Sort.insertionSort (ltOf (mq ws)) d a b)).drewN q:=by
 refine Any.insertionSortCmpFunc_one Tryz.zh Fl (λ_=>rfl) (mq ws) 289 #[Q (Z ⟨h,0,I⟩)] g 0 cap a b d w (I8 func289 ad9 (by simp[f289])) ?_ s j u ao9;intro m os o _ x y;have l:=Aw7 w g m o os;have p:ws[x.val]?=Z (A7 ws x):=by have:=x.isLt;have:=k.len;unfold A7;rw[A4 ao9];rfl
 have r:ws[y.val]?=Z (A7 ws y):=by have:=y.isLt;have:=k.len;unfold A7;rw[A4 ao9];rfl
 exact Aw3 i n c ws h x y _ _ _ (k.mod l λb f e c=>t b f e c) (l.aw z v) p r
def Akt  [Inhabited (Fin n)] (w:WD) (g q:Nat) (d:Array (Fin n)):Mod (λb=>b=g) w ((putRow Fl w g 0 d).drewN q):=
 ⟨rfl,rfl,rfl,by simp[putRow,mapBlock,World.drewN],λk _ a=>by
  have:g≠k:=λe=>a e.symm
  simp[putRow,mapBlock,Wm,this,World.drewN]⟩
def Aw8  (u:Option Addr) (n c k:Nat) (ws:List dj) (t:Kw w u n ws) (s:w.heap[k]?=Z (V #[J u n c] 273 (0,0))) [Inhabited (Fin n)] (g cap m:Nat) (d:Array (Fin n)) (r:Holds Fl w g 0 d) (hd:d.size=m)
  (z:k≠g) (l:∀b p,u=Z ⟨b,p,I⟩->b≠g) (hm:m<=20) :
  CS prog 321 #[J (Z ⟨g,0,I⟩) m cap,G O (m:Int),.func (.func 289) #[] #[Q (Z ⟨k,0,I⟩)]] w λe w'=>e=K (.tuple #[])/\∃q,w'=(putRow Fl w g 0 (Sort.insertionSort (ltOf (mq ws)) d 0 m)).drewN q:=by
 subst hd
 have j:CS prog 334 #[J (Z ⟨g,0,I⟩) d.size cap,G O 0,G O (d.size:Int),.func (.func 289) #[] #[Q (Z ⟨k,0,I⟩)]] w λe w'=>e=K (.tuple #[])/\∃q,w'=(putRow Fl w g 0 (Sort.insertionSort (ltOf (mq ws)) d 0 d.size)).drewN q:=
  Aks u n c k ws t s g cap 0 d.size d r z l (As _) Ln ao9
 obtain⟨i,a⟩:=Ex (Sort.insertionSort (ltOf (mq ws)) d 0 d.size);have h:i.size=d.size:=by rw[a];exact(insertionSort_holds (lt:=ltOf (mq ws)) (Ada ws n) d 0 d.size (As _) Ln).1.1
 rw[<-a]at j ⊢;obtain⟨m,f⟩:=Ex (d.size);rw[<-f]at hm j h;rw[<-f];by_cases y:m=20
 .subst y
  have o:∀q,CS prog 334 #[J (Z ⟨g,0,I⟩) 20 cap,G O 20,G O 20,.func (.func 289) #[] #[Q (Z ⟨k,0,I⟩)]] ((putRow Fl w g 0 i).drewN q) λe w'=>e=K (.tuple #[])/\∃q,w'=(putRow Fl w g 0 i).drewN q:=λq=>by
   have x:=Akt w g q i;have v:Holds Fl ((putRow Fl w g 0 i).drewN q) g 0 i:=holds_putRow Fl w g 0 d i r ao9;have:=Aks u n c k ws (t.mod x λb p e c=>l b p e c) (x.aw s z) g cap 20 20 i v z l Ln ao9 ao9;rw[h]at this;refine this.mono ?_;rintro e w' ⟨rfl,q2,rfl⟩;have e1:Sort.insertionSort (ltOf (mq ws)) i 20 20=i:=insOuter_stop _ _ _ _ _ ao9;rw[e1,putRow_self Fl _ g 0 i v,World.drewN_drewN];exact⟨rfl,_,rfl⟩
  replace j:CS prog 334 #[J (Z ⟨g,0,I⟩) 20 cap,G O 0,G O 20,.func (.func 289) #[] #[Q (Z ⟨k,0,I⟩)]] w λe w'=>e=K (.tuple #[])/\∃q,w'=(putRow Fl w g 0 i).drewN q:=j;replace⟨j,o,t,s,r,l,f,a⟩:=H8 j o t s r l f a;replace h:=Hh h;go_enter func321,ntmps321;go_wp2_with fail;refine Ul 2 ?_;rw[Nk];go_wp2_with (go_at_call 334;(with_reducible refine j.out.mono ?_);rintro e w1 ⟨rfl,q,rfl⟩);rw[Nk];go_wp2_with (go_at_call 334;(with_reducible refine(o.out _).mono ?_);rintro e w1 ⟨rfl,q,rfl⟩);refine Ul 1 ?_;rw[Nk];go_wp2;go_end0;exact⟨rfl,_,rfl⟩
 .have g1:¬(20:Int)<=(m:Int):=ao9
  replace⟨j,t,s,r,l,f,a,h⟩:=H8 j t s r l f a h;go_enter func321,ntmps321;go_wp2_with fail;refine Ul 1 ?_;rw[Nk];go_wp2_with (go_at_call 334;(with_reducible refine j.out.mono ?_);rintro e w1 ⟨rfl,q,rfl⟩);refine Ul 1 ?_;rw[Nk];go_wp2;go_end0;exact⟨rfl,_,rfl⟩
def P6 (l:List Nat):(C0 l).length=l.length:=Ar _
def Aw9  {B:Nat} {v:VL} {l:List Nat} (h:Al w B v (C0 l)) (h0:l≠[]) (hl:l.length<=20) (ao:Option Addr) (n c pb:Nat) (ws:List dj) (hw:Kw w ao n ws) (hp:w.heap[pb]?=Z (V #[J ao n c] 273 (0,0)))
  (u:∀i,i∈l->i<n) (h1:Vr ws) (ha:∀b ac,ao=Z ⟨b,ac,I⟩->v.ownBlock≠Z b) :
  CS prog 288 #[v,.func (.func 289) #[] #[Q (Z ⟨pb,0,I⟩)]] w λe w'=>e=K (.tuple #[])/\Al w' B v (C0 (Gw ws l))/\Mod (λb=>v.ownBlock=Z b) w w':=by
 obtain⟨i0,af⟩:∃i,i∈l:=by
  cases l with
  | nil=>exact absurd rfl h0
  | cons x r=>exact⟨x,D6 ..⟩
 haveI:Inhabited (Fin n):=⟨⟨i0,u i0 af⟩⟩
 obtain⟨d,hd⟩:∃d:Array (Fin n),d=(l.pmap (λi hi=>(⟨i,hi⟩:Fin n)) u).toArray:=⟨_,rfl⟩;have o:d.toList.map Fin.val=l:=by rw[hd];simp[List.map_pmap]
 have t:d.size=l.length:=by rw[hd];simp
 have aj:w.ownsRow B 3 1 v l.length (d.toList.map Fl):=by rw[Akr,o];have:=h.row;rw[P6]at this;exact this
 obtain⟨g,cap,rfl,an,aA,av,ap,_,hH⟩:=holds_of_ownsRow (enc:=Fl) (zs:=d.toList) aj (λe=>by
  obtain⟨so,m,c',e',hm⟩:=h.len;rw[e]at e';injection e' with _ e';rw[P6]at hm
  exact h0 (Gb.1 ao9))
 have hH:Holds Fl w g 0 d:=hH
 have ad:pb≠g:=λe=>by
  obtain⟨am,a,_⟩:=C8 h.row (g:=g) rfl;rw[<-e,hp]at a;injection a with a;injection a with _ a;exact absurd a ad9
 have p:=Aw8 ao n c pb ws hw hp g cap l.length d hH t ad (λb ac e c=>ha b ac e (by rw[c];rfl)) hl;obtain⟨y,hS⟩:=insertionSort_holds (lt:=ltOf (mq ws)) (Ada ws n) d 0 d.size (As _) Ln;have j:=Aw6 ws n hw.len h1 d _ y hS;rw[t]at j y;obtain⟨s,z⟩:=Ex (Sort.insertionSort (ltOf (mq ws)) d 0 l.length);rw[<-z]at p j y
 have f:∀q,Al ((putRow Fl w g 0 s).drewN q) B (J (Z ⟨g,0,I⟩) l.length cap) (C0 (Gw ws l)):=λq=>by
  have al:(Gw ws l).length=l.length:=by rw[<-o,<-j];simp only[Ar];have:=y.1;have e1:s.toList.length=s.size:=rfl;omega
  have:=ownsRow_putRow (q:=q) (k:=l.length) (ys:=s.toList) aj (by have:=y.1;have e1:s.toList.length=s.size:=rfl;omega) Ln;rw[Cr (by have:=y.1;have e1:s.toList.length=s.size:=rfl;omega),Akr,j,o]at this;refine⟨?_⟩;rw[P6,al];exact this
 obtain⟨m,hm⟩:=Ex (l.length);rw[<-hm]at p f ⊢;replace⟨p,f,hw,hp,h,hd,o,t⟩:=H8 p f hw hp h hd o t;replace⟨aj,hH,y,hS,j,z,hm,ha⟩:=H8 aj hH y hS j z hm ha;replace⟨u,h1⟩:=H2 u h1;go_enter func288,ntmps288;go_wp2_with (go_at_call 321;(with_reducible refine p.out.mono ?_);rintro e w1 ⟨rfl,q,rfl⟩);go_end0;exact⟨rfl,f q,(Akt w g q s).mono λb _ e=>by rw[e];rfl⟩
end
section
open Go.RowKit Go.Maps Go.Lib
variable {w w1 w':WD} {B:Nat}
structure De (w:WD) (B:Nat) (v:VL) (l:List Int):Prop where
 is:(v=J I 0 0/\l=[])\/∃g off cap cur,v=J (Z ⟨g,off,I⟩) l.length cap/\B<=g/\w.heap[g]?=Z (V cur 3 (0,0))/\l.length<=cap/\off+cap<=cur.size/\cap<=maxLen/\∀i x,l[i]?=Z x->cur[off+i]?=Z (G O x)
def De.of {v:VL} {l:List Int} (h:Al w B v l):De w B v l:=by
 rcases h.row.2 with⟨rfl,h0⟩|⟨g,cap,a,rfl,e,f,h1,c,j,d⟩
 .exact ⟨.inl ⟨rfl,Gb.1 h0⟩⟩
 .refine ⟨.inr ⟨g,0,cap,a,rfl,e,f,h1,ao9,c,λi x b=>?_⟩⟩;have k:=(Aq.1 b).1
  have:(a.toList.take (l.length*1))[i]?=Z (G O x):=by rw[d];simp[Bu,b]
  rw[L5,Ad ao9]at this;simpa using this
def De.form {v:VL} {l:List Int} (h:De w B v l):∃so c,v=J so l.length c/\l.length<=c/\c<=maxLen/\∀b o,so=Z ⟨b,o,I⟩->B<=b/\b<w.heap.size:=by
 rcases h.is with⟨rfl,rfl⟩|⟨g,j,cap,a,rfl,f,i,h1,k,d,m⟩
 .exact ⟨I,0,rfl,Nat.le_refl _,by unfold maxLen;omega,λb o e=>by cases e⟩
 .refine ⟨_,_,rfl,h1,d,λb o e=>?_⟩;injection e with e;injection e with e1 e2;subst e1;exact⟨f,Ab i⟩
def De.pos {v:VL} {l:List Int} (h:De w B v l) (j:0<l.length):∃g a cap,v=J (Z ⟨g,a,I⟩) l.length cap/\B<=g/\l.length<=cap/\cap<=maxLen/\(∀o,w.frozen? ⟨g,o,I⟩=false)/\∀i x,l[i]?=Z x->w.cell? ⟨g,a+i,I⟩=Z (G O x):=by
 rcases h.is with⟨rfl,rfl⟩|⟨g,a,cap,c,rfl,f,b,h1,m,d,e⟩
 .simp at j
 .refine ⟨g,a,cap,rfl,f,h1,d,Af b,λi x k=>?_⟩;rw[<-e i x k];simp[World.cell?,b]
def De.lt {v:VL} {l:List Int} (h:De w B v l):∀k,v.ownBlock=Z k->B<=k/\k<w.heap.size:=λk a=>by
 rcases h.is with⟨rfl,rfl⟩|⟨g,e,cap,b,rfl,c,d,_⟩
 .simp [Value.ownBlock]at a
 .simp [Value.ownBlock]at a;subst a;exact⟨c,Ab d⟩
def De.aw {v:VL} {l:List Int} (h:De w B v l) {k:Nat} (a:v.ownBlock=Z k):∃c,w.heap[k]?=Z (V c 3 (0,0)):=by
 rcases h.is with⟨rfl,rfl⟩|⟨g,e,cap,b,rfl,f,d,_⟩
 .simp [Value.ownBlock]at a
 .simp [Value.ownBlock]at a;subst a;exact⟨_,d⟩
def De.mod {S:Nat->Prop} {v:VL} {l:List Int} (h:De w B v l) (e:Mod S w w') (f:∀k,v.ownBlock=Z k->¬S k):De w' B v l:=by
 rcases h.is with⟨rfl,rfl⟩|⟨g,b,cap,a,rfl,c,d,r⟩
 .exact ⟨.inl ⟨rfl,rfl⟩⟩
 .exact ⟨.inr ⟨g,b,cap,a,rfl,c,e.aw d (f g rfl),r⟩⟩
def De.tail {g a n cap:Nat} {x:Int} {l:List Int} (h:De w B (J (Z ⟨g,a,I⟩) n cap) (x :: l)):De w B (J (Z ⟨g,if cap=1 then a else a+1,I⟩) l.length (cap-1)) l:=by
 rcases h.is with⟨h,_⟩|⟨o,f,c,b,e,k,m,h1,p,q,j⟩
 .cases h
 .injection e with e1 e2 e3;injection e1 with e1;injection e1 with e1 e4;subst e1 e3 e4;simp at h1;refine⟨.inr ⟨g,_,cap-1,b,rfl,k,m,ao9,by split<;>omega,ao9,λi y d=>?_⟩⟩;have r:=(Aq.1 d).1;have:=j (i+1) y (by simpa using d);split
  .omega
  .rw [<-this];congr 1;omega
def Zf (w:WD) (B:Nat) (v:VL) (l:List Int) (e:Ending) (w':WD):Prop:=
 ∃v',e=K v'/\De w' B v' l/\Mod (λb=>v.ownBlock=Z b) w w'/\(v'.ownBlock=v.ownBlock\/v'.ownBlock=Z w.heap.size)
def Vs {w:WD} {g:Nat} {d:Array VL} {T:TypeId} (h:w.heap[g]?=Z (V d T (0,0))) (a:Nat) (xs:List VL) (j:a+xs.length<=d.size) :
  ∃c,(w.setCells g a xs).heap[g]?=Z (V c T (0,0))/\c.size=d.size/\(∀i x,xs[i]?=Z x->c[a+i]?=Z x)/\(∀i,(i<a\/a+xs.length<=i)->c[i]?=d[i]?)/\Mod (λb=>b=g) w (w.setCells g a xs):=by
 induction xs generalizing w d a with
 | nil=>exact⟨d,by simpa[World.setCells]using h,rfl,λi x j=>by simp at j,λ_ _=>rfl,by simpa[World.setCells]using Mod.refl _ w⟩
 | cons x l ih=>
  have h1:=Am h a x;obtain⟨c,a1,a2,a3,k,m⟩:=ih h1 (a+1) (by simp at j ⊢;omega);have e:w.setCells g a (x :: l)=(w.setCell ⟨g,a,I⟩ x).setCells g (a+1) l:=rfl;refine⟨c,by rw[e];exact a1,by simpa using a2,λi y f=>?_,λi n=>?_,by rw[e];exact(Mod.setCell (S:=λb=>b=g) w g a x rfl).trans m⟩
  .match i,f with
   | 0,f=>
    simp at f j;subst f;have o:a<d.size:=ao9;rw[Iu,k a (.inl ao9),N8];simp[o]
   | i+1,f=>
    have:=a3 i y (by simpa using f);rw[<-this];congr 1;omega
  .simp only[D7]at n;rw[k i ao9];simp[N8];omega
def Vt (l:List Int) (i:Nat):(Bu l)[i]?=(l[i]?).map (Value.int O):=by simp[Bu]
def Aku (l:List Int):∀v,v∈Bu l->v.oneCell'=true:=λv a=>by
 obtain⟨x,_,rfl⟩:=A8.1 a;rfl
def Zg (l:List Int) (k:Int) {at_:Nat} (a:at_<=l.length) (i:Nat):(l.take at_++k :: l.drop at_)[i]?=if i<at_ then l[i]? else if i=at_ then Z k else l[i-1]?:=by
 by_cases h1:i<at_
 .rw [Ad h1,Fd (by simp;omega),L5,Ad h1]
 .rw [Ac h1,G7 (by simp;omega),Dt,L9 a];by_cases b:i=at_
  .subst b;simp
  .rw [Ac b,show i-at_=(i-at_-1)+1 by omega,List.getElem?_cons_succ,Oc];congr 1;omega
def Axa {v:VL} {l:List Int} (hq:De w B v l) (k:Int) (at_:Nat) (s:at_<=l.length) (hl:l.length<=1000000) (vb:Nat) (ad:w.heap[vb]?=Z (V #[G O k] 3 (0,0))) (ap:v.ownBlock≠Z vb) (hB:B<=w.heap.size) :
  CS prog 265 #[v,G O (at_:Int),J (Z ⟨vb,0,I⟩) 1 1] w (Zf w B v (l.take at_++k :: l.drop at_)):=by
 have z:∀(j:Nat) (u:VL),([G O k]:List VL)[j]?=Z u->w.cell? ⟨vb,0+j,I⟩=Z u:=λj u p=>by
  match j,p with
  | 0,p=>
   simp at p;subst p;exact Aa ad 0
 have y:∀u,u∈([G O k]:List VL)->u.oneCell'=true:=by simp[Value.oneCell']
 have n:(l.take at_++k :: l.drop at_).length=l.length+1:=by simp;omega
 have m:∀(cap:Nat) (h:Array VL) (w':WD),w'.heap[w.heap.size]?=Z (V h 3 (0,0))->Mod (λb=>v.ownBlock=Z b) w w'->l.length+1<=cap->cap<=maxLen->cap<=h.size->(∀(i:Nat) (x:Int),(l.take at_++k :: l.drop at_)[i]?=Z x->h[i]?=Z (G O x)) ->
   Zf w B v (l.take at_++k :: l.drop at_) (K (J (Z ⟨w.heap.size,0,I⟩) (l.length+1) cap)) w':=λcap h w' h1 h2 h3 h4 h5 h6=>
  ⟨_,rfl,⟨.inr ⟨w.heap.size,0,cap,h,by rw[n],hB,h1,by rw[n];exact h3,ao9,h4,λi x c=>by simpa using h6 i x c⟩⟩,h2,.inr rfl⟩
 rcases hq.is with⟨rfl,rfl⟩|⟨g,d,cap,h,rfl,hb,hg,h1,h2,h3,h4⟩
 .obtain rfl:at_=0:=by simpa using s
  refine(Any2.slices_Insert_int_end_grow Tryz.gy I 0 0 vb 0 1 1 [] [Value.int O k] w ao9 Ln ao9 ao9 rfl rfl (λ_=>rfl) (λa e=>by cases e) z y).mono ?_;rintro e w' ⟨rfl,rfl⟩;refine m _ _ _ (Ah _ _) ((Mod.refl _ w).drew.trans (Mod.alloc _ _ _)) (Ur _ _ _ _) (Aap _ _ _ _ (by unfold maxLen;omega)) ?_ ?_
  .have:=Ur w (0+1) 0 3;simp[Xh,Value.cells];omega
  .intro i x c
   match i,c with
   | 0,c=>
    simp at c;subst c;rw[Wj as9];rfl
 .have af:∀(j:Nat) (u:VL),(Bu l)[j]?=Z u->w.cell? ⟨g,d+j,I⟩=Z u:=λj u p=>by
   rw[Vt]at p
   cases c:l[j]? with
   | none=>rw[c]at p;cases p
   | some x=>
    rw[c]at p;simp at p;subst p;rw[<-h4 j x c];simp[World.cell?,hg]
  have ao:g≠vb:=λe=>ap (by rw[e];rfl);have am:=Af hg
  have t:∀o,o<h.size->(w.cell? ⟨g,o,I⟩).isSome=true:=λo ho=>by
   simp[World.cell?,hg,ho]
  by_cases f:l.length+1<=cap
  .by_cases he:at_=l.length
   .subst he;refine(Any2.slices_Insert_int_end_room Tryz.gy g d l.length cap vb 0 1 1 [G O k] w ao9 f (by unfold maxLen at h3;omega) rfl (λj hj=>t _ ao9) (λj _=>am _) z y).mono ?_;rintro e w' ⟨rfl,rfl⟩;obtain⟨q,a1,a2,a3,a4,a5⟩:=Vs hg (d+l.length) [G O k] (by simp;omega);refine⟨_,rfl,⟨.inr ⟨g,d,cap,q,by rw[n],hb,a1,by rw[n];exact f,ao9,h3,λi x c=>?_⟩⟩,a5.mono (λb _ e=>by rw[e];rfl),.inl rfl⟩;rw[Zg l k s]at c;split at c
    .rw [a4 _ (.inl ao9)];exact h4 i x c
    .split at c
     .rename_i e;subst e;injection c with c;subst c;exact a3 0 _ rfl
     .rw [Pa ao9]at c;cases c
   .have ac:at_<l.length:=ao9
    refine(Any2.slices_Insert_int_shift Tryz.gy g d l.length cap at_ vb 0 1 1 (Bu l) [G O k] w ac ao9 f (by unfold maxLen at h3;omega) (λe=>ao e.symm) (by simp[Bu]) rfl af (λj hj=>t _ ao9) (λj _=>am _) z (Aku l) y 3 3 1 h.size
     (by simp[World.shape?,ad]) (by simp[World.shape?,hg]) ao9 (by simp[World.frozen?,ad]) (by simp[World.frozen?,ad])).mono ?_
    rintro e w' ⟨rfl,rfl⟩;obtain⟨q,a1,a2,a3,a4,a5⟩:=Vs (w:=w.drew) hg (d+(at_+1)) ((Bu l).drop at_) (by simp[Bu];omega);obtain⟨r,b1,b2,b3,b4,b5⟩:=Vs a1 (d+at_) [G O k] (by simp;omega);have al:Mod (λb=>b=g) w w.drew:=(Mod.refl _ _).drew;refine⟨_,rfl,⟨.inr ⟨g,d,cap,r,by rw[n],hb,b1,by rw[n];exact f,ao9,h3,λi x c=>?_⟩⟩,((al.trans a5).trans b5).mono (λb _ e=>by rw[e];rfl),.inl rfl⟩;rw[Zg l k s]at c;split at c
    .rw [b4 _ (.inl ao9),a4 _ (.inl ao9)];exact h4 i x c
    .split at c
     .rename_i e;subst e;injection c with c;subst c;exact b3 0 _ rfl
     .rename_i n1 n2;rw[b4 _ (.inr (by simp;omega))];have:=a3 (i-1-at_) (G O x) (by rw[Oc,Vt,show at_+(i-1-at_)=i-1 by omega,c];rfl);rw[<-this];congr 1;omega
  .by_cases he:at_=l.length
   .subst he;refine(Any2.slices_Insert_int_end_grow Tryz.gy (Z ⟨g,d,I⟩) l.length cap vb 0 1 1 (Bu l) [G O k] w ao9 h1 ao9 ao9 (by simp[Bu]) rfl (λe=>by cases e) (λa e j u p=>by injection e with e;subst e;rw[Un];exact af j u p) z y).mono ?_;rintro e w' ⟨rfl,rfl⟩;refine m _ _ _ (Ah _ _) ((Mod.refl _ w).drew.trans (Mod.alloc _ _ _)) (Ur _ _ _ _) (Aap _ _ _ _ (by unfold maxLen;omega)) ?_ ?_
    .have:=Ur w (l.length+1) cap 3;simp[Xh,Value.cells,Bu];omega
    .intro i x c;rw[Zg l k s]at c
     have hi:i<l.length+1:=by
      split at c
      .omega
      .split at c
       .omega
       .have:=(Aq.1 c).1;omega
     rw[Wj (by simp[Bu];omega)];simp only[L4];split at c
     .rw [Fd (by simp[Bu];omega),Vt,c];rfl
     .split at c
      .rename_i e;subst e;injection c with c;subst c;rw[G7 (by simp[Bu])];simp[Bu]
      .rw [Pa ao9]at c;cases c
   .have ac:at_<l.length:=ao9;refine(Any2.slices_Insert_int_grow Tryz.gy g d l.length cap at_ vb 0 1 1 (Bu l) [G O k] w ac ao9 h1 ao9 ao9 (by simp[Bu]) rfl af z (Aku l) y).mono ?_;rintro e w' ⟨rfl,av⟩;have hG:=Ur w (l.length+1) cap 3;obtain⟨C,hC⟩:=Ex ((((Bu l).take at_).toArray++Builtin.zeroCells (Value.int O 0).cells (l.length+1-at_)++Builtin.zeroCells (Value.int O 0).cells (grownCap w (l.length+1) cap 3-(l.length+1))));have aB:=Ah w (V C 3 (0,0));have aC:C.size=grownCap w (l.length+1) cap 3:=by rw[hC];simp[Xh,Value.cells,Bu];omega
    have an:∀i,i<at_->C[i]?=(l[i]?).map (Value.int O):=λi hi=>by
     rw[hC,Wj (by simp[Xh,Value.cells,Bu];omega),Wj (by simp[Bu];omega),L4,L5,Ad hi,Vt]
    have aA:w'=(((w.alloc (V C 3 (0,0))).drew.setCells w.heap.size at_ [G O k]).drew).setCells w.heap.size (at_+1) ((Bu l).drop at_):=(by rw[hC];exact av);subst aA;obtain⟨q,a1,a2,a3,a4,a5⟩:=Vs (w:=(w.alloc (V C 3 (0,0))).drew) aB at_ [G O k] (by simp;omega);obtain⟨r,b1,b2,b3,b4,b5⟩:=Vs (w:=(((w.alloc (V C 3 (0,0))).drew).setCells w.heap.size at_ [G O k]).drew) a1 (at_+1) ((Bu l).drop at_) (by simp[Bu];omega);have al:Mod (λb=>b=w.heap.size) w (w.alloc (V C 3 (0,0))).drew:=(Mod.alloc _ _ _).drew;have hm:Mod (λb=>(Value.slice (Z ⟨g,d,I⟩) l.length cap).ownBlock=Z b) w (((((w.alloc (V C 3 (0,0))).drew).setCells w.heap.size at_ [G O k]).drew).setCells w.heap.size (at_+1) ((Bu l).drop at_)):=(((al.trans a5).drew).trans b5).mono (λb ac e=>by omega);refine m (grownCap w (l.length+1) cap 3) r _ b1 hm hG (Aap _ _ _ _ (by unfold maxLen;omega)) ao9 ?_;intro i x c;rw[Zg l k s]at c;split at c
    .rename_i hi;rw[b4 i (.inl ao9),a4 i (.inl ao9),an i hi,c];rfl
    .split at c
     .rename_i e;subst e;injection c with c;subst c;rw[b4 i (.inl ao9)];exact a3 0 _ rfl
     .rename_i n1 n2;have:=b3 (i-1-at_) (G O x) (by rw[Oc,Vt,show at_+(i-1-at_)=i-1 by omega,c];rfl);rw[<-this];congr 1;omega
end
section
open Go.RowKit Go.Maps Go.Lib
def Jo (b:Nat):DU:=.lit (.int O (b:Int))
def P7:DU:=.lit (.int O (-1))
abbrev L0 (b:Nat):VL:=Q (Z ⟨b,0,I⟩)
open Classical in
noncomputable def Jp (v:VL):Option (DU×List MemPlace):=if h:∃b,v=L0 b then Z (Jo h.choose,[])else if v=Q I then Z (P7,[])else I
def Axb {a b:Nat} (h:L0 a=L0 b):a=b:=by
 injection h with h;injection h with h;injection h
def Axc (b:Nat):Jp (L0 b)=Z (Jo b,[]):=by
 unfold Jp;have h:∃d,L0 b=L0 d:=⟨b,rfl⟩;rw[Mb h];rw[<-Axb h.choose_spec]
def Axd:Jp (Q I)=Z (P7,[]):=by
 unfold Jp;rw[dif_neg (by rintro⟨b,h⟩;simp[L0]at h),Ad rfl]
def Axe {a b:Nat} (h:Jo a=Jo b):a=b:=by
 simp[Jo]at h;omega
def Adb {a:Nat} (h:Jo a=P7):False:=by
 simp[Jo,P7]at h
def Akv {v:VL} {b:Nat} {c:List MemPlace} (h:Jp v=Z (Jo b,c)):v=L0 b:=by
 unfold Jp at h;split at h
 .rename_i a;injection h with h;injection h with h _;rw[<-Axe h];exact a.choose_spec
 .split at h
  .injection h with h;injection h with h _;exact(Adb h.symm).elim
  .cases h
def Axf {v:VL} {b:List MemPlace} (h:Jp v=Z (P7,b)):v=Q I:=by
 unfold Jp at h;split at h
 .injection h with h;injection h with h _;exact(Adb h).elim
 .split at h
  .rename_i a;exact a
  .cases h
def Gz (l:List (ByteArray×Nat)):DU:=l.foldl (λm p=>m.put (B5 p.1) (Jo p.2)) (.map [])
def Vu (l:List (ByteArray×Nat)) (x:ByteArray×Nat):Gz (l++[x])=(Gz l).put (B5 x.1) (Jo x.2):=by simp[Gz]
def Akw (l:List (ByteArray×Nat)):IsMap (Gz l):=by
 induction l using Qu with
 | h0=>exact isMap_empty
 | h1 l x ih=>rw[Vu];exact ih.put _ _
def Tt (l:List (ByteArray×Nat)) (s:ByteArray):Option Nat:=(l.find? λp=>decide (p.1=s)).map Prod.snd
def Akx (a:DU) (l:List (ByteArray×Nat)) (h:(l.map Prod.fst).Nodup) (s:ByteArray):(Gz l).atKey (B5 s) a=match Tt l s with|some b=>Jo b|none=>a:=by
 induction l using Qu with
 | h0=>rfl
 | h1 l x ih=>
  rw[C2,R6]at h;rw[Vu];unfold Tt at *;rw[List.find?_append];by_cases e:s=x.1
  .subst e;rw[atKey_put_same (Akw l) (Abd _)]
   have:l.find? (λp=>decide (p.1=x.1))=I:=by rw[R4];intro p f c;simp at c;exact h.2.2 p.1 (Kg f) x.1 as9 c
   rw[this];simp
  .rw [atKey_put_other (λc=>e (X4 c)),ih h.1];have d:¬x.1=s:=λc=>e c.symm
   cases hf:l.find? (λp=>decide (p.1=s))<;>simp[d]
structure N4 (Own:WD->Nat->VL->List Int->Prop):Prop where
 mod:∀ {S:Nat->Prop} {w w':WD} {B:Nat} {v:VL} {l:List Int},Own w B v l->Mod S w w'->(∀k,v.ownBlock=Z k->¬S k)->Own w' B v l
 lt:∀ {w:WD} {B:Nat} {v:VL} {l:List Int},Own w B v l->∀k,v.ownBlock=Z k->B<=k/\k<w.heap.size
 aw:∀ {w:WD} {B:Nat} {v:VL} {l:List Int},Own w B v l->∀k,v.ownBlock=Z k->∃c,w.heap[k]?=Z (V c 3 (0,0))
def Jq:N4 Al:=⟨λh d e=>h.mod d e,λh=>h.lt,λh k b=>by obtain⟨c,a,_⟩:=C8 h.row b;exact⟨c,a⟩⟩
def Vv:N4 De:=⟨λh b c=>h.mod b c,λh=>h.lt,λh _ a=>h.aw a⟩
structure cq where
 b:Nat
 lv:VL
 pl:bu
abbrev cq.cells (u:cq):Array VL:=#[G O u.pl.has.a,G O u.pl.has.b,G O u.pl.has.c,G O u.pl.has.d,u.lv]
def cq.key (u:cq):ByteArray×Nat:=(u.pl.name,u.b)
structure mo (Own:WD->Nat->VL->List Int->Prop) (w:WD) (mb:Nat) (us:List cq) (wr:WD):Prop where
 low:BW w.heap.size w wr
 map:wr.ownsMap (H:=Unit) prog 9 Jp mb us.length (Gz (us.map cq.key))
 mlt:w.heap.size<=mb
 box:∀u,u∈us->wr.heap[u.b]?=Z (V u.cells 335 (0,0))/\w.heap.size<=u.b
 left:∀u,u∈us->Own wr w.heap.size u.lv (C0 u.pl.left)
 names:(us.map λu=>u.pl.name).Nodup
 one:us.Pairwise λx y=>x.b≠y.b/\∀k,x.lv.ownBlock=Z k->y.lv.ownBlock≠Z k
variable {Own:WD->Nat->VL->List Int->Prop} {w wr w':WD} {mb:Nat} {us:List cq}
def mo.qi (h:mo Own w mb us wr):∃b c,wr.heap[mb]?=Z (.map b c):=by
 obtain⟨b,a,d,_⟩:=h.map;exact⟨b,a,d⟩
def mo.mod (L:N4 Own) (h:mo Own w mb us wr) {S:Nat->Prop} (d:Mod S wr w') (e:∀k,S k->wr.heap.size<=k):mo Own w mb us w':=by
 have no:∀k,k<wr.heap.size->¬S k:=λk g c=>by have:=e k c;omega
 refine⟨h.low.trans ((d.below Ln e).mono h.low.size),?_,h.mlt,λu b=>⟨d.aw (h.box u b).1 (no _ (Ab (h.box u b).1)),(h.box u b).2⟩,λu b=>L.mod (h.left u b) d (λk g=>no k (L.lt (h.left u b) k g).2),h.names,h.one⟩;obtain⟨i,a,f,r⟩:=h.map;exact⟨i,a,d.aw f (no _ (Ab f)),r⟩
def mo.drop (L:N4 Own) (h:mo Own w mb us wr) (a:BW wr.heap.size wr w'):mo Own w mb us w':=h.mod L (Mod.ag (S:=λ_=>False) a) (λ_ c=>c.elim)
def mo.set (L:N4 Own) (h:mo Own w mb us wr) {i:Nat} {u u':cq} (z:us[i]?=Z u) (hm:Mod (λb=>b=u.b\/u.lv.ownBlock=Z b) wr w') (hb:u'.b=u.b) (hn:u'.pl.name=u.pl.name) (ac:w'.heap[u.b]?=Z (V u'.cells 335 (0,0)))
  (ad:Own w' w.heap.size u'.lv (C0 u'.pl.left)) (aB:∀k,u'.lv.ownBlock=Z k->u.lv.ownBlock=Z k\/wr.heap.size<=k):mo Own w mb (us.set i u') w':=by
 have am:=Ai z;obtain⟨af,al⟩:=h.box u am;have x:=h.left u am;obtain⟨es,cl,s⟩:=h.qi
 have an:(us.set i u').map cq.key=us.map cq.key:=by
  rw[Nh];have e:u'.key=u.key:=by simp[cq.key,hb,hn]
  rw[e];apply Eg;intro k;rw[Ds];split
  .rename_i aA;subst aA;obtain⟨q,hx⟩:=Aq.1 z;simp[q,hx]
  .rfl
 have aC:(us.set i u').map (λu=>u.pl.name)=us.map λu=>u.pl.name:=by have:=Cd (List.map Prod.fst) an;simpa[cq.key,Ip]using this
 have nm:mb≠u.b:=λe=>by rw[e,af]at s;cases s
 have aD:u.lv.ownBlock≠Z mb:=λe=>by
  obtain⟨c,d⟩:=L.aw x mb e;rw[d]at s;cases s
 have o:∀k y,us[k]?=Z y->k≠i->w'.heap[y.b]?=Z (V y.cells 335 (0,0))/\Own w' w.heap.size y.lv (C0 y.pl.left):=λk y g f=>by
  have t:=Ai g
  have n:y.b≠u.b/\∀b,y.lv.ownBlock=Z b->u.lv.ownBlock≠Z b:=by
   rcases R3 f with q|q
   .exact F1 h.one g z q
   .have:=F1 h.one z g q;exact⟨λe=>this.1 e.symm,λb e1 e2=>this.2 b e2 e1⟩
  refine⟨hm.aw (h.box y t).1 λc=>?_,L.mod (h.left y t) hm λb p c=>?_⟩
  .rcases c with c|c
   .exact n.1 c
   .obtain ⟨c',d⟩:=L.aw x _ c;rw[(h.box y t).1]at d;injection d with d;injection d with _ d;exact absurd d ad9
  .rcases c with rfl|c
   .obtain ⟨c',d⟩:=L.aw (h.left y t) _ p;rw[af]at d;injection d with d;injection d with _ d;exact absurd d ad9
   .exact n.2 b p c
 have ao:∀y,y∈us.set i u'->y=u'\/∃k,us[k]?=Z y/\k≠i:=λy g=>by
  obtain⟨k,f⟩:=Dn g;rw[Ds]at f;split at f
  .split at f
   .injection f with f;exact .inl f.symm
   .cases f
  .rename_i m;exact .inr ⟨k,f,λe=>m e.symm⟩
 refine⟨?_,?_,h.mlt,λy g=>?_,λy g=>?_,by rw[aC];exact h.names,?_⟩
 .exact h.low.trans (hm.below h.low.size (λk c=>by
   rcases c with rfl|c
   .exact al
   .exact (L.lt x k c).1))
 .rw [an,Do];obtain⟨es,v,av,r⟩:=h.map;exact⟨es,v,hm.aw av (λc=>c.elim nm aD),r⟩
 .rcases ao y g with rfl|⟨k,f,m⟩
  .rw [hb];exact⟨ac,al⟩
  .exact ⟨(o k y f m).1,(h.box y (Ai f)).2⟩
 .rcases ao y g with rfl|⟨k,f,m⟩
  .exact ad
  .exact (o k y f m).2
 .refine O7.2 λa b ha p ap=>?_;have l:=A4 ha;have j:=A4 p;generalize (us.set i u')[a]=ya at l ⊢;generalize (us.set i u')[b]=yb at j ⊢
  have kk:∀k y,us[k]?=Z y->k≠i->y.b≠u'.b/\∀c,y.lv.ownBlock=Z c->u'.lv.ownBlock≠Z c:=λk y g f=>by
   have n:y.b≠u.b/\∀b,y.lv.ownBlock=Z b->u.lv.ownBlock≠Z b:=by
    rcases R3 f with q|q
    .exact F1 h.one g z q
    .have:=F1 h.one z g q;exact⟨λe=>this.1 e.symm,λb e1 e2=>this.2 b e2 e1⟩
   refine⟨by rw[hb];exact n.1,λc d e=>?_⟩;rcases aB c e with e|e
   .exact n.2 c d e
   .have:=(L.lt (h.left y (Ai g)) c d).2;omega
  rw[Ds]at l j;by_cases g1:i=a
  .have g2:i≠b:=ao9;rw[Ac g2]at j;rw[Ad g1]at l;split at l
   .injection l with l;subst l;have:=kk b yb j (λe=>g2 e.symm);exact⟨λe=>this.1 e.symm,λc e1 e2=>this.2 c e2 e1⟩
   .cases l
  .rw [Ac g1]at l;by_cases g2:i=b
   .rw [Ad g2]at j;split at j
    .injection j with j;subst j;exact kk a ya l (λe=>g1 e.symm)
    .cases j
   .rw [Ac g2]at j;exact F1 h.one l j ap
def Aky (us:List cq) (s:ByteArray):Tt (us.map cq.key) s=(us.find? λu=>decide (u.pl.name=s)).map cq.b:=by
 unfold Tt;rw[List.find?_map]
 cases h:us.find? ((λp:ByteArray×Nat=>decide (p.1=s)) ∘ cq.key)with
 | none=>
  have:us.find? (λu=>decide (u.pl.name=s))=I:=h;rw[this];rfl
 | some u=>
  have:us.find? (λu=>decide (u.pl.name=s))=Z u:=h;rw[this];rfl
def Axg (w:WD):(zeroValue 331).run prog w=.ok (Q I) w:=by kernel_rfl
def Adc (h:mo Own w mb us wr) (s:ByteArray) (d:s.size<=maxLen):(Instr.lookup 328 (.map (Z mb)) (Y s) false).run prog wr=.ok (.pointer ((us.find? λu=>decide (u.pl.name=s)).map λu=>⟨u.b,0,I⟩)) wr:=by
 obtain⟨v,f,a,c⟩:=World.ownsMap.lookup h.map (string_keyed Dr) Aad (Axg wr) Axd (Wl Dr d);have e:=Akx P7 (us.map cq.key) (by have:=h.names;simpa[cq.key,Ip]using this) s;rw[Aky]at e;unfold B5 at e;rw[e]at c;rw[a]
 cases hf:us.find? (λu=>decide (u.pl.name=s))with
 | none=>
  rw[hf]at c;rw[Axf c];rfl
 | some u=>
  rw[hf]at c;rw[Akv c];rfl
def mo.add (L:N4 Own) (q:∀w B,Own w B (J I 0 0) []) (h:mo Own w mb us wr) (s:ByteArray) (v:us.find? (λu=>decide (u.pl.name=s))=I) {l:WD}
  (i:l.ownsMap (H:=Unit) prog 9 Jp mb (us.length+1) ((Gz (us.map cq.key)).put (B5 s) (Jo wr.heap.size)))
  (t:(wr.alloc (V #[G O 0,G O 0,G O 0,G O 0,J I 0 0] 335 (0,0))).grownBy l (Z mb)) :
  mo Own w mb (us++[⟨wr.heap.size,J I 0 0,⟨s,⟨0,0,0,0⟩,[]⟩⟩]) l:=by
 obtain⟨es,cl,j⟩:=h.qi;have h1:mo Own w mb us (wr.alloc (V #[G O 0,G O 0,G O 0,G O 0,J I 0 0] 335 (0,0))):=h.drop L Bn;have m:Mod (λb=>b=mb) (wr.alloc (V #[G O 0,G O 0,G O 0,G O 0,J I 0 0] 335 (0,0))) l:=Mod.grown t (λk f=>by injection f with f;exact f.symm)
 have g:∀(k:Nat) (c:Array VL) (T:TypeId) (fr:Nat×Nat),(wr.alloc (V #[G O 0,G O 0,G O 0,G O 0,J I 0 0] 335 (0,0))).heap[k]?=Z (V c T fr)->l.heap[k]?=Z (V c T fr):=λk c T fr f=>m.aw f λe=>by
  have:=Aj (V #[G O 0,G O 0,G O 0,G O 0,J I 0 0] 335 (0,0)) j;rw[e,this]at f;cases f
 refine⟨h1.low.trans (m.below h1.low.size (λk f=>by rw[f];exact h.mlt)),?_,h.mlt,λu d=>?_,λu d=>?_,?_,?_⟩
 .rw [Az,C2,It,Sb,Vu];exact i
 .rcases C4.1 d with d|d
  .exact ⟨g _ _ _ _ (h1.box u d).1,(h1.box u d).2⟩
  .simp at d;subst d;exact⟨g _ _ _ _ (Ah _ _),h.low.size⟩
 .rcases C4.1 d with d|d
  .refine L.mod (h1.left u d) m λk f e=>?_;obtain⟨c,o⟩:=L.aw (h1.left u d) k f;have:=Aj (V #[G O 0,G O 0,G O 0,G O 0,J I 0 0] 335 (0,0)) j;rw[e,this]at o;cases o
  .simp at d;subst d;exact q _ _
 .rw [C2,R6];refine⟨h.names,as9,λa r b n=>?_⟩;simp at n;subst n;obtain⟨u,d,rfl⟩:=A8.1 r;intro e;have:=R4.1 v u d;simp at this;exact this e
 .rw [Ue];refine⟨h.one,List.pairwise_singleton _ _,λx z y p=>?_⟩;simp at p;subst p;refine⟨λe=>?_,λk f=>by simp[Value.ownBlock]⟩;have:=Ab (h.box x z).1;have e':x.b=wr.heap.size:=e;omega
end
section
open Go.RowKit Go.Maps Go.Lib
def Tx {α:Type} (p:α->Bool) (l:List α):(l.findIdx? p=I/\l.find? p=I)\/∃k u,l.findIdx? p=Z k/\l[k]?=Z u/\l.find? p=Z u:=by
 induction l with
 | nil=>exact .inl ⟨rfl,rfl⟩
 | cons x r ih=>
  by_cases a:p x=true
  .exact .inr ⟨0,x,by simp[Aaq,a],rfl,by simp[a]⟩
  .rcases ih with⟨h1,b⟩|⟨k,u,h1,b,c⟩
   .exact .inl ⟨by simp[Aaq,a,h1],by simp[a,b]⟩
   .exact .inr ⟨k+1,u,by simp[Aaq,a,h1],by simpa using b,by simp[a,c]⟩
def Vx (us:List cq) (s:ByteArray):Gx (us.map cq.pl) s=us.findIdx? λu=>decide (u.pl.name=s):=by
 unfold Gx;rw[List.findIdx?_map];congr 1
 funext u
 simp[uq]
abbrev Tz (x:eo):Array VL:=#[Y x.user,G O x.has.a,G O x.has.b,G O x.has.c,G O x.has.d]
structure Qc (w:WD) (ao:Option Addr) (n:Nat) (hs:List eo):Prop where
 len:hs.length=n
 max:n<=1000000
 cell:∀i x,hs[i]?=Z x->∃b off,ao=Z ⟨b,off,I⟩/\b<w.heap.size/\∀j,j<5->w.cell? ⟨b,off+i*5+j,I⟩=(Tz x)[j]?
def Qc.low {w w':WD} {ao:Option Addr} {n:Nat} {f:List eo} (h:Qc w ao n f) (d:BW w.heap.size w w'):Qc w' ao n f:=
 ⟨h.len,h.max,λi x l=>by
  obtain⟨b,c,e,a,g⟩:=h.cell i x l
  exact⟨b,c,e,By a d.size,λj k=>(Ag d a).trans (g j k)⟩⟩
def Kw.low {w w':WD} {ao:Option Addr} {n:Nat} {ws:List dj} (h:Kw w ao n ws) (a:BW w.heap.size w w'):Kw w' ao n ws:=h.mod (Mod.ag (S:=λ_=>False) a) (λ_ _ _ c=>c)
structure ic (Own:WD->Nat->VL->List Int->Prop) (w:WD) (ao:Option Addr) (n c:Nat) (us:List cq) (wr:WD):Prop where
 us:mo Own w (w.heap.size+1) us wr
 pb:wr.heap[w.heap.size]?=Z (V #[J ao n c] 273 (0,0))
variable {Own:WD->Nat->VL->List Int->Prop} {w wr w':WD} {ao:Option Addr} {n c:Nat} {us:List cq}
def ic.drop (L:N4 Own) (h:ic Own w ao n c us wr) (a:BW wr.heap.size wr w'):ic Own w ao n c us w':=⟨h.us.drop L a,Ae a h.pb (Ab h.pb)⟩
def ic.set (L:N4 Own) (h:ic Own w ao n c us wr) {i:Nat} {u u':cq} (j:us[i]?=Z u) (l:Mod (λb=>b=u.b\/u.lv.ownBlock=Z b) wr w') (m:u'.b=u.b) (o:u'.pl.name=u.pl.name) (d:w'.heap[u.b]?=Z (V u'.cells 335 (0,0)))
  (e:Own w' w.heap.size u'.lv (C0 u'.pl.left)) (g:∀k,u'.lv.ownBlock=Z k->u.lv.ownBlock=Z k\/wr.heap.size<=k):ic Own w ao n c (us.set i u') w':=by
 refine⟨h.us.set L j l m o d e g,l.aw h.pb λc=>?_⟩;have f:=Ai j;rcases c with c|c
 .have:=(h.us.box u f).1;rw[<-c,h.pb]at this;injection this with this;injection this with _ this;exact absurd this ad9
 .obtain ⟨p,a⟩:=L.aw (h.us.left u f) _ c;rw[h.pb]at a;injection a with a;injection a with _ a;exact absurd a ad9
def Axm {us:List bu} {s:ByteArray} {i N:Nat} (h:us.length<=N/\∀u,u∈us->u.left.length<=N/\u.left≠[]/\∀p,p∈u.left->p<i):(Aw us s i).length<=N+1/\∀u,u∈Aw us s i->u.left.length<=N+1/\u.left≠[]/\∀p,p∈u.left->p<i+1:=by
 unfold Aw;split
 .refine ⟨by simp;omega,λu b=>?_⟩;rcases C4.1 b with b|b
  .have:=h.2 u b;exact⟨ao9,this.2.1,λp a=>by have:=this.2.2 p a;omega⟩
  .simp at b;subst b;exact⟨as9,as9,λp a=>by simp at a;omega⟩
 .refine ⟨by simp;omega,λu b=>?_⟩;rcases O0 b with b|⟨y,c,rfl⟩
  .have:=h.2 u b;exact⟨ao9,this.2.1,λp a=>by have:=this.2.2 p a;omega⟩
  .have:=h.2 y c;refine⟨by simp;omega,as9,λp a=>?_⟩;rcases C4.1 a with a|a
   .have:=this.2.2 p a;omega
   .simp at a;omega
def Vy (ws:List dj):∀j,(Cb ws j).length<=j/\∀u,u∈Cb ws j->u.left.length<=j/\u.left≠[]/\∀p,p∈u.left->p<j
 | 0=>⟨Nat.le_refl _,λu a=>by cases a⟩
 | j+1=>Axm (Vy ws j)
def Ak8 (l:List Nat) (i:Nat):C0 (l++[i])=C0 l++[(i:Int)]:=by simp[C0]
def ic.push (h:ic Al w ao n c us wr) {k:Nat} {u:cq} (d:us[k]?=Z u) (i:Nat) {w1 j:WD} (l:BW wr.heap.size wr w1) {f:VL} (r:w1.grownBy j u.lv.ownBlock) (v:Al j w.heap.size f (C0 u.pl.left++[(i:Int)])) (q:∀k,f.ownBlock=Z k->u.lv.ownBlock=Z k\/k=w1.heap.size) :
  ic Al w ao n c (us.set k ⟨u.b,f,⟨u.pl.name,u.pl.has,u.pl.left++[i]⟩⟩) (j.setCell ⟨u.b,4,I⟩ f):=by
 have o:=Ai d;obtain⟨a,x⟩:=h.us.box u o;have p:Mod (λb=>b=u.b\/u.lv.ownBlock=Z b) w1 j:=(Mod.grown r (S:=λb=>u.lv.ownBlock=Z b) (λk d=>d)).mono λ_ _ c=>.inr c;have t:=((Mod.ag l).trans (p.mono λ_ _ c=>c)).trans (Mod.setCell j u.b 4 f (.inl rfl))
 have s:u.lv.ownBlock≠Z u.b:=λe=>by
  obtain⟨z,g⟩:=Jq.aw (h.us.left u o) _ e;rw[a]at g;injection g with g;injection g with _ g;exact absurd g ad9
 have m:=(r.block _ (By (Ab a) l.size) (λe=>s e.symm)).trans (Ae l a (Ab a))
 have y:f.ownBlock≠Z u.b:=λe=>by
  rcases q _ e with c|c
  .exact s c
  .have:=Ab a;have:=l.size;omega
 refine h.set Jq d t rfl rfl ?_ ?_ λk d=>(q k d).imp id λe=>by have:=l.size;omega
 .have:=Am m 4 f;simpa using this
 .rw [Ak8];exact v.mod (Mod.setCell (S:=λb=>b=u.b) j u.b 4 f rfl) (λk d e=>y (by rw[d,e]))
def Axn (l:List (ByteArray×Nat)) (s:ByteArray):has (Gz l) (B5 s)=true↔s∈l.map Prod.fst:=by
 induction l using Qu with
 | h0=>simp[Gz,has]
 | h1 l x ih=>
  rw[Vu];by_cases e:s=x.1
  .subst e;rw[has_put_same (Akw l) (Abd _)];simp
  .rw [has_put_other (λc=>e (X4 c)),ih];simp[e]
def ic.iter (L:N4 Own) (h:ic Own w ao n c us wr) {r:Nat} {m:Option Nat} {a1:Nat} {a2:Array Nat} {a3:Nat} (d:wr.heap[r]?=Z (.mapIter m a1 a2 a3)) (s:w.heap.size<=r) (j:Mod (λb=>b=r) wr w'):ic Own w ao n c us w':=by
 have g:∀(k:Nat) (c:Array VL) (T:TypeId) (fr:Nat×Nat),wr.heap[k]?=Z (V c T fr)->w'.heap[k]?=Z (V c T fr):=λk c T fr f=>j.aw f λe=>by
  rw[e,d]at f;cases f
 obtain⟨o,x,q⟩:=h.us.qi;refine⟨⟨h.us.low.trans (j.below h.us.low.size (λk f=>by rw[f];exact s)),?_,h.us.mlt,λu i=>⟨g _ _ _ _ (h.us.box u i).1,(h.us.box u i).2⟩,λu i=>L.mod (h.us.left u i) j λk f e=>?_,h.us.names,h.us.one⟩,g _ _ _ _ h.pb⟩
 .obtain ⟨o,a,l,t⟩:=h.us.map;exact⟨o,a,j.aw l (λe=>by rw[e,d]at l;cases l),t⟩
 .obtain ⟨v,p⟩:=L.aw (h.us.left u i) k f;rw[e,d]at p;cases p
def Adg (a b:ByteArray):(B5 a).sameKey (B5 b)=true↔a=b:=by
 constructor
 .intro h;apply X4;simpa[B5,Lit.sameKey]using h
 .rintro rfl;simp[B5,Lit.sameKey]
def Axo {us:List cq} {k:Nat} {u u':cq} (b:us[k]?=Z u) (e:u'.key=u.key):(us.set k u').map cq.key=us.map cq.key:=by
 rw[Nh,e];apply Eg;intro j;rw[Ds];split
 .rename_i a;subst a;obtain⟨c,d⟩:=Aq.1 b;simp[c,d]
 .rfl
def Mod.grownBy {v:VL} {w w':WD} (h:Mod (λb=>v.ownBlock=Z b) w w'):w.grownBy w' v.ownBlock:=⟨h.os,h.tape,h.output,h.size,λk c a=>h.block k c (λe=>a e.symm)⟩
def Zh (ws:List dj) (u:bu):bu:=⟨u.name,u.has,Gw ws u.left⟩
def Adh {W w1:WD} (h:BW W.drew.heap.size W.drew w1):BW W.heap.size W w1:=⟨h.os,h.tape,h.output,h.size,h.block⟩
def ic.vr (L:N4 Own) (h:ic Own w ao n c us wr) {k:Nat} {u:cq} (j:us[k]?=Z u) {w1:WD} (p:BW wr.heap.size wr w1) (v:V4) :
  ic Own w ao n c (us.set k ⟨u.b,u.lv,⟨u.pl.name,v,u.pl.left⟩⟩) ((((w1.setCell ⟨u.b,0,I⟩ (G O v.a)).setCell ⟨u.b,1,I⟩ (G O v.b)).setCell ⟨u.b,2,I⟩ (G O v.c)).setCell ⟨u.b,3,I⟩ (G O v.d)):=by
 have g:=Ai j;obtain⟨f,q⟩:=h.us.box u g;have m:∀(W:WD) (o:Nat) (x:VL),Mod (λb=>b=u.b) W (W.setCell ⟨u.b,o,I⟩ x):=λW o x=>Mod.setCell W u.b o x rfl;have l:Mod (λb=>b=u.b) wr ((((w1.setCell ⟨u.b,0,I⟩ (G O v.a)).setCell ⟨u.b,1,I⟩ (G O v.b)).setCell ⟨u.b,2,I⟩ (G O v.c)).setCell ⟨u.b,3,I⟩ (G O v.d)):=((((Mod.ag p).trans (m _ _ _)).trans (m _ _ _)).trans (m _ _ _)).trans (m _ _ _)
 have r:u.lv.ownBlock≠Z u.b:=λe=>by
  obtain⟨s,i⟩:=L.aw (h.us.left u g) _ e;rw[f]at i;injection i with i;injection i with _ i;exact absurd i ad9
 refine h.set L j (l.mono λ_ _ e=>.inl e) rfl rfl ?_ ?_ λk j=>.inl j
 .have:=Am (Am (Am (Am (Ae p f (Ab f)) 0 (G O v.a)) 1 (G O v.b)) 2 (G O v.c)) 3 (G O v.d);simpa using this
 .exact L.mod (h.us.left u g) l (λk j e=>r (by rw[j,e]))
def Axp (ho:Option Addr) (m hc:Nat) (hs:List eo) (ws:List dj) (hh:Qc w ho m hs) (hw:Kw w ao n ws) (hn:n<=20) (bO:∀x,x∈ws->x.user.size<=maxLen) (bA:∀x,x∈hs->x.user.size<=maxLen) (h1:Vr ws) :
  CS prog 248 #[J ho m hc,J ao n c] w λe w'=>∃us,e=K (.map (Z (w.heap.size+1)))/\ic Al w ao n c us w'/\us.map cq.pl=C9 hs ws:=by
 have cf:=@run_makeMap prog;obtain⟨W0,bv⟩:=Ex ((w.alloc (V #[J ao n c] 273 (0,0))).alloc (.map #[] 0));have a6:ic Al w ao n c [] W0:=by rw[bv];refine⟨⟨Bn.alloc as9 _,?_,ao9,λu hu=>(by cases hu),λu hu=>(by cases hu),List.nodup_nil,List.Pairwise.nil⟩,Aj _ (Ah _ _)⟩;have:=Aan (H:=Unit) (w.alloc (V #[J ao n c] 273 (0,0))) prog 9 Jp;simpa[Gz]using this
 have a8:=hw.len;replace⟨a6,hh,hw,bO,bA,h1,a8⟩:=H7 a6 hh hw bO bA h1 a8;go_enter func248,ntmps248;go_upto_region 2 with fail;rw[<-bv];clear bv cf;have b0:=Bk a6.pb 0 (J ao n c) rfl;go_wp2_with fail;clear b0;go_loopw [6,7,8,17] (λ_ _ _ iv wr=>∃(i:Nat) (us:List cq),iv=G O i/\i<=n/\Hid (ic Al w ao n c us wr)/\Hid (us.map cq.pl=Cb ws i)) (λ_ _ _ iv _=>n-(intOf iv).toNat)
 case atStart=>exact⟨0,[],rfl,As _,a6,rfl⟩
 case round=>
  obtain⟨i,us,rfl,cA,hU,ap⟩:=hrel;by_cases cv:i<n
  .have cd:(i:Int)<n:=ao9;have cy:(0:Int)<=(i:Int):=ao9;obtain⟨⟨b6,f,b7,⟨na,nb,nc,nd⟩⟩,hx⟩:=Ge ws i (by have:=a8.out;omega);obtain⟨b,av,rfl,ba,al⟩:=(hw.low hU.us.low).cell i _ hx;have z0:wr.cell? ⟨b,av+i*7,I⟩=Z (G O b6):=al 0 ao9;have z1:wr.cell? ⟨b,av+i*7+1,I⟩=Z (Y f):=al 1 ao9;have z2:wr.cell? ⟨b,av+i*7+2,I⟩=Z (G O b7):=al 2 ao9;have z3:wr.cell? ⟨b,av+i*7+3,I⟩=Z (G O na):=al 3 ao9;have z4:wr.cell? ⟨b,av+i*7+4,I⟩=Z (G O nb):=al 4 ao9;have z5:wr.cell? ⟨b,av+i*7+5,I⟩=Z (G O nc):=al 5 ao9;have z6:wr.cell? ⟨b,av+i*7+6,I⟩=Z (G O nd):=al 6 ao9;obtain⟨W1,aD⟩:=Ex (wr.alloc (V #[G O b6,Y f,G O b7,G O na,G O nb,G O nc,G O nd] 275 (0,0)));have af:BW wr.heap.size wr W1:=(by rw[aD];exact Bn);have d:=hU.drop Jq af;have y1:W1.cell? ⟨wr.heap.size,1,I⟩=Z (Y f):=(by rw[aD];exact Aa (Ah _ _) 1);have aT:=bO _ (Ai hx);have aO:=Adc d.us f aT;have aP:Cb ws (i+1)=Aw (Cb ws i) f i:=(by show Aw (Cb ws i) (A7 ws i).user i=_;unfold A7;rw[G4 hx]);replace⟨hx,al,af,d,aT,aP,hU⟩:=H7 hx al af d aT aP hU;go_upto_region 5 with fail;rcases Tx (λu:cq=>decide (u.pl.name=f)) us with⟨ac,aK⟩|⟨k,u,ac,t,aE⟩
   .rw [aK]at aO;have bW:=hn;have aI:Aw (Cb ws i) f i=Cb ws i++[⟨f,⟨0,0,0,0⟩,[i]⟩]:=by rw[<-ap.out];unfold Aw;rw[Vx,ac]
    have be:us.length<=20:=by
     have h9:us.length=(Cb ws i).length:=(by rw[<-ap.out,Ar]);have:=(Vy ws i).1;omega
    have a3:BW W1.heap.size W1 (W1.alloc (V #[G O 0,G O 0,G O 0,G O 0,J I 0 0] 335 (0,0))):=Bn;have aB:=(d.us.drop Jq a3).map;have bc:us.length<maxLen:=(by have:maxLen=9223372036854775807:=rfl;omega);have aA:keyOf prog 9 (Y f)=Z (B5 f):=Wl Dr aT.out;have y2:=(Ag a3 (by rw[aD];simp)).trans y1;replace⟨ac,aK,aI,be,a3,aB,bc,aA⟩:=H8 ac aK aI be a3 aB bc aA;rw[<-aD];clear aD z0 z1 z2 z3 z4 z5 z6;go_upto_region 9 with(at_mapUpdate;refine Aah _ rfl _ _ _ 328 rfl 9 331 (string_keyed Dr) Aad _ (w.heap.size+1) us.length _ rfl aB.out bc.out _ _ (B5 f) rfl rfl aA.out _ [] (Axc _) ?_;intro w5 a0 aF;replace⟨a0,aF⟩:=H2 a0 aF);simp only[Act.put];have hA:=d.us.add Jq (λw B=>Al.nil w B) f aK.out a0.out aF.out;have aG:Hid (ic Al w (Z ⟨b,av,I⟩) n c (us++[⟨W1.heap.size,J I 0 0,⟨f,⟨0,0,0,0⟩,[]⟩⟩]) w5):=(by refine⟨hA,?_⟩;have bI:=d.pb;refine(aF.block _ (By (Ab bI) a3.size) (λe=>?_)).trans (Ae a3.out bI (Ab bI));injection e with e;omega);have aY:(us++[(⟨W1.heap.size,J I 0 0,⟨f,⟨0,0,0,0⟩,[]⟩⟩:cq)])[us.length]?=Z ⟨W1.heap.size,J I 0 0,⟨f,⟨0,0,0,0⟩,[]⟩⟩:=as9;have x4:w5.cell? ⟨W1.heap.size,4,I⟩=Z (J I 0 0:VL):=Aa (aG.us.box _ (Ai aY)).1 4;have an:BW w5.heap.size w5 (w5.alloc (V #[G O (i:Int)] 3 (0,0))):=Bn;have az:Al (w5.alloc (V #[G O (i:Int)] 3 (0,0))) w.heap.size (J I 0 0:VL) (C0 ([]:List Nat)):=(aG.us.left _ (Ai aY)).mod (Mod.ag (S:=λ_=>False) an) (λ_ _ c=>c);have cw:(w5.alloc (V #[G O (i:Int)] 3 (0,0))).cell? ⟨w5.heap.size,0,I⟩=Z (G O (i:Int)):=Aa (Ah _ _) 0;have aV:w.heap.size<=(w5.alloc (V #[G O (i:Int)] 3 (0,0))).heap.size:=by have:=aG.us.low.size;have:=an.size;omega
    have aZ:∀w7,(w5.alloc (V #[G O (i:Int)] 3 (0,0))).grownBy w7 ((J I 0 0:VL)).ownBlock->w7.cell? ⟨W1.heap.size,4,I⟩=Z (J I 0 0:VL)/\w7.frozen? ⟨W1.heap.size,4,I⟩=false:=λw7 hg=>by
     have aM:=(aG.us.box _ (Ai aY)).1
     have a4:((J I 0 0:VL)).ownBlock≠Z (W1.heap.size):=λe=>by
      obtain⟨c',hc⟩:=Jq.aw (aG.us.left _ (Ai aY)) _ e;rw[aM]at hc;injection hc with hc;injection hc with _ hc;exact absurd hc ad9
     have hb:=(hg.block (W1.heap.size) (By (Ab aM) an.size) (λe=>a4 e.symm)).trans (an.block _ (Ab aM));exact⟨(Bs (a:=⟨W1.heap.size,4,I⟩) hb).trans x4,(O8 (a:=⟨W1.heap.size,4,I⟩) hb).trans (Af aM 4)⟩
    replace⟨an,az,cw,aV,aZ⟩:=H5 an az cw aV aZ;clear y1 y2 hA;replace aY:=Hh aY;go_wp2_with (at_builtin;refine M1 rfl _ _ rfl w.heap.size 0 _ rfl az.out rfl ⟨w5.heap.size,0,I⟩ 1 rfl (i:Int) cw.out ao9 aV.out ?_;intro g7 a5 w7 h7 aN aW;obtain⟨k7,f7⟩:=aZ w7 aN;replace⟨h7,aN,aW⟩:=H3 h7 aN aW)
    have aH:=aG.push aY.out i an.out aN.out h7.out (λk t=>by
     simp[Value.ownBlock]at t;subst t;rcases aW.out with e|e
     .exact .inl e
     .exact .inr e)
    have am:Hid (((us++[(⟨W1.heap.size,J I 0 0,⟨f,⟨0,0,0,0⟩,[]⟩⟩:cq)]).set us.length ⟨W1.heap.size,J (Z ⟨g7,0,I⟩) (0+1) a5,⟨f,⟨0,0,0,0⟩,[]++[i]⟩⟩).map cq.pl=Cb ws (i+1)):=Hh (by
     rw[aP.out,aI.out,<-ap.out]
     simp)
    replace aH:=Hh aH;go_roundw
    case rel=>exact⟨i+1,_,by go_num,ao9,aH,am⟩
    case measure=>simp[intOf];omega
   .rw [aE]at aO;obtain⟨ub,aJ,⟨g,aL,ad⟩⟩:=u;have aI:Aw (Cb ws i) f i=(us.set k ⟨ub,aJ,⟨g,aL,ad++[i]⟩⟩).map cq.pl:=(by rw[<-ap.out];unfold Aw;rw[Vx,ac];simp only;rw[Rr _ _ _ (x:=⟨g,aL,ad⟩) (by simp[t]),Nh]);have bl:ad.length<=i:=((Vy ws i).2 ⟨g,aL,ad⟩ (by rw[<-ap.out];exact Kg (Ai t))).1;obtain⟨so,L,cc,e,hL⟩:=(d.us.left _ (Ai t)).len;have e':aJ=J so L cc:=e;subst e';have bg:(C0 ad).length=L:=hL.symm;have bs:L<=1000000000:=(by rw[<-bg,P6];omega);rw[<-aD];clear aD z0 z1 z2 z3 z4 z5 z6;have x4:W1.cell? ⟨ub,4,I⟩=Z (Value.slice so L cc):=Aa (d.us.box _ (Ai t)).1 4;have an:BW W1.heap.size W1 (W1.alloc (V #[G O (i:Int)] 3 (0,0))):=Bn;have az:Al (W1.alloc (V #[G O (i:Int)] 3 (0,0))) w.heap.size (Value.slice so L cc) (C0 ad):=(d.us.left _ (Ai t)).mod (Mod.ag (S:=λ_=>False) an) (λ_ _ c=>c);have cw:(W1.alloc (V #[G O (i:Int)] 3 (0,0))).cell? ⟨W1.heap.size,0,I⟩=Z (G O (i:Int)):=Aa (Ah _ _) 0;have aV:w.heap.size<=(W1.alloc (V #[G O (i:Int)] 3 (0,0))).heap.size:=by have:=d.us.low.size;have:=an.size;omega
    have aZ:∀w7,(W1.alloc (V #[G O (i:Int)] 3 (0,0))).grownBy w7 ((Value.slice so L cc)).ownBlock->w7.cell? ⟨ub,4,I⟩=Z (Value.slice so L cc)/\w7.frozen? ⟨ub,4,I⟩=false:=λw7 hg=>by
     have aM:=(d.us.box _ (Ai t)).1
     have a4:((Value.slice so L cc)).ownBlock≠Z (ub):=λe=>by
      obtain⟨c',hc⟩:=Jq.aw (d.us.left _ (Ai t)) _ e;rw[aM]at hc;injection hc with hc;injection hc with _ hc;exact absurd hc ad9
     have hb:=(hg.block (ub) (By (Ab aM) an.size) (λe=>a4 e.symm)).trans (an.block _ (Ab aM));exact⟨(Bs (a:=⟨ub,4,I⟩) hb).trans x4,(O8 (a:=⟨ub,4,I⟩) hb).trans (Af aM 4)⟩
    replace⟨an,az,cw,aV,aZ,ac,aE,t⟩:=H8 an az cw aV aZ ac aE t;replace⟨aI,bl,e,hL,bg,bs⟩:=H6 aI bl e hL bg bs;go_wp2_with (at_builtin;refine M1 rfl _ _ rfl w.heap.size L _ rfl az.out bg.out ⟨W1.heap.size,0,I⟩ 1 rfl (i:Int) cw.out bs.out aV.out ?_;intro g7 a5 w7 h7 aN aW;obtain⟨k7,f7⟩:=aZ w7 aN;replace⟨h7,aN,aW⟩:=H3 h7 aN aW)
    have aH:=d.push t.out i an.out aN.out h7.out (λk t=>by
     simp[Value.ownBlock]at t;subst t;rcases aW.out with e|e
     .exact .inl e
     .exact .inr e)
    have am:Hid ((us.set k ⟨ub,J (Z ⟨g7,0,I⟩) (L+1) a5,⟨g,aL,ad++[i]⟩⟩).map cq.pl=Cb ws (i+1)):=Hh (by
     rw[aP.out,aI.out]
     simp)
    replace aH:=Hh aH;go_roundw
    case rel=>exact⟨i+1,_,by go_num,ao9,aH,am⟩
    case measure=>simp[intOf];omega
  .have cd:¬(i:Int)<n:=ao9;have bB:i=n:=ao9;have aG:=hU;have a1:Hid (us.map cq.pl=(hs.take 0).foldl Cw (Cb ws n)):=(by rw[ap.out,bB];rfl);clear hU ap a6;replace bB:=Hh bB;go_wp2_with fail;go_loopw [10,11,47] (λ_ _ jv wr=>∃(j:Nat) (us:List cq),jv=G O j/\j<=m/\Hid (ic Al w ao n c us wr)/\Hid (us.map cq.pl=(hs.take j).foldl Cw (Cb ws n))) (λ_ _ jv _=>m-(intOf jv).toNat)
   case atStart=>exact⟨0,us,rfl,As _,aG,a1⟩
   case round=>
    obtain⟨j,us,rfl,cC,hU,ap⟩:=hrel;have cD:=hh.max;by_cases hd:j<m
    .have ce:(j:Int)<m:=ao9;have cB:(0:Int)<=(j:Int):=ao9;obtain⟨⟨f,⟨na,nb,nc,nd⟩⟩,hx⟩:=Ge hs j (by have:=hh.len;omega);obtain⟨b,av,rfl,ba,al⟩:=(hh.low hU.us.low).cell j _ hx;have z0:wr.cell? ⟨b,av+j*5,I⟩=Z (Y f):=al 0 ao9;have z1:wr.cell? ⟨b,av+j*5+1,I⟩=Z (G O na):=al 1 ao9;have z2:wr.cell? ⟨b,av+j*5+2,I⟩=Z (G O nb):=al 2 ao9;have z3:wr.cell? ⟨b,av+j*5+3,I⟩=Z (G O nc):=al 3 ao9;have z4:wr.cell? ⟨b,av+j*5+4,I⟩=Z (G O nd):=al 4 ao9;obtain⟨W1,aD⟩:=Ex (wr.alloc (V #[Y f,G O na,G O nb,G O nc,G O nd] 259 (0,0)));have af:BW wr.heap.size wr W1:=(by rw[aD];exact Bn);have d:=hU.drop Jq af;have bQ:W1.heap[wr.heap.size]?=Z (V #[Y f,G O na,G O nb,G O nc,G O nd] 259 (0,0)):=(by rw[aD];exact Ah _ _);obtain⟨y0,y1,y2,y3,y4⟩:=C5 bQ;(try dsimp only at y0 y1 y2 y3 y4);have aT:=bA _ (Ai hx);have aO:=Adc d.us f aT;have aP:(hs.take (j+1)).foldl Cw (Cb ws n)=Cw (us.map cq.pl) ⟨f,⟨na,nb,nc,nd⟩⟩:=(by rw[L7,hx,L8,<-ap.out];rfl);replace⟨hx,al,af,d,aT,aP,hU,bQ⟩:=H8 hx al af d aT aP hU bQ;go_upto_region 14 with fail;rw[<-aD];clear aD z0 z1 z2 z3 z4;rcases Tx (λu:cq=>decide (u.pl.name=f)) us with⟨ac,aK⟩|⟨k,u,ac,t,aE⟩
     .rw [aK]at aO;have am:Hid (us.map cq.pl=(hs.take (j+1)).foldl Cw (Cb ws n)):=(by rw[aP.out];unfold Cw;rw[Vx,ac];rfl);clear y1 y2 y3 y4;replace⟨ac,aK⟩:=H2 ac aK;go_wp2_with fail;go_roundw
      case rel=>exact⟨j+1,_,by go_num,ao9,d,am⟩
      case measure=>simp[intOf];omega
     .rw [aE]at aO;obtain⟨ub,aJ,⟨g,⟨ua,bf,uc,ud⟩,ad⟩⟩:=u;have aU:=(d.us.box _ (Ai t)).1;have x0:=Bk aU 0 (G O ua) rfl;have x1:=Bk aU 1 (G O bf) rfl;have x2:=Bk aU 2 (G O uc) rfl;have x3:=Bk aU 3 (G O ud) rfl;have fu:=Af aU;have cE:=Ab aU;obtain⟨⟨pa,bR,pc,pd⟩,bi⟩:∃p,p=Ko ⟨ua,bf,uc,ud⟩ ⟨na,nb,nc,nd⟩:=⟨_,rfl⟩
      have kp:∀W,CS prog 252 #[.agg #[G O ua,G O bf,G O uc,G O ud],.agg #[G O na,G O nb,G O nc,G O nd]] W λe w'=>e=K (.agg #[G O pa,G O bR,G O pc,G O pd])/\BW W.heap.size W w':=λW=>by
       have:=Ak3 ⟨ua,bf,uc,ud⟩ ⟨na,nb,nc,nd⟩ W;rw[<-bi]at this;exact this
      have am:Hid ((us.set k ⟨ub,aJ,⟨g,⟨pa,bR,pc,pd⟩,ad⟩⟩).map cq.pl=(hs.take (j+1)).foldl Cw (Cb ws n)):=(by rw[aP.out];unfold Cw;rw[Vx,ac];simp only;rw[Rr _ _ _ (x:=⟨g,⟨ua,bf,uc,ud⟩,ad⟩) (by simp[t]),Nh,bi];rfl);replace⟨ac,aE,t,aU,kp,bi⟩:=H6 ac aE t aU kp bi;go_upto_region 16 with fail;go_region_with (go_at_call 252;((with_reducible refine(kp.out _).mono ?_);rintro e w1 ⟨rfl,af⟩;have x0:=(Ag af (by first|omega|(simp;omega))).trans x0;have x1:=(Ag af (by first|omega|(simp;omega))).trans x1;have x2:=(Ag af (by first|omega|(simp;omega))).trans x2;have x3:=(Ag af (by first|omega|(simp;omega))).trans x3;have fu:=λo=>(af.frozen (p:=⟨ub,o,I⟩) (by first|(show ub<_;omega)|(simp;omega))).trans (fu o);replace af:=Hh af))
      all_goals
       go_wp2_with fail
       have cb:BW W1.heap.size W1 w1:=by first|exact af.out|exact Adh af.out
       have aH:=d.vr Jq t.out cb ⟨pa,bR,pc,pd⟩;replace aH:=Hh aH;go_roundw
       case rel=>exact⟨j+1,_,by go_num,ao9,aH,am⟩
       case measure=>simp[intOf];omega
    .have ce:¬(j:Int)<m:=ao9;obtain⟨fy,aR⟩:=Ex (hs.foldl Cw (Cb ws n));have am:us.map cq.pl=fy:=by rw[ap.out,aR,Cr (by have:=hh.len;omega)]
     have a7:C9 hs ws=fy.map λu=>⟨u.name,u.has,Gw ws u.left⟩:=by unfold C9;rw[a8.out,aR]
     have aB:=hU.us.map;obtain⟨D0,hD⟩:=Ex (Gz (us.map cq.key));rw[<-hD]at aB;clear aG a1 ap;replace⟨am,a7,aR,aB,hD⟩:=H5 am a7 aR aB hD
     go_wp2_with (first
      | (at_range;refine wpList_range_own _ rfl _ 328 rfl 9 331 (string_keyed Dr) Aad _ (w.heap.size+1) us.length _ rfl aB.out ?_;intro w0 aS aQ bM;replace⟨aS,aQ,bM⟩:=H3 aS aQ bM)
      | fail)
     obtain⟨rI,bJ⟩:=Ex (wr.heap.size);rw[<-bJ]at aS ⊢;have ca:Hid (ic Al w ao n c us w0):=(by have hb:BW wr.heap.size wr w0:=⟨aQ.os,aQ.tape,aQ.output,aQ.size,λk t=>aQ.block k t as9⟩;exact hU.drop Jq hb);have bL:w.heap.size<=rI:=by have:=hU.us.low.size;omega
     have bX:Hid (us.map cq.pl=fy.map λu=>if has D0 (B5 u.name)=true then u else Zh ws u):=Hh (by
      rw[<-am.out];simp only[Dg];apply Uf;intro u hu
      have:has D0 (B5 u.pl.name)=true:=by rw[hD.out,Axn];simp only[Dg,A8];exact⟨u,hu,rfl⟩
      simp[this])
     have bT:Hid (∀u,u∈fy->u.left.length<=n/\u.left≠[]/\∀p,p∈u.left->p<n):=Hh (by
      rw[aR.out];have h0:=(Vy ws n).2
      have b5:∀(l:List bu) (h:eo),(∀u,u∈l->u.left.length<=n/\u.left≠[]/\∀p,p∈u.left->p<n)->∀u,u∈Cw l h->u.left.length<=n/\u.left≠[]/\∀p,p∈u.left->p<n:=λl h hl u hu=>by
       unfold Cw at hu;split at hu
       .exact hl u hu
       .rcases O0 hu with hu|⟨y,hy,rfl⟩
        .exact hl u hu
        .exact hl y hy
      have b4:∀(hs:List eo) (l:List bu),(∀u,u∈l->u.left.length<=n/\u.left≠[]/\∀p,p∈u.left->p<n)->∀u,u∈hs.foldl Cw l->u.left.length<=n/\u.left≠[]/\∀p,p∈u.left->p<n:=λhs=>by
       induction hs with
       | nil=>intro l hl;exact hl
       | cons h r ih=>intro l hl;exact ih _ (b5 l h hl)
      exact b4 hs _ h0)
     have bD:=hD;obtain⟨N,hN⟩:=Ex (us.length);rw[<-hN]at aS;clear hU aB aQ bM;replace⟨bJ,bL,hN⟩:=H3 bJ bL hN;go_loopw [13] (λ_ wr=>∃(left:Lit->Bool) (jl:Nat) (us:List cq),Hid (wr.ranges prog 9 Jp (w.heap.size+1) rI N D0 left jl)/\Hid (ic Al w ao n c us wr)/\Hid (D0=Gz (us.map cq.key))/\Hid (us.map cq.pl=fy.map λu=>if left (B5 u.name)=true then u else Zh ws u)) (λ_ wr=>wr.rangeLeft (w.heap.size+1) rI)
     case atStart=>exact⟨_,_,us,aS,ca,bD,bX⟩
     case round=>
      obtain⟨left,jl,us,bK,hU,bS,ap⟩:=hrel
      go_wp2_with (first
       | (at_next;refine wpList_next_ranges _ rfl _ rfl 9 (string_keyed Dr) Jp Value.string id (λb4 kl aA=>by obtain⟨s,e,_⟩:=WideMaps.string_of_keyOf Dr aA;exact⟨s,e⟩) (λv y _=>⟨v,rfl⟩) (w.heap.size+1) rI N D0 left jl rfl bK.out ?_ ?_)
       | fail)
      .intro _ bF;have aX:us.map cq.pl=C9 hs ws:=(by rw[a7.out,ap.out];apply Uf;intro u _;rw[bF];rfl);replace⟨bF,aX⟩:=H2 bF aX;go_wp2;go_ret;exact⟨us,rfl,hU.out,aX.out⟩
      .intro x v kl y1 y2 w1 bk aA aO hv bw a2 ba bx bY cx;obtain⟨s',e1,e2,bZ⟩:=WideMaps.string_of_keyOf Dr aA;injection e1 with e1;subst e1;have e3:kl=B5 x:=e2;subst e3;clear e2;have bd:((us.map cq.key).map Prod.fst).Nodup:=by have:=hU.us.names;simpa[cq.key,Ip]using this
       have aC:∀zd,(match Tt (us.map cq.key) x with|some b=>Jo b|none=>zd)=y1:=λzd=>by
        rw[<-bw zd,bS.out,Akx zd _ bd]
        try cases Tt (us.map cq.key) x<;>rfl
       rw[Aky]at aC;rcases Tx (λu:cq=>decide (u.pl.name=x)) us with⟨ac,aK⟩|⟨k,u,ac,t,aE⟩
       .exfalso;rw[aK]at aC;exact Adb (a:=0) ((aC (Jo 0)).trans (aC P7).symm)
       .rw [aE]at aC;have hy:=aC P7;simp only[Kj]at hy;have ck:=Akv (by rw[hv,hy]);subst ck;obtain⟨ub,aJ,⟨g,aL,ad⟩⟩:=u;have bG:g=x:=(by have:=Uk aE;simpa using this);subst bG;obtain⟨ct,cp,cH,cF,cn,_,_,_,_,bC,_⟩:=bK.out;have d:=hU.iter Jq bC bL.out (Mod.grown bx (S:=λb=>b=rI) (λk t=>by injection t with t;exact t.symm))
        have ci:∃q,fy[k]?=Z q/\(⟨g,aL,ad⟩:bu)=q:=by
         have:=Cd (λl=>l[k]?) ap.out;simp only[Bg,t,Kj]at this
         cases hq:fy[k]? with
         | none=>rw[hq]at this;cases this
         | some q=>
          rw[hq]at this;simp only[Kj,Uh]at this;refine⟨q,rfl,?_⟩;by_cases hl:left (B5 q.name)=true
          .rw [Ad hl]at this;exact this
          .exfalso;rw[Ac hl]at this;have cg:g=q.name:=Cd bu.name this;rw[<-cg]at hl;exact hl aO
        obtain⟨q,hq,cj⟩:=ci;subst cj;obtain⟨b1,b2,b3⟩:=bT _ (Ai hq);simp only at b1 b2 b3;have bP:=hw.low d.us.low
        have bN:=Aw9 (d.us.left _ (Ai t)) b2 (by show ad.length<=20;omega) ao n c w.heap.size ws bP d.pb b3 h1.out (λb av e c2=>by
         have h0:0<n:=by
          cases ad with
          | nil=>exact absurd rfl b2
          | cons p r=>have:=b3 p (D6 ..);omega
         obtain⟨b',cm,e',cl,_⟩:=hw.cell 0 _ (A4 (by have:=a8.out;omega));rw[e]at e';injection e' with e';injection e' with e';have:=(d.us.left _ (Ai t)).lt _ c2
         omega)
        have x4:w1.cell? ⟨ub,4,I⟩=Z aJ:=Aa (d.us.box _ (Ai t)).1 4;replace⟨aA,aO,hv,bw,a2,ba,bx,bY⟩:=H8 aA aO hv bw a2 ba bx bY;replace⟨bZ,bd,aC,ac,t,aE,hy,bC⟩:=H8 bZ bd aC ac t aE hy bC;replace⟨d,hq,b1,b2,b3,bP,bN⟩:=H7 d hq b1 b2 b3 bP bN;go_wp2_with (go_at_call 288;(with_reducible refine bN.out.mono ?_);rintro e w2 ⟨rfl,bH,bb⟩;replace⟨bH,bb⟩:=H2 bH bb);have bo:=d.us.box _ (Ai t.out);have a9:=d.us.left _ (Ai t.out)
        have nb:aJ.ownBlock≠Z ub:=λe=>by
         obtain⟨c',hc⟩:=Jq.aw a9 _ e;rw[bo.1]at hc;injection hc with hc;injection hc with _ hc;exact absurd hc ad9
        have bn:Hid (w2.ranges prog 9 Jp (w.heap.size+1) rI N D0 (λz=>left z && !z.sameKey (B5 g)) bk):=by
         refine a2.kept bb.grownBy (λe=>?_) (λe=>?_)
         .obtain ⟨c',hc⟩:=Jq.aw a9 _ e.symm;obtain⟨b8,cs,bV⟩:=d.us.qi;rw[bV]at hc;cases hc
         .obtain ⟨c',hc⟩:=Jq.aw a9 _ e.symm;obtain⟨b8,cr,cI,cG,co,_,_,_,_,bU,_⟩:=a2.out;rw[bU]at hc;cases hc
        have aG:Hid (ic Al w ao n c (us.set k ⟨ub,aJ,⟨g,aL,Gw ws ad⟩⟩) w2):=d.set Jq t.out (bb.mono λ_ _ e=>.inr e) rfl rfl (bb.aw bo.1 nb) bH.out (λk t=>.inl t);have b9:Hid (D0=Gz ((us.set k ⟨ub,aJ,⟨g,aL,Gw ws ad⟩⟩).map cq.key)):=Hh (by rw[Axo (u':=⟨ub,aJ,⟨g,aL,Gw ws ad⟩⟩) t.out rfl];exact bS.out)
        have a1:Hid ((us.set k ⟨ub,aJ,⟨g,aL,Gw ws ad⟩⟩).map cq.pl=fy.map λu=>if (left (B5 u.name) && !(B5 u.name).sameKey (B5 g))=true then u else Zh ws u):=Hh (by
         apply Eg;intro j;have hj:=Cd (λl=>l[j]?) ap.out;simp only[Bg]at hj ⊢;rw[Ds];by_cases bE:k=j
         .subst bE;rw[Ad rfl,Ad (Aq.1 t.out).1,hq.out];have:(B5 g).sameKey (B5 g)=true:=(Adg g g).2 rfl;simp[this,Zh]
         .rw [Ac bE,hj]
          cases hqj:fy[j]? with
          | none=>rfl
          | some q2=>
           simp only[Kj]
           have a4:¬(B5 q2.name).sameKey (B5 g)=true:=λe=>by
            have e2:=(Adg _ _).1 e;rw[hqj]at hj
            cases huj:us[j]? with
            | none=>rw[huj]at hj;cases hj
            | some u2=>
             rw[huj]at hj;simp only[Kj,Uh]at hj
             have bW:u2.pl.name=q2.name:=by rw[hj];split<;>rfl
             have ch:=hU.us.names;have h6:(us.map λu=>u.pl.name)[k]?=Z g:=(by simp[t.out]);have h7:(us.map λu=>u.pl.name)[j]?=Z g:=(by simp[huj,bW,e2]);obtain⟨i6,e6⟩:=Aq.1 h6;obtain⟨i7,e7⟩:=Aq.1 h7;exact bE ((List.getElem_inj ch).1 (e6.trans e7.symm))
           rw[Aax]at a4;rw[a4]
           simp)
        refine⟨⟨_,bk,_,bn,aG,b9,a1⟩,?_⟩;rw[bn.left_eq,bK.left_eq];exact ba.out
end
section
open Go.RowKit Go.Maps Go.Sort Go.Shelf
def A0d (m:Nat):AnyZ.SortsIn prog Tryz.iu Fence.wide m:=
 ⟨λd c cap ss W e a b=>K6.2 (AnyM.slices_Sort_string Tryz.vi d c cap ss W e a b), λp cap W=>K6.2 (AnyM.slices_Sort_string_none Tryz.vi p cap W)⟩
def A0e {H:Type} (b nn:Nat) (d:DataW H) (R:VL->Option (DataW H×List MemPlace)) (w:WD) (c:w.ownsMap prog 9 R b nn d) (g:Maps.size d<=maxLen) (a:Maps.size d*16<=140737488355328) :
  CS prog 249 #[.map (Z b)] w λe w'=>∃(v:VL) (ss:List (List UInt8)),e=K v/\ss.Perm (strKeys d) /\
   w'.ownsRow w.heap.size 9 1 v ss.length ((ss.mergeSort (λx y=>decide (x<=y))).map encStr)/\(v=J I 0 0↔ss=[])/\BW w.heap.size w w':=by
 refine(K6 (n:=6)).1 ?_;have l:=c.lt
 have i:SeqGives Fence.wide 2 prog 324 #[Q (Z ⟨w.heap.size,0,I⟩)] encStr (λss=>ss.Perm (strKeys d)) (Maps.size d) (w.alloc (V #[.map (Z b)] 328)):=
  AnyZ.keys_gives (ρ:=Tryz.j7) { Tryz.uu with } Fence.wide _ trivial rfl ao9 w.heap.size b nn d _ as9 as9 (by
   obtain⟨r,f,k,o,hs,s⟩:=c
   exact⟨r,f,(Gm _ _ b l).trans k,o,hs,s⟩)
 have q:∀j W,CallsIn Fence.wide 5 prog 292 #[.map j] W λe w'=>e=K (.func (.func 324) #[] #[Q (Z ⟨W.heap.size,0,I⟩)])/\w'=W.alloc (V #[.map j] 328):=λj W=>AnyZ.keys_in Tryz.uu Fence.wide 5 trivial rfl j W;have m:=AnyZ.sorted_in Tryz.uh Fence.wide 5 trivial trivial trivial trivial rfl ao9 (A0d _) (enters_of func323 (by kernel_rfl) rfl) 324 #[Q (Z ⟨w.heap.size,0,I⟩)] trivial (enters_of func324 (by kernel_rfl) rfl) _ _ g a _ i;change CallsIn _ _ prog 291 _ _ _ at m;have u:Fence.wide.fn 292:=trivial;have z:Fence.wide.fn 291:=trivial;refine callsIn_of_wp func249 rfl trivial ?_ rfl;simp only[ntmps249,Ui,D7,Ir,Nat.reduceAdd,Nat.reduceSub,Aai,Aaj,Aar,Aal,Ph,Pf]
 gi_wp2_with (first
  | (gi_at_call 292;refine(q _ _).mono ?_;rintro e w' ⟨rfl,rfl⟩)
  | (gi_at_call 291;refine m.mono ?_;rintro e w' ⟨v,ss,rfl,t,p,h,k⟩))
 go_ret;exact⟨v,ss,rfl,t,ownsRow_base_a p as9,h,((Below.refl _ w).alloc Ln _).trans (k.mono as9)⟩
