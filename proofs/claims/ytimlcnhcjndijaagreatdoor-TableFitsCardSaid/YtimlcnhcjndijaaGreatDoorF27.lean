/- Parts of a proof. No condition. -/
import Derived.Test.YtimlcnhcjndijaaGreatDoorF16
import Derived.Test.YtimlcnhcjndijaaGreatDoorF26
set_option linter.all false
set_option maxRecDepth 100000
set_option maxHeartbeats 3200000
namespace Go.Proofs.YtimlcnhcjndijaaGreatDoor
open Go renaming World->WD,Value->VL,Calls->CS
open Go.RowKit renaming Below->BW
open Go.Proofs.Tryz
section
open Go.RowKit Go.Maps Go.Lib Go.Sort
variable{n:Nat}{w:WD}
abbrev Qv (x:df):Array VL:=#[.int .i64 x.id,.string x.user,.int .i64 x.prio,.int .i64 x.nf.a,.int .i64 x.nf.b,.int .i64 x.nf.c,.int .i64 x.nf.d]
structure Ko (w:WD) (ao:Option Addr) (n:Nat) (ws:List df):Prop where
 len:ws.length=n
 max:n<=1000000
 cell:∀ i x,ws[i]?=some x->∃ b off,ao=some ⟨b,off,none⟩/\b<w.heap.size/\∀ j,j<7->w.cell? ⟨b,off+i*7+j,none⟩=(Qv x)[j]?
def Ko.mod {S:Nat->Prop} {w w':WD} {d:Option Addr}  {g:List df} (h:Ko w d n g) (f:Mod S w w') (k:∀ b a,d=some ⟨b,a,none⟩->¬ S b):Ko w' d n g:=
 ⟨h.len,h.max,fun i x o=>by
  obtain ⟨b,a,e,c,l⟩:=h.cell i x o;refine ⟨b,a,e,Bx c f.size,fun j m=>?_⟩;rw [<- l j m]
  simp only [World.cell?,f.block b c (k b a e)]⟩
def Qw (a b:df):Int:=if compareInt b.prio a.prio≠0 then compareInt b.prio a.prio else compareInt a.id b.id
def At2 (ao:Option Addr) (n c:Nat) (ws:List df) (z i j:Nat) (x y:df) (w:WD) (h:Ko w ao n ws) (hp:w.heap[z]?=some (.cells #[.slice ao n c] 273 (0,0))) (s:ws[i]?=some x) (t:ws[j]?=some y) :
  CS prog 289 #[.int .i64 (i:Int),.int .i64 (j:Int),.pointer (some ⟨z,0,none⟩)] w fun e w'=>e=.returned (.int .i64 (Qw x y))/\∃ q,w'=w.drewN q:=by
 obtain ⟨b,a,rfl,al,g⟩:=h.cell i x s;obtain ⟨b',ad,e,ac,k⟩:=h.cell j y t;injection e with e;injection e with e1 e2;subst e1 e2;have hi:=(Ao.1 s).1;have hj:=(Ao.1 t).1;have hl:=h.len;have p0:=Bk hp 0 (.slice (some ⟨b,a,none⟩) n c) rfl;have x0:w.cell? ⟨b,a+i*7,none⟩=some (.int .i64 x.id):=g 0 (by omega);have x2:w.cell? ⟨b,a+i*7+2,none⟩=some (.int .i64 x.prio):=g 2 (by omega);have y0:w.cell? ⟨b,a+j*7,none⟩=some (.int .i64 y.id):=k 0 (by omega);have y2:w.cell? ⟨b,a+j*7+2,none⟩=some (.int .i64 y.prio):=k 2 (by omega);have g1:(i:Int)<n:=by omega
 have g2:(j:Int)<n:=by omega
 have g3:(0:Int)<=i:=by omega
 have g4:(0:Int)<=j:=by omega
 have l:Qw x y=if compareInt y.prio x.prio≠0 then compareInt y.prio x.prio else compareInt x.id y.id:=rfl
 obtain ⟨u,m⟩:=Ex (compareInt y.prio x.prio);obtain ⟨v,o⟩:=Ex (compareInt x.id y.id);rw [<- m,<- o] at l;have p:=fun W=>Tryz.cmp_Compare_int y.prio x.prio W;have r:=fun W=>Tryz.cmp_Compare_int x.id y.id W;rw [<- m] at p;rw [<- o] at r;clear s t h hp g k;replace ⟨l,p,r,m,o,hl⟩:=H6 l p r m o hl;go_enter func289,ntmps289;go_upto_region 1 with fail;go_quiet ((go_at_call 290;(with_reducible exact Kv (p.out _))));obtain ⟨W,f⟩:=Ex (w.drewN nq);have an:W.cell? ⟨z,0,none⟩=some (.slice (some ⟨b,a,none⟩) n c):=by rw [f];exact p0
 have ap:W.cell? ⟨b,a+i*7,none⟩=some (.int .i64 x.id):=by rw [f];exact x0
 have av:W.cell? ⟨b,a+j*7,none⟩=some (.int .i64 y.id):=by rw [f];exact y0
 rw [<- f];clear p0 x0 x2 y0 y2;replace f:=Hh f;by_cases h0:u=0
 .subst h0;have d:Qw x y=v:=by rw [l.out,Ac (by simp)]
  replace d:=Hh d;go_upto_region 4 with fail;go_quiet ((go_at_call 290;(with_reducible exact Kv (r.out _))));go_wp2_with fail;go_ret;exact ⟨by rw [d.out];rfl,_,by rw [f.out,World.drewN_drewN]⟩
 .have d:Qw x y=u:=by rw [l.out,Ad h0]
  have am:(u != 0)=true:=by rw [Fp];exact h0
  replace d:=Hh d;go_wp2_with fail;go_ret;exact ⟨by rw [d.out];rfl,_,f.out⟩
def At3 (a b:df):Qw a b<0↔(b.prio<a.prio\/(a.prio=b.prio/\a.id<b.id)):=by
 unfold Qw compareInt;by_cases d:b.prio<a.prio
 .simp [d]
 .by_cases g:a.prio<b.prio
  .simp [d,g];omega
  .have e:a.prio=b.prio:=(by omega);by_cases c:a.id<b.id
   .simp [e,c]
   .by_cases f:b.id<a.id
    .simp [e,c,f]
    .simp [e,c,f]
def Fj  (i:Fin n):VL:=.int .i64 ((i.val:Nat):Int)
def lq (ws:List df)  (i j:Fin n):Int:=Qw (A6 ws i) (A6 ws j)
def Ui (a:List df)  (i j:Fin n):ltOf (lq a) i j=true↔((A6 a j).prio<(A6 a i).prio\/((A6 a i).prio=(A6 a j).prio/\(A6 a i).id<(A6 a j).id)):=by
 unfold ltOf lq;rw [decide_eq_true_iff,At3]
def Sp (a:List df)  (i j:Fin n):ltOf (lq a) i j=false↔¬ ((A6 a j).prio<(A6 a i).prio\/((A6 a i).prio=(A6 a j).prio/\(A6 a i).id<(A6 a j).id)):=by
 rw [<- Ui,Za]
def Abf (a:List df) (n:Nat):SWO (ltOf (lq a):Fin n->Fin n->Bool) where
 irrefl x:=by rw [Sp];omega
 trans x y z:=by rw [Ui,Ui,Ui];omega
 ntrans x y z:=by rw [Sp,Sp,Sp];omega
def At4 (a:List df)  (i j:Fin n):(!ltOf (lq a) j i)=uu (A6 a i) (A6 a j):=by
 cases h:ltOf (lq a) j i
 .rw [Sp] at h
  symm
  simp [uu];omega
 .rw [Ui] at h
  symm
  simp [uu];omega
def Uj (ws:List df):Prop:=∀ (i j:Nat) (x y:df),ws[i]?=some x->ws[j]?=some y->x.id=y.id->i=j
def At5 (c:List df) (n:Nat) (k:c.length=n) (h1:Uj c) [Inhabited (Fin n)] (d f:Array (Fin n)) (i:PermIn 0 d.size d f) (j:SortedIn (ltOf (lq c)) 0 d.size f):f.toList.map Fin.val=Gn c (d.toList.map Fin.val):=by
 rw [sorted_unique_holds (lt:=ltOf (lq c)) (Abf c n) (fun x y a b=>by
  rw [Sp] at a b;have e:(A6 c x).id=(A6 c y).id:=by omega
  have g:c[x.val]?=some (A6 c x):=by have:=x.isLt;unfold A6;rw [A4 (by omega)];rfl
  have h:c[y.val]?=some (A6 c y):=by have:=y.isLt;unfold A6;rw [A4 (by omega)];rfl
  exact Fin.ext (h1 _ _ _ _ g h e)) d f i j]
 unfold Gn;exact List.map_mergeSort (fun a _ b _=>At4 c a b)
def At6  [Inhabited (Fin n)] (w:WD) (g m:Nat) (d:Array (Fin n)) (os:Array Obj):Mod (fun b=>b=g) w (sortWorld Fj w g 0 m d os):=by
 refine ⟨rfl,rfl,rfl,by simp [sortWorld,putRow,mapBlock,Sort.ahead],fun k a c=>?_⟩;unfold sortWorld;rw [heap_grow_old _ _ (by simpa [putRow,mapBlock,Sort.ahead] using a)];have:g≠k:=fun e=>c e.symm;simp [putRow,mapBlock,Sort.ahead,U6,this]
def Cx (l:List Nat):List Int:=l.map fun (i:Nat)=>(i:Int)
def Ah4  (d:Array (Fin n)):d.toList.map Fj=Bu (Cx (d.toList.map Fin.val)):=by
 simp [Bu,Cx,Fj,Ik]
def Ah5  (j:Option Addr) (n c i:Nat) (f:List df) (l:Ko w j n f) (hp:w.heap[i]?=some (.cells #[.slice j n c] 273 (0,0))) [Inhabited (Fin n)] (g cap a b:Nat) (d:Array (Fin n)) (t:Holds Fj w g 0 d)
  (z:i≠g) (u:∀ b h,j=some ⟨b,h,none⟩->b≠g) (k:a<=b) (v:b<=d.size) (ac:d.size<=1000) :
  CS prog 334 #[.slice (some ⟨g,0,none⟩) d.size cap,.int .i64 (a:Int),.int .i64 (b:Int),.func (.func 289) #[] #[.pointer (some ⟨i,0,none⟩)]] w fun e w'=>e=.returned (.tuple #[])/\∃ q,w'=(putRow Fj w g 0 (Sort.insertionSort (ltOf (lq f)) d a b)).drewN q:=by
 refine Any.insertionSortCmpFunc_one Tryz.wy Fj (fun _=>rfl) (lq f) 289 #[.pointer (some ⟨i,0,none⟩)] g 0 cap a b d w (I4 func289 (by decide) (by simp [f289])) ?_ t k v (by omega);intro m os p _ x y;have o:=At6 w g m p os;have r:f[x.val]?=some (A6 f x):=by have:=x.isLt;have:=l.len;unfold A6;rw [A4 (by omega)];rfl
 have s:f[y.val]?=some (A6 f y):=by have:=y.isLt;have:=l.len;unfold A6;rw [A4 (by omega)];rfl
 exact At2 j n c f i x y _ _ _ (l.mod o fun b h e c=>u b h e c) (o.ar hp z) r s
def Ah6  [Inhabited (Fin n)] (w:WD) (g q:Nat) (d:Array (Fin n)):Mod (fun b=>b=g) w ((putRow Fj w g 0 d).drewN q):=
 ⟨rfl,rfl,rfl,by simp [putRow,mapBlock,World.drewN],fun k _ a=>by
  have:g≠k:=fun e=>a e.symm
  simp [putRow,mapBlock,U6,this,World.drewN]⟩
def At7  (v:Option Addr) (n c l:Nat) (k:List df) (u:Ko w v n k) (t:w.heap[l]?=some (.cells #[.slice v n c] 273 (0,0))) [Inhabited (Fin n)] (g cap m:Nat) (d:Array (Fin n)) (s:Holds Fj w g 0 d) (hd:d.size=m)
  (hg:l≠g) (o:∀ b r,v=some ⟨b,r,none⟩->b≠g) (hm:m<=20) :
  CS prog 321 #[.slice (some ⟨g,0,none⟩) m cap,.int .i64 (m:Int),.func (.func 289) #[] #[.pointer (some ⟨l,0,none⟩)]] w fun e w'=>e=.returned (.tuple #[])/\∃ q,w'=(putRow Fj w g 0 (Sort.insertionSort (ltOf (lq k)) d 0 m)).drewN q:=by
 subst hd
 have j:CS prog 334 #[.slice (some ⟨g,0,none⟩) d.size cap,.int .i64 0,.int .i64 (d.size:Int),.func (.func 289) #[] #[.pointer (some ⟨l,0,none⟩)]] w fun e w'=>e=.returned (.tuple #[])/\∃ q,w'=(putRow Fj w g 0 (Sort.insertionSort (ltOf (lq k)) d 0 d.size)).drewN q:=
  Ah5 v n c l k u t g cap 0 d.size d s hg o (Aq _) Ln (by omega)
 obtain ⟨i,a⟩:=Ex (Sort.insertionSort (ltOf (lq k)) d 0 d.size);have h:i.size=d.size:=by rw [a];exact (insertionSort_holds (lt:=ltOf (lq k)) (Abf k n) d 0 d.size (Aq _) Ln).1.1
 rw [<- a] at j ⊢;obtain ⟨m,f⟩:=Ex (d.size);rw [<- f] at hm j h;rw [<- f];by_cases z:m=20
 .subst z
  have p:∀ q,CS prog 334 #[.slice (some ⟨g,0,none⟩) 20 cap,.int .i64 20,.int .i64 20,.func (.func 289) #[] #[.pointer (some ⟨l,0,none⟩)]] ((putRow Fj w g 0 i).drewN q) fun e w'=>e=.returned (.tuple #[])/\∃ q,w'=(putRow Fj w g 0 i).drewN q:=fun q=>by
   have y:=Ah6 w g q i;have x:Holds Fj ((putRow Fj w g 0 i).drewN q) g 0 i:=holds_putRow Fj w g 0 d i s (by omega);have:=Ah5 v n c l k (u.mod y fun b r e c=>o b r e c) (y.ar t hg) g cap 20 20 i x hg o Ln (by omega) (by omega);rw [h] at this;refine this.mono ?_;rintro e w' ⟨rfl,q2,rfl⟩;have e1:Sort.insertionSort (ltOf (lq k)) i 20 20=i:=insOuter_stop _ _ _ _ _ (by omega);rw [e1,putRow_self Fj _ g 0 i x,World.drewN_drewN];exact ⟨rfl,_,rfl⟩
  replace j:CS prog 334 #[.slice (some ⟨g,0,none⟩) 20 cap,.int .i64 0,.int .i64 20,.func (.func 289) #[] #[.pointer (some ⟨l,0,none⟩)]] w fun e w'=>e=.returned (.tuple #[])/\∃ q,w'=(putRow Fj w g 0 i).drewN q:=j;replace ⟨j,p,u,t,s,o,f,a⟩:=H8 j p u t s o f a;replace h:=Hh h;go_enter func321,ntmps321;go_wp2_with fail;refine Tc 2 ?_;rw [Mz];go_wp2_with (go_at_call 334;(with_reducible refine j.out.mono ?_);rintro e w1 ⟨rfl,q,rfl⟩);rw [Mz];go_wp2_with (go_at_call 334;(with_reducible refine (p.out _).mono ?_);rintro e w1 ⟨rfl,q,rfl⟩);refine Tc 1 ?_;rw [Mz];go_wp2;go_end0;exact ⟨rfl,_,rfl⟩
 .have g1:¬ (20:Int)<=(m:Int):=by omega
  replace ⟨j,u,t,s,o,f,a,h⟩:=H8 j u t s o f a h;go_enter func321,ntmps321;go_wp2_with fail;refine Tc 1 ?_;rw [Mz];go_wp2_with (go_at_call 334;(with_reducible refine j.out.mono ?_);rintro e w1 ⟨rfl,q,rfl⟩);refine Tc 1 ?_;rw [Mz];go_wp2;go_end0;exact ⟨rfl,_,rfl⟩
def Pj (l:List Nat):(Cx l).length=l.length:=At _
def At8  {B:Nat} {v:VL} {l:List Nat} (h:Al w B v (Cx l)) (h0:l≠[]) (hl:l.length<=20) (ao:Option Addr) (n c pb:Nat) (s:List df) (hw:Ko w ao n s) (hp:w.heap[pb]?=some (.cells #[.slice ao n c] 273 (0,0)))
  (y:∀ i,i∈l->i<n) (h1:Uj s) (ha:∀ b ad,ao=some ⟨b,ad,none⟩->v.ownBlock≠some b) :
  CS prog 288 #[v,.func (.func 289) #[] #[.pointer (some ⟨pb,0,none⟩)]] w fun e w'=>e=.returned (.tuple #[])/\Al w' B v (Cx (Gn s l))/\Mod (fun b=>v.ownBlock=some b) w w':=by
 obtain ⟨i0,am⟩:∃ i,i∈l:=by
  cases l with
  | nil=>exact absurd rfl h0
  | cons x r=>exact ⟨x,Dl ..⟩
 haveI:Inhabited (Fin n):=⟨⟨i0,y i0 am⟩⟩
 obtain ⟨d,hd⟩:∃ d:Array (Fin n),d=(l.pmap (fun i hi=>(⟨i,hi⟩:Fin n)) y).toArray:=⟨_,rfl⟩;have o:d.toList.map Fin.val=l:=by rw [hd];simp [List.map_pmap]
 have u:d.size=l.length:=by rw [hd];simp
 have ai:w.ownsRow B 3 1 v l.length (d.toList.map Fj):=by rw [Ah4,o];have:=h.row;rw [Pj] at this;exact this
 obtain ⟨g,cap,rfl,av,aC,aB,aA,_,hH⟩:=holds_of_ownsRow (enc:=Fj) (zs:=d.toList) ai (fun e=>by
  obtain ⟨so,m,c',e',hm⟩:=h.len;rw [e] at e';injection e' with _ e';rw [Pj] at hm
  exact h0 (Gd.1 (by omega)))
 have hH:Holds Fj w g 0 d:=hH
 have al:pb≠g:=fun e=>by
  obtain ⟨ap,a,_⟩:=Cq h.row (g:=g) rfl;rw [<- e,hp] at a;injection a with a;injection a with _ a;exact absurd a (by decide)
 have p:=At7 ao n c pb s hw hp g cap l.length d hH u al (fun b ad e c=>ha b ad e (by rw [c];rfl)) hl;obtain ⟨z,hS⟩:=insertionSort_holds (lt:=ltOf (lq s)) (Abf s n) d 0 d.size (Aq _) Ln;have j:=At5 s n hw.len h1 d _ z hS;rw [u] at j z;obtain ⟨t,ac⟩:=Ex (Sort.insertionSort (ltOf (lq s)) d 0 l.length);rw [<- ac] at p j z
 have f:∀ q,Al ((putRow Fj w g 0 t).drewN q) B (.slice (some ⟨g,0,none⟩) l.length cap) (Cx (Gn s l)):=fun q=>by
  have an:(Gn s l).length=l.length:=by rw [<- o,<- j];simp only [At];have:=z.1;have e1:t.toList.length=t.size:=rfl;omega
  have:=ownsRow_putRow (q:=q) (k:=l.length) (ys:=t.toList) ai (by have:=z.1;have e1:t.toList.length=t.size:=rfl;omega) Ln;rw [C8 (by have:=z.1;have e1:t.toList.length=t.size:=rfl;omega),Ah4,j,o] at this;refine ⟨?_⟩;rw [Pj,an];exact this
 obtain ⟨m,hm⟩:=Ex (l.length);rw [<- hm] at p f ⊢;replace ⟨p,f,hw,hp,h,hd,o,u⟩:=H8 p f hw hp h hd o u;replace ⟨ai,hH,z,hS,j,ac,hm,ha⟩:=H8 ai hH z hS j ac hm ha;replace ⟨y,h1⟩:=H2 y h1;go_enter func288,ntmps288;go_wp2_with (go_at_call 321;(with_reducible refine p.out.mono ?_);rintro e w1 ⟨rfl,q,rfl⟩);go_end0;exact ⟨rfl,f q,(Ah6 w g q t).mono fun b _ e=>by rw [e];rfl⟩
end
section
open Go.RowKit Go.Maps Go.Lib
variable {w w1 w':WD} {B:Nat}
structure C7 (w:WD) (B:Nat) (v:VL) (l:List Int):Prop where
 is:(v=.slice none 0 0/\l=[])\/∃ g off cap cur,v=.slice (some ⟨g,off,none⟩) l.length cap/\B<=g/\w.heap[g]?=some (.cells cur 3 (0,0))/\l.length<=cap/\off+cap<=cur.size/\cap<=maxLen/\∀ i x,l[i]?=some x->cur[off+i]?=some (.int .i64 x)
def C7.of {v:VL} {l:List Int} (h:Al w B v l):C7 w B v l:=by
 rcases h.row.2 with ⟨rfl,h0⟩ | ⟨g,cap,a,rfl,e,f,h1,c,j,d⟩
 .exact ⟨.inl ⟨rfl,Gd.1 h0⟩⟩
 .refine ⟨.inr ⟨g,0,cap,a,rfl,e,f,h1,by omega,c,fun i x b=>?_⟩⟩;have k:=(Ao.1 b).1
  have:(a.toList.take (l.length*1))[i]?=some (.int .i64 x):=by rw [d];simp [Bu,b]
  rw [Ls,Ad (by omega)] at this;simpa using this
def C7.form {v:VL} {l:List Int} (h:C7 w B v l):∃ so c,v=.slice so l.length c/\l.length<=c/\c<=maxLen/\∀ b o,so=some ⟨b,o,none⟩->B<=b/\b<w.heap.size:=by
 rcases h.is with ⟨rfl,rfl⟩ | ⟨g,j,cap,a,rfl,f,i,h1,k,d,m⟩
 .exact ⟨none,0,rfl,Nat.le_refl _,by unfold maxLen;omega,fun b o e=>by cases e⟩
 .refine ⟨_,_,rfl,h1,d,fun b o e=>?_⟩;injection e with e;injection e with e1 e2;subst e1;exact ⟨f,Ab i⟩
def C7.pos {v:VL} {l:List Int} (h:C7 w B v l) (j:0<l.length):∃ g a cap,v=.slice (some ⟨g,a,none⟩) l.length cap/\B<=g/\l.length<=cap/\cap<=maxLen/\(∀ o,w.frozen? ⟨g,o,none⟩=false)/\∀ i x,l[i]?=some x->w.cell? ⟨g,a+i,none⟩=some (.int .i64 x):=by
 rcases h.is with ⟨rfl,rfl⟩ | ⟨g,a,cap,c,rfl,f,b,h1,m,d,e⟩
 .simp at j
 .refine ⟨g,a,cap,rfl,f,h1,d,Af b,fun i x k=>?_⟩;rw [<- e i x k];simp [World.cell?,b]
def C7.lt {v:VL} {l:List Int} (h:C7 w B v l):∀ k,v.ownBlock=some k->B<=k/\k<w.heap.size:=fun k a=>by
 rcases h.is with ⟨rfl,rfl⟩ | ⟨g,e,cap,b,rfl,c,d,_⟩
 .simp [Value.ownBlock] at a
 .simp [Value.ownBlock] at a;subst a;exact ⟨c,Ab d⟩
def C7.ar {v:VL} {l:List Int} (h:C7 w B v l) {k:Nat} (a:v.ownBlock=some k):∃ c,w.heap[k]?=some (.cells c 3 (0,0)):=by
 rcases h.is with ⟨rfl,rfl⟩ | ⟨g,e,cap,b,rfl,f,d,_⟩
 .simp [Value.ownBlock] at a
 .simp [Value.ownBlock] at a;subst a;exact ⟨_,d⟩
def C7.mod {S:Nat->Prop} {v:VL} {l:List Int} (h:C7 w B v l) (e:Mod S w w') (f:∀ k,v.ownBlock=some k->¬ S k):C7 w' B v l:=by
 rcases h.is with ⟨rfl,rfl⟩ | ⟨g,b,cap,a,rfl,c,d,r⟩
 .exact ⟨.inl ⟨rfl,rfl⟩⟩
 .exact ⟨.inr ⟨g,b,cap,a,rfl,c,e.ar d (f g rfl),r⟩⟩
def C7.tail {g a n cap:Nat} {x:Int} {l:List Int} (h:C7 w B (.slice (some ⟨g,a,none⟩) n cap) (x :: l)):C7 w B (.slice (some ⟨g,if cap=1 then a else a+1,none⟩) l.length (cap-1)) l:=by
 rcases h.is with ⟨h,_⟩ | ⟨o,f,c,b,e,k,m,h1,p,q,j⟩
 .cases h
 .injection e with e1 e2 e3;injection e1 with e1;injection e1 with e1 e4;subst e1 e3 e4;simp at h1;refine ⟨.inr ⟨g,_,cap-1,b,rfl,k,m,by omega,by split<;>omega,by omega,fun i y d=>?_⟩⟩;have r:=(Ao.1 d).1;have:=j (i+1) y (by simpa using d);split
  .omega
  .rw [<- this];congr 1;omega
def Xr (w:WD) (B:Nat) (v:VL) (l:List Int) (e:Ending) (w':WD):Prop:=
 ∃ v',e=.returned v'/\C7 w' B v' l/\Mod (fun b=>v.ownBlock=some b) w w'/\(v'.ownBlock=v.ownBlock\/v'.ownBlock=some w.heap.size)
def Uk {w:WD} {g:Nat} {d:Array VL} {T:TypeId} (h:w.heap[g]?=some (.cells d T (0,0))) (a:Nat) (xs:List VL) (j:a+xs.length<=d.size) :
  ∃ c,(w.setCells g a xs).heap[g]?=some (.cells c T (0,0))/\c.size=d.size/\(∀ i x,xs[i]?=some x->c[a+i]?=some x)/\(∀ i,(i<a\/a+xs.length<=i)->c[i]?=d[i]?)/\Mod (fun b=>b=g) w (w.setCells g a xs):=by
 induction xs generalizing w d a with
 | nil=>exact ⟨d,by simpa [World.setCells] using h,rfl,fun i x j=>by simp at j,fun _ _=>rfl,by simpa [World.setCells] using Mod.refl _ w⟩
 | cons x l ih=>
  have h1:=Am h a x;obtain ⟨c,a1,a2,a3,k,m⟩:=ih h1 (a+1) (by simp at j ⊢;omega);have e:w.setCells g a (x :: l)=(w.setCell ⟨g,a,none⟩ x).setCells g (a+1) l:=rfl;refine ⟨c,by rw [e];exact a1,by simpa using a2,fun i y f=>?_,fun i n=>?_,by rw [e];exact (Mod.setCell (S:=fun b=>b=g) w g a x rfl).trans m⟩
  .match i,f with
   | 0,f=>
    simp at f j;subst f;have o:a<d.size:=(by omega);rw [Io,k a (.inl (by omega)),No];simp [o]
   | i+1,f=>
    have:=a3 i y (by simpa using f);rw [<- this];congr 1;omega
  .simp only [Il] at n;rw [k i (by omega)];simp [No];omega
def Ul (l:List Int) (i:Nat):(Bu l)[i]?=(l[i]?).map (Value.int .i64):=by simp [Bu]
def Ah7 (l:List Int):∀ v,v∈Bu l->v.oneCell'=true:=fun v a=>by
 obtain ⟨x,_,rfl⟩:=Ba.1 a;rfl
def Xs (l:List Int) (k:Int) {at_:Nat} (a:at_<=l.length) (i:Nat):(l.take at_++k :: l.drop at_)[i]?=if i<at_ then l[i]? else if i=at_ then some k else l[i-1]?:=by
 by_cases h1:i<at_
 .rw [Ad h1,E5 (by simp;omega),Ls,Ad h1]
 .rw [Ac h1,Gc (by simp;omega),E8,Ly a];by_cases b:i=at_
  .subst b;simp
  .rw [Ac b,show i-at_=(i-at_-1)+1 by omega,List.getElem?_cons_succ,Ns];congr 1;omega
def At9 {v:VL} {l:List Int} (hq:C7 w B v l) (k:Int) (at_:Nat) (s:at_<=l.length) (hl:l.length<=1000000) (vb:Nat) (ad:w.heap[vb]?=some (.cells #[.int .i64 k] 3 (0,0))) (av:v.ownBlock≠some vb) (hB:B<=w.heap.size) :
  CS prog 265 #[v,.int .i64 (at_:Int),.slice (some ⟨vb,0,none⟩) 1 1] w (Xr w B v (l.take at_++k :: l.drop at_)):=by
 have z:∀ (j:Nat) (u:VL),([.int .i64 k]:List VL)[j]?=some u->w.cell? ⟨vb,0+j,none⟩=some u:=fun j u p=>by
  match j,p with
  | 0,p=>
   simp at p;subst p;exact Aa ad 0
 have y:∀ u,u∈([.int .i64 k]:List VL)->u.oneCell'=true:=by simp [Value.oneCell']
 have n:(l.take at_++k :: l.drop at_).length=l.length+1:=by simp;omega
 have m:∀ (cap:Nat) (h:Array VL) (w':WD),w'.heap[w.heap.size]?=some (.cells h 3 (0,0))->Mod (fun b=>v.ownBlock=some b) w w'->l.length+1<=cap->cap<=maxLen->cap<=h.size->(∀ (i:Nat) (x:Int),(l.take at_++k :: l.drop at_)[i]?=some x->h[i]?=some (.int .i64 x)) ->
   Xr w B v (l.take at_++k :: l.drop at_) (.returned (.slice (some ⟨w.heap.size,0,none⟩) (l.length+1) cap)) w':=fun cap h w' h1 h2 h3 h4 h5 h6=>
  ⟨_,rfl,⟨.inr ⟨w.heap.size,0,cap,h,by rw [n],hB,h1,by rw [n];exact h3,by omega,h4,fun i x c=>by simpa using h6 i x c⟩⟩,h2,.inr rfl⟩
 rcases hq.is with ⟨rfl,rfl⟩ | ⟨g,d,cap,h,rfl,hb,hg,h1,h2,h3,h4⟩
 .obtain rfl:at_=0:=by simpa using s
  refine (Any2.slices_Insert_int_end_grow Tryz.gh none 0 0 vb 0 1 1 [] [Value.int .i64 k] w (by omega) Ln (by omega) (by omega) rfl rfl (fun _=>rfl) (fun a e=>by cases e) z y).mono ?_;rintro e w' ⟨rfl,rfl⟩;refine m _ _ _ (Ah _ _) ((Mod.refl _ w).drew.trans (Mod.alloc _ _ _)) (Th _ _ _ _) (Y2 _ _ _ _ (by unfold maxLen;omega)) ?_ ?_
  .have:=Th w (0+1) 0 3;simp [Vl,Value.cells];omega
  .intro i x c
   match i,c with
   | 0,c=>
    simp at c;subst c;rw [U3 (by simp)];rfl
 .have al:∀ (j:Nat) (u:VL),(Bu l)[j]?=some u->w.cell? ⟨g,d+j,none⟩=some u:=fun j u p=>by
   rw [Ul] at p
   cases c:l[j]? with
   | none=>rw [c] at p;cases p
   | some x=>
    rw [c] at p;simp at p;subst p;rw [<- h4 j x c];simp [World.cell?,hg]
  have ap:g≠vb:=fun e=>av (by rw [e];rfl);have an:=Af hg
  have t:∀ o,o<h.size->(w.cell? ⟨g,o,none⟩).isSome=true:=fun o ho=>by
   simp [World.cell?,hg,ho]
  by_cases f:l.length+1<=cap
  .by_cases he:at_=l.length
   .subst he;refine (Any2.slices_Insert_int_end_room Tryz.gh g d l.length cap vb 0 1 1 [.int .i64 k] w (by omega) f (by unfold maxLen at h3;omega) rfl (fun j hj=>t _ (by omega)) (fun j _=>an _) z y).mono ?_;rintro e w' ⟨rfl,rfl⟩;obtain ⟨q,a1,a2,a3,a4,a5⟩:=Uk hg (d+l.length) [.int .i64 k] (by simp;omega);refine ⟨_,rfl,⟨.inr ⟨g,d,cap,q,by rw [n],hb,a1,by rw [n];exact f,by omega,h3,fun i x c=>?_⟩⟩,a5.mono (fun b _ e=>by rw [e];rfl),.inl rfl⟩;rw [Xs l k s] at c;split at c
    .rw [a4 _ (.inl (by omega))];exact h4 i x c
    .split at c
     .rename_i e;subst e;injection c with c;subst c;exact a3 0 _ rfl
     .rw [Ot (by omega)] at c;cases c
   .have ac:at_<l.length:=by omega
    refine (Any2.slices_Insert_int_shift Tryz.gh g d l.length cap at_ vb 0 1 1 (Bu l) [.int .i64 k] w ac (by omega) f (by unfold maxLen at h3;omega) (fun e=>ap e.symm) (by simp [Bu]) rfl al (fun j hj=>t _ (by omega)) (fun j _=>an _) z (Ah7 l) y 3 3 1 h.size
     (by simp [World.shape?,ad]) (by simp [World.shape?,hg]) (by omega) (by simp [World.frozen?,ad]) (by simp [World.frozen?,ad])).mono ?_
    rintro e w' ⟨rfl,rfl⟩;obtain ⟨q,a1,a2,a3,a4,a5⟩:=Uk (w:=w.drew) hg (d+(at_+1)) ((Bu l).drop at_) (by simp [Bu];omega);obtain ⟨r,b1,b2,b3,b4,b5⟩:=Uk a1 (d+at_) [.int .i64 k] (by simp;omega);have am:Mod (fun b=>b=g) w w.drew:=(Mod.refl _ _).drew;refine ⟨_,rfl,⟨.inr ⟨g,d,cap,r,by rw [n],hb,b1,by rw [n];exact f,by omega,h3,fun i x c=>?_⟩⟩,((am.trans a5).trans b5).mono (fun b _ e=>by rw [e];rfl),.inl rfl⟩;rw [Xs l k s] at c;split at c
    .rw [b4 _ (.inl (by omega)),a4 _ (.inl (by omega))];exact h4 i x c
    .split at c
     .rename_i e;subst e;injection c with c;subst c;exact b3 0 _ rfl
     .rename_i n1 n2;rw [b4 _ (.inr (by simp;omega))];have:=a3 (i-1-at_) (.int .i64 x) (by rw [Ns,Ul,show at_+(i-1-at_)=i-1 by omega,c];rfl);rw [<- this];congr 1;omega
  .by_cases he:at_=l.length
   .subst he;refine (Any2.slices_Insert_int_end_grow Tryz.gh (some ⟨g,d,none⟩) l.length cap vb 0 1 1 (Bu l) [.int .i64 k] w (by omega) h1 (by omega) (by omega) (by simp [Bu]) rfl (fun e=>by cases e) (fun a e j u p=>by injection e with e;subst e;rw [Vt];exact al j u p) z y).mono ?_;rintro e w' ⟨rfl,rfl⟩;refine m _ _ _ (Ah _ _) ((Mod.refl _ w).drew.trans (Mod.alloc _ _ _)) (Th _ _ _ _) (Y2 _ _ _ _ (by unfold maxLen;omega)) ?_ ?_
    .have:=Th w (l.length+1) cap 3;simp [Vl,Value.cells,Bu];omega
    .intro i x c;rw [Xs l k s] at c
     have hi:i<l.length+1:=by
      split at c
      .omega
      .split at c
       .omega
       .have:=(Ao.1 c).1;omega
     rw [U3 (by simp [Bu];omega)];simp only [Lr];split at c
     .rw [E5 (by simp [Bu];omega),Ul,c];rfl
     .split at c
      .rename_i e;subst e;injection c with c;subst c;rw [Gc (by simp [Bu])];simp [Bu]
      .rw [Ot (by omega)] at c;cases c
   .have ac:at_<l.length:=(by omega);refine (Any2.slices_Insert_int_grow Tryz.gh g d l.length cap at_ vb 0 1 1 (Bu l) [.int .i64 k] w ac (by omega) h1 (by omega) (by omega) (by simp [Bu]) rfl al z (Ah7 l) y).mono ?_;rintro e w' ⟨rfl,aA⟩;have hG:=Th w (l.length+1) cap 3;obtain ⟨C,hC⟩:=Ex ((((Bu l).take at_).toArray++Builtin.zeroCells (Value.int .i64 0).cells (l.length+1-at_)++Builtin.zeroCells (Value.int .i64 0).cells (grownCap w (l.length+1) cap 3-(l.length+1))));have aC:=Ah w (.cells C 3 (0,0));have aD:C.size=grownCap w (l.length+1) cap 3:=by rw [hC];simp [Vl,Value.cells,Bu];omega
    have ao:∀ i,i<at_->C[i]?=(l[i]?).map (Value.int .i64):=fun i hi=>by
     rw [hC,U3 (by simp [Vl,Value.cells,Bu];omega),U3 (by simp [Bu];omega),Lr,Ls,Ad hi,Ul]
    have aB:w'=(((w.alloc (.cells C 3 (0,0))).drew.setCells w.heap.size at_ [.int .i64 k]).drew).setCells w.heap.size (at_+1) ((Bu l).drop at_):=(by rw [hC];exact aA);subst aB;obtain ⟨q,a1,a2,a3,a4,a5⟩:=Uk (w:=(w.alloc (.cells C 3 (0,0))).drew) aC at_ [.int .i64 k] (by simp;omega);obtain ⟨r,b1,b2,b3,b4,b5⟩:=Uk (w:=(((w.alloc (.cells C 3 (0,0))).drew).setCells w.heap.size at_ [.int .i64 k]).drew) a1 (at_+1) ((Bu l).drop at_) (by simp [Bu];omega);have am:Mod (fun b=>b=w.heap.size) w (w.alloc (.cells C 3 (0,0))).drew:=(Mod.alloc _ _ _).drew;have hm:Mod (fun b=>(Value.slice (some ⟨g,d,none⟩) l.length cap).ownBlock=some b) w (((((w.alloc (.cells C 3 (0,0))).drew).setCells w.heap.size at_ [.int .i64 k]).drew).setCells w.heap.size (at_+1) ((Bu l).drop at_)):=(((am.trans a5).drew).trans b5).mono (fun b ac e=>by omega);refine m (grownCap w (l.length+1) cap 3) r _ b1 hm hG (Y2 _ _ _ _ (by unfold maxLen;omega)) (by omega) ?_;intro i x c;rw [Xs l k s] at c;split at c
    .rename_i hi;rw [b4 i (.inl (by omega)),a4 i (.inl (by omega)),ao i hi,c];rfl
    .split at c
     .rename_i e;subst e;injection c with c;subst c;rw [b4 i (.inl (by omega))];exact a3 0 _ rfl
     .rename_i n1 n2;have:=b3 (i-1-at_) (.int .i64 x) (by rw [Ns,Ul,show at_+(i-1-at_)=i-1 by omega,c];rfl);rw [<- this];congr 1;omega
end
section
open Go.RowKit Go.Maps Go.Lib
def Je (b:Nat):DU:=.lit (.int .i64 (b:Int))
def Pk:DU:=.lit (.int .i64 (-1))
abbrev Lk (b:Nat):VL:=.pointer (some ⟨b,0,none⟩)
open Classical in
noncomputable def Jf (v:VL):Option (DU×List MemPlace):=if h:∃ b,v=Lk b then some (Je h.choose,[]) else if v=.pointer none then some (Pk,[]) else none
def Aua {a b:Nat} (h:Lk a=Lk b):a=b:=by
 injection h with h;injection h with h;injection h
def Aub (b:Nat):Jf (Lk b)=some (Je b,[]):=by
 unfold Jf;have h:∃ d,Lk b=Lk d:=⟨b,rfl⟩;rw [dif_pos h];rw [<- Aua h.choose_spec]
def Auc:Jf (.pointer none)=some (Pk,[]):=by
 unfold Jf;rw [dif_neg (by rintro ⟨b,h⟩;simp [Lk] at h),Ad rfl]
def Aud {a b:Nat} (h:Je a=Je b):a=b:=by
 simp [Je] at h;omega
def Abg {a:Nat} (h:Je a=Pk):False:=by
 simp [Je,Pk] at h
def Ah8 {v:VL} {b:Nat} {c:List MemPlace} (h:Jf v=some (Je b,c)):v=Lk b:=by
 unfold Jf at h;split at h
 .rename_i a;injection h with h;injection h with h _;rw [<- Aud h];exact a.choose_spec
 .split at h
  .injection h with h;injection h with h _;exact (Abg h.symm).elim
  .cases h
def Aue {v:VL} {b:List MemPlace} (h:Jf v=some (Pk,b)):v=.pointer none:=by
 unfold Jf at h;split at h
 .injection h with h;injection h with h _;exact (Abg h).elim
 .split at h
  .rename_i a;exact a
  .cases h
def Gr (l:List (ByteArray×Nat)):DU:=l.foldl (fun m p=>m.put (By p.1) (Je p.2)) (.map [])
def Um (l:List (ByteArray×Nat)) (x:ByteArray×Nat):Gr (l++[x])=(Gr l).put (By x.1) (Je x.2):=by simp [Gr]
def Ah9 (l:List (ByteArray×Nat)):IsMap (Gr l):=by
 induction l using P8 with
 | h0=>exact isMap_empty
 | h1 l x ih=>rw [Um];exact ih.put _ _
def Sq (l:List (ByteArray×Nat)) (s:ByteArray):Option Nat:=(l.find? fun p=>decide (p.1=s)).map Prod.snd
def Aia (a:DU) (l:List (ByteArray×Nat)) (h:(l.map Prod.fst).Nodup) (s:ByteArray):(Gr l).atKey (By s) a=match Sq l s with | some b=>Je b | none=>a:=by
 induction l using P8 with
 | h0=>rfl
 | h1 l x ih=>
  rw [C9,Rd] at h;rw [Um];unfold Sq at *;rw [List.find?_append];by_cases e:s=x.1
  .subst e;rw [atKey_put_same (Ah9 l) (Zn _)]
   have:l.find? (fun p=>decide (p.1=x.1))=none:=by rw [Rb];intro p f c;simp at c;exact h.2.2 p.1 (Ku f) x.1 (by simp) c
   rw [this];simp
  .rw [atKey_put_other (fun c=>e (V8 c)),ih h.1];have d:¬ x.1=s:=fun c=>e c.symm
   cases hf:l.find? (fun p=>decide (p.1=s))<;>simp [d]
structure Nk (Own:WD->Nat->VL->List Int->Prop):Prop where
 mod:∀ {S:Nat->Prop} {w w':WD} {B:Nat} {v:VL} {l:List Int},Own w B v l->Mod S w w'->(∀ k,v.ownBlock=some k->¬ S k)->Own w' B v l
 lt:∀ {w:WD} {B:Nat} {v:VL} {l:List Int},Own w B v l->∀ k,v.ownBlock=some k->B<=k/\k<w.heap.size
 ar:∀ {w:WD} {B:Nat} {v:VL} {l:List Int},Own w B v l->∀ k,v.ownBlock=some k->∃ c,w.heap[k]?=some (.cells c 3 (0,0))
def Jg:Nk Al:=⟨fun h d e=>h.mod d e,fun h=>h.lt,fun h k b=>by obtain ⟨c,a,_⟩:=Cq h.row b;exact ⟨c,a⟩⟩
def Un:Nk C7:=⟨fun h b c=>h.mod b c,fun h=>h.lt,fun h _ a=>h.ar a⟩
structure bz where
 b:Nat
 lv:VL
 pl:bt
abbrev bz.cells (u:bz):Array VL:=#[.int .i64 u.pl.has.a,.int .i64 u.pl.has.b,.int .i64 u.pl.has.c,.int .i64 u.pl.has.d,u.lv]
def bz.key (u:bz):ByteArray×Nat:=(u.pl.name,u.b)
structure ll (Own:WD->Nat->VL->List Int->Prop) (w:WD) (mb:Nat) (us:List bz) (wr:WD):Prop where
 low:BW w.heap.size w wr
 map:wr.ownsMap (H:=Unit) prog 9 Jf mb us.length (Gr (us.map bz.key))
 mlt:w.heap.size<=mb
 box:∀ u,u∈us->wr.heap[u.b]?=some (.cells u.cells 335 (0,0))/\w.heap.size<=u.b
 left:∀ u,u∈us->Own wr w.heap.size u.lv (Cx u.pl.left)
 names:(us.map fun u=>u.pl.name).Nodup
 one:us.Pairwise fun x y=>x.b≠y.b/\∀ k,x.lv.ownBlock=some k->y.lv.ownBlock≠some k
variable {Own:WD->Nat->VL->List Int->Prop} {w wr w':WD} {mb:Nat} {us:List bz}
def ll.oq (h:ll Own w mb us wr):∃ b c,wr.heap[mb]?=some (.map b c):=by
 obtain ⟨b,a,d,_⟩:=h.map;exact ⟨b,a,d⟩
def ll.mod (L:Nk Own) (h:ll Own w mb us wr) {S:Nat->Prop} (d:Mod S wr w') (e:∀ k,S k->wr.heap.size<=k):ll Own w mb us w':=by
 have no:∀ k,k<wr.heap.size->¬ S k:=fun k g c=>by have:=e k c;omega
 refine ⟨h.low.trans ((d.below Ln e).mono h.low.size),?_,h.mlt,fun u b=>⟨d.ar (h.box u b).1 (no _ (Ab (h.box u b).1)),(h.box u b).2⟩,fun u b=>L.mod (h.left u b) d (fun k g=>no k (L.lt (h.left u b) k g).2),h.names,h.one⟩;obtain ⟨i,a,f,r⟩:=h.map;exact ⟨i,a,d.ar f (no _ (Ab f)),r⟩
def ll.drop (L:Nk Own) (h:ll Own w mb us wr) (a:BW wr.heap.size wr w'):ll Own w mb us w':=h.mod L (Mod.af (S:=fun _=>False) a) (fun _ c=>c.elim)
def ll.set (L:Nk Own) (h:ll Own w mb us wr) {i:Nat} {u u':bz} (z:us[i]?=some u) (hm:Mod (fun b=>b=u.b\/u.lv.ownBlock=some b) wr w') (hb:u'.b=u.b) (hn:u'.pl.name=u.pl.name) (ac:w'.heap[u.b]?=some (.cells u'.cells 335 (0,0)))
  (ad:Own w' w.heap.size u'.lv (Cx u'.pl.left)) (aC:∀ k,u'.lv.ownBlock=some k->u.lv.ownBlock=some k\/wr.heap.size<=k):ll Own w mb (us.set i u') w':=by
 have an:=Ai z;obtain ⟨al,am⟩:=h.box u an;have x:=h.left u an;obtain ⟨es,cl,s⟩:=h.oq
 have ao:(us.set i u').map bz.key=us.map bz.key:=by
  rw [Mv];have e:u'.key=u.key:=by simp [bz.key,hb,hn]
  rw [e];apply Ea;intro k;rw [Do];split
  .rename_i aB;subst aB;obtain ⟨q,hx⟩:=Ao.1 z;simp [q,hx]
  .rfl
 have aD:(us.set i u').map (fun u=>u.pl.name)=us.map fun u=>u.pl.name:=by have:=Ca (List.map Prod.fst) ao;simpa [bz.key,Ik] using this
 have nm:mb≠u.b:=fun e=>by rw [e,al] at s;cases s
 have aE:u.lv.ownBlock≠some mb:=fun e=>by
  obtain ⟨c,d⟩:=L.ar x mb e;rw [d] at s;cases s
 have o:∀ k y,us[k]?=some y->k≠i->w'.heap[y.b]?=some (.cells y.cells 335 (0,0))/\Own w' w.heap.size y.lv (Cx y.pl.left):=fun k y g f=>by
  have t:=Ai g
  have n:y.b≠u.b/\∀ b,y.lv.ownBlock=some b->u.lv.ownBlock≠some b:=by
   rcases Ra f with q | q
   .exact Fs h.one g z q
   .have:=Fs h.one z g q;exact ⟨fun e=>this.1 e.symm,fun b e1 e2=>this.2 b e2 e1⟩
  refine ⟨hm.ar (h.box y t).1 fun c=>?_,L.mod (h.left y t) hm fun b p c=>?_⟩
  .rcases c with c | c
   .exact n.1 c
   .obtain ⟨c',d⟩:=L.ar x _ c;rw [(h.box y t).1] at d;injection d with d;injection d with _ d;exact absurd d (by decide)
  .rcases c with rfl | c
   .obtain ⟨c',d⟩:=L.ar (h.left y t) _ p;rw [al] at d;injection d with d;injection d with _ d;exact absurd d (by decide)
   .exact n.2 b p c
 have ap:∀ y,y∈us.set i u'->y=u'\/∃ k,us[k]?=some y/\k≠i:=fun y g=>by
  obtain ⟨k,f⟩:=Dg g;rw [Do] at f;split at f
  .split at f
   .injection f with f;exact .inl f.symm
   .cases f
  .rename_i m;exact .inr ⟨k,f,fun e=>m e.symm⟩
 refine ⟨?_,?_,h.mlt,fun y g=>?_,fun y g=>?_,by rw [aD];exact h.names,?_⟩
 .exact h.low.trans (hm.below h.low.size (fun k c=>by
   rcases c with rfl | c
   .exact am
   .exact (L.lt x k c).1))
 .rw [ao,Dm];obtain ⟨es,v,aA,r⟩:=h.map;exact ⟨es,v,hm.ar aA (fun c=>c.elim nm aE),r⟩
 .rcases ap y g with rfl | ⟨k,f,m⟩
  .rw [hb];exact ⟨ac,am⟩
  .exact ⟨(o k y f m).1,(h.box y (Ai f)).2⟩
 .rcases ap y g with rfl | ⟨k,f,m⟩
  .exact ad
  .exact (o k y f m).2
 .refine Np.2 fun a b ha p av=>?_;have l:=A4 ha;have j:=A4 p;generalize (us.set i u')[a]=ya at l ⊢;generalize (us.set i u')[b]=yb at j ⊢
  have kk:∀ k y,us[k]?=some y->k≠i->y.b≠u'.b/\∀ c,y.lv.ownBlock=some c->u'.lv.ownBlock≠some c:=fun k y g f=>by
   have n:y.b≠u.b/\∀ b,y.lv.ownBlock=some b->u.lv.ownBlock≠some b:=by
    rcases Ra f with q | q
    .exact Fs h.one g z q
    .have:=Fs h.one z g q;exact ⟨fun e=>this.1 e.symm,fun b e1 e2=>this.2 b e2 e1⟩
   refine ⟨by rw [hb];exact n.1,fun c d e=>?_⟩;rcases aC c e with e | e
   .exact n.2 c d e
   .have:=(L.lt (h.left y (Ai g)) c d).2;omega
  rw [Do] at l j;by_cases g1:i=a
  .have g2:i≠b:=(by omega);rw [Ac g2] at j;rw [Ad g1] at l;split at l
   .injection l with l;subst l;have:=kk b yb j (fun e=>g2 e.symm);exact ⟨fun e=>this.1 e.symm,fun c e1 e2=>this.2 c e2 e1⟩
   .cases l
  .rw [Ac g1] at l;by_cases g2:i=b
   .rw [Ad g2] at j;split at j
    .injection j with j;subst j;exact kk a ya l (fun e=>g1 e.symm)
    .cases j
   .rw [Ac g2] at j;exact Fs h.one l j av
def Aib (us:List bz) (s:ByteArray):Sq (us.map bz.key) s=(us.find? fun u=>decide (u.pl.name=s)).map bz.b:=by
 unfold Sq;rw [List.find?_map]
 cases h:us.find? ((fun p:ByteArray×Nat=>decide (p.1=s)) ∘ bz.key) with
 | none=>
  have:us.find? (fun u=>decide (u.pl.name=s))=none:=h;rw [this];rfl
 | some u=>
  have:us.find? (fun u=>decide (u.pl.name=s))=some u:=h;rw [this];rfl
def Auf (w:WD):(zeroValue 331).run prog w=.ok (.pointer none) w:=by kernel_rfl
def Abh (h:ll Own w mb us wr) (s:ByteArray) (d:s.size<=maxLen):(Instr.lookup 328 (.map (some mb)) (.string s) false).run prog wr=.ok (.pointer ((us.find? fun u=>decide (u.pl.name=s)).map fun u=>⟨u.b,0,none⟩)) wr:=by
 obtain ⟨v,f,a,c⟩:=World.ownsMap.lookup h.map (string_keyed Eg) Yo (Auf wr) Auc (U5 Eg d);have e:=Aia Pk (us.map bz.key) (by have:=h.names;simpa [bz.key,Ik] using this) s;rw [Aib] at e;unfold By at e;rw [e] at c;rw [a]
 cases hf:us.find? (fun u=>decide (u.pl.name=s)) with
 | none=>
  rw [hf] at c;rw [Aue c];rfl
 | some u=>
  rw [hf] at c;rw [Ah8 c];rfl
def ll.add (L:Nk Own) (q:∀ w B,Own w B (.slice none 0 0) []) (h:ll Own w mb us wr) (s:ByteArray) (v:us.find? (fun u=>decide (u.pl.name=s))=none) {l:WD}
  (i:l.ownsMap (H:=Unit) prog 9 Jf mb (us.length+1) ((Gr (us.map bz.key)).put (By s) (Je wr.heap.size)))
  (t:(wr.alloc (.cells #[.int .i64 0,.int .i64 0,.int .i64 0,.int .i64 0,.slice none 0 0] 335 (0,0))).grownBy l (some mb)) :
  ll Own w mb (us++[⟨wr.heap.size,.slice none 0 0,⟨s,⟨0,0,0,0⟩,[]⟩⟩]) l:=by
 obtain ⟨es,cl,j⟩:=h.oq;have h1:ll Own w mb us (wr.alloc (.cells #[.int .i64 0,.int .i64 0,.int .i64 0,.int .i64 0,.slice none 0 0] 335 (0,0))):=h.drop L Bn;have m:Mod (fun b=>b=mb) (wr.alloc (.cells #[.int .i64 0,.int .i64 0,.int .i64 0,.int .i64 0,.slice none 0 0] 335 (0,0))) l:=Mod.grown t (fun k f=>by injection f with f;exact f.symm)
 have g:∀ (k:Nat) (c:Array VL) (T:TypeId) (fr:Nat×Nat),(wr.alloc (.cells #[.int .i64 0,.int .i64 0,.int .i64 0,.int .i64 0,.slice none 0 0] 335 (0,0))).heap[k]?=some (.cells c T fr)->l.heap[k]?=some (.cells c T fr):=fun k c T fr f=>m.ar f fun e=>by
  have:=Aj (.cells #[.int .i64 0,.int .i64 0,.int .i64 0,.int .i64 0,.slice none 0 0] 335 (0,0)) j;rw [e,this] at f;cases f
 refine ⟨h1.low.trans (m.below h1.low.size (fun k f=>by rw [f];exact h.mlt)),?_,h.mlt,fun u d=>?_,fun u d=>?_,?_,?_⟩
 .rw [Cn,C9,Ka,Tf,Um];exact i
 .rcases Dh.1 d with d | d
  .exact ⟨g _ _ _ _ (h1.box u d).1,(h1.box u d).2⟩
  .simp at d;subst d;exact ⟨g _ _ _ _ (Ah _ _),h.low.size⟩
 .rcases Dh.1 d with d | d
  .refine L.mod (h1.left u d) m fun k f e=>?_;obtain ⟨c,o⟩:=L.ar (h1.left u d) k f;have:=Aj (.cells #[.int .i64 0,.int .i64 0,.int .i64 0,.int .i64 0,.slice none 0 0] 335 (0,0)) j;rw [e,this] at o;cases o
  .simp at d;subst d;exact q _ _
 .rw [C9,Rd];refine ⟨h.names,by simp,fun a r b n=>?_⟩;simp at n;subst n;obtain ⟨u,d,rfl⟩:=Ba.1 r;intro e;have:=Rb.1 v u d;simp at this;exact this e
 .rw [S8];refine ⟨h.one,List.pairwise_singleton _ _,fun x z y p=>?_⟩;simp at p;subst p;refine ⟨fun e=>?_,fun k f=>by simp [Value.ownBlock]⟩;have:=Ab (h.box x z).1;have e':x.b=wr.heap.size:=e;omega
end
section
open Go.RowKit Go.Maps Go.Lib
def Su {α:Type} (p:α->Bool) (l:List α):(l.findIdx? p=none/\l.find? p=none)\/∃ k u,l.findIdx? p=some k/\l[k]?=some u/\l.find? p=some u:=by
 induction l with
 | nil=>exact .inl ⟨rfl,rfl⟩
 | cons x r ih=>
  by_cases a:p x=true
  .exact .inr ⟨0,x,by simp [Y3,a],rfl,by simp [a]⟩
  .rcases ih with ⟨h1,b⟩ | ⟨k,u,h1,b,c⟩
   .exact .inl ⟨by simp [Y3,a,h1],by simp [a,b]⟩
   .exact .inr ⟨k+1,u,by simp [Y3,a,h1],by simpa using b,by simp [a,c]⟩
def Up (us:List bz) (s:ByteArray):Gp (us.map bz.pl) s=us.findIdx? fun u=>decide (u.pl.name=s):=by
 unfold Gp;rw [List.findIdx?_map];congr 1
 funext u
 simp [sj]
abbrev Sv (x:eh):Array VL:=#[.string x.user,.int .i64 x.has.a,.int .i64 x.has.b,.int .i64 x.has.c,.int .i64 x.has.d]
structure Pq (w:WD) (ao:Option Addr) (n:Nat) (hs:List eh):Prop where
 len:hs.length=n
 max:n<=1000000
 cell:∀ i x,hs[i]?=some x->∃ b off,ao=some ⟨b,off,none⟩/\b<w.heap.size/\∀ j,j<5->w.cell? ⟨b,off+i*5+j,none⟩=(Sv x)[j]?
def Pq.low {w w':WD} {ao:Option Addr} {n:Nat} {f:List eh} (h:Pq w ao n f) (d:BW w.heap.size w w'):Pq w' ao n f:=
 ⟨h.len,h.max,fun i x l=>by
  obtain ⟨b,c,e,a,g⟩:=h.cell i x l
  exact ⟨b,c,e,Bx a d.size,fun j k=>(Ag d a).trans (g j k)⟩⟩
def Ko.low {w w':WD} {ao:Option Addr} {n:Nat} {a:List df} (h:Ko w ao n a) (b:BW w.heap.size w w'):Ko w' ao n a:=h.mod (Mod.af (S:=fun _=>False) b) (fun _ _ _ c=>c)
structure gp (Own:WD->Nat->VL->List Int->Prop) (w:WD) (ao:Option Addr) (n c:Nat) (us:List bz) (wr:WD):Prop where
 us:ll Own w (w.heap.size+1) us wr
 pb:wr.heap[w.heap.size]?=some (.cells #[.slice ao n c] 273 (0,0))
variable {Own:WD->Nat->VL->List Int->Prop} {w wr w':WD} {ao:Option Addr} {n c:Nat} {us:List bz}
def gp.drop (L:Nk Own) (h:gp Own w ao n c us wr) (a:BW wr.heap.size wr w'):gp Own w ao n c us w':=⟨h.us.drop L a,Ae a h.pb (Ab h.pb)⟩
def gp.set (L:Nk Own) (h:gp Own w ao n c us wr) {i:Nat} {u u':bz} (j:us[i]?=some u) (l:Mod (fun b=>b=u.b\/u.lv.ownBlock=some b) wr w') (m:u'.b=u.b) (o:u'.pl.name=u.pl.name) (d:w'.heap[u.b]?=some (.cells u'.cells 335 (0,0)))
  (e:Own w' w.heap.size u'.lv (Cx u'.pl.left)) (g:∀ k,u'.lv.ownBlock=some k->u.lv.ownBlock=some k\/wr.heap.size<=k):gp Own w ao n c (us.set i u') w':=by
 refine ⟨h.us.set L j l m o d e g,l.ar h.pb fun c=>?_⟩;have f:=Ai j;rcases c with c | c
 .have:=(h.us.box u f).1;rw [<- c,h.pb] at this;injection this with this;injection this with _ this;exact absurd this (by decide)
 .obtain ⟨p,a⟩:=L.ar (h.us.left u f) _ c;rw [h.pb] at a;injection a with a;injection a with _ a;exact absurd a (by decide)
def Aul {us:List bt} {s:ByteArray} {i N:Nat} (h:us.length<=N/\∀ u,u∈us->u.left.length<=N/\u.left≠[]/\∀ p,p∈u.left->p<i):(Aw us s i).length<=N+1/\∀ u,u∈Aw us s i->u.left.length<=N+1/\u.left≠[]/\∀ p,p∈u.left->p<i+1:=by
 unfold Aw;split
 .refine ⟨by simp;omega,fun u b=>?_⟩;rcases Dh.1 b with b | b
  .have:=h.2 u b;exact ⟨by omega,this.2.1,fun p a=>by have:=this.2.2 p a;omega⟩
  .simp at b;subst b;exact ⟨by simp,by simp,fun p a=>by simp at a;omega⟩
 .refine ⟨by simp;omega,fun u b=>?_⟩;rcases Oj b with b | ⟨y,c,rfl⟩
  .have:=h.2 u b;exact ⟨by omega,this.2.1,fun p a=>by have:=this.2.2 p a;omega⟩
  .have:=h.2 y c;refine ⟨by simp;omega,by simp,fun p a=>?_⟩;rcases Dh.1 a with a | a
   .have:=this.2.2 p a;omega
   .simp at a;omega
def Uq (a:List df):∀ j,(B8 a j).length<=j/\∀ u,u∈B8 a j->u.left.length<=j/\u.left≠[]/\∀ p,p∈u.left->p<j
 | 0=>⟨Nat.le_refl _,fun u b=>by cases b⟩
 | j+1=>Aul (Uq a j)
def Ail (l:List Nat) (i:Nat):Cx (l++[i])=Cx l++[(i:Int)]:=by simp [Cx]
def gp.push (h:gp Al w ao n c us wr) {k:Nat} {u:bz} (d:us[k]?=some u) (i:Nat) {w1 j:WD} (l:BW wr.heap.size wr w1) {f:VL} (r:w1.grownBy j u.lv.ownBlock) (v:Al j w.heap.size f (Cx u.pl.left++[(i:Int)])) (q:∀ k,f.ownBlock=some k->u.lv.ownBlock=some k\/k=w1.heap.size) :
  gp Al w ao n c (us.set k ⟨u.b,f,⟨u.pl.name,u.pl.has,u.pl.left++[i]⟩⟩) (j.setCell ⟨u.b,4,none⟩ f):=by
 have o:=Ai d;obtain ⟨a,x⟩:=h.us.box u o;have p:Mod (fun b=>b=u.b\/u.lv.ownBlock=some b) w1 j:=(Mod.grown r (S:=fun b=>u.lv.ownBlock=some b) (fun k d=>d)).mono fun _ _ c=>.inr c;have t:=((Mod.af l).trans (p.mono fun _ _ c=>c)).trans (Mod.setCell j u.b 4 f (.inl rfl))
 have s:u.lv.ownBlock≠some u.b:=fun e=>by
  obtain ⟨z,g⟩:=Jg.ar (h.us.left u o) _ e;rw [a] at g;injection g with g;injection g with _ g;exact absurd g (by decide)
 have m:=(r.block _ (Bx (Ab a) l.size) (fun e=>s e.symm)).trans (Ae l a (Ab a))
 have y:f.ownBlock≠some u.b:=fun e=>by
  rcases q _ e with c | c
  .exact s c
  .have:=Ab a;have:=l.size;omega
 refine h.set Jg d t rfl rfl ?_ ?_ fun k d=>(q k d).imp id fun e=>by have:=l.size;omega
 .have:=Am m 4 f;simpa using this
 .rw [Ail];exact v.mod (Mod.setCell (S:=fun b=>b=u.b) j u.b 4 f rfl) (fun k d e=>y (by rw [d,e]))
def Aum (l:List (ByteArray×Nat)) (s:ByteArray):has (Gr l) (By s)=true↔s∈l.map Prod.fst:=by
 induction l using P8 with
 | h0=>simp [Gr,has]
 | h1 l x ih=>
  rw [Um];by_cases e:s=x.1
  .subst e;rw [has_put_same (Ah9 l) (Zn _)];simp
  .rw [has_put_other (fun c=>e (V8 c)),ih];simp [e]
def gp.iter (L:Nk Own) (h:gp Own w ao n c us wr) {r:Nat} {m:Option Nat} {a1:Nat} {a2:Array Nat} {a3:Nat} (d:wr.heap[r]?=some (.mapIter m a1 a2 a3)) (s:w.heap.size<=r) (j:Mod (fun b=>b=r) wr w'):gp Own w ao n c us w':=by
 have g:∀ (k:Nat) (c:Array VL) (T:TypeId) (fr:Nat×Nat),wr.heap[k]?=some (.cells c T fr)->w'.heap[k]?=some (.cells c T fr):=fun k c T fr f=>j.ar f fun e=>by
  rw [e,d] at f;cases f
 obtain ⟨o,x,q⟩:=h.us.oq;refine ⟨⟨h.us.low.trans (j.below h.us.low.size (fun k f=>by rw [f];exact s)),?_,h.us.mlt,fun u i=>⟨g _ _ _ _ (h.us.box u i).1,(h.us.box u i).2⟩,fun u i=>L.mod (h.us.left u i) j fun k f e=>?_,h.us.names,h.us.one⟩,g _ _ _ _ h.pb⟩
 .obtain ⟨o,a,l,t⟩:=h.us.map;exact ⟨o,a,j.ar l (fun e=>by rw [e,d] at l;cases l),t⟩
 .obtain ⟨v,p⟩:=L.ar (h.us.left u i) k f;rw [e,d] at p;cases p
def Abl (a b:ByteArray):(By a).sameKey (By b)=true↔a=b:=by
 constructor
 .intro h;apply V8;simpa [By,Lit.sameKey] using h
 .rintro rfl;simp [By,Lit.sameKey]
def Aun {us:List bz} {k:Nat} {u u':bz} (b:us[k]?=some u) (e:u'.key=u.key):(us.set k u').map bz.key=us.map bz.key:=by
 rw [Mv,e];apply Ea;intro j;rw [Do];split
 .rename_i a;subst a;obtain ⟨c,d⟩:=Ao.1 b;simp [c,d]
 .rfl
def Mod.grownBy {v:VL} {w w':WD} (h:Mod (fun b=>v.ownBlock=some b) w w'):w.grownBy w' v.ownBlock:=⟨h.os,h.tape,h.output,h.size,fun k c a=>h.block k c (fun e=>a e.symm)⟩
def Xt (ws:List df) (u:bt):bt:=⟨u.name,u.has,Gn ws u.left⟩
def Abm {W w1:WD} (h:BW W.drew.heap.size W.drew w1):BW W.heap.size W w1:=⟨h.os,h.tape,h.output,h.size,h.block⟩
def gp.tp (L:Nk Own) (h:gp Own w ao n c us wr) {k:Nat} {u:bz} (j:us[k]?=some u) {w1:WD} (p:BW wr.heap.size wr w1) (v:V4) :
  gp Own w ao n c (us.set k ⟨u.b,u.lv,⟨u.pl.name,v,u.pl.left⟩⟩) ((((w1.setCell ⟨u.b,0,none⟩ (.int .i64 v.a)).setCell ⟨u.b,1,none⟩ (.int .i64 v.b)).setCell ⟨u.b,2,none⟩ (.int .i64 v.c)).setCell ⟨u.b,3,none⟩ (.int .i64 v.d)):=by
 have g:=Ai j;obtain ⟨f,q⟩:=h.us.box u g;have m:∀ (W:WD) (o:Nat) (x:VL),Mod (fun b=>b=u.b) W (W.setCell ⟨u.b,o,none⟩ x):=fun W o x=>Mod.setCell W u.b o x rfl;have l:Mod (fun b=>b=u.b) wr ((((w1.setCell ⟨u.b,0,none⟩ (.int .i64 v.a)).setCell ⟨u.b,1,none⟩ (.int .i64 v.b)).setCell ⟨u.b,2,none⟩ (.int .i64 v.c)).setCell ⟨u.b,3,none⟩ (.int .i64 v.d)):=((((Mod.af p).trans (m _ _ _)).trans (m _ _ _)).trans (m _ _ _)).trans (m _ _ _)
 have r:u.lv.ownBlock≠some u.b:=fun e=>by
  obtain ⟨s,i⟩:=L.ar (h.us.left u g) _ e;rw [f] at i;injection i with i;injection i with _ i;exact absurd i (by decide)
 refine h.set L j (l.mono fun _ _ e=>.inl e) rfl rfl ?_ ?_ fun k j=>.inl j
 .have:=Am (Am (Am (Am (Ae p f (Ab f)) 0 (.int .i64 v.a)) 1 (.int .i64 v.b)) 2 (.int .i64 v.c)) 3 (.int .i64 v.d);simpa using this
 .exact L.mod (h.us.left u g) l (fun k j e=>r (by rw [j,e]))
def Auo (ho:Option Addr) (m hc:Nat) (hs:List eh) (ws:List df) (hh:Pq w ho m hs) (hw:Ko w ao n ws) (hn:n<=20) (bP:∀ x,x∈ws->x.user.size<=maxLen) (bB:∀ x,x∈hs->x.user.size<=maxLen) (h1:Uj ws) :
  CS prog 248 #[.slice ho m hc,.slice ao n c] w fun e w'=>∃ us,e=.returned (.map (some (w.heap.size+1)))/\gp Al w ao n c us w'/\us.map bz.pl=C1 hs ws:=by
 have ch:=@run_makeMap prog;obtain ⟨W0,bw⟩:=Ex ((w.alloc (.cells #[.slice ao n c] 273 (0,0))).alloc (.map #[] 0));have a7:gp Al w ao n c [] W0:=by rw [bw];refine ⟨⟨Bn.alloc (by simp) _,?_,by omega,fun u hu=>(by cases hu),fun u hu=>(by cases hu),List.nodup_nil,List.Pairwise.nil⟩,Aj _ (Ah _ _)⟩;have:=Yz (H:=Unit) (w.alloc (.cells #[.slice ao n c] 273 (0,0))) prog 9 Jf;simpa [Gr] using this
 have a9:=hw.len;replace ⟨a7,hh,hw,bP,bB,h1,a9⟩:=H7 a7 hh hw bP bB h1 a9;go_enter func248,ntmps248;go_upto_region 2 with fail;rw [<- bw];clear bw ch;have b0:=Bk a7.pb 0 (.slice ao n c) rfl;go_wp2_with fail;clear b0;go_loopw [6,7,8,17] (fun _ _ _ iv wr=>∃ (i:Nat) (us:List bz),iv=.int .i64 i/\i<=n/\Hid (gp Al w ao n c us wr)/\Hid (us.map bz.pl=B8 ws i)) (fun _ _ _ iv _=>n-(intOf iv).toNat)
 case atStart=>exact ⟨0,[],rfl,Aq _,a7,rfl⟩
 case round=>
  obtain ⟨i,us,rfl,cD,hU,av⟩:=hrel;by_cases cA:i<n
  .have ce:(i:Int)<n:=(by omega);have cC:(0:Int)<=(i:Int):=(by omega);obtain ⟨⟨b7,f,b8,⟨na,nb,nc,nd⟩⟩,hx⟩:=Ge ws i (by have:=a9.out;omega);obtain ⟨b,aA,rfl,bb,am⟩:=(hw.low hU.us.low).cell i _ hx;have z0:wr.cell? ⟨b,aA+i*7,none⟩=some (.int .i64 b7):=am 0 (by omega);have z1:wr.cell? ⟨b,aA+i*7+1,none⟩=some (.string f):=am 1 (by omega);have z2:wr.cell? ⟨b,aA+i*7+2,none⟩=some (.int .i64 b8):=am 2 (by omega);have z3:wr.cell? ⟨b,aA+i*7+3,none⟩=some (.int .i64 na):=am 3 (by omega);have z4:wr.cell? ⟨b,aA+i*7+4,none⟩=some (.int .i64 nb):=am 4 (by omega);have z5:wr.cell? ⟨b,aA+i*7+5,none⟩=some (.int .i64 nc):=am 5 (by omega);have z6:wr.cell? ⟨b,aA+i*7+6,none⟩=some (.int .i64 nd):=am 6 (by omega);obtain ⟨W1,aE⟩:=Ex (wr.alloc (.cells #[.int .i64 b7,.string f,.int .i64 b8,.int .i64 na,.int .i64 nb,.int .i64 nc,.int .i64 nd] 275 (0,0)));have al:BW wr.heap.size wr W1:=(by rw [aE];exact Bn);have d:=hU.drop Jg al;have y1:W1.cell? ⟨wr.heap.size,1,none⟩=some (.string f):=(by rw [aE];exact Aa (Ah _ _) 1);have aU:=bP _ (Ai hx);have aP:=Abh d.us f aU;have aQ:B8 ws (i+1)=Aw (B8 ws i) f i:=(by show Aw (B8 ws i) (A6 ws i).user i=_;unfold A6;rw [Gu hx]);replace ⟨hx,am,al,d,aU,aQ,hU⟩:=H7 hx am al d aU aQ hU;go_upto_region 5 with fail;rcases Su (fun u:bz=>decide (u.pl.name=f)) us with ⟨ac,aL⟩ | ⟨k,u,ac,t,aF⟩
   .rw [aL] at aP;have bX:=hn;have aJ:Aw (B8 ws i) f i=B8 ws i++[⟨f,⟨0,0,0,0⟩,[i]⟩]:=by rw [<- av.out];unfold Aw;rw [Up,ac]
    have bf:us.length<=20:=by
     have h9:us.length=(B8 ws i).length:=(by rw [<- av.out,At]);have:=(Uq ws i).1;omega
    have a4:BW W1.heap.size W1 (W1.alloc (.cells #[.int .i64 0,.int .i64 0,.int .i64 0,.int .i64 0,.slice none 0 0] 335 (0,0))):=Bn;have aC:=(d.us.drop Jg a4).map;have bd:us.length<maxLen:=(by have:maxLen=9223372036854775807:=rfl;omega);have aB:keyOf prog 9 (.string f)=some (By f):=U5 Eg aU.out;have y2:=(Ag a4 (by rw [aE];simp)).trans y1;replace ⟨ac,aL,aJ,bf,a4,aC,bd,aB⟩:=H8 ac aL aJ bf a4 aC bd aB;rw [<- aE];clear aE z0 z1 z2 z3 z4 z5 z6;go_upto_region 9 with (at_mapUpdate;refine Ys _ rfl _ _ _ 328 rfl 9 331 (string_keyed Eg) Yo _ (w.heap.size+1) us.length _ rfl aC.out bd.out _ _ (By f) rfl rfl aB.out _ [] (Aub _) ?_;intro w5 a1 aG;replace ⟨a1,aG⟩:=H2 a1 aG);simp only [Act.put];have hA:=d.us.add Jg (fun w B=>Al.nil w B) f aL.out a1.out aG.out;have aH:Hid (gp Al w (some ⟨b,aA,none⟩) n c (us++[⟨W1.heap.size,.slice none 0 0,⟨f,⟨0,0,0,0⟩,[]⟩⟩]) w5):=(by refine ⟨hA,?_⟩;have bJ:=d.pb;refine (aG.block _ (Bx (Ab bJ) a4.size) (fun e=>?_)).trans (Ae a4.out bJ (Ab bJ));injection e with e;omega);have aZ:(us++[(⟨W1.heap.size,.slice none 0 0,⟨f,⟨0,0,0,0⟩,[]⟩⟩:bz)])[us.length]?=some ⟨W1.heap.size,.slice none 0 0,⟨f,⟨0,0,0,0⟩,[]⟩⟩:=(by simp);have x4:w5.cell? ⟨W1.heap.size,4,none⟩=some (.slice none 0 0:VL):=Aa (aH.us.box _ (Ai aZ)).1 4;have ap:BW w5.heap.size w5 (w5.alloc (.cells #[.int .i64 (i:Int)] 3 (0,0))):=Bn;have aw:Al (w5.alloc (.cells #[.int .i64 (i:Int)] 3 (0,0))) w.heap.size (.slice none 0 0:VL) (Cx ([]:List Nat)):=(aH.us.left _ (Ai aZ)).mod (Mod.af (S:=fun _=>False) ap) (fun _ _ c=>c);have cw:(w5.alloc (.cells #[.int .i64 (i:Int)] 3 (0,0))).cell? ⟨w5.heap.size,0,none⟩=some (.int .i64 (i:Int)):=Aa (Ah _ _) 0;have aW:w.heap.size<=(w5.alloc (.cells #[.int .i64 (i:Int)] 3 (0,0))).heap.size:=by have:=aH.us.low.size;have:=ap.size;omega
    have a0:∀ w7,(w5.alloc (.cells #[.int .i64 (i:Int)] 3 (0,0))).grownBy w7 ((.slice none 0 0:VL)).ownBlock->w7.cell? ⟨W1.heap.size,4,none⟩=some (.slice none 0 0:VL)/\w7.frozen? ⟨W1.heap.size,4,none⟩=false:=fun w7 hg=>by
     have aN:=(aH.us.box _ (Ai aZ)).1
     have a5:((.slice none 0 0:VL)).ownBlock≠some (W1.heap.size):=fun e=>by
      obtain ⟨c',hc⟩:=Jg.ar (aH.us.left _ (Ai aZ)) _ e;rw [aN] at hc;injection hc with hc;injection hc with _ hc;exact absurd hc (by decide)
     have hb:=(hg.block (W1.heap.size) (Bx (Ab aN) ap.size) (fun e=>a5 e.symm)).trans (ap.block _ (Ab aN));exact ⟨(Bp (a:=⟨W1.heap.size,4,none⟩) hb).trans x4,(Oq (a:=⟨W1.heap.size,4,none⟩) hb).trans (Af aN 4)⟩
    replace ⟨ap,aw,cw,aW,a0⟩:=H5 ap aw cw aW a0;clear y1 y2 hA;replace aZ:=Hh aZ;go_wp2_with (at_builtin;refine Mo rfl _ _ rfl w.heap.size 0 _ rfl aw.out rfl ⟨w5.heap.size,0,none⟩ 1 rfl (i:Int) cw.out (by omega) aW.out ?_;intro g7 a6 w7 h7 aO aX;obtain ⟨k7,f7⟩:=a0 w7 aO;replace ⟨h7,aO,aX⟩:=H3 h7 aO aX)
    have aI:=aH.push aZ.out i ap.out aO.out h7.out (fun k t=>by
     simp [Value.ownBlock] at t;subst t;rcases aX.out with e | e
     .exact .inl e
     .exact .inr e)
    have an:Hid (((us++[(⟨W1.heap.size,.slice none 0 0,⟨f,⟨0,0,0,0⟩,[]⟩⟩:bz)]).set us.length ⟨W1.heap.size,.slice (some ⟨g7,0,none⟩) (0+1) a6,⟨f,⟨0,0,0,0⟩,[]++[i]⟩⟩).map bz.pl=B8 ws (i+1)):=Hh (by
     rw [aQ.out,aJ.out,<- av.out]
     simp)
    replace aI:=Hh aI;go_roundw
    case rel=>exact ⟨i+1,_,by go_num,by omega,aI,an⟩
    case measure=>simp [intOf];omega
   .rw [aF] at aP;obtain ⟨ub,aK,⟨g,aM,ad⟩⟩:=u;have aJ:Aw (B8 ws i) f i=(us.set k ⟨ub,aK,⟨g,aM,ad++[i]⟩⟩).map bz.pl:=(by rw [<- av.out];unfold Aw;rw [Up,ac];simp only;rw [Qz _ _ _ (x:=⟨g,aM,ad⟩) (by simp [t]),Mv]);have bn:ad.length<=i:=((Uq ws i).2 ⟨g,aM,ad⟩ (by rw [<- av.out];exact Ku (Ai t))).1;obtain ⟨so,L,cc,e,hL⟩:=(d.us.left _ (Ai t)).len;have e':aK=.slice so L cc:=e;subst e';have bi:(Cx ad).length=L:=hL.symm;have bv:L<=1000000000:=(by rw [<- bi,Pj];omega);rw [<- aE];clear aE z0 z1 z2 z3 z4 z5 z6;have x4:W1.cell? ⟨ub,4,none⟩=some (Value.slice so L cc):=Aa (d.us.box _ (Ai t)).1 4;have ap:BW W1.heap.size W1 (W1.alloc (.cells #[.int .i64 (i:Int)] 3 (0,0))):=Bn;have aw:Al (W1.alloc (.cells #[.int .i64 (i:Int)] 3 (0,0))) w.heap.size (Value.slice so L cc) (Cx ad):=(d.us.left _ (Ai t)).mod (Mod.af (S:=fun _=>False) ap) (fun _ _ c=>c);have cw:(W1.alloc (.cells #[.int .i64 (i:Int)] 3 (0,0))).cell? ⟨W1.heap.size,0,none⟩=some (.int .i64 (i:Int)):=Aa (Ah _ _) 0;have aW:w.heap.size<=(W1.alloc (.cells #[.int .i64 (i:Int)] 3 (0,0))).heap.size:=by have:=d.us.low.size;have:=ap.size;omega
    have a0:∀ w7,(W1.alloc (.cells #[.int .i64 (i:Int)] 3 (0,0))).grownBy w7 ((Value.slice so L cc)).ownBlock->w7.cell? ⟨ub,4,none⟩=some (Value.slice so L cc)/\w7.frozen? ⟨ub,4,none⟩=false:=fun w7 hg=>by
     have aN:=(d.us.box _ (Ai t)).1
     have a5:((Value.slice so L cc)).ownBlock≠some (ub):=fun e=>by
      obtain ⟨c',hc⟩:=Jg.ar (d.us.left _ (Ai t)) _ e;rw [aN] at hc;injection hc with hc;injection hc with _ hc;exact absurd hc (by decide)
     have hb:=(hg.block (ub) (Bx (Ab aN) ap.size) (fun e=>a5 e.symm)).trans (ap.block _ (Ab aN));exact ⟨(Bp (a:=⟨ub,4,none⟩) hb).trans x4,(Oq (a:=⟨ub,4,none⟩) hb).trans (Af aN 4)⟩
    replace ⟨ap,aw,cw,aW,a0,ac,aF,t⟩:=H8 ap aw cw aW a0 ac aF t;replace ⟨aJ,bn,e,hL,bi,bv⟩:=H6 aJ bn e hL bi bv;go_wp2_with (at_builtin;refine Mo rfl _ _ rfl w.heap.size L _ rfl aw.out bi.out ⟨W1.heap.size,0,none⟩ 1 rfl (i:Int) cw.out bv.out aW.out ?_;intro g7 a6 w7 h7 aO aX;obtain ⟨k7,f7⟩:=a0 w7 aO;replace ⟨h7,aO,aX⟩:=H3 h7 aO aX)
    have aI:=d.push t.out i ap.out aO.out h7.out (fun k t=>by
     simp [Value.ownBlock] at t;subst t;rcases aX.out with e | e
     .exact .inl e
     .exact .inr e)
    have an:Hid ((us.set k ⟨ub,.slice (some ⟨g7,0,none⟩) (L+1) a6,⟨g,aM,ad++[i]⟩⟩).map bz.pl=B8 ws (i+1)):=Hh (by
     rw [aQ.out,aJ.out]
     simp)
    replace aI:=Hh aI;go_roundw
    case rel=>exact ⟨i+1,_,by go_num,by omega,aI,an⟩
    case measure=>simp [intOf];omega
  .have ce:¬ (i:Int)<n:=(by omega);have bC:i=n:=(by omega);have aH:=hU;have a2:Hid (us.map bz.pl=(hs.take 0).foldl Ct (B8 ws n)):=(by rw [av.out,bC];rfl);clear hU av a7;replace bC:=Hh bC;go_wp2_with fail;go_loopw [10,11,47] (fun _ _ jv wr=>∃ (j:Nat) (us:List bz),jv=.int .i64 j/\j<=m/\Hid (gp Al w ao n c us wr)/\Hid (us.map bz.pl=(hs.take j).foldl Ct (B8 ws n))) (fun _ _ jv _=>m-(intOf jv).toNat)
   case atStart=>exact ⟨0,us,rfl,Aq _,aH,a2⟩
   case round=>
    obtain ⟨j,us,rfl,cF,hU,av⟩:=hrel;have cG:=hh.max;by_cases hd:j<m
    .have cf:(j:Int)<m:=(by omega);have cE:(0:Int)<=(j:Int):=(by omega);obtain ⟨⟨f,⟨na,nb,nc,nd⟩⟩,hx⟩:=Ge hs j (by have:=hh.len;omega);obtain ⟨b,aA,rfl,bb,am⟩:=(hh.low hU.us.low).cell j _ hx;have z0:wr.cell? ⟨b,aA+j*5,none⟩=some (.string f):=am 0 (by omega);have z1:wr.cell? ⟨b,aA+j*5+1,none⟩=some (.int .i64 na):=am 1 (by omega);have z2:wr.cell? ⟨b,aA+j*5+2,none⟩=some (.int .i64 nb):=am 2 (by omega);have z3:wr.cell? ⟨b,aA+j*5+3,none⟩=some (.int .i64 nc):=am 3 (by omega);have z4:wr.cell? ⟨b,aA+j*5+4,none⟩=some (.int .i64 nd):=am 4 (by omega);obtain ⟨W1,aE⟩:=Ex (wr.alloc (.cells #[.string f,.int .i64 na,.int .i64 nb,.int .i64 nc,.int .i64 nd] 259 (0,0)));have al:BW wr.heap.size wr W1:=(by rw [aE];exact Bn);have d:=hU.drop Jg al;have bR:W1.heap[wr.heap.size]?=some (.cells #[.string f,.int .i64 na,.int .i64 nb,.int .i64 nc,.int .i64 nd] 259 (0,0)):=(by rw [aE];exact Ah _ _);obtain ⟨y0,y1,y2,y3,y4⟩:=C5 bR;(try dsimp only at y0 y1 y2 y3 y4);have aU:=bB _ (Ai hx);have aP:=Abh d.us f aU;have aQ:(hs.take (j+1)).foldl Ct (B8 ws n)=Ct (us.map bz.pl) ⟨f,⟨na,nb,nc,nd⟩⟩:=(by rw [Ov,hx,Kw,<- av.out];rfl);replace ⟨hx,am,al,d,aU,aQ,hU,bR⟩:=H8 hx am al d aU aQ hU bR;go_upto_region 14 with fail;rw [<- aE];clear aE z0 z1 z2 z3 z4;rcases Su (fun u:bz=>decide (u.pl.name=f)) us with ⟨ac,aL⟩ | ⟨k,u,ac,t,aF⟩
     .rw [aL] at aP;have an:Hid (us.map bz.pl=(hs.take (j+1)).foldl Ct (B8 ws n)):=(by rw [aQ.out];unfold Ct;rw [Up,ac];rfl);clear y1 y2 y3 y4;replace ⟨ac,aL⟩:=H2 ac aL;go_wp2_with fail;go_roundw
      case rel=>exact ⟨j+1,_,by go_num,by omega,d,an⟩
      case measure=>simp [intOf];omega
     .rw [aF] at aP;obtain ⟨ub,aK,⟨g,⟨ua,bg,uc,ud⟩,ad⟩⟩:=u;have aV:=(d.us.box _ (Ai t)).1;have x0:=Bk aV 0 (.int .i64 ua) rfl;have x1:=Bk aV 1 (.int .i64 bg) rfl;have x2:=Bk aV 2 (.int .i64 uc) rfl;have x3:=Bk aV 3 (.int .i64 ud) rfl;have fu:=Af aV;have cH:=Ab aV;obtain ⟨⟨pa,bS,pc,pd⟩,bk⟩:∃ p,p=Kg ⟨ua,bg,uc,ud⟩ ⟨na,nb,nc,nd⟩:=⟨_,rfl⟩
      have kp:∀ W,CS prog 252 #[.agg #[.int .i64 ua,.int .i64 bg,.int .i64 uc,.int .i64 ud],.agg #[.int .i64 na,.int .i64 nb,.int .i64 nc,.int .i64 nd]] W fun e w'=>e=.returned (.agg #[.int .i64 pa,.int .i64 bS,.int .i64 pc,.int .i64 pd])/\BW W.heap.size W w':=fun W=>by
       have:=Aig ⟨ua,bg,uc,ud⟩ ⟨na,nb,nc,nd⟩ W;rw [<- bk] at this;exact this
      have an:Hid ((us.set k ⟨ub,aK,⟨g,⟨pa,bS,pc,pd⟩,ad⟩⟩).map bz.pl=(hs.take (j+1)).foldl Ct (B8 ws n)):=(by rw [aQ.out];unfold Ct;rw [Up,ac];simp only;rw [Qz _ _ _ (x:=⟨g,⟨ua,bg,uc,ud⟩,ad⟩) (by simp [t]),Mv,bk];rfl);replace ⟨ac,aF,t,aV,kp,bk⟩:=H6 ac aF t aV kp bk;go_upto_region 16 with fail;go_region_with (go_at_call 252;((with_reducible refine (kp.out _).mono ?_);rintro e w1 ⟨rfl,al⟩;have x0:=(Ag al (by first | omega | (simp;omega))).trans x0;have x1:=(Ag al (by first | omega | (simp;omega))).trans x1;have x2:=(Ag al (by first | omega | (simp;omega))).trans x2;have x3:=(Ag al (by first | omega | (simp;omega))).trans x3;have fu:=fun o=>(al.frozen (p:=⟨ub,o,none⟩) (by first | (show ub<_;omega) | (simp;omega))).trans (fu o);replace al:=Hh al))
      all_goals
       go_wp2_with fail
       have cd:BW W1.heap.size W1 w1:=by first | exact al.out | exact Abm al.out
       have aI:=d.tp Jg t.out cd ⟨pa,bS,pc,pd⟩;replace aI:=Hh aI;go_roundw
       case rel=>exact ⟨j+1,_,by go_num,by omega,aI,an⟩
       case measure=>simp [intOf];omega
    .have cf:¬ (j:Int)<m:=(by omega);obtain ⟨fi,aS⟩:=Ex (hs.foldl Ct (B8 ws n));have an:us.map bz.pl=fi:=by rw [av.out,aS,C8 (by have:=hh.len;omega)]
     have a8:C1 hs ws=fi.map fun u=>⟨u.name,u.has,Gn ws u.left⟩:=by unfold C1;rw [a9.out,aS]
     have aC:=hU.us.map;obtain ⟨D,hD⟩:=Ex (Gr (us.map bz.key));rw [<- hD] at aC;clear aH a2 av;replace ⟨an,a8,aS,aC,hD⟩:=H5 an a8 aS aC hD
     go_wp2_with (first
      | (at_range;refine wpList_range_own _ rfl _ 328 rfl 9 331 (string_keyed Eg) Yo _ (w.heap.size+1) us.length _ rfl aC.out ?_;intro w0 aT aR bN;replace ⟨aT,aR,bN⟩:=H3 aT aR bN)
      | fail)
     obtain ⟨rI,bK⟩:=Ex (wr.heap.size);rw [<- bK] at aT ⊢;have cb:Hid (gp Al w ao n c us w0):=(by have hb:BW wr.heap.size wr w0:=⟨aR.os,aR.tape,aR.output,aR.size,fun k t=>aR.block k t (by simp)⟩;exact hU.drop Jg hb);have bM:w.heap.size<=rI:=by have:=hU.us.low.size;omega
     have bY:Hid (us.map bz.pl=fi.map fun u=>if has D (By u.name)=true then u else Xt ws u):=Hh (by
      rw [<- an.out];simp only [Dn];apply Va;intro u hu
      have:has D (By u.pl.name)=true:=by rw [hD.out,Aum];simp only [Dn,Ba];exact ⟨u,hu,rfl⟩
      simp [this])
     have bU:Hid (∀ u,u∈fi->u.left.length<=n/\u.left≠[]/\∀ p,p∈u.left->p<n):=Hh (by
      rw [aS.out];have h0:=(Uq ws n).2
      have b6:∀ (l:List bt) (h:eh),(∀ u,u∈l->u.left.length<=n/\u.left≠[]/\∀ p,p∈u.left->p<n)->∀ u,u∈Ct l h->u.left.length<=n/\u.left≠[]/\∀ p,p∈u.left->p<n:=fun l h hl u hu=>by
       unfold Ct at hu;split at hu
       .exact hl u hu
       .rcases Oj hu with hu | ⟨y,hy,rfl⟩
        .exact hl u hu
        .exact hl y hy
      have b5:∀ (hs:List eh) (l:List bt),(∀ u,u∈l->u.left.length<=n/\u.left≠[]/\∀ p,p∈u.left->p<n)->∀ u,u∈hs.foldl Ct l->u.left.length<=n/\u.left≠[]/\∀ p,p∈u.left->p<n:=fun hs=>by
       induction hs with
       | nil=>intro l hl;exact hl
       | cons h r ih=>intro l hl;exact ih _ (b6 l h hl)
      exact b5 hs _ h0)
     have bE:=hD;obtain ⟨N,hN⟩:=Ex (us.length);rw [<- hN] at aT;clear hU aC aR bN;replace ⟨bK,bM,hN⟩:=H3 bK bM hN;go_loopw [13] (fun _ wr=>∃ (left:Lit->Bool) (ei:Nat) (us:List bz),Hid (wr.ranges prog 9 Jf (w.heap.size+1) rI N D left ei)/\Hid (gp Al w ao n c us wr)/\Hid (D=Gr (us.map bz.key))/\Hid (us.map bz.pl=fi.map fun u=>if left (By u.name)=true then u else Xt ws u)) (fun _ wr=>wr.rangeLeft (w.heap.size+1) rI)
     case atStart=>exact ⟨_,_,us,aT,cb,bE,bY⟩
     case round=>
      obtain ⟨left,ei,us,bL,hU,bT,av⟩:=hrel
      go_wp2_with (first
       | (at_next;refine wpList_next_ranges _ rfl _ rfl 9 (string_keyed Eg) Jf Value.string id (fun b5 kl aB=>by obtain ⟨s,e,_⟩:=WideMaps.string_of_keyOf Eg aB;exact ⟨s,e⟩) (fun v y _=>⟨v,rfl⟩) (w.heap.size+1) rI N D left ei rfl bL.out ?_ ?_)
       | fail)
      .intro _ bG;have aY:us.map bz.pl=C1 hs ws:=(by rw [a8.out,av.out];apply Va;intro u _;rw [bG];rfl);replace ⟨bG,aY⟩:=H2 bG aY;go_wp2;go_ret;exact ⟨us,rfl,hU.out,aY.out⟩
      .intro x v kl y1 y2 w1 bl aB aP hv bx a3 bb bA bZ cB;obtain ⟨s',e1,e2,b4⟩:=WideMaps.string_of_keyOf Eg aB;injection e1 with e1;subst e1;have e3:kl=By x:=e2;subst e3;clear e2;have be:((us.map bz.key).map Prod.fst).Nodup:=by have:=hU.us.names;simpa [bz.key,Ik] using this
       have aD:∀ zd,(match Sq (us.map bz.key) x with | some b=>Je b | none=>zd)=y1:=fun zd=>by
        rw [<- bx zd,bT.out,Aia zd _ be]
        try cases Sq (us.map bz.key) x<;>rfl
       rw [Aib] at aD;rcases Su (fun u:bz=>decide (u.pl.name=x)) us with ⟨ac,aL⟩ | ⟨k,u,ac,t,aF⟩
       .exfalso;rw [aL] at aD;exact Abg (a:=0) ((aD (Je 0)).trans (aD Pk).symm)
       .rw [aF] at aD;have hy:=aD Pk;simp only [J9] at hy;have cm:=Ah8 (by rw [hv,hy]);subst cm;obtain ⟨ub,aK,⟨g,aM,ad⟩⟩:=u;have bH:g=x:=(by have:=Tb aF;simpa using this);subst bH;obtain ⟨cy,ct,cK,cI,cr,_,_,_,_,bD,_⟩:=bL.out;have d:=hU.iter Jg bD bM.out (Mod.grown bA (S:=fun b=>b=rI) (fun k t=>by injection t with t;exact t.symm))
        have ck:∃ q,fi[k]?=some q/\(⟨g,aM,ad⟩:bt)=q:=by
         have:=Ca (fun l=>l[k]?) av.out;simp only [Bh,t,J9] at this
         cases hq:fi[k]? with
         | none=>rw [hq] at this;cases this
         | some q=>
          rw [hq] at this;simp only [J9,Vd] at this;refine ⟨q,rfl,?_⟩;by_cases hl:left (By q.name)=true
          .rw [Ad hl] at this;exact this
          .exfalso;rw [Ac hl] at this;have ci:g=q.name:=Ca bt.name this;rw [<- ci] at hl;exact hl aP
        obtain ⟨q,hq,cl⟩:=ck;subst cl;obtain ⟨b1,b2,b3⟩:=bU _ (Ai hq);simp only at b1 b2 b3;have bQ:=hw.low d.us.low
        have bO:=At8 (d.us.left _ (Ai t)) b2 (by show ad.length<=20;omega) ao n c w.heap.size ws bQ d.pb b3 h1.out (fun b aA e c2=>by
         have h0:0<n:=by
          cases ad with
          | nil=>exact absurd rfl b2
          | cons p r=>have:=b3 p (Dl ..);omega
         obtain ⟨b',cp,e',co,_⟩:=hw.cell 0 _ (A4 (by have:=a9.out;omega));rw [e] at e';injection e' with e';injection e' with e';have:=(d.us.left _ (Ai t)).lt _ c2
         omega)
        have x4:w1.cell? ⟨ub,4,none⟩=some aK:=Aa (d.us.box _ (Ai t)).1 4;replace ⟨aB,aP,hv,bx,a3,bb,bA,bZ⟩:=H8 aB aP hv bx a3 bb bA bZ;replace ⟨b4,be,aD,ac,t,aF,hy,bD⟩:=H8 b4 be aD ac t aF hy bD;replace ⟨d,hq,b1,b2,b3,bQ,bO⟩:=H7 d hq b1 b2 b3 bQ bO;go_wp2_with (go_at_call 288;(with_reducible refine bO.out.mono ?_);rintro e w2 ⟨rfl,bI,bc⟩;replace ⟨bI,bc⟩:=H2 bI bc);have bs:=d.us.box _ (Ai t.out);have ba:=d.us.left _ (Ai t.out)
        have nb:aK.ownBlock≠some ub:=fun e=>by
         obtain ⟨c',hc⟩:=Jg.ar ba _ e;rw [bs.1] at hc;injection hc with hc;injection hc with _ hc;exact absurd hc (by decide)
        have bo:Hid (w2.ranges prog 9 Jf (w.heap.size+1) rI N D (fun z=>left z && !z.sameKey (By g)) bl):=by
         refine a3.kept bc.grownBy (fun e=>?_) (fun e=>?_)
         .obtain ⟨c',hc⟩:=Jg.ar ba _ e.symm;obtain ⟨b9,cx,bW⟩:=d.us.oq;rw [bW] at hc;cases hc
         .obtain ⟨c',hc⟩:=Jg.ar ba _ e.symm;obtain ⟨b9,cv,cL,cJ,cs,_,_,_,_,bV,_⟩:=a3.out;rw [bV] at hc;cases hc
        have aH:Hid (gp Al w ao n c (us.set k ⟨ub,aK,⟨g,aM,Gn ws ad⟩⟩) w2):=d.set Jg t.out (bc.mono fun _ _ e=>.inr e) rfl rfl (bc.ar bs.1 nb) bI.out (fun k t=>.inl t);have ca:Hid (D=Gr ((us.set k ⟨ub,aK,⟨g,aM,Gn ws ad⟩⟩).map bz.key)):=Hh (by rw [Aun (u':=⟨ub,aK,⟨g,aM,Gn ws ad⟩⟩) t.out rfl];exact bT.out)
        have a2:Hid ((us.set k ⟨ub,aK,⟨g,aM,Gn ws ad⟩⟩).map bz.pl=fi.map fun u=>if (left (By u.name) && !(By u.name).sameKey (By g))=true then u else Xt ws u):=Hh (by
         apply Ea;intro j;have hj:=Ca (fun l=>l[j]?) av.out;simp only [Bh] at hj ⊢;rw [Do];by_cases bF:k=j
         .subst bF;rw [Ad rfl,Ad (Ao.1 t.out).1,hq.out];have:(By g).sameKey (By g)=true:=(Abl g g).2 rfl;simp [this,Xt]
         .rw [Ac bF,hj]
          cases hqj:fi[j]? with
          | none=>rfl
          | some q2=>
           simp only [J9]
           have a5:¬ (By q2.name).sameKey (By g)=true:=fun e=>by
            have e2:=(Abl _ _).1 e;rw [hqj] at hj
            cases huj:us[j]? with
            | none=>rw [huj] at hj;cases hj
            | some u2=>
             rw [huj] at hj;simp only [J9,Vd] at hj
             have bX:u2.pl.name=q2.name:=by rw [hj];split<;>rfl
             have cj:=hU.us.names;have h6:(us.map fun u=>u.pl.name)[k]?=some g:=(by simp [t.out]);have h7:(us.map fun u=>u.pl.name)[j]?=some g:=(by simp [huj,bX,e2]);obtain ⟨i6,e6⟩:=Ao.1 h6;obtain ⟨i7,e7⟩:=Ao.1 h7;exact bF ((List.getElem_inj cj).1 (e6.trans e7.symm))
           rw [Za] at a5;rw [a5]
           simp)
        refine ⟨⟨_,bl,_,bo,aH,ca,a2⟩,?_⟩;rw [bo.left_eq,bL.left_eq];exact bb.out
end
section
open Go.RowKit Go.Maps Go.Sort Go.Shelf
def Aw7 (m:Nat):AnyZ.SortsIn prog Tryz.ia Fence.wide m:=
 ⟨fun d c cap ss W e a b=>O2.2 (AnyM.slices_Sort_string Tryz.ti d c cap ss W e a b), fun p cap W=>O2.2 (AnyM.slices_Sort_string_none Tryz.ti p cap W)⟩
def Aw8 {H:Type} (b nn:Nat) (d:DataW H) (R:VL->Option (DataW H×List MemPlace)) (w:WD) (c:w.ownsMap prog 9 R b nn d) (g:Maps.size d<=maxLen) (a:Maps.size d*16<=140737488355328) :
  CS prog 249 #[.map (some b)] w fun e w'=>∃ (v:VL) (ss:List (List UInt8)),e=.returned v/\ss.Perm (strKeys d) /\
   w'.ownsRow w.heap.size 9 1 v ss.length ((ss.mergeSort (fun x y=>decide (x<=y))).map encStr)/\(v=.slice none 0 0↔ss=[])/\BW w.heap.size w w':=by
 refine (O2 (n:=6)).1 ?_;have l:=c.lt
 have i:SeqGives Fence.wide 2 prog 324 #[.pointer (some ⟨w.heap.size,0,none⟩)] encStr (fun ss=>ss.Perm (strKeys d)) (Maps.size d) (w.alloc (.cells #[.map (some b)] 328)):=
  AnyZ.keys_gives (ρ:=Tryz.jm) { Tryz.sk with } Fence.wide _ trivial rfl (by omega) w.heap.size b nn d _ (by simp) (by simp) (by
   obtain ⟨r,f,k,o,hs,s⟩:=c
   exact ⟨r,f,(Gz _ _ b l).trans k,o,hs,s⟩)
 have q:∀ j W,CallsIn Fence.wide 5 prog 292 #[.map j] W fun e w'=>e=.returned (.func (.func 324) #[] #[.pointer (some ⟨W.heap.size,0,none⟩)])/\w'=W.alloc (.cells #[.map j] 328):=fun j W=>AnyZ.keys_in Tryz.sk Fence.wide 5 trivial rfl j W;have m:=AnyZ.sorted_in Tryz.rz Fence.wide 5 trivial trivial trivial trivial rfl (by omega) (Aw7 _) (enters_of func323 (by kernel_rfl) rfl) 324 #[.pointer (some ⟨w.heap.size,0,none⟩)] trivial (enters_of func324 (by kernel_rfl) rfl) _ _ g a _ i;change CallsIn _ _ prog 291 _ _ _ at m;have u:Fence.wide.fn 292:=trivial;have z:Fence.wide.fn 291:=trivial;refine callsIn_of_wp func249 rfl trivial ?_ rfl;simp only [ntmps249,Ve,Il,P1,Nat.reduceAdd,Nat.reduceSub,Yt,Yu,Y4,Yx,Rg,Ox]
 gi_wp2_with (first
  | (gi_at_call 292;refine (q _ _).mono ?_;rintro e w' ⟨rfl,rfl⟩)
  | (gi_at_call 291;refine m.mono ?_;rintro e w' ⟨v,ss,rfl,t,p,h,k⟩))
 go_ret;exact ⟨v,ss,rfl,t,ownsRow_base_a p (by simp),h,((Below.refl _ w).alloc Ln _).trans (k.mono (by simp))⟩
