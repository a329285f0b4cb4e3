/- Parts Stb, Ins, Usm, Uss, Srd. Plain theorems: no condition. -/
import Derived.Test.YtimlcnhcjndijaaGreatDoorQ18
import Derived.Test.YtimlcnhcjndijaaGreatDoorQ30
set_option linter.all false
set_option maxRecDepth 100000
set_option maxHeartbeats 3200000
namespace Go.Proofs.YtimlcnhcjndijaaGreatDoor
open Go.RowKit Go.Maps Go.Lib Go.Sort
abbrev Qq (x:cz):Array Value:=#[.int .i64 x.id,.string x.user,.int .i64 x.prio,.int .i64 x.ml.a,.int .i64 x.ml.b,.int .i64 x.ml.c,.int .i64 x.ml.d]
structure Kl (w:World) (ao:Option Addr) (n:Nat) (ws:List cz):Prop where
 len:ws.length=n
 max:n<=1000000
 cell:∀ i x,ws[i]?=some x->∃ b off,ao=some ⟨b,off,none⟩/\b<w.heap.size/\∀ j,j<7->w.cell? ⟨b,off+i*7+j,none⟩=(Qq x)[j]?
def Kl.mod {S:Nat->Prop} {w w':World} {d:Option Addr} {n:Nat} {f:List cz} (h:Kl w d n f) (g:Mod S w w') (k:∀ b a,d=some ⟨b,a,none⟩->¬ S b):Kl w' d n f:=
 ⟨h.len,h.max,fun i x l=>by
  obtain ⟨b,a,e,c,m⟩:=h.cell i x l;refine ⟨b,a,e,Br c g.size,fun j o=>?_⟩;rw [<- m j o]
  simp only [World.cell?,g.block b c (k b a e)]⟩
def Qr (a b:cz):Int:=if compareInt b.prio a.prio≠0 then compareInt b.prio a.prio else compareInt a.id b.id
def Arx (ao:Option Addr) (n c:Nat) (s:List cz) (t i j:Nat) (x y:cz) (w:World) (h:Kl w ao n s) (hp:w.heap[t]?=some (.cells #[.slice ao n c] 273 (0,0))) (z:s[i]?=some x) (hy:s[j]?=some y) :
  Calls Tryz.prog 289 #[.int .i64 (i:Int),.int .i64 (j:Int),.pointer (some ⟨t,0,none⟩)] w fun e w'=>e=.returned (.int .i64 (Qr x y))/\∃ q,w'=w.drewN q:=by
 obtain ⟨b,a,rfl,al,g⟩:=h.cell i x z;obtain ⟨b',ac,e,ad,k⟩:=h.cell j y hy;injection e with e;injection e with e1 e2;subst e1 e2;have hi:=(Aq.1 z).1;have hj:=(Aq.1 hy).1;have hl:=h.len;have p0:=Bk hp 0 (.slice (some ⟨b,a,none⟩) n c) rfl;have x0:w.cell? ⟨b,a+i*7,none⟩=some (.int .i64 x.id):=g 0 (by omega);have x2:w.cell? ⟨b,a+i*7+2,none⟩=some (.int .i64 x.prio):=g 2 (by omega);have y0:w.cell? ⟨b,a+j*7,none⟩=some (.int .i64 y.id):=k 0 (by omega);have y2:w.cell? ⟨b,a+j*7+2,none⟩=some (.int .i64 y.prio):=k 2 (by omega);have g1:(i:Int)<n:=by omega
 have g2:(j:Int)<n:=by omega
 have g3:(0:Int)<=i:=by omega
 have g4:(0:Int)<=j:=by omega
 have l:Qr x y=if compareInt y.prio x.prio≠0 then compareInt y.prio x.prio else compareInt x.id y.id:=rfl
 obtain ⟨u,m⟩:=Ex (compareInt y.prio x.prio);obtain ⟨v,o⟩:=Ex (compareInt x.id y.id);rw [<- m,<- o] at l;have p:=fun W=>Tryz.cmp_Compare_int y.prio x.prio W;have r:=fun W=>Tryz.cmp_Compare_int x.id y.id W;rw [<- m] at p;rw [<- o] at r;clear z hy h hp g k;replace ⟨l,p,r,m,o,hl⟩:=H6 l p r m o hl;go_enter Tryz.func289,Tryz.ntmps289;go_upto_region 1 with fail;go_quiet ((go_at_call 290;(with_reducible exact Kt (p.out _))));obtain ⟨W,f⟩:=Ex (w.drewN nq);have am:W.cell? ⟨t,0,none⟩=some (.slice (some ⟨b,a,none⟩) n c):=by rw [f];exact p0
 have an:W.cell? ⟨b,a+i*7,none⟩=some (.int .i64 x.id):=by rw [f];exact x0
 have ap:W.cell? ⟨b,a+j*7,none⟩=some (.int .i64 y.id):=by rw [f];exact y0
 rw [<- f];clear p0 x0 x2 y0 y2;replace f:=Hh f;by_cases h0:u=0
 .subst h0;have d:Qr x y=v:=by rw [l.out,Ac (by simp)]
  replace d:=Hh d;go_upto_region 4 with fail;go_quiet ((go_at_call 290;(with_reducible exact Kt (r.out _))));go_wp2_with fail;go_ret;exact ⟨by rw [d.out];rfl,_,by rw [f.out,World.drewN_drewN]⟩
 .have d:Qr x y=u:=by rw [l.out,Ad h0]
  have av:(u != 0)=true:=by rw [Fg];exact h0
  replace d:=Hh d;go_wp2_with fail;go_ret;exact ⟨by rw [d.out];rfl,_,f.out⟩
def Ary (a b:cz):Qr a b<0↔(b.prio<a.prio\/(a.prio=b.prio/\a.id<b.id)):=by
 unfold Qr compareInt;by_cases d:b.prio<a.prio
 .simp [d]
 .by_cases g:a.prio<b.prio
  .simp [d,g];omega
  .have e:a.prio=b.prio:=(by omega);by_cases c:a.id<b.id
   .simp [e,c]
   .by_cases f:b.id<a.id
    .simp [e,c,f]
    .simp [e,c,f]
def Fb {n:Nat} (i:Fin n):Value:=.int .i64 ((i.val:Nat):Int)
def ko (ws:List cz) {n:Nat} (i j:Fin n):Int:=Qr (A5 ws i) (A5 ws j)
def Ua (a:List cz) {n:Nat} (i j:Fin n):ltOf (ko a) i j=true↔((A5 a j).prio<(A5 a i).prio\/((A5 a i).prio=(A5 a j).prio/\(A5 a i).id<(A5 a j).id)):=by
 unfold ltOf ko;rw [decide_eq_true_iff,Ary]
def Sf (a:List cz) {n:Nat} (i j:Fin n):ltOf (ko a) i j=false↔¬ ((A5 a j).prio<(A5 a i).prio\/((A5 a i).prio=(A5 a j).prio/\(A5 a i).id<(A5 a j).id)):=by
 rw [<- Ua,Bool.not_eq_true]
def Zz (a:List cz) (n:Nat):SWO (ltOf (ko a):Fin n->Fin n->Bool) where
 irrefl x:=by rw [Sf];omega
 trans x y z:=by rw [Ua,Ua,Ua];omega
 ntrans x y z:=by rw [Sf,Sf,Sf];omega
def Arz (a:List cz) {n:Nat} (i j:Fin n):(!ltOf (ko a) j i)=ur (A5 a i) (A5 a j):=by
 cases h:ltOf (ko a) j i
 .rw [Sf] at h
  symm
  simp [ur];omega
 .rw [Ua] at h
  symm
  simp [ur];omega
def Ub (ws:List cz):Prop:=∀ (i j:Nat) (x y:cz),ws[i]?=some x->ws[j]?=some y->x.id=y.id->i=j
def Ar0 (c:List cz) (n:Nat) (k:c.length=n) (h1:Ub c) [Inhabited (Fin n)] (d f:Array (Fin n)) (g:PermIn 0 d.size d f) (h:SortedIn (ltOf (ko c)) 0 d.size f):f.toList.map Fin.val=F3 c (d.toList.map Fin.val):=by
 rw [sorted_unique_holds (lt:=ltOf (ko c)) (Zz c n) (fun x y a b=>by
  rw [Sf] at a b;have e:(A5 c x).id=(A5 c y).id:=by omega
  have i:c[x.val]?=some (A5 c x):=by have:=x.isLt;unfold A5;rw [Am (by omega)];rfl
  have j:c[y.val]?=some (A5 c y):=by have:=y.isLt;unfold A5;rw [Am (by omega)];rfl
  exact Fin.ext (h1 _ _ _ _ i j e)) d f g h]
 unfold F3;exact List.map_mergeSort (fun a _ b _=>Arz c a b)
def Ar1 {n:Nat} [Inhabited (Fin n)] (w:World) (g m:Nat) (d:Array (Fin n)) (os:Array Obj):Mod (fun b=>b=g) w (sortWorld Fb w g 0 m d os):=by
 refine ⟨rfl,rfl,rfl,by simp [sortWorld,putRow,mapBlock,Sort.ahead],fun k a c=>?_⟩;unfold sortWorld;rw [heap_grow_old _ _ (by simpa [putRow,mapBlock,Sort.ahead] using a)];have:g≠k:=fun e=>c e.symm;simp [putRow,mapBlock,Sort.ahead,Sv,this]
def Cy (l:List Nat):List Int:=l.map fun (i:Nat)=>(i:Int)
def Afu {n:Nat} (d:Array (Fin n)):d.toList.map Fb=Bs (Cy (d.toList.map Fin.val)):=by
 simp [Bs,Cy,Fb,G6]
def Afv {w:World} (j:Option Addr) (n c i:Nat) (f:List cz) (k:Kl w j n f) (p:w.heap[i]?=some (.cells #[.slice j n c] 273 (0,0))) [Inhabited (Fin n)] (g cap a b:Nat) (d:Array (Fin n)) (r:Holds Fb w g 0 d)
  (s:i≠g) (t:∀ b h,j=some ⟨b,h,none⟩->b≠g) (l:a<=b) (u:b<=d.size) (v:d.size<=1000) :
  Calls Tryz.prog 334 #[.slice (some ⟨g,0,none⟩) d.size cap,.int .i64 (a:Int),.int .i64 (b:Int),.func (.func 289) #[] #[.pointer (some ⟨i,0,none⟩)]] w fun e w'=>e=.returned (.tuple #[])/\∃ q,w'=(putRow Fb w g 0 (Sort.insertionSort (ltOf (ko f)) d a b)).drewN q:=by
 refine Any.insertionSortCmpFunc_one Tryz.vz Fb (fun _=>rfl) (ko f) 289 #[.pointer (some ⟨i,0,none⟩)] g 0 cap a b d w (Im Tryz.func289 (by decide) (by simp [Tryz.f289])) ?_ r l u (by omega);intro m os z _ x y;have o:=Ar1 w g m z os;have ex:f[x.val]?=some (A5 f x):=by have:=x.isLt;have:=k.len;unfold A5;rw [Am (by omega)];rfl
 have ey:f[y.val]?=some (A5 f y):=by have:=y.isLt;have:=k.len;unfold A5;rw [Am (by omega)];rfl
 exact Arx j n c f i x y _ _ _ (k.mod o fun b h e c=>t b h e c) (o.aq p s) ex ey
def Afw {n:Nat} [Inhabited (Fin n)] (w:World) (g q:Nat) (d:Array (Fin n)):Mod (fun b=>b=g) w ((putRow Fb w g 0 d).drewN q):=
 ⟨rfl,rfl,rfl,by simp [putRow,mapBlock,World.drewN],fun k _ a=>by
  have:g≠k:=fun e=>a e.symm
  simp [putRow,mapBlock,Sv,this,World.drewN]⟩
def Ar2 {w:World} (v:Option Addr) (n c l:Nat) (k:List cz) (s:Kl w v n k) (t:w.heap[l]?=some (.cells #[.slice v n c] 273 (0,0))) [Inhabited (Fin n)] (g cap m:Nat) (d:Array (Fin n)) (u:Holds Fb w g 0 d) (hd:d.size=m)
  (z:l≠g) (o:∀ b p,v=some ⟨b,p,none⟩->b≠g) (hm:m<=20) :
  Calls Tryz.prog 321 #[.slice (some ⟨g,0,none⟩) m cap,.int .i64 (m:Int),.func (.func 289) #[] #[.pointer (some ⟨l,0,none⟩)]] w fun e w'=>e=.returned (.tuple #[])/\∃ q,w'=(putRow Fb w g 0 (Sort.insertionSort (ltOf (ko k)) d 0 m)).drewN q:=by
 subst hd
 have j:Calls Tryz.prog 334 #[.slice (some ⟨g,0,none⟩) d.size cap,.int .i64 0,.int .i64 (d.size:Int),.func (.func 289) #[] #[.pointer (some ⟨l,0,none⟩)]] w fun e w'=>e=.returned (.tuple #[])/\∃ q,w'=(putRow Fb w g 0 (Sort.insertionSort (ltOf (ko k)) d 0 d.size)).drewN q:=
  Afv v n c l k s t g cap 0 d.size d u z o (Av _) Ln (by omega)
 obtain ⟨i,a⟩:=Ex (Sort.insertionSort (ltOf (ko k)) d 0 d.size);have f:i.size=d.size:=by rw [a];exact (insertionSort_holds (lt:=ltOf (ko k)) (Zz k n) d 0 d.size (Av _) Ln).1.1
 rw [<- a] at j ⊢;obtain ⟨m,h⟩:=Ex (d.size);rw [<- h] at hm j f;rw [<- h];by_cases ac:m=20
 .subst ac
  have r:∀ q,Calls Tryz.prog 334 #[.slice (some ⟨g,0,none⟩) 20 cap,.int .i64 20,.int .i64 20,.func (.func 289) #[] #[.pointer (some ⟨l,0,none⟩)]] ((putRow Fb w g 0 i).drewN q) fun e w'=>e=.returned (.tuple #[])/\∃ q,w'=(putRow Fb w g 0 i).drewN q:=fun q=>by
   have x:=Afw w g q i;have y:Holds Fb ((putRow Fb w g 0 i).drewN q) g 0 i:=holds_putRow Fb w g 0 d i u (by omega);have:=Afv v n c l k (s.mod x fun b p e c=>o b p e c) (x.aq t z) g cap 20 20 i y z o Ln (by omega) (by omega);rw [f] at this;refine this.mono ?_;rintro e w' ⟨rfl,q2,rfl⟩;have e1:Sort.insertionSort (ltOf (ko k)) i 20 20=i:=insOuter_stop _ _ _ _ _ (by omega);rw [e1,putRow_self Fb _ g 0 i y,World.drewN_drewN];exact ⟨rfl,_,rfl⟩
  replace j:Calls Tryz.prog 334 #[.slice (some ⟨g,0,none⟩) 20 cap,.int .i64 0,.int .i64 20,.func (.func 289) #[] #[.pointer (some ⟨l,0,none⟩)]] w fun e w'=>e=.returned (.tuple #[])/\∃ q,w'=(putRow Fb w g 0 i).drewN q:=j;replace ⟨j,r,s,t,u,o,h,a⟩:=H8 j r s t u o h a;replace f:=Hh f;go_enter Tryz.func321,Tryz.ntmps321;go_wp2_with fail;refine Nr 2 ?_;rw [Jc];go_wp2_with (go_at_call 334;(with_reducible refine j.out.mono ?_);rintro e w1 ⟨rfl,q,rfl⟩);rw [Jc];go_wp2_with (go_at_call 334;(with_reducible refine (r.out _).mono ?_);rintro e w1 ⟨rfl,q,rfl⟩);refine Nr 1 ?_;rw [Jc];go_wp2;go_end0;exact ⟨rfl,_,rfl⟩
 .have g1:¬ (20:Int)<=(m:Int):=by omega
  replace ⟨j,s,t,u,o,h,a,f⟩:=H8 j s t u o h a f;go_enter Tryz.func321,Tryz.ntmps321;go_wp2_with fail;refine Nr 1 ?_;rw [Jc];go_wp2_with (go_at_call 334;(with_reducible refine j.out.mono ?_);rintro e w1 ⟨rfl,q,rfl⟩);refine Nr 1 ?_;rw [Jc];go_wp2;go_end0;exact ⟨rfl,_,rfl⟩
def O6 (l:List Nat):(Cy l).length=l.length:=Ax _
def Ar3 {w:World} {B:Nat} {v:Value} {l:List Nat} (h:Ak w B v (Cy l)) (h0:l≠[]) (hl:l.length<=20) (ao:Option Addr) (n c pb:Nat) (s:List cz) (hw:Kl w ao n s) (hp:w.heap[pb]?=some (.cells #[.slice ao n c] 273 (0,0)))
  (t:∀ i,i∈l->i<n) (h1:Ub s) (ha:∀ b ac,ao=some ⟨b,ac,none⟩->v.ownBlock≠some b) :
  Calls Tryz.prog 288 #[v,.func (.func 289) #[] #[.pointer (some ⟨pb,0,none⟩)]] w fun e w'=>e=.returned (.tuple #[])/\Ak w' B v (Cy (F3 s l))/\Mod (fun b=>v.ownBlock=some b) w w':=by
 obtain ⟨i0,al⟩:∃ i,i∈l:=by
  cases l with
  | nil=>exact absurd rfl h0
  | cons x r=>exact ⟨x,E2 ..⟩
 haveI:Inhabited (Fin n):=⟨⟨i0,t i0 al⟩⟩
 obtain ⟨d,hd⟩:∃ d:Array (Fin n),d=(l.pmap (fun i hi=>(⟨i,hi⟩:Fin n)) t).toArray:=⟨_,rfl⟩;have o:d.toList.map Fin.val=l:=by rw [hd];simp [List.map_pmap]
 have u:d.size=l.length:=by rw [hd];simp
 have ak:w.ownsRow B 3 1 v l.length (d.toList.map Fb):=by rw [Afu,o];have:=h.row;rw [O6] at this;exact this
 obtain ⟨g,cap,rfl,ap,av,aA,aB,_,hH⟩:=holds_of_ownsRow (enc:=Fb) (zs:=d.toList) ak (fun e=>by
  obtain ⟨so,m,c',e',hm⟩:=h.len;rw [e] at e';injection e' with _ e';rw [O6] at hm
  exact h0 (Fw.1 (by omega)))
 have hH:Holds Fb w g 0 d:=hH
 have am:pb≠g:=fun e=>by
  obtain ⟨aC,a,_⟩:=C1 h.row (g:=g) rfl;rw [<- e,hp] at a;injection a with a;injection a with _ a;exact absurd a (by decide)
 have p:=Ar2 ao n c pb s hw hp g cap l.length d hH u am (fun b ac e c=>ha b ac e (by rw [c];rfl)) hl;obtain ⟨z,hS⟩:=insertionSort_holds (lt:=ltOf (ko s)) (Zz s n) d 0 d.size (Av _) Ln;have j:=Ar0 s n hw.len h1 d _ z hS;rw [u] at j z;obtain ⟨y,ad⟩:=Ex (Sort.insertionSort (ltOf (ko s)) d 0 l.length);rw [<- ad] at p j z
 have f:∀ q,Ak ((putRow Fb w g 0 y).drewN q) B (.slice (some ⟨g,0,none⟩) l.length cap) (Cy (F3 s l)):=fun q=>by
  have an:(F3 s l).length=l.length:=by rw [<- o,<- j];simp only [Ax];have:=z.1;have e1:y.toList.length=y.size:=rfl;omega
  have:=ownsRow_putRow (q:=q) (k:=l.length) (ys:=y.toList) ak (by have:=z.1;have e1:y.toList.length=y.size:=rfl;omega) Ln;rw [Dn (by have:=z.1;have e1:y.toList.length=y.size:=rfl;omega),Afu,j,o] at this;refine ⟨?_⟩;rw [O6,an];exact this
 obtain ⟨m,hm⟩:=Ex (l.length);rw [<- hm] at p f ⊢;replace ⟨p,f,hw,hp,h,hd,o,u⟩:=H8 p f hw hp h hd o u;replace ⟨ak,hH,z,hS,j,ad,hm,ha⟩:=H8 ak hH z hS j ad hm ha;replace ⟨t,h1⟩:=H2 t h1;go_enter Tryz.func288,Tryz.ntmps288;go_wp2_with (go_at_call 321;(with_reducible refine p.out.mono ?_);rintro e w1 ⟨rfl,q,rfl⟩);go_end0;exact ⟨rfl,f.out q,(Afw w g q y).mono fun b _ e=>by rw [e];rfl⟩
end Go.Proofs.YtimlcnhcjndijaaGreatDoor
namespace Go.Proofs.YtimlcnhcjndijaaGreatDoor
open Go.RowKit Go.Maps Go.Lib
variable {w w1 w':World} {B:Nat}
structure C4 (w:World) (B:Nat) (v:Value) (l:List Int):Prop where
 is:(v=.slice none 0 0/\l=[])\/∃ g off cap cur,v=.slice (some ⟨g,off,none⟩) l.length cap/\B<=g/\w.heap[g]?=some (.cells cur 3 (0,0))/\l.length<=cap/\off+cap<=cur.size/\cap<=maxLen/\∀ i x,l[i]?=some x->cur[off+i]?=some (.int .i64 x)
def C4.of {v:Value} {l:List Int} (h:Ak w B v l):C4 w B v l:=by
 rcases h.row.2 with ⟨rfl,h0⟩ | ⟨g,cap,a,rfl,c,d,h1,e,j,f⟩
 .exact ⟨.inl ⟨rfl,Fw.1 h0⟩⟩
 .refine ⟨.inr ⟨g,0,cap,a,rfl,c,d,h1,by omega,e,fun i x b=>?_⟩⟩;have k:=(Aq.1 b).1
  have:(a.toList.take (l.length*1))[i]?=some (.int .i64 x):=by rw [f];simp [Bs,b]
  rw [Lq,Ad (by omega)] at this;simpa using this
def C4.form {v:Value} {l:List Int} (h:C4 w B v l):∃ so c,v=.slice so l.length c/\l.length<=c/\c<=maxLen/\∀ b o,so=some ⟨b,o,none⟩->B<=b/\b<w.heap.size:=by
 rcases h.is with ⟨rfl,rfl⟩ | ⟨g,a,cap,d,rfl,f,i,h1,k,j,m⟩
 .exact ⟨none,0,rfl,Nat.le_refl _,by unfold maxLen;omega,fun b o e=>by cases e⟩
 .refine ⟨_,_,rfl,h1,j,fun b o e=>?_⟩;injection e with e;injection e with e1 e2;subst e1;exact ⟨f,Ab i⟩
def C4.pos {v:Value} {l:List Int} (h:C4 w B v l) (c:0<l.length):∃ g a cap,v=.slice (some ⟨g,a,none⟩) l.length cap/\B<=g/\l.length<=cap/\cap<=maxLen/\(∀ o,w.frozen? ⟨g,o,none⟩=false)/\∀ i x,l[i]?=some x->w.cell? ⟨g,a+i,none⟩=some (.int .i64 x):=by
 rcases h.is with ⟨rfl,rfl⟩ | ⟨g,a,cap,d,rfl,e,b,h1,m,f,j⟩
 .simp at c
 .refine ⟨g,a,cap,rfl,e,h1,f,Ah b,fun i x k=>?_⟩;rw [<- j i x k];simp [World.cell?,b]
def C4.lt {v:Value} {l:List Int} (h:C4 w B v l):∀ k,v.ownBlock=some k->B<=k/\k<w.heap.size:=fun k a=>by
 rcases h.is with ⟨rfl,rfl⟩ | ⟨g,b,cap,c,rfl,d,e,_⟩
 .simp [Value.ownBlock] at a
 .simp [Value.ownBlock] at a;subst a;exact ⟨d,Ab e⟩
def C4.aq {v:Value} {l:List Int} (h:C4 w B v l) {k:Nat} (a:v.ownBlock=some k):∃ c,w.heap[k]?=some (.cells c 3 (0,0)):=by
 rcases h.is with ⟨rfl,rfl⟩ | ⟨g,b,cap,d,rfl,f,e,_⟩
 .simp [Value.ownBlock] at a
 .simp [Value.ownBlock] at a;subst a;exact ⟨_,e⟩
def C4.mod {S:Nat->Prop} {v:Value} {l:List Int} (h:C4 w B v l) (c:Mod S w w') (d:∀ k,v.ownBlock=some k->¬ S k):C4 w' B v l:=by
 rcases h.is with ⟨rfl,rfl⟩ | ⟨g,a,cap,b,rfl,e,f,r⟩
 .exact ⟨.inl ⟨rfl,rfl⟩⟩
 .exact ⟨.inr ⟨g,a,cap,b,rfl,e,c.aq f (d g rfl),r⟩⟩
def C4.tail {g a n cap:Nat} {x:Int} {l:List Int} (h:C4 w B (.slice (some ⟨g,a,none⟩) n cap) (x :: l)):C4 w B (.slice (some ⟨g,if cap=1 then a else a+1,none⟩) l.length (cap-1)) l:=by
 rcases h.is with ⟨h,_⟩ | ⟨o,c,d,b,e,j,k,h1,p,q,m⟩
 .cases h
 .injection e with e1 e2 e3;injection e1 with e1;injection e1 with e1 e4;subst e1 e3 e4;simp at h1;refine ⟨.inr ⟨g,_,cap-1,b,rfl,j,k,by omega,by split<;>omega,by omega,fun i y f=>?_⟩⟩;have r:=(Aq.1 f).1;have:=m (i+1) y (by simpa using f);split
  .omega
  .rw [<- this];congr 1;omega
def Wk (w:World) (B:Nat) (v:Value) (l:List Int) (e:Ending) (w':World):Prop:=
 ∃ v',e=.returned v'/\C4 w' B v' l/\Mod (fun b=>v.ownBlock=some b) w w'/\(v'.ownBlock=v.ownBlock\/v'.ownBlock=some w.heap.size)
def Uc {w:World} {g:Nat} {d:Array Value} {T:TypeId} (h:w.heap[g]?=some (.cells d T (0,0))) (a:Nat) (xs:List Value) (j:a+xs.length<=d.size) :
  ∃ c,(w.setCells g a xs).heap[g]?=some (.cells c T (0,0))/\c.size=d.size/\(∀ i x,xs[i]?=some x->c[a+i]?=some x)/\(∀ i,(i<a\/a+xs.length<=i)->c[i]?=d[i]?)/\Mod (fun b=>b=g) w (w.setCells g a xs):=by
 induction xs generalizing w d a with
 | nil=>exact ⟨d,by simpa [World.setCells] using h,rfl,fun i x j=>by simp at j,fun _ _=>rfl,by simpa [World.setCells] using Mod.refl _ w⟩
 | cons x l ih=>
  have h1:=Al h a x;obtain ⟨c,a1,a2,a3,k,m⟩:=ih h1 (a+1) (by simp at j ⊢;omega);have e:w.setCells g a (x :: l)=(w.setCell ⟨g,a,none⟩ x).setCells g (a+1) l:=rfl;refine ⟨c,by rw [e];exact a1,by simpa using a2,fun i y f=>?_,fun i n=>?_,by rw [e];exact (Mod.setCell (S:=fun b=>b=g) w g a x rfl).trans m⟩
  .match i,f with
   | 0,f=>
    simp at f j;subst f;have o:a<d.size:=(by omega);rw [Nt,k a (.inl (by omega)),Mr];simp [o]
   | i+1,f=>
    have:=a3 i y (by simpa using f);rw [<- this];congr 1;omega
  .simp only [Jy] at n;rw [k i (by omega)];simp [Mr];omega
def Ud (l:List Int) (i:Nat):(Bs l)[i]?=(l[i]?).map (Value.int .i64):=by simp [Bs]
def Afx (l:List Int):∀ v,v∈Bs l->v.oneCell'=true:=fun v a=>by
 obtain ⟨x,_,rfl⟩:=Bd.1 a;rfl
def Wl (l:List Int) (k:Int) {at_:Nat} (a:at_<=l.length) (i:Nat):(l.take at_++k :: l.drop at_)[i]?=if i<at_ then l[i]? else if i=at_ then some k else l[i-1]?:=by
 by_cases h1:i<at_
 .rw [Ad h1,Fv (by simp;omega),Lq,Ad h1]
 .rw [Ac h1,G5 (by simp;omega),Ff,Mu a];by_cases b:i=at_
  .subst b;simp
  .rw [Ac b,show i-at_=(i-at_-1)+1 by omega,List.getElem?_cons_succ,Ol];congr 1;omega
def Ar4 {v:Value} {l:List Int} (hq:C4 w B v l) (k:Int) (at_:Nat) (q:at_<=l.length) (hl:l.length<=1000000) (vb:Nat) (ac:w.heap[vb]?=some (.cells #[.int .i64 k] 3 (0,0))) (ap:v.ownBlock≠some vb) (hB:B<=w.heap.size) :
  Calls Tryz.prog 265 #[v,.int .i64 (at_:Int),.slice (some ⟨vb,0,none⟩) 1 1] w (Wk w B v (l.take at_++k :: l.drop at_)):=by
 have r:∀ (j:Nat) (u:Value),([.int .i64 k]:List Value)[j]?=some u->w.cell? ⟨vb,0+j,none⟩=some u:=fun j u n=>by
  match j,n with
  | 0,n=>
   simp at n;subst n;exact Aa ac 0
 have s:∀ u,u∈([.int .i64 k]:List Value)->u.oneCell'=true:=by simp [Value.oneCell']
 have p:(l.take at_++k :: l.drop at_).length=l.length+1:=by simp;omega
 have m:∀ (cap:Nat) (h:Array Value) (w':World),w'.heap[w.heap.size]?=some (.cells h 3 (0,0))->Mod (fun b=>v.ownBlock=some b) w w'->l.length+1<=cap->cap<=maxLen->cap<=h.size->(∀ (i:Nat) (x:Int),(l.take at_++k :: l.drop at_)[i]?=some x->h[i]?=some (.int .i64 x)) ->
   Wk w B v (l.take at_++k :: l.drop at_) (.returned (.slice (some ⟨w.heap.size,0,none⟩) (l.length+1) cap)) w':=fun cap h w' h1 h2 h3 h4 h5 h6=>
  ⟨_,rfl,⟨.inr ⟨w.heap.size,0,cap,h,by rw [p],hB,h1,by rw [p];exact h3,by omega,h4,fun i x c=>by simpa using h6 i x c⟩⟩,h2,.inr rfl⟩
 rcases hq.is with ⟨rfl,rfl⟩ | ⟨g,d,cap,h,rfl,hb,hg,h1,h2,h3,h4⟩
 .obtain rfl:at_=0:=by simpa using q
  refine (Any2.slices_Insert_int_end_grow Tryz.fk none 0 0 vb 0 1 1 [] [Value.int .i64 k] w (by omega) Ln (by omega) (by omega) rfl rfl (fun _=>rfl) (fun a e=>by cases e) r s).mono ?_;rintro e w' ⟨rfl,rfl⟩;refine m _ _ _ (Af _ _) ((Mod.refl _ w).drew.trans (Mod.alloc _ _ _)) (grownCap_ge _ _ _ _) (grownCap_le_maxLen _ _ _ _ (by unfold maxLen;omega)) ?_ ?_
  .have:=grownCap_ge w (0+1) 0 3;simp [size_zeroCells,Value.cells];omega
  .intro i x c
   match i,c with
   | 0,c=>
    simp at c;subst c;rw [Ut (by simp)];rfl
 .have al:∀ (j:Nat) (u:Value),(Bs l)[j]?=some u->w.cell? ⟨g,d+j,none⟩=some u:=fun j u n=>by
   rw [Ud] at n
   cases c:l[j]? with
   | none=>rw [c] at n;cases n
   | some x=>
    rw [c] at n;simp at n;subst n;rw [<- h4 j x c];simp [World.cell?,hg]
  have av:g≠vb:=fun e=>ap (by rw [e];rfl);have an:=Ah hg
  have t:∀ o,o<h.size->(w.cell? ⟨g,o,none⟩).isSome=true:=fun o ho=>by
   simp [World.cell?,hg,ho]
  by_cases f:l.length+1<=cap
  .by_cases he:at_=l.length
   .subst he;refine (Any2.slices_Insert_int_end_room Tryz.fk g d l.length cap vb 0 1 1 [.int .i64 k] w (by omega) f (by unfold maxLen at h3;omega) rfl (fun j hj=>t _ (by omega)) (fun j _=>an _) r s).mono ?_;rintro e w' ⟨rfl,rfl⟩;obtain ⟨y,a1,a2,a3,a4,a5⟩:=Uc hg (d+l.length) [.int .i64 k] (by simp;omega);refine ⟨_,rfl,⟨.inr ⟨g,d,cap,y,by rw [p],hb,a1,by rw [p];exact f,by omega,h3,fun i x c=>?_⟩⟩,a5.mono (fun b _ e=>by rw [e];rfl),.inl rfl⟩;rw [Wl l k q] at c;split at c
    .rw [a4 _ (.inl (by omega))];exact h4 i x c
    .split at c
     .rename_i e;subst e;injection c with c;subst c;exact a3 0 _ rfl
     .rw [Q4 (by omega)] at c;cases c
   .have ad:at_<l.length:=by omega
    refine (Any2.slices_Insert_int_shift Tryz.fk g d l.length cap at_ vb 0 1 1 (Bs l) [.int .i64 k] w ad (by omega) f (by unfold maxLen at h3;omega) (fun e=>av e.symm) (by simp [Bs]) rfl al (fun j hj=>t _ (by omega)) (fun j _=>an _) r (Afx l) s 3 3 1 h.size
     (by simp [World.shape?,ac]) (by simp [World.shape?,hg]) (by omega) (by simp [World.frozen?,ac]) (by simp [World.frozen?,ac])).mono ?_
    rintro e w' ⟨rfl,rfl⟩;obtain ⟨y,a1,a2,a3,a4,a5⟩:=Uc (w:=w.drew) hg (d+(at_+1)) ((Bs l).drop at_) (by simp [Bs];omega);obtain ⟨z,b1,b2,b3,b4,b5⟩:=Uc a1 (d+at_) [.int .i64 k] (by simp;omega);have am:Mod (fun b=>b=g) w w.drew:=(Mod.refl _ _).drew;refine ⟨_,rfl,⟨.inr ⟨g,d,cap,z,by rw [p],hb,b1,by rw [p];exact f,by omega,h3,fun i x c=>?_⟩⟩,((am.trans a5).trans b5).mono (fun b _ e=>by rw [e];rfl),.inl rfl⟩;rw [Wl l k q] at c;split at c
    .rw [b4 _ (.inl (by omega)),a4 _ (.inl (by omega))];exact h4 i x c
    .split at c
     .rename_i e;subst e;injection c with c;subst c;exact b3 0 _ rfl
     .rename_i n1 n2;rw [b4 _ (.inr (by simp;omega))];have:=a3 (i-1-at_) (.int .i64 x) (by rw [Ol,Ud,show at_+(i-1-at_)=i-1 by omega,c];rfl);rw [<- this];congr 1;omega
  .by_cases he:at_=l.length
   .subst he;refine (Any2.slices_Insert_int_end_grow Tryz.fk (some ⟨g,d,none⟩) l.length cap vb 0 1 1 (Bs l) [.int .i64 k] w (by omega) h1 (by omega) (by omega) (by simp [Bs]) rfl (fun e=>by cases e) (fun a e j u n=>by injection e with e;subst e;rw [Addr.add_lit];exact al j u n) r s).mono ?_;rintro e w' ⟨rfl,rfl⟩;refine m _ _ _ (Af _ _) ((Mod.refl _ w).drew.trans (Mod.alloc _ _ _)) (grownCap_ge _ _ _ _) (grownCap_le_maxLen _ _ _ _ (by unfold maxLen;omega)) ?_ ?_
    .have:=grownCap_ge w (l.length+1) cap 3;simp [size_zeroCells,Value.cells,Bs];omega
    .intro i x c;rw [Wl l k q] at c
     have hi:i<l.length+1:=by
      split at c
      .omega
      .split at c
       .omega
       .have:=(Aq.1 c).1;omega
     rw [Ut (by simp [Bs];omega)];simp only [Lo];split at c
     .rw [Fv (by simp [Bs];omega),Ud,c];rfl
     .split at c
      .rename_i e;subst e;injection c with c;subst c;rw [G5 (by simp [Bs])];simp [Bs]
      .rw [Q4 (by omega)] at c;cases c
   .have ad:at_<l.length:=(by omega);refine (Any2.slices_Insert_int_grow Tryz.fk g d l.length cap at_ vb 0 1 1 (Bs l) [.int .i64 k] w ad (by omega) h1 (by omega) (by omega) (by simp [Bs]) rfl al r (Afx l) s).mono ?_;rintro e w' ⟨rfl,aA⟩;have hG:=grownCap_ge w (l.length+1) cap 3;obtain ⟨C,hC⟩:=Ex ((((Bs l).take at_).toArray++Builtin.zeroCells (Value.int .i64 0).cells (l.length+1-at_)++Builtin.zeroCells (Value.int .i64 0).cells (grownCap w (l.length+1) cap 3-(l.length+1))));have aB:=Af w (.cells C 3 (0,0));have aD:C.size=grownCap w (l.length+1) cap 3:=by rw [hC];simp [size_zeroCells,Value.cells,Bs];omega
    have ao:∀ i,i<at_->C[i]?=(l[i]?).map (Value.int .i64):=fun i hi=>by
     rw [hC,Ut (by simp [size_zeroCells,Value.cells,Bs];omega),Ut (by simp [Bs];omega),Lo,Lq,Ad hi,Ud]
    have aC:w'=(((w.alloc (.cells C 3 (0,0))).drew.setCells w.heap.size at_ [.int .i64 k]).drew).setCells w.heap.size (at_+1) ((Bs l).drop at_):=(by rw [hC];exact aA);subst aC;obtain ⟨y,a1,a2,a3,a4,a5⟩:=Uc (w:=(w.alloc (.cells C 3 (0,0))).drew) aB at_ [.int .i64 k] (by simp;omega);obtain ⟨z,b1,b2,b3,b4,b5⟩:=Uc (w:=(((w.alloc (.cells C 3 (0,0))).drew).setCells w.heap.size at_ [.int .i64 k]).drew) a1 (at_+1) ((Bs l).drop at_) (by simp [Bs];omega);have am:Mod (fun b=>b=w.heap.size) w (w.alloc (.cells C 3 (0,0))).drew:=(Mod.alloc _ _ _).drew;have hm:Mod (fun b=>(Value.slice (some ⟨g,d,none⟩) l.length cap).ownBlock=some b) w (((((w.alloc (.cells C 3 (0,0))).drew).setCells w.heap.size at_ [.int .i64 k]).drew).setCells w.heap.size (at_+1) ((Bs l).drop at_)):=(((am.trans a5).drew).trans b5).mono (fun b ad e=>by omega);refine m (grownCap w (l.length+1) cap 3) z _ b1 hm hG (grownCap_le_maxLen _ _ _ _ (by unfold maxLen;omega)) (by omega) ?_;intro i x c;rw [Wl l k q] at c;split at c
    .rename_i hi;rw [b4 i (.inl (by omega)),a4 i (.inl (by omega)),ao i hi,c];rfl
    .split at c
     .rename_i e;subst e;injection c with c;subst c;rw [b4 i (.inl (by omega))];exact a3 0 _ rfl
     .rename_i n1 n2;have:=b3 (i-1-at_) (.int .i64 x) (by rw [Ol,Ud,show at_+(i-1-at_)=i-1 by omega,c];rfl);rw [<- this];congr 1;omega
end Go.Proofs.YtimlcnhcjndijaaGreatDoor
namespace Go.Proofs.YtimlcnhcjndijaaGreatDoor
open Go.RowKit Go.Maps
def I0 (b:Nat):DU:=.lit (.int .i64 (b:Int))
def O7:DU:=.lit (.int .i64 (-1))
abbrev Lj (b:Nat):Value:=.pointer (some ⟨b,0,none⟩)
open Classical in
noncomputable def I1 (v:Value):Option (DU×List MemPlace):=if h:∃ b,v=Lj b then some (I0 h.choose,[]) else if v=.pointer none then some (O7,[]) else none
def Ar5 {a b:Nat} (h:Lj a=Lj b):a=b:=by
 injection h with h;injection h with h;injection h
def Ar6 (b:Nat):I1 (Lj b)=some (I0 b,[]):=by
 unfold I1;have h:∃ d,Lj b=Lj d:=⟨b,rfl⟩;rw [dif_pos h];rw [<- Ar5 h.choose_spec]
def Ar7:I1 (.pointer none)=some (O7,[]):=by
 unfold I1;rw [dif_neg (by rintro ⟨b,h⟩;simp [Lj] at h),Ad rfl]
def Ar8 {a b:Nat} (h:I0 a=I0 b):a=b:=by
 simp [I0] at h;omega
def Z0 {a:Nat} (h:I0 a=O7):False:=by
 simp [I0,O7] at h
def Afy {v:Value} {b:Nat} {a:List MemPlace} (h:I1 v=some (I0 b,a)):v=Lj b:=by
 unfold I1 at h;split at h
 .rename_i c;injection h with h;injection h with h _;rw [<- Ar8 h];exact c.choose_spec
 .split at h
  .injection h with h;injection h with h _;exact (Z0 h.symm).elim
  .cases h
def Ar9 {v:Value} {a:List MemPlace} (h:I1 v=some (O7,a)):v=.pointer none:=by
 unfold I1 at h;split at h
 .injection h with h;injection h with h _;exact (Z0 h).elim
 .split at h
  .rename_i b;exact b
  .cases h
def Gk (l:List (ByteArray×Nat)):DU:=l.foldl (fun m p=>m.put (Bz p.1) (I0 p.2)) (.map [])
def Ue (l:List (ByteArray×Nat)) (x:ByteArray×Nat):Gk (l++[x])=(Gk l).put (Bz x.1) (I0 x.2):=by simp [Gk]
def Afz (l:List (ByteArray×Nat)):IsMap (Gk l):=by
 induction l using Py with
 | h0=>exact isMap_empty
 | h1 l x ih=>rw [Ue];exact ih.put _ _
def Sg (l:List (ByteArray×Nat)) (s:ByteArray):Option Nat:=(l.find? fun p=>decide (p.1=s)).map Prod.snd
def Af0 (a:DU) (l:List (ByteArray×Nat)) (h:(l.map Prod.fst).Nodup) (s:ByteArray):(Gk l).atKey (Bz s) a=match Sg l s with | some b=>I0 b | none=>a:=by
 induction l using Py with
 | h0=>rfl
 | h1 l x ih=>
  rw [Ds,Rc] at h;rw [Ue];unfold Sg at *;rw [List.find?_append];by_cases e:s=x.1
  .subst e;rw [atKey_put_same (Afz l) (X7 _)]
   have:l.find? (fun p=>decide (p.1=x.1))=none:=by rw [Q8];intro p d c;simp at c;exact h.2.2 p.1 (Ks d) x.1 (by simp) c
   rw [this];simp
  .rw [atKey_put_other (fun c=>e (U5 c)),ih h.1];have e':¬ x.1=s:=fun c=>e c.symm
   cases hf:l.find? (fun p=>decide (p.1=s))<;>simp [e']
structure Nj (Own:World->Nat->Value->List Int->Prop):Prop where
 mod:∀ {S:Nat->Prop} {w w':World} {B:Nat} {v:Value} {l:List Int},Own w B v l->Mod S w w'->(∀ k,v.ownBlock=some k->¬ S k)->Own w' B v l
 lt:∀ {w:World} {B:Nat} {v:Value} {l:List Int},Own w B v l->∀ k,v.ownBlock=some k->B<=k/\k<w.heap.size
 aq:∀ {w:World} {B:Nat} {v:Value} {l:List Int},Own w B v l->∀ k,v.ownBlock=some k->∃ c,w.heap[k]?=some (.cells c 3 (0,0))
def I2:Nj Ak:=⟨fun h a b=>h.mod a b,fun h=>h.lt,fun h k d=>by obtain ⟨c,e,_⟩:=C1 h.row d;exact ⟨c,e⟩⟩
def Uf:Nj C4:=⟨fun h a b=>h.mod a b,fun h=>h.lt,fun h _ c=>h.aq c⟩
structure bt where
 b:Nat
 lv:Value
 pl:bq
abbrev bt.cells (u:bt):Array Value:=#[.int .i64 u.pl.has.a,.int .i64 u.pl.has.b,.int .i64 u.pl.has.c,.int .i64 u.pl.has.d,u.lv]
def bt.key (u:bt):ByteArray×Nat:=(u.pl.name,u.b)
structure ly (Own:World->Nat->Value->List Int->Prop) (w:World) (mb:Nat) (us:List bt) (wr:World):Prop where
 low:Below w.heap.size w wr
 map:wr.ownsMap (H:=Unit) Tryz.prog 9 I1 mb us.length (Gk (us.map bt.key))
 mlt:w.heap.size<=mb
 box:∀ u,u∈us->wr.heap[u.b]?=some (.cells u.cells 335 (0,0))/\w.heap.size<=u.b
 left:∀ u,u∈us->Own wr w.heap.size u.lv (Cy u.pl.left)
 names:(us.map fun u=>u.pl.name).Nodup
 one:us.Pairwise fun x y=>x.b≠y.b/\∀ k,x.lv.ownBlock=some k->y.lv.ownBlock≠some k
variable {Own:World->Nat->Value->List Int->Prop} {w wr w':World} {mb:Nat} {us:List bt}
def ly.om (h:ly Own w mb us wr):∃ b c,wr.heap[mb]?=some (.map b c):=by
 obtain ⟨b,a,d,_⟩:=h.map;exact ⟨b,a,d⟩
def ly.mod (L:Nj Own) (h:ly Own w mb us wr) {S:Nat->Prop} (d:Mod S wr w') (e:∀ k,S k->wr.heap.size<=k):ly Own w mb us w':=by
 have no:∀ k,k<wr.heap.size->¬ S k:=fun k f c=>by have:=e k c;omega
 refine ⟨h.low.trans ((d.below Ln e).mono h.low.size),?_,h.mlt,fun u b=>⟨d.aq (h.box u b).1 (no _ (Ab (h.box u b).1)),(h.box u b).2⟩,fun u b=>L.mod (h.left u b) d (fun k f=>no k (L.lt (h.left u b) k f).2),h.names,h.one⟩;obtain ⟨i,a,g,r⟩:=h.map;exact ⟨i,a,d.aq g (no _ (Ab g)),r⟩
def ly.drop (L:Nj Own) (h:ly Own w mb us wr) (a:Below wr.heap.size wr w'):ly Own w mb us w':=h.mod L (Mod.af (S:=fun _=>False) a) (fun _ c=>c.elim)
def ly.set (L:Nj Own) (h:ly Own w mb us wr) {i:Nat} {u u':bt} (z:us[i]?=some u) (hm:Mod (fun b=>b=u.b\/u.lv.ownBlock=some b) wr w') (hb:u'.b=u.b) (hn:u'.pl.name=u.pl.name) (ac:w'.heap[u.b]?=some (.cells u'.cells 335 (0,0)))
  (ad:Own w' w.heap.size u'.lv (Cy u'.pl.left)) (av:∀ k,u'.lv.ownBlock=some k->u.lv.ownBlock=some k\/wr.heap.size<=k):ly Own w mb (us.set i u') w':=by
 have al:=Aj z;obtain ⟨am,an⟩:=h.box u al;have v:=h.left u al;obtain ⟨es,cl,p⟩:=h.om
 have ao:(us.set i u').map bt.key=us.map bt.key:=by
  rw [Mw];have e:u'.key=u.key:=by simp [bt.key,hb,hn]
  rw [e];apply Ee;intro k;rw [Do];split
  .rename_i aA;subst aA;obtain ⟨q,hx⟩:=Aq.1 z;simp [q,hx]
  .rfl
 have aB:(us.set i u').map (fun u=>u.pl.name)=us.map fun u=>u.pl.name:=by have:=Ca (List.map Prod.fst) ao;simpa [bt.key,G6] using this
 have nm:mb≠u.b:=fun e=>by rw [e,am] at p;cases p
 have aC:u.lv.ownBlock≠some mb:=fun e=>by
  obtain ⟨c,d⟩:=L.aq v mb e;rw [d] at p;cases p
 have l:∀ k y,us[k]?=some y->k≠i->w'.heap[y.b]?=some (.cells y.cells 335 (0,0))/\Own w' w.heap.size y.lv (Cy y.pl.left):=fun k y g f=>by
  have s:=Aj g
  have m:y.b≠u.b/\∀ b,y.lv.ownBlock=some b->u.lv.ownBlock≠some b:=by
   rcases Q7 f with q | q
   .exact Fl h.one g z q
   .have:=Fl h.one z g q;exact ⟨fun e=>this.1 e.symm,fun b e1 e2=>this.2 b e2 e1⟩
  refine ⟨hm.aq (h.box y s).1 fun c=>?_,L.mod (h.left y s) hm fun b t c=>?_⟩
  .rcases c with c | c
   .exact m.1 c
   .obtain ⟨c',d⟩:=L.aq v _ c;rw [(h.box y s).1] at d;injection d with d;injection d with _ d;exact absurd d (by decide)
  .rcases c with rfl | c
   .obtain ⟨c',d⟩:=L.aq (h.left y s) _ t;rw [am] at d;injection d with d;injection d with _ d;exact absurd d (by decide)
   .exact m.2 b t c
 have ap:∀ y,y∈us.set i u'->y=u'\/∃ k,us[k]?=some y/\k≠i:=fun y g=>by
  obtain ⟨k,f⟩:=Dr g;rw [Do] at f;split at f
  .split at f
   .injection f with f;exact .inl f.symm
   .cases f
  .rename_i n;exact .inr ⟨k,f,fun e=>n e.symm⟩
 refine ⟨?_,?_,h.mlt,fun y g=>?_,fun y g=>?_,by rw [aB];exact h.names,?_⟩
 .exact h.low.trans (hm.below h.low.size (fun k c=>by
   rcases c with rfl | c
   .exact an
   .exact (L.lt v k c).1))
 .rw [ao,Dg];obtain ⟨es,x,aD,r⟩:=h.map;exact ⟨es,x,hm.aq aD (fun c=>c.elim nm aC),r⟩
 .rcases ap y g with rfl | ⟨k,f,n⟩
  .rw [hb];exact ⟨ac,an⟩
  .exact ⟨(l k y f n).1,(h.box y (Aj f)).2⟩
 .rcases ap y g with rfl | ⟨k,f,n⟩
  .exact ad
  .exact (l k y f n).2
 .refine Oj.2 fun a b ha t aE=>?_;have o:=Am ha;have j:=Am t;generalize (us.set i u')[a]=ya at o ⊢;generalize (us.set i u')[b]=yb at j ⊢
  have kk:∀ k y,us[k]?=some y->k≠i->y.b≠u'.b/\∀ c,y.lv.ownBlock=some c->u'.lv.ownBlock≠some c:=fun k y g f=>by
   have m:y.b≠u.b/\∀ b,y.lv.ownBlock=some b->u.lv.ownBlock≠some b:=by
    rcases Q7 f with q | q
    .exact Fl h.one g z q
    .have:=Fl h.one z g q;exact ⟨fun e=>this.1 e.symm,fun b e1 e2=>this.2 b e2 e1⟩
   refine ⟨by rw [hb];exact m.1,fun c d e=>?_⟩;rcases av c e with e | e
   .exact m.2 c d e
   .have:=(L.lt (h.left y (Aj g)) c d).2;omega
  rw [Do] at o j;by_cases g1:i=a
  .have g2:i≠b:=(by omega);rw [Ac g2] at j;rw [Ad g1] at o;split at o
   .injection o with o;subst o;have:=kk b yb j (fun e=>g2 e.symm);exact ⟨fun e=>this.1 e.symm,fun c e1 e2=>this.2 c e2 e1⟩
   .cases o
  .rw [Ac g1] at o;by_cases g2:i=b
   .rw [Ad g2] at j;split at j
    .injection j with j;subst j;exact kk a ya o (fun e=>g1 e.symm)
    .cases j
   .rw [Ac g2] at j;exact Fl h.one o j aE
def Af1 (us:List bt) (s:ByteArray):Sg (us.map bt.key) s=(us.find? fun u=>decide (u.pl.name=s)).map bt.b:=by
 unfold Sg;rw [List.find?_map]
 cases h:us.find? ((fun p:ByteArray×Nat=>decide (p.1=s)) ∘ bt.key) with
 | none=>
  have:us.find? (fun u=>decide (u.pl.name=s))=none:=h;rw [this];rfl
 | some u=>
  have:us.find? (fun u=>decide (u.pl.name=s))=some u:=h;rw [this];rfl
def Asa (w:World):(zeroValue 331).run Tryz.prog w=.ok (.pointer none) w:=by kernel_rfl
def Z1 (h:ly Own w mb us wr) (s:ByteArray) (d:s.size<=maxLen):(Instr.lookup 328 (.map (some mb)) (.string s) false).run Tryz.prog wr=.ok (.pointer ((us.find? fun u=>decide (u.pl.name=s)).map fun u=>⟨u.b,0,none⟩)) wr:=by
 obtain ⟨v,f,a,c⟩:=World.ownsMap.lookup h.map (string_keyed Gq) Xr (Asa wr) Ar7 (Uv Gq d);have e:=Af0 O7 (us.map bt.key) (by have:=h.names;simpa [bt.key,G6] using this) s;rw [Af1] at e;unfold Bz at e;rw [e] at c;rw [a]
 cases hf:us.find? (fun u=>decide (u.pl.name=s)) with
 | none=>
  rw [hf] at c;rw [Ar9 c];rfl
 | some u=>
  rw [hf] at c;rw [Afy c];rfl
def ly.add (L:Nj Own) (q:∀ w B,Own w B (.slice none 0 0) []) (h:ly Own w mb us wr) (s:ByteArray) (r:us.find? (fun u=>decide (u.pl.name=s))=none) {g:World}
  (i:g.ownsMap (H:=Unit) Tryz.prog 9 I1 mb (us.length+1) ((Gk (us.map bt.key)).put (Bz s) (I0 wr.heap.size)))
  (t:(wr.alloc (.cells #[.int .i64 0,.int .i64 0,.int .i64 0,.int .i64 0,.slice none 0 0] 335 (0,0))).grownBy g (some mb)) :
  ly Own w mb (us++[⟨wr.heap.size,.slice none 0 0,⟨s,⟨0,0,0,0⟩,[]⟩⟩]) g:=by
 obtain ⟨es,cl,j⟩:=h.om;have h1:ly Own w mb us (wr.alloc (.cells #[.int .i64 0,.int .i64 0,.int .i64 0,.int .i64 0,.slice none 0 0] 335 (0,0))):=h.drop L Bn;have m:Mod (fun b=>b=mb) (wr.alloc (.cells #[.int .i64 0,.int .i64 0,.int .i64 0,.int .i64 0,.slice none 0 0] 335 (0,0))) g:=Mod.grown t (fun k f=>by injection f with f;exact f.symm)
 have l:∀ (k:Nat) (c:Array Value) (T:TypeId) (fr:Nat×Nat),(wr.alloc (.cells #[.int .i64 0,.int .i64 0,.int .i64 0,.int .i64 0,.slice none 0 0] 335 (0,0))).heap[k]?=some (.cells c T fr)->g.heap[k]?=some (.cells c T fr):=fun k c T fr f=>m.aq f fun e=>by
  have:=Ai (.cells #[.int .i64 0,.int .i64 0,.int .i64 0,.int .i64 0,.slice none 0 0] 335 (0,0)) j;rw [e,this] at f;cases f
 refine ⟨h1.low.trans (m.below h1.low.size (fun k f=>by rw [f];exact h.mlt)),?_,h.mlt,fun u d=>?_,fun u d=>?_,?_,?_⟩
 .rw [De,Ds,J2,List.map_nil,Ue];exact i
 .rcases Dt.1 d with d | d
  .exact ⟨l _ _ _ _ (h1.box u d).1,(h1.box u d).2⟩
  .simp at d;subst d;exact ⟨l _ _ _ _ (Af _ _),h.low.size⟩
 .rcases Dt.1 d with d | d
  .refine L.mod (h1.left u d) m fun k f e=>?_;obtain ⟨c,n⟩:=L.aq (h1.left u d) k f;have:=Ai (.cells #[.int .i64 0,.int .i64 0,.int .i64 0,.int .i64 0,.slice none 0 0] 335 (0,0)) j;rw [e,this] at n;cases n
  .simp at d;subst d;exact q _ _
 .rw [Ds,Rc];refine ⟨h.names,by simp,fun a v b o=>?_⟩;simp at o;subst o;obtain ⟨u,d,rfl⟩:=Bd.1 v;intro e;have:=Q8.1 r u d;simp at this;exact this e
 .rw [Sx];refine ⟨h.one,List.pairwise_singleton _ _,fun x z y p=>?_⟩;simp at p;subst p;refine ⟨fun e=>?_,fun k f=>by simp [Value.ownBlock]⟩;have:=Ab (h.box x z).1;have e':x.b=wr.heap.size:=e;omega
end Go.Proofs.YtimlcnhcjndijaaGreatDoor
namespace Go.Proofs.YtimlcnhcjndijaaGreatDoor
open Go.RowKit Go.Maps Go.Lib
def Sj {α:Type} (p:α->Bool) (l:List α):(l.findIdx? p=none/\l.find? p=none)\/∃ k u,l.findIdx? p=some k/\l[k]?=some u/\l.find? p=some u:=by
 induction l with
 | nil=>exact .inl ⟨rfl,rfl⟩
 | cons x r ih=>
  by_cases a:p x=true
  .exact .inr ⟨0,x,by simp [List.findIdx?_cons,a],rfl,by simp [a]⟩
  .rcases ih with ⟨h1,b⟩ | ⟨k,u,h1,b,c⟩
   .exact .inl ⟨by simp [List.findIdx?_cons,a,h1],by simp [a,b]⟩
   .exact .inr ⟨k+1,u,by simp [List.findIdx?_cons,a,h1],by simpa using b,by simp [a,c]⟩
def Uh (us:List bt) (s:ByteArray):Gf (us.map bt.pl) s=us.findIdx? fun u=>decide (u.pl.name=s):=by
 unfold Gf;rw [List.findIdx?_map];congr 1
 funext u
 simp [td]
abbrev Sk (x:dy):Array Value:=#[.string x.user,.int .i64 x.has.a,.int .i64 x.has.b,.int .i64 x.has.c,.int .i64 x.has.d]
structure Pc (w:World) (ao:Option Addr) (n:Nat) (hs:List dy):Prop where
 len:hs.length=n
 max:n<=1000000
 cell:∀ i x,hs[i]?=some x->∃ b off,ao=some ⟨b,off,none⟩/\b<w.heap.size/\∀ j,j<5->w.cell? ⟨b,off+i*5+j,none⟩=(Sk x)[j]?
def Pc.low {w w':World} {d:Option Addr} {n:Nat} {f:List dy} (h:Pc w d n f) (g:Below w.heap.size w w'):Pc w' d n f:=
 ⟨h.len,h.max,fun i x k=>by
  obtain ⟨b,c,e,a,l⟩:=h.cell i x k
  exact ⟨b,c,e,Br a g.size,fun j m=>(Ag g a).trans (l j m)⟩⟩
def Kl.low {w w':World} {a:Option Addr} {n:Nat} {b:List cz} (h:Kl w a n b) (d:Below w.heap.size w w'):Kl w' a n b:=h.mod (Mod.af (S:=fun _=>False) d) (fun _ _ _ c=>c)
structure fy (Own:World->Nat->Value->List Int->Prop) (w:World) (ao:Option Addr) (n c:Nat) (us:List bt) (wr:World):Prop where
 us:ly Own w (w.heap.size+1) us wr
 pb:wr.heap[w.heap.size]?=some (.cells #[.slice ao n c] 273 (0,0))
variable {Own:World->Nat->Value->List Int->Prop} {w wr w':World} {ao:Option Addr} {n c:Nat} {us:List bt}
def fy.drop (L:Nj Own) (h:fy Own w ao n c us wr) (a:Below wr.heap.size wr w'):fy Own w ao n c us w':=⟨h.us.drop L a,Ae a h.pb (Ab h.pb)⟩
def fy.set (L:Nj Own) (h:fy Own w ao n c us wr) {i:Nat} {u u':bt} (j:us[i]?=some u) (l:Mod (fun b=>b=u.b\/u.lv.ownBlock=some b) wr w') (m:u'.b=u.b) (o:u'.pl.name=u.pl.name) (d:w'.heap[u.b]?=some (.cells u'.cells 335 (0,0)))
  (e:Own w' w.heap.size u'.lv (Cy u'.pl.left)) (g:∀ k,u'.lv.ownBlock=some k->u.lv.ownBlock=some k\/wr.heap.size<=k):fy Own w ao n c (us.set i u') w':=by
 refine ⟨h.us.set L j l m o d e g,l.aq h.pb fun c=>?_⟩;have f:=Aj j;rcases c with c | c
 .have:=(h.us.box u f).1;rw [<- c,h.pb] at this;injection this with this;injection this with _ this;exact absurd this (by decide)
 .obtain ⟨p,a⟩:=L.aq (h.us.left u f) _ c;rw [h.pb] at a;injection a with a;injection a with _ a;exact absurd a (by decide)
def Asg {us:List bq} {s:ByteArray} {i N:Nat} (h:us.length<=N/\∀ u,u∈us->u.left.length<=N/\u.left≠[]/\∀ p,p∈u.left->p<i):(As us s i).length<=N+1/\∀ u,u∈As us s i->u.left.length<=N+1/\u.left≠[]/\∀ p,p∈u.left->p<i+1:=by
 unfold As;split
 .refine ⟨by simp;omega,fun u b=>?_⟩;rcases Dt.1 b with b | b
  .have:=h.2 u b;exact ⟨by omega,this.2.1,fun p a=>by have:=this.2.2 p a;omega⟩
  .simp at b;subst b;exact ⟨by simp,by simp,fun p a=>by simp at a;omega⟩
 .refine ⟨by simp;omega,fun u b=>?_⟩;rcases Oe b with b | ⟨y,c,rfl⟩
  .have:=h.2 u b;exact ⟨by omega,this.2.1,fun p a=>by have:=this.2.2 p a;omega⟩
  .have:=h.2 y c;refine ⟨by simp;omega,by simp,fun p a=>?_⟩;rcases Dt.1 a with a | a
   .have:=this.2.2 p a;omega
   .simp at a;omega
def Ui (a:List cz):∀ j,(B6 a j).length<=j/\∀ u,u∈B6 a j->u.left.length<=j/\u.left≠[]/\∀ p,p∈u.left->p<j
 | 0=>⟨Nat.le_refl _,fun u b=>by cases b⟩
 | j+1=>Asg (Ui a j)
def Agb (l:List Nat) (i:Nat):Cy (l++[i])=Cy l++[(i:Int)]:=by simp [Cy]
def fy.push (h:fy Ak w ao n c us wr) {k:Nat} {u:bt} (d:us[k]?=some u) (i:Nat) {w1 g:World} (l:Below wr.heap.size wr w1) {f:Value} (q:w1.grownBy g u.lv.ownBlock) (t:Ak g w.heap.size f (Cy u.pl.left++[(i:Int)])) (r:∀ k,f.ownBlock=some k->u.lv.ownBlock=some k\/k=w1.heap.size) :
  fy Ak w ao n c (us.set k ⟨u.b,f,⟨u.pl.name,u.pl.has,u.pl.left++[i]⟩⟩) (g.setCell ⟨u.b,4,none⟩ f):=by
 have m:=Aj d;obtain ⟨a,v⟩:=h.us.box u m;have p:Mod (fun b=>b=u.b\/u.lv.ownBlock=some b) w1 g:=(Mod.grown q (S:=fun b=>u.lv.ownBlock=some b) (fun k d=>d)).mono fun _ _ c=>.inr c;have x:=((Mod.af l).trans (p.mono fun _ _ c=>c)).trans (Mod.setCell g u.b 4 f (.inl rfl))
 have s:u.lv.ownBlock≠some u.b:=fun e=>by
  obtain ⟨z,j⟩:=I2.aq (h.us.left u m) _ e;rw [a] at j;injection j with j;injection j with _ j;exact absurd j (by decide)
 have o:=(q.block _ (Br (Ab a) l.size) (fun e=>s e.symm)).trans (Ae l a (Ab a))
 have y:f.ownBlock≠some u.b:=fun e=>by
  rcases r _ e with c | c
  .exact s c
  .have:=Ab a;have:=l.size;omega
 refine h.set I2 d x rfl rfl ?_ ?_ fun k d=>(r k d).imp id fun e=>by have:=l.size;omega
 .have:=Al o 4 f;simpa using this
 .rw [Agb];exact t.mod (Mod.setCell (S:=fun b=>b=u.b) g u.b 4 f rfl) (fun k d e=>y (by rw [d,e]))
def Ash (l:List (ByteArray×Nat)) (s:ByteArray):has (Gk l) (Bz s)=true↔s∈l.map Prod.fst:=by
 induction l using Py with
 | h0=>simp [Gk,has]
 | h1 l x ih=>
  rw [Ue];by_cases e:s=x.1
  .subst e;rw [has_put_same (Afz l) (X7 _)];simp
  .rw [has_put_other (fun c=>e (U5 c)),ih];simp [e]
def fy.iter (L:Nj Own) (h:fy Own w ao n c us wr) {r:Nat} {m:Option Nat} {a1:Nat} {a2:Array Nat} {a3:Nat} (a:wr.heap[r]?=some (.mapIter m a1 a2 a3)) (q:w.heap.size<=r) (j:Mod (fun b=>b=r) wr w'):fy Own w ao n c us w':=by
 have g:∀ (k:Nat) (c:Array Value) (T:TypeId) (fr:Nat×Nat),wr.heap[k]?=some (.cells c T fr)->w'.heap[k]?=some (.cells c T fr):=fun k c T fr d=>j.aq d fun e=>by
  rw [e,a] at d;cases d
 obtain ⟨o,v,s⟩:=h.us.om;refine ⟨⟨h.us.low.trans (j.below h.us.low.size (fun k d=>by rw [d];exact q)),?_,h.us.mlt,fun u i=>⟨g _ _ _ _ (h.us.box u i).1,(h.us.box u i).2⟩,fun u i=>L.mod (h.us.left u i) j fun k d e=>?_,h.us.names,h.us.one⟩,g _ _ _ _ h.pb⟩
 .obtain ⟨o,f,l,t⟩:=h.us.map;exact ⟨o,f,j.aq l (fun e=>by rw [e,a] at l;cases l),t⟩
 .obtain ⟨x,p⟩:=L.aq (h.us.left u i) k d;rw [e,a] at p;cases p
def Z5 (a b:ByteArray):(Bz a).sameKey (Bz b)=true↔a=b:=by
 constructor
 .intro h;apply U5;simpa [Bz,Lit.sameKey] using h
 .rintro rfl;simp [Bz,Lit.sameKey]
def Asi {us:List bt} {k:Nat} {u u':bt} (b:us[k]?=some u) (e:u'.key=u.key):(us.set k u').map bt.key=us.map bt.key:=by
 rw [Mw,e];apply Ee;intro j;rw [Do];split
 .rename_i a;subst a;obtain ⟨c,d⟩:=Aq.1 b;simp [c,d]
 .rfl
def Mod.grownBy {v:Value} {w w':World} (h:Mod (fun b=>v.ownBlock=some b) w w'):w.grownBy w' v.ownBlock:=⟨h.os,h.tape,h.output,h.size,fun k c a=>h.block k c (fun e=>a e.symm)⟩
def Wm (ws:List cz) (u:bq):bq:=⟨u.name,u.has,F3 ws u.left⟩
def Z6 {W w1:World} (h:Below W.drew.heap.size W.drew w1):Below W.heap.size W w1:=⟨h.os,h.tape,h.output,h.size,h.block⟩
def fy.th (L:Nj Own) (h:fy Own w ao n c us wr) {k:Nat} {u:bt} (i:us[k]?=some u) {w1:World} (p:Below wr.heap.size wr w1) (v:V4) :
  fy Own w ao n c (us.set k ⟨u.b,u.lv,⟨u.pl.name,v,u.pl.left⟩⟩) ((((w1.setCell ⟨u.b,0,none⟩ (.int .i64 v.a)).setCell ⟨u.b,1,none⟩ (.int .i64 v.b)).setCell ⟨u.b,2,none⟩ (.int .i64 v.c)).setCell ⟨u.b,3,none⟩ (.int .i64 v.d)):=by
 have f:=Aj i;obtain ⟨g,q⟩:=h.us.box u f;have m:∀ (W:World) (o:Nat) (x:Value),Mod (fun b=>b=u.b) W (W.setCell ⟨u.b,o,none⟩ x):=fun W o x=>Mod.setCell W u.b o x rfl;have l:Mod (fun b=>b=u.b) wr ((((w1.setCell ⟨u.b,0,none⟩ (.int .i64 v.a)).setCell ⟨u.b,1,none⟩ (.int .i64 v.b)).setCell ⟨u.b,2,none⟩ (.int .i64 v.c)).setCell ⟨u.b,3,none⟩ (.int .i64 v.d)):=((((Mod.af p).trans (m _ _ _)).trans (m _ _ _)).trans (m _ _ _)).trans (m _ _ _)
 have r:u.lv.ownBlock≠some u.b:=fun e=>by
  obtain ⟨s,j⟩:=L.aq (h.us.left u f) _ e;rw [g] at j;injection j with j;injection j with _ j;exact absurd j (by decide)
 refine h.set L i (l.mono fun _ _ e=>.inl e) rfl rfl ?_ ?_ fun k i=>.inl i
 .have:=Al (Al (Al (Al (Ae p g (Ab g)) 0 (.int .i64 v.a)) 1 (.int .i64 v.b)) 2 (.int .i64 v.c)) 3 (.int .i64 v.d);simpa using this
 .exact L.mod (h.us.left u f) l (fun k i e=>r (by rw [i,e]))
def Asj (ho:Option Addr) (m hc:Nat) (hs:List dy) (ws:List cz) (hh:Pc w ho m hs) (hw:Kl w ao n ws) (hn:n<=20) (bx:∀ x,x∈ws->x.user.size<=maxLen) (bA:∀ x,x∈hs->x.user.size<=maxLen) (h1:Ub ws) :
  Calls Tryz.prog 248 #[.slice ho m hc,.slice ao n c] w fun e w'=>∃ us,e=.returned (.map (some (w.heap.size+1)))/\fy Ak w ao n c us w'/\us.map bt.pl=Cq hs ws:=by
 have cd:=@run_makeMap Tryz.prog;obtain ⟨W0,bB⟩:=Ex ((w.alloc (.cells #[.slice ao n c] 273 (0,0))).alloc (.map #[] 0));have a7:fy Ak w ao n c [] W0:=by rw [bB];refine ⟨⟨Bn.alloc (by simp) _,?_,by omega,fun u hu=>(by cases hu),fun u hu=>(by cases hu),List.nodup_nil,List.Pairwise.nil⟩,Ai _ (Af _ _)⟩;have:=World.ownsMap_made (H:=Unit) (w.alloc (.cells #[.slice ao n c] 273 (0,0))) Tryz.prog 9 I1;simpa [Gk] using this
 have a8:=hw.len;replace ⟨a7,hh,hw,bx,bA,h1,a8⟩:=H7 a7 hh hw bx bA h1 a8;go_enter Tryz.func248,Tryz.ntmps248;go_upto_region 2 with fail;rw [<- bB];clear bB cd;have b0:=Bk a7.out.pb 0 (.slice ao n c) rfl;go_wp2_with fail;clear b0;go_loopw [6,7,8,17] (fun _ _ _ iv wr=>∃ (i:Nat) (us:List bt),iv=.int .i64 i/\i<=n/\Hid (fy Ak w ao n c us wr)/\Hid (us.map bt.pl=B6 ws i)) (fun _ _ _ iv _=>n-(intOf iv).toNat)
 case atStart=>exact ⟨0,[],rfl,Av _,a7,rfl⟩
 case round=>
  obtain ⟨i,us,rfl,cv,hU,ap⟩:=hrel;by_cases cx:i<n
  .have ce:(i:Int)<n:=(by omega);have cy:(0:Int)<=(i:Int):=(by omega);obtain ⟨⟨bW,f,bX,⟨na,nb,nc,nd⟩⟩,hx⟩:∃ x,ws[i]?=some x:=⟨_,Am (by have:=a8.out;omega)⟩;obtain ⟨b,av,rfl,a9,al⟩:=(hw.out.low hU.out.us.low).cell i _ hx;have z0:wr.cell? ⟨b,av+i*7,none⟩=some (.int .i64 bW):=al 0 (by omega);have z1:wr.cell? ⟨b,av+i*7+1,none⟩=some (.string f):=al 1 (by omega);have z2:wr.cell? ⟨b,av+i*7+2,none⟩=some (.int .i64 bX):=al 2 (by omega);have z3:wr.cell? ⟨b,av+i*7+3,none⟩=some (.int .i64 na):=al 3 (by omega);have z4:wr.cell? ⟨b,av+i*7+4,none⟩=some (.int .i64 nb):=al 4 (by omega);have z5:wr.cell? ⟨b,av+i*7+5,none⟩=some (.int .i64 nc):=al 5 (by omega);have z6:wr.cell? ⟨b,av+i*7+6,none⟩=some (.int .i64 nd):=al 6 (by omega);obtain ⟨W1,aE⟩:=Ex (wr.alloc (.cells #[.int .i64 bW,.string f,.int .i64 bX,.int .i64 na,.int .i64 nb,.int .i64 nc,.int .i64 nd] 275 (0,0)));have am:Below wr.heap.size wr W1:=(by rw [aE];exact Bn);have d:=hU.out.drop I2 am;have y1:W1.cell? ⟨wr.heap.size,1,none⟩=some (.string f):=(by rw [aE];exact Aa (Af _ _) 1);have aS:=bx.out _ (Aj hx);have aN:=Z1 d.us f aS;have aO:B6 ws (i+1)=As (B6 ws i) f i:=(by show As (B6 ws i) (A5 ws i).user i=_;unfold A5;rw [Gn hx]);replace ⟨hx,al,am,d,aS,aO,hU⟩:=H7 hx al am d aS aO hU;go_upto_region 5 with fail;rcases Sj (fun u:bt=>decide (u.pl.name=f)) us with ⟨ac,aL⟩ | ⟨k,u,ac,t,aF⟩
   .rw [aL] at aN;have bY:=hn;have aH:As (B6 ws i) f i=B6 ws i++[⟨f,⟨0,0,0,0⟩,[i]⟩]:=by rw [<- ap.out];unfold As;rw [Uh,ac]
    have ba:us.length<=20:=by
     have h9:us.length=(B6 ws i).length:=(by rw [<- ap.out,Ax]);have:=(Ui ws i).1;omega
    have a5:Below W1.heap.size W1 (W1.alloc (.cells #[.int .i64 0,.int .i64 0,.int .i64 0,.int .i64 0,.slice none 0 0] 335 (0,0))):=Bn;have aB:=(d.out.us.drop I2 a5).map;have bb:us.length<maxLen:=(by have:maxLen=9223372036854775807:=rfl;omega);have aC:keyOf Tryz.prog 9 (.string f)=some (Bz f):=Uv Gq aS.out;have y2:=(Ag a5 (by rw [aE];simp)).trans y1;replace ⟨ac,aL,aH,ba,a5,aB,bb,aC⟩:=H8 ac aL aH ba a5 aB bb aC;rw [<- aE];clear aE z0 z1 z2 z3 z4 z5 z6;go_upto_region 9 with (at_mapUpdate;refine wpList_mapUpdate_own _ rfl _ _ _ 328 rfl 9 331 (string_keyed Gq) Xr _ (w.heap.size+1) us.length _ rfl aB.out bb.out _ _ (Bz f) rfl rfl aC.out _ [] (Ar6 _) ?_;intro w5 aX aG;replace ⟨aX,aG⟩:=H2 aX aG);simp only [Act.put];have hA:=d.out.us.add I2 (fun w B=>Ak.nil w B) f aL.out aX.out aG.out;have aI:Hid (fy Ak w (some ⟨b,av,none⟩) n c (us++[⟨W1.heap.size,.slice none 0 0,⟨f,⟨0,0,0,0⟩,[]⟩⟩]) w5):=(by refine ⟨hA,?_⟩;have bC:=d.out.pb;refine (aG.out.block _ (Br (Ab bC) a5.out.size) (fun e=>?_)).trans (Ae a5.out bC (Ab bC));injection e with e;omega);have aY:(us++[(⟨W1.heap.size,.slice none 0 0,⟨f,⟨0,0,0,0⟩,[]⟩⟩:bt)])[us.length]?=some ⟨W1.heap.size,.slice none 0 0,⟨f,⟨0,0,0,0⟩,[]⟩⟩:=(by simp);have x4:w5.cell? ⟨W1.heap.size,4,none⟩=some (.slice none 0 0:Value):=Aa (aI.out.us.box _ (Aj aY)).1 4;have aA:Below w5.heap.size w5 (w5.alloc (.cells #[.int .i64 (i:Int)] 3 (0,0))):=Bn;have ay:Ak (w5.alloc (.cells #[.int .i64 (i:Int)] 3 (0,0))) w.heap.size (.slice none 0 0:Value) (Cy ([]:List Nat)):=(aI.out.us.left _ (Aj aY)).mod (Mod.af (S:=fun _=>False) aA) (fun _ _ c=>c);have cw:(w5.alloc (.cells #[.int .i64 (i:Int)] 3 (0,0))).cell? ⟨w5.heap.size,0,none⟩=some (.int .i64 (i:Int)):=Aa (Af _ _) 0;have aZ:w.heap.size<=(w5.alloc (.cells #[.int .i64 (i:Int)] 3 (0,0))).heap.size:=by have:=aI.out.us.low.size;have:=aA.size;omega
    have a0:∀ w7,(w5.alloc (.cells #[.int .i64 (i:Int)] 3 (0,0))).grownBy w7 ((.slice none 0 0:Value)).ownBlock->w7.cell? ⟨W1.heap.size,4,none⟩=some (.slice none 0 0:Value)/\w7.frozen? ⟨W1.heap.size,4,none⟩=false:=fun w7 hg=>by
     have aP:=(aI.out.us.box _ (Aj aY)).1
     have a6:((.slice none 0 0:Value)).ownBlock≠some (W1.heap.size):=fun e=>by
      obtain ⟨c',hc⟩:=I2.aq (aI.out.us.left _ (Aj aY)) _ e;rw [aP] at hc;injection hc with hc;injection hc with _ hc;exact absurd hc (by decide)
     have hb:=(hg.block (W1.heap.size) (Br (Ab aP) aA.size) (fun e=>a6 e.symm)).trans (aA.block _ (Ab aP));exact ⟨(Bp (a:=⟨W1.heap.size,4,none⟩) hb).trans x4,(Ok (a:=⟨W1.heap.size,4,none⟩) hb).trans (Ah aP 4)⟩
    replace ⟨aA,ay,cw,aZ,a0⟩:=H5 aA ay cw aZ a0;clear y1 y2 hA;replace aY:=Hh aY;go_wp2_with (at_builtin;refine Mk rfl _ _ rfl w.heap.size 0 _ rfl ay.out rfl ⟨w5.heap.size,0,none⟩ 1 rfl (i:Int) cw.out (by omega) aZ.out ?_;intro g7 bc w7 h7 aQ a1;obtain ⟨k7,f7⟩:=a0.out w7 aQ;replace ⟨h7,aQ,a1⟩:=H3 h7 aQ a1)
    have aJ:=aI.out.push aY.out i aA.out aQ.out h7.out (fun k t=>by
     simp [Value.ownBlock] at t;subst t;rcases a1.out with e | e
     .exact .inl e
     .exact .inr e)
    have an:Hid (((us++[(⟨W1.heap.size,.slice none 0 0,⟨f,⟨0,0,0,0⟩,[]⟩⟩:bt)]).set us.length ⟨W1.heap.size,.slice (some ⟨g7,0,none⟩) (0+1) bc,⟨f,⟨0,0,0,0⟩,[]++[i]⟩⟩).map bt.pl=B6 ws (i+1)):=Hh (by
     rw [aO.out,aH.out,<- ap.out]
     simp)
    replace aJ:=Hh aJ;go_roundw
    case rel=>exact ⟨i+1,_,by go_num,by omega,aJ,an⟩
    case measure=>simp [intOf];omega
   .rw [aF] at aN;obtain ⟨ub,aK,⟨g,aM,ad⟩⟩:=u;have aH:As (B6 ws i) f i=(us.set k ⟨ub,aK,⟨g,aM,ad++[i]⟩⟩).map bt.pl:=(by rw [<- ap.out];unfold As;rw [Uh,ac];simp only;rw [Qu _ _ _ (x:=⟨g,aM,ad⟩) (by simp [t]),Mw]);have bn:ad.length<=i:=((Ui ws i).2 ⟨g,aM,ad⟩ (by rw [<- ap.out];exact Ks (Aj t))).1;obtain ⟨so,L,cc,e,hL⟩:=(d.out.us.left _ (Aj t)).len;have e':aK=.slice so L cc:=e;subst e';have bk:(Cy ad).length=L:=hL.symm;have bD:L<=1000000000:=(by rw [<- bk,O6];omega);rw [<- aE];clear aE z0 z1 z2 z3 z4 z5 z6;have x4:W1.cell? ⟨ub,4,none⟩=some (Value.slice so L cc):=Aa (d.out.us.box _ (Aj t)).1 4;have aA:Below W1.heap.size W1 (W1.alloc (.cells #[.int .i64 (i:Int)] 3 (0,0))):=Bn;have ay:Ak (W1.alloc (.cells #[.int .i64 (i:Int)] 3 (0,0))) w.heap.size (Value.slice so L cc) (Cy ad):=(d.out.us.left _ (Aj t)).mod (Mod.af (S:=fun _=>False) aA) (fun _ _ c=>c);have cw:(W1.alloc (.cells #[.int .i64 (i:Int)] 3 (0,0))).cell? ⟨W1.heap.size,0,none⟩=some (.int .i64 (i:Int)):=Aa (Af _ _) 0;have aZ:w.heap.size<=(W1.alloc (.cells #[.int .i64 (i:Int)] 3 (0,0))).heap.size:=by have:=d.out.us.low.size;have:=aA.size;omega
    have a0:∀ w7,(W1.alloc (.cells #[.int .i64 (i:Int)] 3 (0,0))).grownBy w7 ((Value.slice so L cc)).ownBlock->w7.cell? ⟨ub,4,none⟩=some (Value.slice so L cc)/\w7.frozen? ⟨ub,4,none⟩=false:=fun w7 hg=>by
     have aP:=(d.out.us.box _ (Aj t)).1
     have a6:((Value.slice so L cc)).ownBlock≠some (ub):=fun e=>by
      obtain ⟨c',hc⟩:=I2.aq (d.out.us.left _ (Aj t)) _ e;rw [aP] at hc;injection hc with hc;injection hc with _ hc;exact absurd hc (by decide)
     have hb:=(hg.block (ub) (Br (Ab aP) aA.size) (fun e=>a6 e.symm)).trans (aA.block _ (Ab aP));exact ⟨(Bp (a:=⟨ub,4,none⟩) hb).trans x4,(Ok (a:=⟨ub,4,none⟩) hb).trans (Ah aP 4)⟩
    replace ⟨aA,ay,cw,aZ,a0,ac,aF,t⟩:=H8 aA ay cw aZ a0 ac aF t;replace ⟨aH,bn,e,hL,bk,bD⟩:=H6 aH bn e hL bk bD;go_wp2_with (at_builtin;refine Mk rfl _ _ rfl w.heap.size L _ rfl ay.out bk.out ⟨W1.heap.size,0,none⟩ 1 rfl (i:Int) cw.out bD.out aZ.out ?_;intro g7 bc w7 h7 aQ a1;obtain ⟨k7,f7⟩:=a0.out w7 aQ;replace ⟨h7,aQ,a1⟩:=H3 h7 aQ a1)
    have aJ:=d.out.push t.out i aA.out aQ.out h7.out (fun k t=>by
     simp [Value.ownBlock] at t;subst t;rcases a1.out with e | e
     .exact .inl e
     .exact .inr e)
    have an:Hid ((us.set k ⟨ub,.slice (some ⟨g7,0,none⟩) (L+1) bc,⟨g,aM,ad++[i]⟩⟩).map bt.pl=B6 ws (i+1)):=Hh (by
     rw [aO.out,aH.out]
     simp)
    replace aJ:=Hh aJ;go_roundw
    case rel=>exact ⟨i+1,_,by go_num,by omega,aJ,an⟩
    case measure=>simp [intOf];omega
  .have ce:¬ (i:Int)<n:=(by omega);have bE:i=n:=(by omega);have aI:=hU;have a3:Hid (us.map bt.pl=(hs.take 0).foldl Co (B6 ws n)):=(by rw [ap.out,bE];rfl);clear hU ap a7;replace bE:=Hh bE;go_wp2_with fail;go_loopw [10,11,47] (fun _ _ jv wr=>∃ (j:Nat) (us:List bt),jv=.int .i64 j/\j<=m/\Hid (fy Ak w ao n c us wr)/\Hid (us.map bt.pl=(hs.take j).foldl Co (B6 ws n))) (fun _ _ jv _=>m-(intOf jv).toNat)
   case atStart=>exact ⟨0,us,rfl,Av _,aI,a3⟩
   case round=>
    obtain ⟨j,us,rfl,cA,hU,ap⟩:=hrel;have cB:=hh.out.max;by_cases hd:j<m
    .have cf:(j:Int)<m:=(by omega);have cC:(0:Int)<=(j:Int):=(by omega);obtain ⟨⟨f,⟨na,nb,nc,nd⟩⟩,hx⟩:∃ x,hs[j]?=some x:=⟨_,Am (by have:=hh.out.len;omega)⟩;obtain ⟨b,av,rfl,a9,al⟩:=(hh.out.low hU.out.us.low).cell j _ hx;have z0:wr.cell? ⟨b,av+j*5,none⟩=some (.string f):=al 0 (by omega);have z1:wr.cell? ⟨b,av+j*5+1,none⟩=some (.int .i64 na):=al 1 (by omega);have z2:wr.cell? ⟨b,av+j*5+2,none⟩=some (.int .i64 nb):=al 2 (by omega);have z3:wr.cell? ⟨b,av+j*5+3,none⟩=some (.int .i64 nc):=al 3 (by omega);have z4:wr.cell? ⟨b,av+j*5+4,none⟩=some (.int .i64 nd):=al 4 (by omega);obtain ⟨W1,aE⟩:=Ex (wr.alloc (.cells #[.string f,.int .i64 na,.int .i64 nb,.int .i64 nc,.int .i64 nd] 259 (0,0)));have am:Below wr.heap.size wr W1:=(by rw [aE];exact Bn);have d:=hU.out.drop I2 am;have bF:W1.heap[wr.heap.size]?=some (.cells #[.string f,.int .i64 na,.int .i64 nb,.int .i64 nc,.int .i64 nd] 259 (0,0)):=(by rw [aE];exact Af _ _);obtain ⟨y0,y1,y2,y3,y4⟩:=C5 bF;(try dsimp only at y0 y1 y2 y3 y4);have aS:=bA.out _ (Aj hx);have aN:=Z1 d.us f aS;have aO:(hs.take (j+1)).foldl Co (B6 ws n)=Co (us.map bt.pl) ⟨f,⟨na,nb,nc,nd⟩⟩:=(by rw [Ra,hx,Ms,<- ap.out];rfl);replace ⟨hx,al,am,d,aS,aO,hU,bF⟩:=H8 hx al am d aS aO hU bF;go_upto_region 14 with fail;rw [<- aE];clear aE z0 z1 z2 z3 z4;rcases Sj (fun u:bt=>decide (u.pl.name=f)) us with ⟨ac,aL⟩ | ⟨k,u,ac,t,aF⟩
     .rw [aL] at aN;have an:Hid (us.map bt.pl=(hs.take (j+1)).foldl Co (B6 ws n)):=(by rw [aO.out];unfold Co;rw [Uh,ac];rfl);clear y1 y2 y3 y4;replace ⟨ac,aL⟩:=H2 ac aL;go_wp2_with fail;go_roundw
      case rel=>exact ⟨j+1,_,by go_num,by omega,d,an⟩
      case measure=>simp [intOf];omega
     .rw [aF] at aN;obtain ⟨ub,aK,⟨g,⟨ua,bd,uc,ud⟩,ad⟩⟩:=u;have aT:=(d.out.us.box _ (Aj t)).1;have x0:=Bk aT 0 (.int .i64 ua) rfl;have x1:=Bk aT 1 (.int .i64 bd) rfl;have x2:=Bk aT 2 (.int .i64 uc) rfl;have x3:=Bk aT 3 (.int .i64 ud) rfl;have fu:=Ah aT;have cD:=Ab aT;obtain ⟨⟨pa,bG,pc,pd⟩,bl⟩:∃ p,p=Ka ⟨ua,bd,uc,ud⟩ ⟨na,nb,nc,nd⟩:=⟨_,rfl⟩
      have kp:∀ W,Calls Tryz.prog 252 #[.agg #[.int .i64 ua,.int .i64 bd,.int .i64 uc,.int .i64 ud],.agg #[.int .i64 na,.int .i64 nb,.int .i64 nc,.int .i64 nd]] W fun e w'=>e=.returned (.agg #[.int .i64 pa,.int .i64 bG,.int .i64 pc,.int .i64 pd])/\Below W.heap.size W w':=fun W=>by
       have:=Af6 ⟨ua,bd,uc,ud⟩ ⟨na,nb,nc,nd⟩ W;rw [<- bl] at this;exact this
      have an:Hid ((us.set k ⟨ub,aK,⟨g,⟨pa,bG,pc,pd⟩,ad⟩⟩).map bt.pl=(hs.take (j+1)).foldl Co (B6 ws n)):=(by rw [aO.out];unfold Co;rw [Uh,ac];simp only;rw [Qu _ _ _ (x:=⟨g,⟨ua,bd,uc,ud⟩,ad⟩) (by simp [t]),Mw,bl];rfl);replace ⟨ac,aF,t,aT,kp,bl⟩:=H6 ac aF t aT kp bl;go_upto_region 16 with fail;go_region_with (go_at_call 252;((with_reducible refine (kp.out _).mono ?_);rintro e w1 ⟨rfl,am⟩;have x0:=(Ag am (by first | omega | (simp;omega))).trans x0;have x1:=(Ag am (by first | omega | (simp;omega))).trans x1;have x2:=(Ag am (by first | omega | (simp;omega))).trans x2;have x3:=(Ag am (by first | omega | (simp;omega))).trans x3;have fu:=fun o=>(am.frozen (p:=⟨ub,o,none⟩) (by first | (show ub<_;omega) | (simp;omega))).trans (fu o);replace am:=Hh am))
      all_goals
       go_wp2_with fail
       have ch:Below W1.heap.size W1 w1:=by first | exact am.out | exact Z6 am.out
       have aJ:=d.out.th I2 t.out ch ⟨pa,bG,pc,pd⟩;replace aJ:=Hh aJ;go_roundw
       case rel=>exact ⟨j+1,_,by go_num,by omega,aJ,an⟩
       case measure=>simp [intOf];omega
    .have cf:¬ (j:Int)<m:=(by omega);obtain ⟨aR,aU⟩:=Ex (hs.foldl Co (B6 ws n));have an:us.map bt.pl=aR:=by rw [ap.out,aU,Dn (by have:=hh.out.len;omega)]
     have be:Cq hs ws=aR.map fun u=>⟨u.name,u.has,F3 ws u.left⟩:=by unfold Cq;rw [a8.out,aU]
     have aB:=hU.out.us.map;obtain ⟨D,hD⟩:=Ex (Gk (us.map bt.key));rw [<- hD] at aB;clear aI a3 ap;replace ⟨an,be,aU,aB,hD⟩:=H5 an be aU aB hD
     go_wp2_with (first
      | (at_range;refine wpList_range_own _ rfl _ 328 rfl 9 331 (string_keyed Gq) Xr _ (w.heap.size+1) us.length _ rfl aB.out ?_;intro w0 aV aW bH;replace ⟨aV,aW,bH⟩:=H3 aV aW bH)
      | fail)
     obtain ⟨rI,bI⟩:=Ex (wr.heap.size);rw [<- bI] at aV ⊢;have ci:Hid (fy Ak w ao n c us w0):=(by have hb:Below wr.heap.size wr w0:=⟨aW.out.os,aW.out.tape,aW.out.output,aW.out.size,fun k t=>aW.out.block k t (by simp)⟩;exact hU.out.drop I2 hb);have bJ:w.heap.size<=rI:=by have:=hU.out.us.low.size;omega
     have bZ:Hid (us.map bt.pl=aR.map fun u=>if has D (Bz u.name)=true then u else Wm ws u):=Hh (by
      rw [<- an.out];simp only [Du];apply List.map_congr_left;intro u hu
      have:has D (Bz u.pl.name)=true:=by rw [hD.out,Ash];simp only [Du,Bd];exact ⟨u,hu,rfl⟩
      simp [this])
     have b4:Hid (∀ u,u∈aR->u.left.length<=n/\u.left≠[]/\∀ p,p∈u.left->p<n):=Hh (by
      rw [aU.out];have h0:=(Ui ws n).2
      have b5:∀ (l:List bq) (h:dy),(∀ u,u∈l->u.left.length<=n/\u.left≠[]/\∀ p,p∈u.left->p<n)->∀ u,u∈Co l h->u.left.length<=n/\u.left≠[]/\∀ p,p∈u.left->p<n:=fun l h hl u hu=>by
       unfold Co at hu;split at hu
       .exact hl u hu
       .rcases Oe hu with hu | ⟨y,hy,rfl⟩
        .exact hl u hu
        .exact hl y hy
      have b6:∀ (hs:List dy) (l:List bq),(∀ u,u∈l->u.left.length<=n/\u.left≠[]/\∀ p,p∈u.left->p<n)->∀ u,u∈hs.foldl Co l->u.left.length<=n/\u.left≠[]/\∀ p,p∈u.left->p<n:=fun hs=>by
       induction hs with
       | nil=>intro l hl;exact hl
       | cons h r ih=>intro l hl;exact ih _ (b5 l h hl)
      exact b6 hs _ h0)
     have bK:=hD;obtain ⟨N,hN⟩:=Ex (us.length);rw [<- hN] at aV;clear hU aB aW bH;replace ⟨bI,bJ,hN⟩:=H3 bI bJ hN;go_loopw [13] (fun _ wr=>∃ (left:Lit->Bool) (bL:Nat) (us:List bt),Hid (wr.ranges Tryz.prog 9 I1 (w.heap.size+1) rI N D left bL)/\Hid (fy Ak w ao n c us wr)/\Hid (D=Gk (us.map bt.key))/\Hid (us.map bt.pl=aR.map fun u=>if left (Bz u.name)=true then u else Wm ws u)) (fun _ wr=>wr.rangeLeft (w.heap.size+1) rI)
     case atStart=>exact ⟨_,_,us,aV,ci,bK,bZ⟩
     case round=>
      obtain ⟨left,bL,us,bM,hU,b7,ap⟩:=hrel
      go_wp2_with (first
       | (at_next;refine wpList_next_ranges _ rfl _ rfl 9 (string_keyed Gq) I1 Value.string id (fun b6 kl aC=>by obtain ⟨s,e,_⟩:=WideMaps.string_of_keyOf Gq aC;exact ⟨s,e⟩) (fun v y _=>⟨v,rfl⟩) (w.heap.size+1) rI N D left bL rfl bM.out ?_ ?_)
       | fail)
      .intro _ bN;have a2:us.map bt.pl=Cq hs ws:=(by rw [be.out,ap.out];apply List.map_congr_left;intro u _;rw [bN];rfl);replace ⟨bN,a2⟩:=H2 bN a2;go_wp2;go_ret;exact ⟨us,rfl,hU.out,a2.out⟩
      .intro x v kl y1 y2 w1 bs aC aN hv bO a4 a9 bP b8 cE;obtain ⟨s',e1,e2,b9⟩:=WideMaps.string_of_keyOf Gq aC;injection e1 with e1;subst e1;have e3:kl=Bz x:=e2;subst e3;clear e2;have bf:((us.map bt.key).map Prod.fst).Nodup:=by have:=hU.out.us.names;simpa [bt.key,G6] using this
       have aD:∀ zd,(match Sg (us.map bt.key) x with | some b=>I0 b | none=>zd)=y1:=fun zd=>by
        rw [<- bO zd,b7.out,Af0 zd _ bf]
        try cases Sg (us.map bt.key) x<;>rfl
       rw [Af1] at aD;rcases Sj (fun u:bt=>decide (u.pl.name=x)) us with ⟨ac,aL⟩ | ⟨k,u,ac,t,aF⟩
       .exfalso;rw [aL] at aD;exact Z0 (a:=0) ((aD (I0 0)).trans (aD O7).symm)
       .rw [aF] at aD;have hy:=aD O7;simp only [J1] at hy;have cj:=Afy (by rw [hv,hy]);subst cj;obtain ⟨ub,aK,⟨g,aM,ad⟩⟩:=u;have bQ:g=x:=(by have:=S2 aF;simpa using this);subst bQ;obtain ⟨cF,cG,cH,cI,cJ,_,_,_,_,bR,_⟩:=bM.out;have d:=hU.out.iter I2 bR bJ.out (Mod.grown bP (S:=fun b=>b=rI) (fun k t=>by injection t with t;exact t.symm))
        have ck:∃ q,aR[k]?=some q/\(⟨g,aM,ad⟩:bq)=q:=by
         have:=Ca (fun l=>l[k]?) ap.out;simp only [Bx,t,J1] at this
         cases hq:aR[k]? with
         | none=>rw [hq] at this;cases this
         | some q=>
          rw [hq] at this;simp only [J1,Option.some.injEq] at this;refine ⟨q,rfl,?_⟩;by_cases hl:left (Bz q.name)=true
          .rw [Ad hl] at this;exact this
          .exfalso;rw [Ac hl] at this;have cl:g=q.name:=Ca bq.name this;rw [<- cl] at hl;exact hl aN
        obtain ⟨q,hq,cm⟩:=ck;subst cm;obtain ⟨b1,b2,b3⟩:=b4.out _ (Aj hq);simp only at b1 b2 b3;have bS:=hw.out.low d.us.low
        have bT:=Ar3 (d.us.left _ (Aj t)) b2 (by show ad.length<=20;omega) ao n c w.heap.size ws bS d.pb b3 h1.out (fun b av e c2=>by
         have h0:0<n:=by
          cases ad with
          | nil=>exact absurd rfl b2
          | cons p r=>have:=b3 p (E2 ..);omega
         obtain ⟨b',cs,e',ct,_⟩:=hw.out.cell 0 _ (Am (by have:=a8.out;omega));rw [e] at e';injection e' with e';injection e' with e';have:=(d.us.left _ (Aj t)).lt _ c2
         omega)
        have x4:w1.cell? ⟨ub,4,none⟩=some aK:=Aa (d.us.box _ (Aj t)).1 4;replace ⟨aC,aN,hv,bO,a4,a9,bP,b8⟩:=H8 aC aN hv bO a4 a9 bP b8;replace ⟨b9,bf,aD,ac,t,aF,hy,bR⟩:=H8 b9 bf aD ac t aF hy bR;replace ⟨d,hq,b1,b2,b3,bS,bT⟩:=H7 d hq b1 b2 b3 bS bT;go_wp2_with (go_at_call 288;(with_reducible refine bT.out.mono ?_);rintro e w2 ⟨rfl,bU,bg⟩;replace ⟨bU,bg⟩:=H2 bU bg);have bv:=d.out.us.box _ (Aj t.out);have bi:=d.out.us.left _ (Aj t.out)
        have nb:aK.ownBlock≠some ub:=fun e=>by
         obtain ⟨c',hc⟩:=I2.aq bi _ e;rw [bv.1] at hc;injection hc with hc;injection hc with _ hc;exact absurd hc (by decide)
        have bw:Hid (w2.ranges Tryz.prog 9 I1 (w.heap.size+1) rI N D (fun z=>left z && !z.sameKey (Bz g)) bs):=by
         refine a4.out.kept bg.out.grownBy (fun e=>?_) (fun e=>?_)
         .obtain ⟨c',hc⟩:=I2.aq bi _ e.symm;obtain ⟨co,cK,ca⟩:=d.out.us.om;rw [ca] at hc;cases hc
         .obtain ⟨c',hc⟩:=I2.aq bi _ e.symm;obtain ⟨co,cL,cM,cN,cO,_,_,_,_,cb,_⟩:=a4.out;rw [cb] at hc;cases hc
        have aI:Hid (fy Ak w ao n c (us.set k ⟨ub,aK,⟨g,aM,F3 ws ad⟩⟩) w2):=d.out.set I2 t.out (bg.out.mono fun _ _ e=>.inr e) rfl rfl (bg.out.aq bv.1 nb) bU.out (fun k t=>.inl t);have cp:Hid (D=Gk ((us.set k ⟨ub,aK,⟨g,aM,F3 ws ad⟩⟩).map bt.key)):=Hh (by rw [Asi (u':=⟨ub,aK,⟨g,aM,F3 ws ad⟩⟩) t.out rfl];exact b7.out)
        have a3:Hid ((us.set k ⟨ub,aK,⟨g,aM,F3 ws ad⟩⟩).map bt.pl=aR.map fun u=>if (left (Bz u.name) && !(Bz u.name).sameKey (Bz g))=true then u else Wm ws u):=Hh (by
         apply Ee;intro j;have hj:=Ca (fun l=>l[j]?) ap.out;simp only [Bx] at hj ⊢;rw [Do];by_cases bV:k=j
         .subst bV;rw [Ad rfl,Ad (Aq.1 t.out).1,hq.out];have:(Bz g).sameKey (Bz g)=true:=(Z5 g g).2 rfl;simp [this,Wm]
         .rw [Ac bV,hj]
          cases hqj:aR[j]? with
          | none=>rfl
          | some q2=>
           simp only [J1]
           have a6:¬ (Bz q2.name).sameKey (Bz g)=true:=fun e=>by
            have e2:=(Z5 _ _).1 e;rw [hqj] at hj
            cases huj:us[j]? with
            | none=>rw [huj] at hj;cases hj
            | some u2=>
             rw [huj] at hj;simp only [J1,Option.some.injEq] at hj
             have bY:u2.pl.name=q2.name:=by rw [hj];split<;>rfl
             have cr:=hU.out.us.names;have h6:(us.map fun u=>u.pl.name)[k]?=some g:=(by simp [t.out]);have h7:(us.map fun u=>u.pl.name)[j]?=some g:=(by simp [huj,bY,e2]);obtain ⟨i6,e6⟩:=Aq.1 h6;obtain ⟨i7,e7⟩:=Aq.1 h7;exact bV ((List.getElem_inj cr).1 (e6.trans e7.symm))
           rw [Bool.not_eq_true] at a6;rw [a6]
           simp)
        refine ⟨⟨_,bs,_,bw,aI,cp,a3⟩,?_⟩;rw [bw.out.left_eq,bM.out.left_eq];exact a9.out
end Go.Proofs.YtimlcnhcjndijaaGreatDoor
namespace Go.Proofs.YtimlcnhcjndijaaGreatDoor
open Go.RowKit Go.Maps Go.Sort Go.Shelf
def Avc (m:Nat):AnyZ.SortsIn Tryz.prog Tryz.gj Fence.wide m:=
 ⟨fun d b cap ss W e a c=>Or.2 (AnyM.slices_Sort_string Tryz.r6 d b cap ss W e a c), fun p cap W=>Or.2 (AnyM.slices_Sort_string_none Tryz.r6 p cap W)⟩
def Avd {H:Type} (b nn:Nat) (d:DataW H) (R:Value->Option (DataW H×List MemPlace)) (w:World) (c:w.ownsMap Tryz.prog 9 R b nn d) (g:Maps.size d<=maxLen) (a:Maps.size d*16<=140737488355328) :
  Calls Tryz.prog 249 #[.map (some b)] w fun e w'=>∃ (v:Value) (ss:List (List UInt8)),e=.returned v/\ss.Perm (strKeys d) /\
   w'.ownsRow w.heap.size 9 1 v ss.length ((ss.mergeSort (fun x y=>decide (x<=y))).map encStr)/\(v=.slice none 0 0↔ss=[])/\Below w.heap.size w w':=by
 refine (Or (n:=6)).1 ?_;have k:=c.lt
 have h:SeqGives Fence.wide 2 Tryz.prog 324 #[.pointer (some ⟨w.heap.size,0,none⟩)] encStr (fun ss=>ss.Perm (strKeys d)) (Maps.size d) (w.alloc (.cells #[.map (some b)] 328)):=
  AnyZ.keys_gives (ρ:=Tryz.ji) { Tryz.su with } Fence.wide _ trivial rfl (by omega) w.heap.size b nn d _ (by simp) (by simp) (by
   obtain ⟨o,f,l,p,q,r⟩:=c
   exact ⟨o,f,(Gs _ _ b k).trans l,p,q,r⟩)
 have s:∀ j W,CallsIn Fence.wide 5 Tryz.prog 292 #[.map j] W fun e w'=>e=.returned (.func (.func 324) #[] #[.pointer (some ⟨W.heap.size,0,none⟩)])/\w'=W.alloc (.cells #[.map j] 328):=fun j W=>AnyZ.keys_in Tryz.su Fence.wide 5 trivial rfl j W;have m:=AnyZ.sorted_in Tryz.rj Fence.wide 5 trivial trivial trivial trivial rfl (by omega) (Avc _) (enters_of Tryz.func323 (by kernel_rfl) rfl) 324 #[.pointer (some ⟨w.heap.size,0,none⟩)] trivial (enters_of Tryz.func324 (by kernel_rfl) rfl) _ _ g a _ h;change CallsIn _ _ Tryz.prog 291 _ _ _ at m;have t:Fence.wide.fn 292:=trivial;have u:Fence.wide.fn 291:=trivial;refine callsIn_of_wp Tryz.func249 rfl trivial ?_ rfl;simp only [Tryz.ntmps249,List.size_toArray,Jy,Pr,Nat.reduceAdd,Nat.reduceSub,Array.replicate_succ,Array.replicate_zero,List.push_toArray,List.append_toArray,Rf,Pp]
 gi_wp2_with (first
  | (gi_at_call 292;refine (s _ _).mono ?_;rintro e w' ⟨rfl,rfl⟩)
  | (gi_at_call 291;refine m.mono ?_;rintro e w' ⟨v,ss,rfl,z,ak,i,l⟩))
 go_ret;exact ⟨v,ss,rfl,z,ownsRow_base_a ak (by simp),i,((Below.refl _ w).alloc Ln _).trans (l.mono (by simp))⟩
end Go.Proofs.YtimlcnhcjndijaaGreatDoor
