/- Parts of a proof. No condition. -/
import Derived.Test.YtimlcnhcjndijaaGreatDoorF22
import Derived.Laws.AppendOwnNone
set_option linter.all false
set_option maxRecDepth 100000
set_option maxHeartbeats 6400000
namespace Go.Proofs.YtimlcnhcjndijaaGreatDoor
open Go renaming World->WD,Value->VL,Calls->CS
open Go.RowKit renaming Below->BW
open Go.Proofs.Tryz
namespace Pl
open Go.RowKit
structure Ch where
 fr:Int
 tt:Int
 v:V4
 back:Bool
def Ch.zero:Ch:=⟨0,0,V4.zero,false⟩
def ch (l:List Ch) (i:Nat):Ch:=l.getD i Ch.zero
def Asu {w w':WD} {base size n B:Nat} {e:TypeId} {v:VL} {xs:List VL} (h:w.ownsRow base e size v n xs) (f:BW B w w') (d:w.heap.size<=B):w'.ownsRow base e size v n xs:=by
 obtain ⟨h1,c⟩:=h;refine ⟨h1,?_⟩;rcases c with h | ⟨g,cap,a,k,i,b,j⟩
 .exact .inl h
 .exact .inr ⟨g,cap,a,k,i,Ae f b (Bx (Ab b) d),j⟩
def Asv (w:WD) (a b c:Obj):BW w.heap.size w (((w.alloc a).alloc b).alloc c):=(Bn.alloc (by simp) _).alloc (by simp;omega) _

def Zu (w:WD) (n:Int):∀ j u,([.int .i64 n]:List VL)[j]?=some u->(w.alloc (.cells #[.int .i64 n] 3 (0,0))).cell? ((⟨w.heap.size,0,none⟩:Addr).add j)=some u:=by
 intro j u a
 match j,a with
 | 0,a=>
  have:=Aa (Ah w (.cells #[.int .i64 n] 3 (0,0))) 0;simp at a;subst a;exact this
 | j+1,a=>simp at a
def size_alloc {B:Nat} {w:WD} (h:B<=w.heap.size) (o:Obj):B<=(w.alloc o).heap.size:=by simp;omega

end Pl
namespace Pl

end Pl
namespace Pl
open Go.RowKit
variable{st:Int}{B b c n sc:Nat}{so:Option Addr}{w w' wr:WD}

structure Ask where
 id:Int
 po:Option Addr
 pn:Nat
 pc:Nat
 gl:List Int
 nodes:Int
 v:V4
 aa:Int
 start:Int
 go:Option Addr
 gn:Nat
 gc:Nat
 dq:List Int
abbrev Ask.cells (a:Ask):Array VL:=#[.int .i64 a.id,.slice a.po a.pn a.pc,.int .i64 a.nodes,.int .i64 a.v.a,.int .i64 a.v.b,.int .i64 a.v.c,.int .i64 a.v.d,.int .i64 a.aa,.int .i64 a.start,.slice a.go a.gn a.gc]
abbrev Ask.val (a:Ask):VL:=.agg #[.int .i64 a.id,.slice a.po a.pn a.pc,.int .i64 a.nodes,.int .i64 a.v.a,.int .i64 a.v.b,.int .i64 a.v.c,.int .i64 a.v.d,.int .i64 a.aa,.int .i64 a.start,.slice a.go a.gn a.gc]
def Ask.obj (a:Ask):Obj:=.cells a.cells 266 (0,0)
structure Ask.ok (w:WD) (a:Ask):Prop where
 places:Ar w a.po a.pn a.gl
 lg:a.pn<=a.pc
 ak:Ar w a.go a.gn a.dq
 om:a.gn<=a.gc
def Ask.ok.below  {a:Ask}  (h:a.ok w) (c:BW B w w') (b:w.heap.size<=B):a.ok w':=⟨h.places.below c b,h.lg,h.ak.below c b,h.om⟩
def Of   {a:Ask} (h:w.heap[b]?=some a.obj):w.cell? ⟨b,0,none⟩=some (.int .i64 a.id)/\w.cell? ⟨b,1,none⟩=some (.slice a.po a.pn a.pc)/\w.cell? ⟨b,2,none⟩=some (.int .i64 a.nodes) /\
  w.cell? ⟨b,3,none⟩=some (.int .i64 a.v.a)/\w.cell? ⟨b,4,none⟩=some (.int .i64 a.v.b)/\w.cell? ⟨b,5,none⟩=some (.int .i64 a.v.c)/\w.cell? ⟨b,6,none⟩=some (.int .i64 a.v.d)/\w.cell? ⟨b,7,none⟩=some (.int .i64 a.aa) /\
  w.cell? ⟨b,8,none⟩=some (.int .i64 a.start)/\w.cell? ⟨b,9,none⟩=some (.slice a.go a.gn a.gc):=
 ⟨Aa h 0,Aa h 1,Aa h 2,Aa h 3,Aa h 4,Aa h 5,Aa h 6,Aa h 7,Aa h 8,Aa h 9⟩
def bi (bs:List Bool) (i:Nat):Bool:=bs.getD i false
structure Mi (w:WD) (ao:Option Addr) (n:Nat) (bs:List Bool):Prop where
 len:bs.length=n
 max:n<=9223372036854775807
 cell:∀ i,i<n->∃ b off,ao=some ⟨b,off,none⟩/\b<w.heap.size/\w.cell? ⟨b,off+i,none⟩=some (.bool (bi bs i))
def Mi.below  {d:Option Addr}  {f:List Bool} (h:Mi w d n f)  (g:BW B w w') (l:w.heap.size<=B):Mi w' d n f:=
 ⟨h.len,h.max,fun i k=>by
  obtain ⟨b,c,e,a,j⟩:=h.cell i k
  exact ⟨b,c,e,Bx a g.size,(Ag g (by omega)).trans j⟩⟩
structure qx (w:WD) (tb gb:Nat) (uo:Option Addr) (un uc:Nat) (bs:List Bool) (now:Int):Prop where
 head:w.heap[tb]?=some (.cells #[.pointer (some ⟨gb,0,none⟩),.slice uo un uc,.int .i64 now] 270 (0,0))
 up:Mi w uo un bs
def qx.below  {d b f e:Nat} {g:Option Addr} {a:List Bool} {now:Int} (h:qx w d b g f e a now) (c:BW w.heap.size w w'):qx w' d b g f e a now:=⟨Ae c h.head (Ab h.head),h.up.below c Ln⟩
def Asw (zs:List Int) (x:Int) (w:WD) (e:Ending) (w':WD):Prop:=∃ r:Int,e=.returned (.int .i64 r)/\(0<=r↔x∈zs)/\w'=w
def Asx (r:Option Addr) (n c:Nat) (zs:List Int) (x:Int) (w:WD) (m:Ar w r n zs):CS prog 216 #[.slice r n c,.int .i64 x] w (Asw zs x w):=by
 have a:=m.len;have u:=m.max;replace ⟨m,a⟩:=H2 m a;go_enter func216,ntmps216;go_wp2;go_loopw [5,8] (fun _ i wr=>∃ k:Nat,i=.int .i64 k/\k<=n/\Hid (∀ j,j<k->zi zs j≠x)/\wr=w) (fun _ i _=>n-(intOf i).toNat)
 case atStart=>exact ⟨0,rfl,Aq _,(fun j h=>by omega),rfl⟩
 case round=>
  obtain ⟨k,rfl,hk,f,rfl⟩:=hrel;by_cases s:k<n
  .have o:(k:Int)<n:=(by omega);have z:(0:Int)<=(k:Int):=(by omega);obtain ⟨b,ac,rfl,hb,v⟩:=m.cell k s;obtain ⟨y,l⟩:=Ex (zi zs k);rw [<- l] at v;by_cases q:x=y
   .have d:(x == y)=true:=(by simpa using q);have g:x∈zs:=Ag6.2 ⟨k,by rw [a.out];exact s,by rw [<- l];exact q.symm⟩;replace ⟨l,q,g⟩:=H3 l q g;go_wp2;go_ret;exact ⟨k,rfl,⟨fun _=>g.out,fun _=>by omega⟩,rfl⟩
   .have d:(x == y)=false:=by simpa using q
    have p:∀ j,j<k+1->zi zs j≠x:=fun j t=>by
     by_cases e:j=k
     .subst e;rw [<- l];exact fun h=>q h.symm
     .exact f.out j (by omega)
    replace ⟨l,q,p⟩:=H3 l q p;go_wp2;go_roundw
    case rel=>exact ⟨k+1,by go_num,by omega,p.out,trivial⟩
    case measure=>simp [intOf];omega
  .have o:¬ (k:Int)<n:=by omega
   have g:¬ x∈zs:=fun h=>by
    obtain ⟨j,t,e⟩:=Ag6.1 h;exact f.out j (by rw [a.out] at t;omega) e
   replace g:=Hh g;go_wp2;go_ret;exact ⟨-1,rfl,⟨fun h=>(by omega),fun h=>absurd h g.out⟩,rfl⟩
def Ag8 (f:Option Addr) (n c:Nat) (zs:List Int) (x:Int) (w:WD) (i:Ar w f n zs):CS prog 166 #[.slice f n c,.int .i64 x] w (Asp zs x w):=by
 have g:=Asx f n c zs x w i;replace g:=Hh g;go_enter func166,ntmps166;go_wp2_with fail;refine g.mono ?_;rintro e j ⟨r,rfl,b,rfl⟩;by_cases q:0<=r
 .have d:decide (0<=r)=true:=by simpa using q
  have a:=b.1 q;replace ⟨q,a⟩:=H2 q a;clear b;go_wp2;go_ret;exact ⟨true,rfl,⟨fun _=>a.out,fun _=>rfl⟩,rfl⟩
 .have d:decide (0<=r)=false:=by simpa using q
  have a:¬ x∈zs:=fun h=>q (b.2 h);replace ⟨q,a⟩:=H2 q a;clear b;go_wp2;go_ret;exact ⟨false,rfl,⟨fun h=>(by cases h),fun h=>absurd h a.out⟩,rfl⟩
def Ask.can (a:Ask):Bool:=decide (0<a.nodes) && decide (0<a.aa) && a.v.right
def Ag9 (a:Ask) (w:WD):CS prog 237 #[a.val] w fun e w'=>e=.returned (.bool a.can)/\BW w.heap.size w w':=by
 have f:BW w.heap.size w (w.alloc a.obj):=Bn;replace f:=Hh f;by_cases b:0<a.nodes;rotate_left
 .have h:decide (0<a.nodes)=false:=by simpa using b
  have e:a.can=false:=by simp [Ask.can,h]
  rw [e];replace ⟨b,e⟩:=H2 b e;go_enter func237,ntmps237;go_wp2;go_ret;exact ⟨rfl,f.out⟩
 have h:decide (0<a.nodes)=true:=by simpa using b
 by_cases g:0<a.aa;rotate_left
 .have i:decide (0<a.aa)=false:=by simpa using g
  have e:a.can=false:=by simp [Ask.can,i]
  rw [e];replace ⟨b,g,e⟩:=H3 b g e;go_enter func237,ntmps237;go_wp2;go_ret;exact ⟨rfl,f.out⟩
 have i:decide (0<a.aa)=true:=by simpa using g
 have e:a.can=a.v.right:=by simp [Ask.can,h,i]
 rw [e];replace ⟨b,g,e⟩:=H3 b g e;go_enter func237,ntmps237;go_wp2_with fail;refine (I5 a.v _).mono ?_;rintro j k ⟨rfl,d⟩;have c:=f.trans (d.mono f.size);replace ⟨c,d⟩:=H2 c d;go_wp2;go_ret;exact ⟨rfl,c.out⟩
def Nf (fr aa:Int):Int:=if 1099511627776-fr<aa then 1099511627777 else fr+aa
def Wz (fr a:Int) (w:WD) (h0:0<=fr) (h1:fr<=1099511627776) (f:-9223372036854775808<=a):CS prog 239 #[.int .i64 fr,.int .i64 a] w fun e w'=>e=.returned (.int .i64 (Nf fr a))/\w'=w:=by
 have b:IntKind.i64.wrap (1099511627776-fr)=1099511627776-fr:=E9 _ (by omega);unfold Nf;by_cases q:1099511627776-fr<a
 .have d:decide (1099511627776-fr<a)=true:=by simpa using q
  rw [Ad q];replace q:=Hh q;go_enter func239,ntmps239;go_wp2;go_ret;exact ⟨rfl,rfl⟩
 .have d:decide (1099511627776-fr<a)=false:=by simpa using q
  have c:IntKind.i64.wrap (fr+a)=fr+a:=E9 _ (by omega);rw [Ac q];replace q:=Hh q;go_enter func239,ntmps239;go_wp2;go_ret;exact ⟨rfl,rfl⟩
def Qq (bs:List Bool) (zs:List Int) (i:Nat):Bool:=bi bs i && decide ((i:Int)∈zs)
def Ng (bs:List Bool) (zs:List Int) (k:Nat):List Nat:=(List.range k).filter (Qq bs zs)
def ni (bs:List Bool) (zs:List Int):List Nat:=Ng bs zs bs.length
def Aa7 (a:List Bool) (zs:List Int) (k:Nat):Ng a zs (k+1)=if Qq a zs k=true then Ng a zs k++[k] else Ng a zs k:=by
 unfold Ng;rw [Vi,Nt];by_cases h:Qq a zs k=true
 .rw [Ad h];simp [h]
 .rw [Ac h];simp [h]
def Asy (bs:List Bool) (zs:List Int) (w:WD) (e:Ending) (w':WD):Prop:=
 ∃ so n c,e=.returned (.slice so n c)/\Ar w' so n (Bj (ni bs zs))/\n<=c/\(∀ b off,so=some ⟨b,off,none⟩->w.heap.size<=b)/\BW w.heap.size w w'
def Aha (tb gb un uc:Nat) (uo:Option Addr) (x:List Bool) (now:Int) (a:Ask) (w:WD) (ht:qx w tb gb uo un uc x now) (hz:Ar w a.po a.pn a.gl) (hu:un<=1000000) :
  CS prog 246 #[.pointer (some ⟨tb,0,none⟩),a.val] w (Asy x a.gl w):=by
 obtain ⟨i3,aI,aJ,aD,aE⟩:=Cb M1;have al:BW w.heap.size w (w.alloc a.obj):=Bn;have q:(w.alloc a.obj).heap[w.heap.size]?=some a.obj:=Ah _ _;have v:=ht.up.len;have t1:=Aa ht.head 1;simp at t1;have lt:=Ab ht.head;replace ⟨ht,hz,al,q,v⟩:=H5 ht hz al q v;go_enter func246,ntmps246;go_wp2;go_loopw [5,6,7,13] (fun ov _ _ i wr=>∃ (k L:Nat) (xs:List Nat),i=.int .i64 k/\k<=un/\L<=k/\Hid (BW w.heap.size w wr)/\Hid (wr.heap[w.heap.size]?=some a.obj)/\Hid (Al wr (w.heap.size+1) ov L xs)/\Hid (xs=Ng x a.gl k)) (fun _ _ _ i _=>un-(intOf i).toNat)
 case atStart=>exact ⟨0,0,[],rfl,by omega,Nat.le_refl _,al.out,q.out,Al.nil _ _,rfl⟩
 case round=>
  obtain ⟨k,L,xs,rfl,hk,aK,hB,hx,f,z⟩:=hrel;by_cases hc:k<un
  .have aH:(k:Int)<un:=(by omega);have aL:(0:Int)<=(k:Int):=(by omega);obtain ⟨b,aF,rfl,hb,a0⟩:=ht.up.cell k hc;have b0:=(Ag hB.out hb).trans a0;clear a0;have sz:=hB.size;cases l:bi x k
   .rw [l] at b0;have c:xs=Ng x a.gl (k+1):=(by rw [Aa7,Ac (by simp [Qq,l]),z.out]);replace ⟨c,l⟩:=H2 c l;go_wp2;go_roundw
    case rel=>exact ⟨k+1,L,xs,by go_num,by omega,by omega,hB.out,hx.out,f.out,c.out⟩
    case measure=>simp [intOf];omega
   .rw [l] at b0;have x1:=(Of hx.out).2.1;have lx:=Ab hx.out;have ap:=Ag8 a.po a.pn a.pc a.gl (k:Int) wr (hz.below hB.out Ln);replace ap:=Hh ap;go_wp2_with fail;refine ap.mono ?_;rintro e w2 ⟨r,rfl,hr,rfl⟩;have hp:Qq x a.gl k=r:=(by simp only [Qq,l,Bool.true_and];rw [Nw,decide_eq_true_iff];exact hr.symm);clear hr;replace l:=Hh l;cases r
    .have c:xs=Ng x a.gl (k+1):=(by rw [Aa7,Ac (by rw [hp];simp),z.out]);replace ⟨c,hp⟩:=H2 c hp;go_wp2;go_roundw
     case rel=>exact ⟨k+1,L,xs,by go_num,by omega,by omega,hB.out,hx.out,f.out,c.out⟩
     case measure=>simp [intOf];omega
    .have c:xs++[k]=Ng x a.gl (k+1):=(by rw [Aa7,Ad hp,z.out]);have ac:w.heap.size+1<=w2.heap.size:=lx;have p:=f.2.alloc (.cells #[.int .i64 (k:Int)] 3 (0,0));have n:=Zu w2 (k:Int);have o:∀ u∈([.int .i64 (k:Int)]:List VL),u.oneCell'=true:=by simp [Value.oneCell']
     have ad:L+1<=maxLen:=by
      have:maxLen=9223372036854775807:=by kernel_rfl
      omega
     have ao:(L+1)*8<=140737488355328:=(by omega);have s:=size_alloc ac (.cells #[.int .i64 (k:Int)] 3 (0,0));have aA:=f.2.lt;have aC:=f.1;replace ⟨c,hp,p,n,o,ad,ao,s⟩:=H8 c hp p n o ad ao s;replace ⟨aA,aC⟩:=H2 aA aC;go_wp2_with (at_builtin;refine Ms _ rfl _ _ 31 rfl (w.heap.size+1) 3 i3 _ 1 8 Nn aI aJ aD aE rfl Nat.one_pos _ L _ rfl p.out ⟨w2.heap.size,0,none⟩ 1 1 [.int .i64 (k:Int)] rfl rfl n.out o.out ad.out ao.out s.out ?_;intro v1 w9 j m _;obtain ⟨g,t,rfl⟩:=Joins.ownsRow_form j (I3 _);replace ⟨j,m⟩:=H2 j m);have an:Al w9 (w.heap.size+1) (.slice (some ⟨g,0,none⟩) (L+1) t) (L+1) (xs++[k]):=⟨by rw [Cn,<- aC.out];rfl,by simpa [Bj] using j.out⟩;have hG:=((Below.refl _ _).alloc ac _).grown m.out s.out (fun k hk=>(aA k hk).1);have am:=hB.trans (hG.mono (Dx _));have aB:=Ae hG hx.out (Nat.lt_succ_self _);replace ⟨an,am,aB,hG⟩:=H4 an am aB hG;go_roundw
     case rel=>exact ⟨k+1,L+1,xs++[k],by go_num,by omega,by omega,am.out,aB.out,an.out,c.out⟩
     case measure=>simp [intOf];omega
  .have aH:¬ (k:Int)<un:=(by omega);have av:k=x.length:=(by rw [v.out];omega);have y:xs=ni x a.gl:=(by unfold ni;rw [z.out,av]);have aG:L<=9223372036854775807:=(by omega);replace ⟨av,y⟩:=H2 av y;have d:=f.out;rcases Joins.ownsRow_forms d.2 with ⟨rfl,h0⟩ | ⟨g,t,rfl⟩
   .have q:xs=[]:=(by have:=d.1;rw [h0] at this;exact Gd.1 this.symm);replace ⟨d,h0,q⟩:=H3 d h0 q;go_wp2;go_ret;refine ⟨none,0,0,rfl,?_,Nat.le_refl _,(fun b aF h=>by simp at h),hB.out⟩;rw [<- y.out,q.out];exact T7 _
   .obtain ⟨o1,o2,o3⟩:=d.at aG;replace ⟨d,o1,o2,o3⟩:=H4 d o1 o2 o3;go_wp2;go_ret;refine ⟨some ⟨g,0,none⟩,L,t,rfl,?_,o2.out,(fun b aF e=>by cases e;exact Nat.le_of_succ_le o3.out),hB.out⟩;rw [<- y.out];exact o1.out
structure Nh (bs:List Bool) (a:Ask) (zs:List Int):Prop where
 ur:∀ i,i<zs.length->zi zs i∈Bj (ni bs a.gl)
 az:∀ i,i+1<zs.length->zi zs i<zi zs (i+1)
 len:(zs.length:Int)=a.nodes
def Asz (bs:List Bool) (a:Ask) (zs:List Int) (w:WD) (e:Ending) (w':WD):Prop:=∃ b:Bool,e=.returned (.bool b)/\(b=true↔Nh bs a zs)/\BW w.heap.size w w'
def As0 (tb gb un uc:Nat) (uo:Option Addr) (p:List Bool) (now:Int) (a:Ask) (ao:Option Addr) (m c:Nat) (zs:List Int) (w:WD) (ht:qx w tb gb uo un uc p now) (hp:Ar w a.po a.pn a.gl) (hu:un<=1000000) (hz:Ar w ao m zs) :
  CS prog 238 #[.pointer (some ⟨tb,0,none⟩),a.val,.slice ao m c] w (Asz p a zs w):=by
 obtain ⟨W,hW⟩:=Ex (w.alloc a.obj);have o:BW w.heap.size w W:=by rw [hW];exact Bn
 have ac:W.heap[w.heap.size]?=some a.obj:=by rw [hW];exact Ah _ _
 have z:=Aha tb gb un uc uo p now a W (ht.below o) (hp.below o Ln) hu;rw [hW] at z;have l:=hz.len;have aD:=hz.max;replace ⟨ht,hp,hz,o,ac,z,l,hW⟩:=H8 ht hp hz o ac z l hW;go_enter func238,ntmps238;go_wp2_with fail;refine z.mono ?_;rintro e w2 ⟨so,sn,sc,rfl,am,_,_,t⟩;rw [<- hW.out] at t;have n:=o.trans (t.mono o.size);have an:=Ae t ac.out (Ab ac.out);replace ⟨am,t,n,an⟩:=H4 am t n an;go_wp2;go_loopw [8,9,15] (fun _ _ i wr=>∃ k:Nat,i=.int .i64 k/\k<=m/\Hid (∀ i,i<k->zi zs i∈Bj (ni p a.gl)/\(∀ j,i=j+1->zi zs j<zi zs i))/\wr=w2) (fun _ _ i _=>m-(intOf i).toNat)
 case atStart=>exact ⟨0,rfl,Aq _,(fun i h=>absurd h (Mt i)),rfl⟩
 case round=>
  obtain ⟨k,rfl,hk,s,rfl⟩:=hrel;by_cases hc:k<m
  .have aC:(k:Int)<m:=(by omega);have aH:(0:Int)<=(k:Int):=(by omega);obtain ⟨b,aJ,rfl,hb,a0⟩:=hz.cell k hc;have b0:=(Ag n.out hb).trans a0;clear a0;obtain ⟨x,hx⟩:=Ex (zi zs k);rw [<- hx] at b0
   have ap:Hid (¬ (x∈Bj (ni p a.gl)/\∀ j,k=j+1->zi zs j<x)->¬ Nh p a zs):=fun h hg=>by
    have av:k<zs.length:=(by rw [l.out];exact hc);refine h ⟨by rw [hx];exact hg.ur k av,fun j e=>?_⟩;subst e;rw [hx];exact hg.az j av
   have ad:=Ag8 so sn sc (Bj (ni p a.gl)) x wr am.out;replace ⟨hx,ad⟩:=H2 hx ad;go_wp2_with fail;refine ad.mono ?_;rintro e w3 ⟨r,rfl,hr,rfl⟩
   cases r with
   | false=>
    have g:=ap (fun h=>by have:=hr.2 h.1;cases this);clear hr;replace g:=Hh g;go_wp2;go_ret;exact ⟨false,rfl,⟨fun h=>(by cases h),fun h=>absurd h g.out⟩,n.out⟩
   | true=>
    have v:=hr.1 rfl;clear hr;replace v:=Hh v;by_cases k0:k=0
    .have dk:decide (0<(k:Int))=false:=(by simp;omega);have aA:decide (0<k)=false:=by simp;omega
     have f:∀ i,i<k+1->zi zs i∈Bj (ni p a.gl)/\(∀ j,i=j+1->zi zs j<zi zs i):=fun i hi=>by
      have:i=k:=by omega
      subst this;exact ⟨by rw [<- hx.out];exact v.out,fun j e=>by omega⟩
     replace ⟨k0,f⟩:=H2 k0 f;go_wp2;go_roundw
     case rel=>exact ⟨k+1,by go_num,by omega,f.out,trivial⟩
     case measure=>simp [intOf];omega
    .obtain ⟨j,hj⟩:∃ j,k=j+1:=⟨k-1,by omega⟩;have dk:decide (0<(k:Int))=true:=(by simp;omega);have aA:decide (0<k)=true:=(by simp;omega);have ej:IntKind.i64.wrap ((k:Int)-1)=(j:Int):=(by rw [E9 _ (by omega)];omega);have aG:(j:Int)<m:=(by omega);have aF:(0:Int)<=(j:Int):=(by omega);obtain ⟨b',aE,e',aB,a1⟩:=hz.cell j (by omega);cases e';have b1:=(Ag n.out aB).trans a1;clear a1;obtain ⟨y,hy⟩:=Ex (zi zs j);rw [<- hy] at b1;by_cases q3:x<=y
     .have d3:decide (x<=y)=true:=(by simpa using q3);have g:=ap (fun h=>by have:=h.2 j hj;rw [<- hy] at this;omega);replace ⟨q3,g,hy,hj,k0⟩:=H5 q3 g hy hj k0;go_wp2;go_ret;exact ⟨false,rfl,⟨fun h=>(by cases h),fun h=>absurd h g.out⟩,n.out⟩
     .have d3:decide (x<=y)=false:=by simpa using q3
      have f:∀ i,i<k+1->zi zs i∈Bj (ni p a.gl)/\(∀ j,i=j+1->zi zs j<zi zs i):=fun i hi=>by
       by_cases e:i=k
       .subst e;refine ⟨by rw [<- hx.out];exact v.out,fun j2 e=>?_⟩
        have:j2=j:=by omega
        subst this;rw [<- hx.out,<- hy];omega
       .exact s.out i (by omega)
      replace ⟨q3,f,hy,hj,k0⟩:=H5 q3 f hy hj k0;go_wp2;go_roundw
      case rel=>exact ⟨k+1,by go_num,by omega,f.out,trivial⟩
      case measure=>simp [intOf];omega
  .have aC:¬ (k:Int)<m:=(by omega);have aI:k=m:=(by omega);have x2:=(Of an.out).2.2.1;by_cases q:(m:Int)=a.nodes
   .have d:((m:Int) == a.nodes)=true:=(by simpa using q);have u:Nh p a zs:=⟨fun i hi=>(s i (by rw [l.out] at hi;omega)).1,fun i hi=>(s (i+1) (by rw [l.out] at hi;omega)).2 i rfl,by rw [l.out];exact q⟩;replace ⟨q,u⟩:=H2 q u;go_wp2;go_ret;exact ⟨true,rfl,⟨fun _=>u.out,fun _=>rfl⟩,n.out⟩
   .have d:((m:Int) == a.nodes)=false:=(by simpa using q);have al:¬ Nh p a zs:=fun h=>q (by rw [<- l.out];exact h.len);replace ⟨q,al⟩:=H2 q al;go_wp2;go_ret;exact ⟨false,rfl,⟨fun h=>(by cases h),fun h=>absurd h al.out⟩,n.out⟩
def Mj (bs:List Bool) (now:Int) (a:Ask) (start:Int) (zs:List Int):Prop:=a.can=true/\now<=start/\start<=1099511627776/\Nh bs a zs
def Ahb (gb gs cap:Nat) (po:Option Addr) (ps:List Nd) (bs:List Bool) (now:Int) (a:Ask) (start:Int) (zs:List Int) (w:WD) (e:Ending) (w':WD):Prop:=
 ∃ (b:Bool) (ps':List Nd),e=.returned (.bool b)/\Bz w' gb gs po cap ps'/\gz w ps ps'/\Mod (Bd ps) w w' /\
  ((¬ Mj bs now a start zs/\b=false/\ps'=ps)\/(Mj bs now a start zs/\∃ r,Lh ps zs start (Nf start a.aa) a.v r ps'/\(b=true↔r=0)))
def J2  {j k cap b:Nat} {po:Option Addr} {h:List Nd} {o:Array VL} {T:TypeId} (g:Bz w j k po cap h) (e:w.heap[b]?=some (.cells o T (0,0))) (h1:T≠363) (l:T≠398):¬ Bd h b:=by
 rintro ⟨i,f,c | c⟩
 .have:=(g.fj i f).head;rw [<- c,e] at this;simp at this;exact h1 this.2
 .obtain ⟨d,a,_⟩:=(g.fj i f).row.ar;rw [<- c,e] at a;simp at a;exact l a.2
def Mod.cn {S:Nat->Prop}  (h:BW w.heap.size w w'):Mod S w w':=⟨h.os,h.tape,h.output,h.size,fun b a _=>h.block b a⟩
def Mod.im {S:Nat->Prop} {w w1 d:WD} (h:Mod S w w1) (k:Mod S w1 d):Mod S w d:=
 ⟨k.os.trans h.os,k.tape.trans h.tape,k.output.trans h.output,A5 h.size k.size,fun b c a=>(k.block b (Bx c h.size) a).trans (h.block b c a)⟩
def As1 (gb gs cap:Nat) (po:Option Addr) (ps:List Nd) (tb un uc:Nat) (uo:Option Addr) (bs:List Bool) (now:Int) (a:Ask) (start:Int) (ao:Option Addr) (m c:Nat) (zs:List Int) (w:WD) (hP:Bz w gb gs po cap ps) (ht:qx w tb gb uo un uc bs now)
  (hp:Ar w a.po a.pn a.gl) (hu:un<=1000000) (hz:Ar w ao m zs) (al:0<m->ug ao (Bd ps)) (aK:m<=c) (aN:0<=now) :
  CS prog 186 #[.pointer (some ⟨tb,0,none⟩),a.val,.int .i64 start,.slice ao m c] w (Ahb gb gs cap po ps bs now a start zs w):=by
 obtain ⟨W,hW⟩:=Ex (w.alloc a.obj);have av:BW w.heap.size w W:=by rw [hW];exact Bn
 have aB:W.heap[w.heap.size]?=some a.obj:=by rw [hW];exact Ah _ _
 have q:¬ Mj bs now a start zs->∀ w',BW w.heap.size w w'->Ahb gb gs cap po ps bs now a start zs w (.returned (.bool false)) w':=fun h w' hb=>⟨false,ps,rfl,hP.below hb,gz.refl _ _,Mod.cn hb,.inl ⟨h,rfl,rfl⟩⟩;have aA:=Ag9 a W;rw [hW] at aA;replace ⟨hP,ht,hp,hz,al,av,aB,aA⟩:=H8 hP ht hp hz al av aB aA;replace ⟨hW,q⟩:=H2 hW q;go_enter func186,ntmps186;go_wp2_with fail;refine aA.mono ?_;rintro e w1 ⟨rfl,y⟩;rw [<- hW.out] at y;have j:=av.trans (y.mono av.size);have u:=Ae y aB.out (Ab aB.out);have an:=ht.below j;have c2:=Aa an.head 2;simp at c2;have lt:=Ab an.head;obtain ⟨y0,y1,y2,y3,y4,y5,y6,y7,y8,y9⟩:=Of u;have lx:=Ab u;replace ⟨y,j,u,an⟩:=H4 y j u an;cases i:a.can
 .have f:=q (fun h=>by have:=h.1;rw [i] at this;cases this) w1 j.out;replace ⟨i,f⟩:=H2 i f;go_wp2;go_ret;exact f.out
 by_cases q1:start<now
 .have d1:decide (start<now)=true:=by simpa using q1
  have f:=q (fun h=>by have:=h.2.1;omega) w1 j.out;replace ⟨i,f,q1⟩:=H3 i f q1;go_wp2;go_ret;exact f.out
 have d1:decide (start<now)=false:=by simpa using q1
 by_cases q2:1099511627776<start
 .have d2:decide (1099511627776<start)=true:=by simpa using q2
  have f:=q (fun h=>by have:=h.2.2.1;omega) w1 j.out;replace ⟨i,f,q1,q2⟩:=H4 i f q1 q2;go_wp2;go_ret;exact f.out
 have d2:decide (1099511627776<start)=false:=by simpa using q2
 have aE:=As0 tb gb un uc uo bs now a ao m c zs w1 an.out (hp.below j.out Ln) hu (hz.below j.out Ln);have aL:0<=start:=by omega
 have aJ:start<=1099511627776:=by omega
 replace ⟨aE,q1,q2⟩:=H3 aE q1 q2;have z:=Hh i;clear i;go_wp2_with fail;refine aE.mono ?_;rintro e w2 ⟨b,rfl,hb,s⟩;have g:=j.trans (s.mono j.size);have l:=Ae s u.out (Ab u.out);have k:=ht.below g;clear c2 lt y0 y1 y2 y3 y4 y5 y6 y7 y8 y9 lx
 cases b with
 | false=>
  have f:=q (fun h=>by have:=hb.2 h.2.2.2;cases this) w2 g;replace ⟨f,g,l,k,s⟩:=H5 f g l k s;clear hb;go_wp2;go_ret;exact f.out
 | true=>
  have ap:=hb.1 rfl;clear hb
  have aH:∀ W',BW w2.heap.size w2 W'->CS prog 236 #[.pointer (some ⟨gb,0,none⟩),.slice ao m c,.int .i64 start,.int .i64 (Nf start a.aa),a.v.val] W' (Aa2 (Lh ps zs start (Nf start a.aa) a.v) gb gs cap po ps W'):=
   fun W' h=>Aa3 gb gs cap po ps ao m c zs start (Nf start a.aa) a.v W' (hP.below (g.trans (h.mono g.size))) (hz.below (g.trans (h.mono g.size)) Ln) al.out aK
  have aG:-9223372036854775808<=a.aa:=by have:=z.out;simp [Ask.can] at this;omega
  have aC:=fun W'=>Wz start a.aa W' aL aJ aG;have c0:=Aa k.head 0;simp at c0;have lt:=Ab k.head;obtain ⟨y0,y1,y2,y3,y4,y5,y6,y7,y8,y9⟩:=Of l;have lx:=Ab l;have aI:=J2 (hP.below g) k.head (by decide) (by decide);have n:=J2 (hP.below g) l (by decide) (by decide);have x:BW w2.heap.size w2 w2.drew:=(Below.refl _ _).drew;replace ⟨aI,n⟩:=H2 aI n;clear y0 y1 y2 y8 y9;replace ⟨ap,g,l,k,s,aH,aC,x⟩:=H8 ap g l k s aH aC x;replace aG:=Hh aG;go_wp2_with fail;go_region_held3 (fun w'=>w'.cell? ⟨tb,0,none⟩=some (.pointer (some ⟨gb,0,none⟩))/\w'.cell? ⟨w.heap.size,3,none⟩=some (.int .i64 a.v.a)/\w'.cell? ⟨w.heap.size,4,none⟩=some (.int .i64 a.v.b)/\w'.cell? ⟨w.heap.size,5,none⟩=some (.int .i64 a.v.c)/\w'.cell? ⟨w.heap.size,6,none⟩=some (.int .i64 a.v.d)/\w'.cell? ⟨w.heap.size,7,none⟩=some (.int .i64 a.aa))
   (first
     | (go_keep;done)
     | (refine ⟨(t tb lt aI.out _).trans c0,(t _ lx n.out _).trans y3,(t _ lx n.out _).trans y4,(t _ lx n.out _).trans y5,(t _ lx n.out _).trans y6,(t _ lx n.out _).trans y7⟩))
   (first
     | (go_at_call 239;refine (aC _).mono ?_
        rintro e w4 ⟨rfl,rfl⟩)
     | (go_at_call 236;refine (aH _ x.out).mono ?_;rintro e w5 ⟨r,aM,rfl,hT,aF,aD,p⟩;have t:Hid (∀ b,b<w2.heap.size->¬ Bd ps b->∀ o,w5.cell? ⟨b,o,none⟩=w2.cell? ⟨b,o,none⟩):=fun b hb hn o=>Bp (a:=⟨b,o,none⟩) (w:=w2) (p.block b hb hn)
        replace ⟨hT,aF,aD,p⟩:=H4 hT aF aD p))
  have ad:=(Mod.cn g.out).im ((Mod.cn x.out).im p.out);have ac:=aD.back (A5 g.size x.size);have am:Mj bs now a start zs:=⟨z.out,by have:=q1.out;omega,aJ,ap.out⟩;replace ⟨ad,ac,am⟩:=H3 ad ac am;go_wp2;go_ret;exact ⟨r == 0,aM,rfl,aF.out,ac.out,ad.out,.inr ⟨am.out,r,hT.out,by simp⟩⟩
def Qr (ps:List Nd) (bs:List Bool) (now:Int) (a:Ask) (st:Int) (so:Option Addr) (sn:Nat) (ps':List Nd) (w':WD):Prop:=
 (a.can=false/\st=-1/\so=none/\sn=0/\ps'=ps) \/
 (a.can=true/\∃ t xs is,Fz ps (Bj (ni bs a.gl)) a.nodes a.v a.aa now t xs is/\(is=false->st=-1/\so=none/\sn=0/\ps'=ps) /\
   (is=true->st=t/\Ar w' so sn (Bj xs)/\∃ r,Lh ps (Bj xs) t (t+a.aa) a.v r ps'))
def Ahc (gb gs cap:Nat) (po:Option Addr) (ps:List Nd) (bs:List Bool) (now:Int) (a:Ask) (w:WD) (e:Ending) (w':WD):Prop:=
 ∃ st so sn sc ps',e=.returned (.agg #[.int .i64 a.id,.int .i64 st,.slice so sn sc])/\Bz w' gb gs po cap ps'/\gz w ps ps'/\Mod (Bd ps) w w'/\sn<=sc/\(∀ b off,so=some ⟨b,off,none⟩->w.heap.size<=b/\¬ Bd ps' b)/\Qr ps bs now a st so sn ps' w'
structure o9 (w:WD) (a:Ask) (st:Int) (so:Option Addr) (sn sc:Nat) (wr:WD):Prop where
 ask:wr.heap[w.heap.size]?=some a.obj
 r:wr.heap[w.heap.size+1]?=some (.cells #[.int .i64 0,.int .i64 0,.slice none 0 0] 224 (0,0))
 s:wr.heap[w.heap.size+1+1]?=some (.cells #[.int .i64 a.id,.int .i64 st,.slice so sn sc] 224 (0,0))
def o9.below  {a:Ask}    (h:o9 w a st so c sc wr) (b:BW wr.heap.size wr w'):o9 w a st so c sc w':=⟨Ae b h.ask (Ab h.ask),Ae b h.r (Ab h.r),Ae b h.s (Ab h.s)⟩
def o9.mod  {a:Ask}   {f sc:Nat} {S:Nat->Prop} (h:o9 w a st so f sc wr) (d:Mod S wr w') (e:∀ b,S b->b<w.heap.size):o9 w a st so f sc w':=
 ⟨(d.block _ (Ab h.ask) (fun c=>by have:=e _ c;omega)).trans h.ask,(d.block _ (Ab h.r) (fun c=>by have:=e _ c;omega)).trans h.r,(d.block _ (Ab h.s) (fun c=>by have:=e _ c;omega)).trans h.s⟩
def Ar.setCell  {f:Option Addr}  {zs:List Int} (h:Ar w f n zs) (c:Addr) (v:VL) (j:∀ b d,f=some ⟨b,d,none⟩->b≠c.block):Ar (w.setCell c v) f n zs:=
 ⟨h.len,h.max,fun i k=>by
  obtain ⟨b,d,e,g,l⟩:=h.cell i k
  exact ⟨b,d,e,by simpa [World.setCell] using g,(Bp (a:=⟨b,d+i,none⟩) (w:=w) (Cm _ _ _ _ (j b d e))).trans l⟩⟩
def o9.set  {a:Ask} {st f:Int} {so e:Option Addr} {j sc d c:Nat} (h:o9 w a st so j sc wr) :
  o9 w a f e d c ((wr.setCell ⟨w.heap.size+1+1,1,none⟩ (.int .i64 f)).setCell ⟨w.heap.size+1+1,2,none⟩ (.slice e d c)):=by
 have g:∀ b,b≠w.heap.size+1+1->((wr.setCell ⟨w.heap.size+1+1,1,none⟩ (.int .i64 f)).setCell ⟨w.heap.size+1+1,2,none⟩ (.slice e d c)).heap[b]?=wr.heap[b]?:=fun b i=>by
  rw [Cm _ _ _ _ i,Cm _ _ _ _ i]
 refine ⟨(g _ (by omega)).trans h.ask,(g _ (by omega)).trans h.r,?_⟩;exact Am (Am h.s 1 _) 2 _
def Ahd (gb gs cap:Nat) (po:Option Addr) (ps:List Nd) (tb un uc:Nat) (uo:Option Addr) (bs:List Bool) (now:Int) (a:Ask) (w:WD) (hP:Bz w gb gs po cap ps) (ht:qx w tb gb uo un uc bs now)
  (hp:Ar w a.po a.pn a.gl) (hu:un<=1000000) :
  CS prog 188 #[.pointer (some ⟨tb,0,none⟩),a.val] w (Ahc gb gs cap po ps bs now a w):=by
 obtain ⟨W,hW⟩:=Ex (((w.alloc a.obj).alloc (.cells #[.int .i64 0,.int .i64 0,.slice none 0 0] 224 (0,0))).alloc (.cells #[.int .i64 a.id,.int .i64 (-1),.slice none 0 0] 224 (0,0)));have aN:BW w.heap.size w W:=by rw [hW];exact Asv w _ _ _
 have aT:o9 w a (-1) none 0 0 W:=by rw [hW];exact ⟨Aj _ (Aj _ (Ah _ _)),Aj _ (A3 _ _ (by simp)),A3 _ _ (by simp)⟩
 have aP:=Ag9 a W;rw [hW] at aP;have aJ:∀ b,Bd ps b->b<w.heap.size:=fun b hb=>hP.j7 hb;replace ⟨hP,ht,hp,aN,aT,aP,hW,aJ⟩:=H8 hP ht hp aN aT aP hW aJ;go_enter func188,ntmps188;go_wp2_with fail;refine aP.mono ?_;rintro e w1 ⟨rfl,aG⟩;rw [<- hW.out] at aG;have z:=aN.trans (aG.mono aN.size);have j:=aT.below aG;have aO:=hP.below z;have aB:=ht.below z;have s0:=Aa j.s 0;have s1:=Aa j.s 1;have s2:=Aa j.s 2;have r0:=Aa j.r 0;have r1:=Aa j.r 1;have r2:=Aa j.r 2;have f0:=Af j.r 0;have f1:=Af j.r 1;have f2:=Af j.r 2;simp at s0 s1 s2 r0 r1 r2;replace ⟨aG,z,j,aO,aB⟩:=H5 aG z j aO aB
 have aS:Hid (∀ (wr:WD) (st:Int) (so:Option Addr) (sn sc:Nat) (n:List Nd),Bz wr gb gs po cap n->gz w ps n->Mod (Bd ps) w wr->wr.heap[w.heap.size+1]?=some (.cells #[.int .i64 0,.int .i64 0,.slice none 0 0] 224 (0,0))->sn<=sc->(∀ b f,so=some ⟨b,f,none⟩->w.heap.size<=b/\b≠w.heap.size+1/\¬ Bd n b)->Qr ps bs now a st so sn n wr ->
   Ahc gb gs cap po ps bs now a w (.returned (.agg #[.int .i64 a.id,.int .i64 st,.slice so sn sc])) (((wr.setCell ⟨w.heap.size+1,0,none⟩ (.int .i64 a.id)).setCell ⟨w.heap.size+1,1,none⟩ (.int .i64 st)).setCell ⟨w.heap.size+1,2,none⟩ (.slice so sn sc))):=by
  intro wr st so sn sc n h1 h2 h3 h4 h5 h6 h7
  have aA:∀ b,b≠w.heap.size+1->(((wr.setCell ⟨w.heap.size+1,0,none⟩ (.int .i64 a.id)).setCell ⟨w.heap.size+1,1,none⟩ (.int .i64 st)).setCell ⟨w.heap.size+1,2,none⟩ (.slice so sn sc)).heap[b]?=wr.heap[b]?:=fun b hb=>by
   rw [Cm _ _ _ _ hb,Cm _ _ _ _ hb,Cm _ _ _ _ hb]
  have hm:=J2 h1 h4 (by decide) (by decide)
  have bd:gb≠w.heap.size+1:=fun e=>by have:=h1.head;rw [e,h4] at this;simp at this
  refine ⟨st,so,sn,sc,n,rfl,⟨(aA _ bd).trans h1.head,h1.addr,fun i hi=>?_,fun i hi=>?_,h1.inv,h1.apart,h1.own,h1.ml⟩,h2,⟨h3.os,h3.tape,h3.output,by simpa [World.setCell] using h3.size,fun b hb hS=>(aA b (by omega)).trans (h3.block b hb hS)⟩,h5,fun b f e=>⟨(h6 b f e).1,(h6 b f e).2.2⟩,?_⟩
  .have h2:gs≠w.heap.size+1:=fun e=>by
    have:=h1.ptr i hi;rw [e,Aa h4 i] at this
    match i,this with
    | 0,h=>simp at h
    | 1,h=>simp at h
    | 2,h=>simp at h
    | i+3,h=>simp at h
   exact (Bp (a:=⟨gs,i,none⟩) (w:=wr) (aA _ h2)).trans (h1.ptr i hi)
  .have hq:=h1.fj i hi;exact ⟨(aA _ (fun e=>hm ⟨i,hi,.inl e.symm⟩)).trans hq.head,hq.row.of_block (aA _ (fun e=>hm ⟨i,hi,.inr e.symm⟩)),hq.ne⟩
  .rcases h7 with c | ⟨c,t,xs,is,d1,d2,d3⟩
   .exact .inl c
   .refine .inr ⟨c,t,xs,is,d1,d2,fun hi=>?_⟩;obtain ⟨e1,e2,e3⟩:=d3 hi;refine ⟨e1,⟨e2.len,e2.max,fun i hi=>?_⟩,e3⟩;obtain ⟨b,f,e,a8,hc⟩:=e2.cell i hi;exact ⟨b,f,e,by simpa [World.setCell] using a8,(Bp (a:=⟨b,f+i,none⟩) (w:=wr) (aA b (h6 b f e).2.1)).trans hc⟩
 cases ad:a.can
 .replace ad:=Hh ad;go_wp2;refine Ak (v:=.agg #[.int .i64 a.id,.int .i64 (-1),.slice none 0 0]) (by simp [results,results188,go_sem,r0,r1,r2]) rfl ?_;exact aS.out _ (-1) none 0 0 ps aO.out (gz.refl _ _) (Mod.cn z.out) j.r Ln (fun b f h=>by simp at h) (.inl ⟨ad.out,rfl,rfl,rfl,rfl⟩)
 have aH:=Hh ad;clear ad s0 s1 s2 r0 r1 r2 f0 f1 f2;have a0:=Aha tb gb un uc uo bs now a w1.drew (aB.below (Below.refl _ _).drew) (hp.below z.drew Ln) hu;have c0:=Aa aB.head 0;have c2:=Aa aB.head 2;simp at c0 c2;have lt:=Ab aB.head;obtain ⟨y0,y1,y2,y3,y4,y5,y6,y7,y8,y9⟩:=Of j.ask;have y:=Ab j.ask;have g:BW w1.heap.size w1 w1.drew:=(Below.refl _ _).drew
 have bb:Hid (∀ w':WD,BW w1.heap.size w1 w'->w'.cell? ⟨tb,0,none⟩=some (.pointer (some ⟨gb,0,none⟩))/\w'.cell? ⟨tb,2,none⟩=some (.int .i64 now)/\w'.cell? ⟨w.heap.size,0,none⟩=some (.int .i64 a.id)/\w'.cell? ⟨w.heap.size,1,none⟩=some (.slice a.po a.pn a.pc)/\w'.cell? ⟨w.heap.size,2,none⟩=some (.int .i64 a.nodes)/\w'.cell? ⟨w.heap.size,3,none⟩=some (.int .i64 a.v.a)/\w'.cell? ⟨w.heap.size,4,none⟩=some (.int .i64 a.v.b)/\w'.cell? ⟨w.heap.size,5,none⟩=some (.int .i64 a.v.c)/\w'.cell? ⟨w.heap.size,6,none⟩=some (.int .i64 a.v.d)/\w'.cell? ⟨w.heap.size,7,none⟩=some (.int .i64 a.aa)/\w'.cell? ⟨w.heap.size,8,none⟩=some (.int .i64 a.start)/\w'.cell? ⟨w.heap.size,9,none⟩=some (.slice a.go a.gn a.gc)):=fun w' h=>
  ⟨(Ag h lt).trans c0,(Ag h lt).trans c2,(Ag h y).trans y0,(Ag h y).trans y1,(Ag h y).trans y2,(Ag h y).trans y3,(Ag h y).trans y4,(Ag h y).trans y5,(Ag h y).trans y6,(Ag h y).trans y7,(Ag h y).trans y8,(Ag h y).trans y9⟩
 have aY:=
  fun so sn sc W' h hz=>Asm gb gs cap po ps so sn sc (Bj (ni bs a.gl)) a.nodes a.v a.aa now W' (aO.below h) hz
 replace ⟨a0,g,aY⟩:=H3 a0 g aY;go_wp2_with fail;go_region_held3 (fun w'=>w'.cell? ⟨tb,0,none⟩=some (.pointer (some ⟨gb,0,none⟩))/\w'.cell? ⟨tb,2,none⟩=some (.int .i64 now)/\w'.cell? ⟨w.heap.size,0,none⟩=some (.int .i64 a.id)/\w'.cell? ⟨w.heap.size,1,none⟩=some (.slice a.po a.pn a.pc)/\w'.cell? ⟨w.heap.size,2,none⟩=some (.int .i64 a.nodes)/\w'.cell? ⟨w.heap.size,3,none⟩=some (.int .i64 a.v.a)/\w'.cell? ⟨w.heap.size,4,none⟩=some (.int .i64 a.v.b)/\w'.cell? ⟨w.heap.size,5,none⟩=some (.int .i64 a.v.c)/\w'.cell? ⟨w.heap.size,6,none⟩=some (.int .i64 a.v.d)/\w'.cell? ⟨w.heap.size,7,none⟩=some (.int .i64 a.aa)/\w'.cell? ⟨w.heap.size,8,none⟩=some (.int .i64 a.start)/\w'.cell? ⟨w.heap.size,9,none⟩=some (.slice a.go a.gn a.gc))
  (first
    | with_reducible exact bb.out _ g.out)
  (first
    | (go_at_call 246;refine a0.mono ?_;rintro e w5 ⟨bl,bk,bi,rfl,a3,_,_,aV⟩;replace g:=Hh (g.trans (aV.mono g.size))
       replace ⟨a3,aV⟩:=H2 a3 aV)
    | (go_at_call 245;refine (aY _ _ _ _ g.out a3.out).mono ?_;rintro e w6 ⟨t6,p,x,aM,aR,bf,rfl,aF,a4,a6,aX,aW⟩;have a7:Hid (∀ b f,p=some ⟨b,f,none⟩->w1.heap.size<=b):=fun b f e=>A5 g.size (aX b f e);replace g:=Hh (g.trans (aW.mono g.size))
       replace ⟨aF,a4,aX,aW⟩:=H4 aF a4 aX aW))
 have k:=j.below g.out;have aD:=z.trans (g.mono z.size);have aU:=hP.below aD;have s0:=Aa k.s 0;have s1:=Aa k.s 1;have s2:=Aa k.s 2;have a9:=Af k.s 1;have ba:=Af k.s 2;have r0:=Aa k.r 0;have r1:=Aa k.r 1;have r2:=Aa k.r 2;have f0:=Af k.r 0;have f1:=Af k.r 1;have f2:=Af k.r 2;simp at s0 s1 s2 r0 r1 r2;clear c0 c2 lt y0 y1 y2 y3 y4 y5 y6 y7 y8 y9 y;replace ⟨k,aD,aU⟩:=H3 k aD aU
 cases bf with
 | false=>
  have m:Qr ps bs now a (-1) none 0 ps w6:=.inr ⟨aH.out,t6,aR,false,aF.out,fun _=>⟨rfl,rfl,rfl,rfl⟩,fun h=>(by cases h)⟩;replace m:=Hh m;go_wp2;refine Ak (v:=.agg #[.int .i64 a.id,.int .i64 (-1),.slice none 0 0]) (by simp [results,results188,go_sem,r0,r1,r2]) rfl ?_;exact aS.out _ (-1) none 0 0 ps aU.out (gz.refl _ _) (Mod.cn aD.out) k.r Ln (fun b f h=>by simp at h) m.out
 | true=>
  have hF:=aF.found;have ew:IntKind.i64.wrap (t6+a.aa)=t6+a.aa:=E9 _ (by have:=hF.ge;have:=hF.fin;have:=hF.ky;omega);have q:=fun b f e=>Bx (Ab j.s) (a7 b f e);obtain ⟨W7,av⟩:=Ex ((w6.setCell ⟨w.heap.size+1+1,1,none⟩ (.int .i64 t6)).setCell ⟨w.heap.size+1+1,2,none⟩ (.slice p x aM));have ao:BW w.heap.size w W7:=by rw [av];exact (aD.setCell (by show w.heap.size<=w.heap.size+1+1;omega) _).setCell (by show w.heap.size<=w.heap.size+1+1;omega) _
  have ap:o9 w a t6 p x aM W7:=by rw [av];exact k.set
  have aC:Ar W7 p x (Bj aR):=by rw [av];exact (a4.setCell _ _ (fun b f e=>by have:=q b f e;show b≠w.heap.size+1+1;omega)).setCell _ _ (fun b f e=>by have:=q b f e;show b≠w.heap.size+1+1;omega)
  have aL:=ht.below ao;have aE:=hP.below ao
  have an:0<x->ug p (Bd ps):=fun _ b f e hm=>by have:=q b f e;have:=aJ b hm;omega
  have a1:=
   fun W' h=>Aa3 gb gs cap po ps p x aM (Bj aR) t6 (t6+a.aa) a.v W' (aE.below h) (aC.below h Ln) an a6
  have c0:=Aa aL.head 0;simp at c0;have lt:=Ab aL.head;obtain ⟨y0,y1,y2,y3,y4,y5,y6,y7,y8,y9⟩:=Of ap.ask;have y:=Ab ap.ask;have a2:=J2 aE aL.head (by decide) (by decide);have am:=J2 aE ap.ask (by decide) (by decide);have ac:BW W7.heap.size W7 W7.drew:=(Below.refl _ _).drew;clear y0 y1 y2 y8 y9;replace ⟨hF,q,ao,ap,aC,aL,aE,an⟩:=H8 hF q ao ap aC aL aE an;replace ⟨a1,a2,am,ac⟩:=H4 a1 a2 am ac
  have bc:Hid (∀ w':WD,(∀ b,b<W7.heap.size->¬ Bd ps b->∀ o,w'.cell? ⟨b,o,none⟩=W7.cell? ⟨b,o,none⟩)->w'.cell? ⟨tb,0,none⟩=some (.pointer (some ⟨gb,0,none⟩))/\w'.cell? ⟨w.heap.size,3,none⟩=some (.int .i64 a.v.a)/\w'.cell? ⟨w.heap.size,4,none⟩=some (.int .i64 a.v.b)/\w'.cell? ⟨w.heap.size,5,none⟩=some (.int .i64 a.v.c)/\w'.cell? ⟨w.heap.size,6,none⟩=some (.int .i64 a.v.d)/\w'.cell? ⟨w.heap.size,7,none⟩=some (.int .i64 a.aa)):=
   fun w' h=>⟨(h tb lt a2.out _).trans c0,(h _ y am.out _).trans y3,(h _ y am.out _).trans y4,(h _ y am.out _).trans y5,(h _ y am.out _).trans y6,(h _ y am.out _).trans y7⟩
  go_wp2_with fail;rw [<- av];replace av:=Hh av;clear s0 s1 s2 a9 ba r0 r1 r2 f0 f1 f2;go_region_held3 (fun w'=>w'.cell? ⟨tb,0,none⟩=some (.pointer (some ⟨gb,0,none⟩))/\w'.cell? ⟨w.heap.size,3,none⟩=some (.int .i64 a.v.a)/\w'.cell? ⟨w.heap.size,4,none⟩=some (.int .i64 a.v.b)/\w'.cell? ⟨w.heap.size,5,none⟩=some (.int .i64 a.v.c)/\w'.cell? ⟨w.heap.size,6,none⟩=some (.int .i64 a.v.d)/\w'.cell? ⟨w.heap.size,7,none⟩=some (.int .i64 a.aa))
   (first
     | (go_keep;done)
     | with_reducible exact bc.out _ be.out)
   (first
     | (go_at_call 236;refine (a1 _ ac.out).mono ?_;rintro e w8 ⟨r8,n,rfl,hT,aZ,aQ,u⟩;have be:Hid (∀ b,b<W7.heap.size->¬ Bd ps b->∀ o,w8.cell? ⟨b,o,none⟩=W7.cell? ⟨b,o,none⟩):=fun b hb hn o=>Bp (a:=⟨b,o,none⟩) (w:=W7) (u.block b hb hn)
        replace ⟨hT,aZ,aQ,u⟩:=H4 hT aZ aQ u))
  have l:=ap.mod ((Mod.cn ac.out).im u.out) aJ.out;have aK:=(Mod.cn ao.out).im ((Mod.cn ac.out).im u.out);have aI:=aQ.back (A5 ao.size ac.size);have a5:=aC.mod ((Mod.cn ac.out).im u.out) an.out;have m:Qr ps bs now a t6 p x n w8:=.inr ⟨aH.out,t6,aR,true,aF.out,fun h=>(by cases h),fun _=>⟨rfl,a5,r8,hT.out⟩⟩
  have al:∀ b f,p=some ⟨b,f,none⟩->w.heap.size<=b/\b≠w.heap.size+1/\¬ Bd n b:=fun b f e=>by
   have h1:=q b f e;refine ⟨by omega,by omega,fun hm=>?_⟩;rcases aQ.fh hm with c | c
   .have:=aJ b c;omega
   .by_cases h0:0<x
    .obtain ⟨b',bg,e',a8,_⟩:=aC.cell 0 h0;rw [e] at e';cases e';have:=ac.size;omega
    .have:=hF.len;have:=hF.many1;have:=aC.len;simp [Bj] at this;omega
  have s0:=Aa l.s 0;have s1:=Aa l.s 1;have s2:=Aa l.s 2;have r0:=Aa l.r 0;have r1:=Aa l.r 1;have r2:=Aa l.r 2;have f0:=Af l.r 0;have f1:=Af l.r 1;have f2:=Af l.r 2;simp at s0 s1 s2 r0 r1 r2;clear c0 lt y3 y4 y5 y6 y7 y;replace ⟨l,aK,aI,a5,m,al⟩:=H6 l aK aI a5 m al;go_wp2;refine Ak (v:=.agg #[.int .i64 a.id,.int .i64 t6,.slice p x aM]) (by simp [results,results188,go_sem,r0,r1,r2]) rfl ?_;exact aS.out _ t6 p x aM n aZ.out aI.out aK.out l.r a6 al.out m.out
