/- Parts Put, Len. Plain theorems: no condition. -/
import Derived.Test.YtimlcnhcjndijaaGreatDoorQ07
import Derived.Deep.RegionHeld3
set_option linter.all false
set_option maxRecDepth 100000
set_option maxHeartbeats 6400000
namespace Go.Proofs.YtimlcnhcjndijaaGreatDoor
open Go.RowKit Go.Maps
instance A0w:DecidableEq ByteArray:=fun a b=>decidable_of_iff (a.data.toList=b.data.toList) ⟨S8,fun h=>by rw [h]⟩
def Jf (ns:List ByteArray) (s:ByteArray):Bool:=ns.any fun n=>decide (n=s)
def Tc {a:List ByteArray} {s:ByteArray}:Jf a s=true↔s∈a:=by
 unfold Jf;rw [Kv];exact ⟨fun ⟨x,h1,h2⟩=>by rw [<- I9 h2];exact h1,fun h=>⟨s,h,Az rfl⟩⟩
def Pz:List ByteArray->Bool
 | []=>false
 | p :: ps=>Jf ps p || Pz ps
def Eb (ns:List ByteArray) (m:Nat) (name:ByteArray) (parts:List ByteArray):Int:=
 if Jf ns name=true then 51 else if Pz parts=true then 51 else if 16<=m\/8<parts.length then 2 else 0
structure Jg (fb mb base lo:Nat) (w w':World):Prop where
 low:Below lo w w'
 same:∀ (k:Nat) (o:Obj),w.heap[k]?=some o->k≠mb->k≠fb->(k<base\/∀ c fr,o≠.cells c 69 fr)->w'.heap[k]?=some o
def Ajx (w:World):(zeroValue 3).run Tryz.prog w=.ok (.int .i64 0) w:=by kernel_rfl
def Ajy {w:World} {b a base:Nat} {d:Value} {xs:List ar} (h:jf w b a base d xs) (s:ByteArray) (e:s.size<=maxLen) :
  ∃ c,(Instr.lookup 99 (.map (some a)) (.string s) true).run Tryz.prog w=.ok (.tuple #[.int .i64 c,.bool (has (K2 (xs.map ar.name)) (Bz s))]) w/\(K2 (xs.map ar.name)).atKey (Bz s) (.lit (.int .i64 0))=.lit (.int .i64 c):=by
 obtain ⟨v,i,h1,f⟩:=h.map.look_ok (string_keyed Gq) Tryz.underlying99 (Ajx w) (plainElem_int Da (by decide)) (Uv Gq e);obtain ⟨c,rfl,g,_⟩:=plainElem_int_inv Da f;exact ⟨c,h1,Ca Prod.fst g⟩
def U7 {P:Program} {t e:TypeId} {i:TypeInfo} (d:P.underlying t=some (.slice e)) (f:P.info? e=some i) (b:Addr) (a cap n:Nat) (x:Int) (g:x=n) (j:n<=cap) (w:World) :
  (Instr.slice t (.slice (some b) a cap) none (some (.int .i64 x)) none).run P w=.ok (.slice (some b) n cap) w:=by
 subst g
 have h1:∀ (y:Nat) (_:n<=y) c,(Instr.sliceBound (.int .i64 (n:Int)) y c).run P w=.ok n w:=fun y h c=>by
  simp [Instr.sliceBound,asIntOf,h]
 simp [Instr.slice,Instr.sliceBounds,Mv d,h1 cap j,sizeOf,typeInfo,f,Addr.add]
def X8 (l:List ByteArray) (k:Nat):Prop:=∃ i j s,j<i/\i<k/\l[i]?=some s/\l[j]?=some s
def Abm (l:List ByteArray):Pz l=true↔X8 l l.length:=by
 induction l with
 | nil=>exact ⟨fun h=>(by cases h),fun ⟨i,j,s,h1,b,_⟩=>absurd b (Pq _)⟩
 | cons p ps ih=>
  unfold Pz;rw [Bool.or_eq_true,ih,Tc];constructor
  .rintro (h | ⟨i,j,s,h1,b,c,a⟩)
   .obtain ⟨i,d,e⟩:=List.getElem_of_mem h;exact ⟨i+1,0,p,by omega,by simp;omega,by simp [Am d,e],by simp⟩
   .exact ⟨i+1,j+1,s,by omega,by simp;omega,by simpa using c,by simpa using a⟩
  .rintro ⟨i,j,s,h1,b,c,a⟩
   cases i with
   | zero=>omega
   | succ i=>
    simp at b c
    cases j with
    | zero=>simp at a;subst a;exact .inl (Aj c)
    | succ j=>simp at a;exact .inr ⟨i,j,s,by omega,b,c,a⟩
def Ajz:0<6:=Kw _
def Aj0:(Tryz.prog.info? 69).map (fun i=>(i.zero,i.size,i.bytes))=some (some (.agg #[.string ByteArray.empty,.int .i64 0,.int .i64 0,.int .i64 0,.int .i64 0,.slice none 0 0]),6,72):=by kernel_rfl
def Aj1 (x:ar):∀ u∈x.cells.toList,u.oneCell'=true:=by simp [Value.oneCell']
def U8 {w:World} {f b base k:Nat} {g:Value} {xs:List ar} {c:Array Value} {T:TypeId} {fr:Nat×Nat} (h:jf w f b base g xs) (d:w.heap[k]?=some (.cells c T fr)):k≠b:=fun e=>by
 obtain ⟨j,a,i,_⟩:=h.map;rw [e,i] at d;cases d
def Aj2 (w:World) (x:ar):∀ j u,x.cells.toList[j]?=some u->(w.alloc (.cells x.cells 69 (0,0))).cell? ((⟨w.heap.size,0,none⟩:Addr).add j)=some u:=by
 intro j u a;rw [Addr.add_lit,D2,Aa (Af w _) j];simpa using a
def Abn {w:World} {base size n g:Nat} {e:TypeId} {v:Value} {xs:List Value} (h:w.ownsRow base e size v n xs) (b:v.ownBlock=some g):∃ a,w.heap[g]?=some (.cells a e (0,0)):=by
 rcases h.2 with ⟨c,_⟩ | ⟨d,cap,a,c,_,f,_⟩
 .rw [c] at b;simp [Value.ownBlock] at b
 .rw [c] at b;have e':d=g:=by simpa [Value.ownBlock] using b
  subst e';exact ⟨a,f⟩
def Jg.jm {c d base a:Nat} {w w':World} (h:Below w.heap.size w w') (e:a<=w.heap.size):Jg c d base a w w':=
 ⟨h.mono e,fun _ _ b _ _ _=>Ae h b (Ab b)⟩
structure xu (base fb:Nat) (w5:World) (X:ar) (nv:Value) (n:Nat) (xs:List ar) (wx:World):Prop where
 ex:∃ v1 w9,w9.ownsRow base 69 6 v1 (n+1) (Ar ar.cells xs++X.cells.toList)/\((w5.alloc (.cells X.cells 69 (0,0))).drew).grownBy w9 nv.ownBlock/\wx=w9.setCell ⟨fb,0,none⟩ v1
def Td {P:Program} {p:Array Oper} {o:Oper} {a:Act} {w:World} {K:Act->World->Prop} {Q:Exit->Act->World->Prop} {E:Prop} (r:o.guard=none) (s x:Operand) (t:TypeId)
  (ho:o.op=.call { callee:=.builtin .append,args:=#[s,x],argTypes:=#[t,t] })
  (base:Nat) (e:TypeId) (i:TypeInfo) (z:Value) (size d:Nat) (ht:P.underlying t=some (.slice e)) (hi:P.info? e=some i) (hz:i.zero=some z)
  (k:i.size=size) (y:i.bytes=d) (ac:z.cells.size=size) (al:0<size)
  (v:Value) (n:Nat) (xs:List Value) (hs:a.eval s=v) (q:w.ownsRow base e size v n xs)
  (ad:Addr) (c:Nat) (b:List Value) (hx:a.eval x=.slice (some ad) 1 c) (hl:b.length=1*size) (l:∀ j u,b[j]?=some u->w.cell? (ad.add j)=some u) (h1:∀ u∈b,u.oneCell'=true)
  (am:n+1<=maxLen) (f:(n+1)*d<=140737488355328) (m:base<=w.heap.size)
  (h:∀ g cap w',w'.ownsRow base e size (.slice (some ⟨g,0,none⟩) (n+1) cap) (n+1) (xs++b)->w.grownBy w' v.ownBlock->K (a.put o.dst (.slice (some ⟨g,0,none⟩) (n+1) cap)) w') :
  if Region.wanted o (yielded p a.tmps)=true then Oper.wp P o a w K Q else E:=by
 have hw:Region.wanted o (yielded p a.tmps)=true:=by simp [Region.wanted,r]
 rw [Ad hw]
 exact wp_append_own w s x t ho base e i z size d ht hi hz k y ac al v n xs hs q ad 1 c b hx hl l h1 am f m fun v' w' h2 h3 _=>by
  obtain ⟨g,cap,rfl⟩:=Joins.ownsRow_form h2 (Kw _);exact h g cap w' h2 h3
structure yf (W2:World) (tb:Bool) (tv:Value) (wx:World):Prop where
 tv:tv=.bool tb
 wx:wx=W2
structure yd (W1:World) (c:Int) (b:Bool) (cv bv:Value) (wx:World):Prop where
 cv:cv=.int .i64 c
 bv:bv=.bool b
 wx:wx=W1.drew
def Aj3 {w:World} {base size n b:Nat} {e T:TypeId} {v:Value} {xs:List Value} {o:Array Value} (h:w.ownsRow base e size v n xs) (j:w.heap[b]?=some (.cells o T (0,0))) (k:T≠e) (d:Nat) (u:Value):(w.setCell ⟨b,d,none⟩ u).ownsRow base e size v n xs:=by
 obtain ⟨h1,l⟩:=h;refine ⟨h1,?_⟩;rcases l with h | ⟨g,cap,f,m,p,a,q⟩
 .exact .inl h
 .have i:g≠b:=fun c=>by rw [c,j] at a;simp at a;exact k a.2
  exact .inr ⟨g,cap,f,m,p,Dh i _ a,q⟩
def Aj4 {w wc m g:World} {d p base lo n:Nat} {nv i:Value} {xs:List ar} {x:ar} (hF:jf wc d p base nv xs) (hn:n=xs.length) (al:lo<=d) (am:lo<=p) (u:lo<=base) (v:wc.drew.grownBy m (some p))
  (an:m.ownsMap Tryz.prog 9 (plainElem (H:=Unit) Tryz.prog 3) p (n+1) ((K2 (xs.map ar.name)).put (Bz x.name) (.lit (.int .i64 (n:Int)))))
  (q:((m.alloc (.cells x.cells 69 (0,0))).drew).grownBy g nv.ownBlock) (ao:g.ownsRow base 69 6 i (n+1) (Ar ar.cells xs++x.cells.toList)) (h9:g.heap[d]?=some (.cells #[nv,.map (some p)] 101 (0,0)))
  (hx:x.ok wc) (hp:Rm wc x) (ac:base<=w.heap.size) (j:Below w.heap.size w wc) :
  jf (g.setCell ⟨d,0,none⟩ i) d p base i (xs++[x])/\Jg d p base lo w (g.setCell ⟨d,0,none⟩ i):=by
 have ap:wc.heap.size<=m.heap.size:=v.size;have aE:m.heap.size+1<=g.heap.size:=by have:=q.size;rw [show ((m.alloc (.cells x.cells 69 (0,0))).drew).heap.size=m.heap.size+1 from Mt _ _] at this;exact this
 have r:∀ k,nv.ownBlock=some k->base<=k/\∃ z,wc.heap[k]?=some (.cells z 69 (0,0)):=fun k e=>⟨(hF.row.lt k e).1,Abn hF.row e⟩
 have s:∀ (k:Nat) (o:Obj),wc.heap[k]?=some o->k≠p->k≠d->(k<base\/∀ c fr,o≠.cells c 69 fr)->(g.setCell ⟨d,0,none⟩ i).heap[k]?=some o:=fun k o hk h1 h2 h3=>by
  have av:=Ab hk;refine Dh h2 _ ?_;refine (q.block k (by show k<(m.alloc _).heap.size;rw [Mt];omega) (fun e=>?_)).trans (Ai _ ((v.block k av (fun e=>h1 (by cases e;rfl))).trans hk));obtain ⟨e1,z,e2⟩:=r k e.symm;rcases h3 with h3 | h3
  .omega
  .rw [hk] at e2;exact h3 _ _ (J0 e2)
 have aA:wc.heap.size<=(g.setCell ⟨d,0,none⟩ i).heap.size:=by
  have:(g.setCell ⟨d,0,none⟩ i).heap.size=g.heap.size:=by simp [World.setCell]
  omega
 have l:∀ y:ar,y.ok wc->Rm wc y->y.ok (g.setCell ⟨d,0,none⟩ i)/\Rm (g.setCell ⟨d,0,none⟩ i) y:=fun y hy aB=>by
  have ad:∀ b f,y.po=some ⟨b,f,none⟩->∃ c,wc.heap[b]?=some (.cells c 9 (0,0))/\(g.setCell ⟨d,0,none⟩ i).heap[b]?=some (.cells c 9 (0,0)):=fun b f e=>by
   obtain ⟨c,hc⟩:=aB b f e;refine ⟨c,hc,s b _ hc (U8 hF hc) (fun e=>?_) (.inr fun c' fr e=>by injection e with e1 e2 e3;exact absurd e2 (by decide))⟩;rw [e,hF.head] at hc;simp at hc
  refine ⟨⟨U6 hy.parts aA fun b f e _=>?_,hy.mh⟩,fun b f e=>?_⟩
  .obtain ⟨c,h1,h2⟩:=ad b f e;rw [h1,h2]
  .obtain ⟨c,_,h2⟩:=ad b f e;exact ⟨c,h2⟩
 refine ⟨⟨by rw [Al h9];rfl,?_,?_,fun y hy=>?_⟩,?_,fun k o hk h1 h2 h3=>s k o (Ae j hk (Ab hk)) h1 h2 h3⟩
 .have:=Aj3 ao h9 (by decide) 0 i;rw [Px,Tb,De,<- hn];exact this
 .rw [Ds,De,<- hn]
  have aC:=((an.alloc (.cells x.cells 69 (0,0))).drew.kept q (fun e=>by
   obtain ⟨_,z,e2⟩:=r p e.symm
   exact U8 hF e2 rfl)).setCell (a:=⟨d,0,none⟩) (fun e=>U8 hF hF.head e.symm) i
  rw [show List.map ar.name [x]=[x.name] from rfl,X6,Ax,<- hn];exact aC
 .rcases Dt.1 hy with h | h
  .exact l y (hF.ok y h).1 (hF.ok y h).2
  .have:y=x:=by simpa using h
   subst this;exact l y hx hp
 .have aD:=A6 ac j.size;have t:=A6 u aD;have b1:=(j.mono (A6 u ac)).drew;have b2:=b1.grown v t (fun k e=>by cases e;exact am);have b3:Below lo w ((m.alloc (.cells x.cells 69 (0,0))).drew):=(b2.alloc (A6 t ap) _).drew
  have b4:=b3.grown q (by
   show lo<=(m.alloc (.cells x.cells 69 (0,0))).heap.size
   rw [Mt];omega) (fun k e=>A6 u (hF.row.lt k e).1)
  exact b4.setCell al _
def Aj5 (w:World) (fb mb base lo:Nat) (nv:Value) (xs:List ar) (x:ar) (hF:jf w fb mb base nv xs) (hx:x.ok w) (hp:Rm w x) (hn:x.name.size<=maxLen) (bD:x.pn<=4294967296) (bc:lo<=fb) (bd:lo<=mb) (aH:lo<=base) (aI:base<=w.heap.size) :
  Calls Tryz.prog 42 #[.pointer (some ⟨fb,0,none⟩),x.val] w fun e w'=>∃ be,e=.returned (.int .i64 (Eb (xs.map ar.name) xs.length x.name x.parts))/\jf w' fb mb base be (if Eb (xs.map ar.name) xs.length x.name x.parts=0 then xs++[x] else xs)/\Jg fb mb base lo w w':=by
 obtain ⟨i9,bf,bE,bw,bx⟩:=C0 Abi;obtain ⟨r,cp,po,pn,pc,m⟩:=x;obtain ⟨W1,aS⟩:=Ex (w.alloc (.cells (⟨r,cp,po,pn,pc,m⟩:ar).cells 69 (0,0)));have aE:Below w.heap.size w W1:=by rw [aS];exact Bn
 have aJ:=hF.below aE;have aK:W1.heap[w.heap.size]?=some (.cells (⟨r,cp,po,pn,pc,m⟩:ar).cells 69 (0,0)):=by rw [aS];exact Af _ _
 have am:=aJ.below ((Below.refl _ _).drew);obtain ⟨c,a4,a5⟩:=Ajy am r hn;obtain ⟨b,hb⟩:=Ex (has (K2 (xs.map ar.name)) (Bz r));rw [<- hb] at a4;have f0:=Aa aJ.head 0;have f1:=Aa aJ.head 1;have y0:=Aa aK 0;have y5:=Aa aK 5;simp at f0 f1 y0 y5;replace ⟨hF,hx,hp,aE,aJ,aK,am,a5⟩:=H8 hF hx hp aE aJ aK am a5;replace hb:=Hh hb;have a6:=Hh aS;clear aS;go_enter Tryz.func42,Tryz.ntmps42;go_wp2_with fail;rw [<- a6.out];go_step3;go_upto_region 1 with fail;go_cut [5,6] (fun cv bv wx=>yd W1 c b cv bv wx)
 case first=>
  go_region_with (fail)
  all_goals
   go_wp2_with fail;go_meet;exact ⟨rfl,rfl,rfl⟩
 case rest=>
  obtain ⟨rfl,rfl,rfl⟩:=hcut
  cases b with
  | true=>
   have y:Eb (xs.map ar.name) xs.length r m=51:=(by unfold Eb;rw [Ad (by rw [Tc];exact (Abl _ _).1 hb.out.symm)]);have f:=aE.out.drew;have t:=aI;replace ⟨y,f,t⟩:=H3 y f t;go_wp2
   try rw [Lu]
   go_ret;exact ⟨nv,by rw [y.out];rfl,by rw [y.out];exact am.out,Jg.jm f.out (A6 aH t.out)⟩
  | false=>
   have aF:¬ Jf (xs.map ar.name) r=true:=fun h=>by
    have:=(Abl _ _).2 (Tc.1 h);rw [<- hb.out] at this;cases this
   obtain ⟨W2,av⟩:=Ex (W1.drew);have o:jf W2 fb mb base nv xs:=(by rw [av];exact am.out);have aL:W2.heap[w.heap.size]?=some (.cells (⟨r,cp,po,pn,pc,m⟩:ar).cells 69 (0,0)):=(by rw [av];exact aK.out);have an:Fx W2 po pn m:=(by rw [av];exact (hx.out.low (aE.out.drew)).parts);clear f0 f1 y0 y5 a4;have f0:=Aa o.head 0;have f1:=Aa o.head 1;have y0:=Aa aL 0;have y5:=Aa aL 5;simp at f0 f1 y0 y5;obtain ⟨tb,ao⟩:=Ex (Pz m);have aG:=an.len;have bA:pn<=pc:=hx.out.mh;rw [<- av];replace ⟨aF,o,aL,an,av,ao,aG⟩:=H7 aF o aL an av ao aG;go_upto_block 0 with fail;go_step3;go_upto_block 0 with fail;go_cut [7,8,9,11] from 26 to 44 (fun tv _ _ _ wx=>yf W2 tb tv wx)
   case first=>
    go_wp2;go_loopw [7,8,9,11,26] (fun tv _ _ _ i wr=>∃ k:Nat,tv=.bool false/\i=.int .i64 k/\k<=pn/\wr=W2/\Hid (¬ X8 m k)) (fun _ _ _ _ i _=>pn-(intOf i).toNat)
    case atStart=>exact ⟨0,rfl,rfl,Av _,rfl,fun ⟨i,j,s,h1,h2,_⟩=>absurd h2 (Pq _)⟩
    case round=>
     obtain ⟨k,rfl,rfl,hk,rfl,hD⟩:=hrel;by_cases a7:k<pn
     .have bg:(k:Int)<pn:=(by omega);have bF:(0:Int)<=(k:Int):=(by omega);obtain ⟨p,aM⟩:=an.out.get a7;obtain ⟨b',a8,rfl,bG,bH⟩:=an.out.cell k p aM;have bI:=fun w=>U7 Aa8 bf ⟨b',a8,none⟩ pn pc k k rfl (by omega) w;replace aM:=Hh aM;go_wp2;go_loopw [7,11,36] (fun tv _ i wq=>∃ j:Nat,tv=.bool false/\i=.int .i64 j/\j<=k/\wq=wr/\Hid (∀ j',j'<j->m[j']?≠some p)) (fun _ _ i _=>k-(intOf i).toNat)
      case atStart=>exact ⟨0,rfl,rfl,Av _,rfl,fun j' h=>absurd h (Pq _)⟩
      case round=>
       obtain ⟨j,rfl,rfl,hj,rfl,hN⟩:=hrel;by_cases bi:j<k
       .have bk:(j:Int)<k:=(by omega);have bJ:(0:Int)<=(j:Int):=(by omega);obtain ⟨q,aA⟩:=an.out.get (i:=j) (by omega);obtain ⟨b2,bB,e2,bK,bL⟩:=an.out.cell j q aA;cases e2;by_cases ap:p=q
        .have d:(p.toList == q.toList)=true:=(by rw [ap];simp);have ht:tb=true:=(by rw [ao.out,Abm];exact ⟨k,j,p,bi,by rw [aG.out];exact a7,aM.out,by rw [ap];exact aA⟩);replace ⟨aA,ap,ht⟩:=H3 aA ap ht;go_wp2;go_meet
         case rel=>exact ⟨by rw [ht.out],rfl⟩
        .have d:(p.toList == q.toList)=false:=by simp only [Bg];intro e;rw [Lib.toList_data,Lib.toList_data] at e;exact ap (S8 e)
         have aU:∀ j',j'<j+1->m[j']?≠some p:=fun j' h e=>by
          by_cases c:j'=j
          .subst c;rw [aA] at e;exact ap (J0 e).symm
          .exact hN.out j' (by omega) e
         replace ⟨aA,ap,aU⟩:=H3 aA ap aU;go_wp2;go_roundw
         case rel=>exact ⟨j+1,rfl,by go_num,by omega,By,aU.out⟩
         case measure=>simp [intOf];omega
       .have bk:¬ (j:Int)<k:=by omega
        have aV:¬ X8 m (k+1):=fun ⟨i,j',s,h1,h2,h3,h4⟩=>by
         by_cases c:i=k
         .subst c;rw [aM.out] at h3;exact hN.out j' (by omega) (by rw [h4,<- h3])
         .exact hD.out ⟨i,j',s,h1,by omega,h3,h4⟩
        replace aV:=Hh aV;go_wp2;go_roundw
        case rel=>exact ⟨k+1,rfl,by go_num,by omega,By,aV.out⟩
        case measure=>simp [intOf];omega
     .have bg:¬ (k:Int)<pn:=(by omega);have aW:k=pn:=(by omega);have ht:tb=false:=(by rw [ao.out,I8];intro c;exact hD.out (by rw [aW,<- aG.out];exact (Abm m).1 c));replace ⟨ht,aW⟩:=H2 ht aW;go_wp2;go_meet
      case rel=>exact ⟨by rw [ht.out],rfl⟩
   case rest=>
    obtain ⟨rfl,rfl⟩:=hcut;have f:Below w.heap.size w wc:=(by rw [av.out];exact aE.out.drew);have t:=aI
    cases tb with
    | true=>
     have y:Eb (xs.map ar.name) xs.length r m=51:=(by unfold Eb;rw [Ac aF.out,Ad ao.out.symm]);replace ⟨y,f,t⟩:=H3 y f t;go_wp2
     try rw [Lu]
     go_ret;exact ⟨nv,by rw [y.out];rfl,by rw [y.out];exact o.out,Jg.jm f.out (A6 aH t.out)⟩
    | false=>
     have bl:∀ ty w,(Builtin.len_ #[52] ty #[nv]).run Tryz.prog w=.ok (.int .i64 (xs.length:Int)) w:=fun ty w=>by
      rcases Joins.ownsRow_forms o.out.row with ⟨rfl,h0⟩ | ⟨g,cap,rfl⟩
      .rw [h0];simp [go_sem,Sz]
      .simp [go_sem,Sz]
     obtain ⟨n,z⟩:=Ex (xs.length);rw [<- z] at bl;replace ⟨z,f,t⟩:=H3 z f t;by_cases q1:16<=n
     .have d1:decide ((16:Int)<=n)=true:=Az (by omega);have y:Eb (xs.map ar.name) xs.length r m=2:=(by unfold Eb;rw [Ac aF.out,Ac (by rw [<- ao.out];simp),Ad (.inl (by rw [<- z.out];exact q1))]);replace y:=Hh y;go_wp2
      try rw [Lu]
      go_ret;exact ⟨nv,by rw [y.out];rfl,by rw [y.out];exact o.out,Jg.jm f.out (A6 aH t.out)⟩
     have d1:decide ((16:Int)<=n)=false:=Aw (by omega);by_cases q2:8<pn
     .have d2:decide ((8:Int)<pn)=true:=Az (by omega);have y:Eb (xs.map ar.name) xs.length r m=2:=(by unfold Eb;rw [Ac aF.out,Ac (by rw [<- ao.out];simp),Ad (.inr (by rw [aG.out];exact q2))]);replace y:=Hh y;go_wp2
      try rw [Lu]
      go_ret;exact ⟨nv,by rw [y.out];rfl,by rw [y.out];exact o.out,Jg.jm f.out (A6 aH t.out)⟩
     have d2:decide ((8:Int)<pn)=false:=Aw (by omega);have y:Eb (xs.map ar.name) xs.length r m=0:=(by unfold Eb;rw [Ac aF.out,Ac (by rw [<- ao.out];simp),Ac (by rw [<- z.out,aG.out];omega)]);replace y:=Hh y;have aN:wc.drew.ownsMap Tryz.prog 9 (plainElem (H:=Unit) Tryz.prog 3) mb n (K2 (xs.map ar.name)):=(by rw [z.out];exact o.out.map);have aO:n<maxLen:=(by have:maxLen=9223372036854775807:=rfl;omega);have aP:keyOf Tryz.prog 9 (.string r)=some (Bz r):=Uv Gq hn;have aX:(Lit.int .i64 (n:Int)).wf=true:=WalkArith.wf_i64 (by omega);replace ⟨aN,aO,aP,aX⟩:=H4 aN aO aP aX;go_upto_region 19 with fail;go_still_tail 11,(by kernel_rfl);change wpList _ _ _ _ _ wc.drew;go_upto_region 20 with (at_mapUpdate;refine wpList_mapUpdate_own _ rfl _ _ _ 99 rfl 9 3 (string_keyed Gq) Tryz.underlying99 _ mb n _ rfl aN.out aO.out _ _ (Bz r) rfl rfl aP.out _ [] (plainElem_int Da aX.out) ?_;intro w5 aB v;replace ⟨aB,v⟩:=H2 aB v)
     have k5:∀ (k:Nat) (c:Array Value) (T:TypeId) (fr:Nat×Nat),wc.heap[k]?=some (.cells c T fr)->w5.heap[k]?=some (.cells c T fr):=fun k c T fr h=>
      (v.out.block k (Ab h) (fun e=>U8 o.out h (by cases e;rfl))).trans h
     have h5:=k5 _ _ _ _ o.out.head;have ac:=k5 _ _ _ _ aL.out
     have ad:w5.ownsRow base 69 6 nv n (Ar ar.cells xs):=by
      refine ⟨by rw [z.out];exact o.out.row.1,?_⟩;rcases o.out.row.2 with ⟨e1,e2⟩ | ⟨g,cap,a9,hv,hg,hh,hr⟩
      .exact .inl ⟨e1,by rw [z.out];exact e2⟩
      .exact .inr ⟨g,cap,a9,by rw [z.out];exact hv,hg,k5 _ _ _ _ hh,by rw [z.out];exact hr⟩
     clear f0 f1 y0 y5;have f0:=Aa h5 0;have y0:=Aa ac 0;have y1:=Aa ac 1;have y2:=Aa ac 2;have y3:=Aa ac 3;have y4:=Aa ac 4;have y5:=Aa ac 5;simp at f0 y0 y1 y2 y3 y4 y5;have bM:=Ab h5;have bN:=Ab ac;obtain ⟨bn,ba,bb,aY,aZ⟩:=C0 Aj0;have aC:((w5.alloc (.cells (⟨r,cp,po,pn,pc,m⟩:ar).cells 69 (0,0))).drew).ownsRow base 69 6 nv n (Ar ar.cells xs):=ad.alloc (.cells (⟨r,cp,po,pn,pc,m⟩:ar).cells 69 (0,0));have aD:∀ j u,(⟨r,cp,po,pn,pc,m⟩:ar).cells.toList[j]?=some u->((w5.alloc (.cells (⟨r,cp,po,pn,pc,m⟩:ar).cells 69 (0,0))).drew).cell? ((⟨w5.heap.size,0,none⟩:Addr).add j)=some u:=Aj2 w5 (⟨r,cp,po,pn,pc,m⟩:ar);have aQ:=Aj1 (⟨r,cp,po,pn,pc,m⟩:ar);have a0:=Je (n:=n) (by omega);have a1:(n+1)*72<=140737488355328:=(by omega);have aR:base<=((w5.alloc (.cells (⟨r,cp,po,pn,pc,m⟩:ar).cells 69 (0,0))).drew).heap.size:=by have:=t.out;have:=f.out.size;have:wc.drew.heap.size=wc.heap.size:=rfl;show base<=(w5.alloc (.cells (⟨r,cp,po,pn,pc,m⟩:ar).cells 69 (0,0))).heap.size;rw [Mt];omega
     have al:∀ w9:World,((w5.alloc (.cells (⟨r,cp,po,pn,pc,m⟩:ar).cells 69 (0,0))).drew).grownBy w9 nv.ownBlock->w9.heap[fb]?=some (.cells #[nv,.map (some mb)] 101 (0,0)):=fun w9 hg=>by
      refine (hg.block fb (by have:=Ab h5;show fb<(w5.alloc (.cells (⟨r,cp,po,pn,pc,m⟩:ar).cells 69 (0,0))).heap.size;rw [Mt];omega) (fun e=>?_)).trans (Ai (.cells (⟨r,cp,po,pn,pc,m⟩:ar).cells 69 (0,0)) h5);obtain ⟨a9,hc⟩:=Abn ad e.symm;rw [h5] at hc;simp at hc
     replace ⟨h5,ac,ad,aC,aD,aQ,a0,a1⟩:=H8 h5 ac ad aC aD aQ a0 a1;replace ⟨aR,al,k5⟩:=H3 aR al k5;simp only [Act.put];go_cut [] (fun wx=>xu base fb w5 (⟨r,cp,po,pn,pc,m⟩:ar) nv n xs wx)
     case first=>
      go_region_law
       (first
         | (refine Td (by rfl) _ _ _ (by rfl) base 69 bn _ 6 72 Sz ba bb aY aZ rfl Ajz nv n _ (by rfl) aC.out ⟨w5.heap.size,0,none⟩ 1 (⟨r,cp,po,pn,pc,m⟩:ar).cells.toList (by rfl) (by rfl) aD.out aQ.out a0.out a1.out aR.out ?_;intro g9 bC w9 l a;have q9:=al.out w9 a;have f9:=Aa q9 0;have z9:=Ah q9 0;simp at f9
            replace ⟨q9,l,a⟩:=H3 q9 l a))
      all_goals
       go_wp2_with fail;go_meet;exact ⟨_,w9,l.out,a.out,rfl⟩
     case rest=>
      obtain ⟨v1,w9,l,a,rfl⟩:=hcut.ex;clear hcut
      have aT:=Aj4 o.out z.out bc bd aH v.out aB.out a l (al.out w9 a) (show ar.ok wc ⟨r,cp,po,pn,pc,m⟩ from ⟨an.out,hx.out.mh⟩) (fun b bs e=>by
       obtain ⟨c,hc⟩:=hp.out b bs e
       exact ⟨c,Ae f.out hc (Ab hc)⟩) t.out f.out
      have a2:=aT.1;have a3:=aT.2;replace ⟨a2,a3,l,a,aT⟩:=H5 a2 a3 l a aT;go_wp2
      try rw [Lu]
      go_ret
      all_goals first
       | exact ⟨rfl,⟨v1,a2.out⟩,a3.out⟩
       | exact absurd y.out (by assumption)
def Akw {w:World} {c d base:Nat} {a:Value} {xs:List ar} (h:jf w c d base a xs):∀ b w,(Builtin.len_ #[52] b #[a]).run Tryz.prog w=.ok (.int .i64 (xs.length:Int)) w:=fun b w=>by
 rcases Joins.ownsRow_forms h.row with ⟨rfl,h0⟩ | ⟨g,cap,rfl⟩
 .rw [h0];simp [go_sem,Sz]
 .simp [go_sem,Sz]
def Yf (w:World) (a b base:Nat) (c:Value) (xs:List ar) (hF:jf w a b base c xs):Calls Tryz.prog 43 #[.pointer (some ⟨a,0,none⟩)] w fun e w'=>e=.returned (.int .i64 (xs.length:Int))/\w'=w:=by
 have d:=Akw hF;have f:=Aa hF.head 0;simp at f;go_enter Tryz.func43,Tryz.ntmps43;go_wp2;go_ret;exact ⟨rfl,rfl⟩
end Go.Proofs.YtimlcnhcjndijaaGreatDoor
