/- Part 8 of rules for walks through the code of a program, and of such walks; what each part proves is said by its theorems. -/
import Derived.Test.YtdgcofocbhbjcaaGreatS7
set_option linter.unusedVariables false
set_option linter.unusedSimpArgs false
noncomputable section
set_option maxRecDepth 100000
set_option maxHeartbeats 4000000
namespace Go.Ev
inductive DC where
 |i (k:IntKind) (n:Int)
 |b (b:Bool)
 |s (l v:Nat)
 |nil
 |sl (rows:List (List DC))
 |raw (f n es:Nat)
def lG(H:aC)(f g Q:Nat)(l:List aw):Prop:=
 ∃elem aL m lo fl cs,H.t.get f=some (.row elem l.length aL m lo fl cs)∧lo≤g∧g≤m∧Q<g∧cs.get Q=some l
mutual
def cq(H:aC)(X:Nat→Prop):DC→aw→Prop
 |.i k n,a=>a= .int k n
 |.b b,a=>a= .bool b
 |.s l v,a=>a= .str l v
 |.nil,a=>a= .gh
 |.raw f n es,a=>a= .slice f n 0 n es
 |.sl rows,a=>∃f g off es,a= .slice f g off rows.length es∧(rows=[]∨¬X f∧f<H.next∧∃q,off=q*es∧dQ H X f g es q rows)
def dQ(H:aC)(X:Nat→Prop)(f g es:Nat):Nat→List (List DC)→Prop
 |_,[]=>True
 |q,row::r=>(∃l,lG H f g q l∧l.length=es∧cD H X row l)∧dQ H X f g es (q+1) r
def cD(H:aC)(X:Nat→Prop):List DC→List aw→Prop
 |[],l=>l=[]
 |d::r,l=>∃a s,l=a::s∧cq H X d a∧cD H X r s
end
structure tI(H H':aC):Prop where
 next:H.next≤H'.next
 bb:H'.bb=H.bb
 ws:H'.ws=H.ws
 same:∀f,f<H.next→H'.t.get f=H.t.get f
theorem tI.refl(H:aC):tI H H:=⟨bM _,rfl,rfl,fun _ _=>rfl⟩
theorem tI.trans{A B C:aC}(h:tI A B)(k:tI B C):tI A C:=
 ⟨fY h.next k.next,k.bb.trans h.bb,k.ws.trans h.ws,fun f p=>(k.same f (lH p h.next)).trans (h.same f p)⟩
structure Step(X:Nat→Prop)(H H':aC):Prop where
 next:H.next≤H'.next
 same:∀f,f<H.next→¬X f→H'.t.get f=H.t.get f
theorem Step.refl(X:Nat→Prop)(H:aC):Step X H H:=⟨bM _,fun _ _ _=>rfl⟩
theorem tI.step{H H':aC}(h:tI H H')(X:Nat→Prop):Step X H H':=⟨h.next,fun f p _=>h.same f p⟩
theorem Step.trans{X:Nat→Prop}{A B C:aC}(h:Step X A B)(k:Step X B C):Step X A C:=
 ⟨fY h.next k.next,fun f p z=>(k.same f (lH p h.next) z).trans (h.same f p z)⟩
section
variable{H H':aC}{X:Nat→Prop}
theorem lG.gl{f g Q:Nat}{l:List aw}(h:lG H f g Q l)(p:H'.t.get f=H.t.get f):lG H' f g Q l:=by
 obtain⟨a,b,c,d,e,k,z,h2⟩:=h
 exact⟨a,b,c,d,e,k,p.trans z,h2⟩
mutual
theorem cq.step(p:Step X H H'):∀{d:DC}{a:aw},cq H X d a→cq H' X d a
 |.i _ _,_,h=>h
 |.b _,_,h=>h
 |.s _ _,_,h=>h
 |.nil,_,h=>h
 |.raw _ _ _,_,h=>h
 |.sl rows,a,h=>by
  simp only[cq] at h⊢
  obtain⟨f,g,off,es,F,h2⟩:=h
  refine⟨f,g,off,es,F,h2.imp id fun⟨z,A,q,ho,G⟩=>⟨z,lH A p.next,q,ho,dQ.step p z A G⟩⟩
theorem dQ.step(p:Step X H H'){f g es:Nat}(z:¬X f)(A:f<H.next):∀{q:Nat}{rows:List (List DC)},dQ H X f g es q rows→dQ H' X f g es q rows
 |_,[],_=>trivial
 |q,row::r,h=>by
  simp only[dQ] at h⊢
  obtain⟨⟨l,F,h2,G⟩,I⟩:=h
  exact⟨⟨l,F.gl (p.same f A z),h2,cD.step p G⟩,dQ.step p z A I⟩
theorem cD.step(p:Step X H H'):∀{row:List DC}{l:List aw},cD H X row l→cD H' X row l
 |[],_,h=>h
 |d::r,l,h=>by
  simp only[cD] at h⊢
  obtain⟨a,s,z,h2,A⟩:=h
  exact⟨a,s,z,cq.step p h2,cD.step p A⟩
end
theorem dQ.get{f g es:Nat}:∀{q:Nat}{rows:List (List DC)},dQ H X f g es q rows→∀{i:Nat}{row:List DC},rows[i]?=some row→∃l,lG H f g (q+i) l∧l.length=es∧cD H X row l
 |q,[],_,i,row,hi=>by simp at hi
 |q,x::r,h,i,row,hi=>by
  simp only[dQ] at h
  cases i with
  |zero=>simp at hi;subst hi;exact h.1
  |succ i=>
   obtain⟨l,p,h2⟩:=dQ.get h.2 (i:=i) (row:=row) (by simpa using hi)
   exact⟨l,by rw[show q+(i+1)=q+1+i by omega];exact p,h2⟩
theorem cD.get:∀{row:List DC}{l:List aw},cD H X row l→∀{i:Nat}{d:DC},row[i]?=some d→∃a,l[i]?=some a∧cq H X d a
 |[],_,_,i,d,hi=>by simp at hi
 |x::r,l,h,i,d,hi=>by
  simp only[cD] at h
  obtain⟨a,s,rfl,p,h2⟩:=h
  cases i with
  |zero=>simp at hi;subst hi;exact⟨a,rfl,p⟩
  |succ i=>simpa using cD.get h2 (i:=i) (d:=d) (by simpa using hi)
theorem cD.length:∀{row:List DC}{l:List aw},cD H X row l→l.length=row.length
 |[],_,h=>by simp only[cD] at h;subst h;rfl
 |d::r,l,h=>by
  simp only[cD] at h
  obtain⟨a,s,rfl,_,h2⟩:=h
  simp[cD.length h2]
theorem cq.slice{rows:List (List DC)}{a:aw}(h:cq H X (.sl rows) a):∃f g off es,a= .slice f g off rows.length es∧
  ∀{i:Nat}{row:List DC},rows[i]?=some row→¬X f∧f<H.next∧∃Q l,lG H f g Q l∧l.length=es∧off+i*es=Q*es∧cD H X row l:=by
 simp only[cq] at h
 obtain⟨f,g,off,es,p,h2⟩:=h
 refine⟨f,g,off,es,p,fun{i row}hi=>?_⟩
 rcases h2 with rfl|⟨z,A,q,ho,F⟩
 ·simp at hi
 obtain⟨l,G,I,J⟩:=F.get hi
 exact⟨z,A,q+i,l,G,I,by rw[ho,ld],J⟩
theorem Jn{β:Type}{f g Q k n:Nat}{l:List aw}{e:β}{c:List aw→β}(h:lG H f g Q l)(p:k+n≤l.length)(h0:0<n):rd H f g (Q*l.length+k) n e c=c ((l.drop k).take n):=by
 obtain⟨elem,aL,m,lo,fl,cs,z,h2,A,F,G⟩:=h
 have I:(Q*l.length+k)/l.length=Q:=by
  rw[pj,Nat.mul_add_div ax,Yy ax];rfl
 have J:(Q*l.length+k) % l.length=k:=by
  rw[pj,Nat.mul_add_mod,BR ax]
 unfold rd
 rw[z]
 simp only[iN,ri]
 rw[show Nat.mod (Q*l.length+k) l.length=k from J,show Nat.div (Q*l.length+k) l.length=Q from I,bE (gD h2),bE (gD A),show Nat.ble (Nat.add k n) l.length=true from gD p,bE rfl,bE (gD F),G,cJ]
 split
 ·rename_i K
  have:=cL K
  have L:k=0:=by omega
  subst L
  rw[List.drop_zero,rN ax]
 rfl
theorem Mg{call:dr}{E:Env}{n:Nat}{agg:Bool}{a:aM}{f g o:Nat}(p:a.ev E=some (.ptr f g o)):(bF.load n agg a).ev call E H=rd H f g o n (.err 4) fun l=>fD agg l (.err 4) fun v=>.ok v H:=by
 show bD a E (.err 4) (fun v=>gA v (.err 4) fun f g off=>rd H f g off n (.err 4) fun l=>fD agg l (.err 4) fun v=>.ok v H)=_
 rw[cM,p,cJ];rfl
variable{T:bC}{E:Env}
theorem Av{a:aM}{f g o Q k:Nat}{l:List aw}{x:aw}{R:aw→aC→Prop}(z:a.ev E=some (.ptr f g o))(A:lG H f g Q l)(ho:o=Q*l.length+k)(p:l[k]?=some x)(F:R x H):gp T (.load 1 false a) E H R:=
 eu (fun _=>by
  have G:k<l.length:=(List.getElem?_eq_some_iff.1 p).1
  rw[Mg z,ho,Jn A ax ax]
  have:(l.drop k).take 1=[x]:=by
   rw[yI G,Bd,J8]
   congr 1
   exact(List.getElem?_eq_some_iff.1 p).2
  rw[this];rfl) F
theorem Hr{n:Nat}{a:aM}{f g o Q k:Nat}{l:List aw}{R:aw→aC→Prop}(p:a.ev E=some (.ptr f g o))(z:lG H f g Q l)(ho:o=Q*l.length+k)(A:k+n≤l.length)(h0:0<n)(F:R (.agg ((l.drop k).take n)) H):gp T (.load n true a) E H R:=
 eu (fun _=>by rw[Mg p,ho,Jn z A h0];rfl) F
def Bl(H:aC)(f:Nat)(cells:List aw):Prop:=∃elem aL lo cs,H.t.get f=some (.row elem cells.length aL 1 lo 0 cs)∧lo≤1∧cs.get 0=some cells
theorem Bl.cells{f:Nat}{l:List aw}(h:Bl H f l):lG H f 1 0 l:=by
 obtain⟨a,b,lo,cs,p,h2,z⟩:=h
 exact⟨a,b,1,lo,0,cs,p,h2,bM _,wG _,z⟩
theorem Bl.gl{f:Nat}{l:List aw}(h:Bl H f l)(p:H'.t.get f=H.t.get f):Bl H' f l:=by
 obtain⟨a,b,lo,cs,z,h2⟩:=h
 exact⟨a,b,lo,cs,p.trans z,h2⟩
def Kn(H:aC)(elem aL:Nat)(cells:List aw):aC:=⟨H.next+1,H.bb,H.ws,H.t.set H.next (.row elem cells.length aL 1 1 0 (.one cells))⟩
theorem boxH_at(elem aL:Nat)(cells:List aw):Bl (Kn H elem aL cells) H.next cells:=
 ⟨elem,aL,1,.one cells,by show(H.t.set H.next _).get H.next=_;rw[GT.c7,bE rfl],bM _,rfl⟩
theorem Ul(elem aL:Nat)(cells:List aw):tI H (Kn H elem aL cells):=
 ⟨yH _,rfl,rfl,fun f p=>by show(H.t.set H.next _).get f=_;rw[GT.c7,bw ax]⟩
theorem alloc_eq(o:cZ)(k:Nat→aC→aF):H.alloc o k=k H.next ⟨H.next+1,H.bb,H.ws,H.t.set H.next o⟩:=by
 cases H with
 |mk next bb ws t=>
  show cA next (fun f=>t.eX f o fun t=>k f ⟨Nat.succ f,bb,ws,t⟩)=_
  rw[eP,GT.i9]
theorem wpI_boxz{elem es aL:Nat}{cells:List aw}{R:aw→aC→Prop}(p:cells.length=es)(z:R (.ptr H.next 1 0) (Kn H elem aL cells)):gp T (.oz elem es aL cells) E H R:=
 eu (fun _=>by subst p;show H.alloc (.row elem cells.length aL 1 1 0 (.one cells)) (fun f H=>.ok (.ptr f 1 0) H)=_;rw[alloc_eq];rfl) z
theorem wpI_box{elem es aL:Nat}{x:aM}{v:aw}{cells:List aw}{R:aw→aC→Prop}(p:x.ev E=some v)(z:iB v=some cells)(A:cells.length=es)(F:R (.ptr H.next 1 0) (Kn H elem aL cells)):gp T (.box elem es aL x) E H R:=
 eu (fun _=>by
  subst A
  show bD x E (.err 3) (fun v=>ob (iB v) (.err 3) fun l=>aI (Nat.beq (gb l) cells.length) (yd elem cells.length aL l E H) (.err 3))=_
  rw[cM,p,cJ,z,cJ,ny,show Nat.beq cells.length cells.length=true from ga _,dw]
  show H.alloc (.row elem cells.length aL 1 1 0 (.one cells)) (fun f H=>.ok (.ptr f 1 0) H)=_
  rw[alloc_eq];rfl) F
variable{k:Nat}{Q:Env→aC→Prop}
theorem TN{call:dr}{o:bK}{bB:List FP}{K:Env→aC→List FP→dq}(p:o.q=none):o.oB call E H bB K=fin o.dst E (fun E H=>K E H bB) (o.op.ev call E H):=by
 unfold bK.oB;rw[p];rfl
theorem xe{call:dr}{d:Option Key}{q:Option (List Nat)}{op:bF}{bB:List FP}{K:Env→aC→List FP→dq}:bK.jQ call ⟨d,none,q,op⟩ E H bB K=bK.oB call ⟨d,none,q,op⟩ E H bB K:=rfl
theorem Hd{call:dr}{d:Option Key}{g:Key}{want:Bool}{q:Option (List Nat)}{op:bF}{t:Bool}{bB:List FP}{K:Env→aC→List FP→dq}(p:E.get g=some (.bool t)):
  bK.jQ call ⟨d,some (g,want),q,op⟩ E H bB K=if t=want then bK.oB call ⟨d,some (g,want),q,op⟩ E H bB K else K (iD E d .undef) H (nF q bB):=by
 show ob (E.get g) (.err 51) (fun v=>we v (ib d E H fun E H=>K E H (nF q bB)) fun b=>aI (Bool.xor b want) (ib d E H fun E H=>K E H (nF q bB)) (bK.oB call ⟨d,some (g,want),q,op⟩ E H bB K))=_
 rw[p,cJ]
 show aI (Bool.xor t want) (ib d E H fun E H=>K E H (nF q bB)) (bK.oB call ⟨d,some (g,want),q,op⟩ E H bB K)=_
 rw[uU]
 cases t<;>cases want<;>rfl
end
structure ff(H:aC)(X:Nat→Prop)(H':aC)(X':Nat→Prop):Prop where
 next:H.next≤H'.next
 same:∀f,f<H.next→¬X f→¬X' f∧H'.t.get f=H.t.get f
section
variable{H H':aC}{X X':Nat→Prop}
mutual
theorem cq.lift(p:ff H X H' X'):∀{d:DC}{a:aw},cq H X d a→cq H' X' d a
 |.i _ _,_,h=>h
 |.b _,_,h=>h
 |.s _ _,_,h=>h
 |.nil,_,h=>h
 |.raw _ _ _,_,h=>h
 |.sl rows,a,h=>by
  simp only[cq] at h⊢
  obtain⟨f,g,off,es,F,h2⟩:=h
  exact⟨f,g,off,es,F,h2.imp id fun⟨A,z,q,ho,G⟩=>⟨(p.same f z A).1,lH z p.next,q,ho,dQ.lift p A z G⟩⟩
theorem dQ.lift(p:ff H X H' X'){f g es:Nat}(z:¬X f)(A:f<H.next):∀{q:Nat}{rows:List (List DC)},dQ H X f g es q rows→dQ H' X' f g es q rows
 |_,[],_=>trivial
 |q,row::r,h=>by
  simp only[dQ] at h⊢
  obtain⟨⟨l,F,h2,G⟩,I⟩:=h
  exact⟨⟨l,F.gl (p.same f A z).2,h2,cD.lift p G⟩,dQ.lift p z A I⟩
theorem cD.lift(p:ff H X H' X'):∀{row:List DC}{l:List aw},cD H X row l→cD H' X' row l
 |[],_,h=>h
 |d::r,l,h=>by
  simp only[cD] at h⊢
  obtain⟨a,s,z,h2,A⟩:=h
  exact⟨a,s,z,cq.lift p h2,cD.lift p A⟩
end
end
inductive VV where
 |d (x:DC)
 |agg (l:List VV)
 |tuple (l:List VV)
 |vp (b off:Nat)
 |bp (b g q off es:Nat)
 |rp (row:List DC) (off:Nat)
 |bs (b n es:Nat)
 |ac (b n es:Nat)
 |fn (f:Nat) (dM:List VV)
 |k (a:aw)
 |iU
 |undef
inductive BS where
 |one (elem aL:Nat) (row:List VV)
 |arr (elem aL es lo:Nat) (rows:List (List DC))
 |acc (elem aL es:Nat) (rows:List (List DC))
 |ct (f:Nat) (s:BS)
def BS.born:BS→Prop
 |.acc _ _ _ rows=>rows≠[]
 |.ct _ s=>s.born
 |_=>True
abbrev bO:=List (Nat×VV)
abbrev bq:=List (Nat×BS)
def aZ{α:Type}:List (Nat×α)→Nat→Option α
 |[],_=>none
 |(i,v)::r,k=>bif Nat.beq i k then some v else aZ r k
theorem di{α:Type}(i:Nat)(v:α)(r:List (Nat×α))(k:Nat):aZ ((i,v)::r) k=if i=k then some v else aZ r k:=by
 show(bif Nat.beq i k then some v else aZ r k)=_
 by_cases h:i=k
 ·rw[bE h,h,show Nat.beq k k=true from ga k];rfl
 rw[bw h]
 cases p:Nat.beq i k
 ·rfl
 exact absurd (cL p) h
def dT{α:Type}:List (Nat×α)→Nat→List (Nat×α)
 |[],_=>[]
 |(i,v)::r,k=>bif Nat.beq i k then dT r k else(i,v)::dT r k
theorem pW{α:Type}(b k:Nat):∀l:List (Nat×α),aZ (dT l b) k=if b=k then none else aZ l k
 |[]=>by by_cases h:b=k<;>simp[dT,aZ,h]
 |(i,v)::r=>by
  rw[di]
  show aZ (bif Nat.beq i b then dT r b else(i,v)::dT r b) k=_
  by_cases h:i=b
  ·subst h
   rw[show Nat.beq i i=true from ga i]
   show aZ (dT r i) k=_
   rw[pW i k r]
   by_cases p:i=k
   ·simp[p]
   simp[p]
  have z:Nat.beq i b=false:=by
   cases z:Nat.beq i b
   ·rfl
   exact absurd (cL z) h
  rw[z]
  show aZ ((i,v)::dT r b) k=_
  rw[di,pW b k r]
  by_cases p:i=k
  ·subst p;rw[bE rfl,bw (fun e=>h e.symm),bE rfl]
  rw[bw p,bw p]
mutual
def aK(H:aC)(X:Nat→Prop)(β:Nat→Nat):VV→aw→Prop
 |.d x,a=>cq H X x a
 |.agg l,a=>∃cs,a= .agg cs∧bt H X β l cs
 |.tuple l,a=>∃cs,a= .tuple cs∧bt H X β l cs
 |.vp b off,a=>a= .ptr (β b) 1 off
 |.bp b g q off es,a=>a= .ptr (β b) g (q*es+off)
 |.rp row off,a=>∃f g Q l,a= .ptr f g (Q*l.length+off)∧lG H f g Q l∧cD H X row l∧¬X f∧f<H.next
 |.bs b n es,a=>a= .slice (β b) n 0 n es
 |.ac b n es,a=>(n=0∧a= .gh)∨(0<n∧a= .slice (β b) n 0 n es)
 |.fn f dM,a=>∃cs,a= .func f [] cs∧bt H X β dM cs
 |.k x,a=>a=x
 |.iU,a=>∃t x,a= .iface t x
 |.undef,_=>True
def bt(H:aC)(X:Nat→Prop)(β:Nat→Nat):List VV→List aw→Prop
 |[],l=>l=[]
 |v::r,l=>∃a s,l=a::s∧aK H X β v a∧bt H X β r s
end
mutual
def VV.nb:VV→Prop
 |.d _=>True
 |.agg l=>lB l
 |.tuple l=>lB l
 |.vp _ _=>False
 |.bp _ _ _ _ _=>False
 |.rp _ _=>True
 |.bs _ _ _=>False
 |.ac _ _ _=>False
 |.fn _ dM=>lB dM
 |.k _=>True
 |.iU=>True
 |.undef=>True
def lB:List VV→Prop
 |[]=>True
 |v::r=>v.nb∧lB r
end
mutual
def VV.no(b:Nat):VV→Bool
 |.d _=>true
 |.agg l=>qO b l
 |.tuple l=>qO b l
 |.vp c _=>!Nat.beq c b
 |.bp c _ _ _ _=>!Nat.beq c b
 |.rp _ _=>true
 |.bs c _ _=>!Nat.beq c b
 |.ac c _ _=>!Nat.beq c b
 |.fn _ dM=>qO b dM
 |.k _=>true
 |.iU=>true
 |.undef=>true
def qO(b:Nat):List VV→Bool
 |[]=>true
 |v::r=>v.no b&&qO b r
end
def BS.no(b:Nat):BS→Bool
 |.one _ _ row=>qO b row
 |.arr _ _ _ _ _=>true
 |.acc _ _ _ _=>true
 |.ct _ s=>s.no b
def mz(b:Nat):bO→Bool
 |[]=>true
 |(_,v)::r=>v.no b&&mz b r
def jY(b:Nat):Bool:=Nat.ble 1000 b&&Nat.ble b 1049
def lC(b:Nat):bq→Bool
 |[]=>!jY b
 |(c,s)::r=>!Nat.beq c b&&s.no b&&lC b r
section
variable{H H':aC}{X X':Nat→Prop}{β β':Nat→Nat}
theorem og{c b:Nat}(h:(!Nat.beq c b)=true):c≠b:=by
 rintro rfl
 rw[show Nat.beq c c=true from ga c] at h
 cases h
mutual
theorem aK.lift(p:ff H X H' X'):∀{v:VV}{a:aw},aK H X β v a→aK H' X' β v a
 |.d x,_,h=>by simp only[aK] at h⊢;exact cq.lift p h
 |.agg l,_,h=>by
  simp only[aK] at h⊢
  obtain⟨cs,e,h⟩:=h
  exact⟨cs,e,bt.lift p h⟩
 |.tuple l,_,h=>by
  simp only[aK] at h⊢
  obtain⟨cs,e,h⟩:=h
  exact⟨cs,e,bt.lift p h⟩
 |.vp b off,_,h=>by simp only[aK] at h⊢;exact h
 |.bp b g q off es,_,h=>by simp only[aK] at h⊢;exact h
 |.rp row off,_,h=>by
  simp only[aK] at h⊢
  obtain⟨f,g,Q,l,e,F,h2,A,z⟩:=h
  exact⟨f,g,Q,l,e,F.gl (p.same f z A).2,cD.lift p h2,(p.same f z A).1,lH z p.next⟩
 |.bs b n es,_,h=>by simp only[aK] at h⊢;exact h
 |.ac b n es,_,h=>by simp only[aK] at h⊢;exact h
 |.fn f dM,_,h=>by
  simp only[aK] at h⊢
  obtain⟨cs,e,h⟩:=h
  exact⟨cs,e,bt.lift p h⟩
 |.k x,_,h=>by simp only[aK] at h⊢;exact h
 |.iU,_,h=>by simp only[aK] at h⊢;exact h
 |.undef,_,_=>by simp only[aK]
theorem bt.lift(p:ff H X H' X'):∀{l:List VV}{s:List aw},bt H X β l s→bt H' X' β l s
 |[],_,h=>by simp only[bt] at h⊢;exact h
 |v::r,_,h=>by
  simp only[bt] at h⊢
  obtain⟨a,s,e,z,h2⟩:=h
  exact⟨a,s,e,aK.lift p z,bt.lift p h2⟩
end
mutual
theorem aK.nb:∀{v:VV}{a:aw},v.nb→aK H X β v a→aK H X β' v a
 |.d x,_,_,h=>by simp only[aK] at h⊢;exact h
 |.agg l,_,n,h=>by
  simp only[aK,VV.nb] at h n⊢
  obtain⟨cs,e,h⟩:=h
  exact⟨cs,e,bt.nb n h⟩
 |.tuple l,_,n,h=>by
  simp only[aK,VV.nb] at h n⊢
  obtain⟨cs,e,h⟩:=h
  exact⟨cs,e,bt.nb n h⟩
 |.vp b off,_,n,_=>by simp only[VV.nb] at n
 |.bp b g q off es,_,n,_=>by simp only[VV.nb] at n
 |.rp row off,_,_,h=>by simp only[aK] at h⊢;exact h
 |.bs b m es,_,n,_=>by simp only[VV.nb] at n
 |.ac b m es,_,n,_=>by simp only[VV.nb] at n
 |.fn f dM,_,n,h=>by
  simp only[aK,VV.nb] at h n⊢
  obtain⟨cs,e,h⟩:=h
  exact⟨cs,e,bt.nb n h⟩
 |.k x,_,_,h=>by simp only[aK] at h⊢;exact h
 |.iU,_,_,h=>by simp only[aK] at h⊢;exact h
 |.undef,_,_,_=>by simp only[aK]
theorem bt.nb:∀{l:List VV}{s:List aw},lB l→bt H X β l s→bt H X β' l s
 |[],_,_,h=>by simp only[bt] at h⊢;exact h
 |v::r,_,n,h=>by
  simp only[bt,lB] at h n⊢
  obtain⟨a,s,e,p,h2⟩:=h
  exact⟨a,s,e,aK.nb n.1 p,bt.nb n.2 h2⟩
end
mutual
theorem aK.no{b f:Nat}:∀{v:VV}{a:aw},v.no b=true→aK H X β v a→aK H X (fun c=>if c=b then f else β c) v a
 |.d x,_,_,h=>by simp only[aK] at h⊢;exact h
 |.agg l,_,n,h=>by
  simp only[aK,VV.no] at h n⊢
  obtain⟨cs,e,h⟩:=h
  exact⟨cs,e,bt.no n h⟩
 |.tuple l,_,n,h=>by
  simp only[aK,VV.no] at h n⊢
  obtain⟨cs,e,h⟩:=h
  exact⟨cs,e,bt.no n h⟩
 |.vp c off,_,n,h=>by simp only[aK,VV.no] at h n⊢;rw[bw (og n)];exact h
 |.bp c g q off es,_,n,h=>by simp only[aK,VV.no] at h n⊢;rw[bw (og n)];exact h
 |.rp row off,_,_,h=>by simp only[aK] at h⊢;exact h
 |.bs c m es,_,n,h=>by simp only[aK,VV.no] at h n⊢;rw[bw (og n)];exact h
 |.ac c m es,_,n,h=>by simp only[aK,VV.no] at h n⊢;rw[bw (og n)];exact h
 |.fn f dM,_,n,h=>by
  simp only[aK,VV.no] at h n⊢
  obtain⟨cs,e,h⟩:=h
  exact⟨cs,e,bt.no n h⟩
 |.k x,_,_,h=>by simp only[aK] at h⊢;exact h
 |.iU,_,_,h=>by simp only[aK] at h⊢;exact h
 |.undef,_,_,_=>by simp only[aK]
theorem bt.no{b f:Nat}:∀{l:List VV}{s:List aw},qO b l=true→bt H X β l s→bt H X (fun c=>if c=b then f else β c) l s
 |[],_,_,h=>by simp only[bt] at h⊢;exact h
 |v::r,_,n,h=>by
  simp only[bt,qO,ep] at h n⊢
  obtain⟨a,s,e,p,h2⟩:=h
  exact⟨a,s,e,aK.no n.1 p,bt.no n.2 h2⟩
end
theorem bt.length:∀{l:List VV}{s:List aw},bt H X β l s→s.length=l.length
 |[],_,h=>by simp only[bt] at h;subst h;rfl
 |v::r,_,h=>by
  simp only[bt] at h
  obtain⟨a,s,rfl,_,h2⟩:=h
  simp[bt.length h2]
theorem bt.get:∀{l:List VV}{s:List aw},bt H X β l s→∀{i:Nat}{v:VV},l[i]?=some v→∃a,s[i]?=some a∧aK H X β v a
 |[],_,_,i,v,hi=>by simp at hi
 |x::r,_,h,i,v,hi=>by
  simp only[bt] at h
  obtain⟨a,s,rfl,p,h2⟩:=h
  cases i with
  |zero=>simp at hi;subst hi;exact⟨a,rfl,p⟩
  |succ i=>simpa using bt.get h2 (i:=i) (v:=v) (by simpa using hi)
theorem bt.append:∀{l m:List VV}{s t:List aw},bt H X β l s→bt H X β m t→bt H X β (l++m) (s++t)
 |[],_,_,_,h,k=>by simp only[bt] at h;subst h;exact k
 |x::r,_,_,_,h,k=>by
  simp only[bt] at h
  obtain⟨a,s,rfl,p,h2⟩:=h
  simp only[yF,bt]
  exact⟨a,_,rfl,p,bt.append h2 k⟩
theorem bt.drop:∀{l:List VV}{s:List aw}(n:Nat),bt H X β l s→bt H X β (l.drop n) (s.drop n)
 |_,_,0,h=>h
 |[],_,n+1,h=>by simp only[bt] at h;subst h;simp[bt]
 |x::r,_,n+1,h=>by
  simp only[bt] at h
  obtain⟨a,s,rfl,_,h2⟩:=h
  simpa using bt.drop n h2
theorem bt.take:∀{l:List VV}{s:List aw}(n:Nat),bt H X β l s→bt H X β (l.take n) (s.take n)
 |_,_,0,h=>by simp[bt]
 |[],_,n+1,h=>by simp only[bt] at h;subst h;simp[bt]
 |x::r,_,n+1,h=>by
  simp only[bt] at h
  obtain⟨a,s,rfl,p,h2⟩:=h
  simp only[Bd,bt]
  exact⟨a,_,rfl,p,bt.take n h2⟩
theorem bt.rb:∀{row:List DC}{l:List aw},cD H X row l→bt H X β (row.map .d) l
 |[],_,h=>by simp only[cD] at h;subst h;simp[bt]
 |d::r,_,h=>by
  simp only[cD] at h
  obtain⟨a,s,rfl,p,h2⟩:=h
  simp only[lg,bt,aK]
  exact⟨a,s,rfl,p,bt.rb h2⟩
theorem cD.Dp:∀{row:List DC}{l:List aw},bt H X β (row.map .d) l→cD H X row l
 |[],_,h=>by simpa[bt,cD] using h
 |d::r,_,h=>by
  simp only[lg,bt,aK] at h
  obtain⟨a,s,rfl,p,h2⟩:=h
  simp only[cD]
  exact⟨a,s,rfl,p,cD.Dp h2⟩
end
def XB(X0:Nat→Prop)(B:bq)(β:Nat→Nat)(f:Nat):Prop:=X0 f∨∃b s,aZ B b=some s∧s.born∧β b=f
def df(H:aC)(X:Nat→Prop)(β:Nat→Nat)(f:Nat):BS→Prop
 |.one elem aL row=>∃l lo cs,H.t.get f=some (.row elem l.length aL 1 lo 0 cs)∧lo≤1∧cs.get 0=some l∧bt H X β row l
 |.arr elem aL es lo rows=>∃p cs,H.t.get f=some (.row elem es aL rows.length p 0 cs)∧p≤lo∧lo≤rows.length∧∀q row,rows[q]?=some row→∃l,cs.get q=some l∧l.length=es∧cD H X row l
 |.acc elem aL es rows=>rows=[]∨∃lo cs,H.t.get f=some (.row elem es aL rows.length lo 0 cs)∧lo≤rows.length∧∀q row,rows[q]?=some row→∃l,cs.get q=some l∧l.length=es∧cD H X row l
 |.ct g s=>(s.born→f=g)∧df H X β f s
theorem LY{b:Nat}:∀{B:bq},lC b B=true→jY b=false
 |[],h=>by simpa[lC] using h
 |(_,_)::r,h=>by
  simp only[lC,ep] at h
  exact LY h.2
structure Rel(H0:Nat→Nat)(X0:Nat→Prop)(VE:bO)(B:bq)(E:Env)(H:aC)(β:Nat→Nat):Prop where
 kE:∀b,jY b=true→β b=H0 b
 bb:H.bb≤H.next
 x0:∀f,X0 f→f<H.next
 new:∀b s,aZ B b=some s→s.born→¬X0 (β b)∧β b<H.next
 inj:∀b c s t,aZ B b=some s→aZ B c=some t→s.born→t.born→β b=β c→b=c
 env:∀k v,aZ VE (Key.n k)=some v→∃a,E.get k=some a∧aK H (XB X0 B β) β v a
 box:∀b s,aZ B b=some s→df H (XB X0 B β) β (β b) s
theorem df.lift{H H':aC}{X X':Nat→Prop}{β:Nat→Nat}(F:ff H X H' X'){f:Nat}(G:H'.t.get f=H.t.get f):∀{s:BS},df H X β f s→df H' X' β f s
 |.one _ _ _,h=>by
  obtain⟨l,lo,cs,z,h2,I,A⟩:=h
  exact⟨l,lo,cs,G.trans z,h2,I,bt.lift F A⟩
 |.arr _ _ _ _ _,h=>by
  obtain⟨p,cs,z,h2,I,A⟩:=h
  refine⟨p,cs,G.trans z,h2,I,fun q row J=>?_⟩
  obtain⟨l,K,L,M⟩:=A q row J
  exact⟨l,K,L,cD.lift F M⟩
 |.acc _ _ _ _,h=>by
  rcases h with h|⟨p,cs,z,h2,A⟩
  ·exact .inl h
  refine .inr ⟨p,cs,G.trans z,h2,fun q row J=>?_⟩
  obtain⟨l,K,L,M⟩:=A q row J
  exact⟨l,K,L,cD.lift F M⟩
 |.ct _ s,h=>⟨h.1,df.lift F G (s:=s) h.2⟩
theorem df.W7{H:aC}{X:Nat→Prop}{β:Nat→Nat}{f:Nat}:∀{s:BS},¬s.born→df H X β f s
 |.one _ _ _,h=>absurd trivial h
 |.arr _ _ _ _ _,h=>absurd trivial h
 |.acc _ _ _ rows,h=>.inl (by
  cases rows with
  |nil=>rfl
  |cons x r=>exact absurd (fun e:x::r=[]=>by cases e) h)
 |.ct _ s,h=>⟨fun p=>absurd p h,df.W7 (s:=s) h⟩
theorem df.QP{H:aC}{X:Nat→Prop}{β:Nat→Nat}{b g f:Nat}:∀{s:BS},s.no b=true→df H X β f s→df H X (fun c=>if c=b then g else β c) f s
 |.one _ _ _,p,⟨l,lo,cs,z,A,F,G⟩=>⟨l,lo,cs,z,A,F,bt.no p G⟩
 |.arr _ _ _ _ _,_,h=>h
 |.acc _ _ _ _,_,h=>h
 |.ct _ s,p,h=>⟨h.1,df.QP (s:=s) p h.2⟩
theorem df.Bm{H H':aC}{X X':Nat→Prop}{β:Nat→Nat}(z:ff H X H' X'){f:Nat}{s:BS}(A:s.born→H'.t.get f=H.t.get f)(h:df H X β f s):df H' X' β f s:=by
 by_cases p:s.born
 ·exact h.lift z (A p)
 exact .W7 p
section
variable{T:bC}{H0:Nat→Nat}{X0:Nat→Prop}{VE:bO}{B:bq}{E:Env}{H:aC}{β:Nat→Nat}
theorem Rel.grow(h:Rel H0 X0 VE B E H β){H':aC}(z:H.next≤H'.next)(F:∀f,f<H.next→H'.t.get f=H.t.get f)(I:H'.bb≤H'.next):Rel H0 X0 VE B E H' β:=by
 have G:ff H (XB X0 B β) H' (XB X0 B β):=⟨z,fun f A J=>⟨J,F f A⟩⟩
 refine⟨h.kE,I,fun f A=>lH (h.x0 f A) z,fun b s p ho=>⟨(h.new b s p ho).1,lH (h.new b s p ho).2 z⟩,h.inj,fun k v K=>?_,fun b s p=>(h.box b s p).Bm G fun ho=>F _ (h.new b s p ho).2⟩
 obtain⟨a,L,h2⟩:=h.env k v K
 exact⟨a,L,h2.lift G⟩
theorem Rel.set(h:Rel H0 X0 VE B E H β){d:Key}{v:VV}{a:aw}(z:aK H (XB X0 B β) β v a):Rel H0 X0 ((d.n,v)::VE) B (E.set d a) H β:=by
 refine{h with env:=fun k w p=>?_}
 rw[di] at p
 rw[T4.c7]
 by_cases e:d.n=k.n
 ·rw[bE e] at p
  cases p
  exact⟨a,by rw[bE (Key.inj e).symm],z⟩
 rw[bw e] at p
 rw[bw (fun A=>e (by rw[A]))]
 exact h.env k w p
theorem Rel.less(h:Rel H0 X0 VE B E H β){bY:bO}(p:∀k v,aZ bY k=some v→aZ VE k=some v):Rel H0 X0 bY B E H β:=
 {h with env:=fun k v z=>h.env k v (p _ v z)}
theorem Rel.drop(h:Rel H0 X0 VE B E H β)(b:Nat):Rel H0 X0 VE (dT B b) E H β:=by
 have z:∀c s,aZ (dT B b) c=some s→aZ B c=some s∧b≠c:=fun c s p=>by
  rw[pW] at p
  by_cases e:b=c
  ·rw[bE e] at p;cases p
  rw[bw e] at p;exact⟨p,e⟩
 have F:ff H (XB X0 B β) H (XB X0 (dT B b) β):=⟨bM _,fun f _ G=>⟨fun k=>G (k.imp id fun⟨c,s,A,h2⟩=>⟨c,s,(z c s A).1,h2⟩),rfl⟩⟩
 refine⟨h.kE,h.bb,h.x0,fun c s p ho=>h.new c s (z c s p).1 ho,fun c e s t p I J K=>h.inj c e s t (z c s p).1 (z e t I).1 J K,fun k v L=>?_,fun c s p=>(h.box c s (z c s p).1).lift F rfl⟩
 obtain⟨a,A,h2⟩:=h.env k v L
 exact⟨a,A,h2.lift F⟩
theorem HW{b:Nat}:∀{VE:bO},mz b VE=true→∀{k:Nat}{v:VV},aZ VE k=some v→v.no b=true
 |[],_,_,_,h=>by cases h
 |(i,w)::r,p,k,v,h=>by
  simp only[mz,ep] at p
  rw[di] at h
  by_cases e:i=k
  ·rw[bE e] at h;cases h;exact p.1
  rw[bw e] at h;exact HW p.2 h
theorem HX{b:Nat}:∀{B:bq},lC b B=true→∀{c:Nat}{s:BS},aZ B c=some s→c≠b∧s.no b=true
 |[],_,_,_,h=>by cases h
 |(i,w)::r,p,c,s,h=>by
  simp only[lC,ep] at p
  rw[di] at h
  by_cases e:i=c
  ·rw[bE e] at h;cases h;exact⟨e▸og p.1.1,p.1.2⟩
  rw[bw e] at h;exact HX p.2 h
theorem Rel.newBox(h:Rel H0 X0 VE B E H β){b:Nat}(hE:mz b VE=true)(hB:lC b B=true){H':aC}(hn:H'.next=H.next+1)(hs:∀f,f<H.next→H'.t.get f=H.t.get f)(hm:H'.bb=H.bb){s:BS}
  (O:∀X β',(∀v a,v.no b=true→aK H (XB X0 B β) β v a→aK H' X β' v a)→(∀row l,cD H (XB X0 B β) row l→cD H' X row l)→df H' X β' H.next s):
  ∃β',(β' b=H.next∧∀c,c≠b→β' c=β c)∧Rel H0 X0 VE ((b,s)::B) E H' β'∧∀v a,v.no b=true→aK H (XB X0 B β) β v a→aK H' (XB X0 ((b,s)::B) β') β' v a:=by
 let β':Nat→Nat:=fun c=>if c=b then H.next else β c
 have A:β' b=H.next:=bE rfl
 have p:∀c,c≠b→β' c=β c:=fun c z=>bw z
 have U:∀c t,aZ ((b,s)::B) c=some t→(c=b∧t=s)∨(c≠b∧aZ B c=some t∧t.no b=true):=fun c t z=>by
  rw[di] at z
  by_cases e:b=c
  ·rw[bE e] at z;cases z;exact .inl ⟨e.symm,rfl⟩
  rw[bw e] at z
  exact .inr ⟨fun k=>e k.symm,z,(HX hB z).2⟩
 have hl:ff H (XB X0 B β) H' (XB X0 ((b,s)::B) β'):=⟨ax,fun f hf hx=>⟨fun k=>by
  rcases k with k|⟨c,t,h1,ho,h2⟩
  ·exact hx (.inl k)
  rcases U c t h1 with⟨rfl,rfl⟩|⟨z,I,_⟩
  ·rw[A] at h2;omega
  exact hx (.inr ⟨c,t,I,ho,by rw[←h2,p c z]⟩),hs f hf⟩⟩
 have hv:∀v a,v.no b=true→aK H (XB X0 B β) β v a→aK H' (XB X0 ((b,s)::B) β') β' v a:=fun v a L hr=>(aK.no L hr).lift hl
 have z:∀row l,cD H (XB X0 B β) row l→cD H' (XB X0 ((b,s)::B) β') row l:=fun row l hr=>hr.lift hl
 refine⟨β',⟨A,p⟩,⟨(fun c z=>(p c fun e=>by rw[e,LY hB] at z;cases z).trans (h.kE c z)),by have:=h.bb;omega,(fun f hf=>by have:=h.x0 f hf;omega),fun c t G J=>?_,fun c e t u G Se J Y K=>?_,fun k v hk=>?_,fun c t G=>?_⟩,hv⟩
 ·rcases U c t G with⟨rfl,rfl⟩|⟨F,I,_⟩
  ·rw[A];exact⟨(fun hx=>by have:=h.x0 _ hx;omega),ax⟩
  rw[p c F];have:=h.new c t I J;exact⟨this.1,ax⟩
 ·rcases U c t G with⟨rfl,rfl⟩|⟨F,I,_⟩<;>rcases U e u Se with⟨rfl,rfl⟩|⟨Z,h4,_⟩
  ·rfl
  ·rw[A,p e Z] at K;have:=h.new e u h4 Y;omega
  ·rw[A,p c F] at K;have:=h.new c t I J;omega
  rw[p c F,p e Z] at K;exact h.inj c e t u I h4 J Y K
 ·obtain⟨a,h1,h2⟩:=h.env k v hk
  exact⟨a,h1,hv v a (HW hE hk) h2⟩
 rcases U c t G with⟨rfl,rfl⟩|⟨F,I,L⟩
 ·rw[A];exact O _ _ hv z
 rw[p c F]
 have ho:=h.box c t I
 have M:t.born→H'.t.get (β c)=H.t.get (β c):=fun ho=>hs _ (h.new c t I ho).2
 exact df.Bm (X:=XB X0 B β) hl M (df.QP L ho)
end
section
variable{T:bC}
theorem gp.mono{op:bF}{E:Env}{H:aC}{Q p:aw→aC→Prop}(h:gp T op E H Q)(k:∀v H',Q v H'→p v H'):gp T op E H p:=
 let⟨N,v,H',a,b⟩:=h;⟨N,v,H',a,k _ _ b⟩
theorem mZ.mono{ops:List bK}{E:Env}{H:aC}{Q p:Env→aC→Prop}(h:mZ T ops E H Q)(k:∀v H',Q v H'→p v H'):mZ T ops E H p:=
 let⟨N,v,H',a,b⟩:=h;⟨N,v,H',a,k _ _ b⟩
theorem GI.mono{ops:List bK}{E:Env}{H:aC}{r:List FP}{Q p:Env→aC→Prop}(h:GI T ops E H r Q)(k:∀v H',Q v H'→p v H'):GI T ops E H r p:=
 let⟨N,v,H',a,b⟩:=h;⟨N,v,H',a,k _ _ b⟩
structure gF(B:bq)(β:Nat→Nat)(H:aC)(W:Nat→Prop)(B':bq)(β':Nat→Nat)(H':aC):Prop where
 bb:H'.bb=H.bb
 next:H.next≤H'.next
 ws:∀f,f∈H'.ws→f∈H.ws∨(f<H.bb∧∃b s,W b∧aZ B b=some s∧s.born∧β b=f)
 since:∀b s,aZ B' b=some s→s.born→(∃t,aZ B b=some t∧t.born∧β' b=β b)∨H.next≤β' b
 jm:∀f,f<H.next→(∀b s,aZ B b=some s→s.born→β b≠f)→H'.t.get f=H.t.get f
theorem gF.refl{B:bq}{β:Nat→Nat}{H:aC}{W:Nat→Prop}:gF B β H W B β H:=
 ⟨rfl,bM _,fun _ h=>.inl h,fun _ s p h2=>.inl ⟨s,p,h2,rfl⟩,fun _ _ _=>rfl⟩
theorem gF.more{B G B':bq}{β β':Nat→Nat}{H H':aC}{W:Nat→Prop}(h:gF G β H W B' β' H')(k:∀b s,aZ G b=some s→s.born→∃t,aZ B b=some t∧t.born):gF B β H W B' β' H':=
 ⟨h.bb,h.next,fun f A=>(h.ws f A).imp id fun⟨a,b,s,c,d,e,g⟩=>by obtain⟨t,p,z⟩:=k b s d e;exact⟨a,b,t,c,p,z,g⟩,
  fun b s F h2=>(h.since b s F h2).imp (fun⟨t,a,c,d⟩=>by obtain⟨u,p,z⟩:=k b t a c;exact⟨u,p,z,d⟩) id,
  fun f A I=>h.jm f A fun b s F h2=>by obtain⟨t,p,z⟩:=k b s F h2;exact I b t p z⟩
theorem gF.Jo{B p B':bq}{β β':Nat→Nat}{H H':aC}{W:Nat→Prop}(h:gF B β H W p β' H')(k:∀b s,aZ B' b=some s→s.born→∃t,aZ p b=some t∧t.born):gF B β H W B' β' H':=
 ⟨h.bb,h.next,h.ws,fun b s z h2=>by obtain⟨t,A,F⟩:=k b s z h2;exact h.since b t A F,h.jm⟩
theorem gF.trans{B I J:bq}{β z A:Nat→Nat}{H H1 K:aC}{W O:Nat→Prop}(h:gF B β H W I z H1)(k:gF I z H1 O J A K)(hm:H.bb≤H.next):gF B β H (fun _=>True) J A K:=by
 refine⟨k.bb.trans h.bb,fY h.next k.next,fun f p=>?_,fun b s F h2=>?_,fun f p L=>?_⟩
 ·rcases k.ws f p with p|⟨a,b,s,_,c,d,e⟩
  ·rcases h.ws f p with p|⟨a,b,s,_,c,d,e⟩
   ·exact .inl p
   exact .inr ⟨a,b,s,trivial,c,d,e⟩
  rw[h.bb] at a
  rcases h.since b s c d with⟨t,M,U,Y⟩|M
  ·exact .inr ⟨a,b,t,trivial,M,U,by rw[←Y,e]⟩
  omega
 ·rcases k.since b s F h2 with⟨t,a,c,d⟩|a
  ·rcases h.since b t a c with⟨u,G,Z,d'⟩|G
   ·exact .inl ⟨u,G,Z,d.trans d'⟩
   exact .inr (by rw[d];exact G)
  exact .inr (fY h.next a)
 rw[k.jm f (lH p h.next) fun b s F h2 he=>?_,h.jm f p L]
 rcases h.since b s F h2 with⟨t,a,c,d⟩|a
 ·exact L b t a c (by rw[←d];exact he)
 omega
def Bo(H0:Nat→Nat)(X0:Nat→Prop)(VE:bO)(B:bq)(β:Nat→Nat)(E:Env)(H:aC)(W:List Nat)(Q:VV→bq→Prop)(a:aw)(H':aC):Prop:=
 ∃v B' β',gF B β H (· ∈W) B' β' H'∧Rel H0 X0 VE B' E H' β'∧aK H' (XB X0 B' β') β' v a∧Q v B'
def VI(T:bC)(op:bF)(VE:bO)(B:bq)(W:List Nat)(Q:VV→bq→Prop):Prop:=
 ∀H0 X0 E H β,Rel H0 X0 VE B E H β→gp T op E H (Bo H0 X0 VE B β E H W Q)
def s9(H0:Nat→Nat)(X0:Nat→Prop)(B:bq)(β:Nat→Nat)(H:aC)(Q:bO→bq→Prop)(E':Env)(H':aC):Prop:=
 ∃bY B' β',gF B β H (fun _=>True) B' β' H'∧Rel H0 X0 bY B' E' H' β'∧Q bY B'
def VO(T:bC)(ops:List bK)(VE:bO)(B:bq)(Q:bO→bq→Prop):Prop:=
 ∀H0 X0 E H β,Rel H0 X0 VE B E H β→mZ T ops E H (s9 H0 X0 B β H Q)
inductive FL where
 |rd (R:List Nat)
 |qt
 |un
 |off (f:Nat)
def tK(n:Nat)(B:bq)(β:Nat→Nat):FL→FP→Prop
 |.rd R,r=>r.ws=[]∧r.lo=r.hi∧∃l,r.rd=some l∧∀f,f∈l→f<n∧∀b s,aZ B b=some s→s.born→β b=f→b∈R
 |.qt,r=>r.ws=[]
 |.un,_=>True
 |.off f,r=>f∉r.ws
def m0(n:Nat)(B:bq)(β:Nat→Nat)(fl:List FL)(bB:List FP):Prop:=
 bB.length=fl.length∧∀(i:Nat)x r,fl[i]?=some x→bB[i]?=some r→tK n B β x r
theorem tK.step{B B':bq}{β β':Nat→Nat}{H H':aC}{W:Nat→Prop}(A:gF B β H W B' β' H'):∀{x:FL}{r:FP},tK H.next B β x r→tK H'.next B' β' x r
 |.rd R,r,⟨F,h2,l,G,p⟩=>⟨F,h2,l,G,fun f z=>⟨lH (p f z).1 A.next,fun b s I J K=>by
  rcases A.since b s I J with⟨t,a,c,d⟩|a
  ·exact(p f z).2 b t a c (by rw[←d];exact K)
  have:=(p f z).1;omega⟩⟩
 |.qt,r,h=>h
 |.un,r,_=>trivial
 |.off _,r,h=>h
theorem m0.step{B B':bq}{β β':Nat→Nat}{H H':aC}{W:Nat→Prop}{fl:List FL}{bB:List FP}(p:gF B β H W B' β' H')(h:m0 H.next B β fl bB):m0 H'.next B' β' fl bB:=
 ⟨h.1,fun i x r z h2=>(h.2 i x r z h2).step p⟩
theorem m0.cons{n:Nat}{B:bq}{β:Nat→Nat}{fl:List FL}{bB:List FP}{x:FL}{r:FP}(h:m0 n B β fl bB)(k:tK n B β x r):m0 n B β (x::fl) (r::bB):=
 ⟨by simp[h.1],fun i y z p h2=>by
  cases i with
  |zero=>simp at p h2;subst p;subst h2;exact k
  |succ i=>exact h.2 i y z (by simpa using p) (by simpa using h2)⟩
def VQ(T:bC)(ops:List bK)(VE:bO)(B:bq)(fl:List FL)(Q:bO→bq→Prop):Prop:=
 ∀H0 X0 E H β,Rel H0 X0 VE B E H β→∀bB:List FP,m0 H.next B β fl bB→GI T ops E H bB (s9 H0 X0 B β H Q)
def VC(T:bC)(c:IC)(VE:bO)(B:bq)(Q:Ex→bO→bq→Prop):Prop:=
 ∀H0 X0 E H β,Rel H0 X0 VE B E H β→jB T c E H fun x=>s9 H0 X0 B β H (Q x)
variable{VE bY:bO}{B B':bq}
theorem s9.of{H0:Nat→Nat}{X0:Nat→Prop}{H H1:aC}{z:bq}{β p:Nat→Nat}{W:Nat→Prop}{Q:bO→bq→Prop}{E':Env}{H':aC}(h:s9 H0 X0 z p H1 Q E' H')(A:gF B β H W z p H1)(F:H.bb≤H.next):s9 H0 X0 B β H Q E' H':=by
 obtain⟨bY,B',β',G,h2,I⟩:=h
 exact⟨bY,B',β',A.trans G F,h2,I⟩
variable{Q:bO→bq→Prop}{W:List Nat}
theorem bn(h:Q VE B):VO T [] VE B Q:=fun _ _ _ _ β p=>wpO_nil ⟨VE,B,β,.refl,p,h⟩
theorem ai{d:Key}{F:Option (List Nat)}{op:bF}{r:List bK}(h:VI T op VE B W fun v B'=>VO T r ((d.n,v)::VE) B' Q):VO T (⟨some d,none,F,op⟩::r) VE B Q:=by
 intro H0 X0 E H β A
 refine LW ((h H0 X0 E H β A).mono fun a H' p=>?_)
 obtain⟨v,B',β',G,z,I,J⟩:=p
 exact(J H0 X0 _ H' β' (z.set I)).mono fun _ _ p=>p.of G A.bb
theorem jd{F:Option (List Nat)}{op:bF}{r:List bK}(h:VI T op VE B W fun _ B'=>VO T r VE B' Q):VO T (⟨none,none,F,op⟩::r) VE B Q:=by
 intro H0 X0 E H β A
 refine Ui ((h H0 X0 E H β A).mono fun a H' p=>?_)
 obtain⟨v,B',β',G,z,J,I⟩:=p
 exact(I H0 X0 _ H' β' z).mono fun _ _ p=>p.of G A.bb
theorem Rel.bool{H0:Nat→Nat}{X0:Nat→Prop}{E:Env}{H:aC}{β:Nat→Nat}(p:Rel H0 X0 VE B E H β){g:Key}{t:Bool}(z:aZ VE g.n=some (.d (.b t))):E.get g=some (.bool t):=by
 obtain⟨a,A,h2⟩:=p.env g _ z
 simp only[aK,cq] at h2
 rw[A,h2]
theorem vo_want{d g:Key}{want:Bool}{F:Option (List Nat)}{op:bF}{r:List bK}(G:aZ VE g.n=some (.d (.b want)))(h:VI T op VE B W fun v B'=>VO T r ((d.n,v)::VE) B' Q):VO T (⟨some d,some (g,want),F,op⟩::r) VE B Q:=by
 intro H0 X0 E H β p
 refine wpO_want (p.bool G) ((h H0 X0 E H β p).mono fun a H' z=>?_)
 obtain⟨v,B',β',I,A,J,K⟩:=z
 exact(K H0 X0 _ H' β' (A.set J)).mono fun _ _ z=>z.of I p.bb
theorem s9.more{H0:Nat→Nat}{X0:Nat→Prop}{H:aC}{p:bq}{β:Nat→Nat}{Q:bO→bq→Prop}{E':Env}{H':aC}(h:s9 H0 X0 p β H Q E' H')(k:∀b s,aZ p b=some s→s.born→∃t,aZ B b=some t∧t.born):s9 H0 X0 B β H Q E' H':=by
 obtain⟨bY,B',β',z,h2,A⟩:=h
 exact⟨bY,B',β',z.more k,h2,A⟩
theorem uV{b:Nat}:∀c s,aZ (dT B b) c=some s→s.born→∃t,aZ B c=some t∧t.born:=fun c s p h2=>by
 rw[pW] at p
 split at p
 ·cases p
 exact⟨s,p,h2⟩
theorem Vw{ops:List bK}(b:Nat)(h:VO T ops VE (dT B b) Q):VO T ops VE B Q:=
 fun H0 X0 E H β p=>(h H0 X0 E H β (p.drop b)).mono fun _ _ z=>z.more uV
theorem cU{fl:List FL}(h:Q VE B):VQ T [] VE B fl Q:=fun _ _ _ _ β p _ _=>⟨0,_,_,fun _ _ _ _=>rfl,VE,B,β,.refl,p,h⟩
theorem aU{fl:List FL}{d:Key}{op:bF}{r:List bK}(h:VI T op VE B W fun v B'=>VQ T r ((d.n,v)::VE) B' fl Q):VQ T (⟨some d,none,none,op⟩::r) VE B fl Q:=by
 intro H0 X0 E H β z bB F
 obtain⟨N,a,H',e,v,B',β',A,p,G,I⟩:=h H0 X0 E H β z
 obtain⟨J,K,L,M,O⟩:=I H0 X0 _ H' β' (p.set G) bB (F.step A)
 refine⟨max N J,K,L,fun lf n U Y=>?_,O.of A z.bb⟩
 show bK.jQ (T.call lf n) ⟨some d,none,none,op⟩ E H bB (jb (T.call lf n) r)=_
 rw[xe,TN rfl,e lf n ax ax,HC]
 exact M lf n ax ax
theorem vq_want{fl:List FL}{d g:Key}{want:Bool}{op:bF}{r:List bK}(F:aZ VE g.n=some (.d (.b want)))(h:VI T op VE B W fun v B'=>VQ T r ((d.n,v)::VE) B' fl Q):VQ T (⟨some d,some (g,want),none,op⟩::r) VE B fl Q:=by
 intro H0 X0 E H β p bB G
 obtain⟨N,a,H',e,v,B',β',A,z,I,J⟩:=h H0 X0 E H β p
 obtain⟨K,L,M,O,U⟩:=J H0 X0 _ H' β' (z.set I) bB (G.step A)
 refine⟨max N K,L,M,fun lf n Y Z=>?_,U.of A p.bb⟩
 show bK.jQ (T.call lf n) ⟨some d,some (g,want),none,op⟩ E H bB (jb (T.call lf n) r)=_
 rw[Hd (p.bool F),bE rfl,TN rfl,e lf n ax ax,HC]
 exact O lf n ax ax
theorem xf{call:dr}{E:Env}{H:aC}{d:Option Key}{g:Option (Key×Bool)}{l:List Nat}{op:bF}{bB:List FP}{K:Env→aC→List FP→dq}{v:aw}{H1:aC}(h:op.ev call E H.mark= .ok v H1)(A:nr ⟨op.reads E,H1.ws,H.next,H1.next⟩ bB l=true):
  bK.oB call ⟨d,g,some l,op⟩ E H bB K=K (iD E d v) ⟨H1.next,H.bb,oc H.bb H.ws H1.ws,H1.t⟩ (⟨op.reads E,H1.ws,H.next,H1.next⟩::bB):=by
 cases H with
 |mk next bb ws t=>cases H1 with
  |mk next' z p t'=>
   show cA next (fun next=>B9 (op.reads E) l next bb ws bB d E K (op.ev call E ⟨next,next,[],t⟩))=_
   rw[eP]
   have h:op.ev call E ⟨next,next,[],t⟩= .ok v ⟨next',z,p,t'⟩:=h
   rw[h]
   have A:nr ⟨op.reads E,p,next,next'⟩ bB l=true:=A
   cases d with
   |none=>
    show aI (nr ⟨op.reads E,p,next,next'⟩ bB l) (K E ⟨next',bb,oc bb ws p,t'⟩ (⟨op.reads E,p,next,next'⟩::bB)) (.err 50)=_
    rw[A];rfl
   |some d=>
    unfold B9
    dsimp only
    rw[A,dw,T4.Dd];rfl
def Cf(x:Nat):List Nat→Bool
 |[]=>false
 |y::r=>Nat.beq x y||Cf x r
theorem LZ{x:Nat}:∀{l:List Nat},x∈l→Cf x l=true
 |y::r,h=>by
  rcases List.mem_cons.1 h with rfl|h
  ·show(Nat.beq x x||Cf x r)=true
   rw[show Nat.beq x x=true from ga x];rfl
  show(Nat.beq x y||Cf x r)=true
  rw[LZ h,Bool.or_true]
def FR(R:List Nat):List Nat→Bool
 |[]=>true
 |b::r=>!Cf b R&&FR R r
theorem UU{R:List Nat}:∀{W:List Nat},FR R W=true→∀b,b∈W→b∉R
 |c::r,h,b,p=>by
  simp only[FR,ep] at h
  rcases List.mem_cons.1 p with rfl|p
  ·intro z
   rw[LZ z] at h
   simp at h
  exact UU h.2 b p
def o4(W:List Nat)(l:List Nat)(fl:List FL):Bool:=
 match l with
 |[]=>true
 |i::r=>(match fl[i]?with
  |some (.rd R)=>FR R W
  |some .qt=>W.isEmpty
  |_=>false)&&o4 W r fl
theorem UW{l m:List Nat}(h:∀f,f∈l→f∉m):Bg l m=true:=by
 induction l with
 |nil=>rfl
 |cons x r p=>
  show aI (oA x m) false (Bg r m)=true
  rw[p fun f z=>h f (qw _ z)]
  have A:oA x m=false:=by
   cases F:oA x m
   ·rfl
   exact absurd ((Hy _ _).1 F) (h x (jU ..))
  rw[A];rfl
theorem Um(r:Option (List Nat)):Et [] r=true:=rfl
theorem TO{l m:List Nat}(h:∀f,f∈l→f∉m):Et l (some m)=true:=by
 cases l with
 |nil=>rfl
 |cons x r=>exact UW h
theorem Un{n:Nat}:∀{l:List Nat},wg l n n=true
 |[]=>rfl
 |x::r=>by
  show aI (Nat.ble n x) (aI (Nat.ble n x) (wg r n n) false) (wg r n n)=true
  rw[Un]
  cases Nat.ble n x<;>rfl
theorem xp{n:Nat}{β:Nat→Nat}{fl:List FL}{bB:List FP}{fp:FP}(A:m0 n B β fl bB)(I:∀f,f∈fp.ws→∃b s,b∈W∧aZ B b=some s∧s.born∧β b=f):∀{l:List Nat},o4 W l fl=true→nr fp bB l=true
 |[],_=>rfl
 |i::r,h=>by
  simp only[o4,ep] at h
  obtain⟨hi,M⟩:=h
  show ob (bB[i]?) false (fun b=>aI (oY fp b) (nr fp bB r) false)=true
  have p:i<bB.length:=by
   rw[A.1]
   cases z:fl[i]?with
   |none=>rw[z] at hi;simp at hi
   |some x=>exact(List.getElem?_eq_some_iff.1 z).1
  rw[dz p,cJ]
  have G:i<fl.length:=by rw[←A.1];exact p
  have F:=A.2 i _ _ (dz G) (dz p)
  rw[dz G] at hi
  have e:oY fp bB[i]=true:=by
   unfold oY
   cases z:fl[i] with
   |un=>rw[z] at hi;simp at hi
   |off _=>rw[z] at hi;simp at hi
   |qt=>
    rw[z] at hi F
    have O:W=[]:=by cases W with
     |nil=>rfl
     |cons _ _=>simp at hi
    have J:fp.ws=[]:=by
     cases U:fp.ws with
     |nil=>rfl
     |cons f _=>
      obtain⟨b,_,L,_⟩:=I f (by rw[U];exact jU ..)
      rw[O] at L;cases L
    have F:bB[i].ws=[]:=F
    rw[J,F];rfl
   |rd R=>
    rw[z] at hi F
    obtain⟨Y,Z,l,k3,k4⟩:=F
    have hi:FR R W=true:=hi
    rw[Y,Z,k3,Um,TO (fun f A K=>?_),UW (fun f _ h=>by cases h),Un]
    ·rfl
    obtain⟨b,s,h1,h2,h3,h4⟩:=I f A
    exact UU hi b h1 ((k4 f K).2 b s h2 h3 h4)
  rw[e,dw]
  exact xp A I M
theorem gF.mark{β β':Nat→Nat}{H H1:aC}(h:gF B β H.mark (· ∈W) B' β' H1):gF B β H (· ∈W) B' β' ⟨H1.next,H.bb,oc H.bb H.ws H1.ws,H1.t⟩:=by
 cases H with
 |mk next bb ws t=>
  refine⟨rfl,h.next,fun f p=>?_,h.since,h.jm⟩
  rcases(CX _ _ _ _).1 p with p|⟨p,k⟩
  ·exact .inl p
  rcases h.ws f p with p|⟨a,z⟩
  ·cases p
  exact .inr ⟨k,z⟩
theorem xv{H0:Nat→Nat}{X0:Nat→Prop}{E:Env}{H:aC}{β:Nat→Nat}{op:bF}{Q:VV→bq→Prop}(h:VI T op VE B W Q)(G:Rel H0 X0 VE B E H β):
  gp T op E H.mark fun a H1=>(∀f,f∈H1.ws→∃b s,b∈W∧aZ B b=some s∧s.born∧β b=f)∧∃v B' β',gF B β H (· ∈W) B' β' ⟨H1.next,H.bb,oc H.bb H.ws H1.ws,H1.t⟩∧Rel H0 X0 VE B' E ⟨H1.next,H.bb,oc H.bb H.ws H1.ws,H1.t⟩ β'∧aK ⟨H1.next,H.bb,oc H.bb H.ws H1.ws,H1.t⟩ (XB X0 B' β') β' v a∧Q v B':=by
 have p:H.mark.bb=H.next∧H.mark.ws=[]∧H.mark.next=H.next∧H.mark.t=H.t:=by cases H;exact⟨rfl,rfl,rfl,rfl⟩
 have z:Rel H0 X0 VE B E H.mark β:=G.grow (by rw[p.2.2.1];exact bM _) (fun f _=>by rw[p.2.2.2]) (by rw[p.1,p.2.2.1];exact bM _)
 refine(h H0 X0 E H.mark β z).mono fun a H1 I=>?_
 obtain⟨v,B',β',A,F,J,K⟩:=I
 have L:H.bb≤H1.next:=by
  have Y:=G.bb
  have h2:=A.next
  rw[p.2.2.1] at h2
  omega
 have M:ff H1 (XB X0 B' β') ⟨H1.next,H.bb,oc H.bb H.ws H1.ws,H1.t⟩ (XB X0 B' β'):=⟨bM _,fun _ _ O=>⟨O,rfl⟩⟩
 refine⟨fun f U=>?_,v,B',β',A.mark,F.grow (bM _) (fun _ _=>rfl) L,J.lift M,K⟩
 rcases A.ws f U with h|⟨_,b,s,h⟩
 ·rw[p.2.1] at h;cases h
 exact⟨b,s,h⟩
def tL:List Nat→FL
 |[]=>.qt
 |_=>.un
theorem Mh{n:Nat}{β:Nat→Nat}{fp:FP}(z:∀f,f∈fp.ws→∃b s,b∈W∧aZ B b=some s∧s.born∧β b=f){A:bq}{p:Nat→Nat}:tK n A p (tL W) fp:=by
 cases W with
 |cons _ _=>trivial
 |nil=>
  show fp.ws=[]
  cases F:fp.ws with
  |nil=>rfl
  |cons f _=>
   obtain⟨b,_,G,_⟩:=z f (by rw[F];exact jU ..)
   cases G
theorem bP{fl:List FL}{d:Key}{l:List Nat}{op:bF}{r:List bK}(I:o4 W l fl=true)(h:VI T op VE B W fun v B'=>VQ T r ((d.n,v)::VE) B' (tL W::fl) Q):VQ T (⟨some d,none,some l,op⟩::r) VE B fl Q:=by
 intro H0 X0 E H β z bB A
 obtain⟨N,a,H',e,F,v,B',β',G,p,J,K⟩:=xv h z
 obtain⟨L,M,O,U,Y⟩:=K H0 X0 _ _ β' (p.set J) (⟨op.reads E,H'.ws,H.next,H'.next⟩::bB) ((A.step G).cons (Mh F))
 refine⟨max N L,M,O,fun lf n Z a2=>?_,Y.of G z.bb⟩
 show bK.jQ (T.call lf n) ⟨some d,none,some l,op⟩ E H bB (jb (T.call lf n) r)=_
 rw[xe,xf (e lf n ax ax) (xp A F I)]
 exact U lf n ax ax
theorem oa{fl:List FL}{l:List Nat}{op:bF}{r:List bK}(I:o4 W l fl=true)(h:VI T op VE B W fun _ B'=>VQ T r VE B' (tL W::fl) Q):VQ T (⟨none,none,some l,op⟩::r) VE B fl Q:=by
 intro H0 X0 E H β z bB A
 obtain⟨N,a,H',e,F,v,B',β',G,p,Y,J⟩:=xv h z
 obtain⟨K,L,M,O,U⟩:=J H0 X0 _ _ β' p (⟨op.reads E,H'.ws,H.next,H'.next⟩::bB) ((A.step G).cons (Mh F))
 refine⟨max N K,L,M,fun lf n Z a2=>?_,U.of G z.bb⟩
 show bK.jQ (T.call lf n) ⟨none,none,some l,op⟩ E H bB (jb (T.call lf n) r)=_
 rw[xe,xf (e lf n ax ax) (xp A F I)]
 exact O lf n ax ax
theorem AD{fl:List FL}{d g:Key}{want:Bool}{l:List Nat}{op:bF}{r:List bK}(I:aZ VE g.n=some (.d (.b want)))(J:o4 W l fl=true)(h:VI T op VE B W fun v B'=>VQ T r ((d.n,v)::VE) B' (tL W::fl) Q):VQ T (⟨some d,some (g,want),some l,op⟩::r) VE B fl Q:=by
 intro H0 X0 E H β p bB A
 obtain⟨N,a,H',e,F,v,B',β',G,z,K,L⟩:=xv h p
 obtain⟨M,O,U,Y,Z⟩:=L H0 X0 _ _ β' (z.set K) (⟨op.reads E,H'.ws,H.next,H'.next⟩::bB) ((A.step G).cons (Mh F))
 refine⟨max N M,O,U,fun lf n a1 a2=>?_,Z.of G p.bb⟩
 show bK.jQ (T.call lf n) ⟨some d,some (g,want),some l,op⟩ E H bB (jb (T.call lf n) r)=_
 rw[Hd (p.bool I),bE rfl,xf (e lf n ax ax) (xp A F J)]
 exact Y lf n ax ax
variable{R:Ex→bO→bq→Prop}
theorem VC.mono{c:IC}{p:Ex→bO→bq→Prop}(h:VC T c VE B R)(k:∀x VE B,R x VE B→p x VE B):VC T c VE B p:=fun H0 X0 E H β z=>
 (h H0 X0 E H β z).mono fun x _ _ A=>by obtain⟨bY,B',β',F,a,b⟩:=A;exact⟨bY,B',β',F,a,k _ _ _ b⟩
theorem aS{ops:List bK}(h:VO T ops VE B fun bY B'=>R .normal bY B'):VC T (.region false ops) VE B R:=fun H0 X0 E H β p=>TL (h H0 X0 E H β p)
theorem fB{ops:List bK}(h:VQ T ops VE B [] fun bY B'=>R .normal bY B'):VC T (.region true ops) VE B R:=fun H0 X0 E H β p=>wpC_regionQ (h H0 X0 E H β p [] ⟨rfl,fun i x r hi=>by simp at hi⟩)
theorem aA{a b:IC}(h:VC T a VE B fun x bY B'=>match x with|.normal=>VC T b bY B' R|x=>R x bY B'):VC T (.seq a b) VE B R:=fun H0 X0 E H β G=>by
 refine Vv ((h H0 X0 E H β G).mono fun x E' H' z=>?_)
 obtain⟨bY,B',β',A,p,F⟩:=z
 cases x with
 |normal=>exact⟨fun _=>(F H0 X0 E' H' β' p).mono fun _ _ _ z=>z.of A G.bb,fun e=>absurd rfl e⟩
 |exit id=>exact⟨fun e=>(by cases e),fun _=>⟨bY,B',β',A,p,F⟩⟩
 |ret=>exact⟨fun e=>(by cases e),fun _=>⟨bY,B',β',A,p,F⟩⟩
theorem aG(h:R .normal VE B):VC T .skip VE B R:=fun _ _ _ _ β p=>wpC_skip ⟨VE,B,β,.refl,p,h⟩
theorem bV{id:Nat}(h:R (.exit id) VE B):VC T (.exit id) VE B R:=fun _ _ _ _ β p=>wpC_exit ⟨VE,B,β,.refl,p,h⟩
theorem ay(h:R .ret VE B):VC T .ret VE B R:=fun _ _ _ _ β p=>wpC_ret ⟨VE,B,β,.refl,p,h⟩
theorem vc_condT{k:Key}{a b:IC}(z:aZ VE k.n=some (.d (.b true)))(h:VC T a VE B R):VC T (.cond (.t k) a b) VE B R:=fun H0 X0 E H β p=>
 LX (t:=true) (p.bool z) (fun _=>h H0 X0 E H β p) (fun e=>by cases e)
theorem vc_condF{k:Key}{a b:IC}(z:aZ VE k.n=some (.d (.b false)))(h:VC T b VE B R):VC T (.cond (.t k) a b) VE B R:=fun H0 X0 E H β p=>
 LX (t:=false) (p.bool z) (fun e=>by cases e) (fun _=>h H0 X0 E H β p)
theorem db{k:Key}{a b:IC}{t:Bool}(z:aZ VE k.n=some (.d (.b t)))(A:t=true→VC T a VE B R)(h2:t=false→VC T b VE B R):VC T (.cond (.t k) a b) VE B R:=fun H0 X0 E H β p=>
 LX (t:=t) (p.bool z) (fun e=>A e H0 X0 E H β p) (fun e=>h2 e H0 X0 E H β p)
theorem vc_block{id:Nat}{c:IC}(h:VC T c VE B fun x=>R (GJ id x)):VC T (.block id c) VE B R:=fun H0 X0 E H β p=>Uj (h H0 X0 E H β p)
theorem cb{c:IC}(I:Nat→bO→bq→Prop)(U:∀k VE B,I k VE B→VC T c VE B fun x bY B'=>match x with|.normal=>∃j,j<k∧I j bY B'|x=>R x bY B'){k:Nat}(h0:I k VE B):VC T (.loop c) VE B R:=by
 intro H0 X0 E H β O
 refine UT (fun k E1 H1=>∃p G z,gF B β H (fun _=>True) G z H1∧Rel H0 X0 p G E1 H1 z∧I k p G) (fun k E1 H1 Y=>?_) k E H ⟨VE,B,β,.refl,O,h0⟩
 obtain⟨p,G,z,J,K,hi⟩:=Y
 refine(U k p G hi H0 X0 E1 H1 z K).mono fun x E' H' Z=>?_
 obtain⟨bY,B',β',hw,A,L⟩:=Z
 have F:=J.trans hw O.bb
 cases x with
 |normal=>
  obtain⟨j,hj,M⟩:=L
  exact⟨fun _=>⟨j,hj,bY,B',β',F,A,M⟩,fun e=>absurd rfl e⟩
 |exit id=>exact⟨fun e=>(by cases e),fun _=>⟨bY,B',β',F,A,L⟩⟩
 |ret=>exact⟨fun e=>(by cases e),fun _=>⟨bY,B',β',F,A,L⟩⟩
end
end Go.Ev
