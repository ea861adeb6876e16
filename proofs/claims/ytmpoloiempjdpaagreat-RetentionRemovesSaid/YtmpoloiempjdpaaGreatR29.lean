/- Part 29 of rules for walks through the code of a program, and of such walks; what each part proves is said by its theorems. -/
import Derived.Test.YtmpoloiempjdpaaGreatR19
import Derived.Test.YtmpoloiempjdpaaGreatR21
import Derived.Test.YtmpoloiempjdpaaGreatR23
import Derived.Test.YtmpoloiempjdpaaGreatR24
import Derived.Test.YtmpoloiempjdpaaGreatR25
import Derived.Test.YtmpoloiempjdpaaGreatR26
import Derived.Test.YtmpoloiempjdpaaGreatR27
import Derived.Test.YtmpoloiempjdpaaGreatR28
set_option linter.unusedVariables false
set_option linter.unusedSimpArgs false
noncomputable section
set_option maxRecDepth 100000
set_option maxHeartbeats 4000000
namespace Go.Ev
open Go
def B9(t:HT)(z:Nat):Nat→aj→Option DC
 |_,.int k n=>some (.i k n)
 |_,.bool b=>some (.b b)
 |_,.str l s=>some (.s l s)
 |_,.fR=>some .nil
 |m+1,.slice f g off l es=>match t.get f with
  |some (.row _ cW _ n lo _ cs)=>bif Nat.beq cW es&&Nat.ble lo g&&Nat.ble g n&&Nat.beq (off/es*es) off&&Nat.ble 1 l&&Nat.blt f z then
    ((List.range l).mapM fun i=>match cs.get (off/es+i) with
     |some row=>bif Nat.beq row.length es&&Nat.blt (off/es+i) g then row.mapM (B9 t z m) else none
     |none=>none).map .sl else none
  |_=>none
 |_,_=>none
section
variable{H:ax}
theorem rep_mapM{X:Nat→Prop}{f:aj→Option DC}(z:∀a d,f a=some d→bF H X d a):∀{l:List aj}{r:List DC},l.mapM f=some r→bX H X r l:=by
 intro l
 induction l with
 |nil=>intro r h;simp at h;subst h;simp only[bX]
 |cons x s A=>
  intro r h;simp only[List.mapM_cons,Option.bind_eq_bind,Dj,Option.pure_def,eC] at h;obtain⟨d,G,I,h2,rfl⟩:=h;simp only[bX];exact⟨x,s,rfl,z _ _ G,A h2⟩
theorem aeC:∀(m:Nat)(a:aj)(d:DC),B9 H.t H.next m a=some d→bF H iX d a:=by
 intro m
 induction m with
 |zero=>
  intro a d h
  cases a<;>simp only[B9,eC,reduceCtorEq] at h
  all_goals(subst h;simp only[bF])
 |succ m Z=>
  intro a d h
  cases a with
  |slice f g off l es=>
   simp only[B9] at h
   split at h
   ·rename_i elem cW aD n lo fl cs ho
    cases A:(Nat.beq cW es&&Nat.ble lo g&&Nat.ble g n&&Nat.beq (off/es*es) off&&Nat.ble 1 l&&Nat.blt f H.next) with
    |false=>rw[A] at h;simp at h
    |true=>
     rw[A] at h;simp only[cN] at A;obtain⟨⟨⟨⟨⟨I,L⟩,M⟩,O⟩,b5⟩,b6⟩:=A;have I:=cU I;subst I;have L:=aX L;have M:=aX M;have O:=cU O;simp only[cond_true,Hh] at h;obtain⟨rows,h1,rfl⟩:=h;obtain⟨k1,k2⟩:=QM h1;have hlen:rows.length=l:=by rw[k1,Mk]
     simp only[bF];refine⟨f,g,off,cW,by rw[hlen],.inr ⟨fun h=>h,?_,off/cW,O.symm,dz.nx fun i row hi=>?_⟩⟩
     ·simpa[Nat.blt_eq] using b6
     have U:i<l:=by rw[←hlen];exact(List.getElem?_eq_some_iff.1 hi).1
     obtain⟨r',Y,z⟩:=k2 i i (by rw[T6 U]);rw[hi] at Y;cases Y
     split at z
     ·rename_i cells hc
      cases G:(Nat.beq cells.length cW&&Nat.blt (off/cW+i) g) with
      |false=>rw[G] at z;simp at z
      |true=>
       rw[G] at z;simp only[cN] at G;obtain⟨q1,q2⟩:=G;have q1:=cU q1;have q2:off/cW+i<g:=by simpa[Nat.blt_eq] using q2
       refine⟨cells,⟨elem,aD,n,lo,fl,cs,by rw[q1];exact ho,L,M,q2,hc⟩,q1,rep_mapM (fun a d h=>Z a d h) z⟩
     cases z
   cases h
  |_=>simp only[B9,eC,reduceCtorEq] at h;try(subst h;simp only[bF])
end
section
variable{S:Nat→Bool}{H H1:ax}{X':Nat→Prop}
mutual
theorem Rr(I:Bt S H1)(A:∀f,H.next≤f→¬X' f):∀{d:DC}{a:aj},gB S a=true→oK d=true→bF H1 iX d a→bF (oJ S H1 H) X' d (lp H.next a)
 |.i _ _,a,_,_,h=>by simp only[bF] at h⊢;subst h;rfl
 |.b _,a,_,_,h=>by simp only[bF] at h⊢;subst h;rfl
 |.s _ _,a,_,_,h=>by simp only[bF] at h⊢;subst h;rfl
 |.nil,a,_,_,h=>by simp only[bF] at h⊢;subst h;rfl
 |.raw f n es,a,_,z,_=>by simp[oK] at z
 |.sl rows,a,G,z,h=>by
  simp only[oK,cN] at z;simp only[bF] at h⊢;obtain⟨f,g,off,es,rfl,h⟩:=h;simp only[gB] at G;refine⟨f+H.next,g,off,es,rfl,h.imp id fun⟨_,L,q,ho,M⟩=>⟨A _ al,?_,q,ho,Zp I A G z.2 M⟩⟩;show f+H.next<H.next+H1.next;omega
theorem Zp(z:Bt S H1)(M:∀f,H.next≤f→¬X' f){f g es:Nat}(A:S f=true):∀{q:Nat}{rows:ai},xz rows=true→dz H1 iX f g es q rows→dz (oJ S H1 H) X' (f+H.next) g es q rows
 |_,[],_,_=>trivial
 |q,row::r,G,h=>by
  simp only[xz,cN] at G;simp only[dz] at h⊢;obtain⟨⟨l,⟨elem,aD,m,lo,fl,cs,O,h2,Y,Z,h5⟩,h6,h7⟩,h8⟩:=h;obtain⟨_,o,ho,I⟩:=z f A;rw[O] at ho;cases ho;obtain⟨L,e,hc⟩:=abk (δ:=H.next) I;obtain⟨l',U,j2,j3⟩:=hc q al;rw[h5] at U;cases U;refine⟨⟨qH H.next l,⟨elem,aD,m,lo,fl,L,?_,h2,Y,Z,j3⟩,by rw[Cq,pH];exact h6,Y8 z M j2 G.1 h7⟩,Zp z M A G.2 h8⟩;rw[zI z,bg ⟨al,by rw[show f+H.next-H.next=f by omega];exact A⟩,show f+H.next-H.next=f by omega,O,sf,e,Cq,pH]
theorem Y8(G:Bt S H1)(I:∀f,H.next≤f→¬X' f):∀{r:List DC}{l:List aj},qX S l=true→kJ r=true→bX H1 iX r l→bX (oJ S H1 H) X' r (qH H.next l)
 |[],_,_,_,h=>by simp only[bX] at h⊢;subst h;rfl
 |d::r,l,z,A,h=>by
  simp only[bX] at h⊢;obtain⟨a,s,rfl,L,h2⟩:=h;simp only[qX,cN] at z;simp only[kJ,cN] at A;exact⟨_,_,rfl,Rr G I z.1 A.1 L,Y8 G I z.2 A.2 h2⟩
end
end
section
variable{T:aM}{iE:Tr aO}{iF:Tr Nat}{N n f l s:Nat}
theorem sound_told(h1:T.ft.get f=none)(h2:T.xt.get f=none)(h3:T.zt.get f=some (told iE iF N n f)){H1:ax}{a b:aj}{z e:Int}(he:sG iE iF .leaf N N f [.str l s] (H0 n)= .ok (.tuple [.agg [a,b],.int .i64 z,.int .i64 e]) H1)
  (U:hY H1 (.tuple [.agg [a,b],.int .i64 z,.int .i64 e]) n (reach H1.t 6 (Bu (.tuple [.agg [a,b],.int .i64 z,.int .i64 e])))=true) {c o:DC} (Y:oK c=true) (Z:oK o=true) (hc:bF H1 iX c a) (ho:bF H1 iX o b):
  Sound T f [.d (.s l s)] fun r=>r= .tuple [.agg [.d c,.d o],.d (.i .i64 z),.d (.i .i64 e)]:=by
 intro G X H β ll hr hv;simp only[bc,aE,bF] at hv;obtain⟨_,_,rfl,rfl,rfl⟩:=hv;obtain⟨M,k2,O⟩:=QR U;generalize hL:reach H1.t 6 (Bu (.tuple [.agg [a,b],.int .i64 z,.int .i64 e]))=L at U M k2 O;have A:∀f,f<H.next→(oJ (fun f=>L.contains f) H1 H).t.get f=H.t.get f:=fun f I=>by rw[zI O,aZ (fun c=>by omega)]
 have hX:∀f,H.next≤f→¬XB X [] β f:=fun f I hx=>by have:=hr.x0 f (Gv f hx);omega
 simp only[gB,qX,cN] at M;refine⟨1,.tuple [.agg [lp H.next a,lp H.next b],.int .i64 z,.int .i64 e],oJ (fun f=>L.contains f) H1 H,fun lf m _ h=>?_,.tuple [.agg [.d c,.d o],.d (.i .i64 z),.d (.i .i64 e)],[],β,?_,hr.grow (Mm _ _) A ?_,?_,by simp only[VV.nb,lq];exact⟨⟨trivial,trivial,trivial⟩,trivial,trivial,trivial⟩,rfl⟩
 ·obtain⟨m,rfl⟩:∃n',m=n'+1:=⟨m-1,al⟩;show ob (T.ft.get f) (ob (T.xt.get f) (ob (T.zt.get f) (.err (Nat.add 10000 f)) fun F=>F _ H) fun c=>vL c _ H) _=_;rw[h1,h2,h3];show told iE iF N n f [.str l s] H=_;simp only[told,he,hL];rw[U];rfl
 ·refine⟨rfl,Mm _ _,fun f I=>.inl I,fun b s h=>(by cases h),fun f I _=>A f I⟩
 ·have:=hr.aR;show H.aR≤H.next+H1.next;omega
 simp only[aE,bc,bF];exact⟨_,rfl,_,_,rfl,⟨_,rfl,_,_,rfl,Rr O hX M.1.1 Y hc,_,_,rfl,Rr O hX M.1.2.1 Z ho,rfl⟩,_,_,rfl,rfl,_,_,rfl,rfl,rfl⟩
theorem sound_toldD(Y:T.ft.get f=none)(h2:T.xt.get f=none)(Z:T.zt.get f=some (xY iE iF N n f)){c o:DC}(hf:kJ [c,o]=true)(A:Ot iE iF N n f [c,o] l s)(I:aq (vK l s)= .s l s):
  Sound T f [.agg [.d c,.d o]] fun r=>∃st:List UInt8,r= .d (aq st):=by
 intro G X H β ll hr M;simp only[bc,aE] at M;obtain⟨_,_,rfl,⟨cs,rfl,x,t1,rfl,hx,y,t2,rfl,hy,rfl⟩,rfl⟩:=M;have O:eP H (XB X [] β) H iX:=⟨bf _,fun f _ _=>⟨fun k=>k,rfl⟩⟩;have z:∃(ls:Nat×Nat)(U:List aj)(L:List DC),([aj.agg [x,y]]:List aj)=[.agg U]∧bX H iX L U∧kJ L=true∧Ot iE iF N n f L ls.1 ls.2∧aq (vK ls.1 ls.2)= .s ls.1 ls.2:=
  ⟨(l,s),[x,y],[c,o],rfl,by simp only[bX];exact⟨_,_,rfl,hx.lift O,_,_,rfl,hy.lift O,rfl⟩,hf,A,I⟩
 obtain⟨_,_,_,_,_,_,hs⟩:=z.choose_spec;refine⟨1,.str z.choose.1 z.choose.2,H,fun lf m _ h=>?_,.d (.s z.choose.1 z.choose.2),[],β,.refl,hr,by simp only[aE,bF],by simp only[VV.nb],vK z.choose.1 z.choose.2,by rw[hs]⟩;obtain⟨m,rfl⟩:∃n',m=n'+1:=⟨m-1,al⟩;show ob (T.ft.get f) (ob (T.xt.get f) (ob (T.zt.get f) (.err (Nat.add 10000 f)) fun F=>F _ H) fun c=>vL c _ H) _=_;rw[Y,h2,Z];show xY iE iF N n f [.agg [x,y]] H=_;unfold xY;rw[dif_pos z]
end
end Go.Ev
namespace Go.Ev.Pp
def E3:Tr aO:=HD [(120,i120),(152,aju),(164,i164),(165,i165),(166,i166),(212,i212),(213,i213),(214,i214),(215,i215),(216,i216),(217,i217),(218,i218),(219,i219),(220,i220),(245,i245),(246,i246),(247,i247),(248,i248),(249,i249),(250,i250),(251,i251),(252,i252),(253,i253),(254,i254),(255,i255),(256,i256),(257,i257),(258,i258),(272,i272),(273,i273),(274,i274),(275,i275),(276,i276),(277,i277),(278,i278),(279,i279),(280,i280),(281,i281),(282,i282),(283,i283),(286,i286),(287,i287),(288,i288),(289,i289),(290,i290),(291,i291),(292,i292),(293,i293),(294,i294),(295,i295),(296,i296),(297,i297),(298,i298),(299,i299),(300,i300),(301,i301)]
end Go.Ev.Pp
namespace Go.Ev.Rp
open Go Go.Ev.Pp
def V7(l v:Nat):Bool:=Nat.beq (pack (vK l v)) v
theorem QS:∀(l v:Nat),(vK l v).length=l
 |0,_=>rfl
 |l+1,v=>by simp only[vK,gF,QS l]
theorem acn{l v:Nat}(h:V7 l v=true):aq (vK l v)= .s l v:=by
 unfold aq;rw[QS,cU h]
mutual
def rn:Ty→DC→Bool
 |.i k lo hi,.i A z=>decide (k=A)&&decide (lo≤z)&&decide (z≤hi)
 |.b,.b _=>true
 |.s n,.s l v=>Nat.ble l n&&V7 l v
 |.l n row,.sl rows=>Nat.ble rows.length n&&rows.all fun r=>ua row r
 |.l _ _,.nil=>true
 |.x,_=>true
 |_,_=>false
def ua:List Ty→List DC→Bool
 |[],[]=>true
 |t::z,d::A=>rn t d&&ua z A
 |_,_=>false
end
mutual
theorem GF:∀{t:Ty}{d:DC},rn t d=true→t.ok d
 |.i k lo hi,d,h=>by
  cases d<;>simp only[rn,cN,eW,gU] at h
  obtain⟨⟨rfl,z⟩,h2⟩:=h;exact dY z h2
 |.b,d,h=>by
  cases d<;>simp only[rn,gU] at h
  exact eI
 |.s n,d,h=>by
  cases d<;>simp only[rn,cN,gU] at h
  rename_i l v;rw[←acn h.2];exact bB (by rw[QS];exact aX h.1)
 |.l n row,d,h=>by
  cases d<;>simp only[rn,cN,gU,tQ] at h
  ·exact gw
  exact aL (.inl aa) (aX h.1) fun r A=>CE (h.2 r A)
 |.e y,d,h=>by cases d<;>simp[rn] at h
 |.x,d,h=>bZ
 |.q p,d,h=>by cases d<;>simp[rn] at h
theorem CE:∀{A:List Ty}{z:List DC},ua A z=true→e6 A z
 |[],z,h=>by
  cases z with
  |nil=>exact bl
  |cons _ _=>simp[ua] at h
 |t::A,z,h=>by
  cases z with
  |nil=>simp[ua] at h
  |cons d z=>
   simp only[ua,cN] at h;exact ah (GF h.1) (CE h.2)
end
def AU:DC→Option (ai)
 |.sl r=>some r
 |.nil=>some []
 |_=>none
theorem FF{d:DC}{w:ai}(h:AU d=some w):au w d:=by
 cases d<;>simp only[AU,eC,reduceCtorEq] at h
 ·exact .inr ⟨h.symm,aa⟩
 exact .inl (by rw[h])
def ag0:List DC→Bool
 |.i _ a::.i _ e::_=>decide (a=0→0≤e)
 |_=>false
def UD(two:Bool):List DC→Bool
 |[d0,d1,d2,d3,d4,d5,I]=>match AU d1,AU d2,AU d3 with
  |some z,some A,some G=>rn .b d0&&Nat.ble z.length 30&&(!two||Nat.ble 1 z.length)&&(z.all fun r=>ua xU r)&&Nat.ble A.length 4&&(A.all fun r=>ua [.i .i64 0 4,.i .i64 (-1) ((z.length:Int) -1),.s 1000] r)&&(A.all ag0)&&Nat.ble 1 G.length&&Nat.ble G.length 2&&(G.all fun r=>ua xV r)&&rn (.i .i64 (-1) 30) d4&&rn .b d5&&rn (.l 4 [.i .i64 0 ((z.length:Int) -1)]) I
  |_,_,_=>false
 |_=>false
theorem coreB_ok{two:Bool}{r:List DC}(h:UD two r=true):∃ne,ne≤30∧(two=true→1≤ne)∧e6 (Sm ne) r:=by
 unfold UD at h
 split at h
 ·rename_i d0 d1 d2 d3 d4 d5 d6
  split at h
  ·rename_i G I L M O U;simp only[cN,tQ,oN,gx] at h;obtain⟨⟨⟨⟨⟨⟨⟨⟨⟨⟨⟨⟨Y,Z⟩,z⟩,a3⟩,a4⟩,a5⟩,a6⟩,a7⟩,a8⟩,a9⟩,b1⟩,b2⟩,b3⟩:=h;refine⟨G.length,aX Z,fun ht=>?_,ah (GF Y) (ah (bC ⟨G,FF M,aa,fun r A=>CE (a3 r A)⟩) (ah (bC ⟨I,FF O,aX a4,fun r A=>CE (a5 r A),fun q a e rest hg ha=>?_⟩) (ah (bC ⟨L,FF U,aX a7,aX a8,fun r A=>CE (a9 r A)⟩) (ah (GF b1) (ah (GF b2) (ah (GF b3) bl))))))⟩
   ·rcases z with z|z
    ·rw[ht] at z;cases z
    exact aX z
   have:=a6 _ (nJ hg);simp only[ag0,eW] at this;exact this ha
  cases h
 cases h
def V8(c o:DC):Bool:=match AU c,AU o with
 |some w,some wo=>Nat.ble 1 w.length&&Nat.ble w.length 2&&(w.all fun r=>UD (Nat.ble 2 w.length) r)&&Nat.ble wo.length 2&&Nat.ble w.length (wo.length+1)&&(wo.all fun r=>ua bn r)
 |_,_=>false
theorem selB_ok{T:aM}{c o:DC}(h:V8 c o=true)(A:Sound T 166 [.agg [.d c,.d o]] fun r=>∃s:List UInt8,r=dS s):agS T c o:=by
 unfold V8 at h
 split at h
 ·rename_i w wo G I;simp only[cN,tQ] at h;obtain⟨⟨⟨⟨⟨L,M⟩,O⟩,U⟩,Y⟩,a6⟩:=h;refine⟨w,wo,FF G,aX L,aX M,fun r z=>?_,FF I,aX U,aX Y,fun r z=>CE (a6 r z),A⟩;obtain⟨ne,Z,k2,k3⟩:=coreB_ok (O r z);exact⟨ne,Z,fun k=>k2 (gn k),k3⟩
 cases h
def ajJ(el:Nat→Nat)(c o:DC)(l s:Nat):Bool:=match V6 el [c,o] 100 with
 |(n1,t1,z)=>match sG E3 .leaf .leaf 300 300 166 [.agg z] (iC n1 t1) with
  |.ok (.str A s') _=>Nat.beq A l&&Nat.beq s' s
  |_=>false
def Pk(el:Nat→Nat)(l s:Nat):Bool:=match sG E3 .leaf .leaf 300 300 120 [.str l s] (H0 100) with
 |.ok (.tuple [.agg [a,b],.int .i64 z,.int .i64 e]) H1=>_root_.Go.Ev.hY H1 (.tuple [.agg [a,b],.int .i64 z,.int .i64 e]) 100 (reach H1.t 6 (Bu (.tuple [.agg [a,b],.int .i64 z,.int .i64 e])))&&decide (-9223372036854775808≤z∧z≤9223372036854775807)&&decide (-9223372036854775808≤e∧e≤9223372036854775807)&&(match B9 H1.t H1.next 6 a,B9 H1.t H1.next 6 b with
  |some c,some o=>kJ [c,o]&&(!decide (e=0)||(V7 l s&&V8 c o&&ajJ el c o l s))
  |_,_=>false)
 |_=>false
theorem txB_ok{T:aM}(p1:T.ft.get 120=none)(p2:T.xt.get 120=none)(p3:T.zt.get 120=some (told E3 .leaf 300 100 120))(q1:T.ft.get 166=none)(q2:T.xt.get 166=none)(q3:T.zt.get 166=some (xY E3 .leaf 300 100 166)){I:List UInt8}(Y:I.length≤1000)(h:∀el,Pk el I.length (pack I)=true):xu T I:=by
 have h0:=h fun _=>0
 unfold Pk at h0
 split at h0
 ·rename_i a b z e H1 O;simp only[cN,eW] at h0;obtain⟨⟨⟨Z,k2⟩,k3⟩,A⟩:=h0
  split at A
  ·rename_i c o U ho;simp only[cN,oN,gx,gM] at A;obtain⟨A,k5⟩:=A;simp only[kJ,cN] at A;have hs:=sound_told (T:=T) p1 p2 p3 O Z A.1 A.2.1 (aeC _ _ _ U) (aeC _ _ _ ho);refine⟨Y,hs.mono fun r hr=>⟨c,o,z,e,hr,k2,k3,fun h0=>?_⟩⟩;obtain⟨⟨s1,s2⟩,s3⟩:=k5.resolve_left (fun k=>k h0);refine selB_ok s2 (sound_toldD q1 q2 q3 (l:=I.length) (s:=pack I) (by simp only[kJ,cN];exact A) (fun el=>?_) (acn s1));have L:=h el;unfold Pk at L;rw[O] at L;simp only[U,ho,cN,oN,gx,gM] at L;obtain⟨_,_,k6⟩:=L;obtain⟨_,G⟩:=k6.resolve_left (fun k=>k h0);unfold ajJ at G;generalize V6 el [c,o] 100=q at G⊢;obtain⟨n1,t1,az⟩:=q;simp only at G⊢
   split at G
   ·rename_i l' s' H' M;simp only[cN] at G;rw[←cU G.1,←cU G.2];exact⟨H',M⟩
   cases G
  cases A
 cases h0
end Go.Ev.Rp
namespace Go.Ev.Rp
open Go Go.Ev.Pp
def nS:List (List UInt8):=[[48],[49],[45,32,49],[78,85,76,76]]
def sS:List (List UInt8):=[[39,39],[39,97,39],[39,98,39,39,39]]
def tS:List (List UInt8):=[[116],[117]]
def uS:List (List UInt8):=[[117],[116]]
def tl(k a b c d:Nat):List UInt8:=((XW (nS.getD a []) (sS.getD b []) (tS.getD c []) (uS.getD d []))[k]?).getD []
def ck(el:Nat→Nat)(l:List UInt8):Bool:=Nat.ble l.length 1000&&Pk el l.length (pack l)
end Go.Ev.Rp
namespace Go.Ev.Rp
open Go Go.Ev.Pp
theorem idxN{T:aM}(F:FT T){g:Nat}{z A a6 G I a9:DC}:bY T 58 [dN,.fn 34 [.vp 1003 0]] [(1004,.bP g (.one 29 96 [.d z,.d A,.d a6,.d G,.d I,.d a9])),(1003,.one 61 8 [.vp 1004 0])] fun r B=>r= .d (dJ (-1))∧B=[(1004,.bP g (.one 29 96 [.d z,.d A,.d a6,.d G,.d I,.d a9])),(1003,.one 61 8 [.vp 1004 0])]:=by
 refine ij F.q58 aa (ch 8 aa (zT aa ?_));refine ro 3 aa (bj [8,7] [1003,1004] aa aa (fun e0 L k VE B=>k=0∧an e0 VE∧an L B) ?_ (k:=0) ⟨aa,⟨aa,aa,trivial⟩,⟨aa,aa,trivial⟩⟩);rintro _ VE B⟨rfl,M,O⟩;refine aU _ _ M O (rc 5 aa ?_);refine cE aa ?_ ?_<;>intro U
 ·exact absurd U ao
 exact rc 6 aa (⟨_,[(1004,.bP g (.one 29 96 [.d z,.d A,.d a6,.d G,.d I,.d a9])),(1003,.one 61 8 [.vp 1004 0])],aa,⟨aa,aa,trivial⟩,aa,aa⟩)
theorem delN{T:aM}(F:FT T){g:Nat}{z A a6 G I a9:DC}:bY T 33 [dN,.fn 34 [.vp 1003 0]] [(1004,.bP g (.one 29 96 [.d z,.d A,.d a6,.d G,.d I,.d a9])),(1003,.one 61 8 [.vp 1004 0])] fun r B=>r=dN∧B=[(1004,.bP g (.one 29 96 [.d z,.d A,.d a6,.d G,.d I,.d a9])),(1003,.one 61 8 [.vp 1004 0])]:=by
 refine ij F.q33 aa (ch 8 aa (kD (di:=[dN,.fn 34 [.vp 1003 0]]) (Bi:=[(1004,.bP g (.one 29 96 [.d z,.d A,.d a6,.d G,.d I,.d a9])),(1003,.one 61 8 [.vp 1004 0])]) [(1004,1004),(1003,1003)] 3000 aa aa aa aa aa aa aa ⟨aa,aa,⟨aa,aa,trivial⟩⟩ (idxN F) ?_));rintro _ _⟨rfl,rfl⟩;exact ro 8 aa (eu aa aa (rc 6 aa (⟨_,[(1004,.bP g (.one 29 96 [.d z,.d A,.d a6,.d G,.d I,.d a9])),(1003,.one 61 8 [.vp 1004 0])],aa,⟨aa,aa,trivial⟩,aa,aa⟩)))
theorem delP{T:aM}(F:FT T){g:Nat}{G I a6 L a9:DC}{z:ai}(M:af gb z)(O:(z.length:Int)≤100000)(ca:tJ.ok G)(cj:tJ.ok I){bT:Int}(oZ: -9223372036854775808≤bT)(o0:bT≤9223372036854775807){A:ai}(U:au A L)(Y:A.length≤20)(Z:af kH A):
  bY T 33 [.bs 1001 z.length 6,.fn 34 [.vp 1003 0]] [(1001,.arr 48 64 6 z.length z),(1004,.bP g (.one 29 96 [.d G,.d I,.d a6,.d (dJ bT),.d L,.d a9])),(1003,.one 61 8 [.vp 1004 0])] fun r B=>∃y0,r= .d y0∧au (z.filter (hY bT A)) y0∧B=[(1004,.bP g (.one 29 96 [.d G,.d I,.d a6,.d (dJ bT),.d L,.d a9])),(1004,.one 29 96 [.d G,.d I,.d a6,.d (dJ bT),.d L,.d a9]),(1003,.one 61 8 [.vp 1004 0])]:=by
 refine bY.pinned (c:=1004) (g:=g) (s:=.one 29 96 [.d G,.d I,.d a6,.d (dJ bT),.d L,.d a9]) aa aa trivial ((delF (a6:=a6) (a9:=a9) F M ae O ca cj bZ oZ o0 U Y Z bZ).sameB fun b=>?_) fun r B h=>?_
 ·simp only[c7]
  by_cases h1:1001=b
  ·subst h1;simp
  by_cases h2:1004=b
  ·subst h2;simp
  simp[h1,h2]
 obtain⟨y0,bw,rfl,rfl,hd, -, -, -,rfl⟩:=h;exact⟨_,aa,y0,aa,hd,aa⟩
theorem aax{T:aM}{VE:bb}{B:aK}{Q:VV→aK→Prop}{n m:Nat}{a x:aG}{b j o es elem aD lo f:Nat}{rows:ai}{row z:List DC}{v:VV}{new:List VV}(A:rows.length=m)(G:a.vv VE=some (.bp b m j o es))(I:aF B b=some (.bP f (.arr elem aD es lo rows)))(L:x.vv VE=some v)(M:v.cells=some new)(O:gA new=some z)(U:z.length=n)(h0:0<n)(Y:o+n≤es)
  (Z:rows[j]?=some row) (hq:Q .undef ((b,.bP f (.arr elem aD es m (rows.set j (jQ row o z))))::B)):VI T (.store n a x) VE B [b] Q:=by
 subst A;exact vi_storePB G I L M O U h0 Y Z hq
def rG(z:Int)(L:ai)(r r':List DC):Prop:=∃A v v' k G f f' c I x y w,r=[A,v,k,f,c,x]∧r'=[A,v',G,f',I,y]∧
 (∃w w',au w v∧au w' v'∧kg AN w w'∧af dV w')∧(∃w,au w k∧au w G)∧(∃w,au w f∧au w f')∧(∃w w',au w c∧au w' I∧kg Ah w w'∧af dT w')∧au w x∧au (w.filter (hY z L)) y
theorem pruneD{T:aM}(F:FT T){g G nv mv:Nat}{Z a1 a5:DC}{I A:ai}{p7:de}(hO:jg I A p7)(df:I.length≤16)(bQ:af (rW nv mv) I)(cP:tJ.ok Z)(bV:tJ.ok a1){O:Int}(oZ: -9223372036854775808≤O)(o0:O≤9223372036854775807){a4:DC}{L:ai}(dx:au L a4)(eU:L.length≤20)(dg:af kH L)(ru:mv≤100000):
  Gx T 15 [.k (.ptr g 1 0)] (p7++[(G,.arr 43 136 6 A.length A)]++[(g,.one 29 96 [.d Z,.d a1,.d (.raw G A.length 6),.d (dJ O),.d a4,.d a5])]) fun r fs=>∃W,kg (rG O L) I W∧fs=[(g,.one 29 96 [.d Z,.d a1,.d (.raw G W.length 6),.d (dJ O),.d a4,.d a5]),(G,.arr 43 136 6 W.length W)]:=by
 refine Qt F.q15 aa ?_;have hlen:=hO.len;refine qu (ent_perm (cX:=(g,.one 29 96 [.d Z,.d a1,.d (.raw G A.length 6),.d (dJ O),.d a4,.d a5])::(G,.arr 43 136 6 A.length A)::p7) ?_ (xf 2000 aa aa (xf 2002 aa aa (Cv (k:=0) (v':=.vp 2000 0) aa (fun H X β a Y h=>LD (Y 2000 g (.one 29 96 [.d Z,.d a1,.d (.raw G A.length 6),.d (dJ O),.d a4,.d a5]) aa trivial) h) (je ?_)))))
 ·refine(agE _ _).trans (.cons _ (agE _ _))
 refine pA (c9 1 aa (pA (eY 3 aa (aw (Kl aa aa aa ?_)))));refine rO 7 (.bs 2002 A.length 6) aa (fun H X β a Y h=>Gy (Y 2002 G (.arr 43 136 6 A.length A) aa trivial) h) (aw (Re aa ?_));refine c9 1 aa ?_;refine xk (R:=fun x VE B fs=>x= .normal∧∃W:ai,fs=[]∧W.length=A.length∧kg (rG O L) I W∧an [(1,.one 61 8 [.vp 2000 0]),(2000,.bP g (.one 29 96 [.d Z,.d a1,.d (.raw G A.length 6),.d (dJ O),.d a4,.d a5])),(2002,.bP G (.arr 43 136 6 A.length W))] B) (QP (ab5 (fun kk VE B fs=>∃(v9:Int)(W:ai),0≤v9∧v9≤(A.length:Int)∧W.length=A.length∧jg (I.drop v9.toNat) (A.drop v9.toNat) fs∧(∀q:Nat,v9≤q→W[q]?=A[q]?)∧(∀(q:Nat)r r',(q:Int)<v9→I[q]?=some r→W[q]?=some r'→rG O L r r')∧kk=((A.length:Int) -v9).toNat∧an [(1,.vp 1 0),(8,.d (dJ (A.length:Int))),(9,.d (dJ v9))] VE∧an [(1,.one 61 8 [.vp 2000 0]),(2000,.bP g (.one 29 96 [.d Z,.d a1,.d (.raw G A.length 6),.d (dJ O),.d a4,.d a5])),(2002,.bP G (.arr 43 136 6 A.length W))] B) ?_ (k:=((A.length:Int) -0).toNat) ⟨0,A,ae,ae,rfl,hO,fun _ _=>rfl,(fun q _ _ h=>by omega),rfl,⟨rfl,rfl,rfl,trivial⟩,⟨rfl,rfl,rfl,trivial⟩⟩)) ?_
 ·rintro _ VE B fs⟨v9,W,f0,f1,hW,hO,hR,hD,rfl,hV,hB⟩
  by_cases lJ:v9<(A.length:Int)
  ·obtain⟨j,hj,kj⟩:=bD (z:=v9) (n:=A.length) f0 lJ;subst hj;simp only[yo] at hO;rw[vD (l:=I) (i:=j) al,vD (l:=A) (i:=j) kj] at hO;simp only[jg] at hO;obtain⟨l,cX,rfl,hc,hO'⟩:=hO;obtain⟨nm,v,v',k,k',f,f',c,c',x,x',er,er',cv,ck,cf,cc,hx⟩:=hc;have bS:I[j]?=some [nm,v,k,f,c,x]:=by rw[←er];exact dm _
   have Pl:W[j]?=some [nm,v',k',f',c',x']:=by rw[hR j (qA _),←er'];exact dm _
   have ag1:∀r',rG O L [nm,v,k,f,c,x] r'→(W.set j r').length=A.length∧(∀q:Nat,((j:Nat):Int)+1≤q→(W.set j r')[q]?=A[q]?)∧(∀(q:Nat)r Pm,(q:Int)<((j:Nat):Int)+1→I[q]?=some r→(W.set j r')[q]?=some Pm→rG O L r Pm):=fun r' n7=>by
    refine⟨by rw[lA];exact hW,fun q hq=>?_,fun q r Pm hq h1 h2=>?_⟩
    ·rw[T9 al];exact hR q al
    by_cases e:q=j
    ·subst e;rw[Ml al] at h2;rw[bS] at h1
     cases h1;cases h2;exact n7
    rw[T9 (fun k=>e k.symm)] at h2;exact hD q r Pm al h1 h2
   have Ec:=lu bQ bS;have JV:(Ty.l mv gb).ok x:=by
    obtain⟨_,_,e_,_,hr⟩:=dw Ec;cases e_;obtain⟨_,_,e_,_,hr⟩:=dw hr;cases e_;obtain⟨_,_,e_,_,hr⟩:=dw hr;cases e_;obtain⟨_,_,e_,_,hr⟩:=dw hr;cases e_;obtain⟨_,_,e_,_,hr⟩:=dw hr;cases e_;obtain⟨_,_,e_,h5,hr⟩:=dw hr;cases e_;exact h5
   obtain⟨M,wM,fY,sQ⟩:=Ty.aL JV;rcases hx with⟨rfl,rfl,rfl⟩|⟨w,gi,rfl,rfl,rfl⟩
   ·refine xk (R:=fun xx bh B' U=>U=cX∧(xx= .normal∧∃r',rG O L [nm,v,k,f,c,.nil] r'∧an [(1,.vp 1 0),(8,.d (dJ (A.length:Int))),(9,.d (dJ (((j:Nat):Int)+1)))] bh∧an [(1,.one 61 8 [.vp 2000 0]),(2000,.bP g (.one 29 96 [.d Z,.d a1,.d (.raw G A.length 6),.d (dJ O),.d a4,.d a5])),(2002,.bP G (.arr 43 136 6 A.length (W.set j r')))] B')) (oF ?_) ?_
    ·show VC T _ VE B _;refine aU _ _ hV hB (ew (c9 1 aa (ff (eu aa (decide_eq_true lJ) (lv (ff (kz (ew (c9 2 aa ?_)))))))));refine ew (eY 3 aa (aw (Kl aa aa aa ?_)));refine rO 15 (.bs 2002 A.length 6) aa (fun H X β a Y h=>Gy (Y 2002 G (.arr 43 136 6 A.length W) aa trivial) h) (eY 1 aa (aw (eL aa aa kj ?_)));refine c9 1 aa (i7 (eY 4 aa (aw (ZM (b:=2002) (rows:=W) aa aa (bf _) al kj Pl aa ?_))));refine eY 1 aa (aw (kD (di:=[dN,.fn 34 [.vp 1003 0]]) (Bi:=[(1004,.bP g (.one 29 96 [.d Z,.d a1,.d (.raw G A.length 6),.d (dJ O),.d a4,.d a5])),(1003,.one 61 8 [.vp 1004 0])]) [(1004,2000),(1003,1)] 3000 aa aa aa aa aa aa aa ⟨aa,aa,⟨aa,aa,trivial⟩⟩ (delN F) (fun r1 B1 Ca=>?_)));obtain⟨rfl,rfl⟩:=Ca;refine eY 2 aa (jd (aax (b:=2002) (rows:=W) hW aa aa aa aa aa aa ao ao Pl ?_));refine qs (i7 (aw (bx aa aa ae ae ?_)));exact c9 1 aa (⟨aa,aa,[nm,v',k',f',c',.nil],⟨nm,v,v',k,k',f,f',c,c',_,.nil,_,aa,aa,cv,ck,cf,cc,(.inr ⟨aa,aa⟩:au [] .nil),.inr ⟨aa,aa⟩⟩,⟨aa,aa,aa,trivial⟩,⟨aa,aa,aa,trivial⟩⟩)
    rintro xx bh B' U⟨rfl,rfl,r',Y,kV,kB⟩;obtain⟨s1,s2,s3⟩:=ag1 r' Y;exact je ⟨_,(by omega:((A.length:Int) -(((j:Nat):Int)+1)).toNat<_),((j:Nat):Int)+1,W.set j r',al,al,s1,(by rw[show(((j:Nat):Int)+1).toNat=j+1 by omega];exact hO'),s2,s3,rfl,kV,kB⟩
   obtain rfl:M=w:=au.uniq wM (.inl rfl);refine qu (nr _ _ hV hB (xf 2001 aa aa (je ?_)));refine xk (R:=fun xx bh B' U=>U=cX∧(xx= .normal∧∃r',rG O L [nm,v,k,f,c,.sl M] r'∧an [(1,.vp 1 0),(8,.d (dJ (A.length:Int))),(9,.d (dJ (((j:Nat):Int)+1)))] bh∧an [(1,.one 61 8 [.vp 2000 0]),(2000,.bP g (.one 29 96 [.d Z,.d a1,.d (.raw G A.length 6),.d (dJ O),.d a4,.d a5])),(2002,.bP G (.arr 43 136 6 A.length (W.set j r')))] B')) (oF ?_) ?_
   ·refine ew (c9 1 aa (ff (eu aa (decide_eq_true lJ) (lv (ff (kz (ew (c9 2 aa (ew ?_)))))))));refine eY 3 aa (aw (Kl aa aa aa ?_));refine rO 15 (.bs 2002 A.length 6) aa (fun H X β a Y h=>Gy (Y 2002 G (.arr 43 136 6 A.length W) aa trivial) h) (eY 1 aa (aw (eL aa aa kj ?_)));refine c9 1 aa (i7 (eY 4 aa (aw (ZM (b:=2002) (rows:=W) aa aa (bf _) al kj Pl aa ?_))));refine rO 22 (.bs 2001 M.length 6) aa (fun H X β a Y h=>Gy (Y 2001 gi (.arr 48 64 6 M.length M) aa trivial) h) (eY 1 aa (KJ 2001 aa (aw (kD (di:=[.bs 1001 M.length 6,.fn 34 [.vp 1003 0]]) (Bi:=[(1001,.arr 48 64 6 M.length M),(1004,.bP g (.one 29 96 [.d Z,.d a1,.d (.raw G A.length 6),.d (dJ O),.d a4,.d a5])),(1003,.one 61 8 [.vp 1004 0])]) [(1001,2001),(1004,2000),(1003,1)] 3000 aa aa aa aa aa aa aa ⟨aa,aa,⟨aa,aa,⟨aa,aa,trivial⟩⟩⟩ (delP F sQ ae cP bV oZ o0 dx eU dg) (fun r1 B1 Ca=>?_)))));obtain⟨y1,rfl,hy1,rfl⟩:=Ca;refine eY 2 aa (jd (aax (b:=2002) (rows:=W) hW aa aa aa aa aa aa ao ao Pl ?_));refine qs (i7 (aw (bx aa aa ae ae ?_)));exact c9 1 aa (⟨aa,aa,[nm,v',k',f',c',y1],⟨nm,v,v',k,k',f,f',c,c',_,y1,_,aa,aa,cv,ck,cf,cc,(.inl aa:au M (.sl M)),hy1⟩,⟨aa,aa,aa,trivial⟩,⟨aa,aa,aa,trivial⟩⟩)
   rintro xx bh B' U⟨rfl,rfl,r',Y,kV,kB⟩;obtain⟨s1,s2,s3⟩:=ag1 r' Y;exact je ⟨_,(by omega:((A.length:Int) -(((j:Nat):Int)+1)).toNat<_),((j:Nat):Int)+1,W.set j r',al,al,s1,(by rw[show(((j:Nat):Int)+1).toNat=j+1 by omega];exact hO'),s2,s3,rfl,kV,kB⟩
  refine oF (aU _ _ hV hB (ew (c9 1 aa (ff (dq aa (decide_eq_false lJ) (oj ?_))))));refine⟨rfl,W,?_,hW,⟨al,fun q r r' h1 h2=>hD q r r' (by have:=(List.getElem?_eq_some_iff.1 h1).1;omega) h1 h2⟩,⟨rfl,rfl,rfl,trivial⟩⟩;rw[No al,No al] at hO;exact hO
 rintro xx VE B fs⟨rfl,W,rfl,hW,hr,hB⟩;refine nr [] _ trivial hB (xg (t:=.one 29 96 [.d Z,.d a1,.d (.raw G A.length 6),.d (dJ O),.d a4,.d a5]) 2000 aa trivial (ov aa) aa (xg (t:=.arr 43 136 6 W.length W) 2002 aa trivial trivial aa (je ?_)));exact⟨[],rfl,trivial,W,hr,by rw[hW];rfl⟩
end Go.Ev.Rp
namespace Go.Ev.Rp
open Go Go.Ev.Pp
attribute [local irreducible] VC VO VQ VI Sound bY
theorem aco{T:aM}{VE:bb}{B:aK}{Q:VV→aK→Prop}{x y:aG}{k:IntKind}{a b:Int}(A:x.vv VE=some (.d (.i k a)))(G:y.vv VE=some (.d (.i k b)))(I:0≤a)(L:0<b)(M:∀z,z=a % b→0≤z→z<b→Q (.d (.i k z)) B):VI T (.bin .rem x y) VE B [] Q:=
 Rg A G (by rw[tm];exact decide_eq_false al) (by rw[T7 I];exact M _ rfl (Int.emod_nonneg _ al) (Int.emod_lt_of_pos _ L))
theorem cutA{w:ai}{p:List DC→Bool}{j:Nat}{v:List DC}(z:w[j]?=some v)(A:p v=true):(w.filter p)[((w.take j).filter p).length]?=some v:=by
 have e:w=w.take j++v::w.drop (j+1):=by
  have G:=(List.getElem?_eq_some_iff.1 z).1;rw[←(List.getElem?_eq_some_iff.1 z).2,←vD G,yn]
 conv=>lhs;lhs;rw[e]
 rw[Dk,qR (bf _),TY,vk A];rfl
theorem cutB{w:ai}{p:List DC→Bool}{j:Nat}{u v:List DC}(z:(w.map gv).Nodup)(G:w[j]?=some v)(I:p v=false)(A:(w.filter p)[((w.take j).filter p).length]?=some u):gv u≠gv v:=by
 have e:w=w.take j++v::w.drop (j+1):=by
  have L:=(List.getElem?_eq_some_iff.1 G).1;rw[←(List.getElem?_eq_some_iff.1 G).2,←vD L,yn]
 have A:((w.take j++v::w.drop (j+1)).filter p)[((w.take j).filter p).length]?=some u:=by rw[←e];exact A
 rw[Dk,qR (bf _),TY,AH (by simp[I])] at A;have M:u∈w.drop (j+1):=(List.mem_filter.1 (nJ A)).1;have z:((w.take j++v::w.drop (j+1)).map gv).Nodup:=by rw[←e];exact z
 rw[oO,jv] at z;have:=(List.nodup_cons.1 (List.nodup_append.1 z).2.1).1;exact fun h=>this (h▸agC M)
theorem ji.at{w:ai}{j:Nat}{a b c d:DC}{f g:Int}(h:ji w)(z:w[j]?=some [a,b,c,d,.i .i64 f,.i .i64 g]):0≤f∧f≤1000∧g≤1099511627776:=by
 obtain⟨f',g',A,h2,G⟩:=h.2 _ (nJ z)
 cases A;cases h2;exact G
theorem ji.of{w l:ai}{p:List DC→Bool}(h:ji w)(z:l=w.filter p):ji l:=z▸h.filter
def gq(k v:Int)(w:ai)(p:List DC→Bool):Prop:=k=(((w.take v.toNat).filter p).length:Nat)
theorem Sv{w:ai}{p:List DC→Bool}:gq 0 0 w p:=by simp[gq]
theorem gq.T{k v:Int}{w:ai}{p:List DC→Bool}{r:List DC}(h:gq k v w p)(h0:0≤v)(z:w[v.toNat]?=some r)(A:p r=true):gq (k+1) (v+1) w p:=by
 unfold gq at*;rw[show(v+1).toNat=v.toNat+1 by omega,oC,z,Dk,eT,Iu,vk A,List.filter_nil,agD];omega
theorem gq.F{k v:Int}{w:ai}{p:List DC→Bool}{r:List DC}(h:gq k v w p)(h0:0≤v)(z:w[v.toNat]?=some r)(A:p r=false):gq k (v+1) w p:=by
 unfold gq at*;rw[show(v+1).toNat=v.toNat+1 by omega,oC,z,Dk,eT,Iu,AH (by simp[A]),List.filter_nil,jK];omega
theorem gq.fin{k v:Int}{w l:ai}{p:List DC→Bool}(h:gq k v w p)(A:(w.length:Int)≤v)(z:l=w.filter p):k=(l.length:Nat):=by
 unfold gq at h;rw[pF al] at h;rw[h,z]
theorem gq.isT{k v:Int}{w l:ai}{p:List DC→Bool}{r u:List DC}(h:gq k v w p)(A:l=w.filter p)(G:ji w)(I:w[v.toNat]?=some r)(z:l[k.toNat]?=some u)(e:gv u=gv r):p r=true:=by
 cases L:p r with
 |true=>rfl
 |false=>
  subst A;unfold gq at h;rw[h,yo] at z;exact absurd e (cutB G.1 I L z)
theorem gq.isF{k v:Int}{w l:ai}{p:List DC→Bool}{r:List DC}(h:gq k v w p)(z:l=w.filter p)(A:w[v.toNat]?=some r)(G:∀u,l[k.toNat]?=some u→gv u≠gv r):p r=false:=by
 cases I:p r with
 |false=>rfl
 |true=>
  subst z;unfold gq at h;exact absurd rfl (G r (by rw[h,yo];exact cutA A I))
theorem pruned_at{n:Int}{z A W v v':ai}{j:Nat}{a b c d e x G I L M O y:DC}(h:kg (rG n z) A W)(U:A[j]?=some [a,b,c,d,e,x])(h2:W[j]?=some [G,I,L,M,O,y])(Y:au v x)(Z:au v' y):v'=v.filter (hY n z):=by
 obtain⟨_,_,_,_,_,_,_,_,_,x,y,w,e1,e2,_,_,_,_,k1,k2⟩:=h.2 j _ _ U h2
 cases e1;cases e2
 rw[Z.uniq k2,Y.uniq k1]
theorem keep_of{n:Int}{z l w:ai}{j:Nat}{r:List DC}{f g:Int}(A:l=w.filter (hY n z))(G:l[j]?=some r)(I:r[4]?=some (dJ f))(L:r[5]?=some (dJ g)):tF n z f g:=by
 subst A;have:=(List.mem_filter.1 (nJ G)).2;exact AG fun k=>by rw[Dz I L k] at this;cases this
def oa(k:Int)(w:ai)(f g:Int):Prop:=∀(q:Nat)(row:List DC)(a b:Int),(q:Int)<k→w[q]?=some row→row[1]?=some (dJ a)→row[2]?=some (dJ b)→¬(a<g∧f<b)
theorem UE{w:ai}{f g:Int}:oa 0 w f g:=fun q _ _ _ h=>by omega
theorem oa.step{k a b f g:Int}{w:ai}{row:List DC}(h:oa k w f g)(h0:0≤k)(I:w[k.toNat]?=some row)(L:row[1]?=some (dJ a))(h2:row[2]?=some (dJ b))(M:¬(a<g∧f<b)):oa (k+1) w f g:=fun q r c d U z A G=>by
 by_cases O:(q:Int)<k
 ·exact h q r c d O z A G
 have:q=k.toNat:=by omega
 subst this;rw[I] at z;cases z;rw[L] at A;cases A;rw[h2] at G;cases G;exact M
theorem oa.fin{n k f g:Int}{w:ai}(h:oa k w f g)(M:(w.length:Int)≤k)(z:tF n w f g)(h2:g≤n):False:=by
 rcases z with z|⟨q,row,a,b,A,G,I,L⟩
 ·omega
 have:=(List.getElem?_eq_some_iff.1 A).1;unfold fo at L;exact h q row a b al A G I al
theorem UF{now z f g t:Int}{w:ai}(h:VZ now z w t)(M:f≤t)(h2:t<g)(h0:0≤f)(A:g≤1099511627776):tF z w f g:=by
 rcases h.2.2 with k|⟨q,row,a,b,G,I,L,O⟩
 ·exact .inl ⟨al,h0,al,A⟩
 exact .inr ⟨q,row,a,b,G,I,L,by unfold fo at*;omega⟩
theorem Rt{T:aM}(F:FT T){Y Z a4 a5 a6 a7 a8 a9:DC}{aJ:Int}(iY:(-9223372036854775808)≤aJ)(ic:aJ≤9223372036854775807)(bV:(Ty.x).ok Y)(cG:(Ty.x).ok Z){aT:Int}(fV:(-9223372036854775808)≤aT)(fW:aT≤9223372036854775807){G:ai}(I:au G a4)(eU:G.length≤20)(L:af kH G)(cj:(Ty.x).ok a5)(M:tJ.ok a6)(fX:(Ty.x).ok a7)(O:tJ.ok a8)(U:tJ.ok a9){jj:Int}(la10:0≤jj)(ua10:jj≤1000){eD:Int}(Om:(-9223372036854775808)≤eD)(On:eD≤1099511627776)(JC:aT≤1000):Sound T 8 [.agg [.d (dJ aJ),.d Y,.d Z,.d (dJ aT),.d a4,.d a5],.agg [.d a6,.d a7,.d a8,.d a9,.d (dJ jj),.d (dJ eD)]] fun r=>∃y0,r=dB y0∧((y0=true→tF aT G jj eD)):=by
 refine bm F.q8 aa ?_;rcases M,O,U with⟨⟨bu,rfl,nP,nQ⟩,⟨gC,rfl,t6,t7⟩,⟨fQ,rfl,yH,yI⟩⟩
 refine r0 15 aa (bj [4,3,2,1,0] [3,2] aa aa (fun e0 b0 k VE B=>∃z,an ((5,.d (dJ z))::e0) VE∧an b0 B∧d9 k jj z eD) ?_ fin);rintro _ VE B⟨z,hV,hB,rfl,bU⟩;refine aU _ _ hV hB (rc 9 aa ?_);refine br aa ?_ ?_<;>intro g1
 ·refine ro 6 aa ?_;refine ay aa ?_ ?_<;>intro g2
  ·refine aA 7 aa (aB aa (retP (aJ:=aJ) (aT:=aT) (bu:=z) F ae ae bZ bZ ae ae I ae L bZ ae ae) ?_);rintro _ _⟨lh,rfl,A⟩;refine ro 1 aa ?_;refine cE aa ?_ ?_<;>intro h4
   ·have k4:=A.1 (by simpa using h4);refine eA 5 aa ?_;exact bL rfl rfl ⟨true,rfl,(by first|exact fun _=>UF (by assumption) ae ae ae ae|exact fun h=>.inl (by simp at h;omega))⟩
   have k4:¬_:=fun p=>absurd (A.2 p) (by simpa using h4)
   exact W
  refine eA 10 aa ?_;exact bL rfl rfl ⟨decide (eD=1099511627776),rfl,(by first|exact fun _=>UF (by assumption) ae ae ae ae|exact fun h=>.inl (by simp at h;omega))⟩
 refine ro 6 aa (dq aa aa (eA 10 aa ?_));exact bL rfl rfl ⟨decide (eD=1099511627776),rfl,(by first|exact fun _=>UF (by assumption) ae ae ae ae|exact fun h=>.inl (by simp at h;omega))⟩
end Go.Ev.Rp
namespace Go.Ev.Rp
open Go Go.Ev.Pp
theorem pruned_ok{I:Int}{U G W:ai}{nv mv:Nat}(h:kg (rG I U) G W)(Y:af (rW nv mv) G):af (rW nv mv) W:=fun r Z=>by
 obtain⟨q,hq,rfl⟩:=List.mem_iff_getElem.1 Z;have h0:G[q]?=some (G[q]'(by have:=h.1;omega)):=dm _;have h1:W[q]?=some W[q]:=dm hq;obtain⟨nm,v,v',kk,k',f,f',c,c',x,y,w,e,e',⟨w1,w2,m1,m2,m3,o1⟩,⟨w3,m4,m5⟩,⟨w4,m6,m7⟩,⟨w5,w6,m8,m9,L,o2⟩,M,O⟩:=h.2 q _ _ h0 h1;have z:=lu Y h0;rw[e] at z;rw[e'];obtain⟨_,_,A,p1,z⟩:=dw z;cases A;obtain⟨_,_,A,p2,z⟩:=dw z;cases A;obtain⟨_,_,A,p3,z⟩:=dw z;cases A;obtain⟨_,_,A,p4,z⟩:=dw z;cases A;obtain⟨_,_,A,p5,z⟩:=dw z;cases A;obtain⟨_,_,A,p6,z⟩:=dw z;cases A;obtain⟨u2,i2,l2,_⟩:=Ty.aL p2;obtain rfl:=au.uniq i2 m1;obtain⟨u3,i3,l3,r3⟩:=Ty.aL p3;obtain rfl:=au.uniq i3 m4;obtain⟨u4,i4,l4,r4⟩:=Ty.aL p4;obtain rfl:=au.uniq i4 m6;obtain⟨u5,i5,l5,_⟩:=Ty.aL p5;obtain rfl:=au.uniq i5 m8;obtain⟨u6,i6,l6,r6⟩:=Ty.aL p6;obtain rfl:=au.uniq i6 M;exact ah p1 (ah (aL m2 (by have:=m3.1;omega) o1) (ah (aL m5 l3 r3) (ah (aL m7 l4 r4) (ah (aL m9 (by have:=L.1;omega) o2) (ah (aL O (eO (agv _ _) l6) (aav r6)) bl)))))
end Go.Ev.Rp
namespace Go.Ev.Rp
open Go Go.Ev.Pp
theorem pruneD0{T:aM}(F:FT T){g:Nat}{z A G I L:DC}:Gx T 15 [.k (.ptr g 1 0)] [(g,.one 29 96 [.d z,.d A,dN,.d G,.d I,.d L])] fun r fs=>fs=[(g,.one 29 96 [.d z,.d A,dN,.d G,.d I,.d L])]:=by
 refine Qt F.q15 aa (qu (xf 2000 aa aa (Cv (k:=0) (v':=.vp 2000 0) aa (fun H X β a O h=>LD (O 2000 g (.one 29 96 [.d z,.d A,dN,.d G,.d I,.d L]) aa trivial) h) (je ?_))));refine xk (R:=fun x VE B fs=>fs=[]∧x= .normal∧an [(2000,.bP g (.one 29 96 [.d z,.d A,dN,.d G,.d I,.d L]))] B) (oF ?_) ?_
 ·refine ew (c9 1 aa (ew (eY 3 aa (aw (Kl aa aa aa ?_)))));refine aw (zT aa ?_);refine c9 1 aa (kz (FC [9,8] [2000] aa aa (fun e0 U k VE B=>k=0∧an e0 VE∧an U B) ?_ (k:=0) ⟨aa,⟨aa,aa,trivial⟩,⟨aa,trivial⟩⟩));rintro _ VE B⟨rfl,Y,M⟩;exact aU _ _ Y M (ew (c9 1 aa (ff (dq aa aa (oj (⟨aa,aa,⟨aa,trivial⟩⟩))))))
 rintro x VE B fs⟨rfl,rfl,M⟩;refine nr [] _ trivial M (xg (t:=.one 29 96 [.d z,.d A,dN,.d G,.d I,.d L]) 2000 aa trivial (ov aa) aa (je ?_));exact⟨[],aa,trivial,aa⟩
end Go.Ev.Rp
namespace Go.Ev.Rp
open Go Go.Ev.Pp
attribute [local irreducible] VC VO VQ VI Sound bY
end Go.Ev.Rp
namespace Go.Ev.Rp
open Go Go.Ev.Pp
attribute [local irreducible] VC VO VQ VI Sound bY
end Go.Ev.Rp
